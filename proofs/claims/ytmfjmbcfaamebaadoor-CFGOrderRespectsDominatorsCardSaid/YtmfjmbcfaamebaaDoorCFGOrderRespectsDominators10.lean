/- Parts of the proof of the law CFGOrderRespectsDominators: words, walks of single functions and plain laws, joined by a program out of the session's texts. -/
import Derived.Test.YtmfjmbcfaamebaaDoorCFGOrderRespectsDominators9
import Derived.Lib.Hide
import Derived.Laws.BitsAllLaws
set_option linter.unusedVariables false
set_option linter.unusedSimpArgs false
namespace Go.Proofs.YtmfjmbcfaamebaaDoor.X
open Go.RowKit Go.Proofs.YtmfjmbcfaamebaaDoorW.PrintWords Go.Proofs.YtmfjmbcfaamebaaDoorW.PrintLast Go.Proofs.YtmfjmbcfaamebaaDoorW.PrintMore
attribute [local go_sem] qbo qca
set_option linter.unusedVariables false
set_option linter.unusedSimpArgs false
def qaq.l0:Nat→Int→List (S60)→Int→Int→Bool→Int→List (S60)→Option (Bool)
 | 0,_,_,_,_,_,_,_=>none
 | k+1,x3,x7,x8,x9,x383000,x383001,x383002=>if x9<x8 then (if 0≤x9 then (if x9<(x7.length:Int) then (qaq.l0 k (wrap64 (x3+(((qbk x7 x9).f0).length:Int))) x7 x8 (wrap64 (x9+1)) x383000 x383001 x383002) else (none)) else (none)) else (if (x383002.length:Int)≤14 then (some (decide (x3≤80))) else (some false))
def qaq.f (k:Nat) (a0_0:Bool) (a0_1:Int) (l0_2:List (S60)):Option (Bool):=qaq.l0 k 0 l0_2 (l0_2.length:Int) 0 a0_0 a0_1 l0_2
theorem qaq.mono_l:∀ k,(∀ y0 y1 y2 y3 y4 y5 y6,LeO (qaq.l0 k y0 y1 y2 y3 y4 y5 y6) (qaq.l0 (k+1) y0 y1 y2 y3 y4 y5 y6))
 | 0=>fun _ _ _ _ _ _ _ r h=>by simp [qaq.l0] at h
 | k+1=>by
  have ih0:=qaq.mono_l k
  ·intro y0 y1 y2 y3 y4 y5 y6
   unfold qaq.l0
   repeat' first|(with_reducible exact ih0 _ _ _ _ _ _ _)|(with_reducible exact LeO.refl _)|(with_reducible refine LeO.ite ?_ ?_)
theorem qaq.mono:∀ a0 a1 a2 k,LeO (qaq.f k a0 a1 a2) (qaq.f (k+1) a0 a1 a2):=by
 intro a0 a1 a2 k
 have ih0:=qaq.mono_l k
 unfold qaq.f
 repeat' (with_reducible exact ih0 _ _ _ _ _ _ _)
set_option maxHeartbeats 8000000 in
set_option maxRecDepth 100000 in
theorem qaq.calls (k:Nat) (a0_0:Bool) (a0_1:Int) (A0_2:Option Addr) (c0_2:Nat) (l0_2:List (S60)) (r:Bool) (w:World) (hr0_2:Kd.C k60 w A0_2 l0_2.length l0_2) (hc0_2:l0_2.length≤c0_2) (h:qaq.f k a0_0 a0_1 l0_2=some r) :
  Calls Tryd.prog 12 #[.agg #[.bool a0_0,.int .i64 a0_1,.slice A0_2 l0_2.length c0_2]] w fun e w'=>e=.returned (.bool r)∧Below w.heap.size w w':=by
 have hu24:=Tryd.underlying24
 have hu60:=Tryd.underlying60
 have HR0_2:=qaa.mk hr0_2
 have HC0_2:=qaa.mk hc0_2
 clear hr0_2 hc0_2
 have HB:=qaa.mk (Below.refl w.heap.size w)
 have H:(qaq.l0 k 0 l0_2 (l0_2.length:Int) 0 a0_0 a0_1 l0_2)=some r:=h
 clear h
 have H':=qaa.mk H
 clear H
 go_enter Tryd.func12,Tryd.ntmps12
 go_wp2_with (((with_reducible refine qbm (N:=1) rfl ?_);refine qbv ?hg (N:=1) ?hd (cs:=#[.bool a0_0,.int .i64 a0_1,.slice A0_2 l0_2.length c0_2]) (t:=24) ?hr ?_;(case hd=>rfl);(case hg=>rfl);(case hr=>(go_simp;done));intro gb382 hg w2 hbox hb;have BK382:=qaa.mk (hbox);have GW382:=qaa.mk ((by rw [hg];exact (qad HB.out):w.heap.size≤gb382));have GE382:=qaa.mk ((by rw [hg];exact (qad HB.out):w.heap.size≤gb382));replace HB:=qaa.mk (qan HB.out hb);clear hb hbox hg;have hcz3_0:w2.cell? ⟨gb382,0,none⟩=some (.bool a0_0):=(qae BK382.out 0).trans rfl;have hcz3_1:w2.cell? ⟨gb382,1,none⟩=some (.int .i64 a0_1):=(qae BK382.out 1).trans rfl;have hcz3_2:w2.cell? ⟨gb382,2,none⟩=some (.slice A0_2 l0_2.length c0_2):=(qae BK382.out 2).trans rfl;have hfz3_0:=qah BK382.out 0;have hfz3_1:=qah BK382.out 1;have hfz3_2:=qah BK382.out 2))
 go_loopg [3,9] k (fun kq v3 v9 w'=>∃ (x3_1:Int) (x9_1:Int),v3=.int .i64 x3_1∧v9=.int .i64 x9_1∧qaa (qaq.l0 kq x3_1 l0_2 (l0_2.length:Int) x9_1 a0_0 a0_1 l0_2=some r)∧qaa (kq≤k)∧qaa (w'.heap[gb382]?=some (.cells #[.bool a0_0,.int .i64 a0_1,(.slice A0_2 l0_2.length c0_2)] 24 (0,0)))∧qaa (Below w.heap.size w w'))
 case atStart=>exact ⟨(0),(0),(by rfl),(by rfl),H',⟨Nat.le_refl _⟩,⟨by (with_reducible repeat (refine qac ?_));exact BK382.out⟩,⟨by repeat ((with_reducible exact HB.out))⟩⟩
 case round=>
  clear H'
  try clear hcz3_0
  try clear hcz3_1
  try clear hcz3_2
  try clear hfz3_0
  try clear hfz3_1
  try clear hfz3_2
  obtain ⟨x3_1,x9_1,rfl,rfl,HA,HK1,BK382,HB⟩:=hrel
  cases gk with
  | zero=>exact absurd HA.out (by simp [qaq.l0])
  | succ k1=>
   have H:=HA.out
   clear HA
   simp only [qaq.l0] at H
   by_cases c4:x9_1<(l0_2.length:Int)
   ·rw [if_pos c4] at H
    have c4b0:decide (x9_1<(l0_2.length:Int))=true:=decide_eq_true c4
    clear c4
    by_cases c5:0≤x9_1
    ·rw [if_pos c5] at H
     have c5b0:decide (0≤x9_1)=true:=decide_eq_true c5
     clear c5
     by_cases c6:x9_1<(l0_2.length:Int)
     ·rw [if_pos c6] at H
      have c6b0:decide (x9_1<(l0_2.length:Int))=true:=decide_eq_true c6
      clear c6
      have H':=qaa.mk H
      clear H
      have p383:0≤(x9_1:Int):=of_decide_eq_true (by (with_reducible assumption))
      have q383:x9_1<(l0_2.length:Int):=of_decide_eq_true (by (with_reducible assumption))
      obtain ⟨ad383,A383_0,c383_0,e383,hx383_0,hx383_1,hx383_2,hx383_3,hx383_4,hl383_0,hi383_0⟩:=at_T60 HR0_2.out x9_1 p383 q383
      cases e383
      replace hx383_0:=(HB.out.cell (World.block_lt_of_cell? w _ hx383_0)).trans hx383_0
      replace hx383_1:=(HB.out.cell (World.block_lt_of_cell? w _ hx383_1)).trans hx383_1
      replace hx383_2:=(HB.out.cell (World.block_lt_of_cell? w _ hx383_2)).trans hx383_2
      replace hx383_3:=(HB.out.cell (World.block_lt_of_cell? w _ hx383_3)).trans hx383_3
      replace hx383_4:=(HB.out.cell (World.block_lt_of_cell? w _ hx383_4)).trans hx383_4
      have HR383_0:=qaa.mk hi383_0
      have HC383_0:=qaa.mk hl383_0
      clear hi383_0 hl383_0
      replace p383:=eq_true p383
      replace q383:=eq_true q383
      go_wp2_with (((with_reducible refine qbm (N:=5) rfl ?_);refine qbv ?hg (N:=5) ?hd (cs:=#[.slice none 0 0,.int .i64 0,.int .i64 0,.int .i64 0,.int .i64 0]) (t:=60) ?hr ?_;(case hd=>rfl);(case hg=>rfl);(case hr=>(go_simp;done));intro gb384 hg w7 hbox hb;have BK384:=qaa.mk (hbox);have GW384:=qaa.mk ((by rw [hg];exact (qad HB.out):w.heap.size≤gb384));have GE384:=qaa.mk ((by rw [hg];exact (qad HB.out):w.heap.size≤gb384));replace HB:=qaa.mk (qan HB.out hb);have NB382_384:=qaa.mk ((by rw [hg];exact Nat.ne_of_lt (qbl (g:=gb382) (o:=.cells #[.bool a0_0,.int .i64 a0_1,.slice (some ad383) l0_2.length c0_2] 24 (0,0)) (by (with_reducible repeat (refine qac ?_));exact BK382.out)):gb382≠gb384));have NB384_382:=qaa.mk ((by rw [hg];exact Nat.ne_of_gt (qbl (g:=gb382) (o:=.cells #[.bool a0_0,.int .i64 a0_1,.slice (some ad383) l0_2.length c0_2] 24 (0,0)) (by (with_reducible repeat (refine qac ?_));exact BK382.out)):gb384≠gb382));replace BK382:=qaa.mk (qaf (g:=gb382) (o:=.cells #[.bool a0_0,.int .i64 a0_1,.slice (some ad383) l0_2.length c0_2] 24 (0,0)) (by (with_reducible repeat (refine qac ?_));exact BK382.out) hb);clear hb hbox hg;have hnb8:=NB384_382.out;have hnc8:=NB382_384.out;have hcz9_0:w7.cell? ⟨gb384,0,none⟩=some (.slice none 0 0):=(qae BK384.out 0).trans rfl;have hcz9_1:w7.cell? ⟨gb384,1,none⟩=some (.int .i64 0):=(qae BK384.out 1).trans rfl;have hcz9_2:w7.cell? ⟨gb384,2,none⟩=some (.int .i64 0):=(qae BK384.out 2).trans rfl;have hcz9_3:w7.cell? ⟨gb384,3,none⟩=some (.int .i64 0):=(qae BK384.out 3).trans rfl;have hcz9_4:w7.cell? ⟨gb384,4,none⟩=some (.int .i64 0):=(qae BK384.out 4).trans rfl;have hfz9_0:=qah BK384.out 0;have hfz9_1:=qah BK384.out 1;have hfz9_2:=qah BK384.out 2;have hfz9_3:=qah BK384.out 3;have hfz9_4:=qah BK384.out 4))
      go_roundg k1
      case measure=>have:=HK1.out;omega
      case rel=>exact ⟨(wrap64 (x3_1+(((qbk l0_2 x9_1).f0).length:Int))),(wrap64 (x9_1+1)),(by rfl),(by rfl),H',⟨by have:=HK1.out;omega⟩,⟨by (with_reducible repeat (refine qac ?_));refine qdl ?_ NB382_384.out _;(with_reducible repeat (refine qac ?_));refine qdl ?_ NB382_384.out _;(with_reducible repeat (refine qac ?_));refine qdl ?_ NB382_384.out _;(with_reducible repeat (refine qac ?_));refine qdl ?_ NB382_384.out _;(with_reducible repeat (refine qac ?_));refine qdl ?_ NB382_384.out _;(with_reducible repeat (refine qac ?_));exact BK382.out⟩,⟨by repeat ((with_reducible first|exact HB.out|refine qcd ?_ GE384.out))⟩⟩
     ·rw [if_neg c6] at H
      exact absurd H (by simp)
    ·rw [if_neg c5] at H
     exact absurd H (by simp)
   ·rw [if_neg c4] at H
    have c4b0:decide (x9_1<(l0_2.length:Int))=false:=decide_eq_false c4
    clear c4
    by_cases c10:(l0_2.length:Int)≤14
    ·rw [if_pos c10] at H
     have c10b0:decide ((l0_2.length:Int)≤14)=true:=decide_eq_true c10
     have c10b1:decide (l0_2.length≤14)=true:=decide_eq_true (by omega)
     clear c10
     obtain rfl:=Option.some.inj H
     have hcz11_0:wr.cell? ⟨gb382,0,none⟩=some (.bool a0_0):=(qae BK382.out 0).trans rfl
     have hcz11_1:wr.cell? ⟨gb382,1,none⟩=some (.int .i64 a0_1):=(qae BK382.out 1).trans rfl
     have hcz11_2:wr.cell? ⟨gb382,2,none⟩=some (.slice A0_2 l0_2.length c0_2):=(qae BK382.out 2).trans rfl
     have hfz11_0:=qah BK382.out 0
     have hfz11_1:=qah BK382.out 1
     have hfz11_2:=qah BK382.out 2
     go_wp2
     go_ret
     exact ⟨by rfl,by repeat ((with_reducible exact HB.out))⟩
    ·rw [if_neg c10] at H
     have c10b0:decide ((l0_2.length:Int)≤14)=false:=decide_eq_false c10
     have c10b1:decide (l0_2.length≤14)=false:=decide_eq_false (by omega)
     clear c10
     obtain rfl:=Option.some.inj H
     have hcz12_0:wr.cell? ⟨gb382,0,none⟩=some (.bool a0_0):=(qae BK382.out 0).trans rfl
     have hcz12_1:wr.cell? ⟨gb382,1,none⟩=some (.int .i64 a0_1):=(qae BK382.out 1).trans rfl
     have hcz12_2:wr.cell? ⟨gb382,2,none⟩=some (.slice A0_2 l0_2.length c0_2):=(qae BK382.out 2).trans rfl
     have hfz12_0:=qah BK382.out 0
     have hfz12_1:=qah BK382.out 1
     have hfz12_2:=qah BK382.out 2
     go_wp2
     go_ret
     exact ⟨by rfl,by repeat ((with_reducible exact HB.out))⟩
end Go.Proofs.YtmfjmbcfaamebaaDoor.X
namespace Go.Proofs.YtmfjmbcfaamebaaDoor.X
noncomputable section
open Go.RowKit Go.Proofs.YtmfjmbcfaamebaaDoorW.PrintWords Go.Proofs.YtmfjmbcfaamebaaDoorW.PrintLast Go.Proofs.YtmfjmbcfaamebaaDoorW.PrintMore
attribute [local go_sem] qbo qca
set_option linter.unusedVariables false
set_option linter.unusedSimpArgs false
mutual
def qab.j0:Nat→List Int→List Int→Bool→Bool→Int→List (S60)→Option (Bool)
 | 0,_,_,_,_,_,_=>none
 | k+1,x3,x4,x31,x547000,x547001,x547002=>if x31=true then (some false) else (if 0≤(x547002.length:Int) then (if ((x547002.length:Int):Int).toNat≤281474976710656 then (qab.l0 k x4 (List.replicate ((x547002.length:Int):Int).toNat false) x3 (x3.length:Int) 0) else (none)) else (none))
def qab.l0:Nat→List Int→List Bool→List Int→Int→Int→Option (Bool)
 | 0,_,_,_,_,_=>none
 | k+1,x4,x5,x36,x37,x38=>if x38<x37 then (if 0≤x38 then (if x38<(x36.length:Int) then (if (rd x36 x38)<0 then (qab.j2 k x4 x5 x38 (rd x36 x38) x36 x37 x38 true) else (if (rd x36 x38)≥(x5.length:Int) then (qab.j2 k x4 x5 x38 (rd x36 x38) x36 x37 x38 true) else (if 0≤(rd x36 x38) then (if (rd x36 x38)<(x5.length:Int) then (if rdOf false x5 (rd x36 x38)=true then (qab.j2 k x4 x5 x38 (rd x36 x38) x36 x37 x38 true) else (qab.j2 k x4 x5 x38 (rd x36 x38) x36 x37 x38 ((x38==0)!=((rd x36 x38)==0)))) else (none)) else (none)))) else (none)) else (none)) else (some true)
def qab.j2:Nat→List Int→List Bool→Int→Int→List Int→Int→Int→Bool→Option (Bool)
 | 0,_,_,_,_,_,_,_,_=>none
 | k+1,x4,x5,x6,x7,x36,x37,x38,x63=>if x63=true then (some false) else (if 0≤x7 then (if x7<(x4.length:Int) then (if x6>0 then (if (rd x4 x7)<0 then (some false) else (if (rd x4 x7)≥(x5.length:Int) then (some false) else (if 0≤(rd x4 x7) then (if (rd x4 x7)<(x5.length:Int) then (if (rdOf false x5 (rd x4 x7)=true) then (if x7<(x5.length:Int) then (qab.l0 k x4 (x5.set (x7:Int).toNat true) x36 x37 (wrap64 (x38+1))) else (none)) else (some false)) else (none)) else (none)))) else (if x7<(x5.length:Int) then (qab.l0 k x4 (x5.set (x7:Int).toNat true) x36 x37 (wrap64 (x38+1))) else (none))) else (none)) else (none))
end
def qab.f (k:Nat) (a0_0:Bool) (a0_1:Int) (l0_2:List (S60)):Option (Bool):=(qbd.f k).bind fun t547=>(if t547=true then ((qaq.f k a0_0 a0_1 l0_2).bind fun t548=>(if t548=true then ((qcs.f k a0_0 a0_1 l0_2).bind fun t549=>((qba.f a0_0 a0_1 l0_2).bind fun t552=>(if (t552.length:Int)=(l0_2.length:Int) then ((qbr.f k a0_0 a0_1 l0_2 0).bind fun t555=>((qax.f k t555).bind fun t558=>(qab.j0 k t549 t552 ((t549.length:Int)!=t558) a0_0 a0_1 l0_2))) else (qab.j0 k t549 t552 true a0_0 a0_1 l0_2)))) else (some true))) else (some false))
theorem qab.mono_l:∀ k,(∀ y0 y1 y2 y3 y4 y5,LeO (qab.j0 k y0 y1 y2 y3 y4 y5) (qab.j0 (k+1) y0 y1 y2 y3 y4 y5))∧(∀ y0 y1 y2 y3 y4,LeO (qab.l0 k y0 y1 y2 y3 y4) (qab.l0 (k+1) y0 y1 y2 y3 y4))∧(∀ y0 y1 y2 y3 y4 y5 y6 y7,LeO (qab.j2 k y0 y1 y2 y3 y4 y5 y6 y7) (qab.j2 (k+1) y0 y1 y2 y3 y4 y5 y6 y7))
 | 0=>⟨fun _ _ _ _ _ _ r h=>by simp [qab.j0] at h,fun _ _ _ _ _ r h=>by simp [qab.l0] at h,fun _ _ _ _ _ _ _ _ r h=>by simp [qab.j2] at h⟩
 | k+1=>by
  obtain ⟨ih0,ih1,ih2⟩:=qab.mono_l k
  refine ⟨?_,?_,?_⟩
  ·intro y0 y1 y2 y3 y4 y5
   unfold qab.j0
   repeat' first|(with_reducible exact ih1 _ _ _ _ _)|(with_reducible exact LeO.refl _)|(with_reducible refine LeO.ite ?_ ?_)
  ·intro y0 y1 y2 y3 y4
   unfold qab.l0
   repeat' first|(with_reducible exact ih2 _ _ _ _ _ _ _ _)|(with_reducible exact LeO.refl _)|(with_reducible refine LeO.ite ?_ ?_)
  ·intro y0 y1 y2 y3 y4 y5 y6 y7
   unfold qab.j2
   repeat' first|(with_reducible exact ih1 _ _ _ _ _)|(with_reducible exact LeO.refl _)|(with_reducible refine LeO.ite ?_ ?_)
theorem qab.mono:∀ a0 a1 a2 k,LeO (qab.f k a0 a1 a2) (qab.f (k+1) a0 a1 a2):=by
 intro a0 a1 a2 k
 obtain ⟨ih0,ih1,ih2⟩:=qab.mono_l k
 unfold qab.f
 repeat' first|(with_reducible exact ih0 _ _ _ _ _ _)|(with_reducible exact qax.mono _ _)|(with_reducible exact qcs.mono _ _ _ _)|(with_reducible exact qbr.mono _ _ _ _ _)|(with_reducible exact qbd.mono _)|(with_reducible exact qaq.mono _ _ _ _)|(with_reducible exact LeO.refl _)|(with_reducible refine LeO.ite ?_ ?_)|(with_reducible refine LeO.bind ?_ (fun _=>?_))
set_option maxHeartbeats 8000000 in
set_option maxRecDepth 100000 in
theorem qab.calls (k:Nat) (a0_0:Bool) (a0_1:Int) (A0_2:Option Addr) (c0_2:Nat) (l0_2:List (S60)) (r:Bool) (w:World) (hT:TabW w) (hr0_2:Kd.C k60 w A0_2 l0_2.length l0_2) (hc0_2:l0_2.length≤c0_2) (h:qab.f k a0_0 a0_1 l0_2=some r) :
  Calls Tryd.prog 7 #[.agg #[.bool a0_0,.int .i64 a0_1,.slice A0_2 l0_2.length c0_2]] w fun e w'=>e=.returned (.bool r)∧Below w.heap.size w w':=by
 have hu24:=Tryd.underlying24
 have HR0_2:=qaa.mk hr0_2
 have HC0_2:=qaa.mk hc0_2
 clear hr0_2 hc0_2
 have HTB:=qaa.mk hT
 clear hT
 have HB:=qaa.mk (Below.refl w.heap.size w)
 have H:((qbd.f k).bind fun t547=>(if t547=true then ((qaq.f k a0_0 a0_1 l0_2).bind fun t548=>(if t548=true then ((qcs.f k a0_0 a0_1 l0_2).bind fun t549=>((qba.f a0_0 a0_1 l0_2).bind fun t552=>(if (t552.length:Int)=(l0_2.length:Int) then ((qbr.f k a0_0 a0_1 l0_2 0).bind fun t555=>((qax.f k t555).bind fun t558=>(qab.j0 k t549 t552 ((t549.length:Int)!=t558) a0_0 a0_1 l0_2))) else (qab.j0 k t549 t552 true a0_0 a0_1 l0_2)))) else (some true))) else (some false)))=some r:=h
 clear h
 replace H:=Option.bind_eq_some_iff.mp H
 obtain ⟨t547,A20,H⟩:=H
 replace H:(if t547=true then ((qaq.f k a0_0 a0_1 l0_2).bind fun t548=>(if t548=true then ((qcs.f k a0_0 a0_1 l0_2).bind fun t549=>((qba.f a0_0 a0_1 l0_2).bind fun t552=>(if (t552.length:Int)=(l0_2.length:Int) then ((qbr.f k a0_0 a0_1 l0_2 0).bind fun t555=>((qax.f k t555).bind fun t558=>(qab.j0 k t549 t552 ((t549.length:Int)!=t558) a0_0 a0_1 l0_2))) else (qab.j0 k t549 t552 true a0_0 a0_1 l0_2)))) else (some true))) else (some false))=some r:=H
 have A2:=qaa.mk A20
 clear A20
 by_cases c3:t547=true
 ·subst c3
  have H1:((qaq.f k a0_0 a0_1 l0_2).bind fun t548=>(if t548=true then ((qcs.f k a0_0 a0_1 l0_2).bind fun t549=>((qba.f a0_0 a0_1 l0_2).bind fun t552=>(if (t552.length:Int)=(l0_2.length:Int) then ((qbr.f k a0_0 a0_1 l0_2 0).bind fun t555=>((qax.f k t555).bind fun t558=>(qab.j0 k t549 t552 ((t549.length:Int)!=t558) a0_0 a0_1 l0_2))) else (qab.j0 k t549 t552 true a0_0 a0_1 l0_2)))) else (some true)))=some r:=by rw [if_pos rfl] at H;exact H
  clear H
  have H:=H1
  clear H1
  replace H:=Option.bind_eq_some_iff.mp H
  obtain ⟨t548,A40,H⟩:=H
  replace H:(if t548=true then ((qcs.f k a0_0 a0_1 l0_2).bind fun t549=>((qba.f a0_0 a0_1 l0_2).bind fun t552=>(if (t552.length:Int)=(l0_2.length:Int) then ((qbr.f k a0_0 a0_1 l0_2 0).bind fun t555=>((qax.f k t555).bind fun t558=>(qab.j0 k t549 t552 ((t549.length:Int)!=t558) a0_0 a0_1 l0_2))) else (qab.j0 k t549 t552 true a0_0 a0_1 l0_2)))) else (some true))=some r:=H
  have A4:=qaa.mk A40
  clear A40
  by_cases c5:t548=true
  ·subst c5
   have H1:((qcs.f k a0_0 a0_1 l0_2).bind fun t549=>((qba.f a0_0 a0_1 l0_2).bind fun t552=>(if (t552.length:Int)=(l0_2.length:Int) then ((qbr.f k a0_0 a0_1 l0_2 0).bind fun t555=>((qax.f k t555).bind fun t558=>(qab.j0 k t549 t552 ((t549.length:Int)!=t558) a0_0 a0_1 l0_2))) else (qab.j0 k t549 t552 true a0_0 a0_1 l0_2))))=some r:=by rw [if_pos rfl] at H;exact H
   clear H
   have H:=H1
   clear H1
   replace H:=Option.bind_eq_some_iff.mp H
   obtain ⟨t549,A60,H⟩:=H
   replace H:((qba.f a0_0 a0_1 l0_2).bind fun t552=>(if (t552.length:Int)=(l0_2.length:Int) then ((qbr.f k a0_0 a0_1 l0_2 0).bind fun t555=>((qax.f k t555).bind fun t558=>(qab.j0 k t549 t552 ((t549.length:Int)!=t558) a0_0 a0_1 l0_2))) else (qab.j0 k t549 t552 true a0_0 a0_1 l0_2)))=some r:=H
   have A6:=qaa.mk A60
   clear A60
   replace H:=Option.bind_eq_some_iff.mp H
   obtain ⟨t552,A70,H⟩:=H
   replace H:(if (t552.length:Int)=(l0_2.length:Int) then ((qbr.f k a0_0 a0_1 l0_2 0).bind fun t555=>((qax.f k t555).bind fun t558=>(qab.j0 k t549 t552 ((t549.length:Int)!=t558) a0_0 a0_1 l0_2))) else (qab.j0 k t549 t552 true a0_0 a0_1 l0_2))=some r:=H
   have A7:=qaa.mk A70
   clear A70
   have HC8:=qaa.mk H
   clear H
   go_enter Tryd.func7,Tryd.ntmps7
   try go_wp2_with (first|((with_reducible refine qbm (N:=1) rfl ?_);(try (refine qcr (by rfl) ?_;dsimp only));refine qbv ?hg (N:=1) ?hd (cs:=#[.bool a0_0,.int .i64 a0_1,.slice A0_2 l0_2.length c0_2]) (t:=24) ?hr ?_;(case hd=>rfl);(case hg=>rfl);(case hr=>(go_simp;done));intro gb546 hg w9 hbox hb;have BK546:=qaa.mk (hbox);have GW546:=qaa.mk ((by rw [hg];exact (qad HB.out):w.heap.size≤gb546));have GE546:=qaa.mk ((by rw [hg];exact (qad HB.out):w.heap.size≤gb546));replace HB:=qaa.mk (qan HB.out hb);clear hb hbox hg)|((with_reducible refine qbq (f:=11) rfl ?_);refine qdj (some 9) rfl rfl Tryd.func11 (by kernel_rfl) rfl #[] rfl (by (try simp only [List.map_toArray,List.map_cons,List.map_nil]);done) ?_;(with_reducible refine (qbd.calls k  true _ ?side1 A2.out).mono ?_);(case side1=>exact TabW.below' HTB.out HB.out);rintro e w10 ⟨rfl,hb⟩;refine ⟨_,rfl,?_⟩;replace BK546:=qaa.mk (qaf (g:=gb546) (o:=.cells #[.bool a0_0,.int .i64 a0_1,.slice A0_2 l0_2.length c0_2] 24 (0,0)) (by (with_reducible repeat (refine qac ?_));exact BK546.out) hb);replace HB:=qaa.mk (qan HB.out hb);(try clear hb);have hcz11_0:w10.cell? ⟨gb546,0,none⟩=some (.bool a0_0):=(qae BK546.out 0).trans rfl;have hcz11_1:w10.cell? ⟨gb546,1,none⟩=some (.int .i64 a0_1):=(qae BK546.out 1).trans rfl;have hcz11_2:w10.cell? ⟨gb546,2,none⟩=some (.slice A0_2 l0_2.length c0_2):=(qae BK546.out 2).trans rfl;have hfz11_0:=qah BK546.out 0;have hfz11_1:=qah BK546.out 1;have hfz11_2:=qah BK546.out 2)|((with_reducible refine qbq (f:=12) rfl ?_);refine qdj (some 12) rfl rfl Tryd.func12 (by kernel_rfl) rfl #[.agg #[.bool a0_0,.int .i64 a0_1,.slice A0_2 l0_2.length c0_2]] rfl (by (try simp only [List.map_toArray,List.map_cons,List.map_nil]);rfl) ?_;(with_reducible refine (qaq.calls k a0_0 a0_1 _ _ l0_2 true _ ?side1 ?side2 A4.out).mono ?_);(case side1=>repeat (exact (Kd.C_below HR0_2.out HB.out)));(case side2=>exact HC0_2.out);rintro e w12 ⟨rfl,hb⟩;refine ⟨_,rfl,?_⟩;replace BK546:=qaa.mk (qaf (g:=gb546) (o:=.cells #[.bool a0_0,.int .i64 a0_1,.slice A0_2 l0_2.length c0_2] 24 (0,0)) (by (with_reducible repeat (refine qac ?_));exact BK546.out) hb);replace HB:=qaa.mk (qan HB.out hb);(try clear hb)))
   have n0_:=qaa.mk (qac BK546.out)
   have n1_:=qaa.mk (qdp HB.out)
   clear BK546
   clear HB
   have BK546:=n0_
   have HB:=n1_
   clear n0_ n1_
   refine qfu (n:=6) (S:=fun w'=>w'.cell? ⟨gb546,0,none⟩=some (.bool a0_0)∧w'.cell? ⟨gb546,1,none⟩=some (.int .i64 a0_1)∧w'.cell? ⟨gb546,2,none⟩=some (.slice A0_2 l0_2.length c0_2)) (ds:=[]) #[false,false,false,false,false,false] (by kernel_rfl) rfl rfl ⟨(qae BK546.out 0).trans rfl,(qae BK546.out 1).trans rfl,(qae BK546.out 2).trans rfl⟩ (fun hHeld=>?_)
   generalize w12.drew=w13 at BK546 HB hHeld ⊢
   refine take_ (i:=0) (N:=some 14) (v:=?_) (a':=?_) #[true,false,false,false,false,false] rfl rfl (by kernel_rfl) (fun _ _ _ h=>h) (Or.inl ⟨by rfl,?_⟩) hHeld ?_ ?_
   rotate_left
   ·rintro w' ⟨s0,s1,s2⟩
    go_simp
    with_reducible rfl
   rotate_left
   ·simp only [Act.put,List.setIfInBounds_toArray,List.set_cons_zero,List.set_cons_succ,qbx,qby]
    rfl
   refine take_ (i:=2) (N:=some 16) (v:=?_) (a':=?_) #[true,false,true,false,false,false] rfl rfl (by kernel_rfl) (fun _ _ _ h=>h) (Or.inl ⟨by rfl,?_⟩) hHeld ?_ ?_
   rotate_left
   ·rintro w' ⟨s0,s1,s2⟩
    go_simp
    with_reducible rfl
   rotate_left
   ·simp only [Act.put,List.setIfInBounds_toArray,List.set_cons_zero,List.set_cons_succ,qbx,qby]
    rfl
   refine one_ (i:=1) (N:=some 15) #[true,true,true,false,false,false] rfl rfl (by kernel_rfl) (by decide) (fun K hK=>?_)
   refine qey Tryd.func19 (by kernel_rfl) rfl #[.agg #[.bool a0_0,.int .i64 a0_1,.slice A0_2 l0_2.length c0_2]] (by rfl) rfl rfl (by (try simp only [List.map_toArray,List.map_cons,List.map_nil]);rfl) ?_
   with_reducible refine (qcs.calls k a0_0 a0_1 _ _ l0_2 t549 _ ?side1 ?side2 A6.out).mono ?_
   (case side1=>repeat (exact (Kd.C_below HR0_2.out HB.out)))
   (case side2=>exact HC0_2.out)
   rintro e w14 ⟨v550,rfl,ho0,hb⟩
   refine ⟨_,rfl,?_⟩
   have n0_:=qaa.mk (Kd.R_lower ho0 (qad HB.out))
   have n1_:=qaa.mk (qaf (g:=gb546) (o:=.cells #[.bool a0_0,.int .i64 a0_1,.slice A0_2 l0_2.length c0_2] 24 (0,0)) (by (with_reducible repeat (refine qac ?_));exact BK546.out) hb)
   have n2_:=qaa.mk (qan HB.out hb)
   clear BK546
   clear HB
   have HO551:=n0_
   have BK546:=n1_
   have HB:=n2_
   clear n0_ n1_ n2_
   (try clear hb)
   (try clear ho0)
   refine hK.out _ _ ⟨(qae BK546.out 0).trans rfl,(qae BK546.out 1).trans rfl,(qae BK546.out 2).trans rfl⟩ (fun hHeld=>?_)
   clear hK K
   refine qdx (a':=?_) ?_ ?_
   rotate_left
   ·show Act.put _ (some 15) _=_
    simp only [Act.put,List.setIfInBounds_toArray,List.set_cons_zero,List.set_cons_succ,qbx,qby]
    rfl
   refine one_ (i:=3) (N:=some 17) #[true,true,true,true,false,false] rfl rfl (by kernel_rfl) (by decide) (fun K hK=>?_)
   refine qey Tryd.func24 (by kernel_rfl) rfl #[.agg #[.bool a0_0,.int .i64 a0_1,.slice A0_2 l0_2.length c0_2]] (by rfl) rfl rfl (by (try simp only [List.map_toArray,List.map_cons,List.map_nil]);rfl) ?_
   with_reducible refine (qba.calls a0_0 a0_1 _ _ l0_2 t552 _ ?side1 ?side2 ?side3 A7.out).mono ?_
   (case side1=>exact TabW.below' HTB.out HB.out)
   (case side2=>repeat (exact (Kd.C_below HR0_2.out HB.out)))
   (case side3=>exact HC0_2.out)
   rintro e w15 ⟨v553,rfl,ho0,hb⟩
   refine ⟨_,rfl,?_⟩
   have n0_:=qaa.mk (Kd.R_elder' (by (with_reducible repeat (apply Kd.R_drew));exact HO551.out) (Kd.R_base ho0) hb)
   have n1_:=qaa.mk (Kd.R_lower (Kd.R_new' ho0 (Kd.R_lt (by (with_reducible repeat (apply Kd.R_drew));exact HO551.out))) (qad HB.out))
   have n2_:=qaa.mk (qaf (g:=gb546) (o:=.cells #[.bool a0_0,.int .i64 a0_1,.slice A0_2 l0_2.length c0_2] 24 (0,0)) (by (with_reducible repeat (refine qac ?_));exact BK546.out) hb)
   have n3_:=qaa.mk (qan HB.out hb)
   clear HO551
   clear BK546
   clear HB
   have HO551:=n0_
   have HO554:=n1_
   have BK546:=n2_
   have HB:=n3_
   clear n0_ n1_ n2_ n3_
   (try clear hb)
   (try clear ho0)
   refine hK.out _ _ ⟨(qae BK546.out 0).trans rfl,(qae BK546.out 1).trans rfl,(qae BK546.out 2).trans rfl⟩ (fun hHeld=>?_)
   clear hK K
   refine qdx (a':=?_) ?_ ?_
   rotate_left
   ·show Act.put _ (some 17) _=_
    simp only [Act.put,List.setIfInBounds_toArray,List.set_cons_zero,List.set_cons_succ,qbx,qby]
    rfl
   refine qdf (i:=4) (N:=some 3) (v:=?_) (a':=?_) #[true,true,true,true,true,false] rfl rfl (by kernel_rfl) (fun _ _ _ h=>h) (Or.inl ⟨by rfl,?_⟩) ?_ ?_
   rotate_left
   ·intro w'
    go_simp
    with_reducible rfl
   rotate_left
   ·simp only [Act.put,List.setIfInBounds_toArray,List.set_cons_zero,List.set_cons_succ,qbx,qby]
    rfl
   refine qdf (i:=5) (N:=some 4) (v:=?_) (a':=?_) #[true,true,true,true,true,true] rfl rfl (by kernel_rfl) (fun _ _ _ h=>h) (Or.inl ⟨by rfl,?_⟩) ?_ ?_
   rotate_left
   ·intro w'
    go_simp
    with_reducible rfl
   rotate_left
   ·simp only [Act.put,List.setIfInBounds_toArray,List.set_cons_zero,List.set_cons_succ,qbx,qby]
    rfl
   refine qha (by kernel_rfl) ?_
   go_upto_region 6 with (fail)
   go_cut [31] (fun v31 wc=>∃ (kq:Nat) (x31_7:Bool),v31=.bool x31_7∧qaa (qab.j0 kq t549 t552 x31_7 a0_0 a0_1 l0_2=some r)∧qaa (kq≤k)∧qaa (Kd.R (Kd.int .i64) 3 wc w.heap.size (fun k_=>some k_≠(v553:Value).ownBlock) v550 t549)∧qaa (Kd.R (Kd.int .i64) 3 wc w.heap.size (fun k_=>some k_≠(v550:Value).ownBlock) v553 t552)∧qaa (wc.heap[gb546]?=some (.cells #[.bool a0_0,.int .i64 a0_1,(.slice A0_2 l0_2.length c0_2)] 24 (0,0)))∧qaa (Below w.heap.size w wc))
   case first=>
    have H:=HC8.out
    clear HC8
    by_cases c16:(t552.length:Int)=(l0_2.length:Int)
    ·rw [if_pos c16] at H
     have c16b0:((t552.length:Int)==(l0_2.length:Int))=true:=beq_iff_eq.mpr c16
     have c16b1:((t552.length:Int)!=(l0_2.length:Int))=false:=bne_eq_false_iff_eq.mpr c16
     have c16b2:(t552.length==l0_2.length)=true:=by (simp at c16 ⊢;omega)
     clear c16
     replace H:=Option.bind_eq_some_iff.mp H
     obtain ⟨t555,A170,H⟩:=H
     replace H:((qax.f k t555).bind fun t558=>(qab.j0 k t549 t552 ((t549.length:Int)!=t558) a0_0 a0_1 l0_2))=some r:=H
     have A17:=qaa.mk A170
     clear A170
     replace H:=Option.bind_eq_some_iff.mp H
     obtain ⟨t558,A180,H⟩:=H
     replace H:(qab.j0 k t549 t552 ((t549.length:Int)!=t558) a0_0 a0_1 l0_2)=some r:=H
     have A18:=qaa.mk A180
     clear A180
     have H':=qaa.mk H
     clear H
     obtain ⟨Ao19,co19,eo19⟩:=Kd.R_slice HO554.out
     subst eo19
     have hcz20_0:w15.cell? ⟨gb546,0,none⟩=some (.bool a0_0):=(qae BK546.out 0).trans rfl
     have hcz20_1:w15.cell? ⟨gb546,1,none⟩=some (.int .i64 a0_1):=(qae BK546.out 1).trans rfl
     have hcz20_2:w15.cell? ⟨gb546,2,none⟩=some (.slice A0_2 l0_2.length c0_2):=(qae BK546.out 2).trans rfl
     have hfz20_0:=qah BK546.out 0
     have hfz20_1:=qah BK546.out 1
     have hfz20_2:=qah BK546.out 2
     obtain ⟨Ao21,co21,eo21⟩:=Kd.R_slice HO551.out
     subst eo21
     go_wp2_with (first|(go_at_call 30;(with_reducible refine (qbr.calls k a0_0 a0_1 _ _ l0_2 0 t555 _ ?side1 ?side2 ?side3 A17.out).mono ?_);(case side1=>exact TabW.below' HTB.out HB.out);(case side2=>repeat (exact (Kd.C_below HR0_2.out HB.out)));(case side3=>exact HC0_2.out);rintro e w22 ⟨v556,rfl,ho0,hb⟩;have HO557:=qaa.mk (Kd.V_lower (Kd.V_mono (ok':=fun k_=>some k_≠(.slice Ao21 t549.length co21:Value).ownBlock∧some k_≠(.slice Ao19 t552.length co19:Value).ownBlock∧k_≠gb546) ho0 (fun k_ hk_=>⟨(Kd.fresh' (Kd.R_lt (by (with_reducible repeat (apply Kd.R_drew));exact HO551.out)) k_ hk_),(Kd.fresh' (Kd.R_lt (by (with_reducible repeat (apply Kd.R_drew));exact HO554.out)) k_ hk_),(Kd.freshB (g:=gb546) (o:=.cells #[.bool a0_0,.int .i64 a0_1,.slice A0_2 l0_2.length c0_2] 24 (0,0)) (by (with_reducible repeat (refine qac ?_));exact BK546.out) k_ hk_)⟩)) (qad HB.out));replace HO551:=qaa.mk (Kd.R_below (by (with_reducible repeat (apply Kd.R_drew));exact HO551.out) hb);replace HO554:=qaa.mk (Kd.R_below (by (with_reducible repeat (apply Kd.R_drew));exact HO554.out) hb);replace BK546:=qaa.mk (qaf (g:=gb546) (o:=.cells #[.bool a0_0,.int .i64 a0_1,.slice A0_2 l0_2.length c0_2] 24 (0,0)) (by (with_reducible repeat (refine qac ?_));exact BK546.out) hb);replace HB:=qaa.mk (qan HB.out hb);(try clear hb);(try clear ho0);obtain ⟨Ao23,co23,eo23⟩:=Kd.V_slice HO557.out;subst eo23)|(go_at_call 31;(with_reducible refine (qax.calls k _ _ t555 t558 _ ?side1 ?side2 A18.out).mono ?_);(case side1=>repeat (exact (Kd.V_reads' HO557.out).2.2));(case side2=>exact (Kd.V_reads' HO557.out).2.1);rintro e w24 ⟨rfl,hb⟩;replace HO551:=qaa.mk (Kd.R_below (by (with_reducible repeat (apply Kd.R_drew));exact HO551.out) hb);replace HO554:=qaa.mk (Kd.R_below (by (with_reducible repeat (apply Kd.R_drew));exact HO554.out) hb);replace HO557:=qaa.mk (Kd.V_below (by (with_reducible repeat (apply Kd.V_drew));exact HO557.out) hb);replace BK546:=qaa.mk (qaf (g:=gb546) (o:=.cells #[.bool a0_0,.int .i64 a0_1,.slice A0_2 l0_2.length c0_2] 24 (0,0)) (by (with_reducible repeat (refine qac ?_));exact BK546.out) hb);replace HB:=qaa.mk (qan HB.out hb);(try clear hb)))
     go_meet
     case rel=>exact ⟨_,(((t549.length:Int)!=t558)),(by rfl),H',⟨by omega⟩,⟨by (with_reducible repeat (apply Kd.R_drew));exact Kd.R_mono HO551.out (fun _ hk=>hk.2)⟩,⟨by (with_reducible repeat (apply Kd.R_drew));exact Kd.R_mono HO554.out (fun _ hk=>hk.2)⟩,⟨by (with_reducible repeat (refine qac ?_));exact BK546.out⟩,⟨by repeat ((with_reducible exact HB.out))⟩⟩
    ·rw [if_neg c16] at H
     have c16b0:((t552.length:Int)==(l0_2.length:Int))=false:=beq_eq_false_iff_ne.mpr c16
     have c16b1:((t552.length:Int)!=(l0_2.length:Int))=true:=bne_iff_ne.mpr c16
     have c16b2:(t552.length==l0_2.length)=false:=by (simp at c16 ⊢;omega)
     have H':=qaa.mk H
     clear H
     obtain ⟨Ao25,co25,eo25⟩:=Kd.R_slice HO554.out
     subst eo25
     have hcz26_0:w15.cell? ⟨gb546,0,none⟩=some (.bool a0_0):=(qae BK546.out 0).trans rfl
     have hcz26_1:w15.cell? ⟨gb546,1,none⟩=some (.int .i64 a0_1):=(qae BK546.out 1).trans rfl
     have hcz26_2:w15.cell? ⟨gb546,2,none⟩=some (.slice A0_2 l0_2.length c0_2):=(qae BK546.out 2).trans rfl
     have hfz26_0:=qah BK546.out 0
     have hfz26_1:=qah BK546.out 1
     have hfz26_2:=qah BK546.out 2
     go_wp2
     go_meet
     case rel=>exact ⟨_,(true),(by rfl),H',⟨by omega⟩,⟨by (with_reducible repeat (apply Kd.R_drew));exact Kd.R_mono HO551.out (fun _ hk=>hk.2)⟩,⟨by (with_reducible repeat (apply Kd.R_drew));exact Kd.R_mono HO554.out (fun _ hk=>hk.2)⟩,⟨by (with_reducible repeat (refine qac ?_));exact BK546.out⟩,⟨by repeat ((with_reducible exact HB.out))⟩⟩
   case rest=>
    clear HC8
    try clear hcz11_0
    try clear hcz11_1
    try clear hcz11_2
    try clear hfz11_0
    try clear hfz11_1
    try clear hfz11_2
    obtain ⟨kq,x31_7,rfl,HA,HJ7,HO_3,HO_4,BK546,HB⟩:=hcut
    cases kq with
    | zero=>exact absurd HA.out (by simp [qab.j0])
    | succ kj7=>
     have H:=HA.out
     clear HA
     simp only [qab.j0] at H
     by_cases c27:x31_7=true
     ·subst c27
      have H1:(some false)=some r:=by rw [if_pos rfl] at H;exact H
      clear H
      have H:=H1
      clear H1
      obtain rfl:=Option.some.inj H
      go_wp2
      go_ret
      exact ⟨by rfl,by repeat ((with_reducible exact HB.out))⟩
     ·replace c27:=Bool.eq_false_iff.mpr c27
      subst c27
      have H1:(if 0≤(l0_2.length:Int) then (if ((l0_2.length:Int):Int).toNat≤281474976710656 then (qab.l0 kj7 t552 (List.replicate ((l0_2.length:Int):Int).toNat false) t549 (t549.length:Int) 0) else (none)) else (none))=some r:=by rw [if_neg (show ¬ (false=true) by decide)] at H;exact H
      clear H
      have H:=H1
      clear H1
      by_cases c28:0≤(l0_2.length:Int)
      ·rw [if_pos c28] at H
       have c28b0:=eq_true c28
       have c28b1:decide (0≤(l0_2.length:Int))=true:=decide_eq_true c28
       clear c28
       by_cases c29:((l0_2.length:Int):Int).toNat≤281474976710656
       ·rw [if_pos c29] at H
        have c29b0:=eq_true c29
        have c29b1:decide (((l0_2.length:Int):Int).toNat≤281474976710656)=true:=decide_eq_true c29
        clear c29
        obtain ⟨y559,hy559⟩:∃ y_:List Bool,y_=(List.replicate ((l0_2.length:Int):Int).toNat false):=⟨_,rfl⟩
        replace H:(qab.l0 kj7 t552 y559 t549 (t549.length:Int) 0)=some r:=by (rw [hy559];with_reducible exact H)
        have Ny559:=qaa.mk hy559
        clear hy559
        have H':=qaa.mk H
        clear H
        have hcz30_0:wc.cell? ⟨gb546,0,none⟩=some (.bool a0_0):=(qae BK546.out 0).trans rfl
        have hcz30_1:wc.cell? ⟨gb546,1,none⟩=some (.int .i64 a0_1):=(qae BK546.out 1).trans rfl
        have hcz30_2:wc.cell? ⟨gb546,2,none⟩=some (.slice A0_2 l0_2.length c0_2):=(qae BK546.out 2).trans rfl
        have hfz30_0:=qah BK546.out 0
        have hfz30_1:=qah BK546.out 1
        have hfz30_2:=qah BK546.out 2
        go_wp2_with (((with_reducible refine qbm (N:=35) rfl ?_);(try (refine qcr (by rfl) ?_;dsimp only));refine Kd.R_make Kd.bool _ 4 rfl (N:=35) rfl 47 _ _ rfl (l0_2.length:Int) rfl rfl Tryd.underlying47 (.bool false) 1 info4 rfl (by decide) (by omega) false (ok:=fun _=>True) (okp:=fun _=>True) rfl (fun _ hk=>hk) trivial (of_decide_eq_true (by (with_reducible assumption))) (Nat.le_trans (Nat.mul_le_mul_right _ (of_decide_eq_true (by (with_reducible assumption)):(l0_2.length:Int).toNat≤281474976710656)) (by omega)) (Below.refl _ _) (Nat.le_refl _) ?_;intro v560 w31 ho32 hb hg_ hnew_;clear hg_ hnew_;(rw [← Ny559.out] at ho32);replace HO_3:=qaa.mk (Kd.R_below (by (with_reducible repeat (apply Kd.R_drew));exact HO_3.out) hb);replace HO_4:=qaa.mk (Kd.R_below (by (with_reducible repeat (apply Kd.R_drew));exact HO_4.out) hb);have HO561:=qaa.mk (Kd.R_lower ho32 (qad HB.out));replace BK546:=qaa.mk (qaf (g:=gb546) (o:=.cells #[.bool a0_0,.int .i64 a0_1,.slice A0_2 l0_2.length c0_2] 24 (0,0)) (by (with_reducible repeat (refine qac ?_));exact BK546.out) hb);replace HB:=qaa.mk (qan HB.out hb);clear hb ho32;obtain ⟨Ao33,co33,eo33⟩:=Kd.R_slice HO_3.out;subst eo33))
        go_loopg [38] kj7 (fun kq v38 w'=>∃ (x5_2:List Bool) (x38_2:Int),v38=.int .i64 x38_2∧qaa (qab.l0 kq t552 x5_2 t549 (t549.length:Int) x38_2=some r)∧qaa (kq≤kj7)∧qaa (Kd.R (Kd.int .i64) 3 w' w.heap.size (fun k_=>some k_≠((.slice Ao33 t549.length co33):Value).ownBlock) v553 t552)∧qaa (Kd.R Kd.bool 4 w' w.heap.size (fun _=>True) v560 x5_2)∧qaa (Kd.R (Kd.int .i64) 3 w' w.heap.size (fun k_=>some k_≠(v553:Value).ownBlock) (.slice Ao33 t549.length co33) t549)∧qaa (w'.heap[gb546]?=some (.cells #[.bool a0_0,.int .i64 a0_1,(.slice A0_2 l0_2.length c0_2)] 24 (0,0)))∧qaa (Below w.heap.size w w'))
        case atStart=>exact ⟨(y559),(0),(by rfl),H',⟨Nat.le_refl _⟩,⟨by (with_reducible repeat (apply Kd.R_drew));exact HO_4.out⟩,⟨by (with_reducible repeat (apply Kd.R_drew));exact HO561.out⟩,⟨by (with_reducible repeat (apply Kd.R_drew));exact HO_3.out⟩,⟨by (with_reducible repeat (refine qac ?_));exact BK546.out⟩,⟨by repeat ((with_reducible exact HB.out))⟩⟩
        case round=>
         clear H'
         try clear c28b0
         try clear c28b1
         try clear c29b0
         try clear c29b1
         try clear hcz30_0
         try clear hcz30_1
         try clear hcz30_2
         try clear hfz30_0
         try clear hfz30_1
         try clear hfz30_2
         obtain ⟨x5_2,x38_2,rfl,HA,HK2,HO_4,HO_5,HO_36,BK546,HB⟩:=hrel
         cases gk with
         | zero=>exact absurd HA.out (by simp [qab.l0])
         | succ k2=>
          have H:=HA.out
          clear HA
          simp only [qab.l0] at H
          by_cases c34:x38_2<(t549.length:Int)
          ·rw [if_pos c34] at H
           have c34b0:decide (x38_2<(t549.length:Int))=true:=decide_eq_true c34
           clear c34
           by_cases c35:0≤x38_2
           ·rw [if_pos c35] at H
            have c35b0:decide (0≤x38_2)=true:=decide_eq_true c35
            clear c35
            by_cases c36:x38_2<(t549.length:Int)
            ·rw [if_pos c36] at H
             have c36b0:decide (x38_2<(t549.length:Int))=true:=decide_eq_true c36
             clear c36
             have HC37:=qaa.mk H
             clear H
             have p562:0≤(x38_2:Int):=of_decide_eq_true (by (with_reducible assumption))
             have q562:x38_2<(t549.length:Int):=of_decide_eq_true (by (with_reducible assumption))
             obtain ⟨ad562,e562,hx562_0⟩:=Kd.at_int (Kd.R_reads' HO_36.out).2.2 x38_2 p562 q562
             cases e562
             replace p562:=eq_true p562
             replace q562:=eq_true q562
             go_upto_region 12 with (fail)
             go_cut [63] (fun v63 wc=>∃ (kq:Nat) (x63_36:Bool),v63=.bool x63_36∧qaa (qab.j2 kq t552 x5_2 x38_2 (rd t549 x38_2) t549 (t549.length:Int) x38_2 x63_36=some r)∧qaa (kq≤k2)∧qaa (Kd.R (Kd.int .i64) 3 wc w.heap.size (fun k_=>some k_≠((.slice (some ad562) t549.length co33):Value).ownBlock) v553 t552)∧qaa (Kd.R Kd.bool 4 wc w.heap.size (fun _=>True) v560 x5_2)∧qaa (Kd.R (Kd.int .i64) 3 wc w.heap.size (fun k_=>some k_≠(v553:Value).ownBlock) (.slice (some ad562) t549.length co33) t549)∧qaa (wc.heap[gb546]?=some (.cells #[.bool a0_0,.int .i64 a0_1,(.slice A0_2 l0_2.length c0_2)] 24 (0,0)))∧qaa (Below w.heap.size w wc))
             case first=>
              have H:=HC37.out
              clear HC37
              by_cases c38:(rd t549 x38_2)<0
              ·rw [if_pos c38] at H
               have c38b0:decide ((rd t549 x38_2)<0)=true:=decide_eq_true c38
               clear c38
               have H':=qaa.mk H
               clear H
               go_wp2
               go_meet
               case rel=>exact ⟨_,(true),(by rfl),H',⟨by have:=HJ7.out;have:=HK2.out;omega⟩,⟨by (with_reducible repeat (apply Kd.R_drew));exact HO_4.out⟩,⟨by (with_reducible repeat (apply Kd.R_drew));exact HO_5.out⟩,⟨by (with_reducible repeat (apply Kd.R_drew));exact HO_36.out⟩,⟨by (with_reducible repeat (refine qac ?_));exact BK546.out⟩,⟨by repeat ((with_reducible exact HB.out))⟩⟩
              ·rw [if_neg c38] at H
               have c38b0:decide ((rd t549 x38_2)<0)=false:=decide_eq_false c38
               clear c38
               by_cases c39:(rd t549 x38_2)≥(x5_2.length:Int)
               ·rw [if_pos c39] at H
                have c39b0:decide ((x5_2.length:Int)≤(rd t549 x38_2))=true:=decide_eq_true c39
                clear c39
                have H':=qaa.mk H
                clear H
                obtain ⟨Ao40,co40,eo40⟩:=Kd.R_slice HO_5.out
                subst eo40
                go_wp2
                go_meet
                case rel=>exact ⟨_,(true),(by rfl),H',⟨by have:=HJ7.out;have:=HK2.out;omega⟩,⟨by (with_reducible repeat (apply Kd.R_drew));exact HO_4.out⟩,⟨by (with_reducible repeat (apply Kd.R_drew));exact HO_5.out⟩,⟨by (with_reducible repeat (apply Kd.R_drew));exact HO_36.out⟩,⟨by (with_reducible repeat (refine qac ?_));exact BK546.out⟩,⟨by repeat ((with_reducible exact HB.out))⟩⟩
               ·rw [if_neg c39] at H
                have c39b0:decide ((x5_2.length:Int)≤(rd t549 x38_2))=false:=decide_eq_false c39
                clear c39
                by_cases c41:0≤(rd t549 x38_2)
                ·rw [if_pos c41] at H
                 have c41b0:decide (0≤(rd t549 x38_2))=true:=decide_eq_true c41
                 clear c41
                 by_cases c42:(rd t549 x38_2)<(x5_2.length:Int)
                 ·rw [if_pos c42] at H
                  have c42b0:decide ((rd t549 x38_2)<(x5_2.length:Int))=true:=decide_eq_true c42
                  clear c42
                  obtain ⟨bq43,hbq43⟩:∃ b_:Bool,b_=(rdOf false x5_2 (rd t549 x38_2)):=⟨_,rfl⟩
                  replace H:(if bq43=true then (qab.j2 k2 t552 x5_2 x38_2 (rd t549 x38_2) t549 (t549.length:Int) x38_2 true) else (qab.j2 k2 t552 x5_2 x38_2 (rd t549 x38_2) t549 (t549.length:Int) x38_2 ((x38_2==0)!=((rd t549 x38_2)==0))))=some r:=by rw [← hbq43] at H;exact H
                  have Nbq43:=qaa.mk hbq43
                  clear hbq43
                  by_cases c44:bq43=true
                  ·subst c44
                   have H1:(qab.j2 k2 t552 x5_2 x38_2 (rd t549 x38_2) t549 (t549.length:Int) x38_2 true)=some r:=by rw [if_pos rfl] at H;exact H
                   clear H
                   have H:=H1
                   clear H1
                   have H':=qaa.mk H
                   clear H
                   obtain ⟨Ao45,co45,eo45⟩:=Kd.R_slice HO_5.out
                   subst eo45
                   have p563:0≤((rd t549 x38_2):Int):=of_decide_eq_true (by (with_reducible assumption))
                   have q563:(rd t549 x38_2)<(x5_2.length:Int):=of_decide_eq_true (by (with_reducible assumption))
                   obtain ⟨ad563,e563,hx563_0⟩:=Kd.at_bool (Kd.R_reads' HO_5.out).2.2 (rd t549 x38_2) p563 q563
                   (try rw [← Nbq43.out] at hx563_0)
                   cases e563
                   replace p563:=eq_true p563
                   replace q563:=eq_true q563
                   go_wp2
                   go_meet
                   case rel=>exact ⟨_,(true),(by rfl),H',⟨by have:=HJ7.out;have:=HK2.out;omega⟩,⟨by (with_reducible repeat (apply Kd.R_drew));exact HO_4.out⟩,⟨by (with_reducible repeat (apply Kd.R_drew));exact HO_5.out⟩,⟨by (with_reducible repeat (apply Kd.R_drew));exact HO_36.out⟩,⟨by (with_reducible repeat (refine qac ?_));exact BK546.out⟩,⟨by repeat ((with_reducible exact HB.out))⟩⟩
                  ·replace c44:=Bool.eq_false_iff.mpr c44
                   subst c44
                   have H1:(qab.j2 k2 t552 x5_2 x38_2 (rd t549 x38_2) t549 (t549.length:Int) x38_2 ((x38_2==0)!=((rd t549 x38_2)==0)))=some r:=by rw [if_neg (show ¬ (false=true) by decide)] at H;exact H
                   clear H
                   have H:=H1
                   clear H1
                   have H':=qaa.mk H
                   clear H
                   obtain ⟨Ao46,co46,eo46⟩:=Kd.R_slice HO_5.out
                   subst eo46
                   have p563:0≤((rd t549 x38_2):Int):=of_decide_eq_true (by (with_reducible assumption))
                   have q563:(rd t549 x38_2)<(x5_2.length:Int):=of_decide_eq_true (by (with_reducible assumption))
                   obtain ⟨ad563,e563,hx563_0⟩:=Kd.at_bool (Kd.R_reads' HO_5.out).2.2 (rd t549 x38_2) p563 q563
                   (try rw [← Nbq43.out] at hx563_0)
                   cases e563
                   replace p563:=eq_true p563
                   replace q563:=eq_true q563
                   go_wp2
                   go_meet
                   case rel=>exact ⟨_,(((x38_2==0)!=((rd t549 x38_2)==0))),(by rfl),H',⟨by have:=HJ7.out;have:=HK2.out;omega⟩,⟨by (with_reducible repeat (apply Kd.R_drew));exact HO_4.out⟩,⟨by (with_reducible repeat (apply Kd.R_drew));exact HO_5.out⟩,⟨by (with_reducible repeat (apply Kd.R_drew));exact HO_36.out⟩,⟨by (with_reducible repeat (refine qac ?_));exact BK546.out⟩,⟨by repeat ((with_reducible exact HB.out))⟩⟩
                 ·rw [if_neg c42] at H
                  exact absurd H (by simp)
                ·rw [if_neg c41] at H
                 exact absurd H (by simp)
             case rest=>
              clear HC37
              try clear c34b0
              try clear c35b0
              try clear c36b0
              try clear hx562_0
              try clear p562
              try clear q562
              obtain ⟨kq,x63_36,rfl,HA,HJ36,HO_4,HO_5,HO_36,BK546,HB⟩:=hcut
              cases kq with
              | zero=>exact absurd HA.out (by simp [qab.j2])
              | succ kj36=>
               have H:=HA.out
               clear HA
               simp only [qab.j2] at H
               by_cases c47:x63_36=true
               ·subst c47
                have H1:(some false)=some r:=by rw [if_pos rfl] at H;exact H
                clear H
                have H:=H1
                clear H1
                obtain rfl:=Option.some.inj H
                go_wp2
                go_ret
                exact ⟨by rfl,by repeat ((with_reducible exact HB.out))⟩
               ·replace c47:=Bool.eq_false_iff.mpr c47
                subst c47
                have H1:(if 0≤(rd t549 x38_2) then (if (rd t549 x38_2)<(t552.length:Int) then (if x38_2>0 then (if (rd t552 (rd t549 x38_2))<0 then (some false) else (if (rd t552 (rd t549 x38_2))≥(x5_2.length:Int) then (some false) else (if 0≤(rd t552 (rd t549 x38_2)) then (if (rd t552 (rd t549 x38_2))<(x5_2.length:Int) then (if (rdOf false x5_2 (rd t552 (rd t549 x38_2))=true) then (if (rd t549 x38_2)<(x5_2.length:Int) then (qab.l0 kj36 t552 (x5_2.set ((rd t549 x38_2):Int).toNat true) t549 (t549.length:Int) (wrap64 (x38_2+1))) else (none)) else (some false)) else (none)) else (none)))) else (if (rd t549 x38_2)<(x5_2.length:Int) then (qab.l0 kj36 t552 (x5_2.set ((rd t549 x38_2):Int).toNat true) t549 (t549.length:Int) (wrap64 (x38_2+1))) else (none))) else (none)) else (none))=some r:=by rw [if_neg (show ¬ (false=true) by decide)] at H;exact H
                clear H
                have H:=H1
                clear H1
                by_cases c48:0≤(rd t549 x38_2)
                ·rw [if_pos c48] at H
                 have c48b0:decide (0≤(rd t549 x38_2))=true:=decide_eq_true c48
                 clear c48
                 by_cases c49:(rd t549 x38_2)<(t552.length:Int)
                 ·rw [if_pos c49] at H
                  have c49b0:decide ((rd t549 x38_2)<(t552.length:Int))=true:=decide_eq_true c49
                  clear c49
                  by_cases c50:x38_2>0
                  ·rw [if_pos c50] at H
                   have c50b0:decide (0<x38_2)=true:=decide_eq_true c50
                   clear c50
                   by_cases c51:(rd t552 (rd t549 x38_2))<0
                   ·rw [if_pos c51] at H
                    have c51b0:decide ((rd t552 (rd t549 x38_2))<0)=true:=decide_eq_true c51
                    clear c51
                    obtain rfl:=Option.some.inj H
                    obtain ⟨Ao52,co52,eo52⟩:=Kd.R_slice HO_4.out
                    subst eo52
                    have p564:0≤((rd t549 x38_2):Int):=of_decide_eq_true (by (with_reducible assumption))
                    have q564:(rd t549 x38_2)<(t552.length:Int):=of_decide_eq_true (by (with_reducible assumption))
                    obtain ⟨ad564,e564,hx564_0⟩:=Kd.at_int (Kd.R_reads' HO_4.out).2.2 (rd t549 x38_2) p564 q564
                    cases e564
                    replace p564:=eq_true p564
                    replace q564:=eq_true q564
                    go_wp2
                    go_ret
                    exact ⟨by rfl,by repeat ((with_reducible exact HB.out))⟩
                   ·rw [if_neg c51] at H
                    have c51b0:decide ((rd t552 (rd t549 x38_2))<0)=false:=decide_eq_false c51
                    clear c51
                    by_cases c53:(rd t552 (rd t549 x38_2))≥(x5_2.length:Int)
                    ·rw [if_pos c53] at H
                     have c53b0:decide ((x5_2.length:Int)≤(rd t552 (rd t549 x38_2)))=true:=decide_eq_true c53
                     clear c53
                     obtain rfl:=Option.some.inj H
                     obtain ⟨Ao54,co54,eo54⟩:=Kd.R_slice HO_4.out
                     subst eo54
                     have p564:0≤((rd t549 x38_2):Int):=of_decide_eq_true (by (with_reducible assumption))
                     have q564:(rd t549 x38_2)<(t552.length:Int):=of_decide_eq_true (by (with_reducible assumption))
                     obtain ⟨ad564,e564,hx564_0⟩:=Kd.at_int (Kd.R_reads' HO_4.out).2.2 (rd t549 x38_2) p564 q564
                     cases e564
                     replace p564:=eq_true p564
                     replace q564:=eq_true q564
                     obtain ⟨Ao55,co55,eo55⟩:=Kd.R_slice HO_5.out
                     subst eo55
                     go_wp2
                     go_ret
                     exact ⟨by rfl,by repeat ((with_reducible exact HB.out))⟩
                    ·rw [if_neg c53] at H
                     have c53b0:decide ((x5_2.length:Int)≤(rd t552 (rd t549 x38_2)))=false:=decide_eq_false c53
                     clear c53
                     by_cases c56:0≤(rd t552 (rd t549 x38_2))
                     ·rw [if_pos c56] at H
                      have c56b0:decide (0≤(rd t552 (rd t549 x38_2)))=true:=decide_eq_true c56
                      clear c56
                      by_cases c57:(rd t552 (rd t549 x38_2))<(x5_2.length:Int)
                      ·rw [if_pos c57] at H
                       have c57b0:decide ((rd t552 (rd t549 x38_2))<(x5_2.length:Int))=true:=decide_eq_true c57
                       clear c57
                       obtain ⟨bq58,hbq58⟩:∃ b_:Bool,b_=(rdOf false x5_2 (rd t552 (rd t549 x38_2))):=⟨_,rfl⟩
                       replace H:(if (bq58=true) then (if (rd t549 x38_2)<(x5_2.length:Int) then (qab.l0 kj36 t552 (x5_2.set ((rd t549 x38_2):Int).toNat true) t549 (t549.length:Int) (wrap64 (x38_2+1))) else (none)) else (some false))=some r:=by rw [← hbq58] at H;exact H
                       have Nbq58:=qaa.mk hbq58
                       clear hbq58
                       by_cases c59:(bq58=true)
                       ·subst c59
                        have H1:(if (rd t549 x38_2)<(x5_2.length:Int) then (qab.l0 kj36 t552 (x5_2.set ((rd t549 x38_2):Int).toNat true) t549 (t549.length:Int) (wrap64 (x38_2+1))) else (none))=some r:=by rw [if_pos rfl] at H;exact H
                        clear H
                        have H:=H1
                        clear H1
                        by_cases c60:(rd t549 x38_2)<(x5_2.length:Int)
                        ·rw [if_pos c60] at H
                         have c60b0:decide ((rd t549 x38_2)<(x5_2.length:Int))=true:=decide_eq_true c60
                         clear c60
                         obtain ⟨y566,hy566⟩:∃ y_:List Bool,y_=(x5_2.set ((rd t549 x38_2):Int).toNat true):=⟨_,rfl⟩
                         replace H:(qab.l0 kj36 t552 y566 t549 (t549.length:Int) (wrap64 (x38_2+1)))=some r:=by (rw [hy566];with_reducible exact H)
                         have Ny566:=qaa.mk hy566
                         clear hy566
                         have H':=qaa.mk H
                         clear H
                         obtain ⟨Ao62,co62,eo62⟩:=Kd.R_slice HO_4.out
                         subst eo62
                         have p564:0≤((rd t549 x38_2):Int):=of_decide_eq_true (by (with_reducible assumption))
                         have q564:(rd t549 x38_2)<(t552.length:Int):=of_decide_eq_true (by (with_reducible assumption))
                         obtain ⟨ad564,e564,hx564_0⟩:=Kd.at_int (Kd.R_reads' HO_4.out).2.2 (rd t549 x38_2) p564 q564
                         cases e564
                         replace p564:=eq_true p564
                         replace q564:=eq_true q564
                         obtain ⟨Ao63,co63,eo63⟩:=Kd.R_slice HO_5.out
                         subst eo63
                         have p565:0≤((rd t552 (rd t549 x38_2)):Int):=of_decide_eq_true (by (with_reducible assumption))
                         have q565:(rd t552 (rd t549 x38_2))<(x5_2.length:Int):=of_decide_eq_true (by (with_reducible assumption))
                         obtain ⟨ad565,e565,hx565_0⟩:=Kd.at_bool (Kd.R_reads' HO_5.out).2.2 (rd t552 (rd t549 x38_2)) p565 q565
                         (try rw [← Nbq58.out] at hx565_0)
                         cases e565
                         replace p565:=eq_true p565
                         replace q565:=eq_true q565
                         have p61:0≤((rd t549 x38_2):Int):=of_decide_eq_true (by (with_reducible assumption))
                         have q61:((rd t549 x38_2):Int)<((x5_2.length:Int):Int):=of_decide_eq_true (by (with_reducible assumption))
                         obtain ⟨go61,co61,eo61,gb61,gl61,cl61,HG61⟩:=Kd.R_form HO_5.out (by omega)
                         (cases eo61)
                         have GB61:=qaa.mk gb61
                         have GG61:=qaa.mk HG61
                         clear gb61 gl61 HG61
                         (simp only [qej] at hx565_0)
                         obtain ⟨hx61_0,hf61_0⟩:=Kd.R_celln false HO_5.out ((rd t549 x38_2):Int) p61 q61
                         replace p61:=eq_true p61
                         replace q61:=eq_true q61
                         have HP64:=Kd.R_putg HO_5.out ((rd t549 x38_2):Int) true
                         go_wp2_with (((with_reducible refine qhp (t:=4) (p:=89) rfl ?_);refine qgq (t:=4) (p:=89) (v:=?vo_w65) (w1:=(wc.setCell ⟨go61,((rd t549 x38_2):Int).toNat,none⟩ (.bool true))) ?hg ?ho ?hn ?hr ?_;(case ho=>rfl);(case hg=>rfl);(case hn=>rfl);(case hr=>(go_simp;done));intro w65 hw;have hg:wc.grownBy w65 (some go61):=(by rw [hw];exact HP64.2);have hp_:Kd.R Kd.bool 4 w65 w.heap.size (fun _=>True) (.slice (some ⟨go61,0,none⟩) x5_2.length co63) y566:=(by rw [hw,Ny566.out];exact HP64.1);clear HP64;replace HO_4:=qaa.mk (Kd.R_over' (v:=(.slice (some ⟨go61,0,none⟩) x5_2.length co63)) (by (with_reducible repeat (apply Kd.R_drew));exact HO_4.out) (Kd.R_typed HO_5.out) (by decide) hg);replace HO_36:=qaa.mk (Kd.R_over' (v:=(.slice (some ⟨go61,0,none⟩) x5_2.length co63)) (by (with_reducible repeat (apply Kd.R_drew));exact HO_36.out) (Kd.R_typed HO_5.out) (by decide) hg);replace BK546:=qaa.mk (qek (g:=gb546) (o:=.cells #[.bool a0_0,.int .i64 a0_1,.slice A0_2 l0_2.length c0_2] 24 (0,0)) (by (with_reducible repeat (refine qac ?_));exact BK546.out) hg (Kd.R_ne HO_5.out BK546.out (by decide)));replace HO_5:=qaa.mk (hp_);replace HB:=qaa.mk ((by rw [hw];exact qcd (HB.out) GB61.out:Below w.heap.size w w65));clear hg hw hp_))
                         go_roundg kj36
                         case measure=>have:=HJ7.out;have:=HK2.out;have:=HJ36.out;omega
                         case rel=>exact ⟨(y566),(wrap64 (x38_2+1)),(by rfl),H',⟨by have:=HJ7.out;have:=HK2.out;have:=HJ36.out;omega⟩,⟨by (with_reducible repeat (apply Kd.R_drew));exact HO_4.out⟩,⟨by (with_reducible repeat (apply Kd.R_drew));exact HO_5.out⟩,⟨by (with_reducible repeat (apply Kd.R_drew));exact HO_36.out⟩,⟨by (with_reducible repeat (refine qac ?_));exact BK546.out⟩,⟨by repeat ((with_reducible exact HB.out))⟩⟩
                        ·rw [if_neg c60] at H
                         exact absurd H (by simp)
                       ·replace c59:=Bool.eq_false_iff.mpr c59
                        subst c59
                        have H1:(some false)=some r:=by rw [if_neg (show ¬ (false=true) by decide)] at H;exact H
                        clear H
                        have H:=H1
                        clear H1
                        obtain rfl:=Option.some.inj H
                        obtain ⟨Ao66,co66,eo66⟩:=Kd.R_slice HO_4.out
                        subst eo66
                        have p564:0≤((rd t549 x38_2):Int):=of_decide_eq_true (by (with_reducible assumption))
                        have q564:(rd t549 x38_2)<(t552.length:Int):=of_decide_eq_true (by (with_reducible assumption))
                        obtain ⟨ad564,e564,hx564_0⟩:=Kd.at_int (Kd.R_reads' HO_4.out).2.2 (rd t549 x38_2) p564 q564
                        cases e564
                        replace p564:=eq_true p564
                        replace q564:=eq_true q564
                        obtain ⟨Ao67,co67,eo67⟩:=Kd.R_slice HO_5.out
                        subst eo67
                        have p565:0≤((rd t552 (rd t549 x38_2)):Int):=of_decide_eq_true (by (with_reducible assumption))
                        have q565:(rd t552 (rd t549 x38_2))<(x5_2.length:Int):=of_decide_eq_true (by (with_reducible assumption))
                        obtain ⟨ad565,e565,hx565_0⟩:=Kd.at_bool (Kd.R_reads' HO_5.out).2.2 (rd t552 (rd t549 x38_2)) p565 q565
                        (try rw [← Nbq58.out] at hx565_0)
                        cases e565
                        replace p565:=eq_true p565
                        replace q565:=eq_true q565
                        go_wp2
                        go_ret
                        exact ⟨by rfl,by repeat ((with_reducible exact HB.out))⟩
                      ·rw [if_neg c57] at H
                       exact absurd H (by simp)
                     ·rw [if_neg c56] at H
                      exact absurd H (by simp)
                  ·rw [if_neg c50] at H
                   have c50b0:decide (0<x38_2)=false:=decide_eq_false c50
                   clear c50
                   by_cases c68:(rd t549 x38_2)<(x5_2.length:Int)
                   ·rw [if_pos c68] at H
                    have c68b0:decide ((rd t549 x38_2)<(x5_2.length:Int))=true:=decide_eq_true c68
                    clear c68
                    obtain ⟨y567,hy567⟩:∃ y_:List Bool,y_=(x5_2.set ((rd t549 x38_2):Int).toNat true):=⟨_,rfl⟩
                    replace H:(qab.l0 kj36 t552 y567 t549 (t549.length:Int) (wrap64 (x38_2+1)))=some r:=by (rw [hy567];with_reducible exact H)
                    have Ny567:=qaa.mk hy567
                    clear hy567
                    have H':=qaa.mk H
                    clear H
                    obtain ⟨Ao70,co70,eo70⟩:=Kd.R_slice HO_4.out
                    subst eo70
                    have p564:0≤((rd t549 x38_2):Int):=of_decide_eq_true (by (with_reducible assumption))
                    have q564:(rd t549 x38_2)<(t552.length:Int):=of_decide_eq_true (by (with_reducible assumption))
                    obtain ⟨ad564,e564,hx564_0⟩:=Kd.at_int (Kd.R_reads' HO_4.out).2.2 (rd t549 x38_2) p564 q564
                    cases e564
                    replace p564:=eq_true p564
                    replace q564:=eq_true q564
                    have p69:0≤((rd t549 x38_2):Int):=of_decide_eq_true (by (with_reducible assumption))
                    have q69:((rd t549 x38_2):Int)<((x5_2.length:Int):Int):=of_decide_eq_true (by (with_reducible assumption))
                    obtain ⟨go69,co69,eo69,gb69,gl69,cl69,HG69⟩:=Kd.R_form HO_5.out (by omega)
                    (cases eo69)
                    have GB69:=qaa.mk gb69
                    have GG69:=qaa.mk HG69
                    clear gb69 gl69 HG69
                    obtain ⟨hx69_0,hf69_0⟩:=Kd.R_celln false HO_5.out ((rd t549 x38_2):Int) p69 q69
                    replace p69:=eq_true p69
                    replace q69:=eq_true q69
                    have HP71:=Kd.R_putg HO_5.out ((rd t549 x38_2):Int) true
                    go_wp2_with (((with_reducible refine qhp (t:=4) (p:=89) rfl ?_);refine qgq (t:=4) (p:=89) (v:=?vo_w72) (w1:=(wc.setCell ⟨go69,((rd t549 x38_2):Int).toNat,none⟩ (.bool true))) ?hg ?ho ?hn ?hr ?_;(case ho=>rfl);(case hg=>rfl);(case hn=>rfl);(case hr=>(go_simp;done));intro w72 hw;have hg:wc.grownBy w72 (some go69):=(by rw [hw];exact HP71.2);have hp_:Kd.R Kd.bool 4 w72 w.heap.size (fun _=>True) (.slice (some ⟨go69,0,none⟩) x5_2.length co69) y567:=(by rw [hw,Ny567.out];exact HP71.1);clear HP71;replace HO_4:=qaa.mk (Kd.R_over' (v:=(.slice (some ⟨go69,0,none⟩) x5_2.length co69)) (by (with_reducible repeat (apply Kd.R_drew));exact HO_4.out) (Kd.R_typed HO_5.out) (by decide) hg);replace HO_36:=qaa.mk (Kd.R_over' (v:=(.slice (some ⟨go69,0,none⟩) x5_2.length co69)) (by (with_reducible repeat (apply Kd.R_drew));exact HO_36.out) (Kd.R_typed HO_5.out) (by decide) hg);replace BK546:=qaa.mk (qek (g:=gb546) (o:=.cells #[.bool a0_0,.int .i64 a0_1,.slice A0_2 l0_2.length c0_2] 24 (0,0)) (by (with_reducible repeat (refine qac ?_));exact BK546.out) hg (Kd.R_ne HO_5.out BK546.out (by decide)));replace HO_5:=qaa.mk (hp_);replace HB:=qaa.mk ((by rw [hw];exact qcd (HB.out) GB69.out:Below w.heap.size w w72));clear hg hw hp_))
                    go_roundg kj36
                    case measure=>have:=HJ7.out;have:=HK2.out;have:=HJ36.out;omega
                    case rel=>exact ⟨(y567),(wrap64 (x38_2+1)),(by rfl),H',⟨by have:=HJ7.out;have:=HK2.out;have:=HJ36.out;omega⟩,⟨by (with_reducible repeat (apply Kd.R_drew));exact HO_4.out⟩,⟨by (with_reducible repeat (apply Kd.R_drew));exact HO_5.out⟩,⟨by (with_reducible repeat (apply Kd.R_drew));exact HO_36.out⟩,⟨by (with_reducible repeat (refine qac ?_));exact BK546.out⟩,⟨by repeat ((with_reducible exact HB.out))⟩⟩
                   ·rw [if_neg c68] at H
                    exact absurd H (by simp)
                 ·rw [if_neg c49] at H
                  exact absurd H (by simp)
                ·rw [if_neg c48] at H
                 exact absurd H (by simp)
            ·rw [if_neg c36] at H
             exact absurd H (by simp)
           ·rw [if_neg c35] at H
            exact absurd H (by simp)
          ·rw [if_neg c34] at H
           have c34b0:decide (x38_2<(t549.length:Int))=false:=decide_eq_false c34
           clear c34
           obtain rfl:=Option.some.inj H
           go_wp2
           go_ret
           exact ⟨by rfl,by repeat ((with_reducible exact HB.out))⟩
       ·rw [if_neg c29] at H
        exact absurd H (by simp)
      ·rw [if_neg c28] at H
       exact absurd H (by simp)
  ·replace c5:=Bool.eq_false_iff.mpr c5
   subst c5
   have H1:(some true)=some r:=by rw [if_neg (show ¬ (false=true) by decide)] at H;exact H
   clear H
   have H:=H1
   clear H1
   obtain rfl:=Option.some.inj H
   go_enter Tryd.func7,Tryd.ntmps7
   go_wp2_with (first|((with_reducible refine qbm (N:=1) rfl ?_);(try (refine qcr (by rfl) ?_;dsimp only));refine qbv ?hg (N:=1) ?hd (cs:=#[.bool a0_0,.int .i64 a0_1,.slice A0_2 l0_2.length c0_2]) (t:=24) ?hr ?_;(case hd=>rfl);(case hg=>rfl);(case hr=>(go_simp;done));intro gb546 hg w73 hbox hb;have BK546:=qaa.mk (hbox);have GW546:=qaa.mk ((by rw [hg];exact (qad HB.out):w.heap.size≤gb546));have GE546:=qaa.mk ((by rw [hg];exact (qad HB.out):w.heap.size≤gb546));replace HB:=qaa.mk (qan HB.out hb);clear hb hbox hg)|((with_reducible refine qbq (f:=11) rfl ?_);refine qdj (some 9) rfl rfl Tryd.func11 (by kernel_rfl) rfl #[] rfl (by (try simp only [List.map_toArray,List.map_cons,List.map_nil]);done) ?_;(with_reducible refine (qbd.calls k  true _ ?side1 A2.out).mono ?_);(case side1=>exact TabW.below' HTB.out HB.out);rintro e w74 ⟨rfl,hb⟩;refine ⟨_,rfl,?_⟩;replace BK546:=qaa.mk (qaf (g:=gb546) (o:=.cells #[.bool a0_0,.int .i64 a0_1,.slice A0_2 l0_2.length c0_2] 24 (0,0)) (by (with_reducible repeat (refine qac ?_));exact BK546.out) hb);replace HB:=qaa.mk (qan HB.out hb);(try clear hb);have hcz75_0:w74.cell? ⟨gb546,0,none⟩=some (.bool a0_0):=(qae BK546.out 0).trans rfl;have hcz75_1:w74.cell? ⟨gb546,1,none⟩=some (.int .i64 a0_1):=(qae BK546.out 1).trans rfl;have hcz75_2:w74.cell? ⟨gb546,2,none⟩=some (.slice A0_2 l0_2.length c0_2):=(qae BK546.out 2).trans rfl;have hfz75_0:=qah BK546.out 0;have hfz75_1:=qah BK546.out 1;have hfz75_2:=qah BK546.out 2)|((with_reducible refine qbq (f:=12) rfl ?_);refine qdj (some 12) rfl rfl Tryd.func12 (by kernel_rfl) rfl #[.agg #[.bool a0_0,.int .i64 a0_1,.slice A0_2 l0_2.length c0_2]] rfl (by (try simp only [List.map_toArray,List.map_cons,List.map_nil]);rfl) ?_;(with_reducible refine (qaq.calls k a0_0 a0_1 _ _ l0_2 false _ ?side1 ?side2 A4.out).mono ?_);(case side1=>repeat (exact (Kd.C_below HR0_2.out HB.out)));(case side2=>exact HC0_2.out);rintro e w76 ⟨rfl,hb⟩;refine ⟨_,rfl,?_⟩;replace BK546:=qaa.mk (qaf (g:=gb546) (o:=.cells #[.bool a0_0,.int .i64 a0_1,.slice A0_2 l0_2.length c0_2] 24 (0,0)) (by (with_reducible repeat (refine qac ?_));exact BK546.out) hb);replace HB:=qaa.mk (qan HB.out hb);(try clear hb)))
   go_ret
   exact ⟨by rfl,by repeat ((with_reducible exact HB.out))⟩
 ·replace c3:=Bool.eq_false_iff.mpr c3
  subst c3
  have H1:(some false)=some r:=by rw [if_neg (show ¬ (false=true) by decide)] at H;exact H
  clear H
  have H:=H1
  clear H1
  obtain rfl:=Option.some.inj H
  go_enter Tryd.func7,Tryd.ntmps7
  go_wp2_with (first|((with_reducible refine qbm (N:=1) rfl ?_);(try (refine qcr (by rfl) ?_;dsimp only));refine qbv ?hg (N:=1) ?hd (cs:=#[.bool a0_0,.int .i64 a0_1,.slice A0_2 l0_2.length c0_2]) (t:=24) ?hr ?_;(case hd=>rfl);(case hg=>rfl);(case hr=>(go_simp;done));intro gb546 hg w77 hbox hb;have BK546:=qaa.mk (hbox);have GW546:=qaa.mk ((by rw [hg];exact (qad HB.out):w.heap.size≤gb546));have GE546:=qaa.mk ((by rw [hg];exact (qad HB.out):w.heap.size≤gb546));replace HB:=qaa.mk (qan HB.out hb);clear hb hbox hg)|((with_reducible refine qbq (f:=11) rfl ?_);refine qdj (some 9) rfl rfl Tryd.func11 (by kernel_rfl) rfl #[] rfl (by (try simp only [List.map_toArray,List.map_cons,List.map_nil]);done) ?_;(with_reducible refine (qbd.calls k  false _ ?side1 A2.out).mono ?_);(case side1=>exact TabW.below' HTB.out HB.out);rintro e w78 ⟨rfl,hb⟩;refine ⟨_,rfl,?_⟩;replace BK546:=qaa.mk (qaf (g:=gb546) (o:=.cells #[.bool a0_0,.int .i64 a0_1,.slice A0_2 l0_2.length c0_2] 24 (0,0)) (by (with_reducible repeat (refine qac ?_));exact BK546.out) hb);replace HB:=qaa.mk (qan HB.out hb);(try clear hb)))
  go_ret
  exact ⟨by rfl,by repeat ((with_reducible exact HB.out))⟩
end
end Go.Proofs.YtmfjmbcfaamebaaDoor.X
namespace Go.Proofs.YtmfjmbcfaamebaaDoor.X
open Go.RowKit Go.Proofs.YtmfjmbcfaamebaaDoorW.PrintWords Go.Proofs.YtmfjmbcfaamebaaDoorW.PrintLast Go.Proofs.YtmfjmbcfaamebaaDoorW.PrintMore
attribute [local go_sem] qbo qca
set_option linter.unusedVariables false
set_option linter.unusedSimpArgs false
def qbg.l0:Nat→List Int→List Int→Int→Int→Option (Bool)
 | 0,_,_,_,_=>none
 | k+1,x0,x1,x12,x13=>if x13<x12 then (if 0≤x13 then (if x13<(x0.length:Int) then (if x13<(x1.length:Int) then (if (rd x0 x13)=(rd x1 x13) then (qbg.l0 k x0 x1 x12 (wrap64 (x13+1))) else (some false)) else (none)) else (none)) else (none)) else (some true)
def qbg.f (k:Nat) (l0:List Int) (l1:List Int):Option (Bool):=if (l0.length:Int)=(l1.length:Int) then (qbg.l0 k l0 l1 (l0.length:Int) 0) else (some false)
theorem qbg.mono_l:∀ k,(∀ y0 y1 y2 y3,LeO (qbg.l0 k y0 y1 y2 y3) (qbg.l0 (k+1) y0 y1 y2 y3))
 | 0=>fun _ _ _ _ r h=>by simp [qbg.l0] at h
 | k+1=>by
  have ih0:=qbg.mono_l k
  ·intro y0 y1 y2 y3
   unfold qbg.l0
   repeat' first|(with_reducible exact ih0 _ _ _ _)|(with_reducible exact LeO.refl _)|(with_reducible refine LeO.ite ?_ ?_)
theorem qbg.mono:∀ a0 a1 k,LeO (qbg.f k a0 a1) (qbg.f (k+1) a0 a1):=by
 intro a0 a1 k
 have ih0:=qbg.mono_l k
 unfold qbg.f
 repeat' first|(with_reducible exact ih0 _ _ _ _)|(with_reducible exact LeO.refl _)|(with_reducible refine LeO.ite ?_ ?_)
end Go.Proofs.YtmfjmbcfaamebaaDoor.X
namespace Go.Proofs.YtmfjmbcfaamebaaDoor.X
open Go.RowKit Go.Proofs.YtmfjmbcfaamebaaDoorW.PrintWords Go.Proofs.YtmfjmbcfaamebaaDoorW.PrintLast Go.Proofs.YtmfjmbcfaamebaaDoorW.PrintMore
attribute [local go_sem] qbo qca
set_option linter.unusedVariables false
set_option linter.unusedSimpArgs false
def qdy.f (k:Nat) (l0_0:List Int) (l1_0:List Int):Option (Bool):=(qbg.f k l0_0 l1_0).bind fun t606=>(some t606)
theorem qdy.mono:∀ a0 a1 k,LeO (qdy.f k a0 a1) (qdy.f (k+1) a0 a1):=by
 intro a0 a1 k
 unfold qdy.f
 repeat' first|(with_reducible exact qbg.mono _ _ _)|(with_reducible exact LeO.refl _)|(with_reducible refine LeO.bind ?_ (fun _=>?_))
end Go.Proofs.YtmfjmbcfaamebaaDoor.X
namespace Go.Proofs.YtmfjmbcfaamebaaDoor.X
open Go.RowKit Go.Proofs.YtmfjmbcfaamebaaDoorW.PrintWords Go.Proofs.YtmfjmbcfaamebaaDoorW.PrintLast Go.Proofs.YtmfjmbcfaamebaaDoorW.PrintMore
attribute [local go_sem] qbo qca
set_option linter.unusedVariables false
set_option linter.unusedSimpArgs false
open Go.Shelf
def qeg.f (l0_0:List Int):Option (List Int):=if setOk l0_0=true∧(els l0_0).length<100000 then some (els l0_0) else none
end Go.Proofs.YtmfjmbcfaamebaaDoor.X
namespace Go.Proofs.YtmfjmbcfaamebaaDoor.X
noncomputable section
open Go.RowKit Go.Proofs.YtmfjmbcfaamebaaDoorW.PrintWords Go.Proofs.YtmfjmbcfaamebaaDoorW.PrintLast Go.Proofs.YtmfjmbcfaamebaaDoorW.PrintMore
attribute [local go_sem] qbo qca
set_option linter.unusedVariables false
set_option linter.unusedSimpArgs false
mutual
def qal.j0:Nat→List (S38)→List Int→Bool→Bool→Int→List (S60)→Option (Bool)
 | 0,_,_,_,_,_,_=>none
 | k+1,x3,x4,x33,x608000,x608001,x608002=>if x33=true then (some false) else (qal.l0 k x3 x4 (x608002.length:Int) 0 x608000 x608001 x608002)
def qal.l0:Nat→List (S38)→List Int→Int→Int→Bool→Int→List (S60)→Option (Bool)
 | 0,_,_,_,_,_,_,_=>none
 | k+1,x3,x4,x36,x37,x608000,x608001,x608002=>if x37<x36 then (if 0≤x37 then (if x37<(x4.length:Int) then (if (rd x4 x37)≥(x608002.length:Int) then (some false) else (if (rd x4 x37)≥0 then (if x37<(x3.length:Int) then (if 0≤(rd x4 x37) then (if (rd x4 x37)<(x3.length:Int) then ((qbz.f k ((qcq x3 (rd x4 x37)).f0) x37).bind fun t619=>((qdy.f k ((qcq x3 x37).f0) t619).bind fun t622=>(if t622=true then (qal.l0 k x3 x4 x36 (wrap64 (x37+1)) x608000 x608001 x608002) else (some false)))) else (none)) else (none)) else (none)) else (qal.l0 k x3 x4 x36 (wrap64 (x37+1)) x608000 x608001 x608002))) else (none)) else (none)) else ((qce.f k x608000 x608001 x608002).bind fun t623=>(qal.l1 k x3 t623 (t623.length:Int) 0 x608000 x608001 x608002))
def qal.l1:Nat→List (S38)→List (S39)→Int→Int→Bool→Int→List (S60)→Option (Bool)
 | 0,_,_,_,_,_,_,_=>none
 | k+1,x3,x69,x70,x71,x608000,x608001,x608002=>if x71<x70 then (if 0≤x71 then (if x71<(x69.length:Int) then ((qbi.f k x608000 x608001 x608002 ((qck x69 x71).f0) ((qck x69 x71).f1)).bind fun t628=>((qeg.f t628).bind fun t631=>(qal.l2 k x3 x69 x70 x71 t631 (t631.length:Int) 0 x608000 x608001 x608002 ((qck x69 x71).f0) ((qck x69 x71).f1)))) else (none)) else (none)) else (some true)
def qal.l2:Nat→List (S38)→List (S39)→Int→Int→List Int→Int→Int→Bool→Int→List (S60)→Int→Int→Option (Bool)
 | 0,_,_,_,_,_,_,_,_,_,_,_,_=>none
 | k+1,x3,x69,x70,x71,x78,x79,x80,x608000,x608001,x608002,x628000,x628001=>if x80<x79 then (if 0≤x80 then (if x80<(x78.length:Int) then (if (rd x78 x80)<0 then (some false) else (if (rd x78 x80)≥(x3.length:Int) then (some false) else (if 0≤(rd x78 x80) then (if (rd x78 x80)<(x3.length:Int) then ((qcc.f ((qcq x3 (rd x78 x80)).f0) x628001).bind fun t636=>(if t636=true then (qal.l2 k x3 x69 x70 x71 x78 x79 (wrap64 (x80+1)) x608000 x608001 x608002 x628000 x628001) else (some false))) else (none)) else (none)))) else (none)) else (none)) else (qal.l1 k x3 x69 x70 (wrap64 (x71+1)) x608000 x608001 x608002)
end
def qal.f (k:Nat) (a0_0:Bool) (a0_1:Int) (l0_2:List (S60)):Option (Bool):=(qbd.f k).bind fun t608=>(if t608=true then ((qaq.f k a0_0 a0_1 l0_2).bind fun t609=>(if t609=true then ((qbn.f a0_0 a0_1 l0_2).bind fun t610=>((qba.f a0_0 a0_1 l0_2).bind fun t613=>(if (t610.length:Int)=(l0_2.length:Int) then (qal.j0 k t610 t613 ((t613.length:Int)!=(l0_2.length:Int)) a0_0 a0_1 l0_2) else (qal.j0 k t610 t613 true a0_0 a0_1 l0_2)))) else (some true))) else (some false))
theorem qal.mono_l:∀ k,(∀ y0 y1 y2 y3 y4 y5,LeO (qal.j0 k y0 y1 y2 y3 y4 y5) (qal.j0 (k+1) y0 y1 y2 y3 y4 y5))∧(∀ y0 y1 y2 y3 y4 y5 y6,LeO (qal.l0 k y0 y1 y2 y3 y4 y5 y6) (qal.l0 (k+1) y0 y1 y2 y3 y4 y5 y6))∧(∀ y0 y1 y2 y3 y4 y5 y6,LeO (qal.l1 k y0 y1 y2 y3 y4 y5 y6) (qal.l1 (k+1) y0 y1 y2 y3 y4 y5 y6))∧(∀ y0 y1 y2 y3 y4 y5 y6 y7 y8 y9 y10 y11,LeO (qal.l2 k y0 y1 y2 y3 y4 y5 y6 y7 y8 y9 y10 y11) (qal.l2 (k+1) y0 y1 y2 y3 y4 y5 y6 y7 y8 y9 y10 y11))
 | 0=>⟨fun _ _ _ _ _ _ r h=>by simp [qal.j0] at h,fun _ _ _ _ _ _ _ r h=>by simp [qal.l0] at h,fun _ _ _ _ _ _ _ r h=>by simp [qal.l1] at h,fun _ _ _ _ _ _ _ _ _ _ _ _ r h=>by simp [qal.l2] at h⟩
 | k+1=>by
  obtain ⟨ih0,ih1,ih2,ih3⟩:=qal.mono_l k
  refine ⟨?_,?_,?_,?_⟩
  ·intro y0 y1 y2 y3 y4 y5
   unfold qal.j0
   repeat' first|(with_reducible exact ih1 _ _ _ _ _ _ _)|(with_reducible exact LeO.refl _)|(with_reducible refine LeO.ite ?_ ?_)
  ·intro y0 y1 y2 y3 y4 y5 y6
   unfold qal.l0
   repeat' first|(with_reducible exact ih1 _ _ _ _ _ _ _)|(with_reducible exact ih2 _ _ _ _ _ _ _)|(with_reducible exact qdy.mono _ _ _)|(with_reducible exact qbz.mono _ _ _)|(with_reducible exact qce.mono _ _ _ _)|(with_reducible exact LeO.refl _)|(with_reducible refine LeO.ite ?_ ?_)|(with_reducible refine LeO.bind ?_ (fun _=>?_))
  ·intro y0 y1 y2 y3 y4 y5 y6
   unfold qal.l1
   repeat' first|(with_reducible exact ih3 _ _ _ _ _ _ _ _ _ _ _ _)|(with_reducible exact qbi.mono _ _ _ _ _ _)|(with_reducible exact LeO.refl _)|(with_reducible refine LeO.ite ?_ ?_)|(with_reducible refine LeO.bind ?_ (fun _=>?_))
  ·intro y0 y1 y2 y3 y4 y5 y6 y7 y8 y9 y10 y11
   unfold qal.l2
   repeat' first|(with_reducible exact ih2 _ _ _ _ _ _ _)|(with_reducible exact ih3 _ _ _ _ _ _ _ _ _ _ _ _)|(with_reducible exact LeO.refl _)|(with_reducible refine LeO.ite ?_ ?_)|(with_reducible refine LeO.bind ?_ (fun _=>?_))
theorem qal.mono:∀ a0 a1 a2 k,LeO (qal.f k a0 a1 a2) (qal.f (k+1) a0 a1 a2):=by
 intro a0 a1 a2 k
 obtain ⟨ih0,ih1,ih2,ih3⟩:=qal.mono_l k
 unfold qal.f
 repeat' first|(with_reducible exact ih0 _ _ _ _ _ _)|(with_reducible exact qbd.mono _)|(with_reducible exact qaq.mono _ _ _ _)|(with_reducible exact LeO.refl _)|(with_reducible refine LeO.ite ?_ ?_)|(with_reducible refine LeO.bind ?_ (fun _=>?_))
end
end Go.Proofs.YtmfjmbcfaamebaaDoor.X
namespace Go.Proofs.YtmfjmbcfaamebaaDoor.X
open Go.RowKit Go.Proofs.YtmfjmbcfaamebaaDoorW.PrintWords Go.Proofs.YtmfjmbcfaamebaaDoorW.PrintLast Go.Proofs.YtmfjmbcfaamebaaDoorW.PrintMore
inductive Rch (T:Int→List Int) (av:Int→Prop):Int→Int→Prop
 | refl {a:Int}:¬ av a→Rch T av a a
 | step {a b c:Int}:Rch T av a b→c∈T b→¬ av c→Rch T av a c
section
variable {T:Int→List Int} {av av':Int→Prop} {a b c:Int}
theorem Rch.first (h:Rch T av a b):¬ av a:=by
 induction h with
 | refl h=>exact h
 | step _ _ _ ih=>exact ih
theorem Rch.last (h:Rch T av a b):¬ av b:=by
 cases h with
 | refl h=>exact h
 | step _ _ h=>exact h
theorem Rch.mono (hm:∀ x,av' x→av x) (h:Rch T av a b):Rch T av' a b:=by
 induction h with
 | refl h=>exact .refl (fun e=>h (hm _ e))
 | step _ h1 h2 ih=>exact .step ih h1 (fun e=>h2 (hm _ e))
theorem Rch.trans (h:Rch T av a b) (h':Rch T av b c):Rch T av a c:=by
 induction h' with
 | refl _=>exact h
 | step _ h1 h2 ih=>exact .step ih h1 h2
theorem Rch.split (h:Rch T av a c) (b:Int):Rch T (fun x=>av x∨x=b) a c∨Rch T av a b:=by
 induction h with
 | @refl h=>
  by_cases e:a=b
  ·subst e;exact .inr (.refl h)
  ·exact .inl (.refl (fun hh=>hh.elim h e))
 | @step x y h0 h1 h2 ih=>
  rcases ih with ih|ih
  ·by_cases e:y=b
   ·subst e;exact .inr (.step h0 h1 h2)
   ·exact .inl (.step ih h1 (fun hh=>hh.elim h2 e))
  ·exact .inr ih
theorem Rch.congr (hm:∀ x,av x↔av' x):Rch T av a b↔Rch T av' a b:=⟨mono (fun x h=>(hm x).2 h),mono (fun x h=>(hm x).1 h)⟩
theorem Rch.closed {P:Int→Prop} (h:Rch T av a b) (h0:P a) (hc:∀ x,P x→∀ y∈T x,¬ av y→P y):P b:=by
 induction h with
 | refl _=>exact h0
 | step _ h1 h2 ih=>exact hc _ (ih) _ h1 h2
end
def noN:Int→Prop:=fun _=>False
def Dm (T:Int→List Int) (r d n:Int):Prop:=Rch T noN r n∧¬ Rch T (fun x=>x=d) r n
section
variable {T:Int→List Int} {r a b c n:Int}
theorem Dm.self (h:Rch T noN r n):Dm T r n n:=⟨h,fun h'=>h'.last rfl⟩
theorem Dm.rch (h:Dm T r a n):Rch T noN r a:=by
 rcases h.1.split a with h'|h'
 ·exact absurd (h'.mono (fun x e=>.inr e)) h.2
 ·exact h'
theorem Dm.trans (h1:Dm T r a b) (h2:Dm T r b c):Dm T r a c:=by
 refine ⟨h2.1,fun h=>?_⟩
 rcases h.split b with h'|h'
 ·exact h2.2 (h'.mono (fun x e=>.inr e))
 ·exact h1.2 h'
theorem Dm.antisymm (h1:Dm T r a b) (h2:Dm T r b a):a=b:=by
 by_cases hab:a=b
 ·exact hab
 ·exfalso
  have key:∀ x,Rch T noN r x→Rch T (fun x=>x=a∨x=b) r x∨Rch T (fun x=>x=b) r a∨Rch T (fun x=>x=a) r b:=by
   intro x hx
   induction hx with
   | refl _=>
    by_cases e:r=a
    ·subst e;exact .inr (.inl (.refl hab))
    ·by_cases e':r=b
     ·subst e';exact .inr (.inr (.refl (fun h=>hab h.symm)))
     ·exact .inl (.refl (fun hh=>hh.elim e e'))
   | @step x y _ hE _ ih=>
    rcases ih with ih|ih
    ·by_cases e:y=a
     ·subst e;exact .inr (.inl (.step (ih.mono (fun x e=>.inr e)) hE hab))
     ·by_cases e':y=b
      ·subst e';exact .inr (.inr (.step (ih.mono (fun x e=>.inl e)) hE (fun h=>hab h.symm)))
      ·exact .inl (.step ih hE (fun hh=>hh.elim e e'))
    ·exact .inr ih
  rcases key a h2.1 with h|h|h
  ·exact h.last (.inl rfl)
  ·exact h2.2 h
  ·exact h1.2 h
theorem Dm.chain (h1:Dm T r a n) (h2:Dm T r b n):Dm T r a b∨Dm T r b a:=by
 by_cases hab:a=b
 ·subst hab;exact .inl (Dm.self h1.rch)
 ·by_cases ha:Dm T r a b
  ·exact .inl ha
  ·by_cases hb:Dm T r b a
   ·exact .inr hb
   ·exfalso
    have e1:Rch T (fun x=>x=a) r b:=Classical.byContradiction fun h=>ha ⟨h2.rch,h⟩
    have e2:Rch T (fun x=>x=b) r a:=Classical.byContradiction fun h=>hb ⟨h1.rch,h⟩
    have key:∀ x,Rch T noN r x→Rch T (fun x=>x=a) r x∨Rch T (fun x=>x=b) r x:=by
     intro x hx
     induction hx with
     | refl _=>
      by_cases e:r=a
      ·subst e;exact .inr (.refl hab)
      ·exact .inl (.refl e)
     | @step x y _ h1 _ ih=>
      rcases ih with ih|ih
      ·by_cases e:y=a
       ·subst e;exact .inr e2
       ·exact .inl (.step ih h1 e)
      ·by_cases e:y=b
       ·subst e;exact .inl e1
       ·exact .inr (.step ih h1 e)
    rcases key n h1.1 with h|h
    ·exact h1.2 h
    ·exact h2.2 h
end
inductive Dfs (T:Int→List Int):List Int→List Int→List Int→List Int→Prop
 | nil {s:List Int}:Dfs T s [] [] s
 | skip {s:List Int} {n:Int} {ts p s':List Int}:n∈s→Dfs T s ts p s'→Dfs T s (n::ts) p s'
 | go {s:List Int} {n:Int} {ts p1 s1 p2 s2:List Int}:n∉s→Dfs T (s++[n]) (T n) p1 s1→Dfs T s1 ts p2 s2→Dfs T s (n::ts) (p1++n::p2) s2
def qfy (U s:List Int):Nat:=(U.filter (fun x=>decide (x∉s))).length
theorem leftIn_le {U s s':List Int} (h:∀ x∈s,x∈s'):qfy U s'≤qfy U s:=by
 unfold qfy
 induction U with
 | nil=>simp
 | cons a t ih=>
  simp only [List.filter_cons]
  by_cases h1:a∈s'
  ·by_cases h2:a∈s
   ·simpa [h1,h2] using ih
   ·simp [h1,h2];simp at ih;omega
  ·have h2:a∉s:=fun e=>h1 (h _ e)
   simpa [h1,h2] using ih
theorem leftIn_lt {U s:List Int} {n:Int} (hU:n∈U) (hs:n∉s):qfy U (s++[n])<qfy U s:=by
 induction U with
 | nil=>simp at hU
 | cons a t ih=>
  have hle:qfy t (s++[n])≤qfy t s:=leftIn_le (fun x h=>List.mem_append_left _ h)
  unfold qfy at *
  simp only [List.filter_cons]
  by_cases e:a=n
  ·subst e
   simp [hs];simp at hle;omega
  ·have:=ih (by simpa [Ne.symm e] using hU)
   by_cases h2:a∈s
   ·simp [h2];simpa using this
   ·simp [h2,e];simpa using this
theorem Dfs.exists {T:Int→List Int} {U:List Int} (hT:∀ x∈U,∀ y∈T x,y∈U):∀ (m:Nat) (s ts:List Int),qfy U s≤m→(∀ t∈ts,t∈U)→∃ p s',Dfs T s ts p s'∧∀ x∈s,x∈s':=by
 intro m
 induction m with
 | zero=>
  intro s ts
  induction ts with
  | nil=>intro _ _;exact ⟨[],s,.nil,fun _ h=>h⟩
  | cons t ts ih=>
   intro hm ht
   have hts:t∈s:=Classical.byContradiction fun h=>by have:=leftIn_lt (ht t (List.mem_cons_self ..)) h;omega
   obtain ⟨p,s',h1,h2⟩:=ih hm (fun x h=>ht x (List.mem_cons_of_mem _ h))
   exact ⟨p,s',.skip hts h1,h2⟩
 | succ m ihm=>
  intro s ts
  induction ts generalizing s with
  | nil=>intro _ _;exact ⟨[],s,.nil,fun _ h=>h⟩
  | cons t ts ih=>
   intro hm ht
   by_cases hts:t∈s
   ·obtain ⟨p,s',h1,h2⟩:=ih s hm (fun x h=>ht x (List.mem_cons_of_mem _ h))
    exact ⟨p,s',.skip hts h1,h2⟩
   ·have hU:=ht t (List.mem_cons_self ..)
    have hlt:=leftIn_lt hU hts
    obtain ⟨p1,s1,h1,h2⟩:=ihm (s++[t]) (T t) (by omega) (hT t hU)
    have hs1:∀ x∈s,x∈s1:=fun x h=>h2 x (List.mem_append_left _ h)
    obtain ⟨p2,s2,h3,h4⟩:=ih s1 (Nat.le_trans (leftIn_le hs1) hm) (fun x h=>ht x (List.mem_cons_of_mem _ h))
    exact ⟨_,s2,.go hts h1 h3,fun x h=>h4 x (hs1 x h)⟩
section
variable {T:Int→List Int} {s ts p s':List Int}
theorem Dfs.mem (h:Dfs T s ts p s'):∀ x,x∈s'↔x∈s∨x∈p:=by
 induction h with
 | nil=>simp
 | skip _ _ ih=>exact ih
 | go h0 _ _ ih1 ih2=>
  intro x
  rw [ih2,ih1]
  simp only [List.mem_append,List.mem_cons,List.not_mem_nil,or_false]
  constructor
  ·rintro (((h|h)|h)|h)
   ·exact .inl h
   ·exact .inr (.inr (.inl h))
   ·exact .inr (.inl h)
   ·exact .inr (.inr (.inr h))
  ·rintro (h|h|h|h)
   ·exact .inl (.inl (.inl h))
   ·exact .inl (.inr h)
   ·exact .inl (.inl (.inr h))
   ·exact .inr h
theorem Dfs.len (h:Dfs T s ts p s'):s'.length=s.length+p.length:=by
 induction h with
 | nil=>simp
 | skip _ _ ih=>exact ih
 | go _ _ _ ih1 ih2=>simp at ih1 ih2 ⊢;omega
theorem Dfs.fresh (h:Dfs T s ts p s'):∀ x∈p,x∉s:=by
 induction h with
 | nil=>simp
 | skip _ _ ih=>exact ih
 | @go s n ts p1 s1 p2 s2 h0 h1 _ ih1 ih2=>
  intro x hx hs
  rcases List.mem_append.1 hx with h|h
  ·exact ih1 x h (List.mem_append_left _ hs)
  ·rcases List.mem_cons.1 h with rfl|h
   ·exact h0 hs
   ·exact ih2 x h ((h1.mem x).2 (.inl (List.mem_append_left _ hs)))
theorem Dfs.nodup (h:Dfs T s ts p s'):p.Nodup:=by
 induction h with
 | nil=>simp
 | skip _ _ ih=>exact ih
 | @go s n ts p1 s1 p2 s2 h0 h1 h2 ih1 ih2=>
  rw [List.nodup_append]
  refine ⟨ih1,?_,?_⟩
  ·rw [List.nodup_cons]
   exact ⟨fun h=>h2.fresh n h ((h1.mem n).2 (.inl (by simp))),ih2⟩
  ·intro a ha b hb e
   subst e
   rcases List.mem_cons.1 hb with rfl|hb
   ·exact h1.fresh a ha (by simp)
   ·exact h2.fresh a hb ((h1.mem a).2 (.inr ha))
theorem Dfs.reach (h:Dfs T s ts p s'):∀ x∈p,∃ t∈ts,Rch T (fun y=>y∈s) t x:=by
 induction h with
 | nil=>simp
 | skip _ _ ih=>
  intro x hx
  obtain ⟨t,ht,hr⟩:=ih x hx
  exact ⟨t,List.mem_cons_of_mem _ ht,hr⟩
 | @go s n ts p1 s1 p2 s2 h0 h1 _ ih1 ih2=>
  intro x hx
  rcases List.mem_append.1 hx with h|h
  ·obtain ⟨t,ht,hr⟩:=ih1 x h
   have hr':=hr.mono (av':=fun y=>y∈s) (fun y hy=>List.mem_append_left _ hy)
   exact ⟨n,List.mem_cons_self ..,(Rch.step (.refl h0) ht hr'.first).trans hr'⟩
  ·rcases List.mem_cons.1 h with rfl|h
   ·exact ⟨x,List.mem_cons_self ..,.refl h0⟩
   ·obtain ⟨t,ht,hr⟩:=ih2 x h
    exact ⟨t,List.mem_cons_of_mem _ ht,hr.mono (fun y hy=>(h1.mem y).2 (.inl (List.mem_append_left _ hy)))⟩
theorem Dfs.done (h:Dfs T s ts p s'):(∀ t∈ts,t∈s')∧∀ x∈p,∀ y∈T x,y∈s':=by
 induction h with
 | nil=>simp
 | skip h0 h1 ih=>
  refine ⟨fun t ht=>?_,ih.2⟩
  rcases List.mem_cons.1 ht with rfl|ht
  ·exact (h1.mem _).2 (.inl h0)
  ·exact ih.1 t ht
 | @go s n ts p1 s1 p2 s2 h0 h1 h2 ih1 ih2=>
  have up:∀ x,x∈s1→x∈s2:=fun x h=>(h2.mem x).2 (.inl h)
  refine ⟨fun t ht=>?_,fun x hx y hy=>?_⟩
  ·rcases List.mem_cons.1 ht with rfl|ht
   ·exact up _ ((h1.mem _).2 (.inl (by simp)))
   ·exact ih2.1 t ht
  ·rcases List.mem_append.1 hx with h|h
   ·exact up _ (ih1.2 x h y hy)
   ·rcases List.mem_cons.1 h with rfl|h
    ·exact up _ (ih1.1 y hy)
    ·exact ih2.2 x h y hy
theorem Dfs.found {n:Int} (h:Dfs T s [n] p s'):∀ x,x∈p↔Rch T (fun y=>y∈s) n x:=by
 intro x
 constructor
 ·intro hx
  obtain ⟨t,ht,hr⟩:=h.reach x hx
  rw [List.mem_singleton.1 ht] at hr
  exact hr
 ·intro hr
  have in':∀ y,y∈s'→y∉s→y∈p:=fun y h1 h2=>((h.mem y).1 h1).resolve_left h2
  exact hr.closed (in' n (h.done.1 n (by simp)) hr.first) (fun y hy z hz hn=>in' z (h.done.2 y hy z hz) hn)
theorem Dfs.order {r d:Int} (h:Dfs T s ts p s') (ht:∀ t∈ts,t≠d→Rch T (fun x=>x=d) r t) :
  ∀ v∈p,Rch T (fun x=>x=d) r v∨∃ A B,p=A++d::B∧(v∈A∨v=d):=by
 induction h with
 | nil=>simp
 | skip _ _ ih=>exact ih (fun t h=>ht t (List.mem_cons_of_mem _ h))
 | @go s n ts p1 s1 p2 s2 h0 h1 h2 ih1 ih2=>
  intro v hv
  have hn:=ht n (List.mem_cons_self ..)
  by_cases e:n=d
  ·subst e
   rcases List.mem_append.1 hv with h|h
   ·exact .inr ⟨p1,p2,rfl,.inl h⟩
   ·rcases List.mem_cons.1 h with rfl|h
    ·exact .inr ⟨p1,p2,rfl,.inr rfl⟩
    ·rcases ih2 (fun t h=>ht t (List.mem_cons_of_mem _ h)) v h with h'|⟨A,B,h',h''⟩
     ·exact .inl h'
     ·refine .inr ⟨p1++n::A,B,by rw [h'];simp,?_⟩
      rcases h'' with h''|h''
      ·exact .inl (by simp [h''])
      ·exact .inr h''
  ·rcases List.mem_append.1 hv with h|h
   ·rcases ih1 (fun t h' e'=>.step (hn e) h' e') v h with h'|⟨A,B,h',h''⟩
    ·exact .inl h'
    ·exact .inr ⟨A,B++n::p2,by rw [h'];simp,h''⟩
   ·rcases List.mem_cons.1 h with rfl|h
    ·exact .inl (hn e)
    ·rcases ih2 (fun t h=>ht t (List.mem_cons_of_mem _ h)) v h with h'|⟨A,B,h',h''⟩
     ·exact .inl h'
     ·refine .inr ⟨p1++n::A,B,by rw [h'];simp,?_⟩
      rcases h'' with h''|h''
      ·exact .inl (by simp [h''])
      ·exact .inr h''
end
end Go.Proofs.YtmfjmbcfaamebaaDoor.X
namespace Go.Proofs.YtmfjmbcfaamebaaDoor.X
open Go.RowKit Go.Proofs.YtmfjmbcfaamebaaDoorW.PrintWords Go.Proofs.YtmfjmbcfaamebaaDoorW.PrintLast Go.Proofs.YtmfjmbcfaamebaaDoorW.PrintMore
attribute [local go_sem] qbo qca
set_option linter.unusedVariables false
set_option linter.unusedSimpArgs false
def qfx.f (a0:Int):Option (Bool):=if a0≥0 then (some (decide (a0≤65535))) else (some false)
end Go.Proofs.YtmfjmbcfaamebaaDoor.X
namespace Go.Proofs.YtmfjmbcfaamebaaDoor.X
open Go.RowKit Go.Proofs.YtmfjmbcfaamebaaDoorW.PrintWords Go.Proofs.YtmfjmbcfaamebaaDoorW.PrintLast Go.Proofs.YtmfjmbcfaamebaaDoorW.PrintMore
attribute [local go_sem] qbo qca
set_option linter.unusedVariables false
set_option linter.unusedSimpArgs false
mutual
def qaw.j0:Nat→List Int→Int→Bool→Option (List Int)
 | 0,_,_,_=>none
 | k+1,x0,x1,x14=>if x14=true then (some x0) else (qaw.l0 k x0 x1 0)
def qaw.l0:Nat→List Int→Int→Int→Option (List Int)
 | 0,_,_,_=>none
 | k+1,x0,x1,x5=>if x5<(x0.length:Int) then (if 0≤x5 then (if (rd x0 x5)<x1 then (qaw.l0 k x0 x1 (wrap64 (x5+1))) else ((some (([]:List Int):List Int)).bind fun y236=>(if x5≤(x0.length:Int) then ((some (x0.take (x5:Int).toNat:List Int)).bind fun y239=>(if y236.length+y239.length<17592186044416 then ((some (y236++y239:List Int)).bind fun y243=>(if y243.length<17592186044416 then ((some (y243++[x1]:List Int)).bind fun y246=>((some (x0.drop (x5:Int).toNat:List Int)).bind fun y249=>(if y246.length+y249.length<17592186044416 then (some (y246++y249)) else (none)))) else (none))) else (none))) else (none)))) else (none)) else ((some (([]:List Int):List Int)).bind fun y256=>(if 0≤x5 then (if x5≤(x0.length:Int) then ((some (x0.take (x5:Int).toNat:List Int)).bind fun y259=>(if y256.length+y259.length<17592186044416 then ((some (y256++y259:List Int)).bind fun y263=>(if y263.length<17592186044416 then ((some (y263++[x1]:List Int)).bind fun y266=>((some (x0.drop (x5:Int).toNat:List Int)).bind fun y269=>(if y266.length+y269.length<17592186044416 then (some (y266++y269)) else (none)))) else (none))) else (none))) else (none)) else (none)))
end
def qaw.f (k:Nat) (l0:List Int) (a1:Int):Option (List Int):=(qfx.f a1).bind fun t233=>(if t233=true then ((qay.f k l0 a1).bind fun t234=>(qaw.j0 k l0 a1 t234)) else (qaw.j0 k l0 a1 true))
theorem qaw.mono_l:∀ k,(∀ y0 y1 y2,LeO (qaw.j0 k y0 y1 y2) (qaw.j0 (k+1) y0 y1 y2))∧(∀ y0 y1 y2,LeO (qaw.l0 k y0 y1 y2) (qaw.l0 (k+1) y0 y1 y2))
 | 0=>⟨fun _ _ _ r h=>by simp [qaw.j0] at h,fun _ _ _ r h=>by simp [qaw.l0] at h⟩
 | k+1=>by
  obtain ⟨ih0,ih1⟩:=qaw.mono_l k
  refine ⟨?_,?_⟩
  ·intro y0 y1 y2
   unfold qaw.j0
   repeat' first|(with_reducible exact ih1 _ _ _)|(with_reducible exact LeO.refl _)|(with_reducible refine LeO.ite ?_ ?_)
  ·intro y0 y1 y2
   unfold qaw.l0
   repeat' first|(with_reducible exact ih1 _ _ _)|(with_reducible exact LeO.refl _)|(with_reducible refine LeO.ite ?_ ?_)
theorem qaw.mono:∀ a0 a1 k,LeO (qaw.f k a0 a1) (qaw.f (k+1) a0 a1):=by
 intro a0 a1 k
 obtain ⟨ih0,ih1⟩:=qaw.mono_l k
 unfold qaw.f
 repeat' first|(with_reducible exact ih0 _ _ _)|(with_reducible exact qay.mono _ _ _)|(with_reducible exact LeO.refl _)|(with_reducible refine LeO.ite ?_ ?_)|(with_reducible refine LeO.bind ?_ (fun _=>?_))
end Go.Proofs.YtmfjmbcfaamebaaDoor.X
namespace Go.Proofs.YtmfjmbcfaamebaaDoor.X
open Go.RowKit Go.Proofs.YtmfjmbcfaamebaaDoorW.PrintWords Go.Proofs.YtmfjmbcfaamebaaDoorW.PrintLast Go.Proofs.YtmfjmbcfaamebaaDoorW.PrintMore
attribute [local go_sem] qbo qca
set_option linter.unusedVariables false
set_option linter.unusedSimpArgs false
def qbu.l0:Nat→List Int→List Int→Int→Int→Option (List Int)
 | 0,_,_,_,_=>none
 | k+1,x3,x6,x7,x8=>if x8<x7 then (if 0≤x8 then (if x8<(x6.length:Int) then ((qaw.f k x3 (rd x6 x8)).bind fun t277=>(qbu.l0 k t277 x6 x7 (wrap64 (x8+1)))) else (none)) else (none)) else (some x3)
def qbu.f (k:Nat) (l0:List Int):Option (List Int):=qbu.l0 k ([]:List Int) l0 (l0.length:Int) 0
theorem qbu.mono_l:∀ k,(∀ y0 y1 y2 y3,LeO (qbu.l0 k y0 y1 y2 y3) (qbu.l0 (k+1) y0 y1 y2 y3))
 | 0=>fun _ _ _ _ r h=>by simp [qbu.l0] at h
 | k+1=>by
  have ih0:=qbu.mono_l k
  ·intro y0 y1 y2 y3
   unfold qbu.l0
   repeat' first|(with_reducible exact ih0 _ _ _ _)|(with_reducible exact qaw.mono _ _ _)|(with_reducible exact LeO.refl _)|(with_reducible refine LeO.ite ?_ ?_)|(with_reducible refine LeO.bind ?_ (fun _=>?_))
theorem qbu.mono:∀ a0 k,LeO (qbu.f k a0) (qbu.f (k+1) a0):=by
 intro a0 k
 have ih0:=qbu.mono_l k
 unfold qbu.f
 repeat' (with_reducible exact ih0 _ _ _ _)
end Go.Proofs.YtmfjmbcfaamebaaDoor.X
namespace Go.Proofs.YtmfjmbcfaamebaaDoor.X
open Go.RowKit Go.Proofs.YtmfjmbcfaamebaaDoorW.PrintWords Go.Proofs.YtmfjmbcfaamebaaDoorW.PrintLast Go.Proofs.YtmfjmbcfaamebaaDoorW.PrintMore
attribute [local go_sem] qbo qca
set_option linter.unusedVariables false
set_option linter.unusedSimpArgs false
mutual
def qak.j0:Nat→List Int→Bool→Bool→Int→List (S60)→List (S85)→Int→Int→Int→Int→Option (List Int)
 | 0,_,_,_,_,_,_,_,_,_,_=>none
 | k+1,x5,x22,x281000,x281001,x281002,x283000,x283001,x283002,x283003,x283004=>if x22=true then (if x5.length<17592186044416 then (qak.j1 k (x5++[x283003]) x281000 x281001 x281002 x283000 x283001 x283002 x283003 x283004) else (none)) else (qak.j1 k x5 x281000 x281001 x281002 x283000 x283001 x283002 x283003 x283004)
def qak.j1:Nat→List Int→Bool→Int→List (S60)→List (S85)→Int→Int→Int→Int→Option (List Int)
 | 0,_,_,_,_,_,_,_,_,_=>none
 | k+1,x5,x281000,x281001,x281002,x283000,x283001,x283002,x283003,x283004=>if x283001=2 then (if x5.length<17592186044416 then (qak.j2 k (x5++[x283004]) x281000 x281001 x281002) else (none)) else (qak.j2 k x5 x281000 x281001 x281002)
def qak.j2:Nat→List Int→Bool→Int→List (S60)→Option (List Int)
 | 0,_,_,_,_=>none
 | k+1,x5,x281000,x281001,x281002=>qak.l0 k ([]:List Int) x5 (x5.length:Int) 0 x281000 x281001 x281002
def qak.l0:Nat→List Int→List Int→Int→Int→Bool→Int→List (S60)→Option (List Int)
 | 0,_,_,_,_,_,_,_=>none
 | k+1,x7,x36,x37,x38,x281000,x281001,x281002=>if x38<x37 then (if 0≤x38 then (if x38<(x36.length:Int) then (if (rd x36 x38)≥0 then (if (rd x36 x38)<(x281002.length:Int) then (if x7.length<17592186044416 then (qak.l0 k (x7++[rd x36 x38]) x36 x37 (wrap64 (x38+1)) x281000 x281001 x281002) else (none)) else (qak.l0 k x7 x36 x37 (wrap64 (x38+1)) x281000 x281001 x281002)) else (qak.l0 k x7 x36 x37 (wrap64 (x38+1)) x281000 x281001 x281002)) else (none)) else (none)) else (some x7)
end
def qak.f (k:Nat) (a0_0:Bool) (a0_1:Int) (l0_2:List (S60)) (a1:Int):Option (List Int):=if 0≤a1 then (if a1<(l0_2.length:Int) then (if ((qbk l0_2 a1).f1)=1 then (qak.j0 k ([]:List Int) true a0_0 a0_1 l0_2 ((qbk l0_2 a1).f0) ((qbk l0_2 a1).f1) ((qbk l0_2 a1).f2) ((qbk l0_2 a1).f3) ((qbk l0_2 a1).f4)) else (qak.j0 k ([]:List Int) (((qbk l0_2 a1).f1)==2) a0_0 a0_1 l0_2 ((qbk l0_2 a1).f0) ((qbk l0_2 a1).f1) ((qbk l0_2 a1).f2) ((qbk l0_2 a1).f3) ((qbk l0_2 a1).f4))) else (none)) else (none)
theorem qak.mono_l:∀ k,(∀ y0 y1 y2 y3 y4 y5 y6 y7 y8 y9,LeO (qak.j0 k y0 y1 y2 y3 y4 y5 y6 y7 y8 y9) (qak.j0 (k+1) y0 y1 y2 y3 y4 y5 y6 y7 y8 y9))∧(∀ y0 y1 y2 y3 y4 y5 y6 y7 y8,LeO (qak.j1 k y0 y1 y2 y3 y4 y5 y6 y7 y8) (qak.j1 (k+1) y0 y1 y2 y3 y4 y5 y6 y7 y8))∧(∀ y0 y1 y2 y3,LeO (qak.j2 k y0 y1 y2 y3) (qak.j2 (k+1) y0 y1 y2 y3))∧(∀ y0 y1 y2 y3 y4 y5 y6,LeO (qak.l0 k y0 y1 y2 y3 y4 y5 y6) (qak.l0 (k+1) y0 y1 y2 y3 y4 y5 y6))
 | 0=>⟨fun _ _ _ _ _ _ _ _ _ _ r h=>by simp [qak.j0] at h,fun _ _ _ _ _ _ _ _ _ r h=>by simp [qak.j1] at h,fun _ _ _ _ r h=>by simp [qak.j2] at h,fun _ _ _ _ _ _ _ r h=>by simp [qak.l0] at h⟩
 | k+1=>by
  obtain ⟨ih0,ih1,ih2,ih3⟩:=qak.mono_l k
  refine ⟨?_,?_,?_,?_⟩
  ·intro y0 y1 y2 y3 y4 y5 y6 y7 y8 y9
   unfold qak.j0
   repeat' first|(with_reducible exact ih1 _ _ _ _ _ _ _ _ _)|(with_reducible exact LeO.refl _)|(with_reducible refine LeO.ite ?_ ?_)
  ·intro y0 y1 y2 y3 y4 y5 y6 y7 y8
   unfold qak.j1
   repeat' first|(with_reducible exact ih2 _ _ _ _)|(with_reducible exact LeO.refl _)|(with_reducible refine LeO.ite ?_ ?_)
  ·intro y0 y1 y2 y3
   unfold qak.j2
   repeat' (with_reducible exact ih3 _ _ _ _ _ _ _)
  ·intro y0 y1 y2 y3 y4 y5 y6
   unfold qak.l0
   repeat' first|(with_reducible exact ih3 _ _ _ _ _ _ _)|(with_reducible exact LeO.refl _)|(with_reducible refine LeO.ite ?_ ?_)
theorem qak.mono:∀ a0 a1 a2 a3 k,LeO (qak.f k a0 a1 a2 a3) (qak.f (k+1) a0 a1 a2 a3):=by
 intro a0 a1 a2 a3 k
 obtain ⟨ih0,ih1,ih2,ih3⟩:=qak.mono_l k
 unfold qak.f
 repeat' first|(with_reducible exact ih0 _ _ _ _ _ _ _ _ _ _)|(with_reducible exact LeO.refl _)|(with_reducible refine LeO.ite ?_ ?_)
end Go.Proofs.YtmfjmbcfaamebaaDoor.X
namespace Go.Proofs.YtmfjmbcfaamebaaDoor.X
open Go.RowKit Go.Proofs.YtmfjmbcfaamebaaDoorW.PrintWords Go.Proofs.YtmfjmbcfaamebaaDoorW.PrintLast Go.Proofs.YtmfjmbcfaamebaaDoorW.PrintMore
attribute [local go_sem] qbo qca
set_option linter.unusedVariables false
set_option linter.unusedSimpArgs false
mutual
def qam.j0:Nat→Int→List Int→Bool→Bool→Int→List (S60)→Option (List Int)
 | 0,_,_,_,_,_,_=>none
 | k+1,x1,x2,x24,x304000,x304001,x304002=>if x24=true then (some ([]:List Int)) else (qam.l0 k x2 (([x1]:List Int)) 0 x304000 x304001 x304002)
def qam.l0:Nat→List Int→List Int→Int→Bool→Int→List (S60)→Option (List Int)
 | 0,_,_,_,_,_,_=>none
 | k+1,x2,x7,x8,x304000,x304001,x304002=>if x8<(x7.length:Int) then (if 0≤x8 then ((qak.f k x304000 x304001 x304002 (rd x7 x8)).bind fun t312=>(qam.l1 k x2 x7 x8 t312 (t312.length:Int) 0 x304000 x304001 x304002)) else (none)) else ((qbu.f k x7).bind fun t308=>(some t308))
def qam.l1:Nat→List Int→List Int→Int→List Int→Int→Int→Bool→Int→List (S60)→Option (List Int)
 | 0,_,_,_,_,_,_,_,_,_=>none
 | k+1,x2,x7,x8,x38,x39,x40,x304000,x304001,x304002=>if x40<x39 then (if 0≤x40 then (if x40<(x38.length:Int) then ((qay.f k x7 (rd x38 x40)).bind fun t316=>(if t316=true then (qam.l1 k x2 x7 x8 x38 x39 (wrap64 (x40+1)) x304000 x304001 x304002) else ((qay.f k x2 (rd x38 x40)).bind fun t317=>(if t317=true then (qam.l1 k x2 x7 x8 x38 x39 (wrap64 (x40+1)) x304000 x304001 x304002) else (if x7.length<17592186044416 then (qam.l1 k x2 (x7++[rd x38 x40]) x8 x38 x39 (wrap64 (x40+1)) x304000 x304001 x304002) else (none)))))) else (none)) else (none)) else (qam.l0 k x2 x7 (wrap64 (x8+1)) x304000 x304001 x304002)
end
def qam.f (k:Nat) (a0_0:Bool) (a0_1:Int) (l0_2:List (S60)) (a1:Int) (l2:List Int):Option (List Int):=if a1<0 then (qam.j0 k a1 l2 true a0_0 a0_1 l0_2) else (if a1≥(l0_2.length:Int) then (qam.j0 k a1 l2 true a0_0 a0_1 l0_2) else ((qay.f k l2 a1).bind fun t304=>(qam.j0 k a1 l2 t304 a0_0 a0_1 l0_2)))
theorem qam.mono_l:∀ k,(∀ y0 y1 y2 y3 y4 y5,LeO (qam.j0 k y0 y1 y2 y3 y4 y5) (qam.j0 (k+1) y0 y1 y2 y3 y4 y5))∧(∀ y0 y1 y2 y3 y4 y5,LeO (qam.l0 k y0 y1 y2 y3 y4 y5) (qam.l0 (k+1) y0 y1 y2 y3 y4 y5))∧(∀ y0 y1 y2 y3 y4 y5 y6 y7 y8,LeO (qam.l1 k y0 y1 y2 y3 y4 y5 y6 y7 y8) (qam.l1 (k+1) y0 y1 y2 y3 y4 y5 y6 y7 y8))
 | 0=>⟨fun _ _ _ _ _ _ r h=>by simp [qam.j0] at h,fun _ _ _ _ _ _ r h=>by simp [qam.l0] at h,fun _ _ _ _ _ _ _ _ _ r h=>by simp [qam.l1] at h⟩
 | k+1=>by
  obtain ⟨ih0,ih1,ih2⟩:=qam.mono_l k
  refine ⟨?_,?_,?_⟩
  ·intro y0 y1 y2 y3 y4 y5
   unfold qam.j0
   repeat' first|(with_reducible exact ih1 _ _ _ _ _ _)|(with_reducible exact LeO.refl _)|(with_reducible refine LeO.ite ?_ ?_)
  ·intro y0 y1 y2 y3 y4 y5
   unfold qam.l0
   repeat' first|(with_reducible exact ih2 _ _ _ _ _ _ _ _ _)|(with_reducible exact qbu.mono _ _)|(with_reducible exact qak.mono _ _ _ _ _)|(with_reducible exact LeO.refl _)|(with_reducible refine LeO.ite ?_ ?_)|(with_reducible refine LeO.bind ?_ (fun _=>?_))
  ·intro y0 y1 y2 y3 y4 y5 y6 y7 y8
   unfold qam.l1
   repeat' first|(with_reducible exact ih1 _ _ _ _ _ _)|(with_reducible exact ih2 _ _ _ _ _ _ _ _ _)|(with_reducible exact qay.mono _ _ _)|(with_reducible exact LeO.refl _)|(with_reducible refine LeO.ite ?_ ?_)|(with_reducible refine LeO.bind ?_ (fun _=>?_))
theorem qam.mono:∀ a0 a1 a2 a3 a4 k,LeO (qam.f k a0 a1 a2 a3 a4) (qam.f (k+1) a0 a1 a2 a3 a4):=by
 intro a0 a1 a2 a3 a4 k
 obtain ⟨ih0,ih1,ih2⟩:=qam.mono_l k
 unfold qam.f
 repeat' first|(with_reducible exact ih0 _ _ _ _ _ _)|(with_reducible exact qay.mono _ _ _)|(with_reducible refine LeO.ite ?_ ?_)|(with_reducible refine LeO.bind ?_ (fun _=>?_))
end Go.Proofs.YtmfjmbcfaamebaaDoor.X
namespace Go.Proofs.YtmfjmbcfaamebaaDoor.X
open Go.RowKit Go.Proofs.YtmfjmbcfaamebaaDoorW.PrintWords Go.Proofs.YtmfjmbcfaamebaaDoorW.PrintLast Go.Proofs.YtmfjmbcfaamebaaDoorW.PrintMore
theorem word_f (ws:List Int) (j:Nat):qcj.f ws (j:Int)=some (ws.getD j 0):=by
 unfold qcj.f
 by_cases h:j<ws.length
 ·rw [if_pos (by omega),if_pos (by omega),qgo]
 ·rw [if_neg (by omega),List.getD_eq_getElem?_getD,List.getElem?_eq_none (by omega)];rfl
theorem shr_u64 (v b:Nat) (hb:b<64):shr .u64 (v:Int) (b:Int)=((v/2 ^ b:Nat):Int):=by
 unfold shr
 rw [Int.toNat_natCast,show min b IntKind.u64.bits=b from Nat.min_eq_left (Nat.le_of_lt hb)]
 simp
theorem Has_f {ws:List Int} (hw:qcy ws) (x:Int):qcc.f ws x=some (decide (0≤x∧x≤65535)&&tb ws x.toNat):=by
 unfold qcc.f
 rw [valid_f,Option.bind_some]
 by_cases hv:0≤x∧x≤65535
 ·obtain ⟨n,rfl⟩:=Int.eq_ofNat_of_zero_le hv.1
  obtain ⟨q,b,hb64,hnq⟩:∃ q b:Nat,b<64∧n=q*64+b:=⟨n/64,n % 64,Nat.mod_lt _ (by decide),by omega⟩
  obtain ⟨h0,h1⟩:=hw.getD q
  obtain ⟨v,hv'⟩:=Int.eq_ofNat_of_zero_le h0
  have hvb:v<18446744073709551616:=by omega
  have e1:n/64=q:=by omega
  have e2:n % 64=b:=by omega
  have hd:v/2 ^ b<18446744073709551616:=Nat.lt_of_le_of_lt (Nat.div_le_self _ _) hvb
  have e3:bits .and .u64 ((v/2 ^ b:Nat):Int) 1=((v/2 ^ b &&& 1:Nat):Int):=bits_and_u64_nat _ 1 hd (by omega)
  rw [decide_eq_true hv,if_pos rfl,quo64 (by omega) hnq hb64,rem64 hnq hb64,word_f,Option.bind_some,if_pos (by omega),hv',shr_u64 _ _ hb64,e3,Bool.true_and,tb,Int.toNat_natCast,e1,e2,hv',Int.toNat_natCast,Nat.testBit_eq_decide_div_mod_eq,Nat.and_one_is_mod]
  congr 1
  rw [Bool.eq_iff_iff,beq_iff_eq,decide_eq_true_eq]
  omega
 ·rw [decide_eq_false hv,if_neg (by decide)]
  rfl
theorem tb_set {ws:List Int} {i:Nat} (hi:i<ws.length) (v:Int) (x:Nat):tb (ws.set i v) x=if x/64=i then v.toNat.testBit (x % 64) else tb ws x:=by
 unfold tb
 by_cases h:x/64=i
 ·rw [if_pos h,h,List.getD_eq_getElem?_getD,List.getElem?_set_self hi];rfl
 ·rw [if_neg h,List.getD_eq_getElem?_getD,List.getElem?_set_ne (fun e=>h e.symm),← List.getD_eq_getElem?_getD]
theorem qcy.set' {ws:List Int} (hw:qcy ws) {i:Nat} {v:Int} (h0:0≤v) (h1:v<18446744073709551616):qcy (ws.set i v):=by
 intro w h
 rcases List.mem_or_eq_of_mem_set h with h|rfl
 ·exact hw w h
 ·exact ⟨h0,h1⟩
theorem bits_or_ok {a b:Int} (ha:0≤a∧a<18446744073709551616) (hb:0≤b∧b<18446744073709551616):0≤Go.bits .or .u64 a b∧Go.bits .or .u64 a b<18446744073709551616∧∀ j,(Go.bits .or .u64 a b).toNat.testBit j=(a.toNat.testBit j||b.toNat.testBit j):=by
 obtain ⟨m,rfl⟩:=Int.eq_ofNat_of_zero_le ha.1
 obtain ⟨n,rfl⟩:=Int.eq_ofNat_of_zero_le hb.1
 have h1:m<2 ^ 64:=by omega
 have h2:n<2 ^ 64:=by omega
 have:=Nat.or_lt_two_pow h1 h2
 rw [bits_or_u64_nat m n (by omega) (by omega)]
 refine ⟨by omega,by omega,fun j=>?_⟩
 rw [Int.toNat_natCast,Int.toNat_natCast,Int.toNat_natCast,Nat.testBit_or]
theorem bits_andNot_ok {a b:Int} (ha:0≤a∧a<18446744073709551616) (hb:0≤b∧b<18446744073709551616):0≤Go.bits .andNot .u64 a b∧Go.bits .andNot .u64 a b<18446744073709551616∧∀ j,j<64→(Go.bits .andNot .u64 a b).toNat.testBit j=(a.toNat.testBit j&&!b.toNat.testBit j):=by
 obtain ⟨m,rfl⟩:=Int.eq_ofNat_of_zero_le ha.1
 obtain ⟨n,rfl⟩:=Int.eq_ofNat_of_zero_le hb.1
 have h2:n<2 ^ 64:=by omega
 have h3:m &&& (18446744073709551615-n)<2 ^ 64:=Nat.and_lt_two_pow _ (by omega)
 rw [u64_andNot_nat m n (by omega) (by omega)]
 refine ⟨by omega,by omega,fun j hj=>?_⟩
 have:=Nat.testBit_two_pow_sub_succ h2 j
 rw [show 2 ^ 64-(n+1)=18446744073709551615-n by omega] at this
 rw [Int.toNat_natCast,Int.toNat_natCast,Int.toNat_natCast,Nat.testBit_and,this,decide_eq_true hj,Bool.true_and]
theorem Union_from {s t:List Int} (hs:qcy s) (ht:qcy t) (n:Nat) (hn:n≤1024):∀ (m i:Nat) (ws:List Int),i+m=n→ws.length=n→qcy ws→
  ∃ r,Ev (fun k=>qag.l0 k ws (n:Int) (i:Int) s t) r∧GS r∧∀ x,tb r x=if x/64<i∨n≤x/64 then tb ws x else (tb s x||tb t x)
 | 0,i,ws,hi,hl,hw=>by
  obtain ⟨r,h1,h2,h3⟩:=trimmed_ev hw (by omega)
  refine ⟨r,Ev.next (Ev.bind h1 (Ev.const r)) (fun k=>?_),h3,fun x=>?_⟩
  ·rw [qag.l0,if_neg (by omega)]
  ·rw [h2,if_pos (by omega)]
 | m+1,i,ws,hi,hl,hw=>by
  obtain ⟨h0,h1,h2⟩:=bits_or_ok (hs.getD i) (ht.getD i)
  have hil:i<ws.length:=by omega
  obtain ⟨r,h3,h4,h5⟩:=Union_from hs ht n hn m (i+1) (ws.set i (Go.bits .or .u64 (s.getD i 0) (t.getD i 0))) (by omega) (by rw [List.length_set,hl]) (hw.set' h0 h1)
  refine ⟨r,Ev.next h3 (fun k=>?_),h4,fun x=>?_⟩
  ·have c1:((i:Int)<(n:Int))=True:=eq_true (by omega)
   have c2:(0≤(i:Int))=True:=eq_true (by omega)
   have c3:((i:Int)<(ws.length:Int))=True:=eq_true (by omega)
   have hw':=qcw (show i<9223372036854775807 by omega)
   rw [qag.l0]
   simp only [c1,c2,c3,word_f,qdg.f,hw',if_true,Option.bind_some,Int.toNat_natCast]
  ·rw [h5]
   by_cases e:x/64=i
   ·rw [if_pos (by omega),if_neg (by omega),tb_set hil,if_pos e,h2]
    unfold tb
    rw [e]
   ·rw [tb_set hil,if_neg e]
    by_cases e2:x/64<i∨n≤x/64
    ·rw [if_pos e2,if_pos (by omega)]
    ·rw [if_neg e2,if_neg (by omega)]
theorem Minus_from {s t:List Int} (hs:qcy s) (ht:qcy t) (n:Nat) (hn:n≤1024):∀ (m i:Nat) (ws:List Int),i+m=n→ws.length=n→qcy ws→
  ∃ r,Ev (fun k=>qai.l0 k ws (n:Int) (i:Int) s t) r∧GS r∧∀ x,tb r x=if x/64<i∨n≤x/64 then tb ws x else (tb s x&&!tb t x)
 | 0,i,ws,hi,hl,hw=>by
  obtain ⟨r,h1,h2,h3⟩:=trimmed_ev hw (by omega)
  refine ⟨r,Ev.next (Ev.bind h1 (Ev.const r)) (fun k=>?_),h3,fun x=>?_⟩
  ·rw [qai.l0,if_neg (by omega)]
  ·rw [h2,if_pos (by omega)]
 | m+1,i,ws,hi,hl,hw=>by
  obtain ⟨h0,h1,h2⟩:=bits_andNot_ok (hs.getD i) (ht.getD i)
  have hil:i<ws.length:=by omega
  obtain ⟨r,h3,h4,h5⟩:=Minus_from hs ht n hn m (i+1) (ws.set i (Go.bits .andNot .u64 (s.getD i 0) (t.getD i 0))) (by omega) (by rw [List.length_set,hl]) (hw.set' h0 h1)
  refine ⟨r,Ev.next h3 (fun k=>?_),h4,fun x=>?_⟩
  ·have c1:((i:Int)<(n:Int))=True:=eq_true (by omega)
   have c2:(0≤(i:Int))=True:=eq_true (by omega)
   have c3:((i:Int)<(ws.length:Int))=True:=eq_true (by omega)
   have hw':=qcw (show i<9223372036854775807 by omega)
   rw [qai.l0]
   simp only [c1,c2,c3,word_f,qdk.f,hw',if_true,Option.bind_some,Int.toNat_natCast]
  ·rw [h5]
   by_cases e:x/64=i
   ·rw [if_pos (by omega),if_neg (by omega),tb_set hil,if_pos e,h2 _ (Nat.mod_lt _ (by decide))]
    unfold tb
    rw [e]
   ·rw [tb_set hil,if_neg e]
    by_cases e2:x/64<i∨n≤x/64
    ·rw [if_pos e2,if_pos (by omega)]
    ·rw [if_neg e2,if_neg (by omega)]
theorem mx_nat (a b:Nat):mx (a:Int) (b:Int)=((max a b:Nat):Int):=by unfold mx;omega
theorem tb_zeros (n x:Nat):tb (List.replicate n 0) x=false:=by
 unfold tb
 rw [List.getD_eq_getElem?_getD,List.getElem?_replicate]
 split <;> simp
theorem qcy.zeros (n:Nat):qcy (List.replicate n 0):=by
 intro w h
 obtain ⟨_,rfl⟩:=List.mem_replicate.1 h
 omega
theorem tb_out {ws:List Int} {x:Nat} (h:ws.length≤x/64):tb ws x=false:=by
 cases e:tb ws x with
 | false=>rfl
 | true=>have:=tb_len e;omega
theorem Union_ev {s t:List Int} (hs:GS s) (ht:GS t):∃ r,Ev (fun k=>qco.f k s t) r∧GS r∧∀ x,tb r x=(tb s x||tb t x):=by
 obtain ⟨n,hn⟩:∃ n,max s.length t.length=n:=⟨_,rfl⟩
 have hn2:n≤1024:=by have:=hs.len;have:=ht.len;omega
 obtain ⟨r,h1,h2,h3⟩:=Union_from hs.wd ht.wd n hn2 n 0 (List.replicate n 0) (by omega) (by simp) (.zeros n)
 refine ⟨r,(Ev.bind h1 (Ev.const r)).congr (fun k=>?_),h2,fun x=>?_⟩
 ·unfold qco.f qag.f
  have c1:(0≤(n:Int))=True:=eq_true (by omega)
  have c2:(n≤35184372088832)=True:=eq_true (by omega)
  simp only [mx_nat,hn,Int.toNat_natCast,c1,c2,if_true,Option.bind_some,List.length_replicate]
  rfl
 ·rw [h3]
  by_cases h:n≤x/64
  ·rw [if_pos (.inr h),tb_zeros,tb_out (by omega),tb_out (by omega)];rfl
  ·rw [if_neg (by omega)]
theorem Minus_ev {s t:List Int} (hs:GS s) (ht:GS t):∃ r,Ev (fun k=>qcf.f k s t) r∧GS r∧∀ x,tb r x=(tb s x&&!tb t x):=by
 obtain ⟨n,hn⟩:∃ n,max s.length t.length=n:=⟨_,rfl⟩
 have hn2:n≤1024:=by have:=hs.len;have:=ht.len;omega
 obtain ⟨r,h1,h2,h3⟩:=Minus_from hs.wd ht.wd n hn2 n 0 (List.replicate n 0) (by omega) (by simp) (.zeros n)
 refine ⟨r,(Ev.bind h1 (Ev.const r)).congr (fun k=>?_),h2,fun x=>?_⟩
 ·unfold qcf.f qai.f
  have c1:(0≤(n:Int))=True:=eq_true (by omega)
  have c2:(n≤35184372088832)=True:=eq_true (by omega)
  simp only [mx_nat,hn,Int.toNat_natCast,c1,c2,if_true,Option.bind_some,List.length_replicate]
  rfl
 ·rw [h3]
  by_cases h:n≤x/64
  ·rw [if_pos (.inr h),tb_zeros,tb_out (by omega),tb_out (by omega)];rfl
  ·rw [if_neg (by omega)]
theorem With_ev {s:List Int} (hs:GS s) (n:Nat) (hn:n≤65535):∃ r,Ev (fun k=>qbz.f k s (n:Int)) r∧GS r∧∀ x,tb r x=(tb s x||decide (x=n)):=by
 obtain ⟨o,h1,h2,h3⟩:=Of_ev [(n:Int)] (by simp)
 obtain ⟨r,h4,h5,h6⟩:=Union_ev hs h2
 refine ⟨r,Ev.bind h1 (Ev.bind h4 (Ev.const r)),h5,fun x=>?_⟩
 rw [h6,Bool.eq_iff_iff,Bool.or_eq_true,Bool.or_eq_true,h3,within,List.mem_singleton,decide_eq_true_eq]
 exact ⟨fun h=>h.imp_right (fun h=>by omega),fun h=>h.imp_right (fun h=>by subst h;exact ⟨rfl,hn⟩)⟩
theorem Without_ev {s:List Int} (hs:GS s) (n:Nat) (hn:n≤65535):∃ r,Ev (fun k=>qci.f k s (n:Int)) r∧GS r∧∀ x,tb r x=(tb s x&&!decide (x=n)):=by
 obtain ⟨o,h1,h2,h3⟩:=Of_ev [(n:Int)] (by simp)
 obtain ⟨r,h4,h5,h6⟩:=Minus_ev hs h2
 refine ⟨r,Ev.bind h1 (Ev.bind h4 (Ev.const r)),h5,fun x=>?_⟩
 have:tb o x=decide (x=n):=by
  rw [Bool.eq_iff_iff,h3,within,List.mem_singleton,decide_eq_true_eq]
  exact ⟨fun h=>by omega,fun h=>by subst h;exact ⟨rfl,hn⟩⟩
 rw [h6,this]
end Go.Proofs.YtmfjmbcfaamebaaDoor.X
