/- Parts of the proof of the law CFGDominators: words, walks of single functions and plain laws, joined by a program out of the session's texts. -/
import Derived.Test.YtmfjmbcfaamebaaDoorCFGDominators11
import Derived.Lib.Hide
import Derived.Shelf.SlicesE.IndexFunc
import Derived.BigQuiet
set_option linter.unusedVariables false
set_option linter.unusedSimpArgs false
namespace Go.Proofs.YtmfjmbcfaamebaaDoor.X
open Go.RowKit Go.Proofs.YtmfjmbcfaamebaaDoorW.PrintWords Go.Proofs.YtmfjmbcfaamebaaDoorW.PrintLast Go.Proofs.YtmfjmbcfaamebaaDoorW.PrintMore
attribute [local go_sem] qbs qcb
set_option linter.unusedVariables false
set_option linter.unusedSimpArgs false
mutual
def qae.j0:Nat→Int→List Int→Bool→Bool→Int→List (S60)→Option (List Int)
 | 0,_,_,_,_,_,_=>none
 | k+1,x1,x2,x24,x304000,x304001,x304002=>if x24=true then (some ([]:List Int)) else (qae.l0 k x2 (([x1]:List Int)) 0 x304000 x304001 x304002)
def qae.l0:Nat→List Int→List Int→Int→Bool→Int→List (S60)→Option (List Int)
 | 0,_,_,_,_,_,_=>none
 | k+1,x2,x7,x8,x304000,x304001,x304002=>if x8<(x7.length:Int) then (if 0≤x8 then ((qag.f k x304000 x304001 x304002 (rd x7 x8)).bind fun t312=>(qae.l1 k x2 x7 x8 t312 (t312.length:Int) 0 x304000 x304001 x304002)) else (none)) else ((qbe.f k x7).bind fun t308=>(some t308))
def qae.l1:Nat→List Int→List Int→Int→List Int→Int→Int→Bool→Int→List (S60)→Option (List Int)
 | 0,_,_,_,_,_,_,_,_,_=>none
 | k+1,x2,x7,x8,x38,x39,x40,x304000,x304001,x304002=>if x40<x39 then (if 0≤x40 then (if x40<(x38.length:Int) then ((qao.f k x7 (rd x38 x40)).bind fun t316=>(if t316=true then (qae.l1 k x2 x7 x8 x38 x39 (wrap64 (x40+1)) x304000 x304001 x304002) else ((qao.f k x2 (rd x38 x40)).bind fun t317=>(if t317=true then (qae.l1 k x2 x7 x8 x38 x39 (wrap64 (x40+1)) x304000 x304001 x304002) else (if x7.length<17592186044416 then (qae.l1 k x2 (x7++[rd x38 x40]) x8 x38 x39 (wrap64 (x40+1)) x304000 x304001 x304002) else (none)))))) else (none)) else (none)) else (qae.l0 k x2 x7 (wrap64 (x8+1)) x304000 x304001 x304002)
end
def qae.f (k:Nat) (a0_0:Bool) (a0_1:Int) (l0_2:List (S60)) (a1:Int) (l2:List Int):Option (List Int):=if a1<0 then (qae.j0 k a1 l2 true a0_0 a0_1 l0_2) else (if a1≥(l0_2.length:Int) then (qae.j0 k a1 l2 true a0_0 a0_1 l0_2) else ((qao.f k l2 a1).bind fun t304=>(qae.j0 k a1 l2 t304 a0_0 a0_1 l0_2)))
theorem qae.mono_l:∀ k,(∀ y0 y1 y2 y3 y4 y5,LeO (qae.j0 k y0 y1 y2 y3 y4 y5) (qae.j0 (k+1) y0 y1 y2 y3 y4 y5))∧(∀ y0 y1 y2 y3 y4 y5,LeO (qae.l0 k y0 y1 y2 y3 y4 y5) (qae.l0 (k+1) y0 y1 y2 y3 y4 y5))∧(∀ y0 y1 y2 y3 y4 y5 y6 y7 y8,LeO (qae.l1 k y0 y1 y2 y3 y4 y5 y6 y7 y8) (qae.l1 (k+1) y0 y1 y2 y3 y4 y5 y6 y7 y8))
 | 0=>⟨fun _ _ _ _ _ _ r h=>by simp [qae.j0] at h,fun _ _ _ _ _ _ r h=>by simp [qae.l0] at h,fun _ _ _ _ _ _ _ _ _ r h=>by simp [qae.l1] at h⟩
 | k+1=>by
  obtain ⟨ih0,ih1,ih2⟩:=qae.mono_l k
  refine ⟨?_,?_,?_⟩
  ·intro y0 y1 y2 y3 y4 y5
   unfold qae.j0
   repeat' first|(with_reducible exact ih1 _ _ _ _ _ _)|(with_reducible exact LeO.refl _)|(with_reducible refine LeO.ite ?_ ?_)
  ·intro y0 y1 y2 y3 y4 y5
   unfold qae.l0
   repeat' first|(with_reducible exact ih2 _ _ _ _ _ _ _ _ _)|(with_reducible exact qbe.mono _ _)|(with_reducible exact qag.mono _ _ _ _ _)|(with_reducible exact LeO.refl _)|(with_reducible refine LeO.ite ?_ ?_)|(with_reducible refine LeO.bind ?_ (fun _=>?_))
  ·intro y0 y1 y2 y3 y4 y5 y6 y7 y8
   unfold qae.l1
   repeat' first|(with_reducible exact ih1 _ _ _ _ _ _)|(with_reducible exact ih2 _ _ _ _ _ _ _ _ _)|(with_reducible exact qao.mono _ _ _)|(with_reducible exact LeO.refl _)|(with_reducible refine LeO.ite ?_ ?_)|(with_reducible refine LeO.bind ?_ (fun _=>?_))
theorem qae.mono:∀ a0 a1 a2 a3 a4 k,LeO (qae.f k a0 a1 a2 a3 a4) (qae.f (k+1) a0 a1 a2 a3 a4):=by
 intro a0 a1 a2 a3 a4 k
 obtain ⟨ih0,ih1,ih2⟩:=qae.mono_l k
 unfold qae.f
 repeat' first|(with_reducible exact ih0 _ _ _ _ _ _)|(with_reducible exact qao.mono _ _ _)|(with_reducible refine LeO.ite ?_ ?_)|(with_reducible refine LeO.bind ?_ (fun _=>?_))
def qae.T7:Bool×List (List Nat×List Nat):=(true,[([],[]),([],[]),([],[]),([1,2],[1,2]),([3],[3]),([0,4],[0,4]),([5],[5]),([],[])])
def qae.B7:List Nat:=[0,0,0,6,14,31,63,0]
theorem qae.tab7:rtab .any (opsOf Tryd.f59 7)=qae.T7:=by kernel_rfl
theorem qae.bits7:qeu qae.T7.2 qae.B7=true:=by kernel_rfl
set_option maxHeartbeats 8000000 in
set_option maxRecDepth 100000 in
theorem qae.calls (k:Nat) (a0_0:Bool) (a0_1:Int) (A0_2:Option Addr) (c0_2:Nat) (l0_2:List (S60)) (a1:Int) (A2:Option Addr) (c2:Nat) (l2:List Int) (r:List Int) (w:World) (hr0_2:Kd.C k60 w A0_2 l0_2.length l0_2) (hc0_2:l0_2.length≤c0_2) (hr2:Kd.C (Kd.int .i64) w A2 l2.length l2) (hc2:l2.length≤c2) (h:qae.f k a0_0 a0_1 l0_2 a1 l2=some r) :
  Calls Tryd.prog 59 #[.agg #[.bool a0_0,.int .i64 a0_1,.slice A0_2 l0_2.length c0_2],.int .i64 a1,.slice A2 l2.length c2] w fun e w'=>∃ v0_:Value,e=.returned (v0_)∧Kd.R (Kd.int .i64) 3 w' w.heap.size (fun _=>True) v0_ r∧Below w.heap.size w w':=by
 have hu24:=Tryd.underlying24
 have HR0_2:=qaa.mk hr0_2
 have HC0_2:=qaa.mk hc0_2
 clear hr0_2 hc0_2
 have HR2:=qaa.mk hr2
 have HC2:=qaa.mk hc2
 clear hr2 hc2
 have HB:=qaa.mk (Below.refl w.heap.size w)
 have H:(if a1<0 then (qae.j0 k a1 l2 true a0_0 a0_1 l0_2) else (if a1≥(l0_2.length:Int) then (qae.j0 k a1 l2 true a0_0 a0_1 l0_2) else ((qao.f k l2 a1).bind fun t304=>(qae.j0 k a1 l2 t304 a0_0 a0_1 l0_2))))=some r:=h
 clear h
 have HC4:=qaa.mk H
 clear H
 go_enter Tryd.func59,Tryd.ntmps59
 go_upto_region 1 with (((with_reducible refine qbf (N:=3) rfl ?_);(try (refine qcl (by rfl) ?_;dsimp only));refine qbr ?hg (N:=3) ?hd (cs:=#[.bool a0_0,.int .i64 a0_1,.slice A0_2 l0_2.length c0_2]) (t:=24) ?hr ?_;(case hd=>rfl);(case hg=>rfl);(case hr=>(go_simp;done));intro gb303 hg w5 hbox hb;have BK303:=qaa.mk (hbox);have GW303:=qaa.mk ((by rw [hg];exact (qac HB.out):w.heap.size≤gb303));have GE303:=qaa.mk ((by rw [hg];exact (qac HB.out):w.heap.size≤gb303));replace HB:=qaa.mk (qal HB.out hb);clear hb hbox hg))
 go_cut [24] (fun v24 wc=>∃ (kq:Nat) (x24_3:Bool),v24=.bool x24_3∧qaa (qae.j0 kq a1 l2 x24_3 a0_0 a0_1 l0_2=some r)∧qaa (kq≤k)∧qaa (wc.heap[gb303]?=some (.cells #[.bool a0_0,.int .i64 a0_1,(.slice A0_2 l0_2.length c0_2)] 24 (0,0)))∧qaa (Below w.heap.size w wc))
 case first=>
  have H:=HC4.out
  clear HC4
  by_cases c6:a1<0
  ·rw [if_pos c6] at H
   have c6b0:decide (a1<0)=true:=decide_eq_true c6
   clear c6
   have H':=qaa.mk H
   clear H
   go_wp2
   go_meet
   case rel=>exact ⟨_,(true),(by rfl),H',⟨by omega⟩,⟨by (with_reducible repeat (refine qab ?_));exact BK303.out⟩,⟨by repeat ((with_reducible exact HB.out))⟩⟩
  ·rw [if_neg c6] at H
   have c6b0:decide (a1<0)=false:=decide_eq_false c6
   clear c6
   by_cases c7:a1≥(l0_2.length:Int)
   ·rw [if_pos c7] at H
    have c7b0:decide ((l0_2.length:Int)≤a1)=true:=decide_eq_true c7
    clear c7
    have H':=qaa.mk H
    clear H
    have hcz8_0:w5.cell? ⟨gb303,0,none⟩=some (.bool a0_0):=(qad BK303.out 0).trans rfl
    have hcz8_1:w5.cell? ⟨gb303,1,none⟩=some (.int .i64 a0_1):=(qad BK303.out 1).trans rfl
    have hcz8_2:w5.cell? ⟨gb303,2,none⟩=some (.slice A0_2 l0_2.length c0_2):=(qad BK303.out 2).trans rfl
    have hfz8_0:=qaf BK303.out 0
    have hfz8_1:=qaf BK303.out 1
    have hfz8_2:=qaf BK303.out 2
    go_wp2
    go_meet
    case rel=>exact ⟨_,(true),(by rfl),H',⟨by omega⟩,⟨by (with_reducible repeat (refine qab ?_));exact BK303.out⟩,⟨by repeat ((with_reducible exact HB.out))⟩⟩
   ·rw [if_neg c7] at H
    have c7b0:decide ((l0_2.length:Int)≤a1)=false:=decide_eq_false c7
    clear c7
    replace H:=Option.bind_eq_some_iff.mp H
    obtain ⟨t304,A90,H⟩:=H
    replace H:(qae.j0 k a1 l2 t304 a0_0 a0_1 l0_2)=some r:=H
    have A9:=qaa.mk A90
    clear A90
    have H':=qaa.mk H
    clear H
    have hcz10_0:w5.cell? ⟨gb303,0,none⟩=some (.bool a0_0):=(qad BK303.out 0).trans rfl
    have hcz10_1:w5.cell? ⟨gb303,1,none⟩=some (.int .i64 a0_1):=(qad BK303.out 1).trans rfl
    have hcz10_2:w5.cell? ⟨gb303,2,none⟩=some (.slice A0_2 l0_2.length c0_2):=(qad BK303.out 2).trans rfl
    have hfz10_0:=qaf BK303.out 0
    have hfz10_1:=qaf BK303.out 1
    have hfz10_2:=qaf BK303.out 2
    go_wp2_with ((go_at_call 48;(with_reducible refine (qao.calls k _ _ l2 a1 t304 _ ?side1 ?side2 A9.out).mono ?_);(case side1=>repeat (exact (Kd.C_below HR2.out HB.out)));(case side2=>exact HC2.out);rintro e w' ⟨rfl,⟨nd,rfl⟩⟩))
    go_meet
    case rel=>exact ⟨_,(t304),(by rfl),H',⟨by omega⟩,⟨by (with_reducible repeat (refine qde ?_ _));exact BK303.out⟩,⟨by repeat ((with_reducible first|exact HB.out|apply qav))⟩⟩
 case rest=>
  clear HC4
  obtain ⟨kq,x24_3,rfl,HA,HJ3,BK303,HB⟩:=hcut
  cases kq with
  | zero=>exact absurd HA.out (by simp [qae.j0])
  | succ kj3=>
   have H:=HA.out
   clear HA
   simp only [qae.j0] at H
   by_cases c11:x24_3=true
   ·subst c11
    have H1:(some ([]:List Int))=some r:=by rw [if_pos rfl] at H;exact H
    clear H
    have H:=H1
    clear H1
    obtain rfl:=Option.some.inj H
    go_wp2
    go_ret
    exact ⟨_,by rfl,by exact Kd.R_nil _ _ _ _ _,by repeat ((with_reducible exact HB.out))⟩
   ·replace c11:=Bool.eq_false_iff.mpr c11
    subst c11
    have H1:(qae.l0 kj3 l2 (([a1]:List Int)) 0 a0_0 a0_1 l0_2)=some r:=by rw [if_neg (show ¬ (false=true) by decide)] at H;exact H
    clear H
    have H:=H1
    clear H1
    obtain ⟨y305,hy305⟩:∃ y_:List Int,y_=(([a1]:List Int)):=⟨_,rfl⟩
    replace H:(qae.l0 kj3 l2 y305 0 a0_0 a0_1 l0_2)=some r:=by (rw [hy305];with_reducible exact H)
    have Ny305:=qaa.mk hy305
    clear hy305
    have H':=qaa.mk H
    clear H
    go_wp2_with (((with_reducible refine qbf (N:=26) rfl ?_);(try (refine qcl (by rfl) ?_;dsimp only));refine Kd.R_lit (Kd.int .i64) _ 3 ?hg (N:=26) ?hd (xs:=([a1]:List Int)) (inner:=[.int .i64 a1]) (ok:=fun _=>True) (okp:=fun _=>True) ?hr ?hp (fun _ hk=>hk) trivial (Below.refl _ _) (Nat.le_refl _) (by simp) ?_;(case hd=>rfl);(case hg=>rfl);(case hr=>(go_simp;done));(case hp=>exact (Reps.one (show Kd.M (Kd.int .i64) _ _ _ a1 [.int .i64 a1] from rfl) (Reps.none _ _)));intro v306 w12 ho13 hb hg_ hnew_;clear hg_ hnew_;(rw [← Ny305.out] at ho13);have HO307:=qaa.mk (Kd.R_lower ho13 (qac HB.out));replace BK303:=qaa.mk (qah (g:=gb303) (o:=.cells #[.bool a0_0,.int .i64 a0_1,.slice A0_2 l0_2.length c0_2] 24 (0,0)) (by (with_reducible repeat (refine qab ?_));exact BK303.out) hb);replace HB:=qaa.mk (qal HB.out hb);clear hb ho13))
    go_loopg [7,8] kj3 (fun kq v7 v8 w'=>∃ (x7_2:List Int) (x8_2:Int),v8=.int .i64 x8_2∧qaa (qae.l0 kq l2 x7_2 x8_2 a0_0 a0_1 l0_2=some r)∧qaa (kq≤kj3)∧qaa (Kd.R (Kd.int .i64) 3 w' w.heap.size (fun _=>True) v7 x7_2)∧qaa (w'.heap[gb303]?=some (.cells #[.bool a0_0,.int .i64 a0_1,(.slice A0_2 l0_2.length c0_2)] 24 (0,0)))∧qaa (Below w.heap.size w w'))
    case atStart=>exact ⟨(y305),(0),(by rfl),H',⟨Nat.le_refl _⟩,⟨by (with_reducible repeat (apply Kd.R_drew));exact HO307.out⟩,⟨by (with_reducible repeat (refine qab ?_));exact BK303.out⟩,⟨by repeat ((with_reducible exact HB.out))⟩⟩
    case round=>
     clear H'
     obtain ⟨x7_2,x8_2,rfl,HA,HK2,HO_7,BK303,HB⟩:=hrel
     cases gk with
     | zero=>exact absurd HA.out (by simp [qae.l0])
     | succ k2=>
      have H:=HA.out
      clear HA
      simp only [qae.l0] at H
      by_cases c14:x8_2<(x7_2.length:Int)
      ·rw [if_pos c14] at H
       have c14b0:decide (x8_2<(x7_2.length:Int))=true:=decide_eq_true c14
       clear c14
       by_cases c15:0≤x8_2
       ·rw [if_pos c15] at H
        have c15b0:decide (0≤x8_2)=true:=decide_eq_true c15
        clear c15
        replace H:=Option.bind_eq_some_iff.mp H
        obtain ⟨t312,A160,H⟩:=H
        replace H:(qae.l1 k2 l2 x7_2 x8_2 t312 (t312.length:Int) 0 a0_0 a0_1 l0_2)=some r:=H
        have A16:=qaa.mk A160
        clear A160
        have H':=qaa.mk H
        clear H
        obtain ⟨Ao17,co17,eo17⟩:=Kd.R_slice HO_7.out
        subst eo17
        try go_wp2
        have n0_:=qaa.mk (Kd.R_drew HO_7.out)
        have n1_:=qaa.mk (qab BK303.out)
        have n2_:=qaa.mk (qdb HB.out)
        clear HO_7
        clear BK303
        clear HB
        have HO_7:=n0_
        have BK303:=n1_
        have HB:=n2_
        clear n0_ n1_ n2_
        have p311:0≤(x8_2:Int):=of_decide_eq_true (by (with_reducible assumption))
        have q311:x8_2<(x7_2.length:Int):=of_decide_eq_true (by (with_reducible assumption))
        obtain ⟨ad311,e311,hx311_0⟩:=Kd.at_int (Kd.R_reads' HO_7.out).2.2 x8_2 p311 q311
        cases e311
        replace p311:=eq_true p311
        replace q311:=eq_true q311
        refine qfb (n:=8) (S:=fun w'=>w'.cell? ⟨gb303,0,none⟩=some (.bool a0_0)∧w'.cell? ⟨gb303,1,none⟩=some (.int .i64 a0_1)∧w'.cell? ⟨gb303,2,none⟩=some (.slice A0_2 l0_2.length c0_2)∧w'.cell? (ad311.add (x8_2).toNat)=some (.int .i64 (rd x7_2 x8_2))) (ds:=[]) #[false,false,false,false,false,false,false,false] (by kernel_rfl) rfl rfl ⟨(qad BK303.out 0).trans rfl,(qad BK303.out 1).trans rfl,(qad BK303.out 2).trans rfl,hx311_0⟩ (fun hHeld=>?_);refine qee qae.tab7 qae.bits7 (fun HT_ HW_=>?_)
        generalize wr.drew=w18 at HO_7 BK303 HB hx311_0 hHeld ⊢
        refine qct (i:=1) (N:=some 34) (v:=?_) (a':=?_) #[false,true,false,false,false,false,false,false] rfl rfl (qck HT_.out (by kernel_rfl)) (fun _ _ _ h=>h) (Or.inl ⟨by rfl,?_⟩) ?_ ?_
        rotate_left
        ·intro w'
         go_simp
         with_reducible rfl
        rotate_left
        ·simp only [Act.put,List.setIfInBounds_toArray,List.set_cons_zero,List.set_cons_succ,qbk,qbm]
         rfl
        refine qct (i:=2) (N:=some 35) (v:=?_) (a':=?_) #[false,true,true,false,false,false,false,false] rfl rfl (qck HT_.out (by kernel_rfl)) (fun _ _ _ h=>h) (Or.inl ⟨by rfl,?_⟩) ?_ ?_
        rotate_left
        ·intro w'
         go_simp
         with_reducible rfl
        rotate_left
        ·simp only [Act.put,List.setIfInBounds_toArray,List.set_cons_zero,List.set_cons_succ,qbk,qbm]
         rfl
        refine qct (i:=3) (N:=some 36) (v:=?_) (a':=?_) #[false,true,true,true,false,false,false,false] rfl rfl (qck HT_.out (by kernel_rfl)) (fun _ _ _ h=>h) (Or.inl ⟨by rfl,?_⟩) ?_ ?_
        rotate_left
        ·intro w'
         go_simp
         with_reducible rfl
        rotate_left
        ·simp only [Act.put,List.setIfInBounds_toArray,List.set_cons_zero,List.set_cons_succ,qbk,qbm]
         rfl
        refine qct (i:=7) (N:=some 40) (v:=?_) (a':=?_) #[false,true,true,true,false,false,false,true] rfl rfl (qck HT_.out (by kernel_rfl)) (fun _ _ _ h=>h) (Or.inl ⟨by rfl,?_⟩) ?_ ?_
        rotate_left
        ·intro w'
         go_simp
         with_reducible rfl
        rotate_left
        ·simp only [Act.put,List.setIfInBounds_toArray,List.set_cons_zero,List.set_cons_succ,qbk,qbm]
         rfl
        refine take_ (i:=0) (N:=some 33) (v:=?_) (a':=?_) #[true,true,true,true,false,false,false,true] rfl rfl (qcw HT_.out HW_.out (by kernel_rfl)) (fun _ _ _ h=>h) (Or.inl ⟨by rfl,?_⟩) hHeld ?_ ?_
        rotate_left
        ·rintro w' ⟨s0,s1,s2,s3⟩
         go_simp
         with_reducible rfl
        rotate_left
        ·simp only [Act.put,List.setIfInBounds_toArray,List.set_cons_zero,List.set_cons_succ,qbk,qbm]
         rfl
        refine take_ (i:=4) (N:=some 37) (v:=?_) (a':=?_) #[true,true,true,true,true,false,false,true] rfl rfl (qcw HT_.out HW_.out (by kernel_rfl)) (fun _ _ _ h=>h) (Or.inl ⟨by rfl,?_⟩) hHeld ?_ ?_
        rotate_left
        ·rintro w' ⟨s0,s1,s2,s3⟩
         go_simp
         with_reducible rfl
        rotate_left
        ·simp only [Act.put,List.setIfInBounds_toArray,List.set_cons_zero,List.set_cons_succ,qbk,qbm]
         rfl
        refine one_ (i:=5) (N:=some 38) #[true,true,true,true,true,true,false,true] rfl rfl (qdx HT_.out (by kernel_rfl)) (by decide) (fun K hK=>?_)
        refine qej Tryd.func47 (by kernel_rfl) rfl #[.agg #[.bool a0_0,.int .i64 a0_1,.slice A0_2 l0_2.length c0_2],.int .i64 (rd x7_2 x8_2)] (by rfl) rfl rfl (by (try simp only [List.map_toArray,List.map_cons,List.map_nil]);rfl) ?_
        with_reducible refine (qag.calls k2 a0_0 a0_1 _ _ l0_2 (rd x7_2 x8_2) t312 _ ?side1 ?side2 A16.out).mono ?_
        (case side1=>repeat (exact (Kd.C_below HR0_2.out HB.out)))
        (case side2=>exact HC0_2.out)
        rintro e w19 ⟨v313,rfl,ho0,hb⟩
        have HS3_:=(hb.cell (World.block_lt_of_cell? _ _ (hHeld.2.2.2))).trans (hHeld.2.2.2)
        refine ⟨_,rfl,?_⟩
        have n0_:=qaa.mk (Kd.R_elder' (by (with_reducible repeat (apply Kd.R_drew));exact HO_7.out) (Kd.R_base ho0) hb)
        have n1_:=qaa.mk (Kd.R_lower (Kd.R_new' ho0 (Kd.R_lt (by (with_reducible repeat (apply Kd.R_drew));exact HO_7.out))) (qac HB.out))
        have n2_:=qaa.mk (qah (g:=gb303) (o:=.cells #[.bool a0_0,.int .i64 a0_1,.slice A0_2 l0_2.length c0_2] 24 (0,0)) (by (with_reducible repeat (refine qab ?_));exact BK303.out) hb)
        have n3_:=qaa.mk (qal HB.out hb)
        clear HO_7
        clear BK303
        clear HB
        have HO_7:=n0_
        have HO314:=n1_
        have BK303:=n2_
        have HB:=n3_
        clear n0_ n1_ n2_ n3_
        (try clear hb)
        (try clear ho0)
        obtain ⟨Ao20,co20,eo20⟩:=Kd.R_slice HO314.out
        (subst eo20)
        refine hK.out _ _ ⟨(qad BK303.out 0).trans rfl,(qad BK303.out 1).trans rfl,(qad BK303.out 2).trans rfl,HS3_⟩ (fun hHeld=>?_)
        clear hK K
        refine qdt (a':=?_) ?_ ?_
        rotate_left
        ·show Act.put _ (some 38) _=_
         simp only [Act.put,List.setIfInBounds_toArray,List.set_cons_zero,List.set_cons_succ,qbk,qbm]
         rfl
        refine qct (i:=6) (N:=some 39) (v:=?_) (a':=?_) #[true,true,true,true,true,true,true,true] rfl rfl (qck HT_.out (by kernel_rfl)) (fun _ _ _ h=>h) (Or.inl ⟨by rfl,?_⟩) ?_ ?_
        rotate_left
        ·intro w'
         go_simp
         with_reducible rfl
        rotate_left
        ·simp only [Act.put,List.setIfInBounds_toArray,List.set_cons_zero,List.set_cons_succ,qbk,qbm]
         rfl
        refine qfq (qfd HT_.out (by kernel_rfl)) ?_
        try go_wp2
        go_loopg [7,40] k2 (fun kq v7 v40 w'=>∃ (x7_3:List Int) (x40_3:Int),v40=.int .i64 x40_3∧qaa (qae.l1 kq l2 x7_3 x8_2 t312 (t312.length:Int) x40_3 a0_0 a0_1 l0_2=some r)∧qaa (kq≤k2)∧qaa (Kd.R (Kd.int .i64) 3 w' w.heap.size (fun k_=>some k_≠((.slice Ao20 t312.length co20):Value).ownBlock) v7 x7_3)∧qaa (Kd.R (Kd.int .i64) 3 w' w.heap.size (fun k_=>some k_≠(v7:Value).ownBlock) (.slice Ao20 t312.length co20) t312)∧qaa (w'.heap[gb303]?=some (.cells #[.bool a0_0,.int .i64 a0_1,(.slice A0_2 l0_2.length c0_2)] 24 (0,0)))∧qaa (Below w.heap.size w w'))
        case atStart=>exact ⟨(x7_2),(0),(by rfl),H',⟨Nat.le_refl _⟩,⟨by (with_reducible repeat (apply Kd.R_drew));exact Kd.R_mono HO_7.out (fun _ hk=>hk.2)⟩,⟨by (with_reducible repeat (apply Kd.R_drew));exact Kd.R_mono HO314.out (fun _ hk=>hk.2)⟩,⟨by (with_reducible repeat (refine qab ?_));exact BK303.out⟩,⟨by repeat ((with_reducible exact HB.out))⟩⟩
        case round=>
         clear H'
         try clear c14b0
         try clear c15b0
         try clear hx311_0
         try clear p311
         try clear q311
         obtain ⟨x7_3,x40_3,rfl,HA,HK3,HO_7,HO_38,BK303,HB⟩:=hrel
         cases gk with
         | zero=>exact absurd HA.out (by simp [qae.l1])
         | succ k3=>
          have H:=HA.out
          clear HA
          simp only [qae.l1] at H
          by_cases c21:x40_3<(t312.length:Int)
          ·rw [if_pos c21] at H
           have c21b0:decide (x40_3<(t312.length:Int))=true:=decide_eq_true c21
           clear c21
           by_cases c22:0≤x40_3
           ·rw [if_pos c22] at H
            have c22b0:decide (0≤x40_3)=true:=decide_eq_true c22
            clear c22
            by_cases c23:x40_3<(t312.length:Int)
            ·rw [if_pos c23] at H
             have c23b0:decide (x40_3<(t312.length:Int))=true:=decide_eq_true c23
             clear c23
             replace H:=Option.bind_eq_some_iff.mp H
             obtain ⟨t316,A240,H⟩:=H
             replace H:(if t316=true then (qae.l1 k3 l2 x7_3 x8_2 t312 (t312.length:Int) (wrap64 (x40_3+1)) a0_0 a0_1 l0_2) else ((qao.f k3 l2 (rd t312 x40_3)).bind fun t317=>(if t317=true then (qae.l1 k3 l2 x7_3 x8_2 t312 (t312.length:Int) (wrap64 (x40_3+1)) a0_0 a0_1 l0_2) else (if x7_3.length<17592186044416 then (qae.l1 k3 l2 (x7_3++[rd t312 x40_3]) x8_2 t312 (t312.length:Int) (wrap64 (x40_3+1)) a0_0 a0_1 l0_2) else (none)))))=some r:=H
             have A24:=qaa.mk A240
             clear A240
             by_cases c25:t316=true
             ·subst c25
              have H1:(qae.l1 k3 l2 x7_3 x8_2 t312 (t312.length:Int) (wrap64 (x40_3+1)) a0_0 a0_1 l0_2)=some r:=by rw [if_pos rfl] at H;exact H
              clear H
              have H:=H1
              clear H1
              have H':=qaa.mk H
              clear H
              have p315:0≤(x40_3:Int):=of_decide_eq_true (by (with_reducible assumption))
              have q315:x40_3<(t312.length:Int):=of_decide_eq_true (by (with_reducible assumption))
              obtain ⟨ad315,e315,hx315_0⟩:=Kd.at_int (Kd.R_reads' HO_38.out).2.2 x40_3 p315 q315
              cases e315
              replace p315:=eq_true p315
              replace q315:=eq_true q315
              obtain ⟨Ao26,co26,eo26⟩:=Kd.R_slice HO_7.out
              subst eo26
              go_wp2_with (((with_reducible refine qbb (f:=48) rfl ?_);refine qcv (some 46) rfl rfl Tryd.func48 (by kernel_rfl) rfl #[.slice Ao26 x7_3.length co26,.int .i64 (rd t312 x40_3)] rfl (by (try simp only [List.map_toArray,List.map_cons,List.map_nil]);rfl) ?_;(with_reducible refine (qao.calls k3 _ _ x7_3 (rd t312 x40_3) true _ ?side1 ?side2 A24.out).mono ?_);(case side1=>repeat (exact (Kd.R_reads' HO_7.out).2.2));(case side2=>exact (Kd.R_reads' HO_7.out).2.1);rintro e w' ⟨rfl,⟨nd,rfl⟩⟩;refine ⟨_,rfl,?_⟩))
              go_roundg k3
              case measure=>have:=HJ3.out;have:=HK2.out;have:=HK3.out;omega
              case rel=>exact ⟨(x7_3),(wrap64 (x40_3+1)),(by rfl),H',⟨by have:=HJ3.out;have:=HK2.out;have:=HK3.out;omega⟩,⟨by (with_reducible repeat (apply Kd.R_drewN));exact HO_7.out⟩,⟨by (with_reducible repeat (apply Kd.R_drewN));exact HO_38.out⟩,⟨by (with_reducible repeat (refine qde ?_ _));exact BK303.out⟩,⟨by repeat ((with_reducible first|exact HB.out|apply qav))⟩⟩
             ·replace c25:=Bool.eq_false_iff.mpr c25
              subst c25
              have H1:((qao.f k3 l2 (rd t312 x40_3)).bind fun t317=>(if t317=true then (qae.l1 k3 l2 x7_3 x8_2 t312 (t312.length:Int) (wrap64 (x40_3+1)) a0_0 a0_1 l0_2) else (if x7_3.length<17592186044416 then (qae.l1 k3 l2 (x7_3++[rd t312 x40_3]) x8_2 t312 (t312.length:Int) (wrap64 (x40_3+1)) a0_0 a0_1 l0_2) else (none))))=some r:=by rw [if_neg (show ¬ (false=true) by decide)] at H;exact H
              clear H
              have H:=H1
              clear H1
              replace H:=Option.bind_eq_some_iff.mp H
              obtain ⟨t317,A270,H⟩:=H
              replace H:(if t317=true then (qae.l1 k3 l2 x7_3 x8_2 t312 (t312.length:Int) (wrap64 (x40_3+1)) a0_0 a0_1 l0_2) else (if x7_3.length<17592186044416 then (qae.l1 k3 l2 (x7_3++[rd t312 x40_3]) x8_2 t312 (t312.length:Int) (wrap64 (x40_3+1)) a0_0 a0_1 l0_2) else (none)))=some r:=H
              have A27:=qaa.mk A270
              clear A270
              by_cases c28:t317=true
              ·subst c28
               have H1:(qae.l1 k3 l2 x7_3 x8_2 t312 (t312.length:Int) (wrap64 (x40_3+1)) a0_0 a0_1 l0_2)=some r:=by rw [if_pos rfl] at H;exact H
               clear H
               have H:=H1
               clear H1
               have H':=qaa.mk H
               clear H
               have p315:0≤(x40_3:Int):=of_decide_eq_true (by (with_reducible assumption))
               have q315:x40_3<(t312.length:Int):=of_decide_eq_true (by (with_reducible assumption))
               obtain ⟨ad315,e315,hx315_0⟩:=Kd.at_int (Kd.R_reads' HO_38.out).2.2 x40_3 p315 q315
               cases e315
               replace p315:=eq_true p315
               replace q315:=eq_true q315
               obtain ⟨Ao29,co29,eo29⟩:=Kd.R_slice HO_7.out
               subst eo29
               go_wp2_with (first|((with_reducible refine qbb (f:=48) rfl ?_);refine qcv (some 46) rfl rfl Tryd.func48 (by kernel_rfl) rfl #[.slice Ao29 x7_3.length co29,.int .i64 (rd t312 x40_3)] rfl (by (try simp only [List.map_toArray,List.map_cons,List.map_nil]);rfl) ?_;(with_reducible refine (qao.calls k3 _ _ x7_3 (rd t312 x40_3) false _ ?side1 ?side2 A24.out).mono ?_);(case side1=>repeat (exact (Kd.R_reads' HO_7.out).2.2));(case side2=>exact (Kd.R_reads' HO_7.out).2.1);rintro e w' ⟨rfl,⟨nd,rfl⟩⟩;refine ⟨_,rfl,?_⟩)|(go_at_call 48;(with_reducible refine (qao.calls k3 _ _ l2 (rd t312 x40_3) true _ ?side1 ?side2 A27.out).mono ?_);(case side1=>repeat (exact (Kd.C_below HR2.out (by repeat ((with_reducible first|exact HB.out|apply qav))))));(case side2=>exact HC2.out);rintro e w' ⟨rfl,⟨nd,rfl⟩⟩))
               go_roundg k3
               case measure=>have:=HJ3.out;have:=HK2.out;have:=HK3.out;omega
               case rel=>exact ⟨(x7_3),(wrap64 (x40_3+1)),(by rfl),H',⟨by have:=HJ3.out;have:=HK2.out;have:=HK3.out;omega⟩,⟨by (with_reducible repeat (apply Kd.R_drewN));exact HO_7.out⟩,⟨by (with_reducible repeat (apply Kd.R_drewN));exact HO_38.out⟩,⟨by (with_reducible repeat (refine qde ?_ _));exact BK303.out⟩,⟨by repeat ((with_reducible first|exact HB.out|apply qav))⟩⟩
              ·replace c28:=Bool.eq_false_iff.mpr c28
               subst c28
               have H1:(if x7_3.length<17592186044416 then (qae.l1 k3 l2 (x7_3++[rd t312 x40_3]) x8_2 t312 (t312.length:Int) (wrap64 (x40_3+1)) a0_0 a0_1 l0_2) else (none))=some r:=by rw [if_neg (show ¬ (false=true) by decide)] at H;exact H
               clear H
               have H:=H1
               clear H1
               by_cases c30:x7_3.length<17592186044416
               ·rw [if_pos c30] at H
                have LMc30:=qaa.mk c30
                clear c30
                obtain ⟨y318,hy318⟩:∃ y_:List Int,y_=(x7_3++[rd t312 x40_3]):=⟨_,rfl⟩
                replace H:(qae.l1 k3 l2 y318 x8_2 t312 (t312.length:Int) (wrap64 (x40_3+1)) a0_0 a0_1 l0_2)=some r:=by (rw [hy318];with_reducible exact H)
                have Ny318:=qaa.mk hy318
                clear hy318
                have H':=qaa.mk H
                clear H
                have p315:0≤(x40_3:Int):=of_decide_eq_true (by (with_reducible assumption))
                have q315:x40_3<(t312.length:Int):=of_decide_eq_true (by (with_reducible assumption))
                obtain ⟨ad315,e315,hx315_0⟩:=Kd.at_int (Kd.R_reads' HO_38.out).2.2 x40_3 p315 q315
                cases e315
                replace p315:=eq_true p315
                replace q315:=eq_true q315
                obtain ⟨Ao31,co31,eo31⟩:=Kd.R_slice HO_7.out
                subst eo31
                go_wp2_with (first|((with_reducible refine qbb (f:=48) rfl ?_);refine qcv (some 46) rfl rfl Tryd.func48 (by kernel_rfl) rfl #[.slice Ao31 x7_3.length co31,.int .i64 (rd t312 x40_3)] rfl (by (try simp only [List.map_toArray,List.map_cons,List.map_nil]);rfl) ?_;(with_reducible refine (qao.calls k3 _ _ x7_3 (rd t312 x40_3) false _ ?side1 ?side2 A24.out).mono ?_);(case side1=>repeat (exact (Kd.R_reads' HO_7.out).2.2));(case side2=>exact (Kd.R_reads' HO_7.out).2.1);rintro e w' ⟨rfl,⟨nd,rfl⟩⟩;refine ⟨_,rfl,?_⟩)|(go_at_call 48;(with_reducible refine (qao.calls k3 _ _ l2 (rd t312 x40_3) false _ ?side1 ?side2 A27.out).mono ?_);(case side1=>repeat (exact (Kd.C_below HR2.out (by repeat ((with_reducible first|exact HB.out|apply qav))))));(case side2=>exact HC2.out);rintro e w' ⟨rfl,⟨nd,rfl⟩⟩)|((with_reducible refine qdf (b:=.append) (xs:=#[.tmp 54,.tmp 56]) rfl ?_);(try (refine qcl (by rfl) ?_;dsimp only));at_builtin;refine Kd.R_append (Kd.int .i64) (w0:=w) w.heap.size rfl (.tmp 54) (.tmp 56) 31 3 (.int .i64 0) 8 rfl Tryd.underlying31 qfe rfl (by decide) (by omega) (.slice Ao31 x7_3.length co31) x7_3 (rd t312 x40_3) [.int .i64 (rd t312 x40_3)] (fun k_=>some k_≠(.slice (some ad315) t312.length co20:Value).ownBlock) (fun _=>False) rfl rfl ?aP (fun _ hk=>hk.elim) ?aF ?aO ?aB ?aS ?aL ?_;(case aP=>exact rfl);(case aB=>exact (by repeat ((with_reducible first|exact HB.out|apply qav))));(case aF=>exact (fun k_ hk=>Kd.fresh' (Kd.R_lt (by (with_reducible repeat (apply Kd.R_drewN));exact HO_38.out)) k_ hk));(case aO=>exact (by (with_reducible repeat (apply Kd.R_drewN));exact HO_7.out));(case aS=>exact (qac (by repeat ((with_reducible first|exact HB.out|apply qav)))));(case aL=>have:=LMc30.out;omega);intro v319 w32 ho hb hg hat;rw [← Ny318.out] at ho;have n0_:=qaa.mk (Kd.R_after (ok:=(fun _=>True)) (by (with_reducible repeat (apply Kd.R_drewN));exact Kd.R_mono HO_38.out (fun _ hk=>⟨trivial,hk⟩)) hg hat);have n1_:=qaa.mk (qdp (g:=gb303) (o:=.cells #[.bool a0_0,.int .i64 a0_1,.slice A0_2 l0_2.length c0_2] 24 (0,0)) (by (with_reducible repeat (refine qde ?_ _));exact BK303.out) hg (Kd.R_ne HO_7.out BK303.out (by decide)));have n2_:=qaa.mk (hb);have n3_:=qaa.mk (ho);clear HO_38;clear BK303;clear HB;clear HO_7;have HO_38:=n0_;have BK303:=n1_;have HB:=n2_;have HO320:=n3_;clear n0_ n1_ n2_ n3_;clear ho hb hg hat))
                go_roundg k3
                case measure=>have:=HJ3.out;have:=HK2.out;have:=HK3.out;omega
                case rel=>exact ⟨(y318),(wrap64 (x40_3+1)),(by rfl),H',⟨by have:=HJ3.out;have:=HK2.out;have:=HK3.out;omega⟩,⟨by (with_reducible repeat (apply Kd.R_drew));exact HO320.out⟩,⟨by (with_reducible repeat (apply Kd.R_drew));exact Kd.R_mono HO_38.out (fun _ hk=>hk.2)⟩,⟨by (with_reducible repeat (refine qab ?_));exact BK303.out⟩,⟨by repeat ((with_reducible exact HB.out))⟩⟩
               ·rw [if_neg c30] at H
                exact absurd H (by simp)
            ·rw [if_neg c23] at H
             exact absurd H (by simp)
           ·rw [if_neg c22] at H
            exact absurd H (by simp)
          ·rw [if_neg c21] at H
           have c21b0:decide (x40_3<(t312.length:Int))=false:=decide_eq_false c21
           clear c21
           have H':=qaa.mk H
           clear H
           go_wp2
           go_roundg k3
           case measure=>have:=HJ3.out;have:=HK2.out;have:=HK3.out;omega
           case rel=>exact ⟨(x7_3),(wrap64 (x8_2+1)),(by rfl),H',⟨by have:=HJ3.out;have:=HK2.out;have:=HK3.out;omega⟩,⟨by (with_reducible repeat (apply Kd.R_drew));exact Kd.R_mono HO_7.out (fun _ hk=>trivial)⟩,⟨by (with_reducible repeat (refine qab ?_));exact BK303.out⟩,⟨by repeat ((with_reducible exact HB.out))⟩⟩
       ·rw [if_neg c15] at H
        exact absurd H (by simp)
      ·rw [if_neg c14] at H
       have c14b0:decide (x8_2<(x7_2.length:Int))=false:=decide_eq_false c14
       clear c14
       replace H:=Option.bind_eq_some_iff.mp H
       obtain ⟨t308,A330,H⟩:=H
       replace H:(some t308)=some r:=H
       have A33:=qaa.mk A330
       clear A330
       obtain rfl:=Option.some.inj H
       obtain ⟨Ao34,co34,eo34⟩:=Kd.R_slice HO_7.out
       subst eo34
       go_wp2_with (((with_reducible refine qbb (f:=46) rfl ?_);refine qcv (some 60) rfl rfl Tryd.func46 (by kernel_rfl) rfl #[.slice Ao34 x7_2.length co34] rfl (by (try simp only [List.map_toArray,List.map_cons,List.map_nil]);rfl) ?_;(with_reducible refine (qbe.calls k2 _ _ x7_2 t308 _ ?side1 ?side2 A33.out).mono ?_);(case side1=>repeat (exact (Kd.R_reads' HO_7.out).2.2));(case side2=>exact (Kd.R_reads' HO_7.out).2.1);rintro e w35 ⟨v309,rfl,ho0,hb⟩;refine ⟨_,rfl,?_⟩;have HO310:=qaa.mk (Kd.R_lower (Kd.R_new' ho0 (Kd.R_lt (by (with_reducible repeat (apply Kd.R_drew));exact HO_7.out))) (qac HB.out));replace HO_7:=qaa.mk (Kd.R_elder' (by (with_reducible repeat (apply Kd.R_drew));exact HO_7.out) (Kd.R_base ho0) hb);replace BK303:=qaa.mk (qah (g:=gb303) (o:=.cells #[.bool a0_0,.int .i64 a0_1,.slice A0_2 l0_2.length c0_2] 24 (0,0)) (by (with_reducible repeat (refine qab ?_));exact BK303.out) hb);replace HB:=qaa.mk (qal HB.out hb);(try clear hb);(try clear ho0)))
       go_ret
       exact ⟨_,by rfl,by (with_reducible repeat (apply Kd.R_drew));exact Kd.R_mono HO310.out (fun _ hk=>trivial),by repeat ((with_reducible exact HB.out))⟩
end Go.Proofs.YtmfjmbcfaamebaaDoor.X
namespace Go.Proofs.YtmfjmbcfaamebaaDoor.X
open Go.RowKit Go.Proofs.YtmfjmbcfaamebaaDoorW.PrintWords Go.Proofs.YtmfjmbcfaamebaaDoorW.PrintLast Go.Proofs.YtmfjmbcfaamebaaDoorW.PrintMore
attribute [local go_sem] qbs qcb
set_option linter.unusedVariables false
set_option linter.unusedSimpArgs false
def qcg.f (k:Nat) (a0_0:Bool) (a0_1:Int) (l0_2:List (S60)) (a1:Int) (a2:Int):Option (Bool):=(qae.f k a0_0 a0_1 l0_2 0 ([]:List Int)).bind fun t322=>((qao.f k t322 a2).bind fun t325=>(if t325=true then ((qae.f k a0_0 a0_1 l0_2 0 (([a1]:List Int))).bind fun t329=>((qao.f k t329 a2).bind fun t332=>(some (!t332)))) else (some false)))
theorem qcg.mono:∀ a0 a1 a2 a3 a4 k,LeO (qcg.f k a0 a1 a2 a3 a4) (qcg.f (k+1) a0 a1 a2 a3 a4):=by
 intro a0 a1 a2 a3 a4 k
 unfold qcg.f
 repeat' first|(with_reducible exact qao.mono _ _ _)|(with_reducible exact qae.mono _ _ _ _ _ _)|(with_reducible exact LeO.refl _)|(with_reducible refine LeO.ite ?_ ?_)|(with_reducible refine LeO.bind ?_ (fun _=>?_))
set_option maxHeartbeats 8000000 in
set_option maxRecDepth 100000 in
theorem qcg.calls (k:Nat) (a0_0:Bool) (a0_1:Int) (A0_2:Option Addr) (c0_2:Nat) (l0_2:List (S60)) (a1:Int) (a2:Int) (r:Bool) (w:World) (hr0_2:Kd.C k60 w A0_2 l0_2.length l0_2) (hc0_2:l0_2.length≤c0_2) (h:qcg.f k a0_0 a0_1 l0_2 a1 a2=some r) :
  Calls Tryd.prog 55 #[.agg #[.bool a0_0,.int .i64 a0_1,.slice A0_2 l0_2.length c0_2],.int .i64 a1,.int .i64 a2] w fun e w'=>e=.returned (.bool r)∧Below w.heap.size w w':=by
 have hu24:=Tryd.underlying24
 have HR0_2:=qaa.mk hr0_2
 have HC0_2:=qaa.mk hc0_2
 clear hr0_2 hc0_2
 have HB:=qaa.mk (Below.refl w.heap.size w)
 have H:((qae.f k a0_0 a0_1 l0_2 0 ([]:List Int)).bind fun t322=>((qao.f k t322 a2).bind fun t325=>(if t325=true then ((qae.f k a0_0 a0_1 l0_2 0 (([a1]:List Int))).bind fun t329=>((qao.f k t329 a2).bind fun t332=>(some (!t332)))) else (some false))))=some r:=h
 clear h
 replace H:=Option.bind_eq_some_iff.mp H
 obtain ⟨t322,A40,H⟩:=H
 replace H:((qao.f k t322 a2).bind fun t325=>(if t325=true then ((qae.f k a0_0 a0_1 l0_2 0 (([a1]:List Int))).bind fun t329=>((qao.f k t329 a2).bind fun t332=>(some (!t332)))) else (some false)))=some r:=H
 have A4:=qaa.mk A40
 clear A40
 replace H:=Option.bind_eq_some_iff.mp H
 obtain ⟨t325,A50,H⟩:=H
 replace H:(if t325=true then ((qae.f k a0_0 a0_1 l0_2 0 (([a1]:List Int))).bind fun t329=>((qao.f k t329 a2).bind fun t332=>(some (!t332)))) else (some false))=some r:=H
 have A5:=qaa.mk A50
 clear A50
 by_cases c6:t325=true
 ·subst c6
  have H1:((qae.f k a0_0 a0_1 l0_2 0 (([a1]:List Int))).bind fun t329=>((qao.f k t329 a2).bind fun t332=>(some (!t332))))=some r:=by rw [if_pos rfl] at H;exact H
  clear H
  have H:=H1
  clear H1
  obtain ⟨y326,hy326⟩:∃ y_:List Int,y_=(([a1]:List Int)):=⟨_,rfl⟩
  replace H:((qae.f k a0_0 a0_1 l0_2 0 y326).bind fun t329=>((qao.f k t329 a2).bind fun t332=>(some (!t332))))=some r:=by (rw [hy326];with_reducible exact H)
  have Ny326:=qaa.mk hy326
  clear hy326
  replace H:=Option.bind_eq_some_iff.mp H
  obtain ⟨t329,A70,H⟩:=H
  replace H:((qao.f k t329 a2).bind fun t332=>(some (!t332)))=some r:=H
  have A7:=qaa.mk A70
  clear A70
  replace H:=Option.bind_eq_some_iff.mp H
  obtain ⟨t332,A80,H⟩:=H
  replace H:(some (!t332))=some r:=H
  have A8:=qaa.mk A80
  clear A80
  obtain rfl:=Option.some.inj H
  go_enter Tryd.func55,Tryd.ntmps55
  go_wp2_with (first|((with_reducible refine qbf (N:=3) rfl ?_);(try (refine qcl (by rfl) ?_;dsimp only));refine qbr ?hg (N:=3) ?hd (cs:=#[.bool a0_0,.int .i64 a0_1,.slice A0_2 l0_2.length c0_2]) (t:=24) ?hr ?_;(case hd=>rfl);(case hg=>rfl);(case hr=>(go_simp;done));intro gb321 hg w9 hbox hb;have BK321:=qaa.mk (hbox);have GW321:=qaa.mk ((by rw [hg];exact (qac HB.out):w.heap.size≤gb321));have GE321:=qaa.mk ((by rw [hg];exact (qac HB.out):w.heap.size≤gb321));replace HB:=qaa.mk (qal HB.out hb);clear hb hbox hg;have hcz10_0:w9.cell? ⟨gb321,0,none⟩=some (.bool a0_0):=(qad BK321.out 0).trans rfl;have hcz10_1:w9.cell? ⟨gb321,1,none⟩=some (.int .i64 a0_1):=(qad BK321.out 1).trans rfl;have hcz10_2:w9.cell? ⟨gb321,2,none⟩=some (.slice A0_2 l0_2.length c0_2):=(qad BK321.out 2).trans rfl;have hfz10_0:=qaf BK321.out 0;have hfz10_1:=qaf BK321.out 1;have hfz10_2:=qaf BK321.out 2)|((with_reducible refine qbb (f:=59) rfl ?_);refine qcv (some 8) rfl rfl Tryd.func59 (by kernel_rfl) rfl #[.agg #[.bool a0_0,.int .i64 a0_1,.slice A0_2 l0_2.length c0_2],.int .i64 0,.slice none 0 0] rfl (by (try simp only [List.map_toArray,List.map_cons,List.map_nil]);rfl) ?_;(refine (qae.calls k a0_0 a0_1 _ _ l0_2 0 _ _ ([]:List Int) t322 _ ?side1 ?side2 ?side3 ?side4 A4.out).mono ?_);(case side1=>repeat (exact (Kd.C_below HR0_2.out HB.out)));(case side2=>exact HC0_2.out);(case side3=>exact Kd.C_nil _ _);(case side4=>exact Nat.le_refl _);rintro e w11 ⟨v323,rfl,ho0,hb⟩;refine ⟨_,rfl,?_⟩;have HO324:=qaa.mk (Kd.R_lower ho0 (qac HB.out));replace BK321:=qaa.mk (qah (g:=gb321) (o:=.cells #[.bool a0_0,.int .i64 a0_1,.slice A0_2 l0_2.length c0_2] 24 (0,0)) (by (with_reducible repeat (refine qab ?_));exact BK321.out) hb);replace HB:=qaa.mk (qal HB.out hb);(try clear hb);(try clear ho0);obtain ⟨Ao12,co12,eo12⟩:=Kd.R_slice HO324.out;subst eo12)|((with_reducible refine qbb (f:=48) rfl ?_);refine qcv (some 10) rfl rfl Tryd.func48 (by kernel_rfl) rfl #[.slice Ao12 t322.length co12,.int .i64 a2] rfl (by (try simp only [List.map_toArray,List.map_cons,List.map_nil]);rfl) ?_;(with_reducible refine (qao.calls k _ _ t322 a2 true _ ?side1 ?side2 A5.out).mono ?_);(case side1=>repeat (exact (Kd.R_reads' HO324.out).2.2));(case side2=>exact (Kd.R_reads' HO324.out).2.1);rintro e w' ⟨rfl,⟨nd,rfl⟩⟩;refine ⟨_,rfl,?_⟩;have hcz13_0:w11.cell? ⟨gb321,0,none⟩=some (.bool a0_0):=(qad BK321.out 0).trans rfl;have hcz13_1:w11.cell? ⟨gb321,1,none⟩=some (.int .i64 a0_1):=(qad BK321.out 1).trans rfl;have hcz13_2:w11.cell? ⟨gb321,2,none⟩=some (.slice A0_2 l0_2.length c0_2):=(qad BK321.out 2).trans rfl;have hfz13_0:=qaf BK321.out 0;have hfz13_1:=qaf BK321.out 1;have hfz13_2:=qaf BK321.out 2)|((with_reducible refine qbf (N:=14) rfl ?_);(try (refine qcl (by rfl) ?_;dsimp only));refine Kd.R_lit (Kd.int .i64) _ 3 ?hg (N:=14) ?hd (xs:=([a1]:List Int)) (inner:=[.int .i64 a1]) (ok:=fun _=>True) (okp:=fun _=>True) ?hr ?hp (fun _ hk=>hk) trivial (Below.refl _ _) (Nat.le_refl _) (by simp) ?_;(case hd=>rfl);(case hg=>rfl);(case hr=>(go_simp;done));(case hp=>exact (Reps.one (show Kd.M (Kd.int .i64) _ _ _ a1 [.int .i64 a1] from rfl) (Reps.none _ _)));intro v327 w14 ho15 hb hg_ hnew_;clear hg_ hnew_;(rw [← Ny326.out] at ho15);have HO328:=qaa.mk (Kd.R_lower (Kd.R_new' ho15 (Kd.R_lt (by (with_reducible repeat (apply Kd.R_drewN));exact HO324.out))) (qac (by repeat ((with_reducible first|exact HB.out|apply qav)))));replace HO324:=qaa.mk (Kd.R_elder' (by (with_reducible repeat (apply Kd.R_drewN));exact HO324.out) (Kd.R_base ho15) hb);replace BK321:=qaa.mk (qah (g:=gb321) (o:=.cells #[.bool a0_0,.int .i64 a0_1,.slice A0_2 l0_2.length c0_2] 24 (0,0)) (by (with_reducible repeat (refine qde ?_ _));exact BK321.out) hb);replace HB:=qaa.mk (qal (by repeat ((with_reducible first|exact HB.out|apply qav))) hb);clear hb ho15;obtain ⟨Ao16,co16,eo16⟩:=Kd.R_slice HO328.out;subst eo16)|(go_at_call 59;(with_reducible refine (qae.calls k a0_0 a0_1 _ _ l0_2 0 _ _ y326 t329 _ ?side1 ?side2 ?side3 ?side4 A7.out).mono ?_);(case side1=>repeat (exact (Kd.C_below HR0_2.out HB.out)));(case side2=>exact HC0_2.out);(case side3=>repeat (exact (Kd.R_reads' HO328.out).2.2));(case side4=>exact (Kd.R_reads' HO328.out).2.1);rintro e w17 ⟨v330,rfl,ho0,hb⟩;have HO331:=qaa.mk (Kd.R_lower (Kd.R_new' (Kd.R_new' ho0 (Kd.R_lt (by (with_reducible repeat (apply Kd.R_drew));exact HO324.out))) (Kd.R_lt (by (with_reducible repeat (apply Kd.R_drew));exact HO328.out))) (qac HB.out));replace HO324:=qaa.mk (Kd.R_elder' (by (with_reducible repeat (apply Kd.R_drew));exact HO324.out) (Kd.R_base ho0) hb);replace HO328:=qaa.mk (Kd.R_elder' (by (with_reducible repeat (apply Kd.R_drew));exact HO328.out) (Kd.R_base ho0) hb);replace BK321:=qaa.mk (qah (g:=gb321) (o:=.cells #[.bool a0_0,.int .i64 a0_1,.slice A0_2 l0_2.length c0_2] 24 (0,0)) (by (with_reducible repeat (refine qab ?_));exact BK321.out) hb);replace HB:=qaa.mk (qal HB.out hb);(try clear hb);(try clear ho0);obtain ⟨Ao18,co18,eo18⟩:=Kd.R_slice HO331.out;subst eo18)|(go_at_call 48;(with_reducible refine (qao.calls k _ _ t329 a2 t332 _ ?side1 ?side2 A8.out).mono ?_);(case side1=>repeat (exact (Kd.R_reads' HO331.out).2.2));(case side2=>exact (Kd.R_reads' HO331.out).2.1);rintro e w' ⟨rfl,⟨nd,rfl⟩⟩))
  go_ret
  exact ⟨by rfl,by repeat ((with_reducible first|exact HB.out|apply qav))⟩
 ·replace c6:=Bool.eq_false_iff.mpr c6
  subst c6
  have H1:(some false)=some r:=by rw [if_neg (show ¬ (false=true) by decide)] at H;exact H
  clear H
  have H:=H1
  clear H1
  obtain rfl:=Option.some.inj H
  go_enter Tryd.func55,Tryd.ntmps55
  go_wp2_with (first|((with_reducible refine qbf (N:=3) rfl ?_);(try (refine qcl (by rfl) ?_;dsimp only));refine qbr ?hg (N:=3) ?hd (cs:=#[.bool a0_0,.int .i64 a0_1,.slice A0_2 l0_2.length c0_2]) (t:=24) ?hr ?_;(case hd=>rfl);(case hg=>rfl);(case hr=>(go_simp;done));intro gb321 hg w19 hbox hb;have BK321:=qaa.mk (hbox);have GW321:=qaa.mk ((by rw [hg];exact (qac HB.out):w.heap.size≤gb321));have GE321:=qaa.mk ((by rw [hg];exact (qac HB.out):w.heap.size≤gb321));replace HB:=qaa.mk (qal HB.out hb);clear hb hbox hg;have hcz20_0:w19.cell? ⟨gb321,0,none⟩=some (.bool a0_0):=(qad BK321.out 0).trans rfl;have hcz20_1:w19.cell? ⟨gb321,1,none⟩=some (.int .i64 a0_1):=(qad BK321.out 1).trans rfl;have hcz20_2:w19.cell? ⟨gb321,2,none⟩=some (.slice A0_2 l0_2.length c0_2):=(qad BK321.out 2).trans rfl;have hfz20_0:=qaf BK321.out 0;have hfz20_1:=qaf BK321.out 1;have hfz20_2:=qaf BK321.out 2)|((with_reducible refine qbb (f:=59) rfl ?_);refine qcv (some 8) rfl rfl Tryd.func59 (by kernel_rfl) rfl #[.agg #[.bool a0_0,.int .i64 a0_1,.slice A0_2 l0_2.length c0_2],.int .i64 0,.slice none 0 0] rfl (by (try simp only [List.map_toArray,List.map_cons,List.map_nil]);rfl) ?_;(refine (qae.calls k a0_0 a0_1 _ _ l0_2 0 _ _ ([]:List Int) t322 _ ?side1 ?side2 ?side3 ?side4 A4.out).mono ?_);(case side1=>repeat (exact (Kd.C_below HR0_2.out HB.out)));(case side2=>exact HC0_2.out);(case side3=>exact Kd.C_nil _ _);(case side4=>exact Nat.le_refl _);rintro e w21 ⟨v323,rfl,ho0,hb⟩;refine ⟨_,rfl,?_⟩;have HO324:=qaa.mk (Kd.R_lower ho0 (qac HB.out));replace BK321:=qaa.mk (qah (g:=gb321) (o:=.cells #[.bool a0_0,.int .i64 a0_1,.slice A0_2 l0_2.length c0_2] 24 (0,0)) (by (with_reducible repeat (refine qab ?_));exact BK321.out) hb);replace HB:=qaa.mk (qal HB.out hb);(try clear hb);(try clear ho0);obtain ⟨Ao22,co22,eo22⟩:=Kd.R_slice HO324.out;subst eo22)|((with_reducible refine qbb (f:=48) rfl ?_);refine qcv (some 10) rfl rfl Tryd.func48 (by kernel_rfl) rfl #[.slice Ao22 t322.length co22,.int .i64 a2] rfl (by (try simp only [List.map_toArray,List.map_cons,List.map_nil]);rfl) ?_;(with_reducible refine (qao.calls k _ _ t322 a2 false _ ?side1 ?side2 A5.out).mono ?_);(case side1=>repeat (exact (Kd.R_reads' HO324.out).2.2));(case side2=>exact (Kd.R_reads' HO324.out).2.1);rintro e w' ⟨rfl,⟨nd,rfl⟩⟩;refine ⟨_,rfl,?_⟩))
  go_ret
  exact ⟨by rfl,by repeat ((with_reducible first|exact HB.out|apply qav))⟩
end Go.Proofs.YtmfjmbcfaamebaaDoor.X
namespace Go.Proofs.YtmfjmbcfaamebaaDoor.X
open Go.RowKit Go.Proofs.YtmfjmbcfaamebaaDoorW.PrintWords Go.Proofs.YtmfjmbcfaamebaaDoorW.PrintLast Go.Proofs.YtmfjmbcfaamebaaDoorW.PrintMore
attribute [local go_sem] qbs qcb
set_option linter.unusedVariables false
set_option linter.unusedSimpArgs false
mutual
def qai.l0:Nat→List (List Int)→Int→Int→Bool→Int→List (S60)→Option ((List (List Int)))
 | 0,_,_,_,_,_,_=>none
 | k+1,x3,x9,x10,x334000,x334001,x334002=>if x10<x9 then (qai.l1 k x3 x10 ([]:List Int) x9 x10 (x334002.length:Int) 0 x334000 x334001 x334002) else (some x3)
def qai.l1:Nat→List (List Int)→Int→List Int→Int→Int→Int→Int→Bool→Int→List (S60)→Option ((List (List Int)))
 | 0,_,_,_,_,_,_,_,_,_,_=>none
 | k+1,x3,x4,x5,x9,x10,x15,x16,x334000,x334001,x334002=>if x16<x15 then ((qcg.f k x334000 x334001 x334002 x16 x4).bind fun t334=>(if t334=true then (if x5.length<17592186044416 then (qai.l1 k x3 x4 (x5++[x16]) x9 x10 x15 (wrap64 (x16+1)) x334000 x334001 x334002) else (none)) else (qai.l1 k x3 x4 x5 x9 x10 x15 (wrap64 (x16+1)) x334000 x334001 x334002))) else (if x3.length<5864062014805 then (qai.l0 k (x3++[x5]) x9 (wrap64 (x10+1)) x334000 x334001 x334002) else (none))
end
def qai.f (k:Nat) (a0_0:Bool) (a0_1:Int) (l0_2:List (S60)):Option ((List (List Int))):=qai.l0 k ([]:List (List Int)) (l0_2.length:Int) 0 a0_0 a0_1 l0_2
theorem qai.mono_l:∀ k,(∀ y0 y1 y2 y3 y4 y5,LeO (qai.l0 k y0 y1 y2 y3 y4 y5) (qai.l0 (k+1) y0 y1 y2 y3 y4 y5))∧(∀ y0 y1 y2 y3 y4 y5 y6 y7 y8 y9,LeO (qai.l1 k y0 y1 y2 y3 y4 y5 y6 y7 y8 y9) (qai.l1 (k+1) y0 y1 y2 y3 y4 y5 y6 y7 y8 y9))
 | 0=>⟨fun _ _ _ _ _ _ r h=>by simp [qai.l0] at h,fun _ _ _ _ _ _ _ _ _ _ r h=>by simp [qai.l1] at h⟩
 | k+1=>by
  obtain ⟨ih0,ih1⟩:=qai.mono_l k
  refine ⟨?_,?_⟩
  ·intro y0 y1 y2 y3 y4 y5
   unfold qai.l0
   repeat' first|(with_reducible exact ih1 _ _ _ _ _ _ _ _ _ _)|(with_reducible exact LeO.refl _)|(with_reducible refine LeO.ite ?_ ?_)
  ·intro y0 y1 y2 y3 y4 y5 y6 y7 y8 y9
   unfold qai.l1
   repeat' first|(with_reducible exact ih0 _ _ _ _ _ _)|(with_reducible exact ih1 _ _ _ _ _ _ _ _ _ _)|(with_reducible exact qcg.mono _ _ _ _ _ _)|(with_reducible exact LeO.refl _)|(with_reducible refine LeO.ite ?_ ?_)|(with_reducible refine LeO.bind ?_ (fun _=>?_))
theorem qai.mono:∀ a0 a1 a2 k,LeO (qai.f k a0 a1 a2) (qai.f (k+1) a0 a1 a2):=by
 intro a0 a1 a2 k
 obtain ⟨ih0,ih1⟩:=qai.mono_l k
 unfold qai.f
 repeat' (with_reducible exact ih0 _ _ _ _ _ _)
set_option maxHeartbeats 8000000 in
set_option maxRecDepth 100000 in
theorem qai.calls (k:Nat) (a0_0:Bool) (a0_1:Int) (A0_2:Option Addr) (c0_2:Nat) (l0_2:List (S60)) (r:List (List Int)) (w:World) (hr0_2:Kd.C k60 w A0_2 l0_2.length l0_2) (hc0_2:l0_2.length≤c0_2) (h:qai.f k a0_0 a0_1 l0_2=some r) :
  Calls Tryd.prog 22 #[.agg #[.bool a0_0,.int .i64 a0_1,.slice A0_2 l0_2.length c0_2]] w fun e w'=>∃ v0_:Value,e=.returned (v0_)∧Kd.S (Kd.slice 3 (Kd.int .i64)) 31 w' w.heap.size (fun _=>True) v0_ r∧Below w.heap.size w w':=by
 have hu24:=Tryd.underlying24
 have HR0_2:=qaa.mk hr0_2
 have HC0_2:=qaa.mk hc0_2
 clear hr0_2 hc0_2
 have HB:=qaa.mk (Below.refl w.heap.size w)
 have H:(qai.l0 k ([]:List (List Int)) (l0_2.length:Int) 0 a0_0 a0_1 l0_2)=some r:=h
 clear h
 have H':=qaa.mk H
 clear H
 go_enter Tryd.func22,Tryd.ntmps22
 go_wp2_with (((with_reducible refine qbf (N:=1) rfl ?_);refine qbr ?hg (N:=1) ?hd (cs:=#[.bool a0_0,.int .i64 a0_1,.slice A0_2 l0_2.length c0_2]) (t:=24) ?hr ?_;(case hd=>rfl);(case hg=>rfl);(case hr=>(go_simp;done));intro gb333 hg w2 hbox hb;have BK333:=qaa.mk (hbox);have GW333:=qaa.mk ((by rw [hg];exact (qac HB.out):w.heap.size≤gb333));have GE333:=qaa.mk ((by rw [hg];exact (qac HB.out):w.heap.size≤gb333));replace HB:=qaa.mk (qal HB.out hb);clear hb hbox hg;have hcz3_0:w2.cell? ⟨gb333,0,none⟩=some (.bool a0_0):=(qad BK333.out 0).trans rfl;have hcz3_1:w2.cell? ⟨gb333,1,none⟩=some (.int .i64 a0_1):=(qad BK333.out 1).trans rfl;have hcz3_2:w2.cell? ⟨gb333,2,none⟩=some (.slice A0_2 l0_2.length c0_2):=(qad BK333.out 2).trans rfl;have hfz3_0:=qaf BK333.out 0;have hfz3_1:=qaf BK333.out 1;have hfz3_2:=qaf BK333.out 2))
 go_loopg [3,10] k (fun kq v3 v10 w'=>∃ (x3_1:List (List Int)) (x10_1:Int),v10=.int .i64 x10_1∧qaa (qai.l0 kq x3_1 (l0_2.length:Int) x10_1 a0_0 a0_1 l0_2=some r)∧qaa (kq≤k)∧qaa (Kd.S (Kd.slice 3 (Kd.int .i64)) 31 w' w.heap.size (fun _=>True) v3 x3_1)∧qaa (w'.heap[gb333]?=some (.cells #[.bool a0_0,.int .i64 a0_1,(.slice A0_2 l0_2.length c0_2)] 24 (0,0)))∧qaa (Below w.heap.size w w'))
 case atStart=>exact ⟨(([]:List (List Int))),(0),(by rfl),H',⟨Nat.le_refl _⟩,⟨by exact Kd.S_nil _ _ _ _ _⟩,⟨by (with_reducible repeat (refine qab ?_));exact BK333.out⟩,⟨by repeat ((with_reducible exact HB.out))⟩⟩
 case round=>
  clear H'
  try clear hcz3_0
  try clear hcz3_1
  try clear hcz3_2
  try clear hfz3_0
  try clear hfz3_1
  try clear hfz3_2
  obtain ⟨x3_1,x10_1,rfl,HA,HK1,HO_3,BK333,HB⟩:=hrel
  cases gk with
  | zero=>exact absurd HA.out (by simp [qai.l0])
  | succ k1=>
   have H:=HA.out
   clear HA
   simp only [qai.l0] at H
   by_cases c4:x10_1<(l0_2.length:Int)
   ·rw [if_pos c4] at H
    have c4b0:decide (x10_1<(l0_2.length:Int))=true:=decide_eq_true c4
    clear c4
    have H':=qaa.mk H
    clear H
    have hcz5_0:wr.cell? ⟨gb333,0,none⟩=some (.bool a0_0):=(qad BK333.out 0).trans rfl
    have hcz5_1:wr.cell? ⟨gb333,1,none⟩=some (.int .i64 a0_1):=(qad BK333.out 1).trans rfl
    have hcz5_2:wr.cell? ⟨gb333,2,none⟩=some (.slice A0_2 l0_2.length c0_2):=(qad BK333.out 2).trans rfl
    have hfz5_0:=qaf BK333.out 0
    have hfz5_1:=qaf BK333.out 1
    have hfz5_2:=qaf BK333.out 2
    go_wp2
    go_loopg [5,16] k1 (fun kq v5 v16 w'=>∃ (x5_2:List Int) (x16_2:Int),v16=.int .i64 x16_2∧qaa (qai.l1 kq x3_1 x10_1 x5_2 (l0_2.length:Int) x10_1 (l0_2.length:Int) x16_2 a0_0 a0_1 l0_2=some r)∧qaa (kq≤k1)∧qaa (Kd.S (Kd.slice 3 (Kd.int .i64)) 31 w' w.heap.size (fun k_=>some k_≠(v5:Value).ownBlock) u3 x3_1)∧qaa (Kd.R (Kd.int .i64) 3 w' w.heap.size (fun _=>True) v5 x5_2)∧qaa (w'.heap[gb333]?=some (.cells #[.bool a0_0,.int .i64 a0_1,(.slice A0_2 l0_2.length c0_2)] 24 (0,0)))∧qaa (Below w.heap.size w w'))
    case atStart=>exact ⟨(([]:List Int)),(0),(by rfl),H',⟨Nat.le_refl _⟩,⟨by (with_reducible repeat (apply Kd.S_drew));exact Kd.S_mono HO_3.out (fun _ hk=>(by simp [Value.ownBlock]))⟩,⟨by exact Kd.R_nil _ _ _ _ _⟩,⟨by (with_reducible repeat (refine qab ?_));exact BK333.out⟩,⟨by repeat ((with_reducible exact HB.out))⟩⟩
    case round=>
     clear H'
     try clear c4b0
     try clear hcz5_0
     try clear hcz5_1
     try clear hcz5_2
     try clear hfz5_0
     try clear hfz5_1
     try clear hfz5_2
     obtain ⟨x5_2,x16_2,rfl,HA,HK2,HO_3,HO_5,BK333,HB⟩:=hrel
     cases gk with
     | zero=>exact absurd HA.out (by simp [qai.l1])
     | succ k2=>
      have H:=HA.out
      clear HA
      simp only [qai.l1] at H
      by_cases c6:x16_2<(l0_2.length:Int)
      ·rw [if_pos c6] at H
       have c6b0:decide (x16_2<(l0_2.length:Int))=true:=decide_eq_true c6
       clear c6
       replace H:=Option.bind_eq_some_iff.mp H
       obtain ⟨t334,A70,H⟩:=H
       replace H:(if t334=true then (if x5_2.length<17592186044416 then (qai.l1 k2 x3_1 x10_1 (x5_2++[x16_2]) (l0_2.length:Int) x10_1 (l0_2.length:Int) (wrap64 (x16_2+1)) a0_0 a0_1 l0_2) else (none)) else (qai.l1 k2 x3_1 x10_1 x5_2 (l0_2.length:Int) x10_1 (l0_2.length:Int) (wrap64 (x16_2+1)) a0_0 a0_1 l0_2))=some r:=H
       have A7:=qaa.mk A70
       clear A70
       by_cases c8:t334=true
       ·subst c8
        have H1:(if x5_2.length<17592186044416 then (qai.l1 k2 x3_1 x10_1 (x5_2++[x16_2]) (l0_2.length:Int) x10_1 (l0_2.length:Int) (wrap64 (x16_2+1)) a0_0 a0_1 l0_2) else (none))=some r:=by rw [if_pos rfl] at H;exact H
        clear H
        have H:=H1
        clear H1
        by_cases c9:x5_2.length<17592186044416
        ·rw [if_pos c9] at H
         have LMc9:=qaa.mk c9
         clear c9
         obtain ⟨y335,hy335⟩:∃ y_:List Int,y_=(x5_2++[x16_2]):=⟨_,rfl⟩
         replace H:(qai.l1 k2 x3_1 x10_1 y335 (l0_2.length:Int) x10_1 (l0_2.length:Int) (wrap64 (x16_2+1)) a0_0 a0_1 l0_2)=some r:=by (rw [hy335];with_reducible exact H)
         have Ny335:=qaa.mk hy335
         clear hy335
         have H':=qaa.mk H
         clear H
         have hcz10_0:wr.cell? ⟨gb333,0,none⟩=some (.bool a0_0):=(qad BK333.out 0).trans rfl
         have hcz10_1:wr.cell? ⟨gb333,1,none⟩=some (.int .i64 a0_1):=(qad BK333.out 1).trans rfl
         have hcz10_2:wr.cell? ⟨gb333,2,none⟩=some (.slice A0_2 l0_2.length c0_2):=(qad BK333.out 2).trans rfl
         have hfz10_0:=qaf BK333.out 0
         have hfz10_1:=qaf BK333.out 1
         have hfz10_2:=qaf BK333.out 2
         go_wp2_with (first|((with_reducible refine qbb (f:=55) rfl ?_);refine qcv (some 22) rfl rfl Tryd.func55 (by kernel_rfl) rfl #[.agg #[.bool a0_0,.int .i64 a0_1,.slice A0_2 l0_2.length c0_2],.int .i64 x16_2,.int .i64 x10_1] rfl (by (try simp only [List.map_toArray,List.map_cons,List.map_nil]);rfl) ?_;(with_reducible refine (qcg.calls k2 a0_0 a0_1 _ _ l0_2 x16_2 x10_1 true _ ?side1 ?side2 A7.out).mono ?_);(case side1=>repeat (exact (Kd.C_below HR0_2.out HB.out)));(case side2=>exact HC0_2.out);rintro e w11 ⟨rfl,hb⟩;refine ⟨_,rfl,?_⟩;replace HO_3:=qaa.mk (Kd.S_below (by (with_reducible repeat (apply Kd.S_drew));exact HO_3.out) hb);replace HO_5:=qaa.mk (Kd.R_below (by (with_reducible repeat (apply Kd.R_drew));exact HO_5.out) hb);replace BK333:=qaa.mk (qah (g:=gb333) (o:=.cells #[.bool a0_0,.int .i64 a0_1,.slice A0_2 l0_2.length c0_2] 24 (0,0)) (by (with_reducible repeat (refine qab ?_));exact BK333.out) hb);replace HB:=qaa.mk (qal HB.out hb);(try clear hb))|((with_reducible refine qdf (b:=.append) (xs:=#[.tmp 23,.tmp 25]) rfl ?_);at_builtin;refine Kd.R_append (Kd.int .i64) (w0:=w) w.heap.size rfl (.tmp 23) (.tmp 25) 31 3 (.int .i64 0) 8 rfl Tryd.underlying31 qfe rfl (by decide) (by omega) u5 x5_2 x16_2 [.int .i64 x16_2] (fun _=>True) (fun _=>False) rfl rfl ?aP (fun _ hk=>hk.elim) ?aF ?aO ?aB ?aS ?aL ?_;(case aP=>exact rfl);(case aB=>exact HB.out);(case aF=>exact (fun _ _=>trivial));(case aO=>exact (by (with_reducible repeat (apply Kd.R_drew));exact HO_5.out));(case aS=>exact (qac HB.out));(case aL=>have:=LMc9.out;omega);intro v336 w12 ho hb hg hat;rw [← Ny335.out] at ho;have n0_:=qaa.mk (Kd.S_after (ok:=(fun _=>True)) (by (with_reducible repeat (apply Kd.S_drew));exact Kd.S_mono HO_3.out (fun _ hk=>⟨trivial,hk⟩)) hg hat);have n1_:=qaa.mk (qdp (g:=gb333) (o:=.cells #[.bool a0_0,.int .i64 a0_1,.slice A0_2 l0_2.length c0_2] 24 (0,0)) (by (with_reducible repeat (refine qab ?_));exact BK333.out) hg (Kd.R_ne HO_5.out BK333.out (by decide)));have n2_:=qaa.mk (hb);have n3_:=qaa.mk (ho);clear HO_3;clear BK333;clear HB;clear HO_5;have HO_3:=n0_;have BK333:=n1_;have HB:=n2_;have HO337:=n3_;clear n0_ n1_ n2_ n3_;clear ho hb hg hat))
         go_roundg k2
         case measure=>have:=HK1.out;have:=HK2.out;omega
         case rel=>exact ⟨(y335),(wrap64 (x16_2+1)),(by rfl),H',⟨by have:=HK1.out;have:=HK2.out;omega⟩,⟨by (with_reducible repeat (apply Kd.S_drew));exact Kd.S_mono HO_3.out (fun _ hk=>hk.2)⟩,⟨by (with_reducible repeat (apply Kd.R_drew));exact HO337.out⟩,⟨by (with_reducible repeat (refine qab ?_));exact BK333.out⟩,⟨by repeat ((with_reducible exact HB.out))⟩⟩
        ·rw [if_neg c9] at H
         exact absurd H (by simp)
       ·replace c8:=Bool.eq_false_iff.mpr c8
        subst c8
        have H1:(qai.l1 k2 x3_1 x10_1 x5_2 (l0_2.length:Int) x10_1 (l0_2.length:Int) (wrap64 (x16_2+1)) a0_0 a0_1 l0_2)=some r:=by rw [if_neg (show ¬ (false=true) by decide)] at H;exact H
        clear H
        have H:=H1
        clear H1
        have H':=qaa.mk H
        clear H
        have hcz13_0:wr.cell? ⟨gb333,0,none⟩=some (.bool a0_0):=(qad BK333.out 0).trans rfl
        have hcz13_1:wr.cell? ⟨gb333,1,none⟩=some (.int .i64 a0_1):=(qad BK333.out 1).trans rfl
        have hcz13_2:wr.cell? ⟨gb333,2,none⟩=some (.slice A0_2 l0_2.length c0_2):=(qad BK333.out 2).trans rfl
        have hfz13_0:=qaf BK333.out 0
        have hfz13_1:=qaf BK333.out 1
        have hfz13_2:=qaf BK333.out 2
        go_wp2_with (((with_reducible refine qbb (f:=55) rfl ?_);refine qcv (some 22) rfl rfl Tryd.func55 (by kernel_rfl) rfl #[.agg #[.bool a0_0,.int .i64 a0_1,.slice A0_2 l0_2.length c0_2],.int .i64 x16_2,.int .i64 x10_1] rfl (by (try simp only [List.map_toArray,List.map_cons,List.map_nil]);rfl) ?_;(with_reducible refine (qcg.calls k2 a0_0 a0_1 _ _ l0_2 x16_2 x10_1 false _ ?side1 ?side2 A7.out).mono ?_);(case side1=>repeat (exact (Kd.C_below HR0_2.out HB.out)));(case side2=>exact HC0_2.out);rintro e w14 ⟨rfl,hb⟩;refine ⟨_,rfl,?_⟩;replace HO_3:=qaa.mk (Kd.S_below (by (with_reducible repeat (apply Kd.S_drew));exact HO_3.out) hb);replace HO_5:=qaa.mk (Kd.R_below (by (with_reducible repeat (apply Kd.R_drew));exact HO_5.out) hb);replace BK333:=qaa.mk (qah (g:=gb333) (o:=.cells #[.bool a0_0,.int .i64 a0_1,.slice A0_2 l0_2.length c0_2] 24 (0,0)) (by (with_reducible repeat (refine qab ?_));exact BK333.out) hb);replace HB:=qaa.mk (qal HB.out hb);(try clear hb)))
        go_roundg k2
        case measure=>have:=HK1.out;have:=HK2.out;omega
        case rel=>exact ⟨(x5_2),(wrap64 (x16_2+1)),(by rfl),H',⟨by have:=HK1.out;have:=HK2.out;omega⟩,⟨by (with_reducible repeat (apply Kd.S_drew));exact HO_3.out⟩,⟨by (with_reducible repeat (apply Kd.R_drew));exact HO_5.out⟩,⟨by (with_reducible repeat (refine qab ?_));exact BK333.out⟩,⟨by repeat ((with_reducible exact HB.out))⟩⟩
      ·rw [if_neg c6] at H
       have c6b0:decide (x16_2<(l0_2.length:Int))=false:=decide_eq_false c6
       clear c6
       by_cases c15:x3_1.length<5864062014805
       ·rw [if_pos c15] at H
        have LMc15:=qaa.mk c15
        clear c15
        obtain ⟨y338,hy338⟩:∃ y_:List (List Int),y_=(x3_1++[x5_2]):=⟨_,rfl⟩
        replace H:(qai.l0 k2 y338 (l0_2.length:Int) (wrap64 (x10_1+1)) a0_0 a0_1 l0_2)=some r:=by (rw [hy338];with_reducible exact H)
        have Ny338:=qaa.mk hy338
        clear hy338
        have H':=qaa.mk H
        clear H
        obtain ⟨Ao17,co17,eo17⟩:=Kd.R_slice HO_5.out
        subst eo17
        go_wp2_with (((with_reducible refine qdf (b:=.append) (xs:=#[.tmp 28,.tmp 30]) rfl ?_);at_builtin;refine Kd.S_append (Kd.slice 3 (Kd.int .i64)) (w0:=w) w.heap.size rfl (.tmp 28) (.tmp 30) 28 31 (.slice none 0 0) 24 rfl Tryd.underlying28 info31 rfl (by decide) (by omega) u3 x3_1 x5_2 [.slice Ao17 x5_2.length co17] (fun _=>True) (fun k_=>some k_=(.slice Ao17 x5_2.length co17:Value).ownBlock) rfl rfl ?aP (fun k_ hk_=>((Kd.R_mono (ok':=fun k_=>((fun _=>True)) k_∧some k_≠(u3:Value).ownBlock) (Kd.R_apart' (HO_5.out) (Kd.S_typed HO_3.out) (by decide)) (fun k_ hk=>⟨trivial,hk.2⟩))).1 k_ hk_.symm) ?aF ?aO ?aB ?aS ?aL ?_;(case aP=>exact Kd.M_row (Kd.R_mono (Kd.R_tight rfl (Kd.R_mono (ok':=fun k_=>((fun _=>True)) k_∧some k_≠(u3:Value).ownBlock) (Kd.R_apart' (HO_5.out) (Kd.S_typed HO_3.out) (by decide)) (fun k_ hk=>⟨trivial,hk.2⟩))) (fun _ h_=>h_)));(case aB=>exact HB.out);(case aF=>exact (fun _ _=>trivial));(case aO=>exact (by (with_reducible repeat (apply Kd.S_drew));exact Kd.S_mono HO_3.out (fun k_ hk=>⟨trivial,fun e_=>hk e_⟩)));(case aS=>exact (qac HB.out));(case aL=>have:=LMc15.out;omega);intro v339 w16 ho hb hg hat;rw [← Ny338.out] at ho;have n0_:=qaa.mk (qdp (g:=gb333) (o:=.cells #[.bool a0_0,.int .i64 a0_1,.slice A0_2 l0_2.length c0_2] 24 (0,0)) (by (with_reducible repeat (refine qab ?_));exact BK333.out) hg (Kd.S_ne HO_3.out BK333.out (by decide)));have n1_:=qaa.mk (hb);have n2_:=qaa.mk (ho);clear BK333;clear HB;clear HO_3;clear HO_5;have BK333:=n0_;have HB:=n1_;have HO340:=n2_;clear n0_ n1_ n2_;clear ho hb hg hat))
        go_roundg k2
        case measure=>have:=HK1.out;have:=HK2.out;omega
        case rel=>exact ⟨(y338),(wrap64 (x10_1+1)),(by rfl),H',⟨by have:=HK1.out;have:=HK2.out;omega⟩,⟨by (with_reducible repeat (apply Kd.S_drew));exact HO340.out⟩,⟨by (with_reducible repeat (refine qab ?_));exact BK333.out⟩,⟨by repeat ((with_reducible exact HB.out))⟩⟩
       ·rw [if_neg c15] at H
        exact absurd H (by simp)
   ·rw [if_neg c4] at H
    have c4b0:decide (x10_1<(l0_2.length:Int))=false:=decide_eq_false c4
    clear c4
    obtain rfl:=Option.some.inj H
    go_wp2
    go_ret
    exact ⟨_,by rfl,by (with_reducible repeat (apply Kd.S_drew));exact HO_3.out,by repeat ((with_reducible exact HB.out))⟩
end Go.Proofs.YtmfjmbcfaamebaaDoor.X
namespace Go.Proofs.YtmfjmbcfaamebaaDoor.X
open Go.RowKit Go.Proofs.YtmfjmbcfaamebaaDoorW.PrintWords Go.Proofs.YtmfjmbcfaamebaaDoorW.PrintLast Go.Proofs.YtmfjmbcfaamebaaDoorW.PrintMore
open Go.Shelf
set_option maxRecDepth 100000 in
set_option maxHeartbeats 4000000 in
theorem qey.plain (g:Nat) (lb:Array Value) (eg:∀ args w,(callFunc g args).run Tryd.prog w=.ok (.enter g args) w) (Bs n₀:Nat) (A:Option Addr) (c:Nat) (ws:List Int) (hok:setOk ws=true) (J Jx:List (Elt ws)→World→Prop) (W:World) (hn₀:n₀≤W.heap.size) (hT0:0<n₀) (hT:TabW W)
  (hY:∀ pre x W1,J pre W1→pre.length<(els ws).length→Calls Tryd.prog g (#[.int .i64 x.1]++lb) W1 fun e W'=>
   (e=.returned (.bool true)∧J (pre++[x]) W'∧Below n₀ W1 W')∨(e=.returned (.bool false)∧Jx (pre++[x]) W'))
  (hBs:W.cell? ⟨Bs,0,none⟩=some (.slice A ws.length c)) (hC:∀ W',Below n₀ W W'→Kd.C (Kd.int .u64) W' A ws.length ws) (h0:J [] W) :
  Calls Tryd.prog 76 #[.func (.func g) #[] lb,.pointer (some ⟨Bs,0,none⟩)] W fun e W'=>(∃ v,e=.returned v)∧
   ((∃ xs:List (Elt ws),xs.map (·.1)=els ws∧J xs W')∨(∃ pre:List (Elt ws),pre.map (·.1) <+: els ws∧Jx pre W')):=by
 have hlen:=setOk_len hok
 go_enter Tryd.func76,Tryd.ntmps76
 go_wp2
 go_loopw [8] (fun i wr=>∃ k:Nat,k≤ws.length∧i=.int .i64 k∧∃ pre:List (Elt ws),pre.map (·.1)++qdz k (ws.drop k)=els ws∧J pre wr∧Below n₀ W wr)
  (fun i _=>ws.length-(intOf i).toNat)
 case atStart=>exact ⟨0,Nat.zero_le _,rfl,[],by simp [els],h0,Below.refl _ _⟩
 case round=>
  obtain ⟨k,hk,rfl,pre0,hpre0,hJ0,hB0⟩:=hrel
  have HPre0:=qaa.mk hpre0
  clear hpre0
  by_cases hlt:k<ws.length
  ·obtain ⟨ad,e1,hx⟩:=Kd.at_int (hC wr hB0) (k:Int) (by omega) (by omega)
   cases e1
   rw [Int.toNat_natCast] at hx
   obtain ⟨v0,hv0⟩:∃ v0:Nat,rd ws k=(v0:Int):=⟨(rd ws k).toNat,by
    have:=qge hok (x:=rd ws k) (by simp [rd,hlt]);omega⟩
   have hv0lt:v0<18446744073709551616:=by
    have:=qge hok (x:=rd ws k) (by simp [rd,hlt]);omega
   have HV0:=qaa.mk hv0
   rw [hv0] at hx
   clear hv0
   obtain ⟨wo,rfl⟩:∃ wo:World,wo=wr:=⟨_,rfl⟩
   go_wp2
   go_loopw [4] (fun v wr2=>∃ x:Nat,x<18446744073709551616∧v=.int .u64 x∧∃ pre:List (Elt ws),qaa (pre.map (·.1)++((qfy x).map (fun j=>((k*64+j:Nat):Int))++qdz (k+1) (ws.drop (k+1)))=els ws)∧J pre wr2∧Below n₀ W wr2)
    (fun v _=>(intOf v).toNat)
   case atStart=>
    refine ⟨v0,hv0lt,rfl,pre0,⟨?_⟩,hJ0,hB0⟩
    refine Eq.trans ?_ HPre0.out
    rw [elsFrom_drop ws k k hlt,HV0.out,Int.toNat_natCast]
   case round=>
    obtain ⟨x,hxlt,rfl,pre,hpre,hJ,hB⟩:=hrel
    by_cases hx0:x=0
    ·subst hx0
     go_wp2
     go_roundw
     case rel=>
      refine ⟨k+1,by omega,by go_num,pre,?_,hJ,hB⟩
      have:=hpre.out
      simpa [bitsW_zero] using this
     case measure=>simp [intOf];omega
    ·have hst:=bitsW_step hx0 (by omega)
     obtain ⟨cz,hcz⟩:∃ cz,Lib.ctz 64 x=cz:=⟨_,rfl⟩
     have hczl:cz<64:=by rw [← hcz];exact (Lib.lowest_bit 64 x hx0 (by omega)).2
     have hmem:((k*64+cz:Nat):Int)∈els ws:=by rw [← hpre.out,hst,hcz];simp
     have hpl:pre.length<(els ws).length:=by rw [← hpre.out,hst];simp
     obtain ⟨y,hy⟩:∃ y:Elt ws,y.1=(k:Int)*64+(cz:Int):=⟨⟨_,hmem⟩,by simp⟩
     have hR:=hY pre y _ hJ hpl
     rw [hy] at hR
     have HY:=qaa.mk hy
     clear hy
     have HRR:=Lib.hid hR
     clear hR
     have hxn:((x:Int)!=0)=true:=by simp;omega
     have hxe:((x:Int)==0)=false:=by simp;omega
     have hTz:=qdq.calls x (by omega) hx0 _ (TabW.below0 hT hT0 hB)
     rw [hcz] at hTz
     have HTz:=Lib.hid hTz
     clear hTz
     have HSt:=qaa.mk hst
     have HCz:=qaa.mk hcz
     clear hst hcz
     have hand:Go.bits .and .u64 (x:Int) ((x:Int)-1)=((x &&& (x-1):Nat):Int):=by
      rw [show (x:Int)-1=((x-1:Nat):Int) by omega]
      exact bits_and_u64_nat x (x-1) (by omega) (by omega)
     have HAnd:=Lib.hid hand
     clear hand
     have hdec:x &&& (x-1)<x:=Nat.lt_of_le_of_lt Nat.and_le_right (by omega)
     go_wp2_with (first|(go_at_call 77;refine HTz.out.mono ?_;rintro e w' ⟨rfl,rfl⟩)|(go_at_fn g;refine HRR.out.mono ?_))
     rintro e W3 (⟨rfl,hJ3,hk3⟩|⟨rfl,hJx3⟩)
     ·go_wp2
      go_roundw
      case rel=>exact ⟨x &&& (x-1),by omega,by rw [HAnd.out],pre++[y],⟨by refine Eq.trans ?_ hpre.out;rw [HSt.out,HCz.out];simp [HY.out]⟩,hJ3,hB.trans hk3⟩
      case measure=>simp only [intOf];simp;rw [HAnd.out];omega
     ·go_wp2
      refine bodyPost_ret (results_none rfl _ _ _) rfl ?_
      exact ⟨⟨_,rfl⟩,.inr ⟨pre++[y],⟨(qfy (x &&& (x-1))).map (fun j=>((k*64+j:Nat):Int))++qdz (k+1) (ws.drop (k+1)),by refine Eq.trans ?_ hpre.out;rw [HSt.out,HCz.out];simp [HY.out]⟩,hJx3⟩⟩
  ·obtain rfl:k=ws.length:=by omega
   go_wp2
   go_end0
   refine ⟨⟨_,rfl⟩,.inl ⟨pre0,?_,hJ0⟩⟩
   have:=HPre0.out
   simpa [qdz] using this
end Go.Proofs.YtmfjmbcfaamebaaDoor.X
namespace Go.Proofs.YtmfjmbcfaamebaaDoor.X
open Go.RowKit Go.Proofs.YtmfjmbcfaamebaaDoorW.PrintWords Go.Proofs.YtmfjmbcfaamebaaDoorW.PrintLast Go.Proofs.YtmfjmbcfaamebaaDoorW.PrintMore
attribute [local go_sem] qbs qcb
set_option linter.unusedVariables false
set_option linter.unusedSimpArgs false
open Go.Shelf
def qcq.f (l0_0:List Int):Option (List Int):=if setOk l0_0=true∧(els l0_0).length<100000 then some (els l0_0) else none
theorem qcq.one (B base:Nat) (v:Value) (xs:List Int) (x:Int) (W:World) (hb:W.heap[B]?=some (.cells #[v] 31 (0,0))) (hR:Kd.R (Kd.int .i64) 3 W base (fun _=>True) v xs) (hB:base≤B) (hl:xs.length<100000) :
  Calls Tryd.prog 56 (#[.int .i64 x]++#[.pointer (some ⟨B,0,none⟩)]) W fun e W'=>e=.returned (.bool (decide (((xs.length+1:Nat):Int)<100000)))∧∃ v',W'.heap[B]?=some (.cells #[v'] 31 (0,0))∧Kd.R (Kd.int .i64) 3 W' base (fun _=>True) v' (xs++[x])∧Below base W W':=by
 have hlt:=qbn hb
 have hne:some B≠v.ownBlock:=Kd.R_ne hR hb (by decide)
 obtain ⟨A,c,rfl,hc,_⟩:=Kd.R_reads hR
 have hcell:W.cell? ⟨B,0,none⟩=some (.slice A xs.length c):=qcu hb 0 rfl
 show Calls Tryd.prog 56 #[.int .i64 x,.pointer (some ⟨B,0,none⟩)] W _
 go_enter Tryd.func56,Tryd.ntmps56
 go_wp2_with (at_builtin;refine Kd.R_append (Kd.int .i64) (w0:=W) base rfl (.tmp 4) (.tmp 6) 31 3 (.int .i64 0) 8 rfl Tryd.underlying31 qfe rfl (by decide) (by omega) (.slice A xs.length c) xs x [.int .i64 x] (fun _=>True) (fun _=>False) rfl (by simp [Act.eval]) rfl (fun _ hk=>hk.elim) (fun _ _=>trivial) hR (Below.refl _ _) (by omega) (by omega) ?_;intro v1 w1 ho1 hb1 hg hat;obtain ⟨A1,c1,rfl,hc1,_⟩:=Kd.R_reads ho1;have hb':=(hg.block B hlt hne).trans hb;have hcell1:=qcu hb' 0 rfl;have hfro1:=qhq hb' 0;have HR1:=qaa.mk (Kd.R_set ho1 hb' (by intro q hq;simp [Kd.int,Kd.scalar] at hq;subst hq;decide) 0 (.slice A1 (xs++[x]).length c1));have HB1:=qaa.mk hb1;have HS:=qaa.mk (setOf (i:=0) hb' (.slice A1 (xs++[x]).length c1));clear ho1 hb1 hg hat)
 go_ret
 have e1:(xs++[x]).length=xs.length+1:=by simp
 rw [e1] at HR1 HS
 exact ⟨by simp,_,HS.out,HR1.out,HB1.out.setCell (p:=⟨B,0,none⟩) hB _⟩
theorem qcq.calls (A0_0:Option Addr) (c0_0:Nat) (l0_0:List Int) (r:List Int) (w:World) (hT:TabW w) (hr0_0:Kd.C (Kd.int .u64) w A0_0 l0_0.length l0_0) (hc0_0:l0_0.length≤c0_0) (h:qcq.f l0_0=some r) :
  Calls Tryd.prog 23 #[.agg #[.slice A0_0 l0_0.length c0_0]] w fun e w'=>∃ v0_:Value,e=.returned v0_∧Kd.R (Kd.int .i64) 3 w' w.heap.size (fun _=>True) v0_ r∧Below w.heap.size w w':=by
 unfold qcq.f at h
 by_cases hs:setOk l0_0=true∧(els l0_0).length<100000
 case neg=>rw [if_neg hs] at h;cases h
 rw [if_pos hs] at h
 obtain rfl:=Option.some.inj h
 clear h
 have HR:=qaa.mk hr0_0
 have HT:=qaa.mk hT
 clear hr0_0 hT
 go_enter Tryd.func23,Tryd.ntmps23
 go_wp2_with (go_at_call 52;refine (qda.calls_in _ _).mono ?_;rintro e W2 ⟨rfl,hW2⟩)
 rw [← hW2]
 have hB2:Below w.heap.size w W2:=by rw [hW2];exact (((Below.refl _ w).alloc (Nat.le_refl _) _).alloc (by simp) _).alloc (by simp;omega) _
 have b31:W2.heap[w.heap.size+1]?=some (.cells #[Value.slice none 0 0] 31 (0,0)):=by
  rw [hW2]
  have:=World.alloc_heap_new (w.alloc (Obj.cells #[Value.slice A0_0 l0_0.length c0_0] 38)) (Obj.cells #[Value.slice none 0 0] 31)
  rw [World.size_alloc] at this
  exact qcy this _
 have b38:W2.heap[w.heap.size+1+1]?=some (.cells #[Value.slice A0_0 l0_0.length c0_0] 38 (0,0)):=by
  rw [hW2]
  have:=World.alloc_heap_new ((w.alloc (Obj.cells #[Value.slice A0_0 l0_0.length c0_0] 38)).alloc (Obj.cells #[Value.slice none 0 0] 31)) (Obj.cells #[Value.slice A0_0 l0_0.length c0_0] 38)
  rw [World.size_alloc,World.size_alloc] at this
  exact this
 have hpl:=qey.plain 56 #[.pointer (some ⟨w.heap.size+1,0,none⟩)] (enters_of Tryd.func56 (by kernel_rfl) rfl) (w.heap.size+1+1) w.heap.size A0_0 c0_0 l0_0 hs.1
  (fun pre W=>(∃ v,W.heap[w.heap.size+1]?=some (.cells #[v] 31 (0,0))∧Kd.R (Kd.int .i64) 3 W w.heap.size (fun _=>True) v (pre.map (·.1)))∧Below w.heap.size w W) (fun _ _=>False) W2 hB2.size HT.out.2.1 (HT.out.below' hB2)
  (fun pre x W1 hJ hlt=>by
   obtain ⟨⟨v,hb,hR⟩,hB⟩:=hJ
   refine (qcq.one (w.heap.size+1) w.heap.size v (pre.map (·.1)) x.1 W1 hb hR (by omega) (by simp;omega)).mono ?_
   rintro e W' ⟨rfl,v',hb',hR',hB'⟩
   refine .inl ⟨by rw [decide_eq_true (by simp;omega)],⟨⟨v',hb',by rw [List.map_append];exact hR'⟩,hB.trans hB'⟩,hB'⟩)
  (qcu b38 0 rfl) (fun W' h=>Kd.C_below HR.out (hB2.trans h)) ⟨⟨_,b31,Kd.R_nil _ _ _ _ _⟩,hB2⟩
 clear hW2 b31 b38 hB2
 refine hpl.mono ?_
 clear hpl
 rintro e W3 ⟨⟨v,rfl⟩,⟨xs,hxs,⟨v3,hb3,hR3⟩,hB3⟩|⟨_,_,hf⟩⟩
 case inr=>exact hf.elim
 rw [hxs] at hR3
 have c3:W3.cell? ⟨w.heap.size+1,0,none⟩=some v3:=qcu hb3 0 rfl
 obtain ⟨A3,c3',rfl⟩:=Kd.R_slice hR3
 go_wp2
 go_ret
 exact ⟨_,rfl,hR3,hB3⟩
end Go.Proofs.YtmfjmbcfaamebaaDoor.X
namespace Go.Proofs.YtmfjmbcfaamebaaDoor.X
open Go.RowKit Go.Proofs.YtmfjmbcfaamebaaDoorW.PrintWords Go.Proofs.YtmfjmbcfaamebaaDoorW.PrintLast Go.Proofs.YtmfjmbcfaamebaaDoorW.PrintMore
attribute [local go_sem] qbs qcb
set_option linter.unusedVariables false
set_option linter.unusedSimpArgs false
def qgf (dom:List (List Int)) (n:Int):List Int→Int→Option Int
 | [],best=>some best
 | d::t,best=>if d=n then qgf dom n t best else if best<0 then qgf dom n t d else if 0≤d∧d<(dom.length:Int)∧best<(dom.length:Int) then (if (dom.getD best.toNat []).length<(dom.getD d.toNat []).length then qgf dom n t d else qgf dom n t best) else none
def qhj (dom:List (List Int)):Nat→Nat→List Int→Option (List Int)
 | 0,_,out=>some out
 | m+1,i,out=>if i<dom.length∧out.length<1099511627776 then (qgf dom (i:Int) (dom.getD i []) (-1)).bind fun b=>qhj dom m (i+1) (out++[b]) else none
def qbw.f (k:Nat) (a0_0:Bool) (a0_1:Int) (l0_2:List S60):Option (List Int):=(qai.f k a0_0 a0_1 l0_2).bind fun dom=>qhj dom l0_2.length 0 []
theorem qbw.mono:∀ a0 a1 a2 k,LeO (qbw.f k a0 a1 a2) (qbw.f (k+1) a0 a1 a2):=by
 intro a0 a1 a2 k
 unfold qbw.f
 exact LeO.bind (qai.mono _ _ _ _) (fun _=>LeO.refl _)
set_option maxRecDepth 100000 in
set_option maxHeartbeats 4000000 in
theorem qbw.calls (k:Nat) (a0_0:Bool) (a0_1:Int) (A0_2:Option Addr) (c0_2:Nat) (l0_2:List (S60)) (r:List Int) (w:World) (hr0_2:Kd.C k60 w A0_2 l0_2.length l0_2) (hc0_2:l0_2.length≤c0_2) (h:qbw.f k a0_0 a0_1 l0_2=some r) :
  Calls Tryd.prog 25 #[.agg #[.bool a0_0,.int .i64 a0_1,.slice A0_2 l0_2.length c0_2]] w fun e w'=>∃ v0_:Value,e=.returned v0_∧Kd.R (Kd.int .i64) 3 w' w.heap.size (fun _=>True) v0_ r∧Below w.heap.size w w':=by
 have hu24:=Tryd.underlying24
 unfold qbw.f at h
 obtain ⟨dom,hd,h⟩:=Option.bind_eq_some_iff.1 h
 have HP:=qaa.mk h
 have hll:=hr0_2.2.1
 have HCD:=qaa.mk (fun W (hW:Below w.heap.size w W)=>qai.calls k a0_0 a0_1 A0_2 c0_2 l0_2 dom W (Kd.C_below hr0_2 hW) hc0_2 hd)
 clear hr0_2 hd h
 go_enter Tryd.func25,Tryd.ntmps25
 obtain ⟨W0,hW0⟩:∃ W0,w.alloc (Obj.cells #[Value.bool a0_0,Value.int .i64 a0_1,.slice A0_2 l0_2.length c0_2] 24)=W0:=⟨_,rfl⟩
 have hB0:Below w.heap.size w W0:=by rw [← hW0];exact (Below.refl _ w).alloc (Nat.le_refl _) _
 have b24:W0.heap[w.heap.size]?=some (.cells #[Value.bool a0_0,Value.int .i64 a0_1,.slice A0_2 l0_2.length c0_2] 24 (0,0)):=by rw [← hW0];exact World.alloc_heap_new w _
 have c24_0:W0.cell? ⟨w.heap.size,0,none⟩=some (.bool a0_0):=qcu b24 0 rfl
 have c24_1:W0.cell? ⟨w.heap.size,1,none⟩=some (.int .i64 a0_1):=qcu b24 1 rfl
 have c24_2:W0.cell? ⟨w.heap.size,2,none⟩=some (.slice A0_2 l0_2.length c0_2):=qcu b24 2 rfl
 go_wp2_with (go_at_call 22;refine (HCD.out W0 hB0).mono ?_;rintro e W2 ⟨v1,rfl,hV1,hB1⟩;obtain ⟨A1,c1,rfl⟩:=Kd.R_slice (Kd.S_R hV1);have HV1:=qaa.mk hV1;have hB02:=hB0.trans (hB1.mono hB0.size);have b24':=(hB1.block _ (qbn b24)).trans b24;have hs01:=hB1.size;have c24_2':W2.cell? ⟨w.heap.size,2,none⟩=some (.slice A0_2 l0_2.length c0_2):=qcu b24' 2 rfl;clear hV1 hB1)
 have hF1:=Kd.F_bound (Kd.R_F (Kd.S_R HV1.out))
 have hFD:Kd.F (Kd.slice 3 (Kd.int .i64)) W2 (fun k=>k<W2.heap.size) A1 dom.length dom:=Kd.F_mono hF1 (fun k hk=>hk.2)
 have hdl:dom.length≤9223372036854775807:=Kd.F_max hFD
 have hlw:w.heap.size≤W2.heap.size:=hB02.size
 clear hF1 HCD b24 b24' c24_0 c24_1 c24_2 c24_2' hW0
 go_loopw [4,14] (fun v3 v wr=>∃ i:Nat,i≤l0_2.length∧v=.int .i64 i∧∃ outi:List Int,qaa (qhj dom (l0_2.length-i) i outi=some r)∧qaa (Kd.R (Kd.int .i64) 3 wr w.heap.size (fun k=>W2.heap.size≤k) v3 outi)∧qaa (Kd.F (Kd.slice 3 (Kd.int .i64)) wr (fun k=>k<W2.heap.size) A1 dom.length dom)∧qaa (Below w.heap.size w wr)∧W2.heap.size≤wr.heap.size)
  (fun _ v _=>l0_2.length-(intOf v).toNat)
 case atStart=>exact ⟨0,Nat.zero_le _,rfl,[],by simpa using HP,⟨Kd.R_nil _ _ _ _ _⟩,⟨hFD⟩,⟨hB02⟩,Nat.le_refl _⟩
 case round=>
  clear HP hFD hB02
  obtain ⟨i,hi,rfl,outi,HP,HO,HD,HB,hw2⟩:=hrel
  by_cases hlt:i<l0_2.length
  ·have HHP:=HP.out
   rw [show l0_2.length-i=(l0_2.length-(i+1))+1 by omega,qhj] at HHP
   by_cases hcc:i<dom.length∧outi.length<1099511627776
   case neg=>rw [if_neg hcc] at HHP;cases HHP
   rw [if_pos hcc] at HHP
   obtain ⟨hid0,hol⟩:=hcc
   have hid:(i:Int)<(dom.length:Int):=by omega
   have hil:(i:Int)<(l0_2.length:Int):=by omega
   obtain ⟨best',hin,hrest⟩:=Option.bind_eq_some_iff.1 HHP
   have HIN:=qaa.mk hin
   have HRE:=qaa.mk hrest
   obtain ⟨ad,c,rfl,_,hFK,hccl,_⟩:=Kd.F_get HD.out [] (i:Int) (by omega) hid
   obtain ⟨Ai,ci,rfl,hci,hFi⟩:=Kd.FK_slice_open hFK
   have hx:=hccl 0 _ rfl
   simp only [Int.toNat_natCast,show (Kd.slice 3 (Kd.int .i64)).sz=1 from rfl,Nat.mul_one,Nat.add_zero] at hx hFi hci
   obtain ⟨li,hli⟩:∃ li,dom.getD i []=li:=⟨_,rfl⟩
   rw [hli] at hx hFi hci HIN
   have HFI:=qaa.mk hFi
   have hlil:=Kd.F_max hFi
   obtain ⟨A3,c3,rfl⟩:=Kd.R_slice HO.out
   clear HHP hin hrest hFi hFK hccl HP
   go_wp2
   go_loopw [6,22] (fun v6 v wr=>∃ j:Nat,j≤li.length∧v=.int .i64 j∧∃ best:Int,v6=.int .i64 best∧qaa (qgf dom (i:Int) (li.drop j) best=some best')∧qaa (Kd.R (Kd.int .i64) 3 wr w.heap.size (fun k=>W2.heap.size≤k) (.slice A3 outi.length c3) outi)∧qaa (Kd.F (Kd.slice 3 (Kd.int .i64)) wr (fun k=>k<W2.heap.size) (some ad) dom.length dom)∧qaa (Kd.F (Kd.int .i64) wr (fun k=>k<W2.heap.size) Ai li.length li)∧qaa (Below w.heap.size w wr)∧W2.heap.size≤wr.heap.size)
    (fun _ v _=>li.length-(intOf v).toNat)
   case atStart=>exact ⟨0,Nat.zero_le _,rfl,-1,rfl,by simpa using HIN,HO,HD,HFI,HB,hw2⟩
   case round=>
    clear HIN HO HD HFI HB hw2 hx
    obtain ⟨j,hj,rfl,best,rfl,HIN,HO,HD,HFI,HB,hw2⟩:=hrel
    by_cases hltj:j<li.length
    ·obtain ⟨adi,rfl,hx⟩:=Kd.at_int (Kd.F_now HFI.out) (j:Int) (by omega) (by omega)
     have hgj:rd li (j:Int)=li[j]:=by simp [rd,hltj]
     rw [hgj] at hx
     have hHIN:=HIN.out
     rw [List.drop_eq_getElem_cons hltj,qgf] at hHIN
     obtain ⟨b,hb⟩:∃ b,li[j]=b:=⟨_,rfl⟩
     rw [hb] at hx hHIN
     rw [Int.toNat_natCast] at hx
     clear HIN hgj
     by_cases c14:b=(i:Int)
     ·rw [if_pos c14] at hHIN
      have HIN2:=qaa.mk hHIN
      have c14b0:(b==(i:Int))=true:=beq_iff_eq.mpr c14
      have c14b1:(b != (i:Int))=false:=bne_eq_false_iff_eq.mpr c14
      clear c14 hHIN
      go_wp2
      repeat (go_quiet (fail);try go_wp2)
      go_roundw
      case rel=>exact ⟨j+1,by omega,by go_num,best,rfl,HIN2,⟨Kd.R_drewN HO.out _⟩,⟨Kd.F_drewN HD.out _⟩,⟨Kd.F_drewN HFI.out _⟩,⟨qav HB.out _⟩,hw2⟩
      case measure=>simp [intOf];omega
     ·rw [if_neg c14] at hHIN
      have c14b0:(b==(i:Int))=false:=beq_eq_false_iff_ne.mpr c14
      have c14b1:(b != (i:Int))=true:=bne_iff_ne.mpr c14
      clear c14
      by_cases c15:best<0
      ·rw [if_pos c15] at hHIN
       have HIN2:=qaa.mk hHIN
       have c15b0:decide (best<0)=true:=decide_eq_true c15
       clear c15 hHIN
       go_wp2
       repeat (go_quiet (fail);try go_wp2)
       go_roundw
       case rel=>exact ⟨j+1,by omega,by go_num,b,rfl,HIN2,⟨Kd.R_drewN HO.out _⟩,⟨Kd.F_drewN HD.out _⟩,⟨Kd.F_drewN HFI.out _⟩,⟨qav HB.out _⟩,hw2⟩
       case measure=>simp [intOf];omega
      ·rw [if_neg c15] at hHIN
       have hb0:0≤best:=by omega
       have c15b0:decide (best<0)=false:=decide_eq_false c15
       clear c15
       by_cases hcc:0≤b∧b<(dom.length:Int)∧best<(dom.length:Int)
       case neg=>rw [if_neg hcc] at hHIN;cases hHIN
       rw [if_pos hcc] at hHIN
       obtain ⟨hb1,hb2,hb3⟩:=hcc
       obtain ⟨adb,cb,heb,_,hFKb,hccb,_⟩:=Kd.F_get HD.out ([]:List Int) b hb1 hb2
       injection heb with heb
       subst heb
       obtain ⟨Ab,cb',rfl,_,_⟩:=Kd.FK_slice_open hFKb
       have hxb:=hccb 0 _ rfl
       obtain ⟨adt,ct,het,_,hFKt,hcct,_⟩:=Kd.F_get HD.out ([]:List Int) best hb0 hb3
       injection het with het
       subst het
       obtain ⟨At,ct',rfl,_,_⟩:=Kd.FK_slice_open hFKt
       have hxt:=hcct 0 _ rfl
       simp only [show (Kd.slice 3 (Kd.int .i64)).sz=1 from rfl,Nat.mul_one,Nat.add_zero] at hxb hxt
       obtain ⟨lb,hlb⟩:∃ lb,dom.getD b.toNat []=lb:=⟨_,rfl⟩
       obtain ⟨lt,hlt'⟩:∃ lt,dom.getD best.toNat []=lt:=⟨_,rfl⟩
       rw [hlb] at hxb hHIN
       rw [hlt'] at hxt hHIN
       clear hFKb hFKt hccb hcct hlb hlt'
       by_cases c20:lt.length<lb.length
       ·rw [if_pos c20] at hHIN
        have HIN2:=qaa.mk hHIN
        have c20b0:decide ((lt.length:Int)<(lb.length:Int))=true:=decide_eq_true (by omega)
        have c20b1:decide (lt.length<lb.length)=true:=decide_eq_true c20
        clear c20 hHIN
        go_wp2
        repeat (go_quiet (fail);try go_wp2)
        go_roundw
        case rel=>exact ⟨j+1,by omega,by go_num,b,rfl,HIN2,⟨Kd.R_drewN HO.out _⟩,⟨Kd.F_drewN HD.out _⟩,⟨Kd.F_drewN HFI.out _⟩,⟨qav HB.out _⟩,hw2⟩
        case measure=>simp [intOf];omega
       ·rw [if_neg c20] at hHIN
        have HIN2:=qaa.mk hHIN
        have c20b0:decide ((lt.length:Int)<(lb.length:Int))=false:=decide_eq_false (by omega)
        have c20b1:decide (lt.length<lb.length)=false:=decide_eq_false c20
        clear c20 hHIN
        go_wp2
        repeat (go_quiet (fail);try go_wp2)
        go_roundw
        case rel=>exact ⟨j+1,by omega,by go_num,best,rfl,HIN2,⟨Kd.R_drewN HO.out _⟩,⟨Kd.F_drewN HD.out _⟩,⟨Kd.F_drewN HFI.out _⟩,⟨qav HB.out _⟩,hw2⟩
        case measure=>simp [intOf];omega
    ·obtain rfl:j=li.length:=by omega
     obtain rfl:best=best':=by simpa [qgf] using HIN.out
     have hsz0:=HB.out.size
     go_wp2_with (at_builtin;refine Kd.R_append (Kd.int .i64) (w0:=w) w.heap.size rfl (.tmp 48) (.tmp 50) 31 3 (.int .i64 0) 8 rfl Tryd.underlying31 qfe rfl (by decide) (by omega) (.slice A3 outi.length c3) outi best [.int .i64 best] (fun k=>W2.heap.size≤k) (fun _=>False) rfl (by simp [Act.eval]) rfl (fun _ hk=>hk.elim) (fun k hk=>by omega) HO.out HB.out hsz0 (by omega) ?_;intro v1 w2 ho1 hb1 hg1 hat1;have hF1:=Kd.F_grown HD.out hg1 (fun k hk e=>by have:=HO.out.1 _ e.symm;omega);have hsz1':=hg1.size;obtain ⟨A4,c4,rfl⟩:=Kd.R_slice ho1;have HO2:=qaa.mk ho1;have HB2:=qaa.mk hb1;have HD2:=qaa.mk hF1;clear ho1 hb1 hg1 hat1 hF1)
     go_roundw
     case rel=>
      have e1:(outi++[best]).length=outi.length+1:=by simp
      rw [e1] at HO2
      exact ⟨i+1,by omega,by go_num,outi++[best],HRE,HO2,HD2,HB2,by omega⟩
     case measure=>simp [intOf];omega
  ·obtain rfl:i=l0_2.length:=by omega
   obtain rfl:outi=r:=by simpa [qhj] using HP.out
   obtain ⟨A3,c3,rfl⟩:=Kd.R_slice HO.out
   go_wp2
   go_ret
   exact ⟨_,rfl,Kd.R_mono HO.out (fun _ _=>trivial),HB.out⟩
end Go.Proofs.YtmfjmbcfaamebaaDoor.X
