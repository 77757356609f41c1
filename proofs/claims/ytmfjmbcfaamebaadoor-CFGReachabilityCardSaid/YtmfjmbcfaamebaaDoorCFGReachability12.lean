/- Parts of the proof of the law CFGReachability: words, walks of single functions and plain laws, joined by a program out of the session's texts. -/
import Derived.Test.YtmfjmbcfaamebaaDoorCFGReachability11
set_option linter.unusedVariables false
set_option linter.unusedSimpArgs false
namespace Go.Proofs.YtmfjmbcfaamebaaDoor.X
open Go.RowKit Go.Proofs.YtmfjmbcfaamebaaDoorW.PrintWords Go.Proofs.YtmfjmbcfaamebaaDoorW.PrintLast Go.Proofs.YtmfjmbcfaamebaaDoorW.PrintMore
attribute [local go_sem] qbr qcc
set_option linter.unusedVariables false
set_option linter.unusedSimpArgs false
mutual
def qae.j0:Nat→Int→List Int→Bool→Bool→Int→List (S60)→Option (List Int)
 | 0,_,_,_,_,_,_=>none
 | k+1,x1,x2,x24,x304000,x304001,x304002=>if x24=true then (some ([]:List Int)) else (qae.l0 k x2 (([x1]:List Int)) 0 x304000 x304001 x304002)
def qae.l0:Nat→List Int→List Int→Int→Bool→Int→List (S60)→Option (List Int)
 | 0,_,_,_,_,_,_=>none
 | k+1,x2,x7,x8,x304000,x304001,x304002=>if x8<(x7.length:Int) then (if 0≤x8 then ((qaf.f k x304000 x304001 x304002 (rd x7 x8)).bind fun t312=>(qae.l1 k x2 x7 x8 t312 (t312.length:Int) 0 x304000 x304001 x304002)) else (none)) else ((qbf.f k x7).bind fun t308=>(some t308))
def qae.l1:Nat→List Int→List Int→Int→List Int→Int→Int→Bool→Int→List (S60)→Option (List Int)
 | 0,_,_,_,_,_,_,_,_,_=>none
 | k+1,x2,x7,x8,x38,x39,x40,x304000,x304001,x304002=>if x40<x39 then (if 0≤x40 then (if x40<(x38.length:Int) then ((qao.f k x7 (rd x38 x40)).bind fun t316=>(if t316=true then (qae.l1 k x2 x7 x8 x38 x39 (wrap64 (x40+1)) x304000 x304001 x304002) else ((qao.f k x2 (rd x38 x40)).bind fun t317=>(if t317=true then (qae.l1 k x2 x7 x8 x38 x39 (wrap64 (x40+1)) x304000 x304001 x304002) else (if x7.length<17592186044416 then (qae.l1 k x2 (x7++[rd x38 x40]) x8 x38 x39 (wrap64 (x40+1)) x304000 x304001 x304002) else (none)))))) else (none)) else (none)) else (qae.l0 k x2 x7 (wrap64 (x8+1)) x304000 x304001 x304002)
end
def qae.f (k:Nat) (a0_0:Bool) (a0_1:Int) (l0_2:List (S60)) (a1:Int) (l2:List Int):Option (List Int):=if a1<0 then (qae.j0 k a1 l2 true a0_0 a0_1 l0_2) else (if a1≥(l0_2.length:Int) then (qae.j0 k a1 l2 true a0_0 a0_1 l0_2) else ((qao.f k l2 a1).bind fun t304=>(qae.j0 k a1 l2 t304 a0_0 a0_1 l0_2)))
theorem qae.mono_l:∀ k,(∀ y0 y1 y2 y3 y4 y5,LeO (qae.j0 k y0 y1 y2 y3 y4 y5) (qae.j0 (k+1) y0 y1 y2 y3 y4 y5))∧(∀ y0 y1 y2 y3 y4 y5,LeO (qae.l0 k y0 y1 y2 y3 y4 y5) (qae.l0 (k+1) y0 y1 y2 y3 y4 y5))∧(∀ y0 y1 y2 y3 y4 y5 y6 y7 y8,LeO (qae.l1 k y0 y1 y2 y3 y4 y5 y6 y7 y8) (qae.l1 (k+1) y0 y1 y2 y3 y4 y5 y6 y7 y8))
 | 0=>⟨fun _ _ _ _ _ _ r h=>by simp [qae.j0] at h,fun _ _ _ _ _ _ r h=>by simp [qae.l0] at h,fun _ _ _ _ _ _ _ _ _ r h=>by simp [qae.l1] at h⟩
 | k+1=>by
  obtain ⟨ih0,ih1,ih2⟩:=qae.mono_l k
  refine ⟨?_,?_,?_⟩
  ·intro y0 y1 y2 y3 y4 y5
   unfold qae.j0
   repeat' first|(with_reducible exact ih1 _ _ _ _ _ _)|(with_reducible exact LeO.refl _)|(with_reducible refine LeO.ite ?_ ?_)
  ·intro y0 y1 y2 y3 y4 y5
   unfold qae.l0
   repeat' first|(with_reducible exact ih2 _ _ _ _ _ _ _ _ _)|(with_reducible exact qbf.mono _ _)|(with_reducible exact qaf.mono _ _ _ _ _)|(with_reducible exact LeO.refl _)|(with_reducible refine LeO.ite ?_ ?_)|(with_reducible refine LeO.bind ?_ (fun _=>?_))
  ·intro y0 y1 y2 y3 y4 y5 y6 y7 y8
   unfold qae.l1
   repeat' first|(with_reducible exact ih1 _ _ _ _ _ _)|(with_reducible exact ih2 _ _ _ _ _ _ _ _ _)|(with_reducible exact qao.mono _ _ _)|(with_reducible exact LeO.refl _)|(with_reducible refine LeO.ite ?_ ?_)|(with_reducible refine LeO.bind ?_ (fun _=>?_))
theorem qae.mono:∀ a0 a1 a2 a3 a4 k,LeO (qae.f k a0 a1 a2 a3 a4) (qae.f (k+1) a0 a1 a2 a3 a4):=by
 intro a0 a1 a2 a3 a4 k
 obtain ⟨ih0,ih1,ih2⟩:=qae.mono_l k
 unfold qae.f
 repeat' first|(with_reducible exact ih0 _ _ _ _ _ _)|(with_reducible exact qao.mono _ _ _)|(with_reducible refine LeO.ite ?_ ?_)|(with_reducible refine LeO.bind ?_ (fun _=>?_))
def qae.T7:Bool×List (List Nat×List Nat):=(true,[([],[]),([],[]),([],[]),([1,2],[1,2]),([3],[3]),([0,4],[0,4]),([5],[5]),([],[])])
def qae.B7:List Nat:=[0,0,0,6,14,31,63,0]
theorem qae.tab7:rtab .any (opsOf Tryd.f59 7)=qae.T7:=by kernel_rfl
theorem qae.bits7:qeu qae.T7.2 qae.B7=true:=by kernel_rfl
set_option maxHeartbeats 8000000 in
set_option maxRecDepth 100000 in
theorem qae.calls (k:Nat) (a0_0:Bool) (a0_1:Int) (A0_2:Option Addr) (c0_2:Nat) (l0_2:List (S60)) (a1:Int) (A2:Option Addr) (c2:Nat) (l2:List Int) (r:List Int) (w:World) (hr0_2:Kd.C k60 w A0_2 l0_2.length l0_2) (hc0_2:l0_2.length≤c0_2) (hr2:Kd.C (Kd.int .i64) w A2 l2.length l2) (hc2:l2.length≤c2) (h:qae.f k a0_0 a0_1 l0_2 a1 l2=some r) :
  Calls Tryd.prog 59 #[.agg #[.bool a0_0,.int .i64 a0_1,.slice A0_2 l0_2.length c0_2],.int .i64 a1,.slice A2 l2.length c2] w fun e w'=>∃ v0_:Value,e=.returned (v0_)∧Kd.R (Kd.int .i64) 3 w' w.heap.size (fun _=>True) v0_ r∧Below w.heap.size w w':=by
 have hu24:=Tryd.underlying24
 have HR0_2:=qaa.mk hr0_2
 have HC0_2:=qaa.mk hc0_2
 clear hr0_2 hc0_2
 have HR2:=qaa.mk hr2
 have HC2:=qaa.mk hc2
 clear hr2 hc2
 have HB:=qaa.mk (Below.refl w.heap.size w)
 have H:(if a1<0 then (qae.j0 k a1 l2 true a0_0 a0_1 l0_2) else (if a1≥(l0_2.length:Int) then (qae.j0 k a1 l2 true a0_0 a0_1 l0_2) else ((qao.f k l2 a1).bind fun t304=>(qae.j0 k a1 l2 t304 a0_0 a0_1 l0_2))))=some r:=h
 clear h
 have HC4:=qaa.mk H
 clear H
 go_enter Tryd.func59,Tryd.ntmps59
 go_upto_region 1 with (((with_reducible refine qbg (N:=3) rfl ?_);(try (refine qcm (by rfl) ?_;dsimp only));refine qbn ?hg (N:=3) ?hd (cs:=#[.bool a0_0,.int .i64 a0_1,.slice A0_2 l0_2.length c0_2]) (t:=24) ?hr ?_;(case hd=>rfl);(case hg=>rfl);(case hr=>(go_simp;done));intro gb303 hg w5 hbox hb;have BK303:=qaa.mk (hbox);have GW303:=qaa.mk ((by rw [hg];exact (qad HB.out):w.heap.size≤gb303));have GE303:=qaa.mk ((by rw [hg];exact (qad HB.out):w.heap.size≤gb303));replace HB:=qaa.mk (qal HB.out hb);clear hb hbox hg))
 go_cut [24] (fun v24 wc=>∃ (kq:Nat) (x24_3:Bool),v24=.bool x24_3∧qaa (qae.j0 kq a1 l2 x24_3 a0_0 a0_1 l0_2=some r)∧qaa (kq≤k)∧qaa (wc.heap[gb303]?=some (.cells #[.bool a0_0,.int .i64 a0_1,(.slice A0_2 l0_2.length c0_2)] 24 (0,0)))∧qaa (Below w.heap.size w wc))
 case first=>
  have H:=HC4.out
  clear HC4
  by_cases c6:a1<0
  ·rw [if_pos c6] at H
   have c6b0:decide (a1<0)=true:=decide_eq_true c6
   clear c6
   have H':=qaa.mk H
   clear H
   go_wp2
   go_meet
   case rel=>exact ⟨_,(true),(by rfl),H',⟨by omega⟩,⟨by (with_reducible repeat (refine qab ?_));exact BK303.out⟩,⟨by repeat ((with_reducible exact HB.out))⟩⟩
  ·rw [if_neg c6] at H
   have c6b0:decide (a1<0)=false:=decide_eq_false c6
   clear c6
   by_cases c7:a1≥(l0_2.length:Int)
   ·rw [if_pos c7] at H
    have c7b0:decide ((l0_2.length:Int)≤a1)=true:=decide_eq_true c7
    clear c7
    have H':=qaa.mk H
    clear H
    have hcz8_0:w5.cell? ⟨gb303,0,none⟩=some (.bool a0_0):=(qac BK303.out 0).trans rfl
    have hcz8_1:w5.cell? ⟨gb303,1,none⟩=some (.int .i64 a0_1):=(qac BK303.out 1).trans rfl
    have hcz8_2:w5.cell? ⟨gb303,2,none⟩=some (.slice A0_2 l0_2.length c0_2):=(qac BK303.out 2).trans rfl
    have hfz8_0:=qag BK303.out 0
    have hfz8_1:=qag BK303.out 1
    have hfz8_2:=qag BK303.out 2
    go_wp2
    go_meet
    case rel=>exact ⟨_,(true),(by rfl),H',⟨by omega⟩,⟨by (with_reducible repeat (refine qab ?_));exact BK303.out⟩,⟨by repeat ((with_reducible exact HB.out))⟩⟩
   ·rw [if_neg c7] at H
    have c7b0:decide ((l0_2.length:Int)≤a1)=false:=decide_eq_false c7
    clear c7
    replace H:=Option.bind_eq_some_iff.mp H
    obtain ⟨t304,A90,H⟩:=H
    replace H:(qae.j0 k a1 l2 t304 a0_0 a0_1 l0_2)=some r:=H
    have A9:=qaa.mk A90
    clear A90
    have H':=qaa.mk H
    clear H
    have hcz10_0:w5.cell? ⟨gb303,0,none⟩=some (.bool a0_0):=(qac BK303.out 0).trans rfl
    have hcz10_1:w5.cell? ⟨gb303,1,none⟩=some (.int .i64 a0_1):=(qac BK303.out 1).trans rfl
    have hcz10_2:w5.cell? ⟨gb303,2,none⟩=some (.slice A0_2 l0_2.length c0_2):=(qac BK303.out 2).trans rfl
    have hfz10_0:=qag BK303.out 0
    have hfz10_1:=qag BK303.out 1
    have hfz10_2:=qag BK303.out 2
    go_wp2_with ((go_at_call 48;(with_reducible refine (qao.calls k _ _ l2 a1 t304 _ ?side1 ?side2 A9.out).mono ?_);(case side1=>repeat (exact (Kd.C_below HR2.out HB.out)));(case side2=>exact HC2.out);rintro e w' ⟨rfl,⟨nd,rfl⟩⟩))
    go_meet
    case rel=>exact ⟨_,(t304),(by rfl),H',⟨by omega⟩,⟨by (with_reducible repeat (refine qcz ?_ _));exact BK303.out⟩,⟨by repeat ((with_reducible first|exact HB.out|apply qay))⟩⟩
 case rest=>
  clear HC4
  obtain ⟨kq,x24_3,rfl,HA,HJ3,BK303,HB⟩:=hcut
  cases kq with
  | zero=>exact absurd HA.out (by simp [qae.j0])
  | succ kj3=>
   have H:=HA.out
   clear HA
   simp only [qae.j0] at H
   by_cases c11:x24_3=true
   ·subst c11
    have H1:(some ([]:List Int))=some r:=by rw [if_pos rfl] at H;exact H
    clear H
    have H:=H1
    clear H1
    obtain rfl:=Option.some.inj H
    go_wp2
    go_ret
    exact ⟨_,by rfl,by exact Kd.R_nil _ _ _ _ _,by repeat ((with_reducible exact HB.out))⟩
   ·replace c11:=Bool.eq_false_iff.mpr c11
    subst c11
    have H1:(qae.l0 kj3 l2 (([a1]:List Int)) 0 a0_0 a0_1 l0_2)=some r:=by rw [if_neg (show ¬ (false=true) by decide)] at H;exact H
    clear H
    have H:=H1
    clear H1
    obtain ⟨y305,hy305⟩:∃ y_:List Int,y_=(([a1]:List Int)):=⟨_,rfl⟩
    replace H:(qae.l0 kj3 l2 y305 0 a0_0 a0_1 l0_2)=some r:=by (rw [hy305];with_reducible exact H)
    have Ny305:=qaa.mk hy305
    clear hy305
    have H':=qaa.mk H
    clear H
    go_wp2_with (((with_reducible refine qbg (N:=26) rfl ?_);(try (refine qcm (by rfl) ?_;dsimp only));refine Kd.R_lit (Kd.int .i64) _ 3 ?hg (N:=26) ?hd (xs:=([a1]:List Int)) (inner:=[.int .i64 a1]) (ok:=fun _=>True) (okp:=fun _=>True) ?hr ?hp (fun _ hk=>hk) trivial (Below.refl _ _) (Nat.le_refl _) (by simp) ?_;(case hd=>rfl);(case hg=>rfl);(case hr=>(go_simp;done));(case hp=>exact (Reps.one (show Kd.M (Kd.int .i64) _ _ _ a1 [.int .i64 a1] from rfl) (Reps.none _ _)));intro v306 w12 ho13 hb hg_ hnew_;clear hg_ hnew_;(rw [← Ny305.out] at ho13);have HO307:=qaa.mk (Kd.R_lower ho13 (qad HB.out));replace BK303:=qaa.mk (qah (g:=gb303) (o:=.cells #[.bool a0_0,.int .i64 a0_1,.slice A0_2 l0_2.length c0_2] 24 (0,0)) (by (with_reducible repeat (refine qab ?_));exact BK303.out) hb);replace HB:=qaa.mk (qal HB.out hb);clear hb ho13))
    go_loopg [7,8] kj3 (fun kq v7 v8 w'=>∃ (x7_2:List Int) (x8_2:Int),v8=.int .i64 x8_2∧qaa (qae.l0 kq l2 x7_2 x8_2 a0_0 a0_1 l0_2=some r)∧qaa (kq≤kj3)∧qaa (Kd.R (Kd.int .i64) 3 w' w.heap.size (fun _=>True) v7 x7_2)∧qaa (w'.heap[gb303]?=some (.cells #[.bool a0_0,.int .i64 a0_1,(.slice A0_2 l0_2.length c0_2)] 24 (0,0)))∧qaa (Below w.heap.size w w'))
    case atStart=>exact ⟨(y305),(0),(by rfl),H',⟨Nat.le_refl _⟩,⟨by (with_reducible repeat (apply Kd.R_drew));exact HO307.out⟩,⟨by (with_reducible repeat (refine qab ?_));exact BK303.out⟩,⟨by repeat ((with_reducible exact HB.out))⟩⟩
    case round=>
     clear H'
     obtain ⟨x7_2,x8_2,rfl,HA,HK2,HO_7,BK303,HB⟩:=hrel
     cases gk with
     | zero=>exact absurd HA.out (by simp [qae.l0])
     | succ k2=>
      have H:=HA.out
      clear HA
      simp only [qae.l0] at H
      by_cases c14:x8_2<(x7_2.length:Int)
      ·rw [if_pos c14] at H
       have c14b0:decide (x8_2<(x7_2.length:Int))=true:=decide_eq_true c14
       clear c14
       by_cases c15:0≤x8_2
       ·rw [if_pos c15] at H
        have c15b0:decide (0≤x8_2)=true:=decide_eq_true c15
        clear c15
        replace H:=Option.bind_eq_some_iff.mp H
        obtain ⟨t312,A160,H⟩:=H
        replace H:(qae.l1 k2 l2 x7_2 x8_2 t312 (t312.length:Int) 0 a0_0 a0_1 l0_2)=some r:=H
        have A16:=qaa.mk A160
        clear A160
        have H':=qaa.mk H
        clear H
        obtain ⟨Ao17,co17,eo17⟩:=Kd.R_slice HO_7.out
        subst eo17
        try go_wp2
        have n0_:=qaa.mk (Kd.R_drew HO_7.out)
        have n1_:=qaa.mk (qab BK303.out)
        have n2_:=qaa.mk (qdl HB.out)
        clear HO_7
        clear BK303
        clear HB
        have HO_7:=n0_
        have BK303:=n1_
        have HB:=n2_
        clear n0_ n1_ n2_
        have p311:0≤(x8_2:Int):=of_decide_eq_true (by (with_reducible assumption))
        have q311:x8_2<(x7_2.length:Int):=of_decide_eq_true (by (with_reducible assumption))
        obtain ⟨ad311,e311,hx311_0⟩:=Kd.at_int (Kd.R_reads' HO_7.out).2.2 x8_2 p311 q311
        cases e311
        replace p311:=eq_true p311
        replace q311:=eq_true q311
        refine qfm (n:=8) (S:=fun w'=>w'.cell? ⟨gb303,0,none⟩=some (.bool a0_0)∧w'.cell? ⟨gb303,1,none⟩=some (.int .i64 a0_1)∧w'.cell? ⟨gb303,2,none⟩=some (.slice A0_2 l0_2.length c0_2)∧w'.cell? (ad311.add (x8_2).toNat)=some (.int .i64 (rd x7_2 x8_2))) (ds:=[]) #[false,false,false,false,false,false,false,false] (by kernel_rfl) rfl rfl ⟨(qac BK303.out 0).trans rfl,(qac BK303.out 1).trans rfl,(qac BK303.out 2).trans rfl,hx311_0⟩ (fun hHeld=>?_);refine qef qae.tab7 qae.bits7 (fun HT_ HW_=>?_)
        generalize wr.drew=w18 at HO_7 BK303 HB hx311_0 hHeld ⊢
        refine qcr (i:=1) (N:=some 34) (v:=?_) (a':=?_) #[false,true,false,false,false,false,false,false] rfl rfl (qbw HT_.out (by kernel_rfl)) (fun _ _ _ h=>h) (Or.inl ⟨by rfl,?_⟩) ?_ ?_
        rotate_left
        ·intro w'
         go_simp
         with_reducible rfl
        rotate_left
        ·simp only [Act.put,List.setIfInBounds_toArray,List.set_cons_zero,List.set_cons_succ,qbd,qbe]
         rfl
        refine qcr (i:=2) (N:=some 35) (v:=?_) (a':=?_) #[false,true,true,false,false,false,false,false] rfl rfl (qbw HT_.out (by kernel_rfl)) (fun _ _ _ h=>h) (Or.inl ⟨by rfl,?_⟩) ?_ ?_
        rotate_left
        ·intro w'
         go_simp
         with_reducible rfl
        rotate_left
        ·simp only [Act.put,List.setIfInBounds_toArray,List.set_cons_zero,List.set_cons_succ,qbd,qbe]
         rfl
        refine qcr (i:=3) (N:=some 36) (v:=?_) (a':=?_) #[false,true,true,true,false,false,false,false] rfl rfl (qbw HT_.out (by kernel_rfl)) (fun _ _ _ h=>h) (Or.inl ⟨by rfl,?_⟩) ?_ ?_
        rotate_left
        ·intro w'
         go_simp
         with_reducible rfl
        rotate_left
        ·simp only [Act.put,List.setIfInBounds_toArray,List.set_cons_zero,List.set_cons_succ,qbd,qbe]
         rfl
        refine qcr (i:=7) (N:=some 40) (v:=?_) (a':=?_) #[false,true,true,true,false,false,false,true] rfl rfl (qbw HT_.out (by kernel_rfl)) (fun _ _ _ h=>h) (Or.inl ⟨by rfl,?_⟩) ?_ ?_
        rotate_left
        ·intro w'
         go_simp
         with_reducible rfl
        rotate_left
        ·simp only [Act.put,List.setIfInBounds_toArray,List.set_cons_zero,List.set_cons_succ,qbd,qbe]
         rfl
        refine take_ (i:=0) (N:=some 33) (v:=?_) (a':=?_) #[true,true,true,true,false,false,false,true] rfl rfl (qcp HT_.out HW_.out (by kernel_rfl)) (fun _ _ _ h=>h) (Or.inl ⟨by rfl,?_⟩) hHeld ?_ ?_
        rotate_left
        ·rintro w' ⟨s0,s1,s2,s3⟩
         go_simp
         with_reducible rfl
        rotate_left
        ·simp only [Act.put,List.setIfInBounds_toArray,List.set_cons_zero,List.set_cons_succ,qbd,qbe]
         rfl
        refine take_ (i:=4) (N:=some 37) (v:=?_) (a':=?_) #[true,true,true,true,true,false,false,true] rfl rfl (qcp HT_.out HW_.out (by kernel_rfl)) (fun _ _ _ h=>h) (Or.inl ⟨by rfl,?_⟩) hHeld ?_ ?_
        rotate_left
        ·rintro w' ⟨s0,s1,s2,s3⟩
         go_simp
         with_reducible rfl
        rotate_left
        ·simp only [Act.put,List.setIfInBounds_toArray,List.set_cons_zero,List.set_cons_succ,qbd,qbe]
         rfl
        refine one_ (i:=5) (N:=some 38) #[true,true,true,true,true,true,false,true] rfl rfl (qdo HT_.out (by kernel_rfl)) (by decide) (fun K hK=>?_)
        refine qei Tryd.func47 (by kernel_rfl) rfl #[.agg #[.bool a0_0,.int .i64 a0_1,.slice A0_2 l0_2.length c0_2],.int .i64 (rd x7_2 x8_2)] (by rfl) rfl rfl (by (try simp only [List.map_toArray,List.map_cons,List.map_nil]);rfl) ?_
        with_reducible refine (qaf.calls k2 a0_0 a0_1 _ _ l0_2 (rd x7_2 x8_2) t312 _ ?side1 ?side2 A16.out).mono ?_
        (case side1=>repeat (exact (Kd.C_below HR0_2.out HB.out)))
        (case side2=>exact HC0_2.out)
        rintro e w19 ⟨v313,rfl,ho0,hb⟩
        have HS3_:=(hb.cell (World.block_lt_of_cell? _ _ (hHeld.2.2.2))).trans (hHeld.2.2.2)
        refine ⟨_,rfl,?_⟩
        have n0_:=qaa.mk (Kd.R_elder' (by (with_reducible repeat (apply Kd.R_drew));exact HO_7.out) (Kd.R_base ho0) hb)
        have n1_:=qaa.mk (Kd.R_lower (Kd.R_new' ho0 (Kd.R_lt (by (with_reducible repeat (apply Kd.R_drew));exact HO_7.out))) (qad HB.out))
        have n2_:=qaa.mk (qah (g:=gb303) (o:=.cells #[.bool a0_0,.int .i64 a0_1,.slice A0_2 l0_2.length c0_2] 24 (0,0)) (by (with_reducible repeat (refine qab ?_));exact BK303.out) hb)
        have n3_:=qaa.mk (qal HB.out hb)
        clear HO_7
        clear BK303
        clear HB
        have HO_7:=n0_
        have HO314:=n1_
        have BK303:=n2_
        have HB:=n3_
        clear n0_ n1_ n2_ n3_
        (try clear hb)
        (try clear ho0)
        obtain ⟨Ao20,co20,eo20⟩:=Kd.R_slice HO314.out
        (subst eo20)
        refine hK.out _ _ ⟨(qac BK303.out 0).trans rfl,(qac BK303.out 1).trans rfl,(qac BK303.out 2).trans rfl,HS3_⟩ (fun hHeld=>?_)
        clear hK K
        refine qdu (a':=?_) ?_ ?_
        rotate_left
        ·show Act.put _ (some 38) _=_
         simp only [Act.put,List.setIfInBounds_toArray,List.set_cons_zero,List.set_cons_succ,qbd,qbe]
         rfl
        refine qcr (i:=6) (N:=some 39) (v:=?_) (a':=?_) #[true,true,true,true,true,true,true,true] rfl rfl (qbw HT_.out (by kernel_rfl)) (fun _ _ _ h=>h) (Or.inl ⟨by rfl,?_⟩) ?_ ?_
        rotate_left
        ·intro w'
         go_simp
         with_reducible rfl
        rotate_left
        ·simp only [Act.put,List.setIfInBounds_toArray,List.set_cons_zero,List.set_cons_succ,qbd,qbe]
         rfl
        refine qgd (qfc HT_.out (by kernel_rfl)) ?_
        try go_wp2
        go_loopg [7,40] k2 (fun kq v7 v40 w'=>∃ (x7_3:List Int) (x40_3:Int),v40=.int .i64 x40_3∧qaa (qae.l1 kq l2 x7_3 x8_2 t312 (t312.length:Int) x40_3 a0_0 a0_1 l0_2=some r)∧qaa (kq≤k2)∧qaa (Kd.R (Kd.int .i64) 3 w' w.heap.size (fun k_=>some k_≠((.slice Ao20 t312.length co20):Value).ownBlock) v7 x7_3)∧qaa (Kd.R (Kd.int .i64) 3 w' w.heap.size (fun k_=>some k_≠(v7:Value).ownBlock) (.slice Ao20 t312.length co20) t312)∧qaa (w'.heap[gb303]?=some (.cells #[.bool a0_0,.int .i64 a0_1,(.slice A0_2 l0_2.length c0_2)] 24 (0,0)))∧qaa (Below w.heap.size w w'))
        case atStart=>exact ⟨(x7_2),(0),(by rfl),H',⟨Nat.le_refl _⟩,⟨by (with_reducible repeat (apply Kd.R_drew));exact Kd.R_mono HO_7.out (fun _ hk=>hk.2)⟩,⟨by (with_reducible repeat (apply Kd.R_drew));exact Kd.R_mono HO314.out (fun _ hk=>hk.2)⟩,⟨by (with_reducible repeat (refine qab ?_));exact BK303.out⟩,⟨by repeat ((with_reducible exact HB.out))⟩⟩
        case round=>
         clear H'
         try clear c14b0
         try clear c15b0
         try clear hx311_0
         try clear p311
         try clear q311
         obtain ⟨x7_3,x40_3,rfl,HA,HK3,HO_7,HO_38,BK303,HB⟩:=hrel
         cases gk with
         | zero=>exact absurd HA.out (by simp [qae.l1])
         | succ k3=>
          have H:=HA.out
          clear HA
          simp only [qae.l1] at H
          by_cases c21:x40_3<(t312.length:Int)
          ·rw [if_pos c21] at H
           have c21b0:decide (x40_3<(t312.length:Int))=true:=decide_eq_true c21
           clear c21
           by_cases c22:0≤x40_3
           ·rw [if_pos c22] at H
            have c22b0:decide (0≤x40_3)=true:=decide_eq_true c22
            clear c22
            by_cases c23:x40_3<(t312.length:Int)
            ·rw [if_pos c23] at H
             have c23b0:decide (x40_3<(t312.length:Int))=true:=decide_eq_true c23
             clear c23
             replace H:=Option.bind_eq_some_iff.mp H
             obtain ⟨t316,A240,H⟩:=H
             replace H:(if t316=true then (qae.l1 k3 l2 x7_3 x8_2 t312 (t312.length:Int) (wrap64 (x40_3+1)) a0_0 a0_1 l0_2) else ((qao.f k3 l2 (rd t312 x40_3)).bind fun t317=>(if t317=true then (qae.l1 k3 l2 x7_3 x8_2 t312 (t312.length:Int) (wrap64 (x40_3+1)) a0_0 a0_1 l0_2) else (if x7_3.length<17592186044416 then (qae.l1 k3 l2 (x7_3++[rd t312 x40_3]) x8_2 t312 (t312.length:Int) (wrap64 (x40_3+1)) a0_0 a0_1 l0_2) else (none)))))=some r:=H
             have A24:=qaa.mk A240
             clear A240
             by_cases c25:t316=true
             ·subst c25
              have H1:(qae.l1 k3 l2 x7_3 x8_2 t312 (t312.length:Int) (wrap64 (x40_3+1)) a0_0 a0_1 l0_2)=some r:=by rw [if_pos rfl] at H;exact H
              clear H
              have H:=H1
              clear H1
              have H':=qaa.mk H
              clear H
              have p315:0≤(x40_3:Int):=of_decide_eq_true (by (with_reducible assumption))
              have q315:x40_3<(t312.length:Int):=of_decide_eq_true (by (with_reducible assumption))
              obtain ⟨ad315,e315,hx315_0⟩:=Kd.at_int (Kd.R_reads' HO_38.out).2.2 x40_3 p315 q315
              cases e315
              replace p315:=eq_true p315
              replace q315:=eq_true q315
              obtain ⟨Ao26,co26,eo26⟩:=Kd.R_slice HO_7.out
              subst eo26
              go_wp2_with (((with_reducible refine qbc (f:=48) rfl ?_);refine qcy (some 46) rfl rfl Tryd.func48 (by kernel_rfl) rfl #[.slice Ao26 x7_3.length co26,.int .i64 (rd t312 x40_3)] rfl (by (try simp only [List.map_toArray,List.map_cons,List.map_nil]);rfl) ?_;(with_reducible refine (qao.calls k3 _ _ x7_3 (rd t312 x40_3) true _ ?side1 ?side2 A24.out).mono ?_);(case side1=>repeat (exact (Kd.R_reads' HO_7.out).2.2));(case side2=>exact (Kd.R_reads' HO_7.out).2.1);rintro e w' ⟨rfl,⟨nd,rfl⟩⟩;refine ⟨_,rfl,?_⟩))
              go_roundg k3
              case measure=>have:=HJ3.out;have:=HK2.out;have:=HK3.out;omega
              case rel=>exact ⟨(x7_3),(wrap64 (x40_3+1)),(by rfl),H',⟨by have:=HJ3.out;have:=HK2.out;have:=HK3.out;omega⟩,⟨by (with_reducible repeat (apply Kd.R_drewN));exact HO_7.out⟩,⟨by (with_reducible repeat (apply Kd.R_drewN));exact HO_38.out⟩,⟨by (with_reducible repeat (refine qcz ?_ _));exact BK303.out⟩,⟨by repeat ((with_reducible first|exact HB.out|apply qay))⟩⟩
             ·replace c25:=Bool.eq_false_iff.mpr c25
              subst c25
              have H1:((qao.f k3 l2 (rd t312 x40_3)).bind fun t317=>(if t317=true then (qae.l1 k3 l2 x7_3 x8_2 t312 (t312.length:Int) (wrap64 (x40_3+1)) a0_0 a0_1 l0_2) else (if x7_3.length<17592186044416 then (qae.l1 k3 l2 (x7_3++[rd t312 x40_3]) x8_2 t312 (t312.length:Int) (wrap64 (x40_3+1)) a0_0 a0_1 l0_2) else (none))))=some r:=by rw [if_neg (show ¬ (false=true) by decide)] at H;exact H
              clear H
              have H:=H1
              clear H1
              replace H:=Option.bind_eq_some_iff.mp H
              obtain ⟨t317,A270,H⟩:=H
              replace H:(if t317=true then (qae.l1 k3 l2 x7_3 x8_2 t312 (t312.length:Int) (wrap64 (x40_3+1)) a0_0 a0_1 l0_2) else (if x7_3.length<17592186044416 then (qae.l1 k3 l2 (x7_3++[rd t312 x40_3]) x8_2 t312 (t312.length:Int) (wrap64 (x40_3+1)) a0_0 a0_1 l0_2) else (none)))=some r:=H
              have A27:=qaa.mk A270
              clear A270
              by_cases c28:t317=true
              ·subst c28
               have H1:(qae.l1 k3 l2 x7_3 x8_2 t312 (t312.length:Int) (wrap64 (x40_3+1)) a0_0 a0_1 l0_2)=some r:=by rw [if_pos rfl] at H;exact H
               clear H
               have H:=H1
               clear H1
               have H':=qaa.mk H
               clear H
               have p315:0≤(x40_3:Int):=of_decide_eq_true (by (with_reducible assumption))
               have q315:x40_3<(t312.length:Int):=of_decide_eq_true (by (with_reducible assumption))
               obtain ⟨ad315,e315,hx315_0⟩:=Kd.at_int (Kd.R_reads' HO_38.out).2.2 x40_3 p315 q315
               cases e315
               replace p315:=eq_true p315
               replace q315:=eq_true q315
               obtain ⟨Ao29,co29,eo29⟩:=Kd.R_slice HO_7.out
               subst eo29
               go_wp2_with (first|((with_reducible refine qbc (f:=48) rfl ?_);refine qcy (some 46) rfl rfl Tryd.func48 (by kernel_rfl) rfl #[.slice Ao29 x7_3.length co29,.int .i64 (rd t312 x40_3)] rfl (by (try simp only [List.map_toArray,List.map_cons,List.map_nil]);rfl) ?_;(with_reducible refine (qao.calls k3 _ _ x7_3 (rd t312 x40_3) false _ ?side1 ?side2 A24.out).mono ?_);(case side1=>repeat (exact (Kd.R_reads' HO_7.out).2.2));(case side2=>exact (Kd.R_reads' HO_7.out).2.1);rintro e w' ⟨rfl,⟨nd,rfl⟩⟩;refine ⟨_,rfl,?_⟩)|(go_at_call 48;(with_reducible refine (qao.calls k3 _ _ l2 (rd t312 x40_3) true _ ?side1 ?side2 A27.out).mono ?_);(case side1=>repeat (exact (Kd.C_below HR2.out (by repeat ((with_reducible first|exact HB.out|apply qay))))));(case side2=>exact HC2.out);rintro e w' ⟨rfl,⟨nd,rfl⟩⟩))
               go_roundg k3
               case measure=>have:=HJ3.out;have:=HK2.out;have:=HK3.out;omega
               case rel=>exact ⟨(x7_3),(wrap64 (x40_3+1)),(by rfl),H',⟨by have:=HJ3.out;have:=HK2.out;have:=HK3.out;omega⟩,⟨by (with_reducible repeat (apply Kd.R_drewN));exact HO_7.out⟩,⟨by (with_reducible repeat (apply Kd.R_drewN));exact HO_38.out⟩,⟨by (with_reducible repeat (refine qcz ?_ _));exact BK303.out⟩,⟨by repeat ((with_reducible first|exact HB.out|apply qay))⟩⟩
              ·replace c28:=Bool.eq_false_iff.mpr c28
               subst c28
               have H1:(if x7_3.length<17592186044416 then (qae.l1 k3 l2 (x7_3++[rd t312 x40_3]) x8_2 t312 (t312.length:Int) (wrap64 (x40_3+1)) a0_0 a0_1 l0_2) else (none))=some r:=by rw [if_neg (show ¬ (false=true) by decide)] at H;exact H
               clear H
               have H:=H1
               clear H1
               by_cases c30:x7_3.length<17592186044416
               ·rw [if_pos c30] at H
                have LMc30:=qaa.mk c30
                clear c30
                obtain ⟨y318,hy318⟩:∃ y_:List Int,y_=(x7_3++[rd t312 x40_3]):=⟨_,rfl⟩
                replace H:(qae.l1 k3 l2 y318 x8_2 t312 (t312.length:Int) (wrap64 (x40_3+1)) a0_0 a0_1 l0_2)=some r:=by (rw [hy318];with_reducible exact H)
                have Ny318:=qaa.mk hy318
                clear hy318
                have H':=qaa.mk H
                clear H
                have p315:0≤(x40_3:Int):=of_decide_eq_true (by (with_reducible assumption))
                have q315:x40_3<(t312.length:Int):=of_decide_eq_true (by (with_reducible assumption))
                obtain ⟨ad315,e315,hx315_0⟩:=Kd.at_int (Kd.R_reads' HO_38.out).2.2 x40_3 p315 q315
                cases e315
                replace p315:=eq_true p315
                replace q315:=eq_true q315
                obtain ⟨Ao31,co31,eo31⟩:=Kd.R_slice HO_7.out
                subst eo31
                go_wp2_with (first|((with_reducible refine qbc (f:=48) rfl ?_);refine qcy (some 46) rfl rfl Tryd.func48 (by kernel_rfl) rfl #[.slice Ao31 x7_3.length co31,.int .i64 (rd t312 x40_3)] rfl (by (try simp only [List.map_toArray,List.map_cons,List.map_nil]);rfl) ?_;(with_reducible refine (qao.calls k3 _ _ x7_3 (rd t312 x40_3) false _ ?side1 ?side2 A24.out).mono ?_);(case side1=>repeat (exact (Kd.R_reads' HO_7.out).2.2));(case side2=>exact (Kd.R_reads' HO_7.out).2.1);rintro e w' ⟨rfl,⟨nd,rfl⟩⟩;refine ⟨_,rfl,?_⟩)|(go_at_call 48;(with_reducible refine (qao.calls k3 _ _ l2 (rd t312 x40_3) false _ ?side1 ?side2 A27.out).mono ?_);(case side1=>repeat (exact (Kd.C_below HR2.out (by repeat ((with_reducible first|exact HB.out|apply qay))))));(case side2=>exact HC2.out);rintro e w' ⟨rfl,⟨nd,rfl⟩⟩)|((with_reducible refine qdm (b:=.append) (xs:=#[.tmp 54,.tmp 56]) rfl ?_);(try (refine qcm (by rfl) ?_;dsimp only));at_builtin;refine Kd.R_append (Kd.int .i64) (w0:=w) w.heap.size rfl (.tmp 54) (.tmp 56) 31 3 (.int .i64 0) 8 rfl Tryd.underlying31 qfh rfl (by decide) (by omega) (.slice Ao31 x7_3.length co31) x7_3 (rd t312 x40_3) [.int .i64 (rd t312 x40_3)] (fun k_=>some k_≠(.slice (some ad315) t312.length co20:Value).ownBlock) (fun _=>False) rfl rfl ?aP (fun _ hk=>hk.elim) ?aF ?aO ?aB ?aS ?aL ?_;(case aP=>exact rfl);(case aB=>exact (by repeat ((with_reducible first|exact HB.out|apply qay))));(case aF=>exact (fun k_ hk=>Kd.fresh' (Kd.R_lt (by (with_reducible repeat (apply Kd.R_drewN));exact HO_38.out)) k_ hk));(case aO=>exact (by (with_reducible repeat (apply Kd.R_drewN));exact HO_7.out));(case aS=>exact (qad (by repeat ((with_reducible first|exact HB.out|apply qay)))));(case aL=>have:=LMc30.out;omega);intro v319 w32 ho hb hg hat;rw [← Ny318.out] at ho;have n0_:=qaa.mk (Kd.R_after (ok:=(fun _=>True)) (by (with_reducible repeat (apply Kd.R_drewN));exact Kd.R_mono HO_38.out (fun _ hk=>⟨trivial,hk⟩)) hg hat);have n1_:=qaa.mk (qdv (g:=gb303) (o:=.cells #[.bool a0_0,.int .i64 a0_1,.slice A0_2 l0_2.length c0_2] 24 (0,0)) (by (with_reducible repeat (refine qcz ?_ _));exact BK303.out) hg (Kd.R_ne HO_7.out BK303.out (by decide)));have n2_:=qaa.mk (hb);have n3_:=qaa.mk (ho);clear HO_38;clear BK303;clear HB;clear HO_7;have HO_38:=n0_;have BK303:=n1_;have HB:=n2_;have HO320:=n3_;clear n0_ n1_ n2_ n3_;clear ho hb hg hat))
                go_roundg k3
                case measure=>have:=HJ3.out;have:=HK2.out;have:=HK3.out;omega
                case rel=>exact ⟨(y318),(wrap64 (x40_3+1)),(by rfl),H',⟨by have:=HJ3.out;have:=HK2.out;have:=HK3.out;omega⟩,⟨by (with_reducible repeat (apply Kd.R_drew));exact HO320.out⟩,⟨by (with_reducible repeat (apply Kd.R_drew));exact Kd.R_mono HO_38.out (fun _ hk=>hk.2)⟩,⟨by (with_reducible repeat (refine qab ?_));exact BK303.out⟩,⟨by repeat ((with_reducible exact HB.out))⟩⟩
               ·rw [if_neg c30] at H
                exact absurd H (by simp)
            ·rw [if_neg c23] at H
             exact absurd H (by simp)
           ·rw [if_neg c22] at H
            exact absurd H (by simp)
          ·rw [if_neg c21] at H
           have c21b0:decide (x40_3<(t312.length:Int))=false:=decide_eq_false c21
           clear c21
           have H':=qaa.mk H
           clear H
           go_wp2
           go_roundg k3
           case measure=>have:=HJ3.out;have:=HK2.out;have:=HK3.out;omega
           case rel=>exact ⟨(x7_3),(wrap64 (x8_2+1)),(by rfl),H',⟨by have:=HJ3.out;have:=HK2.out;have:=HK3.out;omega⟩,⟨by (with_reducible repeat (apply Kd.R_drew));exact Kd.R_mono HO_7.out (fun _ hk=>trivial)⟩,⟨by (with_reducible repeat (refine qab ?_));exact BK303.out⟩,⟨by repeat ((with_reducible exact HB.out))⟩⟩
       ·rw [if_neg c15] at H
        exact absurd H (by simp)
      ·rw [if_neg c14] at H
       have c14b0:decide (x8_2<(x7_2.length:Int))=false:=decide_eq_false c14
       clear c14
       replace H:=Option.bind_eq_some_iff.mp H
       obtain ⟨t308,A330,H⟩:=H
       replace H:(some t308)=some r:=H
       have A33:=qaa.mk A330
       clear A330
       obtain rfl:=Option.some.inj H
       obtain ⟨Ao34,co34,eo34⟩:=Kd.R_slice HO_7.out
       subst eo34
       go_wp2_with (((with_reducible refine qbc (f:=46) rfl ?_);refine qcy (some 60) rfl rfl Tryd.func46 (by kernel_rfl) rfl #[.slice Ao34 x7_2.length co34] rfl (by (try simp only [List.map_toArray,List.map_cons,List.map_nil]);rfl) ?_;(with_reducible refine (qbf.calls k2 _ _ x7_2 t308 _ ?side1 ?side2 A33.out).mono ?_);(case side1=>repeat (exact (Kd.R_reads' HO_7.out).2.2));(case side2=>exact (Kd.R_reads' HO_7.out).2.1);rintro e w35 ⟨v309,rfl,ho0,hb⟩;refine ⟨_,rfl,?_⟩;have HO310:=qaa.mk (Kd.R_lower (Kd.R_new' ho0 (Kd.R_lt (by (with_reducible repeat (apply Kd.R_drew));exact HO_7.out))) (qad HB.out));replace HO_7:=qaa.mk (Kd.R_elder' (by (with_reducible repeat (apply Kd.R_drew));exact HO_7.out) (Kd.R_base ho0) hb);replace BK303:=qaa.mk (qah (g:=gb303) (o:=.cells #[.bool a0_0,.int .i64 a0_1,.slice A0_2 l0_2.length c0_2] 24 (0,0)) (by (with_reducible repeat (refine qab ?_));exact BK303.out) hb);replace HB:=qaa.mk (qal HB.out hb);(try clear hb);(try clear ho0)))
       go_ret
       exact ⟨_,by rfl,by (with_reducible repeat (apply Kd.R_drew));exact Kd.R_mono HO310.out (fun _ hk=>trivial),by repeat ((with_reducible exact HB.out))⟩
end Go.Proofs.YtmfjmbcfaamebaaDoor.X
namespace Go.Proofs.YtmfjmbcfaamebaaDoor.X
open Go.RowKit Go.Proofs.YtmfjmbcfaamebaaDoorW.PrintWords Go.Proofs.YtmfjmbcfaamebaaDoorW.PrintLast Go.Proofs.YtmfjmbcfaamebaaDoorW.PrintMore
attribute [local go_sem] qbr qcc
set_option linter.unusedVariables false
set_option linter.unusedSimpArgs false
def qcf.f (k:Nat) (a0_0:Bool) (a0_1:Int) (l0_2:List (S60)) (a1:Int):Option (List Int):=(qae.f k a0_0 a0_1 l0_2 a1 ([]:List Int)).bind fun t569=>(some t569)
theorem qcf.mono:∀ a0 a1 a2 a3 k,LeO (qcf.f k a0 a1 a2 a3) (qcf.f (k+1) a0 a1 a2 a3):=by
 intro a0 a1 a2 a3 k
 unfold qcf.f
 repeat' first|(with_reducible exact qae.mono _ _ _ _ _ _)|(with_reducible exact LeO.refl _)|(with_reducible refine LeO.bind ?_ (fun _=>?_))
set_option maxHeartbeats 8000000 in
set_option maxRecDepth 100000 in
theorem qcf.calls (k:Nat) (a0_0:Bool) (a0_1:Int) (A0_2:Option Addr) (c0_2:Nat) (l0_2:List (S60)) (a1:Int) (r:List Int) (w:World) (hr0_2:Kd.C k60 w A0_2 l0_2.length l0_2) (hc0_2:l0_2.length≤c0_2) (h:qcf.f k a0_0 a0_1 l0_2 a1=some r) :
  Calls Tryd.prog 32 #[.agg #[.bool a0_0,.int .i64 a0_1,.slice A0_2 l0_2.length c0_2],.int .i64 a1] w fun e w'=>∃ v0_:Value,e=.returned (v0_)∧Kd.R (Kd.int .i64) 3 w' w.heap.size (fun _=>True) v0_ r∧Below w.heap.size w w':=by
 have hu24:=Tryd.underlying24
 have HR0_2:=qaa.mk hr0_2
 have HC0_2:=qaa.mk hc0_2
 clear hr0_2 hc0_2
 have HB:=qaa.mk (Below.refl w.heap.size w)
 have H:((qae.f k a0_0 a0_1 l0_2 a1 ([]:List Int)).bind fun t569=>(some t569))=some r:=h
 clear h
 replace H:=Option.bind_eq_some_iff.mp H
 obtain ⟨t569,A30,H⟩:=H
 replace H:(some t569)=some r:=H
 have A3:=qaa.mk A30
 clear A30
 obtain rfl:=Option.some.inj H
 go_enter Tryd.func32,Tryd.ntmps32
 go_wp2_with (first|((with_reducible refine qbg (N:=2) rfl ?_);refine qbn ?hg (N:=2) ?hd (cs:=#[.bool a0_0,.int .i64 a0_1,.slice A0_2 l0_2.length c0_2]) (t:=24) ?hr ?_;(case hd=>rfl);(case hg=>rfl);(case hr=>(go_simp;done));intro gb568 hg w4 hbox hb;have BK568:=qaa.mk (hbox);have GW568:=qaa.mk ((by rw [hg];exact (qad HB.out):w.heap.size≤gb568));have GE568:=qaa.mk ((by rw [hg];exact (qad HB.out):w.heap.size≤gb568));replace HB:=qaa.mk (qal HB.out hb);clear hb hbox hg;have hcz5_0:w4.cell? ⟨gb568,0,none⟩=some (.bool a0_0):=(qac BK568.out 0).trans rfl;have hcz5_1:w4.cell? ⟨gb568,1,none⟩=some (.int .i64 a0_1):=(qac BK568.out 1).trans rfl;have hcz5_2:w4.cell? ⟨gb568,2,none⟩=some (.slice A0_2 l0_2.length c0_2):=(qac BK568.out 2).trans rfl;have hfz5_0:=qag BK568.out 0;have hfz5_1:=qag BK568.out 1;have hfz5_2:=qag BK568.out 2)|((with_reducible refine qbc (f:=59) rfl ?_);refine qcy (some 7) rfl rfl Tryd.func59 (by kernel_rfl) rfl #[.agg #[.bool a0_0,.int .i64 a0_1,.slice A0_2 l0_2.length c0_2],.int .i64 a1,.slice none 0 0] rfl (by (try simp only [List.map_toArray,List.map_cons,List.map_nil]);rfl) ?_;(refine (qae.calls k a0_0 a0_1 _ _ l0_2 a1 _ _ ([]:List Int) t569 _ ?side1 ?side2 ?side3 ?side4 A3.out).mono ?_);(case side1=>repeat (exact (Kd.C_below HR0_2.out HB.out)));(case side2=>exact HC0_2.out);(case side3=>exact Kd.C_nil _ _);(case side4=>exact Nat.le_refl _);rintro e w6 ⟨v570,rfl,ho0,hb⟩;refine ⟨_,rfl,?_⟩;have HO571:=qaa.mk (Kd.R_lower ho0 (qad HB.out));replace BK568:=qaa.mk (qah (g:=gb568) (o:=.cells #[.bool a0_0,.int .i64 a0_1,.slice A0_2 l0_2.length c0_2] 24 (0,0)) (by (with_reducible repeat (refine qab ?_));exact BK568.out) hb);replace HB:=qaa.mk (qal HB.out hb);(try clear hb);(try clear ho0)))
 go_ret
 exact ⟨_,by rfl,by (with_reducible repeat (apply Kd.R_drew));exact HO571.out,by repeat ((with_reducible exact HB.out))⟩
end Go.Proofs.YtmfjmbcfaamebaaDoor.X
namespace Go.Proofs.YtmfjmbcfaamebaaDoor.X
open Go.RowKit Go.Proofs.YtmfjmbcfaamebaaDoorW.PrintWords Go.Proofs.YtmfjmbcfaamebaaDoorW.PrintLast Go.Proofs.YtmfjmbcfaamebaaDoorW.PrintMore
attribute [local go_sem] qbr qcc
set_option linter.unusedVariables false
set_option linter.unusedSimpArgs false
def qdy.f (k:Nat) (a0_0:Bool) (a0_1:Int) (l0_2:List (S60)) (a1:Int) (a2:Int) (l3_0:List Int):Option (Bool):=(qci.f k a0_0 a0_1 l0_2 a1 l3_0).bind fun t574=>((qbu.f t574 a2).bind fun t577=>(some t577))
theorem qdy.mono:∀ a0 a1 a2 a3 a4 a5 k,LeO (qdy.f k a0 a1 a2 a3 a4 a5) (qdy.f (k+1) a0 a1 a2 a3 a4 a5):=by
 intro a0 a1 a2 a3 a4 a5 k
 unfold qdy.f
 repeat' first|(with_reducible exact qci.mono _ _ _ _ _ _)|(with_reducible exact LeO.refl _)|(with_reducible refine LeO.bind ?_ (fun _=>?_))
set_option maxHeartbeats 8000000 in
set_option maxRecDepth 100000 in
theorem qdy.calls (k:Nat) (a0_0:Bool) (a0_1:Int) (A0_2:Option Addr) (c0_2:Nat) (l0_2:List (S60)) (a1:Int) (a2:Int) (A3_0:Option Addr) (c3_0:Nat) (l3_0:List Int) (r:Bool) (w:World) (hT:TabW w) (hr0_2:Kd.C k60 w A0_2 l0_2.length l0_2) (hc0_2:l0_2.length≤c0_2) (hr3_0:Kd.C (Kd.int .u64) w A3_0 l3_0.length l3_0) (hc3_0:l3_0.length≤c3_0) (h:qdy.f k a0_0 a0_1 l0_2 a1 a2 l3_0=some r) :
  Calls Tryd.prog 33 #[.agg #[.bool a0_0,.int .i64 a0_1,.slice A0_2 l0_2.length c0_2],.int .i64 a1,.int .i64 a2,.agg #[.slice A3_0 l3_0.length c3_0]] w fun e w'=>e=.returned (.bool r)∧Below w.heap.size w w':=by
 have hu24:=Tryd.underlying24
 have hu38:=Tryd.underlying38
 have HR0_2:=qaa.mk hr0_2
 have HC0_2:=qaa.mk hc0_2
 clear hr0_2 hc0_2
 have HR3_0:=qaa.mk hr3_0
 have HC3_0:=qaa.mk hc3_0
 clear hr3_0 hc3_0
 have HTB:=qaa.mk hT
 clear hT
 have HB:=qaa.mk (Below.refl w.heap.size w)
 have H:((qci.f k a0_0 a0_1 l0_2 a1 l3_0).bind fun t574=>((qbu.f t574 a2).bind fun t577=>(some t577)))=some r:=h
 clear h
 replace H:=Option.bind_eq_some_iff.mp H
 obtain ⟨t574,A50,H⟩:=H
 replace H:((qbu.f t574 a2).bind fun t577=>(some t577))=some r:=H
 have A5:=qaa.mk A50
 clear A50
 replace H:=Option.bind_eq_some_iff.mp H
 obtain ⟨t577,A60,H⟩:=H
 replace H:(some t577)=some r:=H
 have A6:=qaa.mk A60
 clear A60
 obtain rfl:=Option.some.inj H
 go_enter Tryd.func33,Tryd.ntmps33
 go_wp2_with (first|((with_reducible refine qbg (N:=4) rfl ?_);refine qbn ?hg (N:=4) ?hd (cs:=#[.bool a0_0,.int .i64 a0_1,.slice A0_2 l0_2.length c0_2]) (t:=24) ?hr ?_;(case hd=>rfl);(case hg=>rfl);(case hr=>(go_simp;done));intro gb572 hg w7 hbox hb;have BK572:=qaa.mk (hbox);have GW572:=qaa.mk ((by rw [hg];exact (qad HB.out):w.heap.size≤gb572));have GE572:=qaa.mk ((by rw [hg];exact (qad HB.out):w.heap.size≤gb572));replace HB:=qaa.mk (qal HB.out hb);clear hb hbox hg)|((with_reducible refine qbg (N:=7) rfl ?_);refine qbn ?hg (N:=7) ?hd (cs:=#[.slice A3_0 l3_0.length c3_0]) (t:=38) ?hr ?_;(case hd=>rfl);(case hg=>rfl);(case hr=>(go_simp;done));intro gb573 hg w8 hbox hb;have BK573:=qaa.mk (hbox);have GW573:=qaa.mk ((by rw [hg];exact (qad HB.out):w.heap.size≤gb573));have GE573:=qaa.mk ((by rw [hg];exact (qad HB.out):w.heap.size≤gb573));replace HB:=qaa.mk (qal HB.out hb);have NB572_573:=qaa.mk ((by rw [hg];exact Nat.ne_of_lt (qbl (g:=gb572) (o:=.cells #[.bool a0_0,.int .i64 a0_1,.slice A0_2 l0_2.length c0_2] 24 (0,0)) (by (with_reducible repeat (refine qab ?_));exact BK572.out)):gb572≠gb573));have NB573_572:=qaa.mk ((by rw [hg];exact Nat.ne_of_gt (qbl (g:=gb572) (o:=.cells #[.bool a0_0,.int .i64 a0_1,.slice A0_2 l0_2.length c0_2] 24 (0,0)) (by (with_reducible repeat (refine qab ?_));exact BK572.out)):gb573≠gb572));replace BK572:=qaa.mk (qah (g:=gb572) (o:=.cells #[.bool a0_0,.int .i64 a0_1,.slice A0_2 l0_2.length c0_2] 24 (0,0)) (by (with_reducible repeat (refine qab ?_));exact BK572.out) hb);clear hb hbox hg;have hnb9:=NB572_573.out;have hnc9:=NB573_572.out;have hcz10_0:w8.cell? ⟨gb572,0,none⟩=some (.bool a0_0):=(qac BK572.out 0).trans rfl;have hcz10_1:w8.cell? ⟨gb572,1,none⟩=some (.int .i64 a0_1):=(qac BK572.out 1).trans rfl;have hcz10_2:w8.cell? ⟨gb572,2,none⟩=some (.slice A0_2 l0_2.length c0_2):=(qac BK572.out 2).trans rfl;have hfz10_0:=qag BK572.out 0;have hfz10_1:=qag BK572.out 1;have hfz10_2:=qag BK572.out 2;have hcz11_0:w8.cell? ⟨gb573,0,none⟩=some (.slice A3_0 l3_0.length c3_0):=(qac BK573.out 0).trans rfl;have hfz11_0:=qag BK573.out 0)|((with_reducible refine qbc (f:=54) rfl ?_);refine qcy (some 12) rfl rfl Tryd.func54 (by kernel_rfl) rfl #[.agg #[.bool a0_0,.int .i64 a0_1,.slice A0_2 l0_2.length c0_2],.int .i64 a1,.agg #[.slice A3_0 l3_0.length c3_0]] rfl (by (try simp only [List.map_toArray,List.map_cons,List.map_nil]);rfl) ?_;(with_reducible refine (qci.calls k a0_0 a0_1 _ _ l0_2 a1 _ _ l3_0 t574 _ ?side1 ?side2 ?side3 ?side4 ?side5 A5.out).mono ?_);(case side1=>exact TabW.below' HTB.out HB.out);(case side2=>repeat (exact (Kd.C_below HR0_2.out HB.out)));(case side3=>exact HC0_2.out);(case side4=>repeat (exact (Kd.C_below HR3_0.out HB.out)));(case side5=>exact HC3_0.out);rintro e w12 ⟨v575,rfl,ho0,hb⟩;refine ⟨_,rfl,?_⟩;have HO576:=qaa.mk (Kd.V_lower (Kd.V_mono (ok':=fun k_=>k_≠gb572∧k_≠gb573) ho0 (fun k_ hk_=>⟨(Kd.freshB (g:=gb572) (o:=.cells #[.bool a0_0,.int .i64 a0_1,.slice A0_2 l0_2.length c0_2] 24 (0,0)) (by (with_reducible repeat (refine qab ?_));exact BK572.out) k_ hk_),(Kd.freshB (g:=gb573) (o:=.cells #[.slice A3_0 l3_0.length c3_0] 38 (0,0)) (by (with_reducible repeat (refine qab ?_));exact BK573.out) k_ hk_)⟩)) (qad HB.out));replace BK572:=qaa.mk (qah (g:=gb572) (o:=.cells #[.bool a0_0,.int .i64 a0_1,.slice A0_2 l0_2.length c0_2] 24 (0,0)) (by (with_reducible repeat (refine qab ?_));exact BK572.out) hb);replace BK573:=qaa.mk (qah (g:=gb573) (o:=.cells #[.slice A3_0 l3_0.length c3_0] 38 (0,0)) (by (with_reducible repeat (refine qab ?_));exact BK573.out) hb);replace HB:=qaa.mk (qal HB.out hb);(try clear hb);(try clear ho0);obtain ⟨Ao13,co13,eo13⟩:=Kd.V_slice HO576.out;subst eo13)|((with_reducible refine qbc (f:=38) rfl ?_);refine qcy (some 14) rfl rfl Tryd.func38 (by kernel_rfl) rfl #[.agg #[.slice Ao13 t574.length co13],.int .i64 a2] rfl (by (try simp only [List.map_toArray,List.map_cons,List.map_nil]);rfl) ?_;(with_reducible refine (qbu.calls _ _ t574 a2 t577 _ ?side1 ?side2 A6.out).mono ?_);(case side1=>repeat (exact (Kd.V_reads' HO576.out).2.2));(case side2=>exact (Kd.V_reads' HO576.out).2.1);rintro e w14 ⟨rfl,hb⟩;refine ⟨_,rfl,?_⟩;replace HO576:=qaa.mk (Kd.V_below (by (with_reducible repeat (apply Kd.V_drew));exact HO576.out) hb);replace BK572:=qaa.mk (qah (g:=gb572) (o:=.cells #[.bool a0_0,.int .i64 a0_1,.slice A0_2 l0_2.length c0_2] 24 (0,0)) (by (with_reducible repeat (refine qab ?_));exact BK572.out) hb);replace BK573:=qaa.mk (qah (g:=gb573) (o:=.cells #[.slice A3_0 l3_0.length c3_0] 38 (0,0)) (by (with_reducible repeat (refine qab ?_));exact BK573.out) hb);replace HB:=qaa.mk (qal HB.out hb);(try clear hb)))
 go_ret
 exact ⟨by rfl,by repeat ((with_reducible exact HB.out))⟩
end Go.Proofs.YtmfjmbcfaamebaaDoor.X
namespace Go.Proofs.YtmfjmbcfaamebaaDoor.X
open Go.RowKit Go.Proofs.YtmfjmbcfaamebaaDoorW.PrintWords Go.Proofs.YtmfjmbcfaamebaaDoorW.PrintLast Go.Proofs.YtmfjmbcfaamebaaDoorW.PrintMore
attribute [local go_sem] qbr qcc
set_option linter.unusedVariables false
set_option linter.unusedSimpArgs false
def qce.f (k:Nat) (a0_0:Bool) (a0_1:Int) (l0_2:List (S60)) (a1:Int) (a2:Int) (l3:List Int):Option (Bool):=(qae.f k a0_0 a0_1 l0_2 a1 l3).bind fun t579=>((qao.f k t579 a2).bind fun t582=>(some t582))
theorem qce.mono:∀ a0 a1 a2 a3 a4 a5 k,LeO (qce.f k a0 a1 a2 a3 a4 a5) (qce.f (k+1) a0 a1 a2 a3 a4 a5):=by
 intro a0 a1 a2 a3 a4 a5 k
 unfold qce.f
 repeat' first|(with_reducible exact qao.mono _ _ _)|(with_reducible exact qae.mono _ _ _ _ _ _)|(with_reducible exact LeO.refl _)|(with_reducible refine LeO.bind ?_ (fun _=>?_))
set_option maxHeartbeats 8000000 in
set_option maxRecDepth 100000 in
theorem qce.calls (k:Nat) (a0_0:Bool) (a0_1:Int) (A0_2:Option Addr) (c0_2:Nat) (l0_2:List (S60)) (a1:Int) (a2:Int) (A3:Option Addr) (c3:Nat) (l3:List Int) (r:Bool) (w:World) (hr0_2:Kd.C k60 w A0_2 l0_2.length l0_2) (hc0_2:l0_2.length≤c0_2) (hr3:Kd.C (Kd.int .i64) w A3 l3.length l3) (hc3:l3.length≤c3) (h:qce.f k a0_0 a0_1 l0_2 a1 a2 l3=some r) :
  Calls Tryd.prog 35 #[.agg #[.bool a0_0,.int .i64 a0_1,.slice A0_2 l0_2.length c0_2],.int .i64 a1,.int .i64 a2,.slice A3 l3.length c3] w fun e w'=>e=.returned (.bool r)∧Below w.heap.size w w':=by
 have hu24:=Tryd.underlying24
 have HR0_2:=qaa.mk hr0_2
 have HC0_2:=qaa.mk hc0_2
 clear hr0_2 hc0_2
 have HR3:=qaa.mk hr3
 have HC3:=qaa.mk hc3
 clear hr3 hc3
 have HB:=qaa.mk (Below.refl w.heap.size w)
 have H:((qae.f k a0_0 a0_1 l0_2 a1 l3).bind fun t579=>((qao.f k t579 a2).bind fun t582=>(some t582)))=some r:=h
 clear h
 replace H:=Option.bind_eq_some_iff.mp H
 obtain ⟨t579,A50,H⟩:=H
 replace H:((qao.f k t579 a2).bind fun t582=>(some t582))=some r:=H
 have A5:=qaa.mk A50
 clear A50
 replace H:=Option.bind_eq_some_iff.mp H
 obtain ⟨t582,A60,H⟩:=H
 replace H:(some t582)=some r:=H
 have A6:=qaa.mk A60
 clear A60
 obtain rfl:=Option.some.inj H
 go_enter Tryd.func35,Tryd.ntmps35
 go_wp2_with (first|((with_reducible refine qbg (N:=4) rfl ?_);refine qbn ?hg (N:=4) ?hd (cs:=#[.bool a0_0,.int .i64 a0_1,.slice A0_2 l0_2.length c0_2]) (t:=24) ?hr ?_;(case hd=>rfl);(case hg=>rfl);(case hr=>(go_simp;done));intro gb578 hg w7 hbox hb;have BK578:=qaa.mk (hbox);have GW578:=qaa.mk ((by rw [hg];exact (qad HB.out):w.heap.size≤gb578));have GE578:=qaa.mk ((by rw [hg];exact (qad HB.out):w.heap.size≤gb578));replace HB:=qaa.mk (qal HB.out hb);clear hb hbox hg;have hcz8_0:w7.cell? ⟨gb578,0,none⟩=some (.bool a0_0):=(qac BK578.out 0).trans rfl;have hcz8_1:w7.cell? ⟨gb578,1,none⟩=some (.int .i64 a0_1):=(qac BK578.out 1).trans rfl;have hcz8_2:w7.cell? ⟨gb578,2,none⟩=some (.slice A0_2 l0_2.length c0_2):=(qac BK578.out 2).trans rfl;have hfz8_0:=qag BK578.out 0;have hfz8_1:=qag BK578.out 1;have hfz8_2:=qag BK578.out 2)|((with_reducible refine qbc (f:=59) rfl ?_);refine qcy (some 12) rfl rfl Tryd.func59 (by kernel_rfl) rfl #[.agg #[.bool a0_0,.int .i64 a0_1,.slice A0_2 l0_2.length c0_2],.int .i64 a1,.slice A3 l3.length c3] rfl (by (try simp only [List.map_toArray,List.map_cons,List.map_nil]);rfl) ?_;(with_reducible refine (qae.calls k a0_0 a0_1 _ _ l0_2 a1 _ _ l3 t579 _ ?side1 ?side2 ?side3 ?side4 A5.out).mono ?_);(case side1=>repeat (exact (Kd.C_below HR0_2.out HB.out)));(case side2=>exact HC0_2.out);(case side3=>repeat (exact (Kd.C_below HR3.out HB.out)));(case side4=>exact HC3.out);rintro e w9 ⟨v580,rfl,ho0,hb⟩;refine ⟨_,rfl,?_⟩;have HO581:=qaa.mk (Kd.R_lower ho0 (qad HB.out));replace BK578:=qaa.mk (qah (g:=gb578) (o:=.cells #[.bool a0_0,.int .i64 a0_1,.slice A0_2 l0_2.length c0_2] 24 (0,0)) (by (with_reducible repeat (refine qab ?_));exact BK578.out) hb);replace HB:=qaa.mk (qal HB.out hb);(try clear hb);(try clear ho0);obtain ⟨Ao10,co10,eo10⟩:=Kd.R_slice HO581.out;subst eo10)|((with_reducible refine qbc (f:=48) rfl ?_);refine qcy (some 14) rfl rfl Tryd.func48 (by kernel_rfl) rfl #[.slice Ao10 t579.length co10,.int .i64 a2] rfl (by (try simp only [List.map_toArray,List.map_cons,List.map_nil]);rfl) ?_;(with_reducible refine (qao.calls k _ _ t579 a2 t582 _ ?side1 ?side2 A6.out).mono ?_);(case side1=>repeat (exact (Kd.R_reads' HO581.out).2.2));(case side2=>exact (Kd.R_reads' HO581.out).2.1);rintro e w' ⟨rfl,⟨nd,rfl⟩⟩;refine ⟨_,rfl,?_⟩))
 go_ret
 exact ⟨by rfl,by repeat ((with_reducible first|exact HB.out|apply qay))⟩
end Go.Proofs.YtmfjmbcfaamebaaDoor.X
