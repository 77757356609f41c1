/- Parts of the proof of the law CFGLoops: words, walks of single functions and plain laws, joined by a program out of the session's texts. -/
import Derived.Test.YtmfjmbcfaamebaaDoorCFGLoops11
set_option linter.unusedVariables false
set_option linter.unusedSimpArgs false
namespace Go.Proofs.YtmfjmbcfaamebaaDoor.X
open Go.RowKit Go.Proofs.YtmfjmbcfaamebaaDoorW.PrintWords Go.Proofs.YtmfjmbcfaamebaaDoorW.PrintLast Go.Proofs.YtmfjmbcfaamebaaDoorW.PrintMore
attribute [local go_sem] qbv qcg
set_option linter.unusedVariables false
set_option linter.unusedSimpArgs false
mutual
def qae.j0:Nat→Int→List Int→Bool→Bool→Int→List (S60)→Option (List Int)
 | 0,_,_,_,_,_,_=>none
 | k+1,x1,x2,x24,x304000,x304001,x304002=>if x24=true then (some ([]:List Int)) else (qae.l0 k x2 (([x1]:List Int)) 0 x304000 x304001 x304002)
def qae.l0:Nat→List Int→List Int→Int→Bool→Int→List (S60)→Option (List Int)
 | 0,_,_,_,_,_,_=>none
 | k+1,x2,x7,x8,x304000,x304001,x304002=>if x8<(x7.length:Int) then (if 0≤x8 then ((qah.f k x304000 x304001 x304002 (rd x7 x8)).bind fun t312=>(qae.l1 k x2 x7 x8 t312 (t312.length:Int) 0 x304000 x304001 x304002)) else (none)) else ((qbi.f k x7).bind fun t308=>(some t308))
def qae.l1:Nat→List Int→List Int→Int→List Int→Int→Int→Bool→Int→List (S60)→Option (List Int)
 | 0,_,_,_,_,_,_,_,_,_=>none
 | k+1,x2,x7,x8,x38,x39,x40,x304000,x304001,x304002=>if x40<x39 then (if 0≤x40 then (if x40<(x38.length:Int) then ((qap.f k x7 (rd x38 x40)).bind fun t316=>(if t316=true then (qae.l1 k x2 x7 x8 x38 x39 (wrap64 (x40+1)) x304000 x304001 x304002) else ((qap.f k x2 (rd x38 x40)).bind fun t317=>(if t317=true then (qae.l1 k x2 x7 x8 x38 x39 (wrap64 (x40+1)) x304000 x304001 x304002) else (if x7.length<17592186044416 then (qae.l1 k x2 (x7++[rd x38 x40]) x8 x38 x39 (wrap64 (x40+1)) x304000 x304001 x304002) else (none)))))) else (none)) else (none)) else (qae.l0 k x2 x7 (wrap64 (x8+1)) x304000 x304001 x304002)
end
def qae.f (k:Nat) (a0_0:Bool) (a0_1:Int) (l0_2:List (S60)) (a1:Int) (l2:List Int):Option (List Int):=if a1<0 then (qae.j0 k a1 l2 true a0_0 a0_1 l0_2) else (if a1≥(l0_2.length:Int) then (qae.j0 k a1 l2 true a0_0 a0_1 l0_2) else ((qap.f k l2 a1).bind fun t304=>(qae.j0 k a1 l2 t304 a0_0 a0_1 l0_2)))
theorem qae.mono_l:∀ k,(∀ y0 y1 y2 y3 y4 y5,LeO (qae.j0 k y0 y1 y2 y3 y4 y5) (qae.j0 (k+1) y0 y1 y2 y3 y4 y5))∧(∀ y0 y1 y2 y3 y4 y5,LeO (qae.l0 k y0 y1 y2 y3 y4 y5) (qae.l0 (k+1) y0 y1 y2 y3 y4 y5))∧(∀ y0 y1 y2 y3 y4 y5 y6 y7 y8,LeO (qae.l1 k y0 y1 y2 y3 y4 y5 y6 y7 y8) (qae.l1 (k+1) y0 y1 y2 y3 y4 y5 y6 y7 y8))
 | 0=>⟨fun _ _ _ _ _ _ r h=>by simp [qae.j0] at h,fun _ _ _ _ _ _ r h=>by simp [qae.l0] at h,fun _ _ _ _ _ _ _ _ _ r h=>by simp [qae.l1] at h⟩
 | k+1=>by
  obtain ⟨ih0,ih1,ih2⟩:=qae.mono_l k
  refine ⟨?_,?_,?_⟩
  ·intro y0 y1 y2 y3 y4 y5
   unfold qae.j0
   repeat' first|(with_reducible exact ih1 _ _ _ _ _ _)|(with_reducible exact LeO.refl _)|(with_reducible refine LeO.ite ?_ ?_)
  ·intro y0 y1 y2 y3 y4 y5
   unfold qae.l0
   repeat' first|(with_reducible exact ih2 _ _ _ _ _ _ _ _ _)|(with_reducible exact qbi.mono _ _)|(with_reducible exact qah.mono _ _ _ _ _)|(with_reducible exact LeO.refl _)|(with_reducible refine LeO.ite ?_ ?_)|(with_reducible refine LeO.bind ?_ (fun _=>?_))
  ·intro y0 y1 y2 y3 y4 y5 y6 y7 y8
   unfold qae.l1
   repeat' first|(with_reducible exact ih1 _ _ _ _ _ _)|(with_reducible exact ih2 _ _ _ _ _ _ _ _ _)|(with_reducible exact qap.mono _ _ _)|(with_reducible exact LeO.refl _)|(with_reducible refine LeO.ite ?_ ?_)|(with_reducible refine LeO.bind ?_ (fun _=>?_))
theorem qae.mono:∀ a0 a1 a2 a3 a4 k,LeO (qae.f k a0 a1 a2 a3 a4) (qae.f (k+1) a0 a1 a2 a3 a4):=by
 intro a0 a1 a2 a3 a4 k
 obtain ⟨ih0,ih1,ih2⟩:=qae.mono_l k
 unfold qae.f
 repeat' first|(with_reducible exact ih0 _ _ _ _ _ _)|(with_reducible exact qap.mono _ _ _)|(with_reducible refine LeO.ite ?_ ?_)|(with_reducible refine LeO.bind ?_ (fun _=>?_))
def qae.T7:Bool×List (List Nat×List Nat):=(true,[([],[]),([],[]),([],[]),([1,2],[1,2]),([3],[3]),([0,4],[0,4]),([5],[5]),([],[])])
def qae.B7:List Nat:=[0,0,0,6,14,31,63,0]
theorem qae.tab7:rtab .any (opsOf Tryd.f59 7)=qae.T7:=by kernel_rfl
theorem qae.bits7:qel qae.T7.2 qae.B7=true:=by kernel_rfl
set_option maxHeartbeats 8000000 in
set_option maxRecDepth 100000 in
theorem qae.calls (k:Nat) (a0_0:Bool) (a0_1:Int) (A0_2:Option Addr) (c0_2:Nat) (l0_2:List (S60)) (a1:Int) (A2:Option Addr) (c2:Nat) (l2:List Int) (r:List Int) (w:World) (hr0_2:Kd.C k60 w A0_2 l0_2.length l0_2) (hc0_2:l0_2.length≤c0_2) (hr2:Kd.C (Kd.int .i64) w A2 l2.length l2) (hc2:l2.length≤c2) (h:qae.f k a0_0 a0_1 l0_2 a1 l2=some r) :
  Calls Tryd.prog 59 #[.agg #[.bool a0_0,.int .i64 a0_1,.slice A0_2 l0_2.length c0_2],.int .i64 a1,.slice A2 l2.length c2] w fun e w'=>∃ v0_:Value,e=.returned (v0_)∧Kd.R (Kd.int .i64) 3 w' w.heap.size (fun _=>True) v0_ r∧Below w.heap.size w w':=by
 have hu24:=Tryd.underlying24
 have HR0_2:=qaa.mk hr0_2
 have HC0_2:=qaa.mk hc0_2
 clear hr0_2 hc0_2
 have HR2:=qaa.mk hr2
 have HC2:=qaa.mk hc2
 clear hr2 hc2
 have HB:=qaa.mk (Below.refl w.heap.size w)
 have H:(if a1<0 then (qae.j0 k a1 l2 true a0_0 a0_1 l0_2) else (if a1≥(l0_2.length:Int) then (qae.j0 k a1 l2 true a0_0 a0_1 l0_2) else ((qap.f k l2 a1).bind fun t304=>(qae.j0 k a1 l2 t304 a0_0 a0_1 l0_2))))=some r:=h
 clear h
 have HC4:=qaa.mk H
 clear H
 go_enter Tryd.func59,Tryd.ntmps59
 go_upto_region 1 with (((with_reducible refine qbf (N:=3) rfl ?_);(try (refine qcp (by rfl) ?_;dsimp only));refine qbk ?hg (N:=3) ?hd (cs:=#[.bool a0_0,.int .i64 a0_1,.slice A0_2 l0_2.length c0_2]) (t:=24) ?hr ?_;(case hd=>rfl);(case hg=>rfl);(case hr=>(go_simp;done));intro gb303 hg w5 hbox hb;have BK303:=qaa.mk (hbox);have GW303:=qaa.mk ((by rw [hg];exact (qad HB.out):w.heap.size≤gb303));have GE303:=qaa.mk ((by rw [hg];exact (qad HB.out):w.heap.size≤gb303));replace HB:=qaa.mk (qai HB.out hb);clear hb hbox hg))
 go_cut [24] (fun v24 wc=>∃ (kq:Nat) (x24_3:Bool),v24=.bool x24_3∧qaa (qae.j0 kq a1 l2 x24_3 a0_0 a0_1 l0_2=some r)∧qaa (kq≤k)∧qaa (wc.heap[gb303]?=some (.cells #[.bool a0_0,.int .i64 a0_1,(.slice A0_2 l0_2.length c0_2)] 24 (0,0)))∧qaa (Below w.heap.size w wc))
 case first=>
  have H:=HC4.out
  clear HC4
  by_cases c6:a1<0
  ·rw [if_pos c6] at H
   have c6b0:decide (a1<0)=true:=decide_eq_true c6
   clear c6
   have H':=qaa.mk H
   clear H
   go_wp2
   go_meet
   case rel=>exact ⟨_,(true),(by rfl),H',⟨by omega⟩,⟨by (with_reducible repeat (refine qab ?_));exact BK303.out⟩,⟨by repeat ((with_reducible exact HB.out))⟩⟩
  ·rw [if_neg c6] at H
   have c6b0:decide (a1<0)=false:=decide_eq_false c6
   clear c6
   by_cases c7:a1≥(l0_2.length:Int)
   ·rw [if_pos c7] at H
    have c7b0:decide ((l0_2.length:Int)≤a1)=true:=decide_eq_true c7
    clear c7
    have H':=qaa.mk H
    clear H
    have hcz8_0:w5.cell? ⟨gb303,0,none⟩=some (.bool a0_0):=(qac BK303.out 0).trans rfl
    have hcz8_1:w5.cell? ⟨gb303,1,none⟩=some (.int .i64 a0_1):=(qac BK303.out 1).trans rfl
    have hcz8_2:w5.cell? ⟨gb303,2,none⟩=some (.slice A0_2 l0_2.length c0_2):=(qac BK303.out 2).trans rfl
    have hfz8_0:=qag BK303.out 0
    have hfz8_1:=qag BK303.out 1
    have hfz8_2:=qag BK303.out 2
    go_wp2
    go_meet
    case rel=>exact ⟨_,(true),(by rfl),H',⟨by omega⟩,⟨by (with_reducible repeat (refine qab ?_));exact BK303.out⟩,⟨by repeat ((with_reducible exact HB.out))⟩⟩
   ·rw [if_neg c7] at H
    have c7b0:decide ((l0_2.length:Int)≤a1)=false:=decide_eq_false c7
    clear c7
    replace H:=Option.bind_eq_some_iff.mp H
    obtain ⟨t304,A90,H⟩:=H
    replace H:(qae.j0 k a1 l2 t304 a0_0 a0_1 l0_2)=some r:=H
    have A9:=qaa.mk A90
    clear A90
    have H':=qaa.mk H
    clear H
    have hcz10_0:w5.cell? ⟨gb303,0,none⟩=some (.bool a0_0):=(qac BK303.out 0).trans rfl
    have hcz10_1:w5.cell? ⟨gb303,1,none⟩=some (.int .i64 a0_1):=(qac BK303.out 1).trans rfl
    have hcz10_2:w5.cell? ⟨gb303,2,none⟩=some (.slice A0_2 l0_2.length c0_2):=(qac BK303.out 2).trans rfl
    have hfz10_0:=qag BK303.out 0
    have hfz10_1:=qag BK303.out 1
    have hfz10_2:=qag BK303.out 2
    go_wp2_with ((go_at_call 48;(with_reducible refine (qap.calls k _ _ l2 a1 t304 _ ?side1 ?side2 A9.out).mono ?_);(case side1=>repeat (exact (Kd.C_below HR2.out HB.out)));(case side2=>exact HC2.out);rintro e w' ⟨rfl,⟨nd,rfl⟩⟩))
    go_meet
    case rel=>exact ⟨_,(t304),(by rfl),H',⟨by omega⟩,⟨by (with_reducible repeat (refine qcx ?_ _));exact BK303.out⟩,⟨by repeat ((with_reducible first|exact HB.out|apply qay))⟩⟩
 case rest=>
  clear HC4
  obtain ⟨kq,x24_3,rfl,HA,HJ3,BK303,HB⟩:=hcut
  cases kq with
  | zero=>exact absurd HA.out (by simp [qae.j0])
  | succ kj3=>
   have H:=HA.out
   clear HA
   simp only [qae.j0] at H
   by_cases c11:x24_3=true
   ·subst c11
    have H1:(some ([]:List Int))=some r:=by rw [if_pos rfl] at H;exact H
    clear H
    have H:=H1
    clear H1
    obtain rfl:=Option.some.inj H
    go_wp2
    go_ret
    exact ⟨_,by rfl,by exact Kd.R_nil _ _ _ _ _,by repeat ((with_reducible exact HB.out))⟩
   ·replace c11:=Bool.eq_false_iff.mpr c11
    subst c11
    have H1:(qae.l0 kj3 l2 (([a1]:List Int)) 0 a0_0 a0_1 l0_2)=some r:=by rw [if_neg (show ¬ (false=true) by decide)] at H;exact H
    clear H
    have H:=H1
    clear H1
    obtain ⟨y305,hy305⟩:∃ y_:List Int,y_=(([a1]:List Int)):=⟨_,rfl⟩
    replace H:(qae.l0 kj3 l2 y305 0 a0_0 a0_1 l0_2)=some r:=by (rw [hy305];with_reducible exact H)
    have Ny305:=qaa.mk hy305
    clear hy305
    have H':=qaa.mk H
    clear H
    go_wp2_with (((with_reducible refine qbf (N:=26) rfl ?_);(try (refine qcp (by rfl) ?_;dsimp only));refine Kd.R_lit (Kd.int .i64) _ 3 ?hg (N:=26) ?hd (xs:=([a1]:List Int)) (inner:=[.int .i64 a1]) (ok:=fun _=>True) (okp:=fun _=>True) ?hr ?hp (fun _ hk=>hk) trivial (Below.refl _ _) (Nat.le_refl _) (by simp) ?_;(case hd=>rfl);(case hg=>rfl);(case hr=>(go_simp;done));(case hp=>exact (Reps.one (show Kd.M (Kd.int .i64) _ _ _ a1 [.int .i64 a1] from rfl) (Reps.none _ _)));intro v306 w12 ho13 hb hg_ hnew_;clear hg_ hnew_;(rw [← Ny305.out] at ho13);have HO307:=qaa.mk (Kd.R_lower ho13 (qad HB.out));replace BK303:=qaa.mk (qaf (g:=gb303) (o:=.cells #[.bool a0_0,.int .i64 a0_1,.slice A0_2 l0_2.length c0_2] 24 (0,0)) (by (with_reducible repeat (refine qab ?_));exact BK303.out) hb);replace HB:=qaa.mk (qai HB.out hb);clear hb ho13))
    go_loopg [7,8] kj3 (fun kq v7 v8 w'=>∃ (x7_2:List Int) (x8_2:Int),v8=.int .i64 x8_2∧qaa (qae.l0 kq l2 x7_2 x8_2 a0_0 a0_1 l0_2=some r)∧qaa (kq≤kj3)∧qaa (Kd.R (Kd.int .i64) 3 w' w.heap.size (fun _=>True) v7 x7_2)∧qaa (w'.heap[gb303]?=some (.cells #[.bool a0_0,.int .i64 a0_1,(.slice A0_2 l0_2.length c0_2)] 24 (0,0)))∧qaa (Below w.heap.size w w'))
    case atStart=>exact ⟨(y305),(0),(by rfl),H',⟨Nat.le_refl _⟩,⟨by (with_reducible repeat (apply Kd.R_drew));exact HO307.out⟩,⟨by (with_reducible repeat (refine qab ?_));exact BK303.out⟩,⟨by repeat ((with_reducible exact HB.out))⟩⟩
    case round=>
     clear H'
     obtain ⟨x7_2,x8_2,rfl,HA,HK2,HO_7,BK303,HB⟩:=hrel
     cases gk with
     | zero=>exact absurd HA.out (by simp [qae.l0])
     | succ k2=>
      have H:=HA.out
      clear HA
      simp only [qae.l0] at H
      by_cases c14:x8_2<(x7_2.length:Int)
      ·rw [if_pos c14] at H
       have c14b0:decide (x8_2<(x7_2.length:Int))=true:=decide_eq_true c14
       clear c14
       by_cases c15:0≤x8_2
       ·rw [if_pos c15] at H
        have c15b0:decide (0≤x8_2)=true:=decide_eq_true c15
        clear c15
        replace H:=Option.bind_eq_some_iff.mp H
        obtain ⟨t312,A160,H⟩:=H
        replace H:(qae.l1 k2 l2 x7_2 x8_2 t312 (t312.length:Int) 0 a0_0 a0_1 l0_2)=some r:=H
        have A16:=qaa.mk A160
        clear A160
        have H':=qaa.mk H
        clear H
        obtain ⟨Ao17,co17,eo17⟩:=Kd.R_slice HO_7.out
        subst eo17
        try go_wp2
        have n0_:=qaa.mk (Kd.R_drew HO_7.out)
        have n1_:=qaa.mk (qab BK303.out)
        have n2_:=qaa.mk (qcz HB.out)
        clear HO_7
        clear BK303
        clear HB
        have HO_7:=n0_
        have BK303:=n1_
        have HB:=n2_
        clear n0_ n1_ n2_
        have p311:0≤(x8_2:Int):=of_decide_eq_true (by (with_reducible assumption))
        have q311:x8_2<(x7_2.length:Int):=of_decide_eq_true (by (with_reducible assumption))
        obtain ⟨ad311,e311,hx311_0⟩:=Kd.at_int (Kd.R_reads' HO_7.out).2.2 x8_2 p311 q311
        cases e311
        replace p311:=eq_true p311
        replace q311:=eq_true q311
        refine qew (n:=8) (S:=fun w'=>w'.cell? ⟨gb303,0,none⟩=some (.bool a0_0)∧w'.cell? ⟨gb303,1,none⟩=some (.int .i64 a0_1)∧w'.cell? ⟨gb303,2,none⟩=some (.slice A0_2 l0_2.length c0_2)∧w'.cell? (ad311.add (x8_2).toNat)=some (.int .i64 (rd x7_2 x8_2))) (ds:=[]) #[false,false,false,false,false,false,false,false] (by kernel_rfl) rfl rfl ⟨(qac BK303.out 0).trans rfl,(qac BK303.out 1).trans rfl,(qac BK303.out 2).trans rfl,hx311_0⟩ (fun hHeld=>?_);refine qdv qae.tab7 qae.bits7 (fun HT_ HW_=>?_)
        generalize wr.drew=w18 at HO_7 BK303 HB hx311_0 hHeld ⊢
        refine qcr (i:=1) (N:=some 34) (v:=?_) (a':=?_) #[false,true,false,false,false,false,false,false] rfl rfl (qca HT_.out (by kernel_rfl)) (fun _ _ _ h=>h) (Or.inl ⟨by rfl,?_⟩) ?_ ?_
        rotate_left
        ·intro w'
         go_simp
         with_reducible rfl
        rotate_left
        ·simp only [Act.put,List.setIfInBounds_toArray,List.set_cons_zero,List.set_cons_succ,qbd,qbe]
         rfl
        refine qcr (i:=2) (N:=some 35) (v:=?_) (a':=?_) #[false,true,true,false,false,false,false,false] rfl rfl (qca HT_.out (by kernel_rfl)) (fun _ _ _ h=>h) (Or.inl ⟨by rfl,?_⟩) ?_ ?_
        rotate_left
        ·intro w'
         go_simp
         with_reducible rfl
        rotate_left
        ·simp only [Act.put,List.setIfInBounds_toArray,List.set_cons_zero,List.set_cons_succ,qbd,qbe]
         rfl
        refine qcr (i:=3) (N:=some 36) (v:=?_) (a':=?_) #[false,true,true,true,false,false,false,false] rfl rfl (qca HT_.out (by kernel_rfl)) (fun _ _ _ h=>h) (Or.inl ⟨by rfl,?_⟩) ?_ ?_
        rotate_left
        ·intro w'
         go_simp
         with_reducible rfl
        rotate_left
        ·simp only [Act.put,List.setIfInBounds_toArray,List.set_cons_zero,List.set_cons_succ,qbd,qbe]
         rfl
        refine qcr (i:=7) (N:=some 40) (v:=?_) (a':=?_) #[false,true,true,true,false,false,false,true] rfl rfl (qca HT_.out (by kernel_rfl)) (fun _ _ _ h=>h) (Or.inl ⟨by rfl,?_⟩) ?_ ?_
        rotate_left
        ·intro w'
         go_simp
         with_reducible rfl
        rotate_left
        ·simp only [Act.put,List.setIfInBounds_toArray,List.set_cons_zero,List.set_cons_succ,qbd,qbe]
         rfl
        refine take_ (i:=0) (N:=some 33) (v:=?_) (a':=?_) #[true,true,true,true,false,false,false,true] rfl rfl (qce HT_.out HW_.out (by kernel_rfl)) (fun _ _ _ h=>h) (Or.inl ⟨by rfl,?_⟩) hHeld ?_ ?_
        rotate_left
        ·rintro w' ⟨s0,s1,s2,s3⟩
         go_simp
         with_reducible rfl
        rotate_left
        ·simp only [Act.put,List.setIfInBounds_toArray,List.set_cons_zero,List.set_cons_succ,qbd,qbe]
         rfl
        refine take_ (i:=4) (N:=some 37) (v:=?_) (a':=?_) #[true,true,true,true,true,false,false,true] rfl rfl (qce HT_.out HW_.out (by kernel_rfl)) (fun _ _ _ h=>h) (Or.inl ⟨by rfl,?_⟩) hHeld ?_ ?_
        rotate_left
        ·rintro w' ⟨s0,s1,s2,s3⟩
         go_simp
         with_reducible rfl
        rotate_left
        ·simp only [Act.put,List.setIfInBounds_toArray,List.set_cons_zero,List.set_cons_succ,qbd,qbe]
         rfl
        refine one_ (i:=5) (N:=some 38) #[true,true,true,true,true,true,false,true] rfl rfl (qdg HT_.out (by kernel_rfl)) (by decide) (fun K hK=>?_)
        refine qdz Tryd.func47 (by kernel_rfl) rfl #[.agg #[.bool a0_0,.int .i64 a0_1,.slice A0_2 l0_2.length c0_2],.int .i64 (rd x7_2 x8_2)] (by rfl) rfl rfl (by (try simp only [List.map_toArray,List.map_cons,List.map_nil]);rfl) ?_
        with_reducible refine (qah.calls k2 a0_0 a0_1 _ _ l0_2 (rd x7_2 x8_2) t312 _ ?side1 ?side2 A16.out).mono ?_
        (case side1=>repeat (exact (Kd.C_below HR0_2.out HB.out)))
        (case side2=>exact HC0_2.out)
        rintro e w19 ⟨v313,rfl,ho0,hb⟩
        have HS3_:=(hb.cell (World.block_lt_of_cell? _ _ (hHeld.2.2.2))).trans (hHeld.2.2.2)
        refine ⟨_,rfl,?_⟩
        have n0_:=qaa.mk (Kd.R_elder' (by (with_reducible repeat (apply Kd.R_drew));exact HO_7.out) (Kd.R_base ho0) hb)
        have n1_:=qaa.mk (Kd.R_lower (Kd.R_new' ho0 (Kd.R_lt (by (with_reducible repeat (apply Kd.R_drew));exact HO_7.out))) (qad HB.out))
        have n2_:=qaa.mk (qaf (g:=gb303) (o:=.cells #[.bool a0_0,.int .i64 a0_1,.slice A0_2 l0_2.length c0_2] 24 (0,0)) (by (with_reducible repeat (refine qab ?_));exact BK303.out) hb)
        have n3_:=qaa.mk (qai HB.out hb)
        clear HO_7
        clear BK303
        clear HB
        have HO_7:=n0_
        have HO314:=n1_
        have BK303:=n2_
        have HB:=n3_
        clear n0_ n1_ n2_ n3_
        (try clear hb)
        (try clear ho0)
        obtain ⟨Ao20,co20,eo20⟩:=Kd.R_slice HO314.out
        (subst eo20)
        refine hK.out _ _ ⟨(qac BK303.out 0).trans rfl,(qac BK303.out 1).trans rfl,(qac BK303.out 2).trans rfl,HS3_⟩ (fun hHeld=>?_)
        clear hK K
        refine qdk (a':=?_) ?_ ?_
        rotate_left
        ·show Act.put _ (some 38) _=_
         simp only [Act.put,List.setIfInBounds_toArray,List.set_cons_zero,List.set_cons_succ,qbd,qbe]
         rfl
        refine qcr (i:=6) (N:=some 39) (v:=?_) (a':=?_) #[true,true,true,true,true,true,true,true] rfl rfl (qca HT_.out (by kernel_rfl)) (fun _ _ _ h=>h) (Or.inl ⟨by rfl,?_⟩) ?_ ?_
        rotate_left
        ·intro w'
         go_simp
         with_reducible rfl
        rotate_left
        ·simp only [Act.put,List.setIfInBounds_toArray,List.set_cons_zero,List.set_cons_succ,qbd,qbe]
         rfl
        refine qfj (qek HT_.out (by kernel_rfl)) ?_
        try go_wp2
        go_loopg [7,40] k2 (fun kq v7 v40 w'=>∃ (x7_3:List Int) (x40_3:Int),v40=.int .i64 x40_3∧qaa (qae.l1 kq l2 x7_3 x8_2 t312 (t312.length:Int) x40_3 a0_0 a0_1 l0_2=some r)∧qaa (kq≤k2)∧qaa (Kd.R (Kd.int .i64) 3 w' w.heap.size (fun k_=>some k_≠((.slice Ao20 t312.length co20):Value).ownBlock) v7 x7_3)∧qaa (Kd.R (Kd.int .i64) 3 w' w.heap.size (fun k_=>some k_≠(v7:Value).ownBlock) (.slice Ao20 t312.length co20) t312)∧qaa (w'.heap[gb303]?=some (.cells #[.bool a0_0,.int .i64 a0_1,(.slice A0_2 l0_2.length c0_2)] 24 (0,0)))∧qaa (Below w.heap.size w w'))
        case atStart=>exact ⟨(x7_2),(0),(by rfl),H',⟨Nat.le_refl _⟩,⟨by (with_reducible repeat (apply Kd.R_drew));exact Kd.R_mono HO_7.out (fun _ hk=>hk.2)⟩,⟨by (with_reducible repeat (apply Kd.R_drew));exact Kd.R_mono HO314.out (fun _ hk=>hk.2)⟩,⟨by (with_reducible repeat (refine qab ?_));exact BK303.out⟩,⟨by repeat ((with_reducible exact HB.out))⟩⟩
        case round=>
         clear H'
         try clear c14b0
         try clear c15b0
         try clear hx311_0
         try clear p311
         try clear q311
         obtain ⟨x7_3,x40_3,rfl,HA,HK3,HO_7,HO_38,BK303,HB⟩:=hrel
         cases gk with
         | zero=>exact absurd HA.out (by simp [qae.l1])
         | succ k3=>
          have H:=HA.out
          clear HA
          simp only [qae.l1] at H
          by_cases c21:x40_3<(t312.length:Int)
          ·rw [if_pos c21] at H
           have c21b0:decide (x40_3<(t312.length:Int))=true:=decide_eq_true c21
           clear c21
           by_cases c22:0≤x40_3
           ·rw [if_pos c22] at H
            have c22b0:decide (0≤x40_3)=true:=decide_eq_true c22
            clear c22
            by_cases c23:x40_3<(t312.length:Int)
            ·rw [if_pos c23] at H
             have c23b0:decide (x40_3<(t312.length:Int))=true:=decide_eq_true c23
             clear c23
             replace H:=Option.bind_eq_some_iff.mp H
             obtain ⟨t316,A240,H⟩:=H
             replace H:(if t316=true then (qae.l1 k3 l2 x7_3 x8_2 t312 (t312.length:Int) (wrap64 (x40_3+1)) a0_0 a0_1 l0_2) else ((qap.f k3 l2 (rd t312 x40_3)).bind fun t317=>(if t317=true then (qae.l1 k3 l2 x7_3 x8_2 t312 (t312.length:Int) (wrap64 (x40_3+1)) a0_0 a0_1 l0_2) else (if x7_3.length<17592186044416 then (qae.l1 k3 l2 (x7_3++[rd t312 x40_3]) x8_2 t312 (t312.length:Int) (wrap64 (x40_3+1)) a0_0 a0_1 l0_2) else (none)))))=some r:=H
             have A24:=qaa.mk A240
             clear A240
             by_cases c25:t316=true
             ·subst c25
              have H1:(qae.l1 k3 l2 x7_3 x8_2 t312 (t312.length:Int) (wrap64 (x40_3+1)) a0_0 a0_1 l0_2)=some r:=by rw [if_pos rfl] at H;exact H
              clear H
              have H:=H1
              clear H1
              have H':=qaa.mk H
              clear H
              have p315:0≤(x40_3:Int):=of_decide_eq_true (by (with_reducible assumption))
              have q315:x40_3<(t312.length:Int):=of_decide_eq_true (by (with_reducible assumption))
              obtain ⟨ad315,e315,hx315_0⟩:=Kd.at_int (Kd.R_reads' HO_38.out).2.2 x40_3 p315 q315
              cases e315
              replace p315:=eq_true p315
              replace q315:=eq_true q315
              obtain ⟨Ao26,co26,eo26⟩:=Kd.R_slice HO_7.out
              subst eo26
              go_wp2_with (((with_reducible refine qbb (f:=48) rfl ?_);refine qcu (some 46) rfl rfl Tryd.func48 (by kernel_rfl) rfl #[.slice Ao26 x7_3.length co26,.int .i64 (rd t312 x40_3)] rfl (by (try simp only [List.map_toArray,List.map_cons,List.map_nil]);rfl) ?_;(with_reducible refine (qap.calls k3 _ _ x7_3 (rd t312 x40_3) true _ ?side1 ?side2 A24.out).mono ?_);(case side1=>repeat (exact (Kd.R_reads' HO_7.out).2.2));(case side2=>exact (Kd.R_reads' HO_7.out).2.1);rintro e w' ⟨rfl,⟨nd,rfl⟩⟩;refine ⟨_,rfl,?_⟩))
              go_roundg k3
              case measure=>have:=HJ3.out;have:=HK2.out;have:=HK3.out;omega
              case rel=>exact ⟨(x7_3),(wrap64 (x40_3+1)),(by rfl),H',⟨by have:=HJ3.out;have:=HK2.out;have:=HK3.out;omega⟩,⟨by (with_reducible repeat (apply Kd.R_drewN));exact HO_7.out⟩,⟨by (with_reducible repeat (apply Kd.R_drewN));exact HO_38.out⟩,⟨by (with_reducible repeat (refine qcx ?_ _));exact BK303.out⟩,⟨by repeat ((with_reducible first|exact HB.out|apply qay))⟩⟩
             ·replace c25:=Bool.eq_false_iff.mpr c25
              subst c25
              have H1:((qap.f k3 l2 (rd t312 x40_3)).bind fun t317=>(if t317=true then (qae.l1 k3 l2 x7_3 x8_2 t312 (t312.length:Int) (wrap64 (x40_3+1)) a0_0 a0_1 l0_2) else (if x7_3.length<17592186044416 then (qae.l1 k3 l2 (x7_3++[rd t312 x40_3]) x8_2 t312 (t312.length:Int) (wrap64 (x40_3+1)) a0_0 a0_1 l0_2) else (none))))=some r:=by rw [if_neg (show ¬ (false=true) by decide)] at H;exact H
              clear H
              have H:=H1
              clear H1
              replace H:=Option.bind_eq_some_iff.mp H
              obtain ⟨t317,A270,H⟩:=H
              replace H:(if t317=true then (qae.l1 k3 l2 x7_3 x8_2 t312 (t312.length:Int) (wrap64 (x40_3+1)) a0_0 a0_1 l0_2) else (if x7_3.length<17592186044416 then (qae.l1 k3 l2 (x7_3++[rd t312 x40_3]) x8_2 t312 (t312.length:Int) (wrap64 (x40_3+1)) a0_0 a0_1 l0_2) else (none)))=some r:=H
              have A27:=qaa.mk A270
              clear A270
              by_cases c28:t317=true
              ·subst c28
               have H1:(qae.l1 k3 l2 x7_3 x8_2 t312 (t312.length:Int) (wrap64 (x40_3+1)) a0_0 a0_1 l0_2)=some r:=by rw [if_pos rfl] at H;exact H
               clear H
               have H:=H1
               clear H1
               have H':=qaa.mk H
               clear H
               have p315:0≤(x40_3:Int):=of_decide_eq_true (by (with_reducible assumption))
               have q315:x40_3<(t312.length:Int):=of_decide_eq_true (by (with_reducible assumption))
               obtain ⟨ad315,e315,hx315_0⟩:=Kd.at_int (Kd.R_reads' HO_38.out).2.2 x40_3 p315 q315
               cases e315
               replace p315:=eq_true p315
               replace q315:=eq_true q315
               obtain ⟨Ao29,co29,eo29⟩:=Kd.R_slice HO_7.out
               subst eo29
               go_wp2_with (first|((with_reducible refine qbb (f:=48) rfl ?_);refine qcu (some 46) rfl rfl Tryd.func48 (by kernel_rfl) rfl #[.slice Ao29 x7_3.length co29,.int .i64 (rd t312 x40_3)] rfl (by (try simp only [List.map_toArray,List.map_cons,List.map_nil]);rfl) ?_;(with_reducible refine (qap.calls k3 _ _ x7_3 (rd t312 x40_3) false _ ?side1 ?side2 A24.out).mono ?_);(case side1=>repeat (exact (Kd.R_reads' HO_7.out).2.2));(case side2=>exact (Kd.R_reads' HO_7.out).2.1);rintro e w' ⟨rfl,⟨nd,rfl⟩⟩;refine ⟨_,rfl,?_⟩)|(go_at_call 48;(with_reducible refine (qap.calls k3 _ _ l2 (rd t312 x40_3) true _ ?side1 ?side2 A27.out).mono ?_);(case side1=>repeat (exact (Kd.C_below HR2.out (by repeat ((with_reducible first|exact HB.out|apply qay))))));(case side2=>exact HC2.out);rintro e w' ⟨rfl,⟨nd,rfl⟩⟩))
               go_roundg k3
               case measure=>have:=HJ3.out;have:=HK2.out;have:=HK3.out;omega
               case rel=>exact ⟨(x7_3),(wrap64 (x40_3+1)),(by rfl),H',⟨by have:=HJ3.out;have:=HK2.out;have:=HK3.out;omega⟩,⟨by (with_reducible repeat (apply Kd.R_drewN));exact HO_7.out⟩,⟨by (with_reducible repeat (apply Kd.R_drewN));exact HO_38.out⟩,⟨by (with_reducible repeat (refine qcx ?_ _));exact BK303.out⟩,⟨by repeat ((with_reducible first|exact HB.out|apply qay))⟩⟩
              ·replace c28:=Bool.eq_false_iff.mpr c28
               subst c28
               have H1:(if x7_3.length<17592186044416 then (qae.l1 k3 l2 (x7_3++[rd t312 x40_3]) x8_2 t312 (t312.length:Int) (wrap64 (x40_3+1)) a0_0 a0_1 l0_2) else (none))=some r:=by rw [if_neg (show ¬ (false=true) by decide)] at H;exact H
               clear H
               have H:=H1
               clear H1
               by_cases c30:x7_3.length<17592186044416
               ·rw [if_pos c30] at H
                have LMc30:=qaa.mk c30
                clear c30
                obtain ⟨y318,hy318⟩:∃ y_:List Int,y_=(x7_3++[rd t312 x40_3]):=⟨_,rfl⟩
                replace H:(qae.l1 k3 l2 y318 x8_2 t312 (t312.length:Int) (wrap64 (x40_3+1)) a0_0 a0_1 l0_2)=some r:=by (rw [hy318];with_reducible exact H)
                have Ny318:=qaa.mk hy318
                clear hy318
                have H':=qaa.mk H
                clear H
                have p315:0≤(x40_3:Int):=of_decide_eq_true (by (with_reducible assumption))
                have q315:x40_3<(t312.length:Int):=of_decide_eq_true (by (with_reducible assumption))
                obtain ⟨ad315,e315,hx315_0⟩:=Kd.at_int (Kd.R_reads' HO_38.out).2.2 x40_3 p315 q315
                cases e315
                replace p315:=eq_true p315
                replace q315:=eq_true q315
                obtain ⟨Ao31,co31,eo31⟩:=Kd.R_slice HO_7.out
                subst eo31
                go_wp2_with (first|((with_reducible refine qbb (f:=48) rfl ?_);refine qcu (some 46) rfl rfl Tryd.func48 (by kernel_rfl) rfl #[.slice Ao31 x7_3.length co31,.int .i64 (rd t312 x40_3)] rfl (by (try simp only [List.map_toArray,List.map_cons,List.map_nil]);rfl) ?_;(with_reducible refine (qap.calls k3 _ _ x7_3 (rd t312 x40_3) false _ ?side1 ?side2 A24.out).mono ?_);(case side1=>repeat (exact (Kd.R_reads' HO_7.out).2.2));(case side2=>exact (Kd.R_reads' HO_7.out).2.1);rintro e w' ⟨rfl,⟨nd,rfl⟩⟩;refine ⟨_,rfl,?_⟩)|(go_at_call 48;(with_reducible refine (qap.calls k3 _ _ l2 (rd t312 x40_3) false _ ?side1 ?side2 A27.out).mono ?_);(case side1=>repeat (exact (Kd.C_below HR2.out (by repeat ((with_reducible first|exact HB.out|apply qay))))));(case side2=>exact HC2.out);rintro e w' ⟨rfl,⟨nd,rfl⟩⟩)|((with_reducible refine qda (b:=.append) (xs:=#[.tmp 54,.tmp 56]) rfl ?_);(try (refine qcp (by rfl) ?_;dsimp only));at_builtin;refine Kd.R_append (Kd.int .i64) (w0:=w) w.heap.size rfl (.tmp 54) (.tmp 56) 31 3 (.int .i64 0) 8 rfl Tryd.underlying31 qfh rfl (by decide) (by omega) (.slice Ao31 x7_3.length co31) x7_3 (rd t312 x40_3) [.int .i64 (rd t312 x40_3)] (fun k_=>some k_≠(.slice (some ad315) t312.length co20:Value).ownBlock) (fun _=>False) rfl rfl ?aP (fun _ hk=>hk.elim) ?aF ?aO ?aB ?aS ?aL ?_;(case aP=>exact rfl);(case aB=>exact (by repeat ((with_reducible first|exact HB.out|apply qay))));(case aF=>exact (fun k_ hk=>Kd.fresh' (Kd.R_lt (by (with_reducible repeat (apply Kd.R_drewN));exact HO_38.out)) k_ hk));(case aO=>exact (by (with_reducible repeat (apply Kd.R_drewN));exact HO_7.out));(case aS=>exact (qad (by repeat ((with_reducible first|exact HB.out|apply qay)))));(case aL=>have:=LMc30.out;omega);intro v319 w32 ho hb hg hat;rw [← Ny318.out] at ho;have n0_:=qaa.mk (Kd.R_after (ok:=(fun _=>True)) (by (with_reducible repeat (apply Kd.R_drewN));exact Kd.R_mono HO_38.out (fun _ hk=>⟨trivial,hk⟩)) hg hat);have n1_:=qaa.mk (qdj (g:=gb303) (o:=.cells #[.bool a0_0,.int .i64 a0_1,.slice A0_2 l0_2.length c0_2] 24 (0,0)) (by (with_reducible repeat (refine qcx ?_ _));exact BK303.out) hg (Kd.R_ne HO_7.out BK303.out (by decide)));have n2_:=qaa.mk (hb);have n3_:=qaa.mk (ho);clear HO_38;clear BK303;clear HB;clear HO_7;have HO_38:=n0_;have BK303:=n1_;have HB:=n2_;have HO320:=n3_;clear n0_ n1_ n2_ n3_;clear ho hb hg hat))
                go_roundg k3
                case measure=>have:=HJ3.out;have:=HK2.out;have:=HK3.out;omega
                case rel=>exact ⟨(y318),(wrap64 (x40_3+1)),(by rfl),H',⟨by have:=HJ3.out;have:=HK2.out;have:=HK3.out;omega⟩,⟨by (with_reducible repeat (apply Kd.R_drew));exact HO320.out⟩,⟨by (with_reducible repeat (apply Kd.R_drew));exact Kd.R_mono HO_38.out (fun _ hk=>hk.2)⟩,⟨by (with_reducible repeat (refine qab ?_));exact BK303.out⟩,⟨by repeat ((with_reducible exact HB.out))⟩⟩
               ·rw [if_neg c30] at H
                exact absurd H (by simp)
            ·rw [if_neg c23] at H
             exact absurd H (by simp)
           ·rw [if_neg c22] at H
            exact absurd H (by simp)
          ·rw [if_neg c21] at H
           have c21b0:decide (x40_3<(t312.length:Int))=false:=decide_eq_false c21
           clear c21
           have H':=qaa.mk H
           clear H
           go_wp2
           go_roundg k3
           case measure=>have:=HJ3.out;have:=HK2.out;have:=HK3.out;omega
           case rel=>exact ⟨(x7_3),(wrap64 (x8_2+1)),(by rfl),H',⟨by have:=HJ3.out;have:=HK2.out;have:=HK3.out;omega⟩,⟨by (with_reducible repeat (apply Kd.R_drew));exact Kd.R_mono HO_7.out (fun _ hk=>trivial)⟩,⟨by (with_reducible repeat (refine qab ?_));exact BK303.out⟩,⟨by repeat ((with_reducible exact HB.out))⟩⟩
       ·rw [if_neg c15] at H
        exact absurd H (by simp)
      ·rw [if_neg c14] at H
       have c14b0:decide (x8_2<(x7_2.length:Int))=false:=decide_eq_false c14
       clear c14
       replace H:=Option.bind_eq_some_iff.mp H
       obtain ⟨t308,A330,H⟩:=H
       replace H:(some t308)=some r:=H
       have A33:=qaa.mk A330
       clear A330
       obtain rfl:=Option.some.inj H
       obtain ⟨Ao34,co34,eo34⟩:=Kd.R_slice HO_7.out
       subst eo34
       go_wp2_with (((with_reducible refine qbb (f:=46) rfl ?_);refine qcu (some 60) rfl rfl Tryd.func46 (by kernel_rfl) rfl #[.slice Ao34 x7_2.length co34] rfl (by (try simp only [List.map_toArray,List.map_cons,List.map_nil]);rfl) ?_;(with_reducible refine (qbi.calls k2 _ _ x7_2 t308 _ ?side1 ?side2 A33.out).mono ?_);(case side1=>repeat (exact (Kd.R_reads' HO_7.out).2.2));(case side2=>exact (Kd.R_reads' HO_7.out).2.1);rintro e w35 ⟨v309,rfl,ho0,hb⟩;refine ⟨_,rfl,?_⟩;have HO310:=qaa.mk (Kd.R_lower (Kd.R_new' ho0 (Kd.R_lt (by (with_reducible repeat (apply Kd.R_drew));exact HO_7.out))) (qad HB.out));replace HO_7:=qaa.mk (Kd.R_elder' (by (with_reducible repeat (apply Kd.R_drew));exact HO_7.out) (Kd.R_base ho0) hb);replace BK303:=qaa.mk (qaf (g:=gb303) (o:=.cells #[.bool a0_0,.int .i64 a0_1,.slice A0_2 l0_2.length c0_2] 24 (0,0)) (by (with_reducible repeat (refine qab ?_));exact BK303.out) hb);replace HB:=qaa.mk (qai HB.out hb);(try clear hb);(try clear ho0)))
       go_ret
       exact ⟨_,by rfl,by (with_reducible repeat (apply Kd.R_drew));exact Kd.R_mono HO310.out (fun _ hk=>trivial),by repeat ((with_reducible exact HB.out))⟩
end Go.Proofs.YtmfjmbcfaamebaaDoor.X
namespace Go.Proofs.YtmfjmbcfaamebaaDoor.X
open Go.RowKit Go.Proofs.YtmfjmbcfaamebaaDoorW.PrintWords Go.Proofs.YtmfjmbcfaamebaaDoorW.PrintLast Go.Proofs.YtmfjmbcfaamebaaDoorW.PrintMore
attribute [local go_sem] qbv qcg
set_option linter.unusedVariables false
set_option linter.unusedSimpArgs false
def qck.f (k:Nat) (a0_0:Bool) (a0_1:Int) (l0_2:List (S60)) (a1:Int) (a2:Int):Option (Bool):=(qae.f k a0_0 a0_1 l0_2 0 ([]:List Int)).bind fun t322=>((qap.f k t322 a2).bind fun t325=>(if t325=true then ((qae.f k a0_0 a0_1 l0_2 0 (([a1]:List Int))).bind fun t329=>((qap.f k t329 a2).bind fun t332=>(some (!t332)))) else (some false)))
theorem qck.mono:∀ a0 a1 a2 a3 a4 k,LeO (qck.f k a0 a1 a2 a3 a4) (qck.f (k+1) a0 a1 a2 a3 a4):=by
 intro a0 a1 a2 a3 a4 k
 unfold qck.f
 repeat' first|(with_reducible exact qap.mono _ _ _)|(with_reducible exact qae.mono _ _ _ _ _ _)|(with_reducible exact LeO.refl _)|(with_reducible refine LeO.ite ?_ ?_)|(with_reducible refine LeO.bind ?_ (fun _=>?_))
set_option maxHeartbeats 8000000 in
set_option maxRecDepth 100000 in
theorem qck.calls (k:Nat) (a0_0:Bool) (a0_1:Int) (A0_2:Option Addr) (c0_2:Nat) (l0_2:List (S60)) (a1:Int) (a2:Int) (r:Bool) (w:World) (hr0_2:Kd.C k60 w A0_2 l0_2.length l0_2) (hc0_2:l0_2.length≤c0_2) (h:qck.f k a0_0 a0_1 l0_2 a1 a2=some r) :
  Calls Tryd.prog 55 #[.agg #[.bool a0_0,.int .i64 a0_1,.slice A0_2 l0_2.length c0_2],.int .i64 a1,.int .i64 a2] w fun e w'=>e=.returned (.bool r)∧Below w.heap.size w w':=by
 have hu24:=Tryd.underlying24
 have HR0_2:=qaa.mk hr0_2
 have HC0_2:=qaa.mk hc0_2
 clear hr0_2 hc0_2
 have HB:=qaa.mk (Below.refl w.heap.size w)
 have H:((qae.f k a0_0 a0_1 l0_2 0 ([]:List Int)).bind fun t322=>((qap.f k t322 a2).bind fun t325=>(if t325=true then ((qae.f k a0_0 a0_1 l0_2 0 (([a1]:List Int))).bind fun t329=>((qap.f k t329 a2).bind fun t332=>(some (!t332)))) else (some false))))=some r:=h
 clear h
 replace H:=Option.bind_eq_some_iff.mp H
 obtain ⟨t322,A40,H⟩:=H
 replace H:((qap.f k t322 a2).bind fun t325=>(if t325=true then ((qae.f k a0_0 a0_1 l0_2 0 (([a1]:List Int))).bind fun t329=>((qap.f k t329 a2).bind fun t332=>(some (!t332)))) else (some false)))=some r:=H
 have A4:=qaa.mk A40
 clear A40
 replace H:=Option.bind_eq_some_iff.mp H
 obtain ⟨t325,A50,H⟩:=H
 replace H:(if t325=true then ((qae.f k a0_0 a0_1 l0_2 0 (([a1]:List Int))).bind fun t329=>((qap.f k t329 a2).bind fun t332=>(some (!t332)))) else (some false))=some r:=H
 have A5:=qaa.mk A50
 clear A50
 by_cases c6:t325=true
 ·subst c6
  have H1:((qae.f k a0_0 a0_1 l0_2 0 (([a1]:List Int))).bind fun t329=>((qap.f k t329 a2).bind fun t332=>(some (!t332))))=some r:=by rw [if_pos rfl] at H;exact H
  clear H
  have H:=H1
  clear H1
  obtain ⟨y326,hy326⟩:∃ y_:List Int,y_=(([a1]:List Int)):=⟨_,rfl⟩
  replace H:((qae.f k a0_0 a0_1 l0_2 0 y326).bind fun t329=>((qap.f k t329 a2).bind fun t332=>(some (!t332))))=some r:=by (rw [hy326];with_reducible exact H)
  have Ny326:=qaa.mk hy326
  clear hy326
  replace H:=Option.bind_eq_some_iff.mp H
  obtain ⟨t329,A70,H⟩:=H
  replace H:((qap.f k t329 a2).bind fun t332=>(some (!t332)))=some r:=H
  have A7:=qaa.mk A70
  clear A70
  replace H:=Option.bind_eq_some_iff.mp H
  obtain ⟨t332,A80,H⟩:=H
  replace H:(some (!t332))=some r:=H
  have A8:=qaa.mk A80
  clear A80
  obtain rfl:=Option.some.inj H
  go_enter Tryd.func55,Tryd.ntmps55
  go_wp2_with (first|((with_reducible refine qbf (N:=3) rfl ?_);(try (refine qcp (by rfl) ?_;dsimp only));refine qbk ?hg (N:=3) ?hd (cs:=#[.bool a0_0,.int .i64 a0_1,.slice A0_2 l0_2.length c0_2]) (t:=24) ?hr ?_;(case hd=>rfl);(case hg=>rfl);(case hr=>(go_simp;done));intro gb321 hg w9 hbox hb;have BK321:=qaa.mk (hbox);have GW321:=qaa.mk ((by rw [hg];exact (qad HB.out):w.heap.size≤gb321));have GE321:=qaa.mk ((by rw [hg];exact (qad HB.out):w.heap.size≤gb321));replace HB:=qaa.mk (qai HB.out hb);clear hb hbox hg;have hcz10_0:w9.cell? ⟨gb321,0,none⟩=some (.bool a0_0):=(qac BK321.out 0).trans rfl;have hcz10_1:w9.cell? ⟨gb321,1,none⟩=some (.int .i64 a0_1):=(qac BK321.out 1).trans rfl;have hcz10_2:w9.cell? ⟨gb321,2,none⟩=some (.slice A0_2 l0_2.length c0_2):=(qac BK321.out 2).trans rfl;have hfz10_0:=qag BK321.out 0;have hfz10_1:=qag BK321.out 1;have hfz10_2:=qag BK321.out 2)|((with_reducible refine qbb (f:=59) rfl ?_);refine qcu (some 8) rfl rfl Tryd.func59 (by kernel_rfl) rfl #[.agg #[.bool a0_0,.int .i64 a0_1,.slice A0_2 l0_2.length c0_2],.int .i64 0,.slice none 0 0] rfl (by (try simp only [List.map_toArray,List.map_cons,List.map_nil]);rfl) ?_;(refine (qae.calls k a0_0 a0_1 _ _ l0_2 0 _ _ ([]:List Int) t322 _ ?side1 ?side2 ?side3 ?side4 A4.out).mono ?_);(case side1=>repeat (exact (Kd.C_below HR0_2.out HB.out)));(case side2=>exact HC0_2.out);(case side3=>exact Kd.C_nil _ _);(case side4=>exact Nat.le_refl _);rintro e w11 ⟨v323,rfl,ho0,hb⟩;refine ⟨_,rfl,?_⟩;have HO324:=qaa.mk (Kd.R_lower ho0 (qad HB.out));replace BK321:=qaa.mk (qaf (g:=gb321) (o:=.cells #[.bool a0_0,.int .i64 a0_1,.slice A0_2 l0_2.length c0_2] 24 (0,0)) (by (with_reducible repeat (refine qab ?_));exact BK321.out) hb);replace HB:=qaa.mk (qai HB.out hb);(try clear hb);(try clear ho0);obtain ⟨Ao12,co12,eo12⟩:=Kd.R_slice HO324.out;subst eo12)|((with_reducible refine qbb (f:=48) rfl ?_);refine qcu (some 10) rfl rfl Tryd.func48 (by kernel_rfl) rfl #[.slice Ao12 t322.length co12,.int .i64 a2] rfl (by (try simp only [List.map_toArray,List.map_cons,List.map_nil]);rfl) ?_;(with_reducible refine (qap.calls k _ _ t322 a2 true _ ?side1 ?side2 A5.out).mono ?_);(case side1=>repeat (exact (Kd.R_reads' HO324.out).2.2));(case side2=>exact (Kd.R_reads' HO324.out).2.1);rintro e w' ⟨rfl,⟨nd,rfl⟩⟩;refine ⟨_,rfl,?_⟩;have hcz13_0:w11.cell? ⟨gb321,0,none⟩=some (.bool a0_0):=(qac BK321.out 0).trans rfl;have hcz13_1:w11.cell? ⟨gb321,1,none⟩=some (.int .i64 a0_1):=(qac BK321.out 1).trans rfl;have hcz13_2:w11.cell? ⟨gb321,2,none⟩=some (.slice A0_2 l0_2.length c0_2):=(qac BK321.out 2).trans rfl;have hfz13_0:=qag BK321.out 0;have hfz13_1:=qag BK321.out 1;have hfz13_2:=qag BK321.out 2)|((with_reducible refine qbf (N:=14) rfl ?_);(try (refine qcp (by rfl) ?_;dsimp only));refine Kd.R_lit (Kd.int .i64) _ 3 ?hg (N:=14) ?hd (xs:=([a1]:List Int)) (inner:=[.int .i64 a1]) (ok:=fun _=>True) (okp:=fun _=>True) ?hr ?hp (fun _ hk=>hk) trivial (Below.refl _ _) (Nat.le_refl _) (by simp) ?_;(case hd=>rfl);(case hg=>rfl);(case hr=>(go_simp;done));(case hp=>exact (Reps.one (show Kd.M (Kd.int .i64) _ _ _ a1 [.int .i64 a1] from rfl) (Reps.none _ _)));intro v327 w14 ho15 hb hg_ hnew_;clear hg_ hnew_;(rw [← Ny326.out] at ho15);have HO328:=qaa.mk (Kd.R_lower (Kd.R_new' ho15 (Kd.R_lt (by (with_reducible repeat (apply Kd.R_drewN));exact HO324.out))) (qad (by repeat ((with_reducible first|exact HB.out|apply qay)))));replace HO324:=qaa.mk (Kd.R_elder' (by (with_reducible repeat (apply Kd.R_drewN));exact HO324.out) (Kd.R_base ho15) hb);replace BK321:=qaa.mk (qaf (g:=gb321) (o:=.cells #[.bool a0_0,.int .i64 a0_1,.slice A0_2 l0_2.length c0_2] 24 (0,0)) (by (with_reducible repeat (refine qcx ?_ _));exact BK321.out) hb);replace HB:=qaa.mk (qai (by repeat ((with_reducible first|exact HB.out|apply qay))) hb);clear hb ho15;obtain ⟨Ao16,co16,eo16⟩:=Kd.R_slice HO328.out;subst eo16)|(go_at_call 59;(with_reducible refine (qae.calls k a0_0 a0_1 _ _ l0_2 0 _ _ y326 t329 _ ?side1 ?side2 ?side3 ?side4 A7.out).mono ?_);(case side1=>repeat (exact (Kd.C_below HR0_2.out HB.out)));(case side2=>exact HC0_2.out);(case side3=>repeat (exact (Kd.R_reads' HO328.out).2.2));(case side4=>exact (Kd.R_reads' HO328.out).2.1);rintro e w17 ⟨v330,rfl,ho0,hb⟩;have HO331:=qaa.mk (Kd.R_lower (Kd.R_new' (Kd.R_new' ho0 (Kd.R_lt (by (with_reducible repeat (apply Kd.R_drew));exact HO324.out))) (Kd.R_lt (by (with_reducible repeat (apply Kd.R_drew));exact HO328.out))) (qad HB.out));replace HO324:=qaa.mk (Kd.R_elder' (by (with_reducible repeat (apply Kd.R_drew));exact HO324.out) (Kd.R_base ho0) hb);replace HO328:=qaa.mk (Kd.R_elder' (by (with_reducible repeat (apply Kd.R_drew));exact HO328.out) (Kd.R_base ho0) hb);replace BK321:=qaa.mk (qaf (g:=gb321) (o:=.cells #[.bool a0_0,.int .i64 a0_1,.slice A0_2 l0_2.length c0_2] 24 (0,0)) (by (with_reducible repeat (refine qab ?_));exact BK321.out) hb);replace HB:=qaa.mk (qai HB.out hb);(try clear hb);(try clear ho0);obtain ⟨Ao18,co18,eo18⟩:=Kd.R_slice HO331.out;subst eo18)|(go_at_call 48;(with_reducible refine (qap.calls k _ _ t329 a2 t332 _ ?side1 ?side2 A8.out).mono ?_);(case side1=>repeat (exact (Kd.R_reads' HO331.out).2.2));(case side2=>exact (Kd.R_reads' HO331.out).2.1);rintro e w' ⟨rfl,⟨nd,rfl⟩⟩))
  go_ret
  exact ⟨by rfl,by repeat ((with_reducible first|exact HB.out|apply qay))⟩
 ·replace c6:=Bool.eq_false_iff.mpr c6
  subst c6
  have H1:(some false)=some r:=by rw [if_neg (show ¬ (false=true) by decide)] at H;exact H
  clear H
  have H:=H1
  clear H1
  obtain rfl:=Option.some.inj H
  go_enter Tryd.func55,Tryd.ntmps55
  go_wp2_with (first|((with_reducible refine qbf (N:=3) rfl ?_);(try (refine qcp (by rfl) ?_;dsimp only));refine qbk ?hg (N:=3) ?hd (cs:=#[.bool a0_0,.int .i64 a0_1,.slice A0_2 l0_2.length c0_2]) (t:=24) ?hr ?_;(case hd=>rfl);(case hg=>rfl);(case hr=>(go_simp;done));intro gb321 hg w19 hbox hb;have BK321:=qaa.mk (hbox);have GW321:=qaa.mk ((by rw [hg];exact (qad HB.out):w.heap.size≤gb321));have GE321:=qaa.mk ((by rw [hg];exact (qad HB.out):w.heap.size≤gb321));replace HB:=qaa.mk (qai HB.out hb);clear hb hbox hg;have hcz20_0:w19.cell? ⟨gb321,0,none⟩=some (.bool a0_0):=(qac BK321.out 0).trans rfl;have hcz20_1:w19.cell? ⟨gb321,1,none⟩=some (.int .i64 a0_1):=(qac BK321.out 1).trans rfl;have hcz20_2:w19.cell? ⟨gb321,2,none⟩=some (.slice A0_2 l0_2.length c0_2):=(qac BK321.out 2).trans rfl;have hfz20_0:=qag BK321.out 0;have hfz20_1:=qag BK321.out 1;have hfz20_2:=qag BK321.out 2)|((with_reducible refine qbb (f:=59) rfl ?_);refine qcu (some 8) rfl rfl Tryd.func59 (by kernel_rfl) rfl #[.agg #[.bool a0_0,.int .i64 a0_1,.slice A0_2 l0_2.length c0_2],.int .i64 0,.slice none 0 0] rfl (by (try simp only [List.map_toArray,List.map_cons,List.map_nil]);rfl) ?_;(refine (qae.calls k a0_0 a0_1 _ _ l0_2 0 _ _ ([]:List Int) t322 _ ?side1 ?side2 ?side3 ?side4 A4.out).mono ?_);(case side1=>repeat (exact (Kd.C_below HR0_2.out HB.out)));(case side2=>exact HC0_2.out);(case side3=>exact Kd.C_nil _ _);(case side4=>exact Nat.le_refl _);rintro e w21 ⟨v323,rfl,ho0,hb⟩;refine ⟨_,rfl,?_⟩;have HO324:=qaa.mk (Kd.R_lower ho0 (qad HB.out));replace BK321:=qaa.mk (qaf (g:=gb321) (o:=.cells #[.bool a0_0,.int .i64 a0_1,.slice A0_2 l0_2.length c0_2] 24 (0,0)) (by (with_reducible repeat (refine qab ?_));exact BK321.out) hb);replace HB:=qaa.mk (qai HB.out hb);(try clear hb);(try clear ho0);obtain ⟨Ao22,co22,eo22⟩:=Kd.R_slice HO324.out;subst eo22)|((with_reducible refine qbb (f:=48) rfl ?_);refine qcu (some 10) rfl rfl Tryd.func48 (by kernel_rfl) rfl #[.slice Ao22 t322.length co22,.int .i64 a2] rfl (by (try simp only [List.map_toArray,List.map_cons,List.map_nil]);rfl) ?_;(with_reducible refine (qap.calls k _ _ t322 a2 false _ ?side1 ?side2 A5.out).mono ?_);(case side1=>repeat (exact (Kd.R_reads' HO324.out).2.2));(case side2=>exact (Kd.R_reads' HO324.out).2.1);rintro e w' ⟨rfl,⟨nd,rfl⟩⟩;refine ⟨_,rfl,?_⟩))
  go_ret
  exact ⟨by rfl,by repeat ((with_reducible first|exact HB.out|apply qay))⟩
end Go.Proofs.YtmfjmbcfaamebaaDoor.X
namespace Go.Proofs.YtmfjmbcfaamebaaDoor.X
open Go.RowKit Go.Proofs.YtmfjmbcfaamebaaDoorW.PrintWords Go.Proofs.YtmfjmbcfaamebaaDoorW.PrintLast Go.Proofs.YtmfjmbcfaamebaaDoorW.PrintMore
attribute [local go_sem] qbv qcg
set_option linter.unusedVariables false
set_option linter.unusedSimpArgs false
mutual
def qan.l0:Nat→List (List Int)→Int→Int→Bool→Int→List (S60)→Option ((List (List Int)))
 | 0,_,_,_,_,_,_=>none
 | k+1,x3,x9,x10,x334000,x334001,x334002=>if x10<x9 then (qan.l1 k x3 x10 ([]:List Int) x9 x10 (x334002.length:Int) 0 x334000 x334001 x334002) else (some x3)
def qan.l1:Nat→List (List Int)→Int→List Int→Int→Int→Int→Int→Bool→Int→List (S60)→Option ((List (List Int)))
 | 0,_,_,_,_,_,_,_,_,_,_=>none
 | k+1,x3,x4,x5,x9,x10,x15,x16,x334000,x334001,x334002=>if x16<x15 then ((qck.f k x334000 x334001 x334002 x16 x4).bind fun t334=>(if t334=true then (if x5.length<17592186044416 then (qan.l1 k x3 x4 (x5++[x16]) x9 x10 x15 (wrap64 (x16+1)) x334000 x334001 x334002) else (none)) else (qan.l1 k x3 x4 x5 x9 x10 x15 (wrap64 (x16+1)) x334000 x334001 x334002))) else (if x3.length<5864062014805 then (qan.l0 k (x3++[x5]) x9 (wrap64 (x10+1)) x334000 x334001 x334002) else (none))
end
def qan.f (k:Nat) (a0_0:Bool) (a0_1:Int) (l0_2:List (S60)):Option ((List (List Int))):=qan.l0 k ([]:List (List Int)) (l0_2.length:Int) 0 a0_0 a0_1 l0_2
theorem qan.mono_l:∀ k,(∀ y0 y1 y2 y3 y4 y5,LeO (qan.l0 k y0 y1 y2 y3 y4 y5) (qan.l0 (k+1) y0 y1 y2 y3 y4 y5))∧(∀ y0 y1 y2 y3 y4 y5 y6 y7 y8 y9,LeO (qan.l1 k y0 y1 y2 y3 y4 y5 y6 y7 y8 y9) (qan.l1 (k+1) y0 y1 y2 y3 y4 y5 y6 y7 y8 y9))
 | 0=>⟨fun _ _ _ _ _ _ r h=>by simp [qan.l0] at h,fun _ _ _ _ _ _ _ _ _ _ r h=>by simp [qan.l1] at h⟩
 | k+1=>by
  obtain ⟨ih0,ih1⟩:=qan.mono_l k
  refine ⟨?_,?_⟩
  ·intro y0 y1 y2 y3 y4 y5
   unfold qan.l0
   repeat' first|(with_reducible exact ih1 _ _ _ _ _ _ _ _ _ _)|(with_reducible exact LeO.refl _)|(with_reducible refine LeO.ite ?_ ?_)
  ·intro y0 y1 y2 y3 y4 y5 y6 y7 y8 y9
   unfold qan.l1
   repeat' first|(with_reducible exact ih0 _ _ _ _ _ _)|(with_reducible exact ih1 _ _ _ _ _ _ _ _ _ _)|(with_reducible exact qck.mono _ _ _ _ _ _)|(with_reducible exact LeO.refl _)|(with_reducible refine LeO.ite ?_ ?_)|(with_reducible refine LeO.bind ?_ (fun _=>?_))
theorem qan.mono:∀ a0 a1 a2 k,LeO (qan.f k a0 a1 a2) (qan.f (k+1) a0 a1 a2):=by
 intro a0 a1 a2 k
 obtain ⟨ih0,ih1⟩:=qan.mono_l k
 unfold qan.f
 repeat' (with_reducible exact ih0 _ _ _ _ _ _)
set_option maxHeartbeats 8000000 in
set_option maxRecDepth 100000 in
theorem qan.calls (k:Nat) (a0_0:Bool) (a0_1:Int) (A0_2:Option Addr) (c0_2:Nat) (l0_2:List (S60)) (r:List (List Int)) (w:World) (hr0_2:Kd.C k60 w A0_2 l0_2.length l0_2) (hc0_2:l0_2.length≤c0_2) (h:qan.f k a0_0 a0_1 l0_2=some r) :
  Calls Tryd.prog 22 #[.agg #[.bool a0_0,.int .i64 a0_1,.slice A0_2 l0_2.length c0_2]] w fun e w'=>∃ v0_:Value,e=.returned (v0_)∧Kd.S (Kd.slice 3 (Kd.int .i64)) 31 w' w.heap.size (fun _=>True) v0_ r∧Below w.heap.size w w':=by
 have hu24:=Tryd.underlying24
 have HR0_2:=qaa.mk hr0_2
 have HC0_2:=qaa.mk hc0_2
 clear hr0_2 hc0_2
 have HB:=qaa.mk (Below.refl w.heap.size w)
 have H:(qan.l0 k ([]:List (List Int)) (l0_2.length:Int) 0 a0_0 a0_1 l0_2)=some r:=h
 clear h
 have H':=qaa.mk H
 clear H
 go_enter Tryd.func22,Tryd.ntmps22
 go_wp2_with (((with_reducible refine qbf (N:=1) rfl ?_);refine qbk ?hg (N:=1) ?hd (cs:=#[.bool a0_0,.int .i64 a0_1,.slice A0_2 l0_2.length c0_2]) (t:=24) ?hr ?_;(case hd=>rfl);(case hg=>rfl);(case hr=>(go_simp;done));intro gb333 hg w2 hbox hb;have BK333:=qaa.mk (hbox);have GW333:=qaa.mk ((by rw [hg];exact (qad HB.out):w.heap.size≤gb333));have GE333:=qaa.mk ((by rw [hg];exact (qad HB.out):w.heap.size≤gb333));replace HB:=qaa.mk (qai HB.out hb);clear hb hbox hg;have hcz3_0:w2.cell? ⟨gb333,0,none⟩=some (.bool a0_0):=(qac BK333.out 0).trans rfl;have hcz3_1:w2.cell? ⟨gb333,1,none⟩=some (.int .i64 a0_1):=(qac BK333.out 1).trans rfl;have hcz3_2:w2.cell? ⟨gb333,2,none⟩=some (.slice A0_2 l0_2.length c0_2):=(qac BK333.out 2).trans rfl;have hfz3_0:=qag BK333.out 0;have hfz3_1:=qag BK333.out 1;have hfz3_2:=qag BK333.out 2))
 go_loopg [3,10] k (fun kq v3 v10 w'=>∃ (x3_1:List (List Int)) (x10_1:Int),v10=.int .i64 x10_1∧qaa (qan.l0 kq x3_1 (l0_2.length:Int) x10_1 a0_0 a0_1 l0_2=some r)∧qaa (kq≤k)∧qaa (Kd.S (Kd.slice 3 (Kd.int .i64)) 31 w' w.heap.size (fun _=>True) v3 x3_1)∧qaa (w'.heap[gb333]?=some (.cells #[.bool a0_0,.int .i64 a0_1,(.slice A0_2 l0_2.length c0_2)] 24 (0,0)))∧qaa (Below w.heap.size w w'))
 case atStart=>exact ⟨(([]:List (List Int))),(0),(by rfl),H',⟨Nat.le_refl _⟩,⟨by exact Kd.S_nil _ _ _ _ _⟩,⟨by (with_reducible repeat (refine qab ?_));exact BK333.out⟩,⟨by repeat ((with_reducible exact HB.out))⟩⟩
 case round=>
  clear H'
  try clear hcz3_0
  try clear hcz3_1
  try clear hcz3_2
  try clear hfz3_0
  try clear hfz3_1
  try clear hfz3_2
  obtain ⟨x3_1,x10_1,rfl,HA,HK1,HO_3,BK333,HB⟩:=hrel
  cases gk with
  | zero=>exact absurd HA.out (by simp [qan.l0])
  | succ k1=>
   have H:=HA.out
   clear HA
   simp only [qan.l0] at H
   by_cases c4:x10_1<(l0_2.length:Int)
   ·rw [if_pos c4] at H
    have c4b0:decide (x10_1<(l0_2.length:Int))=true:=decide_eq_true c4
    clear c4
    have H':=qaa.mk H
    clear H
    have hcz5_0:wr.cell? ⟨gb333,0,none⟩=some (.bool a0_0):=(qac BK333.out 0).trans rfl
    have hcz5_1:wr.cell? ⟨gb333,1,none⟩=some (.int .i64 a0_1):=(qac BK333.out 1).trans rfl
    have hcz5_2:wr.cell? ⟨gb333,2,none⟩=some (.slice A0_2 l0_2.length c0_2):=(qac BK333.out 2).trans rfl
    have hfz5_0:=qag BK333.out 0
    have hfz5_1:=qag BK333.out 1
    have hfz5_2:=qag BK333.out 2
    go_wp2
    go_loopg [5,16] k1 (fun kq v5 v16 w'=>∃ (x5_2:List Int) (x16_2:Int),v16=.int .i64 x16_2∧qaa (qan.l1 kq x3_1 x10_1 x5_2 (l0_2.length:Int) x10_1 (l0_2.length:Int) x16_2 a0_0 a0_1 l0_2=some r)∧qaa (kq≤k1)∧qaa (Kd.S (Kd.slice 3 (Kd.int .i64)) 31 w' w.heap.size (fun k_=>some k_≠(v5:Value).ownBlock) u3 x3_1)∧qaa (Kd.R (Kd.int .i64) 3 w' w.heap.size (fun _=>True) v5 x5_2)∧qaa (w'.heap[gb333]?=some (.cells #[.bool a0_0,.int .i64 a0_1,(.slice A0_2 l0_2.length c0_2)] 24 (0,0)))∧qaa (Below w.heap.size w w'))
    case atStart=>exact ⟨(([]:List Int)),(0),(by rfl),H',⟨Nat.le_refl _⟩,⟨by (with_reducible repeat (apply Kd.S_drew));exact Kd.S_mono HO_3.out (fun _ hk=>(by simp [Value.ownBlock]))⟩,⟨by exact Kd.R_nil _ _ _ _ _⟩,⟨by (with_reducible repeat (refine qab ?_));exact BK333.out⟩,⟨by repeat ((with_reducible exact HB.out))⟩⟩
    case round=>
     clear H'
     try clear c4b0
     try clear hcz5_0
     try clear hcz5_1
     try clear hcz5_2
     try clear hfz5_0
     try clear hfz5_1
     try clear hfz5_2
     obtain ⟨x5_2,x16_2,rfl,HA,HK2,HO_3,HO_5,BK333,HB⟩:=hrel
     cases gk with
     | zero=>exact absurd HA.out (by simp [qan.l1])
     | succ k2=>
      have H:=HA.out
      clear HA
      simp only [qan.l1] at H
      by_cases c6:x16_2<(l0_2.length:Int)
      ·rw [if_pos c6] at H
       have c6b0:decide (x16_2<(l0_2.length:Int))=true:=decide_eq_true c6
       clear c6
       replace H:=Option.bind_eq_some_iff.mp H
       obtain ⟨t334,A70,H⟩:=H
       replace H:(if t334=true then (if x5_2.length<17592186044416 then (qan.l1 k2 x3_1 x10_1 (x5_2++[x16_2]) (l0_2.length:Int) x10_1 (l0_2.length:Int) (wrap64 (x16_2+1)) a0_0 a0_1 l0_2) else (none)) else (qan.l1 k2 x3_1 x10_1 x5_2 (l0_2.length:Int) x10_1 (l0_2.length:Int) (wrap64 (x16_2+1)) a0_0 a0_1 l0_2))=some r:=H
       have A7:=qaa.mk A70
       clear A70
       by_cases c8:t334=true
       ·subst c8
        have H1:(if x5_2.length<17592186044416 then (qan.l1 k2 x3_1 x10_1 (x5_2++[x16_2]) (l0_2.length:Int) x10_1 (l0_2.length:Int) (wrap64 (x16_2+1)) a0_0 a0_1 l0_2) else (none))=some r:=by rw [if_pos rfl] at H;exact H
        clear H
        have H:=H1
        clear H1
        by_cases c9:x5_2.length<17592186044416
        ·rw [if_pos c9] at H
         have LMc9:=qaa.mk c9
         clear c9
         obtain ⟨y335,hy335⟩:∃ y_:List Int,y_=(x5_2++[x16_2]):=⟨_,rfl⟩
         replace H:(qan.l1 k2 x3_1 x10_1 y335 (l0_2.length:Int) x10_1 (l0_2.length:Int) (wrap64 (x16_2+1)) a0_0 a0_1 l0_2)=some r:=by (rw [hy335];with_reducible exact H)
         have Ny335:=qaa.mk hy335
         clear hy335
         have H':=qaa.mk H
         clear H
         have hcz10_0:wr.cell? ⟨gb333,0,none⟩=some (.bool a0_0):=(qac BK333.out 0).trans rfl
         have hcz10_1:wr.cell? ⟨gb333,1,none⟩=some (.int .i64 a0_1):=(qac BK333.out 1).trans rfl
         have hcz10_2:wr.cell? ⟨gb333,2,none⟩=some (.slice A0_2 l0_2.length c0_2):=(qac BK333.out 2).trans rfl
         have hfz10_0:=qag BK333.out 0
         have hfz10_1:=qag BK333.out 1
         have hfz10_2:=qag BK333.out 2
         go_wp2_with (first|((with_reducible refine qbb (f:=55) rfl ?_);refine qcu (some 22) rfl rfl Tryd.func55 (by kernel_rfl) rfl #[.agg #[.bool a0_0,.int .i64 a0_1,.slice A0_2 l0_2.length c0_2],.int .i64 x16_2,.int .i64 x10_1] rfl (by (try simp only [List.map_toArray,List.map_cons,List.map_nil]);rfl) ?_;(with_reducible refine (qck.calls k2 a0_0 a0_1 _ _ l0_2 x16_2 x10_1 true _ ?side1 ?side2 A7.out).mono ?_);(case side1=>repeat (exact (Kd.C_below HR0_2.out HB.out)));(case side2=>exact HC0_2.out);rintro e w11 ⟨rfl,hb⟩;refine ⟨_,rfl,?_⟩;replace HO_3:=qaa.mk (Kd.S_below (by (with_reducible repeat (apply Kd.S_drew));exact HO_3.out) hb);replace HO_5:=qaa.mk (Kd.R_below (by (with_reducible repeat (apply Kd.R_drew));exact HO_5.out) hb);replace BK333:=qaa.mk (qaf (g:=gb333) (o:=.cells #[.bool a0_0,.int .i64 a0_1,.slice A0_2 l0_2.length c0_2] 24 (0,0)) (by (with_reducible repeat (refine qab ?_));exact BK333.out) hb);replace HB:=qaa.mk (qai HB.out hb);(try clear hb))|((with_reducible refine qda (b:=.append) (xs:=#[.tmp 23,.tmp 25]) rfl ?_);at_builtin;refine Kd.R_append (Kd.int .i64) (w0:=w) w.heap.size rfl (.tmp 23) (.tmp 25) 31 3 (.int .i64 0) 8 rfl Tryd.underlying31 qfh rfl (by decide) (by omega) u5 x5_2 x16_2 [.int .i64 x16_2] (fun _=>True) (fun _=>False) rfl rfl ?aP (fun _ hk=>hk.elim) ?aF ?aO ?aB ?aS ?aL ?_;(case aP=>exact rfl);(case aB=>exact HB.out);(case aF=>exact (fun _ _=>trivial));(case aO=>exact (by (with_reducible repeat (apply Kd.R_drew));exact HO_5.out));(case aS=>exact (qad HB.out));(case aL=>have:=LMc9.out;omega);intro v336 w12 ho hb hg hat;rw [← Ny335.out] at ho;have n0_:=qaa.mk (Kd.S_after (ok:=(fun _=>True)) (by (with_reducible repeat (apply Kd.S_drew));exact Kd.S_mono HO_3.out (fun _ hk=>⟨trivial,hk⟩)) hg hat);have n1_:=qaa.mk (qdj (g:=gb333) (o:=.cells #[.bool a0_0,.int .i64 a0_1,.slice A0_2 l0_2.length c0_2] 24 (0,0)) (by (with_reducible repeat (refine qab ?_));exact BK333.out) hg (Kd.R_ne HO_5.out BK333.out (by decide)));have n2_:=qaa.mk (hb);have n3_:=qaa.mk (ho);clear HO_3;clear BK333;clear HB;clear HO_5;have HO_3:=n0_;have BK333:=n1_;have HB:=n2_;have HO337:=n3_;clear n0_ n1_ n2_ n3_;clear ho hb hg hat))
         go_roundg k2
         case measure=>have:=HK1.out;have:=HK2.out;omega
         case rel=>exact ⟨(y335),(wrap64 (x16_2+1)),(by rfl),H',⟨by have:=HK1.out;have:=HK2.out;omega⟩,⟨by (with_reducible repeat (apply Kd.S_drew));exact Kd.S_mono HO_3.out (fun _ hk=>hk.2)⟩,⟨by (with_reducible repeat (apply Kd.R_drew));exact HO337.out⟩,⟨by (with_reducible repeat (refine qab ?_));exact BK333.out⟩,⟨by repeat ((with_reducible exact HB.out))⟩⟩
        ·rw [if_neg c9] at H
         exact absurd H (by simp)
       ·replace c8:=Bool.eq_false_iff.mpr c8
        subst c8
        have H1:(qan.l1 k2 x3_1 x10_1 x5_2 (l0_2.length:Int) x10_1 (l0_2.length:Int) (wrap64 (x16_2+1)) a0_0 a0_1 l0_2)=some r:=by rw [if_neg (show ¬ (false=true) by decide)] at H;exact H
        clear H
        have H:=H1
        clear H1
        have H':=qaa.mk H
        clear H
        have hcz13_0:wr.cell? ⟨gb333,0,none⟩=some (.bool a0_0):=(qac BK333.out 0).trans rfl
        have hcz13_1:wr.cell? ⟨gb333,1,none⟩=some (.int .i64 a0_1):=(qac BK333.out 1).trans rfl
        have hcz13_2:wr.cell? ⟨gb333,2,none⟩=some (.slice A0_2 l0_2.length c0_2):=(qac BK333.out 2).trans rfl
        have hfz13_0:=qag BK333.out 0
        have hfz13_1:=qag BK333.out 1
        have hfz13_2:=qag BK333.out 2
        go_wp2_with (((with_reducible refine qbb (f:=55) rfl ?_);refine qcu (some 22) rfl rfl Tryd.func55 (by kernel_rfl) rfl #[.agg #[.bool a0_0,.int .i64 a0_1,.slice A0_2 l0_2.length c0_2],.int .i64 x16_2,.int .i64 x10_1] rfl (by (try simp only [List.map_toArray,List.map_cons,List.map_nil]);rfl) ?_;(with_reducible refine (qck.calls k2 a0_0 a0_1 _ _ l0_2 x16_2 x10_1 false _ ?side1 ?side2 A7.out).mono ?_);(case side1=>repeat (exact (Kd.C_below HR0_2.out HB.out)));(case side2=>exact HC0_2.out);rintro e w14 ⟨rfl,hb⟩;refine ⟨_,rfl,?_⟩;replace HO_3:=qaa.mk (Kd.S_below (by (with_reducible repeat (apply Kd.S_drew));exact HO_3.out) hb);replace HO_5:=qaa.mk (Kd.R_below (by (with_reducible repeat (apply Kd.R_drew));exact HO_5.out) hb);replace BK333:=qaa.mk (qaf (g:=gb333) (o:=.cells #[.bool a0_0,.int .i64 a0_1,.slice A0_2 l0_2.length c0_2] 24 (0,0)) (by (with_reducible repeat (refine qab ?_));exact BK333.out) hb);replace HB:=qaa.mk (qai HB.out hb);(try clear hb)))
        go_roundg k2
        case measure=>have:=HK1.out;have:=HK2.out;omega
        case rel=>exact ⟨(x5_2),(wrap64 (x16_2+1)),(by rfl),H',⟨by have:=HK1.out;have:=HK2.out;omega⟩,⟨by (with_reducible repeat (apply Kd.S_drew));exact HO_3.out⟩,⟨by (with_reducible repeat (apply Kd.R_drew));exact HO_5.out⟩,⟨by (with_reducible repeat (refine qab ?_));exact BK333.out⟩,⟨by repeat ((with_reducible exact HB.out))⟩⟩
      ·rw [if_neg c6] at H
       have c6b0:decide (x16_2<(l0_2.length:Int))=false:=decide_eq_false c6
       clear c6
       by_cases c15:x3_1.length<5864062014805
       ·rw [if_pos c15] at H
        have LMc15:=qaa.mk c15
        clear c15
        obtain ⟨y338,hy338⟩:∃ y_:List (List Int),y_=(x3_1++[x5_2]):=⟨_,rfl⟩
        replace H:(qan.l0 k2 y338 (l0_2.length:Int) (wrap64 (x10_1+1)) a0_0 a0_1 l0_2)=some r:=by (rw [hy338];with_reducible exact H)
        have Ny338:=qaa.mk hy338
        clear hy338
        have H':=qaa.mk H
        clear H
        obtain ⟨Ao17,co17,eo17⟩:=Kd.R_slice HO_5.out
        subst eo17
        go_wp2_with (((with_reducible refine qda (b:=.append) (xs:=#[.tmp 28,.tmp 30]) rfl ?_);at_builtin;refine Kd.S_append (Kd.slice 3 (Kd.int .i64)) (w0:=w) w.heap.size rfl (.tmp 28) (.tmp 30) 28 31 (.slice none 0 0) 24 rfl Tryd.underlying28 info31 rfl (by decide) (by omega) u3 x3_1 x5_2 [.slice Ao17 x5_2.length co17] (fun _=>True) (fun k_=>some k_=(.slice Ao17 x5_2.length co17:Value).ownBlock) rfl rfl ?aP (fun k_ hk_=>((Kd.R_mono (ok':=fun k_=>((fun _=>True)) k_∧some k_≠(u3:Value).ownBlock) (Kd.R_apart' (HO_5.out) (Kd.S_typed HO_3.out) (by decide)) (fun k_ hk=>⟨trivial,hk.2⟩))).1 k_ hk_.symm) ?aF ?aO ?aB ?aS ?aL ?_;(case aP=>exact Kd.M_row (Kd.R_mono (Kd.R_tight rfl (Kd.R_mono (ok':=fun k_=>((fun _=>True)) k_∧some k_≠(u3:Value).ownBlock) (Kd.R_apart' (HO_5.out) (Kd.S_typed HO_3.out) (by decide)) (fun k_ hk=>⟨trivial,hk.2⟩))) (fun _ h_=>h_)));(case aB=>exact HB.out);(case aF=>exact (fun _ _=>trivial));(case aO=>exact (by (with_reducible repeat (apply Kd.S_drew));exact Kd.S_mono HO_3.out (fun k_ hk=>⟨trivial,fun e_=>hk e_⟩)));(case aS=>exact (qad HB.out));(case aL=>have:=LMc15.out;omega);intro v339 w16 ho hb hg hat;rw [← Ny338.out] at ho;have n0_:=qaa.mk (qdj (g:=gb333) (o:=.cells #[.bool a0_0,.int .i64 a0_1,.slice A0_2 l0_2.length c0_2] 24 (0,0)) (by (with_reducible repeat (refine qab ?_));exact BK333.out) hg (Kd.S_ne HO_3.out BK333.out (by decide)));have n1_:=qaa.mk (hb);have n2_:=qaa.mk (ho);clear BK333;clear HB;clear HO_3;clear HO_5;have BK333:=n0_;have HB:=n1_;have HO340:=n2_;clear n0_ n1_ n2_;clear ho hb hg hat))
        go_roundg k2
        case measure=>have:=HK1.out;have:=HK2.out;omega
        case rel=>exact ⟨(y338),(wrap64 (x10_1+1)),(by rfl),H',⟨by have:=HK1.out;have:=HK2.out;omega⟩,⟨by (with_reducible repeat (apply Kd.S_drew));exact HO340.out⟩,⟨by (with_reducible repeat (refine qab ?_));exact BK333.out⟩,⟨by repeat ((with_reducible exact HB.out))⟩⟩
       ·rw [if_neg c15] at H
        exact absurd H (by simp)
   ·rw [if_neg c4] at H
    have c4b0:decide (x10_1<(l0_2.length:Int))=false:=decide_eq_false c4
    clear c4
    obtain rfl:=Option.some.inj H
    go_wp2
    go_ret
    exact ⟨_,by rfl,by (with_reducible repeat (apply Kd.S_drew));exact HO_3.out,by repeat ((with_reducible exact HB.out))⟩
end Go.Proofs.YtmfjmbcfaamebaaDoor.X
namespace Go.Proofs.YtmfjmbcfaamebaaDoor.X
open Go.RowKit Go.Proofs.YtmfjmbcfaamebaaDoorW.PrintWords Go.Proofs.YtmfjmbcfaamebaaDoorW.PrintLast Go.Proofs.YtmfjmbcfaamebaaDoorW.PrintMore
attribute [local go_sem] qbv qcg
set_option linter.unusedVariables false
set_option linter.unusedSimpArgs false
def qfg (k:Nat) (dom:List (List Int)) (a:Int):List Int→List S39→Option (List S39)
 | [],out=>some out
 | b::t,out=>if a<(dom.length:Int)∧out.length<1099511627776 then (qap.f k (dom.getD a.toNat []) b).bind fun h=>qfg k dom a t (if h=true then out++[⟨a,b⟩] else out) else none
def qeu (k:Nat) (dom:List (List Int)):Nat→List (List Int)→List S39→Option (List S39)
 | _,[],out=>some out
 | a,l::t,out=>(qfg k dom (a:Int) l out).bind (qeu k dom (a+1) t)
def qbg.f (k:Nat) (a0_0:Bool) (a0_1:Int) (l0_2:List S60):Option (List S39):=
 (qan.f k a0_0 a0_1 l0_2).bind fun dom=>(qat.f k a0_0 a0_1 l0_2).bind fun s=>qeu k dom 0 s []
theorem qfg.mono (k:Nat) (dom:List (List Int)) (a:Int):∀ (l:List Int) (out:List S39),LeO (qfg k dom a l out) (qfg (k+1) dom a l out)
 | [],_=>LeO.refl _
 | b::t,out=>by
  unfold qfg
  exact LeO.ite (LeO.bind (qap.mono _ _ _) (fun _=>qfg.mono k dom a t _)) (LeO.refl _)
theorem qeu.mono (k:Nat) (dom:List (List Int)):∀ (a:Nat) (l:List (List Int)) (out:List S39),LeO (qeu k dom a l out) (qeu (k+1) dom a l out)
 | _,[],_=>LeO.refl _
 | a,l::t,out=>by
  unfold qeu
  exact LeO.bind (qfg.mono k dom _ l out) (fun _=>qeu.mono k dom _ t _)
theorem qbg.mono:∀ a0 a1 a2 k,LeO (qbg.f k a0 a1 a2) (qbg.f (k+1) a0 a1 a2):=by
 intro a0 a1 a2 k
 unfold qbg.f
 exact LeO.bind (qan.mono _ _ _ _) (fun _=>LeO.bind (qat.mono _ _ _ _) (fun _=>qeu.mono _ _ _ _ _))
set_option maxRecDepth 100000 in
set_option maxHeartbeats 4000000 in
theorem qbg.calls (k:Nat) (a0_0:Bool) (a0_1:Int) (A0_2:Option Addr) (c0_2:Nat) (l0_2:List (S60)) (r:List S39) (w:World) (hr0_2:Kd.C k60 w A0_2 l0_2.length l0_2) (hc0_2:l0_2.length≤c0_2) (h:qbg.f k a0_0 a0_1 l0_2=some r) :
  Calls Tryd.prog 27 #[.agg #[.bool a0_0,.int .i64 a0_1,.slice A0_2 l0_2.length c0_2]] w fun e w'=>∃ v0_:Value,e=.returned v0_∧Kd.R k39 39 w' w.heap.size (fun _=>True) v0_ r∧Below w.heap.size w w':=by
 have hu24:=Tryd.underlying24
 have hu38:=Tryd.underlying38
 have hu39:=Tryd.underlying39
 unfold qbg.f at h
 obtain ⟨dom,hd,h⟩:=Option.bind_eq_some_iff.1 h
 obtain ⟨s,hs,h⟩:=Option.bind_eq_some_iff.1 h
 have HP:=qaa.mk h
 have HCD:=qaa.mk (fun W (hW:Below w.heap.size w W)=>qan.calls k a0_0 a0_1 A0_2 c0_2 l0_2 dom W (Kd.C_below hr0_2 hW) hc0_2 hd)
 have HCS:=qaa.mk (fun W (hW:Below w.heap.size w W)=>qat.calls k a0_0 a0_1 A0_2 c0_2 l0_2 s W (Kd.C_below hr0_2 hW) hc0_2 hs)
 clear hr0_2 hs hd h
 go_enter Tryd.func27,Tryd.ntmps27
 obtain ⟨W0,hW0⟩:∃ W0,w.alloc (Obj.cells #[Value.bool a0_0,Value.int .i64 a0_1,.slice A0_2 l0_2.length c0_2] 24)=W0:=⟨_,rfl⟩
 have hB0:Below w.heap.size w W0:=by rw [← hW0];exact (Below.refl _ w).alloc (Nat.le_refl _) _
 have b24:W0.heap[w.heap.size]?=some (.cells #[Value.bool a0_0,Value.int .i64 a0_1,.slice A0_2 l0_2.length c0_2] 24 (0,0)):=by rw [← hW0];exact World.alloc_heap_new w _
 have c24_0:W0.cell? ⟨w.heap.size,0,none⟩=some (.bool a0_0):=qcw b24 0 rfl
 have c24_1:W0.cell? ⟨w.heap.size,1,none⟩=some (.int .i64 a0_1):=qcw b24 1 rfl
 have c24_2:W0.cell? ⟨w.heap.size,2,none⟩=some (.slice A0_2 l0_2.length c0_2):=qcw b24 2 rfl
 go_wp2_with (first|(go_at_call 22;refine (HCD.out W0 hB0).mono ?_;rintro e W1 ⟨v1,rfl,hV1,hB1⟩;obtain ⟨A1,c1,rfl⟩:=Kd.R_slice (Kd.S_R hV1);have HV1:=qaa.mk hV1;have hB01:=hB0.trans (hB1.mono hB0.size);have b24':=(hB1.block _ (qbh b24)).trans b24;have hs01:=hB1.size;have c24_0':W1.cell? ⟨w.heap.size,0,none⟩=some (.bool a0_0):=qcw b24' 0 rfl;have c24_1':W1.cell? ⟨w.heap.size,1,none⟩=some (.int .i64 a0_1):=qcw b24' 1 rfl;have c24_2':W1.cell? ⟨w.heap.size,2,none⟩=some (.slice A0_2 l0_2.length c0_2):=qcw b24' 2 rfl;clear hV1 hB1)|(go_at_call 15;refine (HCS.out _ hB01).mono ?_;rintro e W2 ⟨v2,rfl,hV2,hB2⟩;obtain ⟨A2,c2,rfl⟩:=Kd.R_slice (Kd.S_R hV2);have HV2:=qaa.mk hV2;have hB02:=hB01.trans (hB2.mono hB01.size);have hF1:=Kd.F_bound (Kd.F_below (Kd.R_F (Kd.S_R HV1.out)) hB2);have hs12:=hB2.size;clear hV2 hB2))
 have hF2:=Kd.F_bound (Kd.R_F (Kd.S_R HV2.out))
 have hFD:Kd.F (Kd.slice 3 (Kd.int .i64)) W2 (fun k=>k<W2.heap.size) A1 dom.length dom:=Kd.F_mono hF1 (fun k hk=>hk.2)
 have hFS:Kd.F (Kd.slice 3 (Kd.int .i64)) W2 (fun k=>k<W2.heap.size) A2 s.length s:=Kd.F_mono hF2 (fun k hk=>hk.2)
 have hsl:s.length≤9223372036854775807:=Kd.F_max hFS
 have hdl:dom.length≤9223372036854775807:=Kd.F_max hFD
 have hlw:w.heap.size≤W2.heap.size:=hB02.size
 clear hF1 hF2 HCD HCS b24 b24' c24_0 c24_1 c24_2 c24_0' c24_1' c24_2' hW0
 go_loopw [4,14] (fun v3 v wr=>∃ i:Nat,i≤s.length∧v=.int .i64 i∧∃ outi:List S39,qaa (qeu k dom i (s.drop i) outi=some r)∧qaa (Kd.R k39 39 wr w.heap.size (fun k=>W2.heap.size≤k) v3 outi)∧qaa (Kd.F (Kd.slice 3 (Kd.int .i64)) wr (fun k=>k<W2.heap.size) A1 dom.length dom)∧qaa (Kd.F (Kd.slice 3 (Kd.int .i64)) wr (fun k=>k<W2.heap.size) A2 s.length s)∧qaa (Below w.heap.size w wr)∧W2.heap.size≤wr.heap.size)
  (fun _ v _=>s.length-(intOf v).toNat)
 case atStart=>exact ⟨0,Nat.zero_le _,rfl,[],by simpa using HP,⟨Kd.R_nil _ _ _ _ _⟩,⟨hFD⟩,⟨hFS⟩,⟨hB02⟩,Nat.le_refl _⟩
 case round=>
  clear HP hFD hFS hB02
  obtain ⟨i,hi,rfl,outi,HP,HO,HD,HF,HB,hw2⟩:=hrel
  by_cases hlt:i<s.length
  ·obtain ⟨ad,c,rfl,_,hFK,hcc,_⟩:=Kd.F_get HF.out [] (i:Int) (by omega) (by omega)
   obtain ⟨Ai,ci,rfl,hci,hFi⟩:=Kd.FK_slice_open hFK
   have hx:=hcc 0 _ rfl
   have hgi:s.getD ((i:Int)).toNat []=s[i]:=by simp [hlt]
   rw [hgi] at hx hFi hci
   have HHP:=HP.out
   rw [List.drop_eq_getElem_cons hlt,qeu] at HHP
   obtain ⟨li,hli⟩:∃ li,s[i]=li:=⟨_,rfl⟩
   rw [hli] at hx hFi hci HHP
   obtain ⟨out',hin,hrest⟩:=Option.bind_eq_some_iff.1 HHP
   have HIN:=qaa.mk hin
   have HRE:=qaa.mk hrest
   have HFI:=qaa.mk hFi
   have hll:=Kd.F_max hFi
   clear HHP hin hrest hFi hFK hgi hcc
   simp only [Int.toNat_natCast,show (Kd.slice 3 (Kd.int .i64)).sz=1 from rfl,Nat.mul_one,Nat.add_zero] at hx
   go_wp2
   go_loopw [4,21] (fun v3 v wr=>∃ j:Nat,j≤li.length∧v=.int .i64 j∧∃ outj:List S39,qaa (qfg k dom (i:Int) (li.drop j) outj=some out')∧qaa (Kd.R k39 39 wr w.heap.size (fun k=>W2.heap.size≤k) v3 outj)∧qaa (Kd.F (Kd.slice 3 (Kd.int .i64)) wr (fun k=>k<W2.heap.size) A1 dom.length dom)∧qaa (Kd.F (Kd.slice 3 (Kd.int .i64)) wr (fun k=>k<W2.heap.size) (some ad) s.length s)∧qaa (Kd.F (Kd.int .i64) wr (fun k=>k<W2.heap.size) Ai li.length li)∧qaa (Below w.heap.size w wr)∧W2.heap.size≤wr.heap.size)
    (fun _ v _=>li.length-(intOf v).toNat)
   case atStart=>exact ⟨0,Nat.zero_le _,rfl,outi,HIN,HO,HD,HF,HFI,HB,hw2⟩
   case round=>
    clear HIN HO HD HF HFI HB hw2 hx HP
    obtain ⟨j,hj,rfl,outj,HIN,HO,HD,HF,HFI,HB,hw2⟩:=hrel
    by_cases hltj:j<li.length
    ·obtain ⟨adi,rfl,hx⟩:=Kd.at_int (Kd.F_now HFI.out) (j:Int) (by omega) (by omega)
     have hgj:rd li (j:Int)=li[j]:=by simp [rd,hltj]
     rw [hgj] at hx
     have hHIN:=HIN.out
     rw [List.drop_eq_getElem_cons hltj,qfg] at hHIN
     obtain ⟨b,hb⟩:∃ b,li[j]=b:=⟨_,rfl⟩
     rw [hb] at hx hHIN
     by_cases hbb:(i:Int)<(dom.length:Int)∧outj.length<1099511627776
     case neg=>rw [if_neg hbb] at hHIN;cases hHIN
     rw [if_pos hbb] at hHIN
     obtain ⟨hb1,hb2⟩:=hbb
     obtain ⟨t,ht,hHIN⟩:=Option.bind_eq_some_iff.1 hHIN
     have HIN2:=qaa.mk hHIN
     clear hHIN HIN
     obtain ⟨add,cd,rfl,_,hFKd,hccd,_⟩:=Kd.F_get HD.out ([]:List Int) (i:Int) (by omega) hb1
     obtain ⟨Ad,cd',rfl,hcd,hFd⟩:=Kd.FK_slice_open hFKd
     have hxd:=hccd 0 _ rfl
     simp only [Int.toNat_natCast,show (Kd.slice 3 (Kd.int .i64)).sz=1 from rfl,Nat.mul_one,Nat.add_zero] at hxd
     obtain ⟨wd,hwd⟩:∃ wd,dom.getD ((i:Int)).toNat []=wd:=⟨_,rfl⟩
     have hwd':dom.getD i []=wd:=hwd
     rw [hwd'] at hxd
     rw [hwd] at hcd hFd ht
     have HHas:=qaa.mk (qap.calls k Ad cd' wd b t wr (Kd.F_now hFd) hcd ht)
     obtain ⟨A3,c3,rfl⟩:=Kd.R_slice HO.out
     clear hFKd hccd hFd hgj ht
     rw [Int.toNat_natCast] at hx
     have hbi:(i:Int)<(dom.length:Int):=hb1
     cases t with
     | true=>
      go_wp2_with (first|(go_at_call 48;refine HHas.out.mono ?_;rintro e w1 ⟨rfl,hd1⟩;have hb1:=hd1.below;have HO1:=qaa.mk (Kd.R_below HO.out hb1);have HD1:=qaa.mk (Kd.F_below HD.out hb1);have HF1:=qaa.mk (Kd.F_below HF.out hb1);have HFI1:=qaa.mk (Kd.F_below HFI.out hb1);have HB1:=qaa.mk (HB.out.trans (hb1.mono HB.out.size));have hsw1:=hb1.size;clear hb1 hd1 HO HD HF HFI HB HHas)|(at_builtin;refine Kd.R_append k39 (w0:=w) w.heap.size rfl (.tmp 31) (.tmp 35) 40 39 (.agg #[(.int .i64 0),(.int .i64 0)]) 16 rfl Tryd.underlying40 info39 rfl (by decide) (by omega) (.slice A3 outj.length c3) outj (⟨(i:Int),b⟩:S39) [.int .i64 (i:Int),.int .i64 b] (fun k=>W2.heap.size≤k) (fun _=>False) rfl (by simp [Act.eval]) (k39_mkM _ _ _ (⟨(i:Int),b⟩:S39)) (fun _ hk=>hk.elim) (fun k hk=>by omega) HO1.out HB1.out (HB1.out.size) (by omega) ?_;intro v1 w2 ho1 hb1 hg1 hat1;have hF1:=Kd.F_grown HD1.out hg1 (fun k hk e=>by have:=HO1.out.1 _ e.symm;omega);have hF2:=Kd.F_grown HF1.out hg1 (fun k hk e=>by have:=HO1.out.1 _ e.symm;omega);have hF3:=Kd.F_grown HFI1.out hg1 (fun k hk e=>by have:=HO1.out.1 _ e.symm;omega);have hsz1':=hg1.size;obtain ⟨A4,c4,rfl⟩:=Kd.R_slice ho1;have HO2:=qaa.mk ho1;have HB2:=qaa.mk hb1;have HF2:=qaa.mk hF1;have HF3:=qaa.mk hF2;have HF4:=qaa.mk hF3;clear ho1 hb1 hg1 hat1 hF1 hF2 hF3))
      go_roundw
      case rel=>
       have e1:(outj++[(⟨(i:Int),b⟩:S39)]).length=outj.length+1:=by simp
       rw [e1] at HO2
       exact ⟨j+1,by omega,by go_num,outj++[⟨(i:Int),b⟩],HIN2,HO2,HF2,HF3,HF4,HB2,by omega⟩
      case measure=>simp [intOf];omega
     | false=>
      go_wp2_with (go_at_call 48;refine HHas.out.mono ?_;rintro e w1 ⟨rfl,hd1⟩;have hb1:=hd1.below;have HO1:=qaa.mk (Kd.R_below HO.out hb1);have HD1:=qaa.mk (Kd.F_below HD.out hb1);have HF1:=qaa.mk (Kd.F_below HF.out hb1);have HFI1:=qaa.mk (Kd.F_below HFI.out hb1);have HB1:=qaa.mk (HB.out.trans (hb1.mono HB.out.size));have hsw1:=hb1.size;clear hb1 hd1 HO HD HF HFI HB HHas)
      go_roundw
      case rel=>exact ⟨j+1,by omega,by go_num,outj,HIN2,HO1,HD1,HF1,HFI1,HB1,by omega⟩
      case measure=>simp [intOf];omega
    ·obtain rfl:j=li.length:=by omega
     obtain rfl:outj=out':=by simpa [qfg] using HIN.out
     go_wp2
     go_roundw
     case rel=>exact ⟨i+1,by omega,by go_num,outj,HRE,HO,HD,HF,HB,hw2⟩
     case measure=>simp [intOf];omega
  ·obtain rfl:i=s.length:=by omega
   obtain rfl:outi=r:=by simpa [qeu] using HP.out
   obtain ⟨A3,c3,rfl⟩:=Kd.R_slice HO.out
   go_wp2
   go_ret
   exact ⟨_,rfl,Kd.R_mono HO.out (fun _ _=>trivial),HB.out⟩
end Go.Proofs.YtmfjmbcfaamebaaDoor.X
