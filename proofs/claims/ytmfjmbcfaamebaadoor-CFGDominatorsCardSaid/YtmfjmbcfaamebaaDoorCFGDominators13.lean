/- Parts of the proof of the law CFGDominators: words, walks of single functions and plain laws, joined by a program out of the session's texts. -/
import Derived.Test.YtmfjmbcfaamebaaDoorCFGDominators12
import Derived.Laws.BitsAllLaws
set_option linter.unusedVariables false
set_option linter.unusedSimpArgs false
namespace Go.Proofs.YtmfjmbcfaamebaaDoor.X
noncomputable section
open Go.RowKit Go.Proofs.YtmfjmbcfaamebaaDoorW.PrintWords Go.Proofs.YtmfjmbcfaamebaaDoorW.PrintLast Go.Proofs.YtmfjmbcfaamebaaDoorW.PrintMore
attribute [local go_sem] qbs qcb
set_option linter.unusedVariables false
set_option linter.unusedSimpArgs false
def qam.l0:Nat→List (S38)→List (List Int)→Int→Int→Bool→Int→List (S60)→Option (Bool)
 | 0,_,_,_,_,_,_,_=>none
 | k+1,x3,x4,x21,x22,x465000,x465001,x465002=>if x22<x21 then (if 0≤x22 then (if x22<(x3.length:Int) then ((qcq.f ((qco x3 x22).f0)).bind fun t481=>(if x22<(x4.length:Int) then ((qak.f k t481 (qeh x4 x22)).bind fun t485=>(if t485=true then (qam.l0 k x3 x4 x21 (wrap64 (x22+1)) x465000 x465001 x465002) else (some false))) else (none))) else (none)) else (none)) else ((qbg.f x465000 x465001 x465002).bind fun t473=>((qbw.f k x465000 x465001 x465002).bind fun t476=>((qak.f k t473 t476).bind fun t479=>(some t479))))
def qam.f (k:Nat) (a0_0:Bool) (a0_1:Int) (l0_2:List (S60)):Option (Bool):=(qbp.f k).bind fun t465=>(if t465=true then ((qas.f k a0_0 a0_1 l0_2).bind fun t466=>(if t466=true then ((qbd.f a0_0 a0_1 l0_2).bind fun t467=>((qai.f k a0_0 a0_1 l0_2).bind fun t470=>(if (t467.length:Int)=(t470.length:Int) then (qam.l0 k t467 t470 (t470.length:Int) 0 a0_0 a0_1 l0_2) else (some false)))) else (some true))) else (some false))
theorem qam.mono_l:∀ k,(∀ y0 y1 y2 y3 y4 y5 y6,LeO (qam.l0 k y0 y1 y2 y3 y4 y5 y6) (qam.l0 (k+1) y0 y1 y2 y3 y4 y5 y6))
 | 0=>fun _ _ _ _ _ _ _ r h=>by simp [qam.l0] at h
 | k+1=>by
  have ih0:=qam.mono_l k
  ·intro y0 y1 y2 y3 y4 y5 y6
   unfold qam.l0
   repeat' first|(with_reducible exact ih0 _ _ _ _ _ _ _)|(with_reducible exact qak.mono _ _ _)|(with_reducible exact qbw.mono _ _ _ _)|(with_reducible exact LeO.refl _)|(with_reducible refine LeO.ite ?_ ?_)|(with_reducible refine LeO.bind ?_ (fun _=>?_))
theorem qam.mono:∀ a0 a1 a2 k,LeO (qam.f k a0 a1 a2) (qam.f (k+1) a0 a1 a2):=by
 intro a0 a1 a2 k
 have ih0:=qam.mono_l k
 unfold qam.f
 repeat' first|(with_reducible exact ih0 _ _ _ _ _ _ _)|(with_reducible exact qbp.mono _)|(with_reducible exact qai.mono _ _ _ _)|(with_reducible exact qas.mono _ _ _ _)|(with_reducible exact LeO.refl _)|(with_reducible refine LeO.ite ?_ ?_)|(with_reducible refine LeO.bind ?_ (fun _=>?_))
def qam.T11:Bool×List (List Nat×List Nat):=(true,[([],[]),([],[]),([0,1],[0,1]),([2],[2]),([3],[3]),([],[]),([],[]),([5,6],[5,6]),([7],[7]),([4,8,4],[4,8]),([9],[9])])
def qam.B11:List Nat:=[0,0,3,7,15,0,0,96,224,511,1023]
theorem qam.tab11:rtab .any (opsOf Tryd.f5 11)=qam.T11:=by kernel_rfl
theorem qam.bits11:qeu qam.T11.2 qam.B11=true:=by kernel_rfl
set_option maxHeartbeats 8000000 in
set_option maxRecDepth 100000 in
theorem qam.calls (k:Nat) (a0_0:Bool) (a0_1:Int) (A0_2:Option Addr) (c0_2:Nat) (l0_2:List (S60)) (r:Bool) (w:World) (hT:TabW w) (hr0_2:Kd.C k60 w A0_2 l0_2.length l0_2) (hc0_2:l0_2.length≤c0_2) (h:qam.f k a0_0 a0_1 l0_2=some r) :
  Calls Tryd.prog 5 #[.agg #[.bool a0_0,.int .i64 a0_1,.slice A0_2 l0_2.length c0_2]] w fun e w'=>e=.returned (.bool r)∧Below w.heap.size w w':=by
 have hu24:=Tryd.underlying24
 have hu38:=Tryd.underlying38
 have HR0_2:=qaa.mk hr0_2
 have HC0_2:=qaa.mk hc0_2
 clear hr0_2 hc0_2
 have HTB:=qaa.mk hT
 clear hT
 have HB:=qaa.mk (Below.refl w.heap.size w)
 have H:((qbp.f k).bind fun t465=>(if t465=true then ((qas.f k a0_0 a0_1 l0_2).bind fun t466=>(if t466=true then ((qbd.f a0_0 a0_1 l0_2).bind fun t467=>((qai.f k a0_0 a0_1 l0_2).bind fun t470=>(if (t467.length:Int)=(t470.length:Int) then (qam.l0 k t467 t470 (t470.length:Int) 0 a0_0 a0_1 l0_2) else (some false)))) else (some true))) else (some false)))=some r:=h
 clear h
 replace H:=Option.bind_eq_some_iff.mp H
 obtain ⟨t465,A20,H⟩:=H
 replace H:(if t465=true then ((qas.f k a0_0 a0_1 l0_2).bind fun t466=>(if t466=true then ((qbd.f a0_0 a0_1 l0_2).bind fun t467=>((qai.f k a0_0 a0_1 l0_2).bind fun t470=>(if (t467.length:Int)=(t470.length:Int) then (qam.l0 k t467 t470 (t470.length:Int) 0 a0_0 a0_1 l0_2) else (some false)))) else (some true))) else (some false))=some r:=H
 have A2:=qaa.mk A20
 clear A20
 by_cases c3:t465=true
 ·subst c3
  have H1:((qas.f k a0_0 a0_1 l0_2).bind fun t466=>(if t466=true then ((qbd.f a0_0 a0_1 l0_2).bind fun t467=>((qai.f k a0_0 a0_1 l0_2).bind fun t470=>(if (t467.length:Int)=(t470.length:Int) then (qam.l0 k t467 t470 (t470.length:Int) 0 a0_0 a0_1 l0_2) else (some false)))) else (some true)))=some r:=by rw [if_pos rfl] at H;exact H
  clear H
  have H:=H1
  clear H1
  replace H:=Option.bind_eq_some_iff.mp H
  obtain ⟨t466,A40,H⟩:=H
  replace H:(if t466=true then ((qbd.f a0_0 a0_1 l0_2).bind fun t467=>((qai.f k a0_0 a0_1 l0_2).bind fun t470=>(if (t467.length:Int)=(t470.length:Int) then (qam.l0 k t467 t470 (t470.length:Int) 0 a0_0 a0_1 l0_2) else (some false)))) else (some true))=some r:=H
  have A4:=qaa.mk A40
  clear A40
  by_cases c5:t466=true
  ·subst c5
   have H1:((qbd.f a0_0 a0_1 l0_2).bind fun t467=>((qai.f k a0_0 a0_1 l0_2).bind fun t470=>(if (t467.length:Int)=(t470.length:Int) then (qam.l0 k t467 t470 (t470.length:Int) 0 a0_0 a0_1 l0_2) else (some false))))=some r:=by rw [if_pos rfl] at H;exact H
   clear H
   have H:=H1
   clear H1
   replace H:=Option.bind_eq_some_iff.mp H
   obtain ⟨t467,A60,H⟩:=H
   replace H:((qai.f k a0_0 a0_1 l0_2).bind fun t470=>(if (t467.length:Int)=(t470.length:Int) then (qam.l0 k t467 t470 (t470.length:Int) 0 a0_0 a0_1 l0_2) else (some false)))=some r:=H
   have A6:=qaa.mk A60
   clear A60
   replace H:=Option.bind_eq_some_iff.mp H
   obtain ⟨t470,A70,H⟩:=H
   replace H:(if (t467.length:Int)=(t470.length:Int) then (qam.l0 k t467 t470 (t470.length:Int) 0 a0_0 a0_1 l0_2) else (some false))=some r:=H
   have A7:=qaa.mk A70
   clear A70
   by_cases c8:(t467.length:Int)=(t470.length:Int)
   ·rw [if_pos c8] at H
    have c8b0:((t467.length:Int)==(t470.length:Int))=true:=beq_iff_eq.mpr c8
    have c8b1:((t467.length:Int)!=(t470.length:Int))=false:=bne_eq_false_iff_eq.mpr c8
    have c8b2:(t467.length==t470.length)=true:=by (simp at c8 ⊢;omega)
    clear c8
    have H':=qaa.mk H
    clear H
    go_enter Tryd.func5,Tryd.ntmps5
    try go_wp2_with (first|((with_reducible refine qbf (N:=1) rfl ?_);refine qbr ?hg (N:=1) ?hd (cs:=#[.bool a0_0,.int .i64 a0_1,.slice A0_2 l0_2.length c0_2]) (t:=24) ?hr ?_;(case hd=>rfl);(case hg=>rfl);(case hr=>(go_simp;done));intro gb464 hg w9 hbox hb;have BK464:=qaa.mk (hbox);have GW464:=qaa.mk ((by rw [hg];exact (qac HB.out):w.heap.size≤gb464));have GE464:=qaa.mk ((by rw [hg];exact (qac HB.out):w.heap.size≤gb464));replace HB:=qaa.mk (qal HB.out hb);clear hb hbox hg)|((with_reducible refine qbb (f:=11) rfl ?_);refine qcv (some 6) rfl rfl Tryd.func11 (by kernel_rfl) rfl #[] rfl (by (try simp only [List.map_toArray,List.map_cons,List.map_nil]);done) ?_;(with_reducible refine (qbp.calls k  true _ ?side1 A2.out).mono ?_);(case side1=>exact TabW.below' HTB.out HB.out);rintro e w10 ⟨rfl,hb⟩;refine ⟨_,rfl,?_⟩;replace BK464:=qaa.mk (qah (g:=gb464) (o:=.cells #[.bool a0_0,.int .i64 a0_1,.slice A0_2 l0_2.length c0_2] 24 (0,0)) (by (with_reducible repeat (refine qab ?_));exact BK464.out) hb);replace HB:=qaa.mk (qal HB.out hb);(try clear hb);have hcz11_0:w10.cell? ⟨gb464,0,none⟩=some (.bool a0_0):=(qad BK464.out 0).trans rfl;have hcz11_1:w10.cell? ⟨gb464,1,none⟩=some (.int .i64 a0_1):=(qad BK464.out 1).trans rfl;have hcz11_2:w10.cell? ⟨gb464,2,none⟩=some (.slice A0_2 l0_2.length c0_2):=(qad BK464.out 2).trans rfl;have hfz11_0:=qaf BK464.out 0;have hfz11_1:=qaf BK464.out 1;have hfz11_2:=qaf BK464.out 2)|((with_reducible refine qbb (f:=12) rfl ?_);refine qcv (some 9) rfl rfl Tryd.func12 (by kernel_rfl) rfl #[.agg #[.bool a0_0,.int .i64 a0_1,.slice A0_2 l0_2.length c0_2]] rfl (by (try simp only [List.map_toArray,List.map_cons,List.map_nil]);rfl) ?_;(with_reducible refine (qas.calls k a0_0 a0_1 _ _ l0_2 true _ ?side1 ?side2 A4.out).mono ?_);(case side1=>repeat (exact (Kd.C_below HR0_2.out HB.out)));(case side2=>exact HC0_2.out);rintro e w12 ⟨rfl,hb⟩;refine ⟨_,rfl,?_⟩;replace BK464:=qaa.mk (qah (g:=gb464) (o:=.cells #[.bool a0_0,.int .i64 a0_1,.slice A0_2 l0_2.length c0_2] 24 (0,0)) (by (with_reducible repeat (refine qab ?_));exact BK464.out) hb);replace HB:=qaa.mk (qal HB.out hb);(try clear hb)))
    have n0_:=qaa.mk (qab BK464.out)
    have n1_:=qaa.mk (qdb HB.out)
    clear BK464
    clear HB
    have BK464:=n0_
    have HB:=n1_
    clear n0_ n1_
    refine qfb (n:=6) (S:=fun w'=>w'.cell? ⟨gb464,0,none⟩=some (.bool a0_0)∧w'.cell? ⟨gb464,1,none⟩=some (.int .i64 a0_1)∧w'.cell? ⟨gb464,2,none⟩=some (.slice A0_2 l0_2.length c0_2)) (ds:=[]) #[false,false,false,false,false,false] (by kernel_rfl) rfl rfl ⟨(qad BK464.out 0).trans rfl,(qad BK464.out 1).trans rfl,(qad BK464.out 2).trans rfl⟩ (fun hHeld=>?_)
    generalize w12.drew=w13 at BK464 HB hHeld ⊢
    refine take_ (i:=0) (N:=some 11) (v:=?_) (a':=?_) #[true,false,false,false,false,false] rfl rfl (by kernel_rfl) (fun _ _ _ h=>h) (Or.inl ⟨by rfl,?_⟩) hHeld ?_ ?_
    rotate_left
    ·rintro w' ⟨s0,s1,s2⟩
     go_simp
     with_reducible rfl
    rotate_left
    ·simp only [Act.put,List.setIfInBounds_toArray,List.set_cons_zero,List.set_cons_succ,qbk,qbm]
     rfl
    refine take_ (i:=2) (N:=some 13) (v:=?_) (a':=?_) #[true,false,true,false,false,false] rfl rfl (by kernel_rfl) (fun _ _ _ h=>h) (Or.inl ⟨by rfl,?_⟩) hHeld ?_ ?_
    rotate_left
    ·rintro w' ⟨s0,s1,s2⟩
     go_simp
     with_reducible rfl
    rotate_left
    ·simp only [Act.put,List.setIfInBounds_toArray,List.set_cons_zero,List.set_cons_succ,qbk,qbm]
     rfl
    refine one_ (i:=1) (N:=some 12) #[true,true,true,false,false,false] rfl rfl (by kernel_rfl) (by decide) (fun K hK=>?_)
    refine qej Tryd.func21 (by kernel_rfl) rfl #[.agg #[.bool a0_0,.int .i64 a0_1,.slice A0_2 l0_2.length c0_2]] (by rfl) rfl rfl (by (try simp only [List.map_toArray,List.map_cons,List.map_nil]);rfl) ?_
    with_reducible refine (qbd.calls a0_0 a0_1 _ _ l0_2 t467 _ ?side1 ?side2 ?side3 A6.out).mono ?_
    (case side1=>exact TabW.below' HTB.out HB.out)
    (case side2=>repeat (exact (Kd.C_below HR0_2.out HB.out)))
    (case side3=>exact HC0_2.out)
    rintro e w14 ⟨v468,rfl,ho0,hb⟩
    refine ⟨_,rfl,?_⟩
    have n0_:=qaa.mk (Kd.V_lower (Kd.V_mono (ok':=fun k_=>k_≠gb464) ho0 (fun k_ hk_=>(Kd.freshB (g:=gb464) (o:=.cells #[.bool a0_0,.int .i64 a0_1,.slice A0_2 l0_2.length c0_2] 24 (0,0)) (by (with_reducible repeat (refine qab ?_));exact BK464.out) k_ hk_))) (qac HB.out))
    have n1_:=qaa.mk (qah (g:=gb464) (o:=.cells #[.bool a0_0,.int .i64 a0_1,.slice A0_2 l0_2.length c0_2] 24 (0,0)) (by (with_reducible repeat (refine qab ?_));exact BK464.out) hb)
    have n2_:=qaa.mk (qal HB.out hb)
    clear BK464
    clear HB
    have HO469:=n0_
    have BK464:=n1_
    have HB:=n2_
    clear n0_ n1_ n2_
    (try clear hb)
    (try clear ho0)
    refine hK.out _ _ ⟨(qad BK464.out 0).trans rfl,(qad BK464.out 1).trans rfl,(qad BK464.out 2).trans rfl⟩ (fun hHeld=>?_)
    clear hK K
    refine qdt (a':=?_) ?_ ?_
    rotate_left
    ·show Act.put _ (some 12) _=_
     simp only [Act.put,List.setIfInBounds_toArray,List.set_cons_zero,List.set_cons_succ,qbk,qbm]
     rfl
    refine one_ (i:=3) (N:=some 14) #[true,true,true,true,false,false] rfl rfl (by kernel_rfl) (by decide) (fun K hK=>?_)
    refine qej Tryd.func22 (by kernel_rfl) rfl #[.agg #[.bool a0_0,.int .i64 a0_1,.slice A0_2 l0_2.length c0_2]] (by rfl) rfl rfl (by (try simp only [List.map_toArray,List.map_cons,List.map_nil]);rfl) ?_
    with_reducible refine (qai.calls k a0_0 a0_1 _ _ l0_2 t470 _ ?side1 ?side2 A7.out).mono ?_
    (case side1=>repeat (exact (Kd.C_below HR0_2.out HB.out)))
    (case side2=>exact HC0_2.out)
    rintro e w15 ⟨v471,rfl,ho0,hb⟩
    refine ⟨_,rfl,?_⟩
    have n0_:=qaa.mk (Kd.V_elder' (by (with_reducible repeat (apply Kd.V_drew));exact HO469.out) (Kd.S_base ho0) hb)
    have n1_:=qaa.mk (Kd.S_lower ho0 (qac HB.out))
    have n2_:=qaa.mk (qah (g:=gb464) (o:=.cells #[.bool a0_0,.int .i64 a0_1,.slice A0_2 l0_2.length c0_2] 24 (0,0)) (by (with_reducible repeat (refine qab ?_));exact BK464.out) hb)
    have n3_:=qaa.mk (qal HB.out hb)
    clear HO469
    clear BK464
    clear HB
    have HO469:=n0_
    have HO472:=n1_
    have BK464:=n2_
    have HB:=n3_
    clear n0_ n1_ n2_ n3_
    (try clear hb)
    (try clear ho0)
    refine hK.out _ _ ⟨(qad BK464.out 0).trans rfl,(qad BK464.out 1).trans rfl,(qad BK464.out 2).trans rfl⟩ (fun hHeld=>?_)
    clear hK K
    refine qdt (a':=?_) ?_ ?_
    rotate_left
    ·show Act.put _ (some 14) _=_
     simp only [Act.put,List.setIfInBounds_toArray,List.set_cons_zero,List.set_cons_succ,qbk,qbm]
     rfl
    refine qct (i:=4) (N:=some 3) (v:=?_) (a':=?_) #[true,true,true,true,true,false] rfl rfl (by kernel_rfl) (fun _ _ _ h=>h) (Or.inl ⟨by rfl,?_⟩) ?_ ?_
    rotate_left
    ·intro w'
     go_simp
     with_reducible rfl
    rotate_left
    ·simp only [Act.put,List.setIfInBounds_toArray,List.set_cons_zero,List.set_cons_succ,qbk,qbm]
     rfl
    refine qct (i:=5) (N:=some 4) (v:=?_) (a':=?_) #[true,true,true,true,true,true] rfl rfl (by kernel_rfl) (fun _ _ _ h=>h) (Or.inl ⟨by rfl,?_⟩) ?_ ?_
    rotate_left
    ·intro w'
     go_simp
     with_reducible rfl
    rotate_left
    ·simp only [Act.put,List.setIfInBounds_toArray,List.set_cons_zero,List.set_cons_succ,qbk,qbm]
     rfl
    refine qfq (by kernel_rfl) ?_
    obtain ⟨Ao16,co16,eo16⟩:=Kd.V_slice HO469.out
    subst eo16
    obtain ⟨Ao17,co17,eo17⟩:=Kd.S_slice HO472.out
    subst eo17
    try go_wp2
    go_loopg [22] k (fun kq v22 w'=>∃ (x22_1:Int),v22=.int .i64 x22_1∧qaa (qam.l0 kq t467 t470 (t470.length:Int) x22_1 a0_0 a0_1 l0_2=some r)∧qaa (kq≤k)∧qaa (Kd.V k38 38 w' w.heap.size (fun k_=>some k_≠((.slice Ao17 t470.length co17):Value).ownBlock∧k_≠gb464) (.slice Ao16 t467.length co16) t467)∧qaa (Kd.S (Kd.slice 3 (Kd.int .i64)) 31 w' w.heap.size (fun _=>True) (.slice Ao17 t470.length co17) t470)∧qaa (w'.heap[gb464]?=some (.cells #[.bool a0_0,.int .i64 a0_1,(.slice A0_2 l0_2.length c0_2)] 24 (0,0)))∧qaa (Below w.heap.size w w'))
    case atStart=>exact ⟨(0),(by rfl),H',⟨Nat.le_refl _⟩,⟨by (with_reducible repeat (apply Kd.V_drew));exact Kd.V_mono HO469.out (fun _ hk=>⟨hk.2,hk.1⟩)⟩,⟨by (with_reducible repeat (apply Kd.S_drew));exact HO472.out⟩,⟨by (with_reducible repeat (refine qab ?_));exact BK464.out⟩,⟨by repeat ((with_reducible exact HB.out))⟩⟩
    case round=>
     clear H'
     try clear c8b0
     try clear c8b1
     try clear c8b2
     try clear hcz11_0
     try clear hcz11_1
     try clear hcz11_2
     try clear hfz11_0
     try clear hfz11_1
     try clear hfz11_2
     obtain ⟨x22_1,rfl,HA,HK1,HO_3,HO_4,BK464,HB⟩:=hrel
     cases gk with
     | zero=>exact absurd HA.out (by simp [qam.l0])
     | succ k1=>
      have H:=HA.out
      clear HA
      simp only [qam.l0] at H
      by_cases c18:x22_1<(t470.length:Int)
      ·rw [if_pos c18] at H
       have c18b0:decide (x22_1<(t470.length:Int))=true:=decide_eq_true c18
       clear c18
       by_cases c19:0≤x22_1
       ·rw [if_pos c19] at H
        have c19b0:decide (0≤x22_1)=true:=decide_eq_true c19
        clear c19
        by_cases c20:x22_1<(t467.length:Int)
        ·rw [if_pos c20] at H
         have c20b0:decide (x22_1<(t467.length:Int))=true:=decide_eq_true c20
         clear c20
         replace H:=Option.bind_eq_some_iff.mp H
         obtain ⟨t481,A210,H⟩:=H
         replace H:(if x22_1<(t470.length:Int) then ((qak.f k1 t481 (qeh t470 x22_1)).bind fun t485=>(if t485=true then (qam.l0 k1 t467 t470 (t470.length:Int) (wrap64 (x22_1+1)) a0_0 a0_1 l0_2) else (some false))) else (none))=some r:=H
         have A21:=qaa.mk A210
         clear A210
         by_cases c22:x22_1<(t470.length:Int)
         ·rw [if_pos c22] at H
          have c22b0:decide (x22_1<(t470.length:Int))=true:=decide_eq_true c22
          clear c22
          replace H:=Option.bind_eq_some_iff.mp H
          obtain ⟨t485,A230,H⟩:=H
          replace H:(if t485=true then (qam.l0 k1 t467 t470 (t470.length:Int) (wrap64 (x22_1+1)) a0_0 a0_1 l0_2) else (some false))=some r:=H
          have A23:=qaa.mk A230
          clear A230
          by_cases c24:t485=true
          ·subst c24
           have H1:(qam.l0 k1 t467 t470 (t470.length:Int) (wrap64 (x22_1+1)) a0_0 a0_1 l0_2)=some r:=by rw [if_pos rfl] at H;exact H
           clear H
           have H:=H1
           clear H1
           have H':=qaa.mk H
           clear H
           try go_wp2
           have n0_:=qaa.mk (Kd.V_drew HO_3.out)
           have n1_:=qaa.mk (Kd.S_drew HO_4.out)
           have n2_:=qaa.mk (qab BK464.out)
           have n3_:=qaa.mk (qdb HB.out)
           clear HO_3
           clear HO_4
           clear BK464
           clear HB
           have HO_3:=n0_
           have HO_4:=n1_
           have BK464:=n2_
           have HB:=n3_
           clear n0_ n1_ n2_ n3_
           have p480:0≤(x22_1:Int):=of_decide_eq_true (by (with_reducible assumption))
           have q480:x22_1<(t467.length:Int):=of_decide_eq_true (by (with_reducible assumption))
           obtain ⟨ad480,A480_0,c480_0,e480,hx480_0,hl480_0,hi480_0⟩:=at_T38 (Kd.V_reads' HO_3.out).2.2 x22_1 p480 q480
           cases e480
           obtain ⟨ce480,hce480,hMe480,hcc480⟩:=Kd.V_get HO_3.out z38 x22_1 p480 (by exact q480)
           obtain ⟨ua480_0,uc480_0,rfl,ul480_0,ge480_0⟩:=qfo hMe480
           have hv480_0:=hcc480 0 _ rfl
           rw [Nat.add_zero,show (k38).sz=1 from rfl,Nat.mul_one] at hv480_0
           replace hv480_0:=Option.some.inj (hv480_0.symm.trans hx480_0)
           injection hv480_0 with hva_ hvn_ hvc_
           rw [hva_] at ge480_0
           rw [hvc_] at ul480_0
           have HL480_0:=qaa.mk (show Kd.V (Kd.int .u64) 77 _ w.heap.size _ _ ((qco t467 x22_1).f0) from Kd.V_mk ul480_0 ge480_0)
           clear hva_ hvn_ hvc_ ge480_0 ul480_0
           clear hcc480 hce480
           have HR480_0:=qaa.mk hi480_0
           have HC480_0:=qaa.mk hl480_0
           clear hi480_0 hl480_0
           replace p480:=eq_true p480
           replace q480:=eq_true q480
           have p484:0≤(x22_1:Int):=of_decide_eq_true (by (with_reducible assumption))
           have q484:x22_1<(t470.length:Int):=of_decide_eq_true (by (with_reducible assumption))
           obtain ⟨ad484,A484_0,c484_0,e484,hx484_0,hl484_0,hi484_0⟩:=at_L6 (Kd.S_reads' HO_4.out).2.2 x22_1 p484 q484
           cases e484
           obtain ⟨ce484,hce484,hMe484,hcc484⟩:=Kd.S_get HO_4.out [] x22_1 p484 (by exact q484)
           obtain ⟨ve484_0,rfl,ge484_0⟩:=hMe484
           have hv484_0:=hcc484 0 _ rfl
           rw [Nat.add_zero,show ((Kd.slice 3 (Kd.int .i64))).sz=1 from rfl,Nat.mul_one] at hv484_0
           replace hv484_0:=Option.some.inj (hv484_0.symm.trans hx484_0)
           rw [hv484_0] at ge484_0
           have HL484_0:=qaa.mk (show Kd.R (Kd.int .i64) 3 _ _ _ _ (qeh t470 x22_1) from ge484_0)
           clear hv484_0 ge484_0
           clear hcc484 hce484
           have HR484_0:=qaa.mk hi484_0
           have HC484_0:=qaa.mk hl484_0
           clear hi484_0 hl484_0
           replace p484:=eq_true p484
           replace q484:=eq_true q484
           refine qfb (n:=11) (S:=fun w'=>w'.cell? (ad480.add (x22_1).toNat)=some (.slice A480_0 ((qco t467 x22_1).f0).length c480_0)∧w'.cell? (ad484.add (x22_1).toNat)=some (.slice A484_0 (qeh t470 x22_1).length c484_0)) (ds:=[]) #[false,false,false,false,false,false,false,false,false,false,false] (by kernel_rfl) rfl rfl ⟨hx480_0,hx484_0⟩ (fun hHeld=>?_);refine qee qam.tab11 qam.bits11 (fun HT_ HW_=>?_)
           generalize wr.drew=w25 at HO_3 HO_4 BK464 HB HL480_0 HL484_0 HR480_0 HR484_0 hx480_0 hx484_0 hHeld ⊢
           refine qct (i:=0) (N:=some 25) (v:=?_) (a':=?_) #[true,false,false,false,false,false,false,false,false,false,false] rfl rfl (qck HT_.out (by kernel_rfl)) (fun _ _ _ h=>h) (Or.inl ⟨by rfl,?_⟩) ?_ ?_
           rotate_left
           ·intro w'
            go_simp
            with_reducible rfl
           rotate_left
           ·simp only [Act.put,List.setIfInBounds_toArray,List.set_cons_zero,List.set_cons_succ,qbk,qbm]
            rfl
           refine qct (i:=1) (N:=some 26) (v:=?_) (a':=?_) #[true,true,false,false,false,false,false,false,false,false,false] rfl rfl (qck HT_.out (by kernel_rfl)) (fun _ _ _ h=>h) (Or.inl ⟨by rfl,?_⟩) ?_ ?_
           rotate_left
           ·intro w'
            go_simp
            with_reducible rfl
           rotate_left
           ·simp only [Act.put,List.setIfInBounds_toArray,List.set_cons_zero,List.set_cons_succ,qbk,qbm]
            rfl
           refine qct (i:=2) (N:=some 27) (v:=?_) (a':=?_) #[true,true,true,false,false,false,false,false,false,false,false] rfl rfl (qck HT_.out (by kernel_rfl)) (fun _ _ _ h=>h) (Or.inl ⟨by rfl,?_⟩) ?_ ?_
           rotate_left
           ·intro w'
            go_simp
            with_reducible rfl
           rotate_left
           ·simp only [Act.put,List.setIfInBounds_toArray,List.set_cons_zero,List.set_cons_succ,qbk,qbm]
            rfl
           refine qct (i:=5) (N:=some 30) (v:=?_) (a':=?_) #[true,true,true,false,false,true,false,false,false,false,false] rfl rfl (qck HT_.out (by kernel_rfl)) (fun _ _ _ h=>h) (Or.inl ⟨by rfl,?_⟩) ?_ ?_
           rotate_left
           ·intro w'
            go_simp
            with_reducible rfl
           rotate_left
           ·simp only [Act.put,List.setIfInBounds_toArray,List.set_cons_zero,List.set_cons_succ,qbk,qbm]
            rfl
           refine qct (i:=6) (N:=some 31) (v:=?_) (a':=?_) #[true,true,true,false,false,true,true,false,false,false,false] rfl rfl (qck HT_.out (by kernel_rfl)) (fun _ _ _ h=>h) (Or.inl ⟨by rfl,?_⟩) ?_ ?_
           rotate_left
           ·intro w'
            go_simp
            with_reducible rfl
           rotate_left
           ·simp only [Act.put,List.setIfInBounds_toArray,List.set_cons_zero,List.set_cons_succ,qbk,qbm]
            rfl
           refine qct (i:=7) (N:=some 32) (v:=?_) (a':=?_) #[true,true,true,false,false,true,true,true,false,false,false] rfl rfl (qck HT_.out (by kernel_rfl)) (fun _ _ _ h=>h) (Or.inl ⟨by rfl,?_⟩) ?_ ?_
           rotate_left
           ·intro w'
            go_simp
            with_reducible rfl
           rotate_left
           ·simp only [Act.put,List.setIfInBounds_toArray,List.set_cons_zero,List.set_cons_succ,qbk,qbm]
            rfl
           refine take_ (i:=3) (N:=some 28) (v:=?_) (a':=?_) #[true,true,true,true,false,true,true,true,false,false,false] rfl rfl (qcw HT_.out HW_.out (by kernel_rfl)) (fun _ _ _ h=>h) (Or.inl ⟨by rfl,?_⟩) hHeld ?_ ?_
           rotate_left
           ·rintro w' ⟨s0,s1⟩
            go_simp
            with_reducible rfl
           rotate_left
           ·simp only [Act.put,List.setIfInBounds_toArray,List.set_cons_zero,List.set_cons_succ,qbk,qbm]
            rfl
           refine take_ (i:=8) (N:=some 33) (v:=?_) (a':=?_) #[true,true,true,true,false,true,true,true,true,false,false] rfl rfl (qcw HT_.out HW_.out (by kernel_rfl)) (fun _ _ _ h=>h) (Or.inl ⟨by rfl,?_⟩) hHeld ?_ ?_
           rotate_left
           ·rintro w' ⟨s0,s1⟩
            go_simp
            with_reducible rfl
           rotate_left
           ·simp only [Act.put,List.setIfInBounds_toArray,List.set_cons_zero,List.set_cons_succ,qbk,qbm]
            rfl
           refine one_ (i:=4) (N:=some 29) #[true,true,true,true,true,true,true,true,true,false,false] rfl rfl (qdx HT_.out (by kernel_rfl)) (by decide) (fun K hK=>?_)
           refine qej Tryd.func23 (by kernel_rfl) rfl #[.agg #[.slice A480_0 ((qco t467 x22_1).f0).length c480_0]] (by rfl) rfl rfl (by (try simp only [List.map_toArray,List.map_cons,List.map_nil]);rfl) ?_
           with_reducible refine (qcq.calls _ _ ((qco t467 x22_1).f0) t481 _ ?side1 ?side2 ?side3 A21.out).mono ?_
           (case side1=>exact TabW.below' HTB.out HB.out)
           (case side2=>repeat (exact HR480_0.out))
           (case side3=>exact HC480_0.out)
           rintro e w26 ⟨v482,rfl,ho0,hb⟩
           have HS0_:=(hb.cell (World.block_lt_of_cell? _ _ (hHeld.1))).trans (hHeld.1)
           have HS1_:=(hb.cell (World.block_lt_of_cell? _ _ (hHeld.2))).trans (hHeld.2)
           refine ⟨_,rfl,?_⟩
           have n0_:=qaa.mk (Kd.V_elder' (by (with_reducible repeat (apply Kd.V_drew));exact HO_3.out) (Kd.R_base ho0) hb)
           have n1_:=qaa.mk (Kd.S_elder' (by (with_reducible repeat (apply Kd.S_drew));exact HO_4.out) (Kd.R_base ho0) hb)
           have n2_:=qaa.mk (Kd.V_elder' (by (with_reducible repeat (apply Kd.V_drew));exact HL480_0.out) (Kd.R_base ho0) hb)
           have n3_:=qaa.mk (Kd.R_elder' (by (with_reducible repeat (apply Kd.R_drew));exact HL484_0.out) (Kd.R_base ho0) hb)
           have n4_:=qaa.mk (Kd.R_lower (Kd.R_new' ho0 (Kd.R_lt (by (with_reducible repeat (apply Kd.R_drew));exact HL484_0.out))) (qac HB.out))
           have n5_:=qaa.mk (qah (g:=gb464) (o:=.cells #[.bool a0_0,.int .i64 a0_1,.slice A0_2 l0_2.length c0_2] 24 (0,0)) (by (with_reducible repeat (refine qab ?_));exact BK464.out) hb)
           have n6_:=qaa.mk (Kd.C_below HR480_0.out hb)
           have n7_:=qaa.mk (Kd.C_below HR484_0.out hb)
           have n8_:=qaa.mk (qal HB.out hb)
           clear HO_3
           clear HO_4
           clear HL480_0
           clear HL484_0
           clear BK464
           clear HR480_0
           clear HR484_0
           clear HB
           have HO_3:=n0_
           have HO_4:=n1_
           have HL480_0:=n2_
           have HL484_0:=n3_
           have HO483:=n4_
           have BK464:=n5_
           have HR480_0:=n6_
           have HR484_0:=n7_
           have HB:=n8_
           clear n0_ n1_ n2_ n3_ n4_ n5_ n6_ n7_ n8_
           (try clear hb)
           (try clear ho0)
           obtain ⟨Ao27,co27,eo27⟩:=Kd.R_slice HO483.out
           (subst eo27)
           refine hK.out _ _ ⟨HS0_,HS1_⟩ (fun hHeld=>?_)
           clear hK K
           refine qdt (a':=?_) ?_ ?_
           rotate_left
           ·show Act.put _ (some 29) _=_
            simp only [Act.put,List.setIfInBounds_toArray,List.set_cons_zero,List.set_cons_succ,qbk,qbm]
            rfl
           refine one_ (i:=9) (N:=some 34) #[true,true,true,true,true,true,true,true,true,true,false] rfl rfl (qdx HT_.out (by kernel_rfl)) (by decide) (fun K hK=>?_)
           refine qej Tryd.func18 (by kernel_rfl) rfl #[.slice Ao27 t481.length co27,.slice A484_0 (qeh t470 x22_1).length c484_0] (by rfl) rfl rfl (by (try simp only [List.map_toArray,List.map_cons,List.map_nil]);rfl) ?_
           with_reducible refine (qak.calls k1 _ _ t481 _ _ (qeh t470 x22_1) true _ ?side1 ?side2 ?side3 ?side4 A23.out).mono ?_
           (case side1=>repeat (exact (Kd.R_reads' HO483.out).2.2))
           (case side2=>exact (Kd.R_reads' HO483.out).2.1)
           (case side3=>repeat (exact HR484_0.out))
           (case side4=>exact HC484_0.out)
           rintro e w' ⟨rfl,⟨nd,rfl⟩⟩
           refine ⟨_,rfl,?_⟩
           refine hK.out _ _ ⟨hHeld.1,hHeld.2⟩ (fun hHeld=>?_)
           clear hK K
           refine qdt (a':=?_) ?_ ?_
           rotate_left
           ·show Act.put _ (some 34) _=_
            simp only [Act.put,List.setIfInBounds_toArray,List.set_cons_zero,List.set_cons_succ,qbk,qbm]
            rfl
           refine qct (i:=10) (N:=some 35) (v:=?_) (a':=?_) #[true,true,true,true,true,true,true,true,true,true,true] rfl rfl (qck HT_.out (by kernel_rfl)) (fun _ _ _ h=>h) (Or.inl ⟨by rfl,?_⟩) ?_ ?_
           rotate_left
           ·intro w'
            go_simp
            with_reducible rfl
           rotate_left
           ·simp only [Act.put,List.setIfInBounds_toArray,List.set_cons_zero,List.set_cons_succ,qbk,qbm]
            rfl
           refine qfq (qfd HT_.out (by kernel_rfl)) ?_
           try go_wp2
           go_roundg k1
           case measure=>have:=HK1.out;omega
           case rel=>exact ⟨(wrap64 (x22_1+1)),(by rfl),H',⟨by have:=HK1.out;omega⟩,⟨by (with_reducible repeat (apply Kd.V_drewN));exact Kd.V_mono HO_3.out (fun _ hk=>⟨hk.1.1,hk.1.2⟩)⟩,⟨by (with_reducible repeat (apply Kd.S_drewN));exact Kd.S_mono HO_4.out (fun _ hk=>trivial)⟩,⟨by (with_reducible repeat (refine qde ?_ _));exact BK464.out⟩,⟨by repeat ((with_reducible first|exact HB.out|apply qav))⟩⟩
          ·replace c24:=Bool.eq_false_iff.mpr c24
           subst c24
           have H1:(some false)=some r:=by rw [if_neg (show ¬ (false=true) by decide)] at H;exact H
           clear H
           have H:=H1
           clear H1
           obtain rfl:=Option.some.inj H
           try go_wp2
           have n0_:=qaa.mk (Kd.V_drew HO_3.out)
           have n1_:=qaa.mk (Kd.S_drew HO_4.out)
           have n2_:=qaa.mk (qab BK464.out)
           have n3_:=qaa.mk (qdb HB.out)
           clear HO_3
           clear HO_4
           clear BK464
           clear HB
           have HO_3:=n0_
           have HO_4:=n1_
           have BK464:=n2_
           have HB:=n3_
           clear n0_ n1_ n2_ n3_
           have p480:0≤(x22_1:Int):=of_decide_eq_true (by (with_reducible assumption))
           have q480:x22_1<(t467.length:Int):=of_decide_eq_true (by (with_reducible assumption))
           obtain ⟨ad480,A480_0,c480_0,e480,hx480_0,hl480_0,hi480_0⟩:=at_T38 (Kd.V_reads' HO_3.out).2.2 x22_1 p480 q480
           cases e480
           obtain ⟨ce480,hce480,hMe480,hcc480⟩:=Kd.V_get HO_3.out z38 x22_1 p480 (by exact q480)
           obtain ⟨ua480_0,uc480_0,rfl,ul480_0,ge480_0⟩:=qfo hMe480
           have hv480_0:=hcc480 0 _ rfl
           rw [Nat.add_zero,show (k38).sz=1 from rfl,Nat.mul_one] at hv480_0
           replace hv480_0:=Option.some.inj (hv480_0.symm.trans hx480_0)
           injection hv480_0 with hva_ hvn_ hvc_
           rw [hva_] at ge480_0
           rw [hvc_] at ul480_0
           have HL480_0:=qaa.mk (show Kd.V (Kd.int .u64) 77 _ w.heap.size _ _ ((qco t467 x22_1).f0) from Kd.V_mk ul480_0 ge480_0)
           clear hva_ hvn_ hvc_ ge480_0 ul480_0
           clear hcc480 hce480
           have HR480_0:=qaa.mk hi480_0
           have HC480_0:=qaa.mk hl480_0
           clear hi480_0 hl480_0
           replace p480:=eq_true p480
           replace q480:=eq_true q480
           have p484:0≤(x22_1:Int):=of_decide_eq_true (by (with_reducible assumption))
           have q484:x22_1<(t470.length:Int):=of_decide_eq_true (by (with_reducible assumption))
           obtain ⟨ad484,A484_0,c484_0,e484,hx484_0,hl484_0,hi484_0⟩:=at_L6 (Kd.S_reads' HO_4.out).2.2 x22_1 p484 q484
           cases e484
           obtain ⟨ce484,hce484,hMe484,hcc484⟩:=Kd.S_get HO_4.out [] x22_1 p484 (by exact q484)
           obtain ⟨ve484_0,rfl,ge484_0⟩:=hMe484
           have hv484_0:=hcc484 0 _ rfl
           rw [Nat.add_zero,show ((Kd.slice 3 (Kd.int .i64))).sz=1 from rfl,Nat.mul_one] at hv484_0
           replace hv484_0:=Option.some.inj (hv484_0.symm.trans hx484_0)
           rw [hv484_0] at ge484_0
           have HL484_0:=qaa.mk (show Kd.R (Kd.int .i64) 3 _ _ _ _ (qeh t470 x22_1) from ge484_0)
           clear hv484_0 ge484_0
           clear hcc484 hce484
           have HR484_0:=qaa.mk hi484_0
           have HC484_0:=qaa.mk hl484_0
           clear hi484_0 hl484_0
           replace p484:=eq_true p484
           replace q484:=eq_true q484
           refine qfb (n:=11) (S:=fun w'=>w'.cell? (ad480.add (x22_1).toNat)=some (.slice A480_0 ((qco t467 x22_1).f0).length c480_0)∧w'.cell? (ad484.add (x22_1).toNat)=some (.slice A484_0 (qeh t470 x22_1).length c484_0)) (ds:=[]) #[false,false,false,false,false,false,false,false,false,false,false] (by kernel_rfl) rfl rfl ⟨hx480_0,hx484_0⟩ (fun hHeld=>?_);refine qee qam.tab11 qam.bits11 (fun HT_ HW_=>?_)
           generalize wr.drew=w28 at HO_3 HO_4 BK464 HB HL480_0 HL484_0 HR480_0 HR484_0 hx480_0 hx484_0 hHeld ⊢
           refine qct (i:=0) (N:=some 25) (v:=?_) (a':=?_) #[true,false,false,false,false,false,false,false,false,false,false] rfl rfl (qck HT_.out (by kernel_rfl)) (fun _ _ _ h=>h) (Or.inl ⟨by rfl,?_⟩) ?_ ?_
           rotate_left
           ·intro w'
            go_simp
            with_reducible rfl
           rotate_left
           ·simp only [Act.put,List.setIfInBounds_toArray,List.set_cons_zero,List.set_cons_succ,qbk,qbm]
            rfl
           refine qct (i:=1) (N:=some 26) (v:=?_) (a':=?_) #[true,true,false,false,false,false,false,false,false,false,false] rfl rfl (qck HT_.out (by kernel_rfl)) (fun _ _ _ h=>h) (Or.inl ⟨by rfl,?_⟩) ?_ ?_
           rotate_left
           ·intro w'
            go_simp
            with_reducible rfl
           rotate_left
           ·simp only [Act.put,List.setIfInBounds_toArray,List.set_cons_zero,List.set_cons_succ,qbk,qbm]
            rfl
           refine qct (i:=2) (N:=some 27) (v:=?_) (a':=?_) #[true,true,true,false,false,false,false,false,false,false,false] rfl rfl (qck HT_.out (by kernel_rfl)) (fun _ _ _ h=>h) (Or.inl ⟨by rfl,?_⟩) ?_ ?_
           rotate_left
           ·intro w'
            go_simp
            with_reducible rfl
           rotate_left
           ·simp only [Act.put,List.setIfInBounds_toArray,List.set_cons_zero,List.set_cons_succ,qbk,qbm]
            rfl
           refine qct (i:=5) (N:=some 30) (v:=?_) (a':=?_) #[true,true,true,false,false,true,false,false,false,false,false] rfl rfl (qck HT_.out (by kernel_rfl)) (fun _ _ _ h=>h) (Or.inl ⟨by rfl,?_⟩) ?_ ?_
           rotate_left
           ·intro w'
            go_simp
            with_reducible rfl
           rotate_left
           ·simp only [Act.put,List.setIfInBounds_toArray,List.set_cons_zero,List.set_cons_succ,qbk,qbm]
            rfl
           refine qct (i:=6) (N:=some 31) (v:=?_) (a':=?_) #[true,true,true,false,false,true,true,false,false,false,false] rfl rfl (qck HT_.out (by kernel_rfl)) (fun _ _ _ h=>h) (Or.inl ⟨by rfl,?_⟩) ?_ ?_
           rotate_left
           ·intro w'
            go_simp
            with_reducible rfl
           rotate_left
           ·simp only [Act.put,List.setIfInBounds_toArray,List.set_cons_zero,List.set_cons_succ,qbk,qbm]
            rfl
           refine qct (i:=7) (N:=some 32) (v:=?_) (a':=?_) #[true,true,true,false,false,true,true,true,false,false,false] rfl rfl (qck HT_.out (by kernel_rfl)) (fun _ _ _ h=>h) (Or.inl ⟨by rfl,?_⟩) ?_ ?_
           rotate_left
           ·intro w'
            go_simp
            with_reducible rfl
           rotate_left
           ·simp only [Act.put,List.setIfInBounds_toArray,List.set_cons_zero,List.set_cons_succ,qbk,qbm]
            rfl
           refine take_ (i:=3) (N:=some 28) (v:=?_) (a':=?_) #[true,true,true,true,false,true,true,true,false,false,false] rfl rfl (qcw HT_.out HW_.out (by kernel_rfl)) (fun _ _ _ h=>h) (Or.inl ⟨by rfl,?_⟩) hHeld ?_ ?_
           rotate_left
           ·rintro w' ⟨s0,s1⟩
            go_simp
            with_reducible rfl
           rotate_left
           ·simp only [Act.put,List.setIfInBounds_toArray,List.set_cons_zero,List.set_cons_succ,qbk,qbm]
            rfl
           refine take_ (i:=8) (N:=some 33) (v:=?_) (a':=?_) #[true,true,true,true,false,true,true,true,true,false,false] rfl rfl (qcw HT_.out HW_.out (by kernel_rfl)) (fun _ _ _ h=>h) (Or.inl ⟨by rfl,?_⟩) hHeld ?_ ?_
           rotate_left
           ·rintro w' ⟨s0,s1⟩
            go_simp
            with_reducible rfl
           rotate_left
           ·simp only [Act.put,List.setIfInBounds_toArray,List.set_cons_zero,List.set_cons_succ,qbk,qbm]
            rfl
           refine one_ (i:=4) (N:=some 29) #[true,true,true,true,true,true,true,true,true,false,false] rfl rfl (qdx HT_.out (by kernel_rfl)) (by decide) (fun K hK=>?_)
           refine qej Tryd.func23 (by kernel_rfl) rfl #[.agg #[.slice A480_0 ((qco t467 x22_1).f0).length c480_0]] (by rfl) rfl rfl (by (try simp only [List.map_toArray,List.map_cons,List.map_nil]);rfl) ?_
           with_reducible refine (qcq.calls _ _ ((qco t467 x22_1).f0) t481 _ ?side1 ?side2 ?side3 A21.out).mono ?_
           (case side1=>exact TabW.below' HTB.out HB.out)
           (case side2=>repeat (exact HR480_0.out))
           (case side3=>exact HC480_0.out)
           rintro e w29 ⟨v482,rfl,ho0,hb⟩
           have HS0_:=(hb.cell (World.block_lt_of_cell? _ _ (hHeld.1))).trans (hHeld.1)
           have HS1_:=(hb.cell (World.block_lt_of_cell? _ _ (hHeld.2))).trans (hHeld.2)
           refine ⟨_,rfl,?_⟩
           have n0_:=qaa.mk (Kd.V_elder' (by (with_reducible repeat (apply Kd.V_drew));exact HO_3.out) (Kd.R_base ho0) hb)
           have n1_:=qaa.mk (Kd.S_elder' (by (with_reducible repeat (apply Kd.S_drew));exact HO_4.out) (Kd.R_base ho0) hb)
           have n2_:=qaa.mk (Kd.V_elder' (by (with_reducible repeat (apply Kd.V_drew));exact HL480_0.out) (Kd.R_base ho0) hb)
           have n3_:=qaa.mk (Kd.R_elder' (by (with_reducible repeat (apply Kd.R_drew));exact HL484_0.out) (Kd.R_base ho0) hb)
           have n4_:=qaa.mk (Kd.R_lower (Kd.R_new' ho0 (Kd.R_lt (by (with_reducible repeat (apply Kd.R_drew));exact HL484_0.out))) (qac HB.out))
           have n5_:=qaa.mk (qah (g:=gb464) (o:=.cells #[.bool a0_0,.int .i64 a0_1,.slice A0_2 l0_2.length c0_2] 24 (0,0)) (by (with_reducible repeat (refine qab ?_));exact BK464.out) hb)
           have n6_:=qaa.mk (Kd.C_below HR480_0.out hb)
           have n7_:=qaa.mk (Kd.C_below HR484_0.out hb)
           have n8_:=qaa.mk (qal HB.out hb)
           clear HO_3
           clear HO_4
           clear HL480_0
           clear HL484_0
           clear BK464
           clear HR480_0
           clear HR484_0
           clear HB
           have HO_3:=n0_
           have HO_4:=n1_
           have HL480_0:=n2_
           have HL484_0:=n3_
           have HO483:=n4_
           have BK464:=n5_
           have HR480_0:=n6_
           have HR484_0:=n7_
           have HB:=n8_
           clear n0_ n1_ n2_ n3_ n4_ n5_ n6_ n7_ n8_
           (try clear hb)
           (try clear ho0)
           obtain ⟨Ao30,co30,eo30⟩:=Kd.R_slice HO483.out
           (subst eo30)
           refine hK.out _ _ ⟨HS0_,HS1_⟩ (fun hHeld=>?_)
           clear hK K
           refine qdt (a':=?_) ?_ ?_
           rotate_left
           ·show Act.put _ (some 29) _=_
            simp only [Act.put,List.setIfInBounds_toArray,List.set_cons_zero,List.set_cons_succ,qbk,qbm]
            rfl
           refine one_ (i:=9) (N:=some 34) #[true,true,true,true,true,true,true,true,true,true,false] rfl rfl (qdx HT_.out (by kernel_rfl)) (by decide) (fun K hK=>?_)
           refine qej Tryd.func18 (by kernel_rfl) rfl #[.slice Ao30 t481.length co30,.slice A484_0 (qeh t470 x22_1).length c484_0] (by rfl) rfl rfl (by (try simp only [List.map_toArray,List.map_cons,List.map_nil]);rfl) ?_
           with_reducible refine (qak.calls k1 _ _ t481 _ _ (qeh t470 x22_1) false _ ?side1 ?side2 ?side3 ?side4 A23.out).mono ?_
           (case side1=>repeat (exact (Kd.R_reads' HO483.out).2.2))
           (case side2=>exact (Kd.R_reads' HO483.out).2.1)
           (case side3=>repeat (exact HR484_0.out))
           (case side4=>exact HC484_0.out)
           rintro e w' ⟨rfl,⟨nd,rfl⟩⟩
           refine ⟨_,rfl,?_⟩
           refine hK.out _ _ ⟨hHeld.1,hHeld.2⟩ (fun hHeld=>?_)
           clear hK K
           refine qdt (a':=?_) ?_ ?_
           rotate_left
           ·show Act.put _ (some 34) _=_
            simp only [Act.put,List.setIfInBounds_toArray,List.set_cons_zero,List.set_cons_succ,qbk,qbm]
            rfl
           refine qct (i:=10) (N:=some 35) (v:=?_) (a':=?_) #[true,true,true,true,true,true,true,true,true,true,true] rfl rfl (qck HT_.out (by kernel_rfl)) (fun _ _ _ h=>h) (Or.inl ⟨by rfl,?_⟩) ?_ ?_
           rotate_left
           ·intro w'
            go_simp
            with_reducible rfl
           rotate_left
           ·simp only [Act.put,List.setIfInBounds_toArray,List.set_cons_zero,List.set_cons_succ,qbk,qbm]
            rfl
           refine qfq (qfd HT_.out (by kernel_rfl)) ?_
           try go_wp2
           go_ret
           exact ⟨by rfl,by repeat ((with_reducible first|exact HB.out|apply qav))⟩
         ·rw [if_neg c22] at H
          exact absurd H (by simp)
        ·rw [if_neg c20] at H
         exact absurd H (by simp)
       ·rw [if_neg c19] at H
        exact absurd H (by simp)
      ·rw [if_neg c18] at H
       have c18b0:decide (x22_1<(t470.length:Int))=false:=decide_eq_false c18
       clear c18
       replace H:=Option.bind_eq_some_iff.mp H
       obtain ⟨t473,A310,H⟩:=H
       replace H:((qbw.f k1 a0_0 a0_1 l0_2).bind fun t476=>((qak.f k1 t473 t476).bind fun t479=>(some t479)))=some r:=H
       have A31:=qaa.mk A310
       clear A310
       replace H:=Option.bind_eq_some_iff.mp H
       obtain ⟨t476,A320,H⟩:=H
       replace H:((qak.f k1 t473 t476).bind fun t479=>(some t479))=some r:=H
       have A32:=qaa.mk A320
       clear A320
       replace H:=Option.bind_eq_some_iff.mp H
       obtain ⟨t479,A330,H⟩:=H
       replace H:(some t479)=some r:=H
       have A33:=qaa.mk A330
       clear A330
       obtain rfl:=Option.some.inj H
       try go_wp2
       have n0_:=qaa.mk (Kd.V_drew HO_3.out)
       have n1_:=qaa.mk (Kd.S_drew HO_4.out)
       have n2_:=qaa.mk (qab BK464.out)
       have n3_:=qaa.mk (qdb HB.out)
       clear HO_3
       clear HO_4
       clear BK464
       clear HB
       have HO_3:=n0_
       have HO_4:=n1_
       have BK464:=n2_
       have HB:=n3_
       clear n0_ n1_ n2_ n3_
       refine qfb (n:=6) (S:=fun w'=>w'.cell? ⟨gb464,0,none⟩=some (.bool a0_0)∧w'.cell? ⟨gb464,1,none⟩=some (.int .i64 a0_1)∧w'.cell? ⟨gb464,2,none⟩=some (.slice A0_2 l0_2.length c0_2)) (ds:=[]) #[false,false,false,false,false,false] (by kernel_rfl) rfl rfl ⟨(qad BK464.out 0).trans rfl,(qad BK464.out 1).trans rfl,(qad BK464.out 2).trans rfl⟩ (fun hHeld=>?_)
       generalize wr.drew=w34 at HO_3 HO_4 BK464 HB hHeld ⊢
       refine take_ (i:=0) (N:=some 37) (v:=?_) (a':=?_) #[true,false,false,false,false,false] rfl rfl (by kernel_rfl) (fun _ _ _ h=>h) (Or.inl ⟨by rfl,?_⟩) hHeld ?_ ?_
       rotate_left
       ·rintro w' ⟨s0,s1,s2⟩
        go_simp
        with_reducible rfl
       rotate_left
       ·simp only [Act.put,List.setIfInBounds_toArray,List.set_cons_zero,List.set_cons_succ,qbk,qbm]
        rfl
       refine take_ (i:=2) (N:=some 39) (v:=?_) (a':=?_) #[true,false,true,false,false,false] rfl rfl (by kernel_rfl) (fun _ _ _ h=>h) (Or.inl ⟨by rfl,?_⟩) hHeld ?_ ?_
       rotate_left
       ·rintro w' ⟨s0,s1,s2⟩
        go_simp
        with_reducible rfl
       rotate_left
       ·simp only [Act.put,List.setIfInBounds_toArray,List.set_cons_zero,List.set_cons_succ,qbk,qbm]
        rfl
       refine one_ (i:=1) (N:=some 38) #[true,true,true,false,false,false] rfl rfl (by kernel_rfl) (by decide) (fun K hK=>?_)
       refine qej Tryd.func24 (by kernel_rfl) rfl #[.agg #[.bool a0_0,.int .i64 a0_1,.slice A0_2 l0_2.length c0_2]] (by rfl) rfl rfl (by (try simp only [List.map_toArray,List.map_cons,List.map_nil]);rfl) ?_
       with_reducible refine (qbg.calls a0_0 a0_1 _ _ l0_2 t473 _ ?side1 ?side2 ?side3 A31.out).mono ?_
       (case side1=>exact TabW.below' HTB.out HB.out)
       (case side2=>repeat (exact (Kd.C_below HR0_2.out HB.out)))
       (case side3=>exact HC0_2.out)
       rintro e w35 ⟨v474,rfl,ho0,hb⟩
       refine ⟨_,rfl,?_⟩
       have n0_:=qaa.mk (Kd.V_elder' (by (with_reducible repeat (apply Kd.V_drew));exact HO_3.out) (Kd.R_base ho0) hb)
       have n1_:=qaa.mk (Kd.S_elder' (by (with_reducible repeat (apply Kd.S_drew));exact HO_4.out) (Kd.R_base ho0) hb)
       have n2_:=qaa.mk (Kd.R_lower ho0 (qac HB.out))
       have n3_:=qaa.mk (qah (g:=gb464) (o:=.cells #[.bool a0_0,.int .i64 a0_1,.slice A0_2 l0_2.length c0_2] 24 (0,0)) (by (with_reducible repeat (refine qab ?_));exact BK464.out) hb)
       have n4_:=qaa.mk (qal HB.out hb)
       clear HO_3
       clear HO_4
       clear BK464
       clear HB
       have HO_3:=n0_
       have HO_4:=n1_
       have HO475:=n2_
       have BK464:=n3_
       have HB:=n4_
       clear n0_ n1_ n2_ n3_ n4_
       (try clear hb)
       (try clear ho0)
       refine hK.out _ _ ⟨(qad BK464.out 0).trans rfl,(qad BK464.out 1).trans rfl,(qad BK464.out 2).trans rfl⟩ (fun hHeld=>?_)
       clear hK K
       refine qdt (a':=?_) ?_ ?_
       rotate_left
       ·show Act.put _ (some 38) _=_
        simp only [Act.put,List.setIfInBounds_toArray,List.set_cons_zero,List.set_cons_succ,qbk,qbm]
        rfl
       refine one_ (i:=3) (N:=some 40) #[true,true,true,true,false,false] rfl rfl (by kernel_rfl) (by decide) (fun K hK=>?_)
       refine qej Tryd.func25 (by kernel_rfl) rfl #[.agg #[.bool a0_0,.int .i64 a0_1,.slice A0_2 l0_2.length c0_2]] (by rfl) rfl rfl (by (try simp only [List.map_toArray,List.map_cons,List.map_nil]);rfl) ?_
       with_reducible refine (qbw.calls k1 a0_0 a0_1 _ _ l0_2 t476 _ ?side1 ?side2 A32.out).mono ?_
       (case side1=>repeat (exact (Kd.C_below HR0_2.out HB.out)))
       (case side2=>exact HC0_2.out)
       rintro e w36 ⟨v477,rfl,ho0,hb⟩
       refine ⟨_,rfl,?_⟩
       have n0_:=qaa.mk (Kd.V_elder' (by (with_reducible repeat (apply Kd.V_drew));exact HO_3.out) (Kd.R_base ho0) hb)
       have n1_:=qaa.mk (Kd.S_elder' (by (with_reducible repeat (apply Kd.S_drew));exact HO_4.out) (Kd.R_base ho0) hb)
       have n2_:=qaa.mk (Kd.R_elder' (by (with_reducible repeat (apply Kd.R_drew));exact HO475.out) (Kd.R_base ho0) hb)
       have n3_:=qaa.mk (Kd.R_lower (Kd.R_new' ho0 (Kd.R_lt (by (with_reducible repeat (apply Kd.R_drew));exact HO475.out))) (qac HB.out))
       have n4_:=qaa.mk (qah (g:=gb464) (o:=.cells #[.bool a0_0,.int .i64 a0_1,.slice A0_2 l0_2.length c0_2] 24 (0,0)) (by (with_reducible repeat (refine qab ?_));exact BK464.out) hb)
       have n5_:=qaa.mk (qal HB.out hb)
       clear HO_3
       clear HO_4
       clear HO475
       clear BK464
       clear HB
       have HO_3:=n0_
       have HO_4:=n1_
       have HO475:=n2_
       have HO478:=n3_
       have BK464:=n4_
       have HB:=n5_
       clear n0_ n1_ n2_ n3_ n4_ n5_
       (try clear hb)
       (try clear ho0)
       obtain ⟨Ao37,co37,eo37⟩:=Kd.R_slice HO475.out
       (subst eo37)
       obtain ⟨Ao38,co38,eo38⟩:=Kd.R_slice HO478.out
       (subst eo38)
       refine hK.out _ _ ⟨(qad BK464.out 0).trans rfl,(qad BK464.out 1).trans rfl,(qad BK464.out 2).trans rfl⟩ (fun hHeld=>?_)
       clear hK K
       refine qdt (a':=?_) ?_ ?_
       rotate_left
       ·show Act.put _ (some 40) _=_
        simp only [Act.put,List.setIfInBounds_toArray,List.set_cons_zero,List.set_cons_succ,qbk,qbm]
        rfl
       refine one_ (i:=4) (N:=some 41) #[true,true,true,true,true,false] rfl rfl (by kernel_rfl) (by decide) (fun K hK=>?_)
       refine qej Tryd.func18 (by kernel_rfl) rfl #[.slice Ao37 t473.length co37,.slice Ao38 t476.length co38] (by rfl) rfl rfl (by (try simp only [List.map_toArray,List.map_cons,List.map_nil]);rfl) ?_
       with_reducible refine (qak.calls k1 _ _ t473 _ _ t476 t479 _ ?side1 ?side2 ?side3 ?side4 A33.out).mono ?_
       (case side1=>repeat (exact (Kd.R_reads' HO475.out).2.2))
       (case side2=>exact (Kd.R_reads' HO475.out).2.1)
       (case side3=>repeat (exact (Kd.R_reads' HO478.out).2.2))
       (case side4=>exact (Kd.R_reads' HO478.out).2.1)
       rintro e w' ⟨rfl,⟨nd,rfl⟩⟩
       refine ⟨_,rfl,?_⟩
       refine hK.out _ _ ⟨(qad BK464.out 0).trans rfl,(qad BK464.out 1).trans rfl,(qad BK464.out 2).trans rfl⟩ (fun hHeld=>?_)
       clear hK K
       refine qdt (a':=?_) ?_ ?_
       rotate_left
       ·show Act.put _ (some 41) _=_
        simp only [Act.put,List.setIfInBounds_toArray,List.set_cons_zero,List.set_cons_succ,qbk,qbm]
        rfl
       refine qct (i:=5) (N:=some 2) (v:=?_) (a':=?_) #[true,true,true,true,true,true] rfl rfl (by kernel_rfl) (fun _ _ _ h=>h) (Or.inl ⟨by rfl,?_⟩) ?_ ?_
       rotate_left
       ·intro w'
        go_simp
        with_reducible rfl
       rotate_left
       ·simp only [Act.put,List.setIfInBounds_toArray,List.set_cons_zero,List.set_cons_succ,qbk,qbm]
        rfl
       refine qfq (by kernel_rfl) ?_
       try go_wp2
       go_ret
       exact ⟨by rfl,by repeat ((with_reducible first|exact HB.out|apply qav))⟩
   ·rw [if_neg c8] at H
    have c8b0:((t467.length:Int)==(t470.length:Int))=false:=beq_eq_false_iff_ne.mpr c8
    have c8b1:((t467.length:Int)!=(t470.length:Int))=true:=bne_iff_ne.mpr c8
    have c8b2:(t467.length==t470.length)=false:=by (simp at c8 ⊢;omega)
    obtain rfl:=Option.some.inj H
    go_enter Tryd.func5,Tryd.ntmps5
    try go_wp2_with (first|((with_reducible refine qbf (N:=1) rfl ?_);refine qbr ?hg (N:=1) ?hd (cs:=#[.bool a0_0,.int .i64 a0_1,.slice A0_2 l0_2.length c0_2]) (t:=24) ?hr ?_;(case hd=>rfl);(case hg=>rfl);(case hr=>(go_simp;done));intro gb464 hg w39 hbox hb;have BK464:=qaa.mk (hbox);have GW464:=qaa.mk ((by rw [hg];exact (qac HB.out):w.heap.size≤gb464));have GE464:=qaa.mk ((by rw [hg];exact (qac HB.out):w.heap.size≤gb464));replace HB:=qaa.mk (qal HB.out hb);clear hb hbox hg)|((with_reducible refine qbb (f:=11) rfl ?_);refine qcv (some 6) rfl rfl Tryd.func11 (by kernel_rfl) rfl #[] rfl (by (try simp only [List.map_toArray,List.map_cons,List.map_nil]);done) ?_;(with_reducible refine (qbp.calls k  true _ ?side1 A2.out).mono ?_);(case side1=>exact TabW.below' HTB.out HB.out);rintro e w40 ⟨rfl,hb⟩;refine ⟨_,rfl,?_⟩;replace BK464:=qaa.mk (qah (g:=gb464) (o:=.cells #[.bool a0_0,.int .i64 a0_1,.slice A0_2 l0_2.length c0_2] 24 (0,0)) (by (with_reducible repeat (refine qab ?_));exact BK464.out) hb);replace HB:=qaa.mk (qal HB.out hb);(try clear hb);have hcz41_0:w40.cell? ⟨gb464,0,none⟩=some (.bool a0_0):=(qad BK464.out 0).trans rfl;have hcz41_1:w40.cell? ⟨gb464,1,none⟩=some (.int .i64 a0_1):=(qad BK464.out 1).trans rfl;have hcz41_2:w40.cell? ⟨gb464,2,none⟩=some (.slice A0_2 l0_2.length c0_2):=(qad BK464.out 2).trans rfl;have hfz41_0:=qaf BK464.out 0;have hfz41_1:=qaf BK464.out 1;have hfz41_2:=qaf BK464.out 2)|((with_reducible refine qbb (f:=12) rfl ?_);refine qcv (some 9) rfl rfl Tryd.func12 (by kernel_rfl) rfl #[.agg #[.bool a0_0,.int .i64 a0_1,.slice A0_2 l0_2.length c0_2]] rfl (by (try simp only [List.map_toArray,List.map_cons,List.map_nil]);rfl) ?_;(with_reducible refine (qas.calls k a0_0 a0_1 _ _ l0_2 true _ ?side1 ?side2 A4.out).mono ?_);(case side1=>repeat (exact (Kd.C_below HR0_2.out HB.out)));(case side2=>exact HC0_2.out);rintro e w42 ⟨rfl,hb⟩;refine ⟨_,rfl,?_⟩;replace BK464:=qaa.mk (qah (g:=gb464) (o:=.cells #[.bool a0_0,.int .i64 a0_1,.slice A0_2 l0_2.length c0_2] 24 (0,0)) (by (with_reducible repeat (refine qab ?_));exact BK464.out) hb);replace HB:=qaa.mk (qal HB.out hb);(try clear hb)))
    have n0_:=qaa.mk (qab BK464.out)
    have n1_:=qaa.mk (qdb HB.out)
    clear BK464
    clear HB
    have BK464:=n0_
    have HB:=n1_
    clear n0_ n1_
    refine qfb (n:=6) (S:=fun w'=>w'.cell? ⟨gb464,0,none⟩=some (.bool a0_0)∧w'.cell? ⟨gb464,1,none⟩=some (.int .i64 a0_1)∧w'.cell? ⟨gb464,2,none⟩=some (.slice A0_2 l0_2.length c0_2)) (ds:=[]) #[false,false,false,false,false,false] (by kernel_rfl) rfl rfl ⟨(qad BK464.out 0).trans rfl,(qad BK464.out 1).trans rfl,(qad BK464.out 2).trans rfl⟩ (fun hHeld=>?_)
    generalize w42.drew=w43 at BK464 HB hHeld ⊢
    refine take_ (i:=0) (N:=some 11) (v:=?_) (a':=?_) #[true,false,false,false,false,false] rfl rfl (by kernel_rfl) (fun _ _ _ h=>h) (Or.inl ⟨by rfl,?_⟩) hHeld ?_ ?_
    rotate_left
    ·rintro w' ⟨s0,s1,s2⟩
     go_simp
     with_reducible rfl
    rotate_left
    ·simp only [Act.put,List.setIfInBounds_toArray,List.set_cons_zero,List.set_cons_succ,qbk,qbm]
     rfl
    refine take_ (i:=2) (N:=some 13) (v:=?_) (a':=?_) #[true,false,true,false,false,false] rfl rfl (by kernel_rfl) (fun _ _ _ h=>h) (Or.inl ⟨by rfl,?_⟩) hHeld ?_ ?_
    rotate_left
    ·rintro w' ⟨s0,s1,s2⟩
     go_simp
     with_reducible rfl
    rotate_left
    ·simp only [Act.put,List.setIfInBounds_toArray,List.set_cons_zero,List.set_cons_succ,qbk,qbm]
     rfl
    refine one_ (i:=1) (N:=some 12) #[true,true,true,false,false,false] rfl rfl (by kernel_rfl) (by decide) (fun K hK=>?_)
    refine qej Tryd.func21 (by kernel_rfl) rfl #[.agg #[.bool a0_0,.int .i64 a0_1,.slice A0_2 l0_2.length c0_2]] (by rfl) rfl rfl (by (try simp only [List.map_toArray,List.map_cons,List.map_nil]);rfl) ?_
    with_reducible refine (qbd.calls a0_0 a0_1 _ _ l0_2 t467 _ ?side1 ?side2 ?side3 A6.out).mono ?_
    (case side1=>exact TabW.below' HTB.out HB.out)
    (case side2=>repeat (exact (Kd.C_below HR0_2.out HB.out)))
    (case side3=>exact HC0_2.out)
    rintro e w44 ⟨v468,rfl,ho0,hb⟩
    refine ⟨_,rfl,?_⟩
    have n0_:=qaa.mk (Kd.V_lower (Kd.V_mono (ok':=fun k_=>k_≠gb464) ho0 (fun k_ hk_=>(Kd.freshB (g:=gb464) (o:=.cells #[.bool a0_0,.int .i64 a0_1,.slice A0_2 l0_2.length c0_2] 24 (0,0)) (by (with_reducible repeat (refine qab ?_));exact BK464.out) k_ hk_))) (qac HB.out))
    have n1_:=qaa.mk (qah (g:=gb464) (o:=.cells #[.bool a0_0,.int .i64 a0_1,.slice A0_2 l0_2.length c0_2] 24 (0,0)) (by (with_reducible repeat (refine qab ?_));exact BK464.out) hb)
    have n2_:=qaa.mk (qal HB.out hb)
    clear BK464
    clear HB
    have HO469:=n0_
    have BK464:=n1_
    have HB:=n2_
    clear n0_ n1_ n2_
    (try clear hb)
    (try clear ho0)
    refine hK.out _ _ ⟨(qad BK464.out 0).trans rfl,(qad BK464.out 1).trans rfl,(qad BK464.out 2).trans rfl⟩ (fun hHeld=>?_)
    clear hK K
    refine qdt (a':=?_) ?_ ?_
    rotate_left
    ·show Act.put _ (some 12) _=_
     simp only [Act.put,List.setIfInBounds_toArray,List.set_cons_zero,List.set_cons_succ,qbk,qbm]
     rfl
    refine one_ (i:=3) (N:=some 14) #[true,true,true,true,false,false] rfl rfl (by kernel_rfl) (by decide) (fun K hK=>?_)
    refine qej Tryd.func22 (by kernel_rfl) rfl #[.agg #[.bool a0_0,.int .i64 a0_1,.slice A0_2 l0_2.length c0_2]] (by rfl) rfl rfl (by (try simp only [List.map_toArray,List.map_cons,List.map_nil]);rfl) ?_
    with_reducible refine (qai.calls k a0_0 a0_1 _ _ l0_2 t470 _ ?side1 ?side2 A7.out).mono ?_
    (case side1=>repeat (exact (Kd.C_below HR0_2.out HB.out)))
    (case side2=>exact HC0_2.out)
    rintro e w45 ⟨v471,rfl,ho0,hb⟩
    refine ⟨_,rfl,?_⟩
    have n0_:=qaa.mk (Kd.V_elder' (by (with_reducible repeat (apply Kd.V_drew));exact HO469.out) (Kd.S_base ho0) hb)
    have n1_:=qaa.mk (Kd.S_lower ho0 (qac HB.out))
    have n2_:=qaa.mk (qah (g:=gb464) (o:=.cells #[.bool a0_0,.int .i64 a0_1,.slice A0_2 l0_2.length c0_2] 24 (0,0)) (by (with_reducible repeat (refine qab ?_));exact BK464.out) hb)
    have n3_:=qaa.mk (qal HB.out hb)
    clear HO469
    clear BK464
    clear HB
    have HO469:=n0_
    have HO472:=n1_
    have BK464:=n2_
    have HB:=n3_
    clear n0_ n1_ n2_ n3_
    (try clear hb)
    (try clear ho0)
    refine hK.out _ _ ⟨(qad BK464.out 0).trans rfl,(qad BK464.out 1).trans rfl,(qad BK464.out 2).trans rfl⟩ (fun hHeld=>?_)
    clear hK K
    refine qdt (a':=?_) ?_ ?_
    rotate_left
    ·show Act.put _ (some 14) _=_
     simp only [Act.put,List.setIfInBounds_toArray,List.set_cons_zero,List.set_cons_succ,qbk,qbm]
     rfl
    refine qct (i:=4) (N:=some 3) (v:=?_) (a':=?_) #[true,true,true,true,true,false] rfl rfl (by kernel_rfl) (fun _ _ _ h=>h) (Or.inl ⟨by rfl,?_⟩) ?_ ?_
    rotate_left
    ·intro w'
     go_simp
     with_reducible rfl
    rotate_left
    ·simp only [Act.put,List.setIfInBounds_toArray,List.set_cons_zero,List.set_cons_succ,qbk,qbm]
     rfl
    refine qct (i:=5) (N:=some 4) (v:=?_) (a':=?_) #[true,true,true,true,true,true] rfl rfl (by kernel_rfl) (fun _ _ _ h=>h) (Or.inl ⟨by rfl,?_⟩) ?_ ?_
    rotate_left
    ·intro w'
     go_simp
     with_reducible rfl
    rotate_left
    ·simp only [Act.put,List.setIfInBounds_toArray,List.set_cons_zero,List.set_cons_succ,qbk,qbm]
     rfl
    refine qfq (by kernel_rfl) ?_
    obtain ⟨Ao46,co46,eo46⟩:=Kd.V_slice HO469.out
    subst eo46
    obtain ⟨Ao47,co47,eo47⟩:=Kd.S_slice HO472.out
    subst eo47
    try go_wp2
    go_ret
    exact ⟨by rfl,by repeat ((with_reducible exact HB.out))⟩
  ·replace c5:=Bool.eq_false_iff.mpr c5
   subst c5
   have H1:(some true)=some r:=by rw [if_neg (show ¬ (false=true) by decide)] at H;exact H
   clear H
   have H:=H1
   clear H1
   obtain rfl:=Option.some.inj H
   go_enter Tryd.func5,Tryd.ntmps5
   go_wp2_with (first|((with_reducible refine qbf (N:=1) rfl ?_);refine qbr ?hg (N:=1) ?hd (cs:=#[.bool a0_0,.int .i64 a0_1,.slice A0_2 l0_2.length c0_2]) (t:=24) ?hr ?_;(case hd=>rfl);(case hg=>rfl);(case hr=>(go_simp;done));intro gb464 hg w48 hbox hb;have BK464:=qaa.mk (hbox);have GW464:=qaa.mk ((by rw [hg];exact (qac HB.out):w.heap.size≤gb464));have GE464:=qaa.mk ((by rw [hg];exact (qac HB.out):w.heap.size≤gb464));replace HB:=qaa.mk (qal HB.out hb);clear hb hbox hg)|((with_reducible refine qbb (f:=11) rfl ?_);refine qcv (some 6) rfl rfl Tryd.func11 (by kernel_rfl) rfl #[] rfl (by (try simp only [List.map_toArray,List.map_cons,List.map_nil]);done) ?_;(with_reducible refine (qbp.calls k  true _ ?side1 A2.out).mono ?_);(case side1=>exact TabW.below' HTB.out HB.out);rintro e w49 ⟨rfl,hb⟩;refine ⟨_,rfl,?_⟩;replace BK464:=qaa.mk (qah (g:=gb464) (o:=.cells #[.bool a0_0,.int .i64 a0_1,.slice A0_2 l0_2.length c0_2] 24 (0,0)) (by (with_reducible repeat (refine qab ?_));exact BK464.out) hb);replace HB:=qaa.mk (qal HB.out hb);(try clear hb);have hcz50_0:w49.cell? ⟨gb464,0,none⟩=some (.bool a0_0):=(qad BK464.out 0).trans rfl;have hcz50_1:w49.cell? ⟨gb464,1,none⟩=some (.int .i64 a0_1):=(qad BK464.out 1).trans rfl;have hcz50_2:w49.cell? ⟨gb464,2,none⟩=some (.slice A0_2 l0_2.length c0_2):=(qad BK464.out 2).trans rfl;have hfz50_0:=qaf BK464.out 0;have hfz50_1:=qaf BK464.out 1;have hfz50_2:=qaf BK464.out 2)|((with_reducible refine qbb (f:=12) rfl ?_);refine qcv (some 9) rfl rfl Tryd.func12 (by kernel_rfl) rfl #[.agg #[.bool a0_0,.int .i64 a0_1,.slice A0_2 l0_2.length c0_2]] rfl (by (try simp only [List.map_toArray,List.map_cons,List.map_nil]);rfl) ?_;(with_reducible refine (qas.calls k a0_0 a0_1 _ _ l0_2 false _ ?side1 ?side2 A4.out).mono ?_);(case side1=>repeat (exact (Kd.C_below HR0_2.out HB.out)));(case side2=>exact HC0_2.out);rintro e w51 ⟨rfl,hb⟩;refine ⟨_,rfl,?_⟩;replace BK464:=qaa.mk (qah (g:=gb464) (o:=.cells #[.bool a0_0,.int .i64 a0_1,.slice A0_2 l0_2.length c0_2] 24 (0,0)) (by (with_reducible repeat (refine qab ?_));exact BK464.out) hb);replace HB:=qaa.mk (qal HB.out hb);(try clear hb)))
   go_ret
   exact ⟨by rfl,by repeat ((with_reducible exact HB.out))⟩
 ·replace c3:=Bool.eq_false_iff.mpr c3
  subst c3
  have H1:(some false)=some r:=by rw [if_neg (show ¬ (false=true) by decide)] at H;exact H
  clear H
  have H:=H1
  clear H1
  obtain rfl:=Option.some.inj H
  go_enter Tryd.func5,Tryd.ntmps5
  go_wp2_with (first|((with_reducible refine qbf (N:=1) rfl ?_);refine qbr ?hg (N:=1) ?hd (cs:=#[.bool a0_0,.int .i64 a0_1,.slice A0_2 l0_2.length c0_2]) (t:=24) ?hr ?_;(case hd=>rfl);(case hg=>rfl);(case hr=>(go_simp;done));intro gb464 hg w52 hbox hb;have BK464:=qaa.mk (hbox);have GW464:=qaa.mk ((by rw [hg];exact (qac HB.out):w.heap.size≤gb464));have GE464:=qaa.mk ((by rw [hg];exact (qac HB.out):w.heap.size≤gb464));replace HB:=qaa.mk (qal HB.out hb);clear hb hbox hg)|((with_reducible refine qbb (f:=11) rfl ?_);refine qcv (some 6) rfl rfl Tryd.func11 (by kernel_rfl) rfl #[] rfl (by (try simp only [List.map_toArray,List.map_cons,List.map_nil]);done) ?_;(with_reducible refine (qbp.calls k  false _ ?side1 A2.out).mono ?_);(case side1=>exact TabW.below' HTB.out HB.out);rintro e w53 ⟨rfl,hb⟩;refine ⟨_,rfl,?_⟩;replace BK464:=qaa.mk (qah (g:=gb464) (o:=.cells #[.bool a0_0,.int .i64 a0_1,.slice A0_2 l0_2.length c0_2] 24 (0,0)) (by (with_reducible repeat (refine qab ?_));exact BK464.out) hb);replace HB:=qaa.mk (qal HB.out hb);(try clear hb)))
  go_ret
  exact ⟨by rfl,by repeat ((with_reducible exact HB.out))⟩
end
end Go.Proofs.YtmfjmbcfaamebaaDoor.X
namespace Go.Proofs.YtmfjmbcfaamebaaDoor.X
open Go.RowKit Go.Proofs.YtmfjmbcfaamebaaDoorW.PrintWords Go.Proofs.YtmfjmbcfaamebaaDoorW.PrintLast Go.Proofs.YtmfjmbcfaamebaaDoorW.PrintMore
attribute [local go_sem] qbs qcb
set_option linter.unusedVariables false
set_option linter.unusedSimpArgs false
def qba.l0:Nat→List (List Int)→Int→Int→Bool→Int→List (S60)→Option ((List (List Int)))
 | 0,_,_,_,_,_,_=>none
 | k+1,x3,x7,x8,x294000,x294001,x294002=>if x8<x7 then ((qag.f k x294000 x294001 x294002 x8).bind fun t294=>((qbe.f k t294).bind fun t297=>(if x3.length<5864062014805 then (qba.l0 k (x3++[t297]) x7 (wrap64 (x8+1)) x294000 x294001 x294002) else (none)))) else (some x3)
def qba.f (k:Nat) (a0_0:Bool) (a0_1:Int) (l0_2:List (S60)):Option ((List (List Int))):=qba.l0 k ([]:List (List Int)) (l0_2.length:Int) 0 a0_0 a0_1 l0_2
theorem qba.mono_l:∀ k,(∀ y0 y1 y2 y3 y4 y5,LeO (qba.l0 k y0 y1 y2 y3 y4 y5) (qba.l0 (k+1) y0 y1 y2 y3 y4 y5))
 | 0=>fun _ _ _ _ _ _ r h=>by simp [qba.l0] at h
 | k+1=>by
  have ih0:=qba.mono_l k
  ·intro y0 y1 y2 y3 y4 y5
   unfold qba.l0
   repeat' first|(with_reducible exact ih0 _ _ _ _ _ _)|(with_reducible exact qbe.mono _ _)|(with_reducible exact qag.mono _ _ _ _ _)|(with_reducible exact LeO.refl _)|(with_reducible refine LeO.ite ?_ ?_)|(with_reducible refine LeO.bind ?_ (fun _=>?_))
theorem qba.mono:∀ a0 a1 a2 k,LeO (qba.f k a0 a1 a2) (qba.f (k+1) a0 a1 a2):=by
 intro a0 a1 a2 k
 have ih0:=qba.mono_l k
 unfold qba.f
 repeat' (with_reducible exact ih0 _ _ _ _ _ _)
end Go.Proofs.YtmfjmbcfaamebaaDoor.X
namespace Go.Proofs.YtmfjmbcfaamebaaDoor.X
open Go.RowKit Go.Proofs.YtmfjmbcfaamebaaDoorW.PrintWords Go.Proofs.YtmfjmbcfaamebaaDoorW.PrintLast Go.Proofs.YtmfjmbcfaamebaaDoorW.PrintMore
attribute [local go_sem] qbs qcb
set_option linter.unusedVariables false
set_option linter.unusedSimpArgs false
def qfz (k:Nat) (dom:List (List Int)) (a:Int):List Int→List S39→Option (List S39)
 | [],out=>some out
 | b::t,out=>if a<(dom.length:Int)∧out.length<1099511627776 then (qao.f k (dom.getD a.toNat []) b).bind fun h=>qfz k dom a t (if h=true then out++[⟨a,b⟩] else out) else none
def qff (k:Nat) (dom:List (List Int)):Nat→List (List Int)→List S39→Option (List S39)
 | _,[],out=>some out
 | a,l::t,out=>(qfz k dom (a:Int) l out).bind (qff k dom (a+1) t)
def qcm.f (k:Nat) (a0_0:Bool) (a0_1:Int) (l0_2:List S60):Option (List S39):=
 (qai.f k a0_0 a0_1 l0_2).bind fun dom=>(qba.f k a0_0 a0_1 l0_2).bind fun s=>qff k dom 0 s []
theorem qfz.mono (k:Nat) (dom:List (List Int)) (a:Int):∀ (l:List Int) (out:List S39),LeO (qfz k dom a l out) (qfz (k+1) dom a l out)
 | [],_=>LeO.refl _
 | b::t,out=>by
  unfold qfz
  exact LeO.ite (LeO.bind (qao.mono _ _ _) (fun _=>qfz.mono k dom a t _)) (LeO.refl _)
theorem qff.mono (k:Nat) (dom:List (List Int)):∀ (a:Nat) (l:List (List Int)) (out:List S39),LeO (qff k dom a l out) (qff (k+1) dom a l out)
 | _,[],_=>LeO.refl _
 | a,l::t,out=>by
  unfold qff
  exact LeO.bind (qfz.mono k dom _ l out) (fun _=>qff.mono k dom _ t _)
theorem qcm.mono:∀ a0 a1 a2 k,LeO (qcm.f k a0 a1 a2) (qcm.f (k+1) a0 a1 a2):=by
 intro a0 a1 a2 k
 unfold qcm.f
 exact LeO.bind (qai.mono _ _ _ _) (fun _=>LeO.bind (qba.mono _ _ _ _) (fun _=>qff.mono _ _ _ _ _))
end Go.Proofs.YtmfjmbcfaamebaaDoor.X
namespace Go.Proofs.YtmfjmbcfaamebaaDoor.X
open Go.RowKit Go.Proofs.YtmfjmbcfaamebaaDoorW.PrintWords Go.Proofs.YtmfjmbcfaamebaaDoorW.PrintLast Go.Proofs.YtmfjmbcfaamebaaDoorW.PrintMore
attribute [local go_sem] qbs qcb
set_option linter.unusedVariables false
set_option linter.unusedSimpArgs false
attribute [local go_sem high] eqA39
mutual
def qaw.l0:Nat→Bool→List (S39)→Int→Int→Bool→Int→List (S60)→Int→Int→Option (List Int)
 | 0,_,_,_,_,_,_,_,_,_=>none
 | k+1,x5,x12,x13,x14,x487000,x487001,x487002,x488000,x488001=>if x14<x13 then (if 0≤x14 then (if x14<(x12.length:Int) then (if x5=true then (qaw.l0 k true x12 x13 (wrap64 (x14+1)) x487000 x487001 x487002 x488000 x488001) else (qaw.l0 k (((qcn x12 x14).f0)==x488000&&(((qcn x12 x14).f1)==x488001)) x12 x13 (wrap64 (x14+1)) x487000 x487001 x487002 x488000 x488001)) else (none)) else (none)) else (if x5=true then ((qae.f k x487000 x487001 x487002 0 ([]:List Int)).bind fun t496=>(qaw.l1 k (([x488001]:List Int)) t496 (t496.length:Int) 0 x487000 x487001 x487002 x488000 x488001)) else (some ([]:List Int)))
def qaw.l1:Nat→List Int→List Int→Int→Int→Bool→Int→List (S60)→Int→Int→Option (List Int)
 | 0,_,_,_,_,_,_,_,_,_=>none
 | k+1,x8,x31,x32,x33,x487000,x487001,x487002,x488000,x488001=>if x33<x32 then (if 0≤x33 then (if x33<(x31.length:Int) then ((qae.f k x487000 x487001 x487002 (rd x31 x33) (([x488001]:List Int))).bind fun t506=>((qao.f k t506 x488000).bind fun t509=>(if t509=true then (if x8.length<17592186044416 then (qaw.l1 k (x8++[rd x31 x33]) x31 x32 (wrap64 (x33+1)) x487000 x487001 x487002 x488000 x488001) else (none)) else (qaw.l1 k x8 x31 x32 (wrap64 (x33+1)) x487000 x487001 x487002 x488000 x488001)))) else (none)) else (none)) else ((qbe.f k x8).bind fun t499=>(some t499))
end
def qaw.f (k:Nat) (a0_0:Bool) (a0_1:Int) (l0_2:List (S60)) (a1_0:Int) (a1_1:Int):Option (List Int):=(qcm.f k a0_0 a0_1 l0_2).bind fun t488=>(qaw.l0 k false t488 (t488.length:Int) 0 a0_0 a0_1 l0_2 a1_0 a1_1)
theorem qaw.mono_l:∀ k,(∀ y0 y1 y2 y3 y4 y5 y6 y7 y8,LeO (qaw.l0 k y0 y1 y2 y3 y4 y5 y6 y7 y8) (qaw.l0 (k+1) y0 y1 y2 y3 y4 y5 y6 y7 y8))∧(∀ y0 y1 y2 y3 y4 y5 y6 y7 y8,LeO (qaw.l1 k y0 y1 y2 y3 y4 y5 y6 y7 y8) (qaw.l1 (k+1) y0 y1 y2 y3 y4 y5 y6 y7 y8))
 | 0=>⟨fun _ _ _ _ _ _ _ _ _ r h=>by simp [qaw.l0] at h,fun _ _ _ _ _ _ _ _ _ r h=>by simp [qaw.l1] at h⟩
 | k+1=>by
  obtain ⟨ih0,ih1⟩:=qaw.mono_l k
  refine ⟨?_,?_⟩
  ·intro y0 y1 y2 y3 y4 y5 y6 y7 y8
   unfold qaw.l0
   repeat' first|(with_reducible exact ih0 _ _ _ _ _ _ _ _ _)|(with_reducible exact ih1 _ _ _ _ _ _ _ _ _)|(with_reducible exact qae.mono _ _ _ _ _ _)|(with_reducible exact LeO.refl _)|(with_reducible refine LeO.ite ?_ ?_)|(with_reducible refine LeO.bind ?_ (fun _=>?_))
  ·intro y0 y1 y2 y3 y4 y5 y6 y7 y8
   unfold qaw.l1
   repeat' first|(with_reducible exact ih1 _ _ _ _ _ _ _ _ _)|(with_reducible exact qao.mono _ _ _)|(with_reducible exact qbe.mono _ _)|(with_reducible exact qae.mono _ _ _ _ _ _)|(with_reducible exact LeO.refl _)|(with_reducible refine LeO.ite ?_ ?_)|(with_reducible refine LeO.bind ?_ (fun _=>?_))
theorem qaw.mono:∀ a0 a1 a2 a3 a4 k,LeO (qaw.f k a0 a1 a2 a3 a4) (qaw.f (k+1) a0 a1 a2 a3 a4):=by
 intro a0 a1 a2 a3 a4 k
 obtain ⟨ih0,ih1⟩:=qaw.mono_l k
 unfold qaw.f
 repeat' first|(with_reducible exact ih0 _ _ _ _ _ _ _ _ _)|(with_reducible exact qcm.mono _ _ _ _)|(with_reducible refine LeO.bind ?_ (fun _=>?_))
end Go.Proofs.YtmfjmbcfaamebaaDoor.X
namespace Go.Proofs.YtmfjmbcfaamebaaDoor.X
noncomputable section
open Go.RowKit Go.Proofs.YtmfjmbcfaamebaaDoorW.PrintWords Go.Proofs.YtmfjmbcfaamebaaDoorW.PrintLast Go.Proofs.YtmfjmbcfaamebaaDoorW.PrintMore
attribute [local go_sem] qbs qcb
set_option linter.unusedVariables false
set_option linter.unusedSimpArgs false
attribute [local go_sem high] eqA39
def qcc.l0:Nat→List (S39)→List (S39)→Int→Int→Bool→Int→List (S60)→Int→Int→Option (Bool)
 | 0,_,_,_,_,_,_,_,_,_=>none
 | k+1,x5,x23,x24,x25,x514000,x514001,x514002,x515000,x515001=>if x25<x24 then (if 0≤x25 then (if x25<(x23.length:Int) then (if x25<(x5.length:Int) then (if (!(((qcn x5 x25).f0)==((qcn x23 x25).f0))||(!(((qcn x5 x25).f1)==((qcn x23 x25).f1))))=true then (some false) else ((qbq.f k x514000 x514001 x514002 ((qcn x23 x25).f0) ((qcn x23 x25).f1)).bind fun t526=>((qcq.f t526).bind fun t529=>((qaw.f k x514000 x514001 x514002 ((qcn x23 x25).f0) ((qcn x23 x25).f1)).bind fun t532=>((qak.f k t529 t532).bind fun t535=>(if t535=true then (qcc.l0 k x5 x23 x24 (wrap64 (x25+1)) x514000 x514001 x514002 x515000 x515001) else (some false))))))) else (none)) else (none)) else (none)) else ((qbq.f k x514000 x514001 x514002 x515000 x515001).bind fun t536=>((qcq.f t536).bind fun t539=>((qaw.f k x514000 x514001 x514002 x515000 x515001).bind fun t542=>((qak.f k t539 t542).bind fun t545=>(some t545)))))
def qcc.f (k:Nat) (a0_0:Bool) (a0_1:Int) (l0_2:List (S60)) (a1_0:Int) (a1_1:Int):Option (Bool):=(qbp.f k).bind fun t515=>(if t515=true then ((qas.f k a0_0 a0_1 l0_2).bind fun t516=>(if t516=true then ((qcd.f k a0_0 a0_1 l0_2).bind fun t517=>((qcm.f k a0_0 a0_1 l0_2).bind fun t520=>(if (t517.length:Int)=(t520.length:Int) then (qcc.l0 k t517 t520 (t520.length:Int) 0 a0_0 a0_1 l0_2 a1_0 a1_1) else (some false)))) else (some true))) else (some false))
theorem qcc.mono_l:∀ k,(∀ y0 y1 y2 y3 y4 y5 y6 y7 y8,LeO (qcc.l0 k y0 y1 y2 y3 y4 y5 y6 y7 y8) (qcc.l0 (k+1) y0 y1 y2 y3 y4 y5 y6 y7 y8))
 | 0=>fun _ _ _ _ _ _ _ _ _ r h=>by simp [qcc.l0] at h
 | k+1=>by
  have ih0:=qcc.mono_l k
  ·intro y0 y1 y2 y3 y4 y5 y6 y7 y8
   unfold qcc.l0
   repeat' first|(with_reducible exact ih0 _ _ _ _ _ _ _ _ _)|(with_reducible exact qbq.mono _ _ _ _ _ _)|(with_reducible exact qak.mono _ _ _)|(with_reducible exact qaw.mono _ _ _ _ _ _)|(with_reducible exact LeO.refl _)|(with_reducible refine LeO.ite ?_ ?_)|(with_reducible refine LeO.bind ?_ (fun _=>?_))
theorem qcc.mono:∀ a0 a1 a2 a3 a4 k,LeO (qcc.f k a0 a1 a2 a3 a4) (qcc.f (k+1) a0 a1 a2 a3 a4):=by
 intro a0 a1 a2 a3 a4 k
 have ih0:=qcc.mono_l k
 unfold qcc.f
 repeat' first|(with_reducible exact ih0 _ _ _ _ _ _ _ _ _)|(with_reducible exact qcd.mono _ _ _ _)|(with_reducible exact qbp.mono _)|(with_reducible exact qcm.mono _ _ _ _)|(with_reducible exact qas.mono _ _ _ _)|(with_reducible exact LeO.refl _)|(with_reducible refine LeO.ite ?_ ?_)|(with_reducible refine LeO.bind ?_ (fun _=>?_))
end
end Go.Proofs.YtmfjmbcfaamebaaDoor.X
namespace Go.Proofs.YtmfjmbcfaamebaaDoor.X
open Go.RowKit Go.Proofs.YtmfjmbcfaamebaaDoorW.PrintWords Go.Proofs.YtmfjmbcfaamebaaDoorW.PrintLast Go.Proofs.YtmfjmbcfaamebaaDoorW.PrintMore
attribute [local go_sem] qbs qcb
set_option linter.unusedVariables false
set_option linter.unusedSimpArgs false
def qdk.f (k:Nat) (a0_0:Bool) (a0_1:Int) (l0_2:List (S60)) (a1:Int):Option (List Int):=(qae.f k a0_0 a0_1 l0_2 a1 ([]:List Int)).bind fun t569=>(some t569)
theorem qdk.mono:∀ a0 a1 a2 a3 k,LeO (qdk.f k a0 a1 a2 a3) (qdk.f (k+1) a0 a1 a2 a3):=by
 intro a0 a1 a2 a3 k
 unfold qdk.f
 repeat' first|(with_reducible exact qae.mono _ _ _ _ _ _)|(with_reducible exact LeO.refl _)|(with_reducible refine LeO.bind ?_ (fun _=>?_))
end Go.Proofs.YtmfjmbcfaamebaaDoor.X
namespace Go.Proofs.YtmfjmbcfaamebaaDoor.X
open Go.RowKit Go.Proofs.YtmfjmbcfaamebaaDoorW.PrintWords Go.Proofs.YtmfjmbcfaamebaaDoorW.PrintLast Go.Proofs.YtmfjmbcfaamebaaDoorW.PrintMore
attribute [local go_sem] qbs qcb
set_option linter.unusedVariables false
set_option linter.unusedSimpArgs false
def qgb.f (k:Nat) (a0_0:Bool) (a0_1:Int) (l0_2:List (S60)) (a1:Int) (a2:Int) (l3_0:List Int):Option (Bool):=(qcp.f k a0_0 a0_1 l0_2 a1 l3_0).bind fun t574=>((qbz.f t574 a2).bind fun t577=>(some t577))
theorem qgb.mono:∀ a0 a1 a2 a3 a4 a5 k,LeO (qgb.f k a0 a1 a2 a3 a4 a5) (qgb.f (k+1) a0 a1 a2 a3 a4 a5):=by
 intro a0 a1 a2 a3 a4 a5 k
 unfold qgb.f
 repeat' first|(with_reducible exact qcp.mono _ _ _ _ _ _)|(with_reducible exact LeO.refl _)|(with_reducible refine LeO.bind ?_ (fun _=>?_))
end Go.Proofs.YtmfjmbcfaamebaaDoor.X
namespace Go.Proofs.YtmfjmbcfaamebaaDoor.X
open Go.RowKit Go.Proofs.YtmfjmbcfaamebaaDoorW.PrintWords Go.Proofs.YtmfjmbcfaamebaaDoorW.PrintLast Go.Proofs.YtmfjmbcfaamebaaDoorW.PrintMore
attribute [local go_sem] qbs qcb
set_option linter.unusedVariables false
set_option linter.unusedSimpArgs false
def qdu.f (k:Nat) (a0_0:Bool) (a0_1:Int) (l0_2:List (S60)) (a1:Int) (a2:Int) (l3:List Int):Option (Bool):=(qae.f k a0_0 a0_1 l0_2 a1 l3).bind fun t579=>((qao.f k t579 a2).bind fun t582=>(some t582))
theorem qdu.mono:∀ a0 a1 a2 a3 a4 a5 k,LeO (qdu.f k a0 a1 a2 a3 a4 a5) (qdu.f (k+1) a0 a1 a2 a3 a4 a5):=by
 intro a0 a1 a2 a3 a4 a5 k
 unfold qdu.f
 repeat' first|(with_reducible exact qao.mono _ _ _)|(with_reducible exact qae.mono _ _ _ _ _ _)|(with_reducible exact LeO.refl _)|(with_reducible refine LeO.bind ?_ (fun _=>?_))
end Go.Proofs.YtmfjmbcfaamebaaDoor.X
namespace Go.Proofs.YtmfjmbcfaamebaaDoor.X
noncomputable section
open Go.RowKit Go.Proofs.YtmfjmbcfaamebaaDoorW.PrintWords Go.Proofs.YtmfjmbcfaamebaaDoorW.PrintLast Go.Proofs.YtmfjmbcfaamebaaDoorW.PrintMore
attribute [local go_sem] qbs qcb
set_option linter.unusedVariables false
set_option linter.unusedSimpArgs false
def qbo.j0:Nat→List Int→Bool→Bool→Int→List (S60)→Int→Int→Option (Bool)
 | 0,_,_,_,_,_,_,_=>none
 | k+1,x2,x16,x584000,x584001,x584002,x585000,x585001=>if x16=true then (some true) else ((qcf.f k x584000 x584001 x584002 x585000).bind fun t587=>((qcq.f t587).bind fun t590=>((qdk.f k x584000 x584001 x584002 x585000).bind fun t593=>((qak.f k t590 t593).bind fun t596=>(if t596=true then ((qax.f k x2).bind fun t597=>((qgb.f k x584000 x584001 x584002 x585000 x585001 t597).bind fun t600=>((qdu.f k x584000 x584001 x584002 x585000 x585001 x2).bind fun t601=>(some (t600==t601))))) else (some false))))))
def qbo.f (k:Nat) (a0_0:Bool) (a0_1:Int) (l0_2:List (S60)) (a1_0:Int) (a1_1:Int) (l2:List Int):Option (Bool):=(qbp.f k).bind fun t585=>(if t585=true then ((qas.f k a0_0 a0_1 l0_2).bind fun t586=>(if t586=true then (qbo.j0 k l2 (decide ((l2.length:Int)>20)) a0_0 a0_1 l0_2 a1_0 a1_1) else (qbo.j0 k l2 true a0_0 a0_1 l0_2 a1_0 a1_1))) else (some false))
theorem qbo.mono_l:∀ k,(∀ y0 y1 y2 y3 y4 y5 y6,LeO (qbo.j0 k y0 y1 y2 y3 y4 y5 y6) (qbo.j0 (k+1) y0 y1 y2 y3 y4 y5 y6))
 | 0=>fun _ _ _ _ _ _ _ r h=>by simp [qbo.j0] at h
 | k+1=>by
  have ih0:=qbo.mono_l k
  ·intro y0 y1 y2 y3 y4 y5 y6
   unfold qbo.j0
   repeat' first|(with_reducible exact qax.mono _ _)|(with_reducible exact qgb.mono _ _ _ _ _ _ _)|(with_reducible exact qcf.mono _ _ _ _ _)|(with_reducible exact qak.mono _ _ _)|(with_reducible exact qdu.mono _ _ _ _ _ _ _)|(with_reducible exact qdk.mono _ _ _ _ _)|(with_reducible exact LeO.refl _)|(with_reducible refine LeO.ite ?_ ?_)|(with_reducible refine LeO.bind ?_ (fun _=>?_))
theorem qbo.mono:∀ a0 a1 a2 a3 a4 a5 k,LeO (qbo.f k a0 a1 a2 a3 a4 a5) (qbo.f (k+1) a0 a1 a2 a3 a4 a5):=by
 intro a0 a1 a2 a3 a4 a5 k
 have ih0:=qbo.mono_l k
 unfold qbo.f
 repeat' first|(with_reducible exact ih0 _ _ _ _ _ _ _)|(with_reducible exact qbp.mono _)|(with_reducible exact qas.mono _ _ _ _)|(with_reducible exact LeO.refl _)|(with_reducible refine LeO.ite ?_ ?_)|(with_reducible refine LeO.bind ?_ (fun _=>?_))
end
end Go.Proofs.YtmfjmbcfaamebaaDoor.X
namespace Go.Proofs.YtmfjmbcfaamebaaDoor.X
open Go.RowKit Go.Proofs.YtmfjmbcfaamebaaDoorW.PrintWords Go.Proofs.YtmfjmbcfaamebaaDoorW.PrintLast Go.Proofs.YtmfjmbcfaamebaaDoorW.PrintMore
inductive Rch (T:Int→List Int) (av:Int→Prop):Int→Int→Prop
 | refl {a:Int}:¬ av a→Rch T av a a
 | step {a b c:Int}:Rch T av a b→c∈T b→¬ av c→Rch T av a c
section
variable {T:Int→List Int} {av av':Int→Prop} {a b c:Int}
theorem Rch.first (h:Rch T av a b):¬ av a:=by
 induction h with
 | refl h=>exact h
 | step _ _ _ ih=>exact ih
theorem Rch.last (h:Rch T av a b):¬ av b:=by
 cases h with
 | refl h=>exact h
 | step _ _ h=>exact h
theorem Rch.mono (hm:∀ x,av' x→av x) (h:Rch T av a b):Rch T av' a b:=by
 induction h with
 | refl h=>exact .refl (fun e=>h (hm _ e))
 | step _ h1 h2 ih=>exact .step ih h1 (fun e=>h2 (hm _ e))
theorem Rch.trans (h:Rch T av a b) (h':Rch T av b c):Rch T av a c:=by
 induction h' with
 | refl _=>exact h
 | step _ h1 h2 ih=>exact .step ih h1 h2
theorem Rch.split (h:Rch T av a c) (b:Int):Rch T (fun x=>av x∨x=b) a c∨Rch T av a b:=by
 induction h with
 | @refl h=>
  by_cases e:a=b
  ·subst e;exact .inr (.refl h)
  ·exact .inl (.refl (fun hh=>hh.elim h e))
 | @step x y h0 h1 h2 ih=>
  rcases ih with ih|ih
  ·by_cases e:y=b
   ·subst e;exact .inr (.step h0 h1 h2)
   ·exact .inl (.step ih h1 (fun hh=>hh.elim h2 e))
  ·exact .inr ih
theorem Rch.congr (hm:∀ x,av x↔av' x):Rch T av a b↔Rch T av' a b:=⟨mono (fun x h=>(hm x).2 h),mono (fun x h=>(hm x).1 h)⟩
theorem Rch.closed {P:Int→Prop} (h:Rch T av a b) (h0:P a) (hc:∀ x,P x→∀ y∈T x,¬ av y→P y):P b:=by
 induction h with
 | refl _=>exact h0
 | step _ h1 h2 ih=>exact hc _ (ih) _ h1 h2
end
def noN:Int→Prop:=fun _=>False
def Dm (T:Int→List Int) (r d n:Int):Prop:=Rch T noN r n∧¬ Rch T (fun x=>x=d) r n
section
variable {T:Int→List Int} {r a b c n:Int}
theorem Dm.self (h:Rch T noN r n):Dm T r n n:=⟨h,fun h'=>h'.last rfl⟩
theorem Dm.rch (h:Dm T r a n):Rch T noN r a:=by
 rcases h.1.split a with h'|h'
 ·exact absurd (h'.mono (fun x e=>.inr e)) h.2
 ·exact h'
theorem Dm.trans (h1:Dm T r a b) (h2:Dm T r b c):Dm T r a c:=by
 refine ⟨h2.1,fun h=>?_⟩
 rcases h.split b with h'|h'
 ·exact h2.2 (h'.mono (fun x e=>.inr e))
 ·exact h1.2 h'
theorem Dm.antisymm (h1:Dm T r a b) (h2:Dm T r b a):a=b:=by
 by_cases hab:a=b
 ·exact hab
 ·exfalso
  have key:∀ x,Rch T noN r x→Rch T (fun x=>x=a∨x=b) r x∨Rch T (fun x=>x=b) r a∨Rch T (fun x=>x=a) r b:=by
   intro x hx
   induction hx with
   | refl _=>
    by_cases e:r=a
    ·subst e;exact .inr (.inl (.refl hab))
    ·by_cases e':r=b
     ·subst e';exact .inr (.inr (.refl (fun h=>hab h.symm)))
     ·exact .inl (.refl (fun hh=>hh.elim e e'))
   | @step x y _ hE _ ih=>
    rcases ih with ih|ih
    ·by_cases e:y=a
     ·subst e;exact .inr (.inl (.step (ih.mono (fun x e=>.inr e)) hE hab))
     ·by_cases e':y=b
      ·subst e';exact .inr (.inr (.step (ih.mono (fun x e=>.inl e)) hE (fun h=>hab h.symm)))
      ·exact .inl (.step ih hE (fun hh=>hh.elim e e'))
    ·exact .inr ih
  rcases key a h2.1 with h|h|h
  ·exact h.last (.inl rfl)
  ·exact h2.2 h
  ·exact h1.2 h
theorem Dm.chain (h1:Dm T r a n) (h2:Dm T r b n):Dm T r a b∨Dm T r b a:=by
 by_cases hab:a=b
 ·subst hab;exact .inl (Dm.self h1.rch)
 ·by_cases ha:Dm T r a b
  ·exact .inl ha
  ·by_cases hb:Dm T r b a
   ·exact .inr hb
   ·exfalso
    have e1:Rch T (fun x=>x=a) r b:=Classical.byContradiction fun h=>ha ⟨h2.rch,h⟩
    have e2:Rch T (fun x=>x=b) r a:=Classical.byContradiction fun h=>hb ⟨h1.rch,h⟩
    have key:∀ x,Rch T noN r x→Rch T (fun x=>x=a) r x∨Rch T (fun x=>x=b) r x:=by
     intro x hx
     induction hx with
     | refl _=>
      by_cases e:r=a
      ·subst e;exact .inr (.refl hab)
      ·exact .inl (.refl e)
     | @step x y _ h1 _ ih=>
      rcases ih with ih|ih
      ·by_cases e:y=a
       ·subst e;exact .inr e2
       ·exact .inl (.step ih h1 e)
      ·by_cases e:y=b
       ·subst e;exact .inl e1
       ·exact .inr (.step ih h1 e)
    rcases key n h1.1 with h|h
    ·exact h1.2 h
    ·exact h2.2 h
end
inductive Dfs (T:Int→List Int):List Int→List Int→List Int→List Int→Prop
 | nil {s:List Int}:Dfs T s [] [] s
 | skip {s:List Int} {n:Int} {ts p s':List Int}:n∈s→Dfs T s ts p s'→Dfs T s (n::ts) p s'
 | go {s:List Int} {n:Int} {ts p1 s1 p2 s2:List Int}:n∉s→Dfs T (s++[n]) (T n) p1 s1→Dfs T s1 ts p2 s2→Dfs T s (n::ts) (p1++n::p2) s2
def qfu (U s:List Int):Nat:=(U.filter (fun x=>decide (x∉s))).length
theorem leftIn_le {U s s':List Int} (h:∀ x∈s,x∈s'):qfu U s'≤qfu U s:=by
 unfold qfu
 induction U with
 | nil=>simp
 | cons a t ih=>
  simp only [List.filter_cons]
  by_cases h1:a∈s'
  ·by_cases h2:a∈s
   ·simpa [h1,h2] using ih
   ·simp [h1,h2];simp at ih;omega
  ·have h2:a∉s:=fun e=>h1 (h _ e)
   simpa [h1,h2] using ih
theorem leftIn_lt {U s:List Int} {n:Int} (hU:n∈U) (hs:n∉s):qfu U (s++[n])<qfu U s:=by
 induction U with
 | nil=>simp at hU
 | cons a t ih=>
  have hle:qfu t (s++[n])≤qfu t s:=leftIn_le (fun x h=>List.mem_append_left _ h)
  unfold qfu at *
  simp only [List.filter_cons]
  by_cases e:a=n
  ·subst e
   simp [hs];simp at hle;omega
  ·have:=ih (by simpa [Ne.symm e] using hU)
   by_cases h2:a∈s
   ·simp [h2];simpa using this
   ·simp [h2,e];simpa using this
theorem Dfs.exists {T:Int→List Int} {U:List Int} (hT:∀ x∈U,∀ y∈T x,y∈U):∀ (m:Nat) (s ts:List Int),qfu U s≤m→(∀ t∈ts,t∈U)→∃ p s',Dfs T s ts p s'∧∀ x∈s,x∈s':=by
 intro m
 induction m with
 | zero=>
  intro s ts
  induction ts with
  | nil=>intro _ _;exact ⟨[],s,.nil,fun _ h=>h⟩
  | cons t ts ih=>
   intro hm ht
   have hts:t∈s:=Classical.byContradiction fun h=>by have:=leftIn_lt (ht t (List.mem_cons_self ..)) h;omega
   obtain ⟨p,s',h1,h2⟩:=ih hm (fun x h=>ht x (List.mem_cons_of_mem _ h))
   exact ⟨p,s',.skip hts h1,h2⟩
 | succ m ihm=>
  intro s ts
  induction ts generalizing s with
  | nil=>intro _ _;exact ⟨[],s,.nil,fun _ h=>h⟩
  | cons t ts ih=>
   intro hm ht
   by_cases hts:t∈s
   ·obtain ⟨p,s',h1,h2⟩:=ih s hm (fun x h=>ht x (List.mem_cons_of_mem _ h))
    exact ⟨p,s',.skip hts h1,h2⟩
   ·have hU:=ht t (List.mem_cons_self ..)
    have hlt:=leftIn_lt hU hts
    obtain ⟨p1,s1,h1,h2⟩:=ihm (s++[t]) (T t) (by omega) (hT t hU)
    have hs1:∀ x∈s,x∈s1:=fun x h=>h2 x (List.mem_append_left _ h)
    obtain ⟨p2,s2,h3,h4⟩:=ih s1 (Nat.le_trans (leftIn_le hs1) hm) (fun x h=>ht x (List.mem_cons_of_mem _ h))
    exact ⟨_,s2,.go hts h1 h3,fun x h=>h4 x (hs1 x h)⟩
section
variable {T:Int→List Int} {s ts p s':List Int}
theorem Dfs.mem (h:Dfs T s ts p s'):∀ x,x∈s'↔x∈s∨x∈p:=by
 induction h with
 | nil=>simp
 | skip _ _ ih=>exact ih
 | go h0 _ _ ih1 ih2=>
  intro x
  rw [ih2,ih1]
  simp only [List.mem_append,List.mem_cons,List.not_mem_nil,or_false]
  constructor
  ·rintro (((h|h)|h)|h)
   ·exact .inl h
   ·exact .inr (.inr (.inl h))
   ·exact .inr (.inl h)
   ·exact .inr (.inr (.inr h))
  ·rintro (h|h|h|h)
   ·exact .inl (.inl (.inl h))
   ·exact .inl (.inr h)
   ·exact .inl (.inl (.inr h))
   ·exact .inr h
theorem Dfs.len (h:Dfs T s ts p s'):s'.length=s.length+p.length:=by
 induction h with
 | nil=>simp
 | skip _ _ ih=>exact ih
 | go _ _ _ ih1 ih2=>simp at ih1 ih2 ⊢;omega
theorem Dfs.fresh (h:Dfs T s ts p s'):∀ x∈p,x∉s:=by
 induction h with
 | nil=>simp
 | skip _ _ ih=>exact ih
 | @go s n ts p1 s1 p2 s2 h0 h1 _ ih1 ih2=>
  intro x hx hs
  rcases List.mem_append.1 hx with h|h
  ·exact ih1 x h (List.mem_append_left _ hs)
  ·rcases List.mem_cons.1 h with rfl|h
   ·exact h0 hs
   ·exact ih2 x h ((h1.mem x).2 (.inl (List.mem_append_left _ hs)))
theorem Dfs.nodup (h:Dfs T s ts p s'):p.Nodup:=by
 induction h with
 | nil=>simp
 | skip _ _ ih=>exact ih
 | @go s n ts p1 s1 p2 s2 h0 h1 h2 ih1 ih2=>
  rw [List.nodup_append]
  refine ⟨ih1,?_,?_⟩
  ·rw [List.nodup_cons]
   exact ⟨fun h=>h2.fresh n h ((h1.mem n).2 (.inl (by simp))),ih2⟩
  ·intro a ha b hb e
   subst e
   rcases List.mem_cons.1 hb with rfl|hb
   ·exact h1.fresh a ha (by simp)
   ·exact h2.fresh a hb ((h1.mem a).2 (.inr ha))
theorem Dfs.reach (h:Dfs T s ts p s'):∀ x∈p,∃ t∈ts,Rch T (fun y=>y∈s) t x:=by
 induction h with
 | nil=>simp
 | skip _ _ ih=>
  intro x hx
  obtain ⟨t,ht,hr⟩:=ih x hx
  exact ⟨t,List.mem_cons_of_mem _ ht,hr⟩
 | @go s n ts p1 s1 p2 s2 h0 h1 _ ih1 ih2=>
  intro x hx
  rcases List.mem_append.1 hx with h|h
  ·obtain ⟨t,ht,hr⟩:=ih1 x h
   have hr':=hr.mono (av':=fun y=>y∈s) (fun y hy=>List.mem_append_left _ hy)
   exact ⟨n,List.mem_cons_self ..,(Rch.step (.refl h0) ht hr'.first).trans hr'⟩
  ·rcases List.mem_cons.1 h with rfl|h
   ·exact ⟨x,List.mem_cons_self ..,.refl h0⟩
   ·obtain ⟨t,ht,hr⟩:=ih2 x h
    exact ⟨t,List.mem_cons_of_mem _ ht,hr.mono (fun y hy=>(h1.mem y).2 (.inl (List.mem_append_left _ hy)))⟩
theorem Dfs.done (h:Dfs T s ts p s'):(∀ t∈ts,t∈s')∧∀ x∈p,∀ y∈T x,y∈s':=by
 induction h with
 | nil=>simp
 | skip h0 h1 ih=>
  refine ⟨fun t ht=>?_,ih.2⟩
  rcases List.mem_cons.1 ht with rfl|ht
  ·exact (h1.mem _).2 (.inl h0)
  ·exact ih.1 t ht
 | @go s n ts p1 s1 p2 s2 h0 h1 h2 ih1 ih2=>
  have up:∀ x,x∈s1→x∈s2:=fun x h=>(h2.mem x).2 (.inl h)
  refine ⟨fun t ht=>?_,fun x hx y hy=>?_⟩
  ·rcases List.mem_cons.1 ht with rfl|ht
   ·exact up _ ((h1.mem _).2 (.inl (by simp)))
   ·exact ih2.1 t ht
  ·rcases List.mem_append.1 hx with h|h
   ·exact up _ (ih1.2 x h y hy)
   ·rcases List.mem_cons.1 h with rfl|h
    ·exact up _ (ih1.1 y hy)
    ·exact ih2.2 x h y hy
theorem Dfs.found {n:Int} (h:Dfs T s [n] p s'):∀ x,x∈p↔Rch T (fun y=>y∈s) n x:=by
 intro x
 constructor
 ·intro hx
  obtain ⟨t,ht,hr⟩:=h.reach x hx
  rw [List.mem_singleton.1 ht] at hr
  exact hr
 ·intro hr
  have in':∀ y,y∈s'→y∉s→y∈p:=fun y h1 h2=>((h.mem y).1 h1).resolve_left h2
  exact hr.closed (in' n (h.done.1 n (by simp)) hr.first) (fun y hy z hz hn=>in' z (h.done.2 y hy z hz) hn)
end
end Go.Proofs.YtmfjmbcfaamebaaDoor.X
namespace Go.Proofs.YtmfjmbcfaamebaaDoor.X
open Go.RowKit Go.Proofs.YtmfjmbcfaamebaaDoorW.PrintWords Go.Proofs.YtmfjmbcfaamebaaDoorW.PrintLast Go.Proofs.YtmfjmbcfaamebaaDoorW.PrintMore
theorem word_f (ws:List Int) (j:Nat):qch.f ws (j:Int)=some (ws.getD j 0):=by
 unfold qch.f
 by_cases h:j<ws.length
 ·rw [if_pos (by omega),if_pos (by omega),qhy]
 ·rw [if_neg (by omega),List.getD_eq_getElem?_getD,List.getElem?_eq_none (by omega)];rfl
theorem shr_u64 (v b:Nat) (hb:b<64):shr .u64 (v:Int) (b:Int)=((v/2 ^ b:Nat):Int):=by
 unfold shr
 rw [Int.toNat_natCast,show min b IntKind.u64.bits=b from Nat.min_eq_left (Nat.le_of_lt hb)]
 simp
theorem Has_f {ws:List Int} (hw:qdd ws) (x:Int):qbz.f ws x=some (decide (0≤x∧x≤65535)&&tb ws x.toNat):=by
 unfold qbz.f
 rw [valid_f,Option.bind_some]
 by_cases hv:0≤x∧x≤65535
 ·obtain ⟨n,rfl⟩:=Int.eq_ofNat_of_zero_le hv.1
  obtain ⟨q,b,hb64,hnq⟩:∃ q b:Nat,b<64∧n=q*64+b:=⟨n/64,n % 64,Nat.mod_lt _ (by decide),by omega⟩
  obtain ⟨h0,h1⟩:=hw.getD q
  obtain ⟨v,hv'⟩:=Int.eq_ofNat_of_zero_le h0
  have hvb:v<18446744073709551616:=by omega
  have e1:n/64=q:=by omega
  have e2:n % 64=b:=by omega
  have hd:v/2 ^ b<18446744073709551616:=Nat.lt_of_le_of_lt (Nat.div_le_self _ _) hvb
  have e3:bits .and .u64 ((v/2 ^ b:Nat):Int) 1=((v/2 ^ b &&& 1:Nat):Int):=bits_and_u64_nat _ 1 hd (by omega)
  rw [decide_eq_true hv,if_pos rfl,quo64 (by omega) hnq hb64,rem64 hnq hb64,word_f,Option.bind_some,if_pos (by omega),hv',shr_u64 _ _ hb64,e3,Bool.true_and,tb,Int.toNat_natCast,e1,e2,hv',Int.toNat_natCast,Nat.testBit_eq_decide_div_mod_eq,Nat.and_one_is_mod]
  congr 1
  rw [Bool.eq_iff_iff,beq_iff_eq,decide_eq_true_eq]
  omega
 ·rw [decide_eq_false hv,if_neg (by decide)]
  rfl
theorem tb_set {ws:List Int} {i:Nat} (hi:i<ws.length) (v:Int) (x:Nat):tb (ws.set i v) x=if x/64=i then v.toNat.testBit (x % 64) else tb ws x:=by
 unfold tb
 by_cases h:x/64=i
 ·rw [if_pos h,h,List.getD_eq_getElem?_getD,List.getElem?_set_self hi];rfl
 ·rw [if_neg h,List.getD_eq_getElem?_getD,List.getElem?_set_ne (fun e=>h e.symm),← List.getD_eq_getElem?_getD]
theorem qdd.set' {ws:List Int} (hw:qdd ws) {i:Nat} {v:Int} (h0:0≤v) (h1:v<18446744073709551616):qdd (ws.set i v):=by
 intro w h
 rcases List.mem_or_eq_of_mem_set h with h|rfl
 ·exact hw w h
 ·exact ⟨h0,h1⟩
theorem bits_or_ok {a b:Int} (ha:0≤a∧a<18446744073709551616) (hb:0≤b∧b<18446744073709551616):0≤Go.bits .or .u64 a b∧Go.bits .or .u64 a b<18446744073709551616∧∀ j,(Go.bits .or .u64 a b).toNat.testBit j=(a.toNat.testBit j||b.toNat.testBit j):=by
 obtain ⟨m,rfl⟩:=Int.eq_ofNat_of_zero_le ha.1
 obtain ⟨n,rfl⟩:=Int.eq_ofNat_of_zero_le hb.1
 have h1:m<2 ^ 64:=by omega
 have h2:n<2 ^ 64:=by omega
 have:=Nat.or_lt_two_pow h1 h2
 rw [bits_or_u64_nat m n (by omega) (by omega)]
 refine ⟨by omega,by omega,fun j=>?_⟩
 rw [Int.toNat_natCast,Int.toNat_natCast,Int.toNat_natCast,Nat.testBit_or]
theorem bits_andNot_ok {a b:Int} (ha:0≤a∧a<18446744073709551616) (hb:0≤b∧b<18446744073709551616):0≤Go.bits .andNot .u64 a b∧Go.bits .andNot .u64 a b<18446744073709551616∧∀ j,j<64→(Go.bits .andNot .u64 a b).toNat.testBit j=(a.toNat.testBit j&&!b.toNat.testBit j):=by
 obtain ⟨m,rfl⟩:=Int.eq_ofNat_of_zero_le ha.1
 obtain ⟨n,rfl⟩:=Int.eq_ofNat_of_zero_le hb.1
 have h2:n<2 ^ 64:=by omega
 have h3:m &&& (18446744073709551615-n)<2 ^ 64:=Nat.and_lt_two_pow _ (by omega)
 rw [u64_andNot_nat m n (by omega) (by omega)]
 refine ⟨by omega,by omega,fun j hj=>?_⟩
 have:=Nat.testBit_two_pow_sub_succ h2 j
 rw [show 2 ^ 64-(n+1)=18446744073709551615-n by omega] at this
 rw [Int.toNat_natCast,Int.toNat_natCast,Int.toNat_natCast,Nat.testBit_and,this,decide_eq_true hj,Bool.true_and]
theorem Union_from {s t:List Int} (hs:qdd s) (ht:qdd t) (n:Nat) (hn:n≤1024):∀ (m i:Nat) (ws:List Int),i+m=n→ws.length=n→qdd ws→
  ∃ r,Ev (fun k=>qaj.l0 k ws (n:Int) (i:Int) s t) r∧GS r∧∀ x,tb r x=if x/64<i∨n≤x/64 then tb ws x else (tb s x||tb t x)
 | 0,i,ws,hi,hl,hw=>by
  obtain ⟨r,h1,h2,h3⟩:=trimmed_ev hw (by omega)
  refine ⟨r,Ev.next (Ev.bind h1 (Ev.const r)) (fun k=>?_),h3,fun x=>?_⟩
  ·rw [qaj.l0,if_neg (by omega)]
  ·rw [h2,if_pos (by omega)]
 | m+1,i,ws,hi,hl,hw=>by
  obtain ⟨h0,h1,h2⟩:=bits_or_ok (hs.getD i) (ht.getD i)
  have hil:i<ws.length:=by omega
  obtain ⟨r,h3,h4,h5⟩:=Union_from hs ht n hn m (i+1) (ws.set i (Go.bits .or .u64 (s.getD i 0) (t.getD i 0))) (by omega) (by rw [List.length_set,hl]) (hw.set' h0 h1)
  refine ⟨r,Ev.next h3 (fun k=>?_),h4,fun x=>?_⟩
  ·have c1:((i:Int)<(n:Int))=True:=eq_true (by omega)
   have c2:(0≤(i:Int))=True:=eq_true (by omega)
   have c3:((i:Int)<(ws.length:Int))=True:=eq_true (by omega)
   have hw':=qcz (show i<9223372036854775807 by omega)
   rw [qaj.l0]
   simp only [c1,c2,c3,word_f,qdi.f,hw',if_true,Option.bind_some,Int.toNat_natCast]
  ·rw [h5]
   by_cases e:x/64=i
   ·rw [if_pos (by omega),if_neg (by omega),tb_set hil,if_pos e,h2]
    unfold tb
    rw [e]
   ·rw [tb_set hil,if_neg e]
    by_cases e2:x/64<i∨n≤x/64
    ·rw [if_pos e2,if_pos (by omega)]
    ·rw [if_neg e2,if_neg (by omega)]
theorem Minus_from {s t:List Int} (hs:qdd s) (ht:qdd t) (n:Nat) (hn:n≤1024):∀ (m i:Nat) (ws:List Int),i+m=n→ws.length=n→qdd ws→
  ∃ r,Ev (fun k=>qan.l0 k ws (n:Int) (i:Int) s t) r∧GS r∧∀ x,tb r x=if x/64<i∨n≤x/64 then tb ws x else (tb s x&&!tb t x)
 | 0,i,ws,hi,hl,hw=>by
  obtain ⟨r,h1,h2,h3⟩:=trimmed_ev hw (by omega)
  refine ⟨r,Ev.next (Ev.bind h1 (Ev.const r)) (fun k=>?_),h3,fun x=>?_⟩
  ·rw [qan.l0,if_neg (by omega)]
  ·rw [h2,if_pos (by omega)]
 | m+1,i,ws,hi,hl,hw=>by
  obtain ⟨h0,h1,h2⟩:=bits_andNot_ok (hs.getD i) (ht.getD i)
  have hil:i<ws.length:=by omega
  obtain ⟨r,h3,h4,h5⟩:=Minus_from hs ht n hn m (i+1) (ws.set i (Go.bits .andNot .u64 (s.getD i 0) (t.getD i 0))) (by omega) (by rw [List.length_set,hl]) (hw.set' h0 h1)
  refine ⟨r,Ev.next h3 (fun k=>?_),h4,fun x=>?_⟩
  ·have c1:((i:Int)<(n:Int))=True:=eq_true (by omega)
   have c2:(0≤(i:Int))=True:=eq_true (by omega)
   have c3:((i:Int)<(ws.length:Int))=True:=eq_true (by omega)
   have hw':=qcz (show i<9223372036854775807 by omega)
   rw [qan.l0]
   simp only [c1,c2,c3,word_f,qdo.f,hw',if_true,Option.bind_some,Int.toNat_natCast]
  ·rw [h5]
   by_cases e:x/64=i
   ·rw [if_pos (by omega),if_neg (by omega),tb_set hil,if_pos e,h2 _ (Nat.mod_lt _ (by decide))]
    unfold tb
    rw [e]
   ·rw [tb_set hil,if_neg e]
    by_cases e2:x/64<i∨n≤x/64
    ·rw [if_pos e2,if_pos (by omega)]
    ·rw [if_neg e2,if_neg (by omega)]
theorem mx_nat (a b:Nat):mx (a:Int) (b:Int)=((max a b:Nat):Int):=by unfold mx;omega
theorem tb_zeros (n x:Nat):tb (List.replicate n 0) x=false:=by
 unfold tb
 rw [List.getD_eq_getElem?_getD,List.getElem?_replicate]
 split <;> simp
theorem qdd.zeros (n:Nat):qdd (List.replicate n 0):=by
 intro w h
 obtain ⟨_,rfl⟩:=List.mem_replicate.1 h
 omega
theorem tb_out {ws:List Int} {x:Nat} (h:ws.length≤x/64):tb ws x=false:=by
 cases e:tb ws x with
 | false=>rfl
 | true=>have:=tb_len e;omega
theorem Union_ev {s t:List Int} (hs:GS s) (ht:GS t):∃ r,Ev (fun k=>qcr.f k s t) r∧GS r∧∀ x,tb r x=(tb s x||tb t x):=by
 obtain ⟨n,hn⟩:∃ n,max s.length t.length=n:=⟨_,rfl⟩
 have hn2:n≤1024:=by have:=hs.len;have:=ht.len;omega
 obtain ⟨r,h1,h2,h3⟩:=Union_from hs.wd ht.wd n hn2 n 0 (List.replicate n 0) (by omega) (by simp) (.zeros n)
 refine ⟨r,(Ev.bind h1 (Ev.const r)).congr (fun k=>?_),h2,fun x=>?_⟩
 ·unfold qcr.f qaj.f
  have c1:(0≤(n:Int))=True:=eq_true (by omega)
  have c2:(n≤35184372088832)=True:=eq_true (by omega)
  simp only [mx_nat,hn,Int.toNat_natCast,c1,c2,if_true,Option.bind_some,List.length_replicate]
  rfl
 ·rw [h3]
  by_cases h:n≤x/64
  ·rw [if_pos (.inr h),tb_zeros,tb_out (by omega),tb_out (by omega)];rfl
  ·rw [if_neg (by omega)]
theorem Minus_ev {s t:List Int} (hs:GS s) (ht:GS t):∃ r,Ev (fun k=>qca.f k s t) r∧GS r∧∀ x,tb r x=(tb s x&&!tb t x):=by
 obtain ⟨n,hn⟩:∃ n,max s.length t.length=n:=⟨_,rfl⟩
 have hn2:n≤1024:=by have:=hs.len;have:=ht.len;omega
 obtain ⟨r,h1,h2,h3⟩:=Minus_from hs.wd ht.wd n hn2 n 0 (List.replicate n 0) (by omega) (by simp) (.zeros n)
 refine ⟨r,(Ev.bind h1 (Ev.const r)).congr (fun k=>?_),h2,fun x=>?_⟩
 ·unfold qca.f qan.f
  have c1:(0≤(n:Int))=True:=eq_true (by omega)
  have c2:(n≤35184372088832)=True:=eq_true (by omega)
  simp only [mx_nat,hn,Int.toNat_natCast,c1,c2,if_true,Option.bind_some,List.length_replicate]
  rfl
 ·rw [h3]
  by_cases h:n≤x/64
  ·rw [if_pos (.inr h),tb_zeros,tb_out (by omega),tb_out (by omega)];rfl
  ·rw [if_neg (by omega)]
theorem With_ev {s:List Int} (hs:GS s) (n:Nat) (hn:n≤65535):∃ r,Ev (fun k=>qby.f k s (n:Int)) r∧GS r∧∀ x,tb r x=(tb s x||decide (x=n)):=by
 obtain ⟨o,h1,h2,h3⟩:=Of_ev [(n:Int)] (by simp)
 obtain ⟨r,h4,h5,h6⟩:=Union_ev hs h2
 refine ⟨r,Ev.bind h1 (Ev.bind h4 (Ev.const r)),h5,fun x=>?_⟩
 rw [h6,Bool.eq_iff_iff,Bool.or_eq_true,Bool.or_eq_true,h3,within,List.mem_singleton,decide_eq_true_eq]
 exact ⟨fun h=>h.imp_right (fun h=>by omega),fun h=>h.imp_right (fun h=>by subst h;exact ⟨rfl,hn⟩)⟩
theorem Without_ev {s:List Int} (hs:GS s) (n:Nat) (hn:n≤65535):∃ r,Ev (fun k=>qci.f k s (n:Int)) r∧GS r∧∀ x,tb r x=(tb s x&&!decide (x=n)):=by
 obtain ⟨o,h1,h2,h3⟩:=Of_ev [(n:Int)] (by simp)
 obtain ⟨r,h4,h5,h6⟩:=Minus_ev hs h2
 refine ⟨r,Ev.bind h1 (Ev.bind h4 (Ev.const r)),h5,fun x=>?_⟩
 have:tb o x=decide (x=n):=by
  rw [Bool.eq_iff_iff,h3,within,List.mem_singleton,decide_eq_true_eq]
  exact ⟨fun h=>by omega,fun h=>by subst h;exact ⟨rfl,hn⟩⟩
 rw [h6,this]
end Go.Proofs.YtmfjmbcfaamebaaDoor.X
namespace Go.Proofs.YtmfjmbcfaamebaaDoor.X
open Go.RowKit Go.Proofs.YtmfjmbcfaamebaaDoorW.PrintWords Go.Proofs.YtmfjmbcfaamebaaDoorW.PrintLast Go.Proofs.YtmfjmbcfaamebaaDoorW.PrintMore
def IsOf (r l:List Int):Prop:=r.Pairwise (·<·)∧∀ x,x∈r↔x∈l∧0≤x∧x≤65535
theorem IsOf.uniq {r r' l:List Int} (h:IsOf r l) (h':IsOf r' l):r=r':=qgg h.1 h'.1 (fun x=>(h.2 x).trans (h'.2 x).symm)
theorem rvalid_f (x:Int):qdn.f x=some (decide (0≤x∧x≤65535)):=valid_f x
theorem insert_sorted {l:List Int} {x:Int} {i:Nat} (hs:l.Pairwise (·<·)) (hlt:∀ y∈l.take i,y<x) (hgt:∀ y∈l.drop i,x<y):(l.take i++[x]++l.drop i).Pairwise (·<·):=by
 have hs':(l.take i++l.drop i).Pairwise (·<·):=by rw [List.take_append_drop];exact hs
 obtain ⟨h1,h2,h3⟩:=List.pairwise_append.1 hs'
 rw [List.append_assoc,List.pairwise_append]
 refine ⟨h1,?_,?_⟩
 ·rw [List.singleton_append,List.pairwise_cons];exact ⟨hgt,h2⟩
 ·intro a ha b hb
  rcases List.mem_append.1 hb with hb|hb
  ·rw [List.mem_singleton.1 hb];exact hlt a ha
  ·exact h3 a ha b hb
theorem insert_mem {l:List Int} {x y:Int} {i:Nat}:y∈l.take i++[x]++l.drop i↔y∈l∨y=x:=by
 rw [List.mem_append,List.mem_append,List.mem_singleton]
 have:y∈l↔y∈l.take i∨y∈l.drop i:=by rw [← List.mem_append,List.take_append_drop]
 rw [this]
 constructor
 ·rintro ((h|h)|h)
  ·exact .inl (.inl h)
  ·exact .inr h
  ·exact .inl (.inr h)
 ·rintro ((h|h)|h)
  ·exact .inl (.inl h)
  ·exact .inr h
  ·exact .inl (.inr h)
theorem With_out {l:List Int} {x:Int} {i:Nat} (k:Nat) (hi:i≤l.length) (hb:l.length<1000000) (hx:i=l.length∨¬ rd l (i:Int)<x) :
  qaq.l0 (k+1) l x (i:Int)=some (l.take i++[x]++l.drop i):=by
 have c2:(0≤(i:Int))=True:=eq_true (by omega)
 have c3:((i:Int)≤(l.length:Int))=True:=eq_true (by omega)
 have c4:(0+(l.take i).length<17592186044416)=True:=eq_true (by rw [List.length_take];omega)
 have c5:((l.take i).length<17592186044416)=True:=eq_true (by rw [List.length_take];omega)
 have c6:((l.take i++[x]).length+(l.drop i).length<17592186044416)=True:=eq_true (by rw [List.length_append,List.length_take,List.length_drop,List.length_singleton];omega)
 rw [qaq.l0]
 by_cases h:i<l.length
 ·have c1:((i:Int)<(l.length:Int))=True:=eq_true (by omega)
  have c7:=eq_false (hx.resolve_left (by omega))
  simp only [c1,c2,c3,c4,c5,c6,c7,if_true,if_false,Option.bind_some,Int.toNat_natCast,List.length_nil,List.nil_append]
 ·have c1:((i:Int)<(l.length:Int))=False:=eq_false (by omega)
  simp only [c1,c2,c3,c4,c5,c6,if_true,if_false,Option.bind_some,Int.toNat_natCast,List.length_nil,List.nil_append]
theorem With_from {l:List Int} {x:Int} (hs:l.Pairwise (·<·)) (hx:x∉l) (hb:l.length<1000000):∀ (m i:Nat),i+m=l.length→(∀ y∈l.take i,y<x)→
  ∃ r,Ev (fun k=>qaq.l0 k l x (i:Int)) r∧r.Pairwise (·<·)∧(∀ y,y∈r↔y∈l∨y=x)∧r.length=l.length+1
 | 0,i,hi,hlt=>by
  refine ⟨_,Ev.next (Ev.const _) (fun k=>With_out k (by omega) hb (.inl (by omega))),insert_sorted hs hlt (by rw [List.drop_eq_nil_of_le (by omega)];simp),fun y=>insert_mem,?_⟩
  simp;omega
 | m+1,i,hi,hlt=>by
  have h1:i<l.length:=by omega
  have hrd:rd l (i:Int)=l[i]:=qgt h1
  by_cases h:l[i]<x
  ·obtain ⟨r,h2,h3⟩:=With_from hs hx hb m (i+1) (by omega) (fun y hy=>by
    rw [List.take_succ_eq_append_getElem h1,List.mem_append,List.mem_singleton] at hy
    rcases hy with hy|rfl
    ·exact hlt y hy
    ·exact h)
   refine ⟨r,h2.next (fun k=>?_),h3⟩
   have c1:((i:Int)<(l.length:Int))=True:=eq_true (by omega)
   have c2:(0≤(i:Int))=True:=eq_true (by omega)
   have hw:=qcz (show i<9223372036854775807 by omega)
   rw [qaq.l0]
   simp only [c1,c2,hrd,h,hw,if_true]
  ·refine ⟨_,Ev.next (Ev.const _) (fun k=>With_out k (by omega) hb (.inr (by rw [hrd];exact h))),insert_sorted hs hlt (fun y hy=>?_),fun y=>insert_mem,?_⟩
   ·have hne:l[i]≠x:=fun e=>hx (by rw [← e];exact List.getElem_mem h1)
    have hs':(l.drop i).Pairwise (·<·):=hs.sublist (List.drop_sublist i l)
    rw [List.drop_eq_getElem_cons h1] at hs' hy
    rcases List.mem_cons.1 hy with rfl|hy
    ·omega
    ·have:=(List.pairwise_cons.1 hs').1 y hy;omega
   ·simp;omega
theorem rWith_ev {l:List Int} (x:Int) (hs:l.Pairwise (·<·)) (hb:l.length<1000000) :
  ∃ r,Ev (fun k=>qaq.f k l x) r∧r.Pairwise (·<·)∧(∀ y,y∈r↔y∈l∨(y=x∧0≤x∧x≤65535))∧r.length≤l.length+1:=by
 by_cases hv:0≤x∧x≤65535
 ·by_cases hx:x∈l
  ·refine ⟨l,(Ev.bind (qga l x (by omega)) (g:=fun k t=>qaq.j0 k l x t) (Ev.next (Ev.const l) (fun k=>?_))).congr (fun k=>?_),hs,fun y=>?_,by omega⟩
   ·rw [decide_eq_true hx,qaq.j0,if_pos rfl]
   ·rw [qaq.f,rvalid_f,decide_eq_true hv,Option.bind_some,if_pos rfl]
   ·exact ⟨.inl,fun h=>h.elim id (fun h=>by rw [h.1];exact hx)⟩
  ·obtain ⟨r,h1,h2,h3,h4⟩:=With_from hs hx hb l.length 0 (by omega) (by simp)
   refine ⟨r,(Ev.bind (qga l x (by omega)) (g:=fun k t=>qaq.j0 k l x t) (Ev.next h1 (fun k=>?_))).congr (fun k=>?_),h2,fun y=>?_,by omega⟩
   ·rw [decide_eq_false hx,qaq.j0,if_neg (by decide)];rfl
   ·rw [qaq.f,rvalid_f,decide_eq_true hv,Option.bind_some,if_pos rfl]
   ·rw [h3];exact ⟨fun h=>h.imp_right (fun e=>⟨e,hv⟩),fun h=>h.imp_right (fun e=>e.1)⟩
 ·refine ⟨l,Ev.next (f:=fun k=>qaq.f k l x) (Ev.const l) (fun k=>?_),hs,fun y=>?_,by omega⟩
  ·rw [qaq.f,rvalid_f,decide_eq_false hv,Option.bind_some,if_neg (by decide),qaq.j0,if_pos rfl]
  ·exact ⟨.inl,fun h=>h.elim id (fun h=>absurd h.2 hv)⟩
theorem rOf_from {l:List Int} (hb:l.length<100000):∀ (m i:Nat) (o:List Int),i+m=l.length→IsOf o (l.take i)→o.length≤i→∃ r,Ev (fun k=>qbe.l0 k o l (l.length:Int) (i:Int)) r∧IsOf r l∧r.length≤l.length
 | 0,i,o,hi,ho,hl=>by
  refine ⟨o,Ev.next (Ev.const o) (fun k=>?_),by rwa [List.take_of_length_le (by omega)] at ho,by omega⟩
  rw [qbe.l0,if_neg (by omega)]
 | m+1,i,o,hi,ho,hl=>by
  have h1:i<l.length:=by omega
  have hrd:rd l (i:Int)=l[i]:=qgt h1
  obtain ⟨o',h2,h3,h4,h5⟩:=rWith_ev l[i] ho.1 (by omega)
  obtain ⟨r,h6,h7⟩:=rOf_from hb m (i+1) o' (by omega) ⟨h3,fun y=>by
   rw [h4,ho.2,List.take_succ_eq_append_getElem h1,List.mem_append,List.mem_singleton]
   constructor
   ·rintro (⟨h,h'⟩|⟨h,h'⟩)
    ·exact ⟨.inl h,h'⟩
    ·rw [h];exact ⟨.inr rfl,h'⟩
   ·rintro ⟨h|h,h'⟩
    ·exact .inl ⟨h,h'⟩
    ·exact .inr ⟨h,h▸h'⟩⟩ (by omega)
  refine ⟨r,Ev.next (Ev.bind h2 (g:=fun k t=>qbe.l0 k t l (l.length:Int) ((i+1:Nat):Int)) h6) (fun k=>?_),h7⟩
  have c1:((i:Int)<(l.length:Int))=True:=eq_true (by omega)
  have c2:(0≤(i:Int))=True:=eq_true (by omega)
  have hw:=qcz (show i<9223372036854775807 by omega)
  rw [qbe.l0]
  simp only [c1,c2,hrd,hw,if_true]
theorem rOf_ev (l:List Int) (hb:l.length<100000):∃ r,Ev (fun k=>qbe.f k l) r∧IsOf r l∧r.length≤l.length:=rOf_from hb l.length 0 [] (by omega) ⟨List.Pairwise.nil,fun x=>by simp⟩ (by simp)
def Tg (l:List S60) (x:Int):List Int:=(qet (qar l x).f1 (qar l x).f3 (qar l x).f4).filter (qgm l.length)
theorem qib {n:Nat} {x:Int}:qgm n x=true↔0≤x∧x<n:=by
 unfold qgm
 rw [Bool.not_eq_true',Bool.or_eq_false_iff,decide_eq_false_iff_not,decide_eq_false_iff_not]
 omega
theorem qei {l:List S60} {x y:Int} (h:y∈Tg l x):0≤y∧y<l.length:=qib.1 (List.mem_filter.1 h).2
theorem qhb (e t u:Int):(qet e t u).length≤2:=by
 unfold qet
 split <;> split <;> simp
theorem qew (l:List S60) (x:Int):(Tg l x).length≤2:=Nat.le_trans (List.length_filter_le _ _) (qhb ..)
theorem qhh (a:Bool) (b:Int) (l:List S60) (ts:List Int) (hb:ts.length≤2):∀ (m i:Nat) (o:List Int),i+m=ts.length→o.length≤i→Ev (fun k=>qag.l0 k o ts (ts.length:Int) (i:Int) a b l) (o++(ts.drop i).filter (qgm l.length))
 | 0,i,o,hi,_=>by
  rw [List.drop_eq_nil_of_le (by omega),List.filter_nil,List.append_nil]
  refine Ev.next (Ev.const o) (fun k=>?_)
  rw [qag.l0,if_neg (by omega)]
 | m+1,i,o,hi,ho=>by
  have h1:i<ts.length:=by omega
  have hrd:rd ts (i:Int)=ts[i]:=qgt h1
  have c1:((i:Int)<(ts.length:Int))=True:=eq_true (by omega)
  have c2:(0≤(i:Int))=True:=eq_true (by omega)
  have c3:(o.length<17592186044416)=True:=eq_true (by omega)
  have hw:=qcz (show i<9223372036854775807 by omega)
  rw [List.drop_eq_getElem_cons h1,List.filter_cons]
  by_cases h:0≤ts[i]∧ts[i]<(l.length:Int)
  ·have c4:(ts[i]≥0)=True:=eq_true h.1
   rw [if_pos (qib.2 h)]
   have:=qhh a b l ts hb m (i+1) (o++[ts[i]]) (by omega) (by simp;omega)
   rw [List.append_assoc,List.singleton_append] at this
   refine this.next (fun k=>?_)
   rw [qag.l0]
   simp only [c1,c2,c3,hrd,hw,c4,eq_true h.2,if_true]
  ·rw [if_neg (fun e=>h (qib.1 e))]
   refine (qhh a b l ts hb m (i+1) o (by omega) (by omega)).next (fun k=>?_)
   rw [qag.l0]
   by_cases h0:0≤ts[i]
   ·have c4:(ts[i]≥0)=True:=eq_true h0
    simp only [c1,c2,hrd,hw,c4,eq_false (fun e=>h ⟨h0,e⟩),if_true,if_false]
   ·have c4:(ts[i]≥0)=False:=eq_false h0
    simp only [c1,c2,hrd,hw,c4,if_true,if_false]
theorem qho (a:Bool) (b:Int) {l:List S60} {x:Int} (h0:0≤x) (h1:x<l.length):Ev (fun k=>qag.f k a b l x) (Tg l x):=by
 have key:∀ e t u:Int,∀ bb:Bool,bb=(decide (e=1)||decide (e=2))→∀ (l0:List S85) (c:Int),Ev (fun k=>qag.j0 k [] bb a b l l0 e c t u) ((qet e t u).filter (qgm l.length)):=by
  intro e t u bb hbb l0 c
  have hend:=qhh a b l (qet e t u) (qhb ..) (qet e t u).length 0 [] (by omega) (by simp)
  have h2:Ev (fun k=>qag.j2 k (qet e t u) a b l) ((qet e t u).filter (qgm l.length)):=by
   refine Ev.next hend (fun k=>?_)
   rw [qag.j2]
   rfl
  have h3:Ev (fun k=>qag.j1 k (if e=1∨e=2 then [t] else []) a b l l0 e c t u) ((qet e t u).filter (qgm l.length)):=by
   refine Ev.next h2 (fun k=>?_)
   rw [qag.j1]
   unfold qet
   by_cases h:e=2
   ·rw [if_pos h,if_pos (by split <;> simp),if_pos h]
   ·rw [if_neg h,if_neg h,List.append_nil]
  refine Ev.next h3 (fun k=>?_)
  rw [qag.j0,hbb]
  by_cases h:e=1∨e=2
  ·rw [if_pos (by simpa using h),if_pos (by simp),if_pos h];rfl
  ·rw [if_neg (by simpa using h),if_neg h]
 by_cases h:(qar l x).f1=1
 ·refine (key (qar l x).f1 (qar l x).f3 (qar l x).f4 true (by simp [h]) (qar l x).f0 (qar l x).f2).congr (fun k=>?_)
  rw [qag.f,if_pos h0,if_pos h1,if_pos h]
 ·refine (key (qar l x).f1 (qar l x).f3 (qar l x).f4 ((qar l x).f1==2) (by rw [decide_eq_false h,Bool.false_or];rfl) (qar l x).f0 (qar l x).f2).congr (fun k=>?_)
  rw [qag.f,if_pos h0,if_pos h1,if_neg h]
theorem ctargets_f (a:Bool) (b:Int) (l:List S60) (x:Int):qeb.f a b l (qar l x).f0 (qar l x).f1 (qar l x).f2 (qar l x).f3 (qar l x).f4=some (Tg l x):=rfl
end Go.Proofs.YtmfjmbcfaamebaaDoor.X
namespace Go.Proofs.YtmfjmbcfaamebaaDoor.X
open Go.RowKit Go.Proofs.YtmfjmbcfaamebaaDoorW.PrintWords Go.Proofs.YtmfjmbcfaamebaaDoorW.PrintLast Go.Proofs.YtmfjmbcfaamebaaDoorW.PrintMore
attribute [local go_sem] qbs qcb
set_option linter.unusedVariables false
set_option linter.unusedSimpArgs false
mutual
def qaz.l0:Nat→Int→List Int→List Int→List Int→Int→Int→Bool→Int→List (S60)→Option (List Int×List Int)
 | 0,_,_,_,_,_,_,_,_,_=>none
 | k+1,x1,x2,x8,x25,x26,x27,x417000,x417001,x417002=>if x27<x26 then (if 0≤x27 then (if x27<(x25.length:Int) then ((qaz.f k x417000 x417001 x417002 (rd x25 x27) x2).bind fun bt431=>(if x8.length+bt431.1.length<17592186044416 then (qaz.l0 k x1 bt431.2 (x8++bt431.1) x25 x26 (wrap64 (x27+1)) x417000 x417001 x417002) else (none))) else (none)) else (none)) else (if x8.length<17592186044416 then (some ((x8++[x1]),x2)) else (none))
def qaz.f:Nat→Bool→Int→List (S60)→Int→List Int→Option (List Int×List Int)
 | 0,_,_,_,_,_=>none
 | k+1,a0_0,a0_1,l0_2,a1,l2=>(qao.f k l2 a1).bind fun t417=>(if t417=true then (some (([]:List Int),l2)) else ((some (([]:List Int):List Int)).bind fun y418=>(if y418.length+l2.length<17592186044416 then ((some (y418++l2:List Int)).bind fun y421=>(if y421.length<17592186044416 then ((qag.f k a0_0 a0_1 l0_2 a1).bind fun t427=>(qaz.l0 k a1 (y421++[a1]) ([]:List Int) t427 (t427.length:Int) 0 a0_0 a0_1 l0_2)) else (none))) else (none))))
end
theorem qaz.mono_l:∀ k,(∀ y0 y1 y2 y3 y4,LeO (qaz.f k y0 y1 y2 y3 y4) (qaz.f (k+1) y0 y1 y2 y3 y4))∧(∀ y0 y1 y2 y3 y4 y5 y6 y7 y8,LeO (qaz.l0 k y0 y1 y2 y3 y4 y5 y6 y7 y8) (qaz.l0 (k+1) y0 y1 y2 y3 y4 y5 y6 y7 y8))
 | 0=>⟨fun _ _ _ _ _ r h=>by simp [qaz.f] at h,fun _ _ _ _ _ _ _ _ _ r h=>by simp [qaz.l0] at h⟩
 | k+1=>by
  obtain ⟨ih0,ih1⟩:=qaz.mono_l k
  refine ⟨?_,?_⟩
  ·intro y0 y1 y2 y3 y4
   unfold qaz.f
   repeat' first|(with_reducible exact ih1 _ _ _ _ _ _ _ _ _)|(with_reducible exact qao.mono _ _ _)|(with_reducible exact qag.mono _ _ _ _ _)|(with_reducible exact LeO.refl _)|(with_reducible refine LeO.ite ?_ ?_)|(with_reducible refine LeO.bind ?_ (fun _=>?_))
  ·intro y0 y1 y2 y3 y4 y5 y6 y7 y8
   unfold qaz.l0
   repeat' first|(with_reducible exact ih0 _ _ _ _ _)|(with_reducible exact ih1 _ _ _ _ _ _ _ _ _)|(with_reducible exact LeO.refl _)|(with_reducible refine LeO.ite ?_ ?_)|(with_reducible refine LeO.bind ?_ (fun _=>?_))
theorem qaz.mono:∀ a0 a1 a2 a3 a4 k,LeO (qaz.f k a0 a1 a2 a3 a4) (qaz.f (k+1) a0 a1 a2 a3 a4):=by
 intro a0 a1 a2 a3 a4 k
 obtain ⟨ih0,ih1⟩:=qaz.mono_l k
 exact ih0 a0 a1 a2 a3 a4
end Go.Proofs.YtmfjmbcfaamebaaDoor.X
