/- Parts of the proof of the law CFGEdges: words, walks of single functions and plain laws, joined by a program out of the session's texts. -/
import Derived.Test.YtmfjmbcfaamebaaDoorCFGEdges11
import Derived.Lib.Hide
import Derived.BigQuiet
import Derived.Laws.BitsAllLaws
namespace Go.Proofs.YtmfjmbcfaamebaaDoor.X
open Go.RowKit Go.Proofs.YtmfjmbcfaamebaaDoorW.PrintWords Go.Proofs.YtmfjmbcfaamebaaDoorW.PrintLast Go.Proofs.YtmfjmbcfaamebaaDoorW.PrintMore
attribute [local go_sem] qbo qbu
set_option linter.unusedVariables false
set_option linter.unusedSimpArgs false
mutual
def qad.l0 : Nat→List (List Int)→Int→Int→Bool→Int→List (S60)→Option ((List (List Int)))
  | 0,_,_,_,_,_,_=>none
  | k + 1,x3,x9,x10,x389000,x389001,x389002=>if x10 < x9 then (qad.l1 k x3 x10 ([] : List Int) x9 x10 (x389002.length : Int) 0 x389000 x389001 x389002) else (some x3)
def qad.l1 : Nat→List (List Int)→Int→List Int→Int→Int→Int→Int→Bool→Int→List (S60)→Option ((List (List Int)))
  | 0,_,_,_,_,_,_,_,_,_,_=>none
  | k + 1,x3,x4,x5,x9,x10,x15,x16,x389000,x389001,x389002=>if x16 < x15 then ((qae.f k x389000 x389001 x389002 x16).bind fun t392=>((qar.f k t392 x4).bind fun t395=>(if t395 = true then (if x5.length < 17592186044416 then (qad.l1 k x3 x4 (x5 ++ [x16]) x9 x10 x15 (wrap64 (x16 + 1)) x389000 x389001 x389002) else (none)) else (qad.l1 k x3 x4 x5 x9 x10 x15 (wrap64 (x16 + 1)) x389000 x389001 x389002)))) else (if x3.length < 5864062014805 then (qad.l0 k (x3 ++ [x5]) x9 (wrap64 (x10 + 1)) x389000 x389001 x389002) else (none))
end
def qad.f (k : Nat) (a0_0 : Bool) (a0_1 : Int) (l0_2 : List (S60)) : Option ((List (List Int))):=qad.l0 k ([] : List (List Int)) (l0_2.length : Int) 0 a0_0 a0_1 l0_2
theorem qad.mono_l : ∀ k,(∀ y0 y1 y2 y3 y4 y5,LeO (qad.l0 k y0 y1 y2 y3 y4 y5) (qad.l0 (k + 1) y0 y1 y2 y3 y4 y5))∧(∀ y0 y1 y2 y3 y4 y5 y6 y7 y8 y9,LeO (qad.l1 k y0 y1 y2 y3 y4 y5 y6 y7 y8 y9) (qad.l1 (k + 1) y0 y1 y2 y3 y4 y5 y6 y7 y8 y9))
  | 0=>⟨fun _ _ _ _ _ _ r h=>by simp [qad.l0] at h,fun _ _ _ _ _ _ _ _ _ _ r h=>by simp [qad.l1] at h⟩
  | k + 1=>by
    obtain ⟨ih0,ih1⟩:=qad.mono_l k
    refine ⟨?_,?_⟩
    · intro y0 y1 y2 y3 y4 y5
      unfold qad.l0
      repeat' first|(with_reducible exact ih1 _ _ _ _ _ _ _ _ _ _)|(with_reducible exact LeO.refl _)|(with_reducible refine LeO.ite ?_ ?_)
    · intro y0 y1 y2 y3 y4 y5 y6 y7 y8 y9
      unfold qad.l1
      repeat' first|(with_reducible exact ih0 _ _ _ _ _ _)|(with_reducible exact ih1 _ _ _ _ _ _ _ _ _ _)|(with_reducible exact qar.mono _ _ _)|(with_reducible exact qae.mono _ _ _ _ _)|(with_reducible exact LeO.refl _)|(with_reducible refine LeO.ite ?_ ?_)|(with_reducible refine LeO.bind ?_ (fun _=>?_))
theorem qad.mono : ∀ a0 a1 a2 k,LeO (qad.f k a0 a1 a2) (qad.f (k + 1) a0 a1 a2):=by
  intro a0 a1 a2 k
  obtain ⟨ih0,ih1⟩:=qad.mono_l k
  unfold qad.f
  repeat' (with_reducible exact ih0 _ _ _ _ _ _)
set_option maxHeartbeats 8000000 in
set_option maxRecDepth 100000 in
theorem qad.calls (k : Nat) (a0_0 : Bool) (a0_1 : Int) (A0_2 : Option Addr) (c0_2 : Nat) (l0_2 : List (S60)) (r : List (List Int)) (w : World) (hr0_2 : Kd.C k60 w A0_2 l0_2.length l0_2) (hc0_2 : l0_2.length≤c0_2) (h : qad.f k a0_0 a0_1 l0_2 = some r) :
    Calls Tryd.prog 17 #[.agg #[.bool a0_0,.int .i64 a0_1,.slice A0_2 l0_2.length c0_2]] w fun e w'=>∃ v0_ : Value,e = .returned (v0_)∧Kd.S (Kd.slice 3 (Kd.int .i64)) 31 w' w.heap.size (fun _=>True) v0_ r∧Below w.heap.size w w':=by
  have hu24:=Tryd.underlying24
  have HR0_2:=Aside0.mk hr0_2
  have HC0_2:=Aside0.mk hc0_2
  clear hr0_2 hc0_2
  have HB:=Aside0.mk (Below.refl w.heap.size w)
  have H : (qad.l0 k ([] : List (List Int)) (l0_2.length : Int) 0 a0_0 a0_1 l0_2) = some r:=h
  clear h
  have H':=Aside0.mk H
  clear H
  go_enter Tryd.func17,Tryd.ntmps17
  go_wp2_with (((with_reducible refine qbg (N:=1) rfl ?_);refine qbl ?hg (N:=1) ?hd (cs:=#[.bool a0_0,.int .i64 a0_1,.slice A0_2 l0_2.length c0_2]) (t:=24) ?hr ?_;(case hd=>rfl);(case hg=>rfl);(case hr=>(go_simp;done));intro gb388 hg w2 hbox hb;have n0_:=Aside0.mk (qai HB.out hb);have n1_:=Aside0.mk (hbox);have n2_:=Aside0.mk ((by rw [hg];exact (qac HB.out) : w.heap.size≤gb388));have n3_:=Aside0.mk ((by rw [hg];exact (qac HB.out) : w.heap.size≤gb388));clear HB;have HB:=n0_;have BK388:=n1_;have GW388:=n2_;have GE388:=n3_;clear n0_ n1_ n2_ n3_;clear hb hbox hg;have hcz3_0 : w2.cell? ⟨gb388,0,none⟩ = some (.bool a0_0):=(qab BK388.out 0).trans rfl;have hcz3_1 : w2.cell? ⟨gb388,1,none⟩ = some (.int .i64 a0_1):=(qab BK388.out 1).trans rfl;have hcz3_2 : w2.cell? ⟨gb388,2,none⟩ = some (.slice A0_2 l0_2.length c0_2):=(qab BK388.out 2).trans rfl;have hfz3_0:=qaf BK388.out 0;have hfz3_1:=qaf BK388.out 1;have hfz3_2:=qaf BK388.out 2))
  go_loopg [3,10] k (fun kq v3 v10 w'=>∃ (x3_1 : List (List Int)) (x10_1 : Int),v10 = .int .i64 x10_1∧Aside0 (qad.l0 kq x3_1 (l0_2.length : Int) x10_1 a0_0 a0_1 l0_2 = some r)∧Aside0 (kq≤k)∧Aside0 (Kd.S (Kd.slice 3 (Kd.int .i64)) 31 w' w.heap.size (fun _=>True) v3 x3_1)∧Aside0 (w'.heap[gb388]? = some (.cells #[.bool a0_0,.int .i64 a0_1,(.slice A0_2 l0_2.length c0_2)] 24 (0,0)))∧Aside0 (Below w.heap.size w w'))
  case atStart=>exact ⟨(([] : List (List Int))),(0),(by rfl),H',⟨Nat.le_refl _⟩,⟨by exact Kd.S_nil _ _ _ _ _⟩,⟨by (with_reducible repeat (refine qaa ?_));exact BK388.out⟩,⟨by repeat ((with_reducible exact HB.out))⟩⟩
  case round=>
    clear H'
    try clear hcz3_0
    try clear hcz3_1
    try clear hcz3_2
    try clear hfz3_0
    try clear hfz3_1
    try clear hfz3_2
    obtain ⟨x3_1,x10_1,rfl,HA,HK1,HO_3,BK388,HB⟩:=hrel
    cases gk with
    | zero=>exact absurd HA.out (by simp [qad.l0])
    | succ k1=>
      have H:=HA.out
      clear HA
      simp only [qad.l0] at H
      by_cases c4 : x10_1 < (l0_2.length : Int)
      · rw [if_pos c4] at H
        have c4b0 : decide (x10_1 < (l0_2.length : Int)) = true:=decide_eq_true c4
        clear c4
        have H':=Aside0.mk H
        clear H
        have hcz5_0 : wr.cell? ⟨gb388,0,none⟩ = some (.bool a0_0):=(qab BK388.out 0).trans rfl
        have hcz5_1 : wr.cell? ⟨gb388,1,none⟩ = some (.int .i64 a0_1):=(qab BK388.out 1).trans rfl
        have hcz5_2 : wr.cell? ⟨gb388,2,none⟩ = some (.slice A0_2 l0_2.length c0_2):=(qab BK388.out 2).trans rfl
        have hfz5_0:=qaf BK388.out 0
        have hfz5_1:=qaf BK388.out 1
        have hfz5_2:=qaf BK388.out 2
        go_wp2
        go_loopg [5,16] k1 (fun kq v5 v16 w'=>∃ (x5_2 : List Int) (x16_2 : Int),v16 = .int .i64 x16_2∧Aside0 (qad.l1 kq x3_1 x10_1 x5_2 (l0_2.length : Int) x10_1 (l0_2.length : Int) x16_2 a0_0 a0_1 l0_2 = some r)∧Aside0 (kq≤k1)∧Aside0 (Kd.S (Kd.slice 3 (Kd.int .i64)) 31 w' w.heap.size (fun k_=>some k_≠(v5 : Value).ownBlock) u3 x3_1)∧Aside0 (Kd.R (Kd.int .i64) 3 w' w.heap.size (fun _=>True) v5 x5_2)∧Aside0 (w'.heap[gb388]? = some (.cells #[.bool a0_0,.int .i64 a0_1,(.slice A0_2 l0_2.length c0_2)] 24 (0,0)))∧Aside0 (Below w.heap.size w w'))
        case atStart=>exact ⟨(([] : List Int)),(0),(by rfl),H',⟨Nat.le_refl _⟩,⟨by (with_reducible repeat (apply Kd.S_drew));exact Kd.S_mono HO_3.out (fun _ hk=>(by simp [Value.ownBlock]))⟩,⟨by exact Kd.R_nil _ _ _ _ _⟩,⟨by (with_reducible repeat (refine qaa ?_));exact BK388.out⟩,⟨by repeat ((with_reducible exact HB.out))⟩⟩
        case round=>
          clear H'
          try clear c4b0
          try clear hcz5_0
          try clear hcz5_1
          try clear hcz5_2
          try clear hfz5_0
          try clear hfz5_1
          try clear hfz5_2
          obtain ⟨x5_2,x16_2,rfl,HA,HK2,HO_3,HO_5,BK388,HB⟩:=hrel
          cases gk with
          | zero=>exact absurd HA.out (by simp [qad.l1])
          | succ k2=>
            have H:=HA.out
            clear HA
            simp only [qad.l1] at H
            by_cases c6 : x16_2 < (l0_2.length : Int)
            · rw [if_pos c6] at H
              have c6b0 : decide (x16_2 < (l0_2.length : Int)) = true:=decide_eq_true c6
              clear c6
              replace H:=Option.bind_eq_some_iff.mp H
              obtain ⟨t392,A70,H⟩:=H
              replace H : ((qar.f k2 t392 x10_1).bind fun t395=>(if t395 = true then (if x5_2.length < 17592186044416 then (qad.l1 k2 x3_1 x10_1 (x5_2 ++ [x16_2]) (l0_2.length : Int) x10_1 (l0_2.length : Int) (wrap64 (x16_2 + 1)) a0_0 a0_1 l0_2) else (none)) else (qad.l1 k2 x3_1 x10_1 x5_2 (l0_2.length : Int) x10_1 (l0_2.length : Int) (wrap64 (x16_2 + 1)) a0_0 a0_1 l0_2))) = some r:=H
              have A7:=Aside0.mk A70
              clear A70
              replace H:=Option.bind_eq_some_iff.mp H
              obtain ⟨t395,A80,H⟩:=H
              replace H : (if t395 = true then (if x5_2.length < 17592186044416 then (qad.l1 k2 x3_1 x10_1 (x5_2 ++ [x16_2]) (l0_2.length : Int) x10_1 (l0_2.length : Int) (wrap64 (x16_2 + 1)) a0_0 a0_1 l0_2) else (none)) else (qad.l1 k2 x3_1 x10_1 x5_2 (l0_2.length : Int) x10_1 (l0_2.length : Int) (wrap64 (x16_2 + 1)) a0_0 a0_1 l0_2)) = some r:=H
              have A8:=Aside0.mk A80
              clear A80
              by_cases c9 : t395 = true
              · subst c9
                have H1 : (if x5_2.length < 17592186044416 then (qad.l1 k2 x3_1 x10_1 (x5_2 ++ [x16_2]) (l0_2.length : Int) x10_1 (l0_2.length : Int) (wrap64 (x16_2 + 1)) a0_0 a0_1 l0_2) else (none)) = some r:=by rw [if_pos rfl] at H;exact H
                clear H
                have H:=H1
                clear H1
                by_cases c10 : x5_2.length < 17592186044416
                · rw [if_pos c10] at H
                  have LMc10:=Aside0.mk c10
                  clear c10
                  obtain ⟨y396,hy396⟩ : ∃ y_ : List Int,y_ = (x5_2 ++ [x16_2]):=⟨_,rfl⟩
                  replace H : (qad.l1 k2 x3_1 x10_1 y396 (l0_2.length : Int) x10_1 (l0_2.length : Int) (wrap64 (x16_2 + 1)) a0_0 a0_1 l0_2) = some r:=by (rw [hy396];with_reducible exact H)
                  have Ny396:=Aside0.mk hy396
                  clear hy396
                  have H':=Aside0.mk H
                  clear H
                  have hcz11_0 : wr.cell? ⟨gb388,0,none⟩ = some (.bool a0_0):=(qab BK388.out 0).trans rfl
                  have hcz11_1 : wr.cell? ⟨gb388,1,none⟩ = some (.int .i64 a0_1):=(qab BK388.out 1).trans rfl
                  have hcz11_2 : wr.cell? ⟨gb388,2,none⟩ = some (.slice A0_2 l0_2.length c0_2):=(qab BK388.out 2).trans rfl
                  have hfz11_0:=qaf BK388.out 0
                  have hfz11_1:=qaf BK388.out 1
                  have hfz11_2:=qaf BK388.out 2
                  go_wp2_with (first|((with_reducible refine qbb (f:=47) rfl ?_);refine goesL_ (some 21) rfl rfl Tryd.func47 (by kernel_rfl) rfl #[.agg #[.bool a0_0,.int .i64 a0_1,.slice A0_2 l0_2.length c0_2],.int .i64 x16_2] rfl (by (try simp only [List.map_toArray,List.map_cons,List.map_nil]);rfl) ?_;(with_reducible refine (qae.calls k2 a0_0 a0_1 _ _ l0_2 x16_2 t392 _ ?side1 ?side2 A7.out).mono ?_);(case side1=>repeat (exact (Kd.C_below HR0_2.out HB.out)));(case side2=>exact HC0_2.out);rintro e w12 ⟨v393,rfl,ho0,hb⟩;refine ⟨_,rfl,?_⟩;have n0_:=Aside0.mk (Kd.S_elder' (by (with_reducible repeat (apply Kd.S_drew));exact HO_3.out) (Kd.R_base ho0) hb);have n1_:=Aside0.mk (Kd.R_elder' (by (with_reducible repeat (apply Kd.R_drew));exact HO_5.out) (Kd.R_base ho0) hb);have n2_:=Aside0.mk (Kd.R_lower (Kd.R_new' ho0 (Kd.R_lt (by (with_reducible repeat (apply Kd.R_drew));exact HO_5.out))) (qac HB.out));have n3_:=Aside0.mk (qag (g:=gb388) (o:=.cells #[.bool a0_0,.int .i64 a0_1,.slice A0_2 l0_2.length c0_2] 24 (0,0)) (by (with_reducible repeat (refine qaa ?_));exact BK388.out) hb);have n4_:=Aside0.mk (qai HB.out hb);clear HO_3;clear HO_5;clear BK388;clear HB;have HO_3:=n0_;have HO_5:=n1_;have HO394:=n2_;have BK388:=n3_;have HB:=n4_;clear n0_ n1_ n2_ n3_ n4_;(try clear hb);(try clear ho0);obtain ⟨Ao13,co13,eo13⟩:=Kd.R_slice HO394.out;subst eo13)|((with_reducible refine qbb (f:=48) rfl ?_);refine goesL_ (some 23) rfl rfl Tryd.func48 (by kernel_rfl) rfl #[.slice Ao13 t392.length co13,.int .i64 x10_1] rfl (by (try simp only [List.map_toArray,List.map_cons,List.map_nil]);rfl) ?_;(with_reducible refine (qar.calls k2 _ _ t392 x10_1 true _ ?side1 ?side2 A8.out).mono ?_);(case side1=>repeat (exact (Kd.R_reads' HO394.out).2.2));(case side2=>exact (Kd.R_reads' HO394.out).2.1);rintro e w' ⟨rfl,⟨nd,rfl⟩⟩;refine ⟨_,rfl,?_⟩)|((with_reducible refine qco (b:=.append) (xs:=#[.tmp 24,.tmp 26]) rfl ?_);at_builtin;refine Kd.R_append (Kd.int .i64) (w0:=w) w.heap.size rfl (.tmp 24) (.tmp 26) 31 3 (.int .i64 0) 8 rfl Tryd.underlying31 info3 rfl (by decide) (by omega) u5 x5_2 x16_2 [.int .i64 x16_2] (fun k_=>some k_≠(.slice Ao13 t392.length co13 : Value).ownBlock) (fun _=>False) rfl rfl ?aP (fun _ hk=>hk.elim) ?aF ?aO ?aB ?aS ?aL ?_;(case aP=>exact rfl);(case aB=>exact (by repeat ((with_reducible first|exact HB.out|apply qay))));(case aF=>exact (fun k_ hk=>Kd.fresh' (Kd.R_lt (by (with_reducible repeat (apply Kd.R_drewN));exact HO394.out)) k_ hk));(case aO=>exact (by (with_reducible repeat (apply Kd.R_drewN));exact Kd.R_mono HO_5.out (fun _ hk=>hk.2)));(case aS=>exact (qac (by repeat ((with_reducible first|exact HB.out|apply qay)))));(case aL=>have:=LMc10.out;omega);intro v397 w14 ho hb hg hat;rw [← Ny396.out] at ho;have n0_:=Aside0.mk (Kd.S_after (ok:=(fun k_=>some k_≠(.slice Ao13 t392.length co13 : Value).ownBlock)) (by (with_reducible repeat (apply Kd.S_drewN));exact Kd.S_mono HO_3.out (fun _ hk=>⟨hk.2,hk.1⟩)) hg hat);have n1_:=Aside0.mk (qcx (g:=gb388) (o:=.cells #[.bool a0_0,.int .i64 a0_1,.slice A0_2 l0_2.length c0_2] 24 (0,0)) (by (with_reducible repeat (refine qcr ?_ _));exact BK388.out) hg (Kd.R_ne HO_5.out BK388.out (by decide)));have n2_:=Aside0.mk (Kd.R_after (ok:=(fun _=>True)) (by (with_reducible repeat (apply Kd.R_drewN));exact HO394.out) hg hat);have n3_:=Aside0.mk (hb);have n4_:=Aside0.mk (ho);clear HO_3;clear BK388;clear HO394;clear HB;clear HO_5;have HO_3:=n0_;have BK388:=n1_;have HO394:=n2_;have HB:=n3_;have HO398:=n4_;clear n0_ n1_ n2_ n3_ n4_;clear ho hb hg hat))
                  go_roundg k2
                  case measure=>have:=HK1.out;have:=HK2.out;omega
                  case rel=>exact ⟨(y396),(wrap64 (x16_2 + 1)),(by rfl),H',⟨by have:=HK1.out;have:=HK2.out;omega⟩,⟨by (with_reducible repeat (apply Kd.S_drew));exact Kd.S_mono HO_3.out (fun _ hk=>hk.2)⟩,⟨by (with_reducible repeat (apply Kd.R_drew));exact Kd.R_mono HO398.out (fun _ hk=>trivial)⟩,⟨by (with_reducible repeat (refine qaa ?_));exact BK388.out⟩,⟨by repeat ((with_reducible exact HB.out))⟩⟩
                · rw [if_neg c10] at H
                  exact absurd H (by simp)
              · replace c9:=Bool.eq_false_iff.mpr c9
                subst c9
                have H1 : (qad.l1 k2 x3_1 x10_1 x5_2 (l0_2.length : Int) x10_1 (l0_2.length : Int) (wrap64 (x16_2 + 1)) a0_0 a0_1 l0_2) = some r:=by rw [if_neg (show ¬ (false = true) by decide)] at H;exact H
                clear H
                have H:=H1
                clear H1
                have H':=Aside0.mk H
                clear H
                have hcz15_0 : wr.cell? ⟨gb388,0,none⟩ = some (.bool a0_0):=(qab BK388.out 0).trans rfl
                have hcz15_1 : wr.cell? ⟨gb388,1,none⟩ = some (.int .i64 a0_1):=(qab BK388.out 1).trans rfl
                have hcz15_2 : wr.cell? ⟨gb388,2,none⟩ = some (.slice A0_2 l0_2.length c0_2):=(qab BK388.out 2).trans rfl
                have hfz15_0:=qaf BK388.out 0
                have hfz15_1:=qaf BK388.out 1
                have hfz15_2:=qaf BK388.out 2
                go_wp2_with (first|((with_reducible refine qbb (f:=47) rfl ?_);refine goesL_ (some 21) rfl rfl Tryd.func47 (by kernel_rfl) rfl #[.agg #[.bool a0_0,.int .i64 a0_1,.slice A0_2 l0_2.length c0_2],.int .i64 x16_2] rfl (by (try simp only [List.map_toArray,List.map_cons,List.map_nil]);rfl) ?_;(with_reducible refine (qae.calls k2 a0_0 a0_1 _ _ l0_2 x16_2 t392 _ ?side1 ?side2 A7.out).mono ?_);(case side1=>repeat (exact (Kd.C_below HR0_2.out HB.out)));(case side2=>exact HC0_2.out);rintro e w16 ⟨v393,rfl,ho0,hb⟩;refine ⟨_,rfl,?_⟩;have n0_:=Aside0.mk (Kd.S_elder' (by (with_reducible repeat (apply Kd.S_drew));exact HO_3.out) (Kd.R_base ho0) hb);have n1_:=Aside0.mk (Kd.R_elder' (by (with_reducible repeat (apply Kd.R_drew));exact HO_5.out) (Kd.R_base ho0) hb);have n2_:=Aside0.mk (Kd.R_lower (Kd.R_new' ho0 (Kd.R_lt (by (with_reducible repeat (apply Kd.R_drew));exact HO_5.out))) (qac HB.out));have n3_:=Aside0.mk (qag (g:=gb388) (o:=.cells #[.bool a0_0,.int .i64 a0_1,.slice A0_2 l0_2.length c0_2] 24 (0,0)) (by (with_reducible repeat (refine qaa ?_));exact BK388.out) hb);have n4_:=Aside0.mk (qai HB.out hb);clear HO_3;clear HO_5;clear BK388;clear HB;have HO_3:=n0_;have HO_5:=n1_;have HO394:=n2_;have BK388:=n3_;have HB:=n4_;clear n0_ n1_ n2_ n3_ n4_;(try clear hb);(try clear ho0);obtain ⟨Ao17,co17,eo17⟩:=Kd.R_slice HO394.out;subst eo17)|((with_reducible refine qbb (f:=48) rfl ?_);refine goesL_ (some 23) rfl rfl Tryd.func48 (by kernel_rfl) rfl #[.slice Ao17 t392.length co17,.int .i64 x10_1] rfl (by (try simp only [List.map_toArray,List.map_cons,List.map_nil]);rfl) ?_;(with_reducible refine (qar.calls k2 _ _ t392 x10_1 false _ ?side1 ?side2 A8.out).mono ?_);(case side1=>repeat (exact (Kd.R_reads' HO394.out).2.2));(case side2=>exact (Kd.R_reads' HO394.out).2.1);rintro e w' ⟨rfl,⟨nd,rfl⟩⟩;refine ⟨_,rfl,?_⟩))
                go_roundg k2
                case measure=>have:=HK1.out;have:=HK2.out;omega
                case rel=>exact ⟨(x5_2),(wrap64 (x16_2 + 1)),(by rfl),H',⟨by have:=HK1.out;have:=HK2.out;omega⟩,⟨by (with_reducible repeat (apply Kd.S_drewN));exact Kd.S_mono HO_3.out (fun _ hk=>hk.1)⟩,⟨by (with_reducible repeat (apply Kd.R_drewN));exact Kd.R_mono HO_5.out (fun _ hk=>trivial)⟩,⟨by (with_reducible repeat (refine qcr ?_ _));exact BK388.out⟩,⟨by repeat ((with_reducible first|exact HB.out|apply qay))⟩⟩
            · rw [if_neg c6] at H
              have c6b0 : decide (x16_2 < (l0_2.length : Int)) = false:=decide_eq_false c6
              clear c6
              by_cases c18 : x3_1.length < 5864062014805
              · rw [if_pos c18] at H
                have LMc18:=Aside0.mk c18
                clear c18
                obtain ⟨y389,hy389⟩ : ∃ y_ : List (List Int),y_ = (x3_1 ++ [x5_2]):=⟨_,rfl⟩
                replace H : (qad.l0 k2 y389 (l0_2.length : Int) (wrap64 (x10_1 + 1)) a0_0 a0_1 l0_2) = some r:=by (rw [hy389];with_reducible exact H)
                have Ny389:=Aside0.mk hy389
                clear hy389
                have H':=Aside0.mk H
                clear H
                obtain ⟨Ao20,co20,eo20⟩:=Kd.R_slice HO_5.out
                subst eo20
                go_wp2_with (((with_reducible refine qco (b:=.append) (xs:=#[.tmp 29,.tmp 31]) rfl ?_);at_builtin;refine Kd.S_append (Kd.slice 3 (Kd.int .i64)) (w0:=w) w.heap.size rfl (.tmp 29) (.tmp 31) 28 31 (.slice none 0 0) 24 rfl Tryd.underlying28 info31 rfl (by decide) (by omega) u3 x3_1 x5_2 [.slice Ao20 x5_2.length co20] (fun _=>True) (fun k_=>some k_ = (.slice Ao20 x5_2.length co20 : Value).ownBlock) rfl rfl ?aP (fun k_ hk_=>((Kd.R_mono (ok':=fun k_=>((fun _=>True)) k_∧some k_≠(u3 : Value).ownBlock) (Kd.R_apart' (HO_5.out) (Kd.S_typed HO_3.out) (by decide)) (fun k_ hk=>⟨trivial,hk.2⟩))).1 k_ hk_.symm) ?aF ?aO ?aB ?aS ?aL ?_;(case aP=>exact Kd.M_row (Kd.R_mono (Kd.R_tight rfl (Kd.R_mono (ok':=fun k_=>((fun _=>True)) k_∧some k_≠(u3 : Value).ownBlock) (Kd.R_apart' (HO_5.out) (Kd.S_typed HO_3.out) (by decide)) (fun k_ hk=>⟨trivial,hk.2⟩))) (fun _ h_=>h_)));(case aB=>exact HB.out);(case aF=>exact (fun _ _=>trivial));(case aO=>exact (by (with_reducible repeat (apply Kd.S_drew));exact Kd.S_mono HO_3.out (fun k_ hk=>⟨trivial,fun e_=>hk e_⟩)));(case aS=>exact (qac HB.out));(case aL=>have:=LMc18.out;omega);intro v390 w19 ho hb hg hat;rw [← Ny389.out] at ho;have n0_:=Aside0.mk (qcx (g:=gb388) (o:=.cells #[.bool a0_0,.int .i64 a0_1,.slice A0_2 l0_2.length c0_2] 24 (0,0)) (by (with_reducible repeat (refine qaa ?_));exact BK388.out) hg (Kd.S_ne HO_3.out BK388.out (by decide)));have n1_:=Aside0.mk (hb);have n2_:=Aside0.mk (ho);clear BK388;clear HB;clear HO_3;clear HO_5;have BK388:=n0_;have HB:=n1_;have HO391:=n2_;clear n0_ n1_ n2_;clear ho hb hg hat))
                go_roundg k2
                case measure=>have:=HK1.out;have:=HK2.out;omega
                case rel=>exact ⟨(y389),(wrap64 (x10_1 + 1)),(by rfl),H',⟨by have:=HK1.out;have:=HK2.out;omega⟩,⟨by (with_reducible repeat (apply Kd.S_drew));exact HO391.out⟩,⟨by (with_reducible repeat (refine qaa ?_));exact BK388.out⟩,⟨by repeat ((with_reducible exact HB.out))⟩⟩
              · rw [if_neg c18] at H
                exact absurd H (by simp)
      · rw [if_neg c4] at H
        have c4b0 : decide (x10_1 < (l0_2.length : Int)) = false:=decide_eq_false c4
        clear c4
        obtain rfl:=Option.some.inj H
        go_wp2
        go_ret
        exact ⟨_,by rfl,by (with_reducible repeat (apply Kd.S_drew));exact HO_3.out,by repeat ((with_reducible exact HB.out))⟩
end Go.Proofs.YtmfjmbcfaamebaaDoor.X
namespace Go.Proofs.YtmfjmbcfaamebaaDoor.X
noncomputable section
open Go.RowKit Go.Proofs.YtmfjmbcfaamebaaDoorW.PrintWords Go.Proofs.YtmfjmbcfaamebaaDoorW.PrintLast Go.Proofs.YtmfjmbcfaamebaaDoorW.PrintMore
attribute [local go_sem] qbo qbu
set_option linter.unusedVariables false
set_option linter.unusedSimpArgs false
def qbj.f (k : Nat) (a0_0 : Bool) (a0_1 : Int) (l0_2 : List (S60)) : Option (Bool):=(qbp.f k).bind fun t400=>(if t400 = true then ((qau.f k a0_0 a0_1 l0_2).bind fun t401=>(if t401 = true then ((qaz.f k a0_0 a0_1 l0_2).bind fun t402=>((qan.f k a0_0 a0_1 l0_2).bind fun t405=>((qap.f k t402 t405).bind fun t408=>(if t408 = true then ((qbd.f k a0_0 a0_1 l0_2).bind fun t409=>((qad.f k a0_0 a0_1 l0_2).bind fun t412=>((qap.f k t409 t412).bind fun t415=>(some t415)))) else (some false))))) else (some true))) else (some false))
theorem qbj.mono : ∀ a0 a1 a2 k,LeO (qbj.f k a0 a1 a2) (qbj.f (k + 1) a0 a1 a2):=by
  intro a0 a1 a2 k
  unfold qbj.f
  repeat' first|(with_reducible exact qbd.mono _ _ _ _)|(with_reducible exact qaz.mono _ _ _ _)|(with_reducible exact qbp.mono _)|(with_reducible exact qap.mono _ _ _)|(with_reducible exact qad.mono _ _ _ _)|(with_reducible exact qau.mono _ _ _ _)|(with_reducible exact qan.mono _ _ _ _)|(with_reducible exact LeO.refl _)|(with_reducible refine LeO.ite ?_ ?_)|(with_reducible refine LeO.bind ?_ (fun _=>?_))
def qbj.T5 : Bool × List (List Nat × List Nat):=(true,[([],[]),([0],[0]),([],[]),([2,1],[2]),([1,3,3],[1,3]),([4,4],[4]),([5],[5]),([6,5,5],[5,6]),([5],[5]),([8,7,5],[5,8]),([7,9,9,5],[5,7,9]),([5,10],[5,10]),([11,10,0,1,2,3,4,5,6,7,8,9,10,11],[11])])
def qbj.B5 : List Nat:=[0,1,0,7,15,31,63,127,63,511,1023,2047,4095]
theorem qbj.tab5 : rtab .any (opsOf Tryd.f3 5) = qbj.T5:=by kernel_rfl
theorem qbj.bits5 : qea qbj.T5.2 qbj.B5 = true:=by kernel_rfl
set_option maxHeartbeats 8000000 in
set_option maxRecDepth 100000 in
theorem qbj.calls (k : Nat) (a0_0 : Bool) (a0_1 : Int) (A0_2 : Option Addr) (c0_2 : Nat) (l0_2 : List (S60)) (r : Bool) (w : World) (hT : TabW w) (hr0_2 : Kd.C k60 w A0_2 l0_2.length l0_2) (hc0_2 : l0_2.length≤c0_2) (h : qbj.f k a0_0 a0_1 l0_2 = some r) :
    Calls Tryd.prog 3 #[.agg #[.bool a0_0,.int .i64 a0_1,.slice A0_2 l0_2.length c0_2]] w fun e w'=>e = .returned (.bool r)∧Below w.heap.size w w':=by
  have hu24:=Tryd.underlying24
  have HR0_2:=Aside0.mk hr0_2
  have HC0_2:=Aside0.mk hc0_2
  clear hr0_2 hc0_2
  have HTB:=Aside0.mk hT
  clear hT
  have HB:=Aside0.mk (Below.refl w.heap.size w)
  have H : ((qbp.f k).bind fun t400=>(if t400 = true then ((qau.f k a0_0 a0_1 l0_2).bind fun t401=>(if t401 = true then ((qaz.f k a0_0 a0_1 l0_2).bind fun t402=>((qan.f k a0_0 a0_1 l0_2).bind fun t405=>((qap.f k t402 t405).bind fun t408=>(if t408 = true then ((qbd.f k a0_0 a0_1 l0_2).bind fun t409=>((qad.f k a0_0 a0_1 l0_2).bind fun t412=>((qap.f k t409 t412).bind fun t415=>(some t415)))) else (some false))))) else (some true))) else (some false))) = some r:=h
  clear h
  replace H:=Option.bind_eq_some_iff.mp H
  obtain ⟨t400,A20,H⟩:=H
  replace H : (if t400 = true then ((qau.f k a0_0 a0_1 l0_2).bind fun t401=>(if t401 = true then ((qaz.f k a0_0 a0_1 l0_2).bind fun t402=>((qan.f k a0_0 a0_1 l0_2).bind fun t405=>((qap.f k t402 t405).bind fun t408=>(if t408 = true then ((qbd.f k a0_0 a0_1 l0_2).bind fun t409=>((qad.f k a0_0 a0_1 l0_2).bind fun t412=>((qap.f k t409 t412).bind fun t415=>(some t415)))) else (some false))))) else (some true))) else (some false)) = some r:=H
  have A2:=Aside0.mk A20
  clear A20
  by_cases c3 : t400 = true
  · subst c3
    have H1 : ((qau.f k a0_0 a0_1 l0_2).bind fun t401=>(if t401 = true then ((qaz.f k a0_0 a0_1 l0_2).bind fun t402=>((qan.f k a0_0 a0_1 l0_2).bind fun t405=>((qap.f k t402 t405).bind fun t408=>(if t408 = true then ((qbd.f k a0_0 a0_1 l0_2).bind fun t409=>((qad.f k a0_0 a0_1 l0_2).bind fun t412=>((qap.f k t409 t412).bind fun t415=>(some t415)))) else (some false))))) else (some true))) = some r:=by rw [if_pos rfl] at H;exact H
    clear H
    have H:=H1
    clear H1
    replace H:=Option.bind_eq_some_iff.mp H
    obtain ⟨t401,A40,H⟩:=H
    replace H : (if t401 = true then ((qaz.f k a0_0 a0_1 l0_2).bind fun t402=>((qan.f k a0_0 a0_1 l0_2).bind fun t405=>((qap.f k t402 t405).bind fun t408=>(if t408 = true then ((qbd.f k a0_0 a0_1 l0_2).bind fun t409=>((qad.f k a0_0 a0_1 l0_2).bind fun t412=>((qap.f k t409 t412).bind fun t415=>(some t415)))) else (some false))))) else (some true)) = some r:=H
    have A4:=Aside0.mk A40
    clear A40
    by_cases c5 : t401 = true
    · subst c5
      have H1 : ((qaz.f k a0_0 a0_1 l0_2).bind fun t402=>((qan.f k a0_0 a0_1 l0_2).bind fun t405=>((qap.f k t402 t405).bind fun t408=>(if t408 = true then ((qbd.f k a0_0 a0_1 l0_2).bind fun t409=>((qad.f k a0_0 a0_1 l0_2).bind fun t412=>((qap.f k t409 t412).bind fun t415=>(some t415)))) else (some false))))) = some r:=by rw [if_pos rfl] at H;exact H
      clear H
      have H:=H1
      clear H1
      replace H:=Option.bind_eq_some_iff.mp H
      obtain ⟨t402,A60,H⟩:=H
      replace H : ((qan.f k a0_0 a0_1 l0_2).bind fun t405=>((qap.f k t402 t405).bind fun t408=>(if t408 = true then ((qbd.f k a0_0 a0_1 l0_2).bind fun t409=>((qad.f k a0_0 a0_1 l0_2).bind fun t412=>((qap.f k t409 t412).bind fun t415=>(some t415)))) else (some false)))) = some r:=H
      have A6:=Aside0.mk A60
      clear A60
      replace H:=Option.bind_eq_some_iff.mp H
      obtain ⟨t405,A70,H⟩:=H
      replace H : ((qap.f k t402 t405).bind fun t408=>(if t408 = true then ((qbd.f k a0_0 a0_1 l0_2).bind fun t409=>((qad.f k a0_0 a0_1 l0_2).bind fun t412=>((qap.f k t409 t412).bind fun t415=>(some t415)))) else (some false))) = some r:=H
      have A7:=Aside0.mk A70
      clear A70
      replace H:=Option.bind_eq_some_iff.mp H
      obtain ⟨t408,A80,H⟩:=H
      replace H : (if t408 = true then ((qbd.f k a0_0 a0_1 l0_2).bind fun t409=>((qad.f k a0_0 a0_1 l0_2).bind fun t412=>((qap.f k t409 t412).bind fun t415=>(some t415)))) else (some false)) = some r:=H
      have A8:=Aside0.mk A80
      clear A80
      by_cases c9 : t408 = true
      · subst c9
        have H1 : ((qbd.f k a0_0 a0_1 l0_2).bind fun t409=>((qad.f k a0_0 a0_1 l0_2).bind fun t412=>((qap.f k t409 t412).bind fun t415=>(some t415)))) = some r:=by rw [if_pos rfl] at H;exact H
        clear H
        have H:=H1
        clear H1
        replace H:=Option.bind_eq_some_iff.mp H
        obtain ⟨t409,A100,H⟩:=H
        replace H : ((qad.f k a0_0 a0_1 l0_2).bind fun t412=>((qap.f k t409 t412).bind fun t415=>(some t415))) = some r:=H
        have A10:=Aside0.mk A100
        clear A100
        replace H:=Option.bind_eq_some_iff.mp H
        obtain ⟨t412,A110,H⟩:=H
        replace H : ((qap.f k t409 t412).bind fun t415=>(some t415)) = some r:=H
        have A11:=Aside0.mk A110
        clear A110
        replace H:=Option.bind_eq_some_iff.mp H
        obtain ⟨t415,A120,H⟩:=H
        replace H : (some t415) = some r:=H
        have A12:=Aside0.mk A120
        clear A120
        obtain rfl:=Option.some.inj H
        go_enter Tryd.func3,Tryd.ntmps3
        try go_wp2_with (first|((with_reducible refine qbg (N:=1) rfl ?_);refine qbl ?hg (N:=1) ?hd (cs:=#[.bool a0_0,.int .i64 a0_1,.slice A0_2 l0_2.length c0_2]) (t:=24) ?hr ?_;(case hd=>rfl);(case hg=>rfl);(case hr=>(go_simp;done));intro gb399 hg w13 hbox hb;have n0_:=Aside0.mk (qai HB.out hb);have n1_:=Aside0.mk (hbox);have n2_:=Aside0.mk ((by rw [hg];exact (qac HB.out) : w.heap.size≤gb399));have n3_:=Aside0.mk ((by rw [hg];exact (qac HB.out) : w.heap.size≤gb399));clear HB;have HB:=n0_;have BK399:=n1_;have GW399:=n2_;have GE399:=n3_;clear n0_ n1_ n2_ n3_;clear hb hbox hg)|((with_reducible refine qbb (f:=11) rfl ?_);refine goesL_ (some 3) rfl rfl Tryd.func11 (by kernel_rfl) rfl #[] rfl (by (try simp only [List.map_toArray,List.map_cons,List.map_nil]);done) ?_;(with_reducible refine (qbp.calls k  true _ ?side1 A2.out).mono ?_);(case side1=>exact TabW.below' HTB.out HB.out);rintro e w14 ⟨rfl,hb⟩;refine ⟨_,rfl,?_⟩;have n0_:=Aside0.mk (qag (g:=gb399) (o:=.cells #[.bool a0_0,.int .i64 a0_1,.slice A0_2 l0_2.length c0_2] 24 (0,0)) (by (with_reducible repeat (refine qaa ?_));exact BK399.out) hb);have n1_:=Aside0.mk (qai HB.out hb);clear BK399;clear HB;have BK399:=n0_;have HB:=n1_;clear n0_ n1_;(try clear hb);have hcz15_0 : w14.cell? ⟨gb399,0,none⟩ = some (.bool a0_0):=(qab BK399.out 0).trans rfl;have hcz15_1 : w14.cell? ⟨gb399,1,none⟩ = some (.int .i64 a0_1):=(qab BK399.out 1).trans rfl;have hcz15_2 : w14.cell? ⟨gb399,2,none⟩ = some (.slice A0_2 l0_2.length c0_2):=(qab BK399.out 2).trans rfl;have hfz15_0:=qaf BK399.out 0;have hfz15_1:=qaf BK399.out 1;have hfz15_2:=qaf BK399.out 2)|((with_reducible refine qbb (f:=12) rfl ?_);refine goesL_ (some 6) rfl rfl Tryd.func12 (by kernel_rfl) rfl #[.agg #[.bool a0_0,.int .i64 a0_1,.slice A0_2 l0_2.length c0_2]] rfl (by (try simp only [List.map_toArray,List.map_cons,List.map_nil]);rfl) ?_;(with_reducible refine (qau.calls k a0_0 a0_1 _ _ l0_2 true _ ?side1 ?side2 A4.out).mono ?_);(case side1=>repeat (exact (Kd.C_below HR0_2.out HB.out)));(case side2=>exact HC0_2.out);rintro e w16 ⟨rfl,hb⟩;refine ⟨_,rfl,?_⟩;have n0_:=Aside0.mk (qag (g:=gb399) (o:=.cells #[.bool a0_0,.int .i64 a0_1,.slice A0_2 l0_2.length c0_2] 24 (0,0)) (by (with_reducible repeat (refine qaa ?_));exact BK399.out) hb);have n1_:=Aside0.mk (qai HB.out hb);clear BK399;clear HB;have BK399:=n0_;have HB:=n1_;clear n0_ n1_;(try clear hb)))
        have n0_:=Aside0.mk (qaa BK399.out)
        have n1_:=Aside0.mk (qcy HB.out)
        clear BK399
        clear HB
        have BK399:=n0_
        have HB:=n1_
        clear n0_ n1_
        refine start_ (n:=13) (S:=fun w'=>w'.cell? ⟨gb399,0,none⟩ = some (.bool a0_0)∧w'.cell? ⟨gb399,1,none⟩ = some (.int .i64 a0_1)∧w'.cell? ⟨gb399,2,none⟩ = some (.slice A0_2 l0_2.length c0_2)) (ds:=[]) #[false,false,false,false,false,false,false,false,false,false,false,false,false] (by kernel_rfl) rfl rfl ⟨(qab BK399.out 0).trans rfl,(qab BK399.out 1).trans rfl,(qab BK399.out 2).trans rfl⟩ (fun hHeld=>?_);refine qdl qbj.tab5 qbj.bits5 (fun HT_ HW_=>?_)
        generalize w16.drew = w17 at BK399 HB hHeld ⊢
        refine take_ (i:=0) (N:=some 8) (v:=?_) (a':=?_) #[true,false,false,false,false,false,false,false,false,false,false,false,false] rfl rfl (qcf HT_.out HW_.out (by kernel_rfl)) (fun _ _ _ h=>h) (Or.inl ⟨by rfl,?_⟩) hHeld ?_ ?_
        rotate_left
        · rintro w' ⟨s0,s1,s2⟩
          go_simp
          with_reducible rfl
        rotate_left
        · simp only [Act.put,List.setIfInBounds_toArray,List.set_cons_zero,List.set_cons_succ,i64_w,i32_w]
          rfl
        refine take_ (i:=2) (N:=some 10) (v:=?_) (a':=?_) #[true,false,true,false,false,false,false,false,false,false,false,false,false] rfl rfl (qcf HT_.out HW_.out (by kernel_rfl)) (fun _ _ _ h=>h) (Or.inl ⟨by rfl,?_⟩) hHeld ?_ ?_
        rotate_left
        · rintro w' ⟨s0,s1,s2⟩
          go_simp
          with_reducible rfl
        rotate_left
        · simp only [Act.put,List.setIfInBounds_toArray,List.set_cons_zero,List.set_cons_succ,i64_w,i32_w]
          rfl
        refine one_ (i:=1) (N:=some 9) #[true,true,true,false,false,false,false,false,false,false,false,false,false] rfl rfl (one_of HT_.out (by kernel_rfl)) (by decide) (fun K hK=>?_)
        refine goes_ Tryd.func14 (by kernel_rfl) rfl #[.agg #[.bool a0_0,.int .i64 a0_1,.slice A0_2 l0_2.length c0_2]] (by rfl) rfl rfl (by (try simp only [List.map_toArray,List.map_cons,List.map_nil]);rfl) ?_
        with_reducible refine (qaz.calls k a0_0 a0_1 _ _ l0_2 t402 _ ?side1 ?side2 A6.out).mono ?_
        (case side1=>repeat (exact (Kd.C_below HR0_2.out HB.out)))
        (case side2=>exact HC0_2.out)
        rintro e w18 ⟨v403,rfl,ho0,hb⟩
        refine ⟨_,rfl,?_⟩
        have n0_:=Aside0.mk (Kd.V_lower (Kd.V_mono (ok':=fun k_=>k_≠gb399) ho0 (fun k_ hk_=>(Kd.freshB (g:=gb399) (o:=.cells #[.bool a0_0,.int .i64 a0_1,.slice A0_2 l0_2.length c0_2] 24 (0,0)) (by (with_reducible repeat (refine qaa ?_));exact BK399.out) k_ hk_))) (qac HB.out))
        have n1_:=Aside0.mk (qag (g:=gb399) (o:=.cells #[.bool a0_0,.int .i64 a0_1,.slice A0_2 l0_2.length c0_2] 24 (0,0)) (by (with_reducible repeat (refine qaa ?_));exact BK399.out) hb)
        have n2_:=Aside0.mk (qai HB.out hb)
        clear BK399
        clear HB
        have HO404:=n0_
        have BK399:=n1_
        have HB:=n2_
        clear n0_ n1_ n2_
        (try clear hb)
        (try clear ho0)
        refine hK.out _ _ ⟨(qab BK399.out 0).trans rfl,(qab BK399.out 1).trans rfl,(qab BK399.out 2).trans rfl⟩ (fun hHeld=>?_)
        clear hK K
        refine norm_ (a':=?_) ?_ ?_
        rotate_left
        · show Act.put _ (some 9) _ = _
          simp only [Act.put,List.setIfInBounds_toArray,List.set_cons_zero,List.set_cons_succ,i64_w,i32_w]
          rfl
        refine one_ (i:=3) (N:=some 11) #[true,true,true,true,false,false,false,false,false,false,false,false,false] rfl rfl (one_of HT_.out (by kernel_rfl)) (by decide) (fun K hK=>?_)
        refine goes_ Tryd.func15 (by kernel_rfl) rfl #[.agg #[.bool a0_0,.int .i64 a0_1,.slice A0_2 l0_2.length c0_2]] (by rfl) rfl rfl (by (try simp only [List.map_toArray,List.map_cons,List.map_nil]);rfl) ?_
        with_reducible refine (qan.calls k a0_0 a0_1 _ _ l0_2 t405 _ ?side1 ?side2 A7.out).mono ?_
        (case side1=>repeat (exact (Kd.C_below HR0_2.out HB.out)))
        (case side2=>exact HC0_2.out)
        rintro e w19 ⟨v406,rfl,ho0,hb⟩
        refine ⟨_,rfl,?_⟩
        have n0_:=Aside0.mk (Kd.V_elder' (by (with_reducible repeat (apply Kd.V_drew));exact HO404.out) (Kd.S_base ho0) hb)
        have n1_:=Aside0.mk (Kd.S_lower ho0 (qac HB.out))
        have n2_:=Aside0.mk (qag (g:=gb399) (o:=.cells #[.bool a0_0,.int .i64 a0_1,.slice A0_2 l0_2.length c0_2] 24 (0,0)) (by (with_reducible repeat (refine qaa ?_));exact BK399.out) hb)
        have n3_:=Aside0.mk (qai HB.out hb)
        clear HO404
        clear BK399
        clear HB
        have HO404:=n0_
        have HO407:=n1_
        have BK399:=n2_
        have HB:=n3_
        clear n0_ n1_ n2_ n3_
        (try clear hb)
        (try clear ho0)
        obtain ⟨Ao20,co20,eo20⟩:=Kd.V_slice HO404.out
        (subst eo20)
        obtain ⟨Ao21,co21,eo21⟩:=Kd.S_slice HO407.out
        (subst eo21)
        refine hK.out _ _ ⟨(qab BK399.out 0).trans rfl,(qab BK399.out 1).trans rfl,(qab BK399.out 2).trans rfl⟩ (fun hHeld=>?_)
        clear hK K
        refine norm_ (a':=?_) ?_ ?_
        rotate_left
        · show Act.put _ (some 11) _ = _
          simp only [Act.put,List.setIfInBounds_toArray,List.set_cons_zero,List.set_cons_succ,i64_w,i32_w]
          rfl
        refine one_ (i:=4) (N:=some 12) #[true,true,true,true,true,false,false,false,false,false,false,false,false] rfl rfl (one_of HT_.out (by kernel_rfl)) (by decide) (fun K hK=>?_)
        refine goes_ Tryd.func13 (by kernel_rfl) rfl #[.slice Ao20 t402.length co20,.slice Ao21 t405.length co21] (by rfl) rfl rfl (by (try simp only [List.map_toArray,List.map_cons,List.map_nil]);rfl) ?_
        with_reducible refine (qap.calls k _ _ t402 _ _ t405 true _ ?side1 ?side2 ?side3 ?side4 A8.out).mono ?_
        (case side1=>repeat (exact (Kd.V_reads' HO404.out).2.2))
        (case side2=>exact (Kd.V_reads' HO404.out).2.1)
        (case side3=>repeat (exact (Kd.S_reads' HO407.out).2.2))
        (case side4=>exact (Kd.S_reads' HO407.out).2.1)
        rintro e w' ⟨rfl,⟨nd,rfl⟩⟩
        refine ⟨_,rfl,?_⟩
        refine hK.out _ _ ⟨(qab BK399.out 0).trans rfl,(qab BK399.out 1).trans rfl,(qab BK399.out 2).trans rfl⟩ (fun hHeld=>?_)
        clear hK K
        refine norm_ (a':=?_) ?_ ?_
        rotate_left
        · show Act.put _ (some 12) _ = _
          simp only [Act.put,List.setIfInBounds_toArray,List.set_cons_zero,List.set_cons_succ,i64_w,i32_w]
          rfl
        refine pure_ (i:=5) (N:=some 13) (v:=?_) (a':=?_) #[true,true,true,true,true,true,false,false,false,false,false,false,false] rfl rfl (any_of HT_.out (by kernel_rfl)) (fun _ _ _ h=>h) (Or.inl ⟨by rfl,?_⟩) ?_ ?_
        rotate_left
        · intro w'
          go_simp
          with_reducible rfl
        rotate_left
        · simp only [Act.put,List.setIfInBounds_toArray,List.set_cons_zero,List.set_cons_succ,i64_w,i32_w]
          rfl
        refine take_ (i:=6) (N:=some 14) (v:=?_) (a':=?_) #[true,true,true,true,true,true,true,false,false,false,false,false,false] rfl rfl (qcf HT_.out HW_.out (by kernel_rfl)) (fun _ _ _ h=>h) (Or.inl ⟨by rfl,?_⟩) hHeld ?_ ?_
        rotate_left
        · rintro w' ⟨s0,s1,s2⟩
          go_simp
          with_reducible rfl
        rotate_left
        · simp only [Act.put,List.setIfInBounds_toArray,List.set_cons_zero,List.set_cons_succ,i64_w,i32_w]
          rfl
        refine take_ (i:=8) (N:=some 16) (v:=?_) (a':=?_) #[true,true,true,true,true,true,true,false,true,false,false,false,false] rfl rfl (qcf HT_.out HW_.out (by kernel_rfl)) (fun _ _ _ h=>h) (Or.inl ⟨by rfl,?_⟩) hHeld ?_ ?_
        rotate_left
        · rintro w' ⟨s0,s1,s2⟩
          go_simp
          with_reducible rfl
        rotate_left
        · simp only [Act.put,List.setIfInBounds_toArray,List.set_cons_zero,List.set_cons_succ,i64_w,i32_w]
          rfl
        refine one_ (i:=7) (N:=some 15) #[true,true,true,true,true,true,true,true,true,false,false,false,false] rfl rfl (one_of HT_.out (by kernel_rfl)) (by decide) (fun K hK=>?_)
        refine goes_ Tryd.func16 (by kernel_rfl) rfl #[.agg #[.bool a0_0,.int .i64 a0_1,.slice A0_2 l0_2.length c0_2]] (by rfl) rfl rfl (by (try simp only [List.map_toArray,List.map_cons,List.map_nil]);rfl) ?_
        with_reducible refine (qbd.calls k a0_0 a0_1 _ _ l0_2 t409 _ ?side1 ?side2 A10.out).mono ?_
        (case side1=>repeat (exact (Kd.C_below HR0_2.out (by repeat ((with_reducible first|exact HB.out|apply qay))))))
        (case side2=>exact HC0_2.out)
        rintro e w22 ⟨v410,rfl,ho0,hb⟩
        refine ⟨_,rfl,?_⟩
        have n0_:=Aside0.mk (Kd.V_below (by (with_reducible repeat (apply Kd.V_drewN));exact HO404.out) hb)
        have n1_:=Aside0.mk (Kd.S_below (by (with_reducible repeat (apply Kd.S_drewN));exact HO407.out) hb)
        have n2_:=Aside0.mk (Kd.V_lower (Kd.V_mono (ok':=fun k_=>some k_≠(.slice Ao21 t405.length co21 : Value).ownBlock∧k_≠gb399) ho0 (fun k_ hk_=>⟨(Kd.fresh' (Kd.S_lt (by (with_reducible repeat (apply Kd.S_drewN));exact HO407.out)) k_ hk_),(Kd.freshB (g:=gb399) (o:=.cells #[.bool a0_0,.int .i64 a0_1,.slice A0_2 l0_2.length c0_2] 24 (0,0)) (by (with_reducible repeat (refine qcr ?_ _));exact BK399.out) k_ hk_)⟩)) (qac (by repeat ((with_reducible first|exact HB.out|apply qay)))))
        have n3_:=Aside0.mk (qag (g:=gb399) (o:=.cells #[.bool a0_0,.int .i64 a0_1,.slice A0_2 l0_2.length c0_2] 24 (0,0)) (by (with_reducible repeat (refine qcr ?_ _));exact BK399.out) hb)
        have n4_:=Aside0.mk (qai (by repeat ((with_reducible first|exact HB.out|apply qay))) hb)
        clear HO404
        clear HO407
        clear BK399
        clear HB
        have HO404:=n0_
        have HO407:=n1_
        have HO411:=n2_
        have BK399:=n3_
        have HB:=n4_
        clear n0_ n1_ n2_ n3_ n4_
        (try clear hb)
        (try clear ho0)
        refine hK.out _ _ ⟨(qab BK399.out 0).trans rfl,(qab BK399.out 1).trans rfl,(qab BK399.out 2).trans rfl⟩ (fun hHeld=>?_)
        clear hK K
        refine norm_ (a':=?_) ?_ ?_
        rotate_left
        · show Act.put _ (some 15) _ = _
          simp only [Act.put,List.setIfInBounds_toArray,List.set_cons_zero,List.set_cons_succ,i64_w,i32_w]
          rfl
        refine one_ (i:=9) (N:=some 17) #[true,true,true,true,true,true,true,true,true,true,false,false,false] rfl rfl (one_of HT_.out (by kernel_rfl)) (by decide) (fun K hK=>?_)
        refine goes_ Tryd.func17 (by kernel_rfl) rfl #[.agg #[.bool a0_0,.int .i64 a0_1,.slice A0_2 l0_2.length c0_2]] (by rfl) rfl rfl (by (try simp only [List.map_toArray,List.map_cons,List.map_nil]);rfl) ?_
        with_reducible refine (qad.calls k a0_0 a0_1 _ _ l0_2 t412 _ ?side1 ?side2 A11.out).mono ?_
        (case side1=>repeat (exact (Kd.C_below HR0_2.out HB.out)))
        (case side2=>exact HC0_2.out)
        rintro e w23 ⟨v413,rfl,ho0,hb⟩
        refine ⟨_,rfl,?_⟩
        have n0_:=Aside0.mk (Kd.V_elder' (by (with_reducible repeat (apply Kd.V_drew));exact HO404.out) (Kd.S_base ho0) hb)
        have n1_:=Aside0.mk (Kd.S_elder' (by (with_reducible repeat (apply Kd.S_drew));exact HO407.out) (Kd.S_base ho0) hb)
        have n2_:=Aside0.mk (Kd.V_elder' (by (with_reducible repeat (apply Kd.V_drew));exact HO411.out) (Kd.S_base ho0) hb)
        have n3_:=Aside0.mk (Kd.S_lower (Kd.S_new' ho0 (Kd.S_lt (by (with_reducible repeat (apply Kd.S_drew));exact HO407.out))) (qac HB.out))
        have n4_:=Aside0.mk (qag (g:=gb399) (o:=.cells #[.bool a0_0,.int .i64 a0_1,.slice A0_2 l0_2.length c0_2] 24 (0,0)) (by (with_reducible repeat (refine qaa ?_));exact BK399.out) hb)
        have n5_:=Aside0.mk (qai HB.out hb)
        clear HO404
        clear HO407
        clear HO411
        clear BK399
        clear HB
        have HO404:=n0_
        have HO407:=n1_
        have HO411:=n2_
        have HO414:=n3_
        have BK399:=n4_
        have HB:=n5_
        clear n0_ n1_ n2_ n3_ n4_ n5_
        (try clear hb)
        (try clear ho0)
        obtain ⟨Ao24,co24,eo24⟩:=Kd.V_slice HO411.out
        (subst eo24)
        obtain ⟨Ao25,co25,eo25⟩:=Kd.S_slice HO414.out
        (subst eo25)
        refine hK.out _ _ ⟨(qab BK399.out 0).trans rfl,(qab BK399.out 1).trans rfl,(qab BK399.out 2).trans rfl⟩ (fun hHeld=>?_)
        clear hK K
        refine norm_ (a':=?_) ?_ ?_
        rotate_left
        · show Act.put _ (some 17) _ = _
          simp only [Act.put,List.setIfInBounds_toArray,List.set_cons_zero,List.set_cons_succ,i64_w,i32_w]
          rfl
        refine one_ (i:=10) (N:=some 18) #[true,true,true,true,true,true,true,true,true,true,true,false,false] rfl rfl (one_of HT_.out (by kernel_rfl)) (by decide) (fun K hK=>?_)
        refine goes_ Tryd.func13 (by kernel_rfl) rfl #[.slice Ao24 t409.length co24,.slice Ao25 t412.length co25] (by rfl) rfl rfl (by (try simp only [List.map_toArray,List.map_cons,List.map_nil]);rfl) ?_
        with_reducible refine (qap.calls k _ _ t409 _ _ t412 t415 _ ?side1 ?side2 ?side3 ?side4 A12.out).mono ?_
        (case side1=>repeat (exact (Kd.V_reads' HO411.out).2.2))
        (case side2=>exact (Kd.V_reads' HO411.out).2.1)
        (case side3=>repeat (exact (Kd.S_reads' HO414.out).2.2))
        (case side4=>exact (Kd.S_reads' HO414.out).2.1)
        rintro e w' ⟨rfl,⟨nd,rfl⟩⟩
        refine ⟨_,rfl,?_⟩
        refine hK.out _ _ ⟨(qab BK399.out 0).trans rfl,(qab BK399.out 1).trans rfl,(qab BK399.out 2).trans rfl⟩ (fun hHeld=>?_)
        clear hK K
        refine norm_ (a':=?_) ?_ ?_
        rotate_left
        · show Act.put _ (some 18) _ = _
          simp only [Act.put,List.setIfInBounds_toArray,List.set_cons_zero,List.set_cons_succ,i64_w,i32_w]
          rfl
        refine pure_ (i:=11) (N:=some 19) (v:=?_) (a':=?_) #[true,true,true,true,true,true,true,true,true,true,true,true,false] rfl rfl (any_of HT_.out (by kernel_rfl)) (fun _ _ _ h=>h) (Or.inl ⟨by rfl,?_⟩) ?_ ?_
        rotate_left
        · intro w'
          go_simp
          with_reducible rfl
        rotate_left
        · simp only [Act.put,List.setIfInBounds_toArray,List.set_cons_zero,List.set_cons_succ,i64_w,i32_w]
          rfl
        refine pure_ (i:=12) (N:=some 2) (v:=?_) (a':=?_) #[true,true,true,true,true,true,true,true,true,true,true,true,true] rfl rfl (any_of HT_.out (by kernel_rfl)) (fun _ _ _ h=>h) (Or.inl ⟨by rfl,?_⟩) ?_ ?_
        rotate_left
        · intro w'
          go_simp
          with_reducible rfl
        rotate_left
        · simp only [Act.put,List.setIfInBounds_toArray,List.set_cons_zero,List.set_cons_succ,i64_w,i32_w]
          rfl
        refine done_ (done_of HT_.out (by kernel_rfl)) ?_
        try go_wp2
        go_ret
        exact ⟨by rfl,by repeat ((with_reducible first|exact HB.out|apply qay))⟩
      · replace c9:=Bool.eq_false_iff.mpr c9
        subst c9
        have H1 : (some false) = some r:=by rw [if_neg (show ¬ (false = true) by decide)] at H;exact H
        clear H
        have H:=H1
        clear H1
        obtain rfl:=Option.some.inj H
        go_enter Tryd.func3,Tryd.ntmps3
        try go_wp2_with (first|((with_reducible refine qbg (N:=1) rfl ?_);refine qbl ?hg (N:=1) ?hd (cs:=#[.bool a0_0,.int .i64 a0_1,.slice A0_2 l0_2.length c0_2]) (t:=24) ?hr ?_;(case hd=>rfl);(case hg=>rfl);(case hr=>(go_simp;done));intro gb399 hg w26 hbox hb;have n0_:=Aside0.mk (qai HB.out hb);have n1_:=Aside0.mk (hbox);have n2_:=Aside0.mk ((by rw [hg];exact (qac HB.out) : w.heap.size≤gb399));have n3_:=Aside0.mk ((by rw [hg];exact (qac HB.out) : w.heap.size≤gb399));clear HB;have HB:=n0_;have BK399:=n1_;have GW399:=n2_;have GE399:=n3_;clear n0_ n1_ n2_ n3_;clear hb hbox hg)|((with_reducible refine qbb (f:=11) rfl ?_);refine goesL_ (some 3) rfl rfl Tryd.func11 (by kernel_rfl) rfl #[] rfl (by (try simp only [List.map_toArray,List.map_cons,List.map_nil]);done) ?_;(with_reducible refine (qbp.calls k  true _ ?side1 A2.out).mono ?_);(case side1=>exact TabW.below' HTB.out HB.out);rintro e w27 ⟨rfl,hb⟩;refine ⟨_,rfl,?_⟩;have n0_:=Aside0.mk (qag (g:=gb399) (o:=.cells #[.bool a0_0,.int .i64 a0_1,.slice A0_2 l0_2.length c0_2] 24 (0,0)) (by (with_reducible repeat (refine qaa ?_));exact BK399.out) hb);have n1_:=Aside0.mk (qai HB.out hb);clear BK399;clear HB;have BK399:=n0_;have HB:=n1_;clear n0_ n1_;(try clear hb);have hcz28_0 : w27.cell? ⟨gb399,0,none⟩ = some (.bool a0_0):=(qab BK399.out 0).trans rfl;have hcz28_1 : w27.cell? ⟨gb399,1,none⟩ = some (.int .i64 a0_1):=(qab BK399.out 1).trans rfl;have hcz28_2 : w27.cell? ⟨gb399,2,none⟩ = some (.slice A0_2 l0_2.length c0_2):=(qab BK399.out 2).trans rfl;have hfz28_0:=qaf BK399.out 0;have hfz28_1:=qaf BK399.out 1;have hfz28_2:=qaf BK399.out 2)|((with_reducible refine qbb (f:=12) rfl ?_);refine goesL_ (some 6) rfl rfl Tryd.func12 (by kernel_rfl) rfl #[.agg #[.bool a0_0,.int .i64 a0_1,.slice A0_2 l0_2.length c0_2]] rfl (by (try simp only [List.map_toArray,List.map_cons,List.map_nil]);rfl) ?_;(with_reducible refine (qau.calls k a0_0 a0_1 _ _ l0_2 true _ ?side1 ?side2 A4.out).mono ?_);(case side1=>repeat (exact (Kd.C_below HR0_2.out HB.out)));(case side2=>exact HC0_2.out);rintro e w29 ⟨rfl,hb⟩;refine ⟨_,rfl,?_⟩;have n0_:=Aside0.mk (qag (g:=gb399) (o:=.cells #[.bool a0_0,.int .i64 a0_1,.slice A0_2 l0_2.length c0_2] 24 (0,0)) (by (with_reducible repeat (refine qaa ?_));exact BK399.out) hb);have n1_:=Aside0.mk (qai HB.out hb);clear BK399;clear HB;have BK399:=n0_;have HB:=n1_;clear n0_ n1_;(try clear hb)))
        have n0_:=Aside0.mk (qaa BK399.out)
        have n1_:=Aside0.mk (qcy HB.out)
        clear BK399
        clear HB
        have BK399:=n0_
        have HB:=n1_
        clear n0_ n1_
        refine start_ (n:=13) (S:=fun w'=>w'.cell? ⟨gb399,0,none⟩ = some (.bool a0_0)∧w'.cell? ⟨gb399,1,none⟩ = some (.int .i64 a0_1)∧w'.cell? ⟨gb399,2,none⟩ = some (.slice A0_2 l0_2.length c0_2)) (ds:=[]) #[false,false,false,false,false,false,false,false,false,false,false,false,false] (by kernel_rfl) rfl rfl ⟨(qab BK399.out 0).trans rfl,(qab BK399.out 1).trans rfl,(qab BK399.out 2).trans rfl⟩ (fun hHeld=>?_);refine qdl qbj.tab5 qbj.bits5 (fun HT_ HW_=>?_)
        generalize w29.drew = w30 at BK399 HB hHeld ⊢
        refine take_ (i:=0) (N:=some 8) (v:=?_) (a':=?_) #[true,false,false,false,false,false,false,false,false,false,false,false,false] rfl rfl (qcf HT_.out HW_.out (by kernel_rfl)) (fun _ _ _ h=>h) (Or.inl ⟨by rfl,?_⟩) hHeld ?_ ?_
        rotate_left
        · rintro w' ⟨s0,s1,s2⟩
          go_simp
          with_reducible rfl
        rotate_left
        · simp only [Act.put,List.setIfInBounds_toArray,List.set_cons_zero,List.set_cons_succ,i64_w,i32_w]
          rfl
        refine take_ (i:=2) (N:=some 10) (v:=?_) (a':=?_) #[true,false,true,false,false,false,false,false,false,false,false,false,false] rfl rfl (qcf HT_.out HW_.out (by kernel_rfl)) (fun _ _ _ h=>h) (Or.inl ⟨by rfl,?_⟩) hHeld ?_ ?_
        rotate_left
        · rintro w' ⟨s0,s1,s2⟩
          go_simp
          with_reducible rfl
        rotate_left
        · simp only [Act.put,List.setIfInBounds_toArray,List.set_cons_zero,List.set_cons_succ,i64_w,i32_w]
          rfl
        refine one_ (i:=1) (N:=some 9) #[true,true,true,false,false,false,false,false,false,false,false,false,false] rfl rfl (one_of HT_.out (by kernel_rfl)) (by decide) (fun K hK=>?_)
        refine goes_ Tryd.func14 (by kernel_rfl) rfl #[.agg #[.bool a0_0,.int .i64 a0_1,.slice A0_2 l0_2.length c0_2]] (by rfl) rfl rfl (by (try simp only [List.map_toArray,List.map_cons,List.map_nil]);rfl) ?_
        with_reducible refine (qaz.calls k a0_0 a0_1 _ _ l0_2 t402 _ ?side1 ?side2 A6.out).mono ?_
        (case side1=>repeat (exact (Kd.C_below HR0_2.out HB.out)))
        (case side2=>exact HC0_2.out)
        rintro e w31 ⟨v403,rfl,ho0,hb⟩
        refine ⟨_,rfl,?_⟩
        have n0_:=Aside0.mk (Kd.V_lower (Kd.V_mono (ok':=fun k_=>k_≠gb399) ho0 (fun k_ hk_=>(Kd.freshB (g:=gb399) (o:=.cells #[.bool a0_0,.int .i64 a0_1,.slice A0_2 l0_2.length c0_2] 24 (0,0)) (by (with_reducible repeat (refine qaa ?_));exact BK399.out) k_ hk_))) (qac HB.out))
        have n1_:=Aside0.mk (qag (g:=gb399) (o:=.cells #[.bool a0_0,.int .i64 a0_1,.slice A0_2 l0_2.length c0_2] 24 (0,0)) (by (with_reducible repeat (refine qaa ?_));exact BK399.out) hb)
        have n2_:=Aside0.mk (qai HB.out hb)
        clear BK399
        clear HB
        have HO404:=n0_
        have BK399:=n1_
        have HB:=n2_
        clear n0_ n1_ n2_
        (try clear hb)
        (try clear ho0)
        refine hK.out _ _ ⟨(qab BK399.out 0).trans rfl,(qab BK399.out 1).trans rfl,(qab BK399.out 2).trans rfl⟩ (fun hHeld=>?_)
        clear hK K
        refine norm_ (a':=?_) ?_ ?_
        rotate_left
        · show Act.put _ (some 9) _ = _
          simp only [Act.put,List.setIfInBounds_toArray,List.set_cons_zero,List.set_cons_succ,i64_w,i32_w]
          rfl
        refine one_ (i:=3) (N:=some 11) #[true,true,true,true,false,false,false,false,false,false,false,false,false] rfl rfl (one_of HT_.out (by kernel_rfl)) (by decide) (fun K hK=>?_)
        refine goes_ Tryd.func15 (by kernel_rfl) rfl #[.agg #[.bool a0_0,.int .i64 a0_1,.slice A0_2 l0_2.length c0_2]] (by rfl) rfl rfl (by (try simp only [List.map_toArray,List.map_cons,List.map_nil]);rfl) ?_
        with_reducible refine (qan.calls k a0_0 a0_1 _ _ l0_2 t405 _ ?side1 ?side2 A7.out).mono ?_
        (case side1=>repeat (exact (Kd.C_below HR0_2.out HB.out)))
        (case side2=>exact HC0_2.out)
        rintro e w32 ⟨v406,rfl,ho0,hb⟩
        refine ⟨_,rfl,?_⟩
        have n0_:=Aside0.mk (Kd.V_elder' (by (with_reducible repeat (apply Kd.V_drew));exact HO404.out) (Kd.S_base ho0) hb)
        have n1_:=Aside0.mk (Kd.S_lower ho0 (qac HB.out))
        have n2_:=Aside0.mk (qag (g:=gb399) (o:=.cells #[.bool a0_0,.int .i64 a0_1,.slice A0_2 l0_2.length c0_2] 24 (0,0)) (by (with_reducible repeat (refine qaa ?_));exact BK399.out) hb)
        have n3_:=Aside0.mk (qai HB.out hb)
        clear HO404
        clear BK399
        clear HB
        have HO404:=n0_
        have HO407:=n1_
        have BK399:=n2_
        have HB:=n3_
        clear n0_ n1_ n2_ n3_
        (try clear hb)
        (try clear ho0)
        obtain ⟨Ao33,co33,eo33⟩:=Kd.V_slice HO404.out
        (subst eo33)
        obtain ⟨Ao34,co34,eo34⟩:=Kd.S_slice HO407.out
        (subst eo34)
        refine hK.out _ _ ⟨(qab BK399.out 0).trans rfl,(qab BK399.out 1).trans rfl,(qab BK399.out 2).trans rfl⟩ (fun hHeld=>?_)
        clear hK K
        refine norm_ (a':=?_) ?_ ?_
        rotate_left
        · show Act.put _ (some 11) _ = _
          simp only [Act.put,List.setIfInBounds_toArray,List.set_cons_zero,List.set_cons_succ,i64_w,i32_w]
          rfl
        refine one_ (i:=4) (N:=some 12) #[true,true,true,true,true,false,false,false,false,false,false,false,false] rfl rfl (one_of HT_.out (by kernel_rfl)) (by decide) (fun K hK=>?_)
        refine goes_ Tryd.func13 (by kernel_rfl) rfl #[.slice Ao33 t402.length co33,.slice Ao34 t405.length co34] (by rfl) rfl rfl (by (try simp only [List.map_toArray,List.map_cons,List.map_nil]);rfl) ?_
        with_reducible refine (qap.calls k _ _ t402 _ _ t405 false _ ?side1 ?side2 ?side3 ?side4 A8.out).mono ?_
        (case side1=>repeat (exact (Kd.V_reads' HO404.out).2.2))
        (case side2=>exact (Kd.V_reads' HO404.out).2.1)
        (case side3=>repeat (exact (Kd.S_reads' HO407.out).2.2))
        (case side4=>exact (Kd.S_reads' HO407.out).2.1)
        rintro e w' ⟨rfl,⟨nd,rfl⟩⟩
        refine ⟨_,rfl,?_⟩
        refine hK.out _ _ ⟨(qab BK399.out 0).trans rfl,(qab BK399.out 1).trans rfl,(qab BK399.out 2).trans rfl⟩ (fun hHeld=>?_)
        clear hK K
        refine norm_ (a':=?_) ?_ ?_
        rotate_left
        · show Act.put _ (some 12) _ = _
          simp only [Act.put,List.setIfInBounds_toArray,List.set_cons_zero,List.set_cons_succ,i64_w,i32_w]
          rfl
        refine pure_ (i:=5) (N:=some 13) (v:=?_) (a':=?_) #[true,true,true,true,true,true,false,false,false,false,false,false,false] rfl rfl (any_of HT_.out (by kernel_rfl)) (fun _ _ _ h=>h) (Or.inl ⟨by rfl,?_⟩) ?_ ?_
        rotate_left
        · intro w'
          go_simp
          with_reducible rfl
        rotate_left
        · simp only [Act.put,List.setIfInBounds_toArray,List.set_cons_zero,List.set_cons_succ,i64_w,i32_w]
          rfl
        refine pure_ (i:=6) (N:=some 14) (v:=undef) (a':=?_) #[true,true,true,true,true,true,true,false,false,false,false,false,false] rfl rfl (any_of HT_.out (by kernel_rfl)) (fun _ _ _ h=>h) (Or.inr ⟨by rfl,rfl⟩) ?_ ?_
        rotate_left
        · simp only [Act.put,List.setIfInBounds_toArray,List.set_cons_zero,List.set_cons_succ,i64_w,i32_w]
          rfl
        refine pure_ (i:=7) (N:=some 15) (v:=undef) (a':=?_) #[true,true,true,true,true,true,true,true,false,false,false,false,false] rfl rfl (any_of HT_.out (by kernel_rfl)) (fun _ _ _ h=>h) (Or.inr ⟨by rfl,rfl⟩) ?_ ?_
        rotate_left
        · simp only [Act.put,List.setIfInBounds_toArray,List.set_cons_zero,List.set_cons_succ,i64_w,i32_w]
          rfl
        refine pure_ (i:=8) (N:=some 16) (v:=undef) (a':=?_) #[true,true,true,true,true,true,true,true,true,false,false,false,false] rfl rfl (any_of HT_.out (by kernel_rfl)) (fun _ _ _ h=>h) (Or.inr ⟨by rfl,rfl⟩) ?_ ?_
        rotate_left
        · simp only [Act.put,List.setIfInBounds_toArray,List.set_cons_zero,List.set_cons_succ,i64_w,i32_w]
          rfl
        refine pure_ (i:=9) (N:=some 17) (v:=undef) (a':=?_) #[true,true,true,true,true,true,true,true,true,true,false,false,false] rfl rfl (any_of HT_.out (by kernel_rfl)) (fun _ _ _ h=>h) (Or.inr ⟨by rfl,rfl⟩) ?_ ?_
        rotate_left
        · simp only [Act.put,List.setIfInBounds_toArray,List.set_cons_zero,List.set_cons_succ,i64_w,i32_w]
          rfl
        refine pure_ (i:=10) (N:=some 18) (v:=undef) (a':=?_) #[true,true,true,true,true,true,true,true,true,true,true,false,false] rfl rfl (any_of HT_.out (by kernel_rfl)) (fun _ _ _ h=>h) (Or.inr ⟨by rfl,rfl⟩) ?_ ?_
        rotate_left
        · simp only [Act.put,List.setIfInBounds_toArray,List.set_cons_zero,List.set_cons_succ,i64_w,i32_w]
          rfl
        refine pure_ (i:=11) (N:=some 19) (v:=?_) (a':=?_) #[true,true,true,true,true,true,true,true,true,true,true,true,false] rfl rfl (any_of HT_.out (by kernel_rfl)) (fun _ _ _ h=>h) (Or.inl ⟨by rfl,?_⟩) ?_ ?_
        rotate_left
        · intro w'
          go_simp
          with_reducible rfl
        rotate_left
        · simp only [Act.put,List.setIfInBounds_toArray,List.set_cons_zero,List.set_cons_succ,i64_w,i32_w]
          rfl
        refine pure_ (i:=12) (N:=some 2) (v:=?_) (a':=?_) #[true,true,true,true,true,true,true,true,true,true,true,true,true] rfl rfl (any_of HT_.out (by kernel_rfl)) (fun _ _ _ h=>h) (Or.inl ⟨by rfl,?_⟩) ?_ ?_
        rotate_left
        · intro w'
          go_simp
          with_reducible rfl
        rotate_left
        · simp only [Act.put,List.setIfInBounds_toArray,List.set_cons_zero,List.set_cons_succ,i64_w,i32_w]
          rfl
        refine done_ (done_of HT_.out (by kernel_rfl)) ?_
        try go_wp2
        go_ret
        exact ⟨by rfl,by repeat ((with_reducible first|exact HB.out|apply qay))⟩
    · replace c5:=Bool.eq_false_iff.mpr c5
      subst c5
      have H1 : (some true) = some r:=by rw [if_neg (show ¬ (false = true) by decide)] at H;exact H
      clear H
      have H:=H1
      clear H1
      obtain rfl:=Option.some.inj H
      go_enter Tryd.func3,Tryd.ntmps3
      go_wp2_with (first|((with_reducible refine qbg (N:=1) rfl ?_);refine qbl ?hg (N:=1) ?hd (cs:=#[.bool a0_0,.int .i64 a0_1,.slice A0_2 l0_2.length c0_2]) (t:=24) ?hr ?_;(case hd=>rfl);(case hg=>rfl);(case hr=>(go_simp;done));intro gb399 hg w35 hbox hb;have n0_:=Aside0.mk (qai HB.out hb);have n1_:=Aside0.mk (hbox);have n2_:=Aside0.mk ((by rw [hg];exact (qac HB.out) : w.heap.size≤gb399));have n3_:=Aside0.mk ((by rw [hg];exact (qac HB.out) : w.heap.size≤gb399));clear HB;have HB:=n0_;have BK399:=n1_;have GW399:=n2_;have GE399:=n3_;clear n0_ n1_ n2_ n3_;clear hb hbox hg)|((with_reducible refine qbb (f:=11) rfl ?_);refine goesL_ (some 3) rfl rfl Tryd.func11 (by kernel_rfl) rfl #[] rfl (by (try simp only [List.map_toArray,List.map_cons,List.map_nil]);done) ?_;(with_reducible refine (qbp.calls k  true _ ?side1 A2.out).mono ?_);(case side1=>exact TabW.below' HTB.out HB.out);rintro e w36 ⟨rfl,hb⟩;refine ⟨_,rfl,?_⟩;have n0_:=Aside0.mk (qag (g:=gb399) (o:=.cells #[.bool a0_0,.int .i64 a0_1,.slice A0_2 l0_2.length c0_2] 24 (0,0)) (by (with_reducible repeat (refine qaa ?_));exact BK399.out) hb);have n1_:=Aside0.mk (qai HB.out hb);clear BK399;clear HB;have BK399:=n0_;have HB:=n1_;clear n0_ n1_;(try clear hb);have hcz37_0 : w36.cell? ⟨gb399,0,none⟩ = some (.bool a0_0):=(qab BK399.out 0).trans rfl;have hcz37_1 : w36.cell? ⟨gb399,1,none⟩ = some (.int .i64 a0_1):=(qab BK399.out 1).trans rfl;have hcz37_2 : w36.cell? ⟨gb399,2,none⟩ = some (.slice A0_2 l0_2.length c0_2):=(qab BK399.out 2).trans rfl;have hfz37_0:=qaf BK399.out 0;have hfz37_1:=qaf BK399.out 1;have hfz37_2:=qaf BK399.out 2)|((with_reducible refine qbb (f:=12) rfl ?_);refine goesL_ (some 6) rfl rfl Tryd.func12 (by kernel_rfl) rfl #[.agg #[.bool a0_0,.int .i64 a0_1,.slice A0_2 l0_2.length c0_2]] rfl (by (try simp only [List.map_toArray,List.map_cons,List.map_nil]);rfl) ?_;(with_reducible refine (qau.calls k a0_0 a0_1 _ _ l0_2 false _ ?side1 ?side2 A4.out).mono ?_);(case side1=>repeat (exact (Kd.C_below HR0_2.out HB.out)));(case side2=>exact HC0_2.out);rintro e w38 ⟨rfl,hb⟩;refine ⟨_,rfl,?_⟩;have n0_:=Aside0.mk (qag (g:=gb399) (o:=.cells #[.bool a0_0,.int .i64 a0_1,.slice A0_2 l0_2.length c0_2] 24 (0,0)) (by (with_reducible repeat (refine qaa ?_));exact BK399.out) hb);have n1_:=Aside0.mk (qai HB.out hb);clear BK399;clear HB;have BK399:=n0_;have HB:=n1_;clear n0_ n1_;(try clear hb)))
      go_ret
      exact ⟨by rfl,by repeat ((with_reducible exact HB.out))⟩
  · replace c3:=Bool.eq_false_iff.mpr c3
    subst c3
    have H1 : (some false) = some r:=by rw [if_neg (show ¬ (false = true) by decide)] at H;exact H
    clear H
    have H:=H1
    clear H1
    obtain rfl:=Option.some.inj H
    go_enter Tryd.func3,Tryd.ntmps3
    go_wp2_with (first|((with_reducible refine qbg (N:=1) rfl ?_);refine qbl ?hg (N:=1) ?hd (cs:=#[.bool a0_0,.int .i64 a0_1,.slice A0_2 l0_2.length c0_2]) (t:=24) ?hr ?_;(case hd=>rfl);(case hg=>rfl);(case hr=>(go_simp;done));intro gb399 hg w39 hbox hb;have n0_:=Aside0.mk (qai HB.out hb);have n1_:=Aside0.mk (hbox);have n2_:=Aside0.mk ((by rw [hg];exact (qac HB.out) : w.heap.size≤gb399));have n3_:=Aside0.mk ((by rw [hg];exact (qac HB.out) : w.heap.size≤gb399));clear HB;have HB:=n0_;have BK399:=n1_;have GW399:=n2_;have GE399:=n3_;clear n0_ n1_ n2_ n3_;clear hb hbox hg)|((with_reducible refine qbb (f:=11) rfl ?_);refine goesL_ (some 3) rfl rfl Tryd.func11 (by kernel_rfl) rfl #[] rfl (by (try simp only [List.map_toArray,List.map_cons,List.map_nil]);done) ?_;(with_reducible refine (qbp.calls k  false _ ?side1 A2.out).mono ?_);(case side1=>exact TabW.below' HTB.out HB.out);rintro e w40 ⟨rfl,hb⟩;refine ⟨_,rfl,?_⟩;have n0_:=Aside0.mk (qag (g:=gb399) (o:=.cells #[.bool a0_0,.int .i64 a0_1,.slice A0_2 l0_2.length c0_2] 24 (0,0)) (by (with_reducible repeat (refine qaa ?_));exact BK399.out) hb);have n1_:=Aside0.mk (qai HB.out hb);clear BK399;clear HB;have BK399:=n0_;have HB:=n1_;clear n0_ n1_;(try clear hb)))
    go_ret
    exact ⟨by rfl,by repeat ((with_reducible exact HB.out))⟩
end
end Go.Proofs.YtmfjmbcfaamebaaDoor.X
namespace Go.Proofs.YtmfjmbcfaamebaaDoor.X
open Go.RowKit Go.Proofs.YtmfjmbcfaamebaaDoorW.PrintWords Go.Proofs.YtmfjmbcfaamebaaDoorW.PrintLast Go.Proofs.YtmfjmbcfaamebaaDoorW.PrintMore
attribute [local go_sem] qbo qbu
set_option linter.unusedVariables false
set_option linter.unusedSimpArgs false
mutual
def qax.l0 : Nat→Int→List Int→List Int→List Int→Int→Int→Bool→Int→List (S60)→Option (List Int × List Int)
  | 0,_,_,_,_,_,_,_,_,_=>none
  | k + 1,x1,x2,x8,x25,x26,x27,x417000,x417001,x417002=>if x27 < x26 then (if 0≤x27 then (if x27 < (x25.length : Int) then ((qax.f k x417000 x417001 x417002 (rd x25 x27) x2).bind fun bt431=>(if x8.length + bt431.1.length < 17592186044416 then (qax.l0 k x1 bt431.2 (x8 ++ bt431.1) x25 x26 (wrap64 (x27 + 1)) x417000 x417001 x417002) else (none))) else (none)) else (none)) else (if x8.length < 17592186044416 then (some ((x8 ++ [x1]),x2)) else (none))
def qax.f : Nat→Bool→Int→List (S60)→Int→List Int→Option (List Int × List Int)
  | 0,_,_,_,_,_=>none
  | k + 1,a0_0,a0_1,l0_2,a1,l2=>(qar.f k l2 a1).bind fun t417=>(if t417 = true then (some (([] : List Int),l2)) else ((some (([] : List Int) : List Int)).bind fun y418=>(if y418.length + l2.length < 17592186044416 then ((some (y418 ++ l2 : List Int)).bind fun y421=>(if y421.length < 17592186044416 then ((qae.f k a0_0 a0_1 l0_2 a1).bind fun t427=>(qax.l0 k a1 (y421 ++ [a1]) ([] : List Int) t427 (t427.length : Int) 0 a0_0 a0_1 l0_2)) else (none))) else (none))))
end
theorem qax.mono_l : ∀ k,(∀ y0 y1 y2 y3 y4,LeO (qax.f k y0 y1 y2 y3 y4) (qax.f (k + 1) y0 y1 y2 y3 y4))∧(∀ y0 y1 y2 y3 y4 y5 y6 y7 y8,LeO (qax.l0 k y0 y1 y2 y3 y4 y5 y6 y7 y8) (qax.l0 (k + 1) y0 y1 y2 y3 y4 y5 y6 y7 y8))
  | 0=>⟨fun _ _ _ _ _ r h=>by simp [qax.f] at h,fun _ _ _ _ _ _ _ _ _ r h=>by simp [qax.l0] at h⟩
  | k + 1=>by
    obtain ⟨ih0,ih1⟩:=qax.mono_l k
    refine ⟨?_,?_⟩
    · intro y0 y1 y2 y3 y4
      unfold qax.f
      repeat' first|(with_reducible exact ih1 _ _ _ _ _ _ _ _ _)|(with_reducible exact qar.mono _ _ _)|(with_reducible exact qae.mono _ _ _ _ _)|(with_reducible exact LeO.refl _)|(with_reducible refine LeO.ite ?_ ?_)|(with_reducible refine LeO.bind ?_ (fun _=>?_))
    · intro y0 y1 y2 y3 y4 y5 y6 y7 y8
      unfold qax.l0
      repeat' first|(with_reducible exact ih0 _ _ _ _ _)|(with_reducible exact ih1 _ _ _ _ _ _ _ _ _)|(with_reducible exact LeO.refl _)|(with_reducible refine LeO.ite ?_ ?_)|(with_reducible refine LeO.bind ?_ (fun _=>?_))
theorem qax.mono : ∀ a0 a1 a2 a3 a4 k,LeO (qax.f k a0 a1 a2 a3 a4) (qax.f (k + 1) a0 a1 a2 a3 a4):=by
  intro a0 a1 a2 a3 a4 k
  obtain ⟨ih0,ih1⟩:=qax.mono_l k
  exact ih0 a0 a1 a2 a3 a4
end Go.Proofs.YtmfjmbcfaamebaaDoor.X
namespace Go.Proofs.YtmfjmbcfaamebaaDoor.X
open Go.RowKit Go.Proofs.YtmfjmbcfaamebaaDoorW.PrintWords Go.Proofs.YtmfjmbcfaamebaaDoorW.PrintLast Go.Proofs.YtmfjmbcfaamebaaDoorW.PrintMore
attribute [local go_sem] qbo qbu
set_option linter.unusedVariables false
set_option linter.unusedSimpArgs false
def qbh.l0 : Nat→List Int→List Int→Int→Int→Option (List Int)
  | 0,_,_,_,_=>none
  | k + 1,x3,x5,x17,x18=>if x18 < x17 then (if 0≤(wrap64 ((wrap64 ((x3.length : Int) - 1)) - x18)) then (if (wrap64 ((wrap64 ((x3.length : Int) - 1)) - x18)) < (x3.length : Int) then (if x5.length < 17592186044416 then (qbh.l0 k x3 (x5 ++ [rd x3 (wrap64 ((wrap64 ((x3.length : Int) - 1)) - x18))]) x17 (wrap64 (x18 + 1))) else (none)) else (none)) else (none)) else (some x5)
def qbh.f (k : Nat) (a0_0 : Bool) (a0_1 : Int) (l0_2 : List (S60)) : Option (List Int):=if (l0_2.length : Int) = 0 then (some ([] : List Int)) else ((qax.f k a0_0 a0_1 l0_2 0 ([] : List Int)).bind fun bt444=>(qbh.l0 k bt444.1 ([] : List Int) (bt444.1.length : Int) 0))
theorem qbh.mono_l : ∀ k,(∀ y0 y1 y2 y3,LeO (qbh.l0 k y0 y1 y2 y3) (qbh.l0 (k + 1) y0 y1 y2 y3))
  | 0=>fun _ _ _ _ r h=>by simp [qbh.l0] at h
  | k + 1=>by
    have ih0:=qbh.mono_l k
    · intro y0 y1 y2 y3
      unfold qbh.l0
      repeat' first|(with_reducible exact ih0 _ _ _ _)|(with_reducible exact LeO.refl _)|(with_reducible refine LeO.ite ?_ ?_)
theorem qbh.mono : ∀ a0 a1 a2 k,LeO (qbh.f k a0 a1 a2) (qbh.f (k + 1) a0 a1 a2):=by
  intro a0 a1 a2 k
  have ih0:=qbh.mono_l k
  unfold qbh.f
  repeat' first|(with_reducible exact ih0 _ _ _ _)|(with_reducible exact qax.mono _ _ _ _ _ _)|(with_reducible exact LeO.refl _)|(with_reducible refine LeO.ite ?_ ?_)|(with_reducible refine LeO.bind ?_ (fun _=>?_))
end Go.Proofs.YtmfjmbcfaamebaaDoor.X
namespace Go.Proofs.YtmfjmbcfaamebaaDoor.X
open Go.RowKit Go.Proofs.YtmfjmbcfaamebaaDoorW.PrintWords Go.Proofs.YtmfjmbcfaamebaaDoorW.PrintLast Go.Proofs.YtmfjmbcfaamebaaDoorW.PrintMore
attribute [local go_sem] qbo qbu
set_option linter.unusedVariables false
set_option linter.unusedSimpArgs false
open Go.Shelf
def tricklelaw24_list.f (l0_0 : List Int) : Option (List Int):=if setOk l0_0 = true∧(els l0_0).length < 100000 then some (els l0_0) else none
end Go.Proofs.YtmfjmbcfaamebaaDoor.X
namespace Go.Proofs.YtmfjmbcfaamebaaDoor.X
open Go.RowKit Go.Proofs.YtmfjmbcfaamebaaDoorW.PrintWords Go.Proofs.YtmfjmbcfaamebaaDoorW.PrintLast Go.Proofs.YtmfjmbcfaamebaaDoorW.PrintMore
attribute [local go_sem] qbo qbu
set_option linter.unusedVariables false
set_option linter.unusedSimpArgs false
mutual
def qal.j0 : Nat→Int→List Int→Bool→Bool→Int→List (S60)→Option (List Int)
  | 0,_,_,_,_,_,_=>none
  | k + 1,x1,x2,x24,x304000,x304001,x304002=>if x24 = true then (some ([] : List Int)) else (qal.l0 k x2 (([x1] : List Int)) 0 x304000 x304001 x304002)
def qal.l0 : Nat→List Int→List Int→Int→Bool→Int→List (S60)→Option (List Int)
  | 0,_,_,_,_,_,_=>none
  | k + 1,x2,x7,x8,x304000,x304001,x304002=>if x8 < (x7.length : Int) then (if 0≤x8 then ((qae.f k x304000 x304001 x304002 (rd x7 x8)).bind fun t312=>(qal.l1 k x2 x7 x8 t312 (t312.length : Int) 0 x304000 x304001 x304002)) else (none)) else ((qbc.f k x7).bind fun t308=>(some t308))
def qal.l1 : Nat→List Int→List Int→Int→List Int→Int→Int→Bool→Int→List (S60)→Option (List Int)
  | 0,_,_,_,_,_,_,_,_,_=>none
  | k + 1,x2,x7,x8,x38,x39,x40,x304000,x304001,x304002=>if x40 < x39 then (if 0≤x40 then (if x40 < (x38.length : Int) then ((qar.f k x7 (rd x38 x40)).bind fun t316=>(if t316 = true then (qal.l1 k x2 x7 x8 x38 x39 (wrap64 (x40 + 1)) x304000 x304001 x304002) else ((qar.f k x2 (rd x38 x40)).bind fun t317=>(if t317 = true then (qal.l1 k x2 x7 x8 x38 x39 (wrap64 (x40 + 1)) x304000 x304001 x304002) else (if x7.length < 17592186044416 then (qal.l1 k x2 (x7 ++ [rd x38 x40]) x8 x38 x39 (wrap64 (x40 + 1)) x304000 x304001 x304002) else (none)))))) else (none)) else (none)) else (qal.l0 k x2 x7 (wrap64 (x8 + 1)) x304000 x304001 x304002)
end
def qal.f (k : Nat) (a0_0 : Bool) (a0_1 : Int) (l0_2 : List (S60)) (a1 : Int) (l2 : List Int) : Option (List Int):=if a1 < 0 then (qal.j0 k a1 l2 true a0_0 a0_1 l0_2) else (if a1 ≥ (l0_2.length : Int) then (qal.j0 k a1 l2 true a0_0 a0_1 l0_2) else ((qar.f k l2 a1).bind fun t304=>(qal.j0 k a1 l2 t304 a0_0 a0_1 l0_2)))
theorem qal.mono_l : ∀ k,(∀ y0 y1 y2 y3 y4 y5,LeO (qal.j0 k y0 y1 y2 y3 y4 y5) (qal.j0 (k + 1) y0 y1 y2 y3 y4 y5))∧(∀ y0 y1 y2 y3 y4 y5,LeO (qal.l0 k y0 y1 y2 y3 y4 y5) (qal.l0 (k + 1) y0 y1 y2 y3 y4 y5))∧(∀ y0 y1 y2 y3 y4 y5 y6 y7 y8,LeO (qal.l1 k y0 y1 y2 y3 y4 y5 y6 y7 y8) (qal.l1 (k + 1) y0 y1 y2 y3 y4 y5 y6 y7 y8))
  | 0=>⟨fun _ _ _ _ _ _ r h=>by simp [qal.j0] at h,fun _ _ _ _ _ _ r h=>by simp [qal.l0] at h,fun _ _ _ _ _ _ _ _ _ r h=>by simp [qal.l1] at h⟩
  | k + 1=>by
    obtain ⟨ih0,ih1,ih2⟩:=qal.mono_l k
    refine ⟨?_,?_,?_⟩
    · intro y0 y1 y2 y3 y4 y5
      unfold qal.j0
      repeat' first|(with_reducible exact ih1 _ _ _ _ _ _)|(with_reducible exact LeO.refl _)|(with_reducible refine LeO.ite ?_ ?_)
    · intro y0 y1 y2 y3 y4 y5
      unfold qal.l0
      repeat' first|(with_reducible exact ih2 _ _ _ _ _ _ _ _ _)|(with_reducible exact qbc.mono _ _)|(with_reducible exact qae.mono _ _ _ _ _)|(with_reducible exact LeO.refl _)|(with_reducible refine LeO.ite ?_ ?_)|(with_reducible refine LeO.bind ?_ (fun _=>?_))
    · intro y0 y1 y2 y3 y4 y5 y6 y7 y8
      unfold qal.l1
      repeat' first|(with_reducible exact ih1 _ _ _ _ _ _)|(with_reducible exact ih2 _ _ _ _ _ _ _ _ _)|(with_reducible exact qar.mono _ _ _)|(with_reducible exact LeO.refl _)|(with_reducible refine LeO.ite ?_ ?_)|(with_reducible refine LeO.bind ?_ (fun _=>?_))
theorem qal.mono : ∀ a0 a1 a2 a3 a4 k,LeO (qal.f k a0 a1 a2 a3 a4) (qal.f (k + 1) a0 a1 a2 a3 a4):=by
  intro a0 a1 a2 a3 a4 k
  obtain ⟨ih0,ih1,ih2⟩:=qal.mono_l k
  unfold qal.f
  repeat' first|(with_reducible exact ih0 _ _ _ _ _ _)|(with_reducible exact qar.mono _ _ _)|(with_reducible refine LeO.ite ?_ ?_)|(with_reducible refine LeO.bind ?_ (fun _=>?_))
end Go.Proofs.YtmfjmbcfaamebaaDoor.X
namespace Go.Proofs.YtmfjmbcfaamebaaDoor.X
open Go.RowKit Go.Proofs.YtmfjmbcfaamebaaDoorW.PrintWords Go.Proofs.YtmfjmbcfaamebaaDoorW.PrintLast Go.Proofs.YtmfjmbcfaamebaaDoorW.PrintMore
attribute [local go_sem] qbo qbu
set_option linter.unusedVariables false
set_option linter.unusedSimpArgs false
def qcg.f (k : Nat) (a0_0 : Bool) (a0_1 : Int) (l0_2 : List (S60)) (a1 : Int) (a2 : Int) : Option (Bool):=(qal.f k a0_0 a0_1 l0_2 0 ([] : List Int)).bind fun t322=>((qar.f k t322 a2).bind fun t325=>(if t325 = true then ((qal.f k a0_0 a0_1 l0_2 0 (([a1] : List Int))).bind fun t329=>((qar.f k t329 a2).bind fun t332=>(some (!t332)))) else (some false)))
theorem qcg.mono : ∀ a0 a1 a2 a3 a4 k,LeO (qcg.f k a0 a1 a2 a3 a4) (qcg.f (k + 1) a0 a1 a2 a3 a4):=by
  intro a0 a1 a2 a3 a4 k
  unfold qcg.f
  repeat' first|(with_reducible exact qar.mono _ _ _)|(with_reducible exact qal.mono _ _ _ _ _ _)|(with_reducible exact LeO.refl _)|(with_reducible refine LeO.ite ?_ ?_)|(with_reducible refine LeO.bind ?_ (fun _=>?_))
end Go.Proofs.YtmfjmbcfaamebaaDoor.X
namespace Go.Proofs.YtmfjmbcfaamebaaDoor.X
open Go.RowKit Go.Proofs.YtmfjmbcfaamebaaDoorW.PrintWords Go.Proofs.YtmfjmbcfaamebaaDoorW.PrintLast Go.Proofs.YtmfjmbcfaamebaaDoorW.PrintMore
attribute [local go_sem] qbo qbu
set_option linter.unusedVariables false
set_option linter.unusedSimpArgs false
mutual
def qaq.l0 : Nat→List (List Int)→Int→Int→Bool→Int→List (S60)→Option ((List (List Int)))
  | 0,_,_,_,_,_,_=>none
  | k + 1,x3,x9,x10,x334000,x334001,x334002=>if x10 < x9 then (qaq.l1 k x3 x10 ([] : List Int) x9 x10 (x334002.length : Int) 0 x334000 x334001 x334002) else (some x3)
def qaq.l1 : Nat→List (List Int)→Int→List Int→Int→Int→Int→Int→Bool→Int→List (S60)→Option ((List (List Int)))
  | 0,_,_,_,_,_,_,_,_,_,_=>none
  | k + 1,x3,x4,x5,x9,x10,x15,x16,x334000,x334001,x334002=>if x16 < x15 then ((qcg.f k x334000 x334001 x334002 x16 x4).bind fun t334=>(if t334 = true then (if x5.length < 17592186044416 then (qaq.l1 k x3 x4 (x5 ++ [x16]) x9 x10 x15 (wrap64 (x16 + 1)) x334000 x334001 x334002) else (none)) else (qaq.l1 k x3 x4 x5 x9 x10 x15 (wrap64 (x16 + 1)) x334000 x334001 x334002))) else (if x3.length < 5864062014805 then (qaq.l0 k (x3 ++ [x5]) x9 (wrap64 (x10 + 1)) x334000 x334001 x334002) else (none))
end
def qaq.f (k : Nat) (a0_0 : Bool) (a0_1 : Int) (l0_2 : List (S60)) : Option ((List (List Int))):=qaq.l0 k ([] : List (List Int)) (l0_2.length : Int) 0 a0_0 a0_1 l0_2
theorem qaq.mono_l : ∀ k,(∀ y0 y1 y2 y3 y4 y5,LeO (qaq.l0 k y0 y1 y2 y3 y4 y5) (qaq.l0 (k + 1) y0 y1 y2 y3 y4 y5))∧(∀ y0 y1 y2 y3 y4 y5 y6 y7 y8 y9,LeO (qaq.l1 k y0 y1 y2 y3 y4 y5 y6 y7 y8 y9) (qaq.l1 (k + 1) y0 y1 y2 y3 y4 y5 y6 y7 y8 y9))
  | 0=>⟨fun _ _ _ _ _ _ r h=>by simp [qaq.l0] at h,fun _ _ _ _ _ _ _ _ _ _ r h=>by simp [qaq.l1] at h⟩
  | k + 1=>by
    obtain ⟨ih0,ih1⟩:=qaq.mono_l k
    refine ⟨?_,?_⟩
    · intro y0 y1 y2 y3 y4 y5
      unfold qaq.l0
      repeat' first|(with_reducible exact ih1 _ _ _ _ _ _ _ _ _ _)|(with_reducible exact LeO.refl _)|(with_reducible refine LeO.ite ?_ ?_)
    · intro y0 y1 y2 y3 y4 y5 y6 y7 y8 y9
      unfold qaq.l1
      repeat' first|(with_reducible exact ih0 _ _ _ _ _ _)|(with_reducible exact ih1 _ _ _ _ _ _ _ _ _ _)|(with_reducible exact qcg.mono _ _ _ _ _ _)|(with_reducible exact LeO.refl _)|(with_reducible refine LeO.ite ?_ ?_)|(with_reducible refine LeO.bind ?_ (fun _=>?_))
theorem qaq.mono : ∀ a0 a1 a2 k,LeO (qaq.f k a0 a1 a2) (qaq.f (k + 1) a0 a1 a2):=by
  intro a0 a1 a2 k
  obtain ⟨ih0,ih1⟩:=qaq.mono_l k
  unfold qaq.f
  repeat' (with_reducible exact ih0 _ _ _ _ _ _)
end Go.Proofs.YtmfjmbcfaamebaaDoor.X
namespace Go.Proofs.YtmfjmbcfaamebaaDoor.X
open Go.RowKit Go.Proofs.YtmfjmbcfaamebaaDoorW.PrintWords Go.Proofs.YtmfjmbcfaamebaaDoorW.PrintLast Go.Proofs.YtmfjmbcfaamebaaDoorW.PrintMore
attribute [local go_sem] qbo qbu
set_option linter.unusedVariables false
set_option linter.unusedSimpArgs false
def rimmIn (dom : List (List Int)) (n : Int) : List Int→Int→Option Int
  | [],best=>some best
  | d :: t,best=>if d = n then rimmIn dom n t best else if best < 0 then rimmIn dom n t d else if 0≤d∧d < (dom.length : Int)∧best < (dom.length : Int) then (if (dom.getD best.toNat []).length < (dom.getD d.toNat []).length then rimmIn dom n t d else rimmIn dom n t best) else none
def rimmOut (dom : List (List Int)) : Nat→Nat→List Int→Option (List Int)
  | 0,_,out=>some out
  | m + 1,i,out=>if i < dom.length∧out.length < 1099511627776 then (rimmIn dom (i : Int) (dom.getD i []) (-1)).bind fun b=>rimmOut dom m (i + 1) (out ++ [b]) else none
def qck.f (k : Nat) (a0_0 : Bool) (a0_1 : Int) (l0_2 : List S60) : Option (List Int):=(qaq.f k a0_0 a0_1 l0_2).bind fun dom=>rimmOut dom l0_2.length 0 []
theorem qck.mono : ∀ a0 a1 a2 k,LeO (qck.f k a0 a1 a2) (qck.f (k + 1) a0 a1 a2):=by
  intro a0 a1 a2 k
  unfold qck.f
  exact LeO.bind (qaq.mono _ _ _ _) (fun _=>LeO.refl _)
end Go.Proofs.YtmfjmbcfaamebaaDoor.X
namespace Go.Proofs.YtmfjmbcfaamebaaDoor.X
open Go.RowKit Go.Proofs.YtmfjmbcfaamebaaDoorW.PrintWords Go.Proofs.YtmfjmbcfaamebaaDoorW.PrintLast Go.Proofs.YtmfjmbcfaamebaaDoorW.PrintMore
attribute [local go_sem] qbo qbu
set_option linter.unusedVariables false
set_option linter.unusedSimpArgs false
def rbackIn (k : Nat) (dom : List (List Int)) (a : Int) : List Int→List S39→Option (List S39)
  | [],out=>some out
  | b :: t,out=>if a < (dom.length : Int)∧out.length < 1099511627776 then (qar.f k (dom.getD a.toNat []) b).bind fun h=>rbackIn k dom a t (if h = true then out ++ [⟨a,b⟩] else out) else none
def rbackOut (k : Nat) (dom : List (List Int)) : Nat→List (List Int)→List S39→Option (List S39)
  | _,[],out=>some out
  | a,l :: t,out=>(rbackIn k dom (a : Int) l out).bind (rbackOut k dom (a + 1) t)
def qcc.f (k : Nat) (a0_0 : Bool) (a0_1 : Int) (l0_2 : List S60) : Option (List S39):=
  (qaq.f k a0_0 a0_1 l0_2).bind fun dom=>(qan.f k a0_0 a0_1 l0_2).bind fun s=>rbackOut k dom 0 s []
theorem rbackIn.mono (k : Nat) (dom : List (List Int)) (a : Int) : ∀ (l : List Int) (out : List S39),LeO (rbackIn k dom a l out) (rbackIn (k + 1) dom a l out)
  | [],_=>LeO.refl _
  | b :: t,out=>by
    unfold rbackIn
    exact LeO.ite (LeO.bind (qar.mono _ _ _) (fun _=>rbackIn.mono k dom a t _)) (LeO.refl _)
theorem rbackOut.mono (k : Nat) (dom : List (List Int)) : ∀ (a : Nat) (l : List (List Int)) (out : List S39),LeO (rbackOut k dom a l out) (rbackOut (k + 1) dom a l out)
  | _,[],_=>LeO.refl _
  | a,l :: t,out=>by
    unfold rbackOut
    exact LeO.bind (rbackIn.mono k dom _ l out) (fun _=>rbackOut.mono k dom _ t _)
theorem qcc.mono : ∀ a0 a1 a2 k,LeO (qcc.f k a0 a1 a2) (qcc.f (k + 1) a0 a1 a2):=by
  intro a0 a1 a2 k
  unfold qcc.f
  exact LeO.bind (qaq.mono _ _ _ _) (fun _=>LeO.bind (qan.mono _ _ _ _) (fun _=>rbackOut.mono _ _ _ _ _))
end Go.Proofs.YtmfjmbcfaamebaaDoor.X
namespace Go.Proofs.YtmfjmbcfaamebaaDoor.X
open Go.RowKit Go.Proofs.YtmfjmbcfaamebaaDoorW.PrintWords Go.Proofs.YtmfjmbcfaamebaaDoorW.PrintLast Go.Proofs.YtmfjmbcfaamebaaDoorW.PrintMore
attribute [local go_sem] qbo qbu
set_option linter.unusedVariables false
set_option linter.unusedSimpArgs false
attribute [local go_sem high] eqA39
mutual
def qaw.l0 : Nat→Bool→List (S39)→Int→Int→Bool→Int→List (S60)→Int→Int→Option (List Int)
  | 0,_,_,_,_,_,_,_,_,_=>none
  | k + 1,x5,x12,x13,x14,x487000,x487001,x487002,x488000,x488001=>if x14 < x13 then (if 0≤x14 then (if x14 < (x12.length : Int) then (if x5 = true then (qaw.l0 k true x12 x13 (wrap64 (x14 + 1)) x487000 x487001 x487002 x488000 x488001) else (qaw.l0 k (((rd_T39 x12 x14).f0) == x488000 && (((rd_T39 x12 x14).f1) == x488001)) x12 x13 (wrap64 (x14 + 1)) x487000 x487001 x487002 x488000 x488001)) else (none)) else (none)) else (if x5 = true then ((qal.f k x487000 x487001 x487002 0 ([] : List Int)).bind fun t496=>(qaw.l1 k (([x488001] : List Int)) t496 (t496.length : Int) 0 x487000 x487001 x487002 x488000 x488001)) else (some ([] : List Int)))
def qaw.l1 : Nat→List Int→List Int→Int→Int→Bool→Int→List (S60)→Int→Int→Option (List Int)
  | 0,_,_,_,_,_,_,_,_,_=>none
  | k + 1,x8,x31,x32,x33,x487000,x487001,x487002,x488000,x488001=>if x33 < x32 then (if 0≤x33 then (if x33 < (x31.length : Int) then ((qal.f k x487000 x487001 x487002 (rd x31 x33) (([x488001] : List Int))).bind fun t506=>((qar.f k t506 x488000).bind fun t509=>(if t509 = true then (if x8.length < 17592186044416 then (qaw.l1 k (x8 ++ [rd x31 x33]) x31 x32 (wrap64 (x33 + 1)) x487000 x487001 x487002 x488000 x488001) else (none)) else (qaw.l1 k x8 x31 x32 (wrap64 (x33 + 1)) x487000 x487001 x487002 x488000 x488001)))) else (none)) else (none)) else ((qbc.f k x8).bind fun t499=>(some t499))
end
def qaw.f (k : Nat) (a0_0 : Bool) (a0_1 : Int) (l0_2 : List (S60)) (a1_0 : Int) (a1_1 : Int) : Option (List Int):=(qcc.f k a0_0 a0_1 l0_2).bind fun t488=>(qaw.l0 k false t488 (t488.length : Int) 0 a0_0 a0_1 l0_2 a1_0 a1_1)
theorem qaw.mono_l : ∀ k,(∀ y0 y1 y2 y3 y4 y5 y6 y7 y8,LeO (qaw.l0 k y0 y1 y2 y3 y4 y5 y6 y7 y8) (qaw.l0 (k + 1) y0 y1 y2 y3 y4 y5 y6 y7 y8))∧(∀ y0 y1 y2 y3 y4 y5 y6 y7 y8,LeO (qaw.l1 k y0 y1 y2 y3 y4 y5 y6 y7 y8) (qaw.l1 (k + 1) y0 y1 y2 y3 y4 y5 y6 y7 y8))
  | 0=>⟨fun _ _ _ _ _ _ _ _ _ r h=>by simp [qaw.l0] at h,fun _ _ _ _ _ _ _ _ _ r h=>by simp [qaw.l1] at h⟩
  | k + 1=>by
    obtain ⟨ih0,ih1⟩:=qaw.mono_l k
    refine ⟨?_,?_⟩
    · intro y0 y1 y2 y3 y4 y5 y6 y7 y8
      unfold qaw.l0
      repeat' first|(with_reducible exact ih0 _ _ _ _ _ _ _ _ _)|(with_reducible exact ih1 _ _ _ _ _ _ _ _ _)|(with_reducible exact qal.mono _ _ _ _ _ _)|(with_reducible exact LeO.refl _)|(with_reducible refine LeO.ite ?_ ?_)|(with_reducible refine LeO.bind ?_ (fun _=>?_))
    · intro y0 y1 y2 y3 y4 y5 y6 y7 y8
      unfold qaw.l1
      repeat' first|(with_reducible exact ih1 _ _ _ _ _ _ _ _ _)|(with_reducible exact qar.mono _ _ _)|(with_reducible exact qbc.mono _ _)|(with_reducible exact qal.mono _ _ _ _ _ _)|(with_reducible exact LeO.refl _)|(with_reducible refine LeO.ite ?_ ?_)|(with_reducible refine LeO.bind ?_ (fun _=>?_))
theorem qaw.mono : ∀ a0 a1 a2 a3 a4 k,LeO (qaw.f k a0 a1 a2 a3 a4) (qaw.f (k + 1) a0 a1 a2 a3 a4):=by
  intro a0 a1 a2 a3 a4 k
  obtain ⟨ih0,ih1⟩:=qaw.mono_l k
  unfold qaw.f
  repeat' first|(with_reducible exact ih0 _ _ _ _ _ _ _ _ _)|(with_reducible exact qcc.mono _ _ _ _)|(with_reducible refine LeO.bind ?_ (fun _=>?_))
end Go.Proofs.YtmfjmbcfaamebaaDoor.X
namespace Go.Proofs.YtmfjmbcfaamebaaDoor.X
noncomputable section
open Go.RowKit Go.Proofs.YtmfjmbcfaamebaaDoorW.PrintWords Go.Proofs.YtmfjmbcfaamebaaDoorW.PrintLast Go.Proofs.YtmfjmbcfaamebaaDoorW.PrintMore
attribute [local go_sem] qbo qbu
set_option linter.unusedVariables false
set_option linter.unusedSimpArgs false
def qdj.f (k : Nat) (a0_0 : Bool) (a0_1 : Int) (l0_2 : List (S60)) : Option (Bool):=(qbp.f k).bind fun t455=>(if t455 = true then ((qau.f k a0_0 a0_1 l0_2).bind fun t456=>(if t456 = true then ((qcu.f k a0_0 a0_1 l0_2).bind fun t457=>((qbh.f k a0_0 a0_1 l0_2).bind fun t460=>((qak.f k t457 t460).bind fun t463=>(some t463)))) else (some true))) else (some false))
theorem qdj.mono : ∀ a0 a1 a2 k,LeO (qdj.f k a0 a1 a2) (qdj.f (k + 1) a0 a1 a2):=by
  intro a0 a1 a2 k
  unfold qdj.f
  repeat' first|(with_reducible exact qcu.mono _ _ _ _)|(with_reducible exact qbp.mono _)|(with_reducible exact qak.mono _ _ _)|(with_reducible exact qbh.mono _ _ _ _)|(with_reducible exact qau.mono _ _ _ _)|(with_reducible exact LeO.refl _)|(with_reducible refine LeO.ite ?_ ?_)|(with_reducible refine LeO.bind ?_ (fun _=>?_))
end
end Go.Proofs.YtmfjmbcfaamebaaDoor.X
namespace Go.Proofs.YtmfjmbcfaamebaaDoor.X
open Go.RowKit Go.Proofs.YtmfjmbcfaamebaaDoorW.PrintWords Go.Proofs.YtmfjmbcfaamebaaDoorW.PrintLast Go.Proofs.YtmfjmbcfaamebaaDoorW.PrintMore
inductive Rch (T : Int→List Int) (av : Int→Prop) : Int→Int→Prop
  | refl {a : Int} : ¬ av a→Rch T av a a
  | step {a b c : Int} : Rch T av a b→c ∈ T b→¬ av c→Rch T av a c
section
variable {T : Int→List Int} {av av' : Int→Prop} {a b c : Int}
theorem Rch.first (h : Rch T av a b) : ¬ av a:=by
  induction h with
  | refl h=>exact h
  | step _ _ _ ih=>exact ih
theorem Rch.last (h : Rch T av a b) : ¬ av b:=by
  cases h with
  | refl h=>exact h
  | step _ _ h=>exact h
theorem Rch.mono (hm : ∀ x,av' x→av x) (h : Rch T av a b) : Rch T av' a b:=by
  induction h with
  | refl h=>exact .refl (fun e=>h (hm _ e))
  | step _ h1 h2 ih=>exact .step ih h1 (fun e=>h2 (hm _ e))
theorem Rch.trans (h : Rch T av a b) (h' : Rch T av b c) : Rch T av a c:=by
  induction h' with
  | refl _=>exact h
  | step _ h1 h2 ih=>exact .step ih h1 h2
theorem Rch.split (h : Rch T av a c) (b : Int) : Rch T (fun x=>av x∨x = b) a c∨Rch T av a b:=by
  induction h with
  | @refl h=>
    by_cases e : a = b
    · subst e;exact .inr (.refl h)
    · exact .inl (.refl (fun hh=>hh.elim h e))
  | @step x y h0 h1 h2 ih=>
    rcases ih with ih|ih
    · by_cases e : y = b
      · subst e;exact .inr (.step h0 h1 h2)
      · exact .inl (.step ih h1 (fun hh=>hh.elim h2 e))
    · exact .inr ih
theorem Rch.congr (hm : ∀ x,av x↔av' x) : Rch T av a b↔Rch T av' a b:=⟨mono (fun x h=>(hm x).2 h),mono (fun x h=>(hm x).1 h)⟩
theorem Rch.closed {P : Int→Prop} (h : Rch T av a b) (h0 : P a) (hc : ∀ x,P x→∀ y ∈ T x,¬ av y→P y) : P b:=by
  induction h with
  | refl _=>exact h0
  | step _ h1 h2 ih=>exact hc _ (ih) _ h1 h2
end
def noN : Int→Prop:=fun _=>False
def Dm (T : Int→List Int) (r d n : Int) : Prop:=Rch T noN r n∧¬ Rch T (fun x=>x = d) r n
section
variable {T : Int→List Int} {r a b c n : Int}
theorem Dm.self (h : Rch T noN r n) : Dm T r n n:=⟨h,fun h'=>h'.last rfl⟩
theorem Dm.rch (h : Dm T r a n) : Rch T noN r a:=by
  rcases h.1.split a with h'|h'
  · exact absurd (h'.mono (fun x e=>.inr e)) h.2
  · exact h'
theorem Dm.trans (h1 : Dm T r a b) (h2 : Dm T r b c) : Dm T r a c:=by
  refine ⟨h2.1,fun h=>?_⟩
  rcases h.split b with h'|h'
  · exact h2.2 (h'.mono (fun x e=>.inr e))
  · exact h1.2 h'
theorem Dm.antisymm (h1 : Dm T r a b) (h2 : Dm T r b a) : a = b:=by
  by_cases hab : a = b
  · exact hab
  · exfalso
    have key : ∀ x,Rch T noN r x→Rch T (fun x=>x = a∨x = b) r x∨Rch T (fun x=>x = b) r a∨Rch T (fun x=>x = a) r b:=by
      intro x hx
      induction hx with
      | refl _=>
        by_cases e : r = a
        · subst e;exact .inr (.inl (.refl hab))
        · by_cases e' : r = b
          · subst e';exact .inr (.inr (.refl (fun h=>hab h.symm)))
          · exact .inl (.refl (fun hh=>hh.elim e e'))
      | @step x y _ hE _ ih=>
        rcases ih with ih|ih
        · by_cases e : y = a
          · subst e;exact .inr (.inl (.step (ih.mono (fun x e=>.inr e)) hE hab))
          · by_cases e' : y = b
            · subst e';exact .inr (.inr (.step (ih.mono (fun x e=>.inl e)) hE (fun h=>hab h.symm)))
            · exact .inl (.step ih hE (fun hh=>hh.elim e e'))
        · exact .inr ih
    rcases key a h2.1 with h|h|h
    · exact h.last (.inl rfl)
    · exact h2.2 h
    · exact h1.2 h
theorem Dm.chain (h1 : Dm T r a n) (h2 : Dm T r b n) : Dm T r a b∨Dm T r b a:=by
  by_cases hab : a = b
  · subst hab;exact .inl (Dm.self h1.rch)
  · by_cases ha : Dm T r a b
    · exact .inl ha
    · by_cases hb : Dm T r b a
      · exact .inr hb
      · exfalso
        have e1 : Rch T (fun x=>x = a) r b:=Classical.byContradiction fun h=>ha ⟨h2.rch,h⟩
        have e2 : Rch T (fun x=>x = b) r a:=Classical.byContradiction fun h=>hb ⟨h1.rch,h⟩
        have key : ∀ x,Rch T noN r x→Rch T (fun x=>x = a) r x∨Rch T (fun x=>x = b) r x:=by
          intro x hx
          induction hx with
          | refl _=>
            by_cases e : r = a
            · subst e;exact .inr (.refl hab)
            · exact .inl (.refl e)
          | @step x y _ h1 _ ih=>
            rcases ih with ih|ih
            · by_cases e : y = a
              · subst e;exact .inr e2
              · exact .inl (.step ih h1 e)
            · by_cases e : y = b
              · subst e;exact .inl e1
              · exact .inr (.step ih h1 e)
        rcases key n h1.1 with h|h
        · exact h1.2 h
        · exact h2.2 h
end
inductive Dfs (T : Int→List Int) : List Int→List Int→List Int→List Int→Prop
  | nil {s : List Int} : Dfs T s [] [] s
  | skip {s : List Int} {n : Int} {ts p s' : List Int} : n ∈ s→Dfs T s ts p s'→Dfs T s (n :: ts) p s'
  | go {s : List Int} {n : Int} {ts p1 s1 p2 s2 : List Int} : n ∉ s→Dfs T (s ++ [n]) (T n) p1 s1→Dfs T s1 ts p2 s2→Dfs T s (n :: ts) (p1 ++ n :: p2) s2
def leftIn (U s : List Int) : Nat:=(U.filter (fun x=>decide (x ∉ s))).length
theorem leftIn_le {U s s' : List Int} (h : ∀ x ∈ s,x ∈ s') : leftIn U s'≤leftIn U s:=by
  unfold leftIn
  induction U with
  | nil=>simp
  | cons a t ih=>
    simp only [List.filter_cons]
    by_cases h1 : a ∈ s'
    · by_cases h2 : a ∈ s
      · simpa [h1,h2] using ih
      · simp [h1,h2];simp at ih;omega
    · have h2 : a ∉ s:=fun e=>h1 (h _ e)
      simpa [h1,h2] using ih
theorem leftIn_lt {U s : List Int} {n : Int} (hU : n ∈ U) (hs : n ∉ s) : leftIn U (s ++ [n]) < leftIn U s:=by
  induction U with
  | nil=>simp at hU
  | cons a t ih=>
    have hle : leftIn t (s ++ [n])≤leftIn t s:=leftIn_le (fun x h=>List.mem_append_left _ h)
    unfold leftIn at *
    simp only [List.filter_cons]
    by_cases e : a = n
    · subst e
      simp [hs];simp at hle;omega
    · have:=ih (by simpa [Ne.symm e] using hU)
      by_cases h2 : a ∈ s
      · simp [h2];simpa using this
      · simp [h2,e];simpa using this
theorem Dfs.exists {T : Int→List Int} {U : List Int} (hT : ∀ x ∈ U,∀ y ∈ T x,y ∈ U) : ∀ (m : Nat) (s ts : List Int),leftIn U s≤m→(∀ t ∈ ts,t ∈ U)→∃ p s',Dfs T s ts p s'∧∀ x ∈ s,x ∈ s':=by
  intro m
  induction m with
  | zero=>
    intro s ts
    induction ts with
    | nil=>intro _ _;exact ⟨[],s,.nil,fun _ h=>h⟩
    | cons t ts ih=>
      intro hm ht
      have hts : t ∈ s:=Classical.byContradiction fun h=>by have:=leftIn_lt (ht t (List.mem_cons_self ..)) h;omega
      obtain ⟨p,s',h1,h2⟩:=ih hm (fun x h=>ht x (List.mem_cons_of_mem _ h))
      exact ⟨p,s',.skip hts h1,h2⟩
  | succ m ihm=>
    intro s ts
    induction ts generalizing s with
    | nil=>intro _ _;exact ⟨[],s,.nil,fun _ h=>h⟩
    | cons t ts ih=>
      intro hm ht
      by_cases hts : t ∈ s
      · obtain ⟨p,s',h1,h2⟩:=ih s hm (fun x h=>ht x (List.mem_cons_of_mem _ h))
        exact ⟨p,s',.skip hts h1,h2⟩
      · have hU:=ht t (List.mem_cons_self ..)
        have hlt:=leftIn_lt hU hts
        obtain ⟨p1,s1,h1,h2⟩:=ihm (s ++ [t]) (T t) (by omega) (hT t hU)
        have hs1 : ∀ x ∈ s,x ∈ s1:=fun x h=>h2 x (List.mem_append_left _ h)
        obtain ⟨p2,s2,h3,h4⟩:=ih s1 (Nat.le_trans (leftIn_le hs1) hm) (fun x h=>ht x (List.mem_cons_of_mem _ h))
        exact ⟨_,s2,.go hts h1 h3,fun x h=>h4 x (hs1 x h)⟩
section
variable {T : Int→List Int} {s ts p s' : List Int}
theorem Dfs.mem (h : Dfs T s ts p s') : ∀ x,x ∈ s'↔x ∈ s∨x ∈ p:=by
  induction h with
  | nil=>simp
  | skip _ _ ih=>exact ih
  | go h0 _ _ ih1 ih2=>
    intro x
    rw [ih2,ih1]
    simp only [List.mem_append,List.mem_cons,List.not_mem_nil,or_false]
    constructor
    · rintro (((h|h)|h)|h)
      · exact .inl h
      · exact .inr (.inr (.inl h))
      · exact .inr (.inl h)
      · exact .inr (.inr (.inr h))
    · rintro (h|h|h|h)
      · exact .inl (.inl (.inl h))
      · exact .inl (.inr h)
      · exact .inl (.inl (.inr h))
      · exact .inr h
theorem Dfs.len (h : Dfs T s ts p s') : s'.length = s.length + p.length:=by
  induction h with
  | nil=>simp
  | skip _ _ ih=>exact ih
  | go _ _ _ ih1 ih2=>simp at ih1 ih2 ⊢;omega
theorem Dfs.fresh (h : Dfs T s ts p s') : ∀ x ∈ p,x ∉ s:=by
  induction h with
  | nil=>simp
  | skip _ _ ih=>exact ih
  | @go s n ts p1 s1 p2 s2 h0 h1 _ ih1 ih2=>
    intro x hx hs
    rcases List.mem_append.1 hx with h|h
    · exact ih1 x h (List.mem_append_left _ hs)
    · rcases List.mem_cons.1 h with rfl|h
      · exact h0 hs
      · exact ih2 x h ((h1.mem x).2 (.inl (List.mem_append_left _ hs)))
theorem Dfs.nodup (h : Dfs T s ts p s') : p.Nodup:=by
  induction h with
  | nil=>simp
  | skip _ _ ih=>exact ih
  | @go s n ts p1 s1 p2 s2 h0 h1 h2 ih1 ih2=>
    rw [List.nodup_append]
    refine ⟨ih1,?_,?_⟩
    · rw [List.nodup_cons]
      exact ⟨fun h=>h2.fresh n h ((h1.mem n).2 (.inl (by simp))),ih2⟩
    · intro a ha b hb e
      subst e
      rcases List.mem_cons.1 hb with rfl|hb
      · exact h1.fresh a ha (by simp)
      · exact h2.fresh a hb ((h1.mem a).2 (.inr ha))
theorem Dfs.reach (h : Dfs T s ts p s') : ∀ x ∈ p,∃ t ∈ ts,Rch T (fun y=>y ∈ s) t x:=by
  induction h with
  | nil=>simp
  | skip _ _ ih=>
    intro x hx
    obtain ⟨t,ht,hr⟩:=ih x hx
    exact ⟨t,List.mem_cons_of_mem _ ht,hr⟩
  | @go s n ts p1 s1 p2 s2 h0 h1 _ ih1 ih2=>
    intro x hx
    rcases List.mem_append.1 hx with h|h
    · obtain ⟨t,ht,hr⟩:=ih1 x h
      have hr':=hr.mono (av':=fun y=>y ∈ s) (fun y hy=>List.mem_append_left _ hy)
      exact ⟨n,List.mem_cons_self ..,(Rch.step (.refl h0) ht hr'.first).trans hr'⟩
    · rcases List.mem_cons.1 h with rfl|h
      · exact ⟨x,List.mem_cons_self ..,.refl h0⟩
      · obtain ⟨t,ht,hr⟩:=ih2 x h
        exact ⟨t,List.mem_cons_of_mem _ ht,hr.mono (fun y hy=>(h1.mem y).2 (.inl (List.mem_append_left _ hy)))⟩
theorem Dfs.done (h : Dfs T s ts p s') : (∀ t ∈ ts,t ∈ s')∧∀ x ∈ p,∀ y ∈ T x,y ∈ s':=by
  induction h with
  | nil=>simp
  | skip h0 h1 ih=>
    refine ⟨fun t ht=>?_,ih.2⟩
    rcases List.mem_cons.1 ht with rfl|ht
    · exact (h1.mem _).2 (.inl h0)
    · exact ih.1 t ht
  | @go s n ts p1 s1 p2 s2 h0 h1 h2 ih1 ih2=>
    have up : ∀ x,x ∈ s1→x ∈ s2:=fun x h=>(h2.mem x).2 (.inl h)
    refine ⟨fun t ht=>?_,fun x hx y hy=>?_⟩
    · rcases List.mem_cons.1 ht with rfl|ht
      · exact up _ ((h1.mem _).2 (.inl (by simp)))
      · exact ih2.1 t ht
    · rcases List.mem_append.1 hx with h|h
      · exact up _ (ih1.2 x h y hy)
      · rcases List.mem_cons.1 h with rfl|h
        · exact up _ (ih1.1 y hy)
        · exact ih2.2 x h y hy
theorem Dfs.found {n : Int} (h : Dfs T s [n] p s') : ∀ x,x ∈ p↔Rch T (fun y=>y ∈ s) n x:=by
  intro x
  constructor
  · intro hx
    obtain ⟨t,ht,hr⟩:=h.reach x hx
    rw [List.mem_singleton.1 ht] at hr
    exact hr
  · intro hr
    have in' : ∀ y,y ∈ s'→y ∉ s→y ∈ p:=fun y h1 h2=>((h.mem y).1 h1).resolve_left h2
    exact hr.closed (in' n (h.done.1 n (by simp)) hr.first) (fun y hy z hz hn=>in' z (h.done.2 y hy z hz) hn)
end
end Go.Proofs.YtmfjmbcfaamebaaDoor.X
namespace Go.Proofs.YtmfjmbcfaamebaaDoor.X
open Go.RowKit Go.Proofs.YtmfjmbcfaamebaaDoorW.PrintWords Go.Proofs.YtmfjmbcfaamebaaDoorW.PrintLast Go.Proofs.YtmfjmbcfaamebaaDoorW.PrintMore
theorem word_f (ws : List Int) (j : Nat) : qbv.f ws (j : Int) = some (ws.getD j 0):=by
  unfold qbv.f
  by_cases h : j < ws.length
  · rw [if_pos (by omega),if_pos (by omega),rd_getD]
  · rw [if_neg (by omega),List.getD_eq_getElem?_getD,List.getElem?_eq_none (by omega)];rfl
theorem shr_u64 (v b : Nat) (hb : b < 64) : shr .u64 (v : Int) (b : Int) = ((v / 2 ^ b : Nat) : Int):=by
  unfold shr
  rw [Int.toNat_natCast,show min b IntKind.u64.bits = b from Nat.min_eq_left (Nat.le_of_lt hb)]
  simp
theorem Has_f {ws : List Int} (hw : qcj ws) (x : Int) : qbt.f ws x = some (decide (0≤x∧x≤65535) && tb ws x.toNat):=by
  unfold qbt.f
  rw [valid_f,Option.bind_some]
  by_cases hv : 0≤x∧x≤65535
  · obtain ⟨n,rfl⟩:=Int.eq_ofNat_of_zero_le hv.1
    obtain ⟨q,b,hb64,hnq⟩ : ∃ q b : Nat,b < 64∧n = q * 64 + b:=⟨n / 64,n % 64,Nat.mod_lt _ (by decide),by omega⟩
    obtain ⟨h0,h1⟩:=hw.getD q
    obtain ⟨v,hv'⟩:=Int.eq_ofNat_of_zero_le h0
    have hvb : v < 18446744073709551616:=by omega
    have e1 : n / 64 = q:=by omega
    have e2 : n % 64 = b:=by omega
    have hd : v / 2 ^ b < 18446744073709551616:=Nat.lt_of_le_of_lt (Nat.div_le_self _ _) hvb
    have e3 : bits .and .u64 ((v / 2 ^ b : Nat) : Int) 1 = ((v / 2 ^ b &&& 1 : Nat) : Int):=bits_and_u64_nat _ 1 hd (by omega)
    rw [decide_eq_true hv,if_pos rfl,quo64 (by omega) hnq hb64,rem64 hnq hb64,word_f,Option.bind_some,if_pos (by omega),hv',shr_u64 _ _ hb64,e3,Bool.true_and,tb,Int.toNat_natCast,e1,e2,hv',Int.toNat_natCast,Nat.testBit_eq_decide_div_mod_eq,Nat.and_one_is_mod]
    congr 1
    rw [Bool.eq_iff_iff,beq_iff_eq,decide_eq_true_eq]
    omega
  · rw [decide_eq_false hv,if_neg (by decide)]
    rfl
theorem tb_set {ws : List Int} {i : Nat} (hi : i < ws.length) (v : Int) (x : Nat) : tb (ws.set i v) x = if x / 64 = i then v.toNat.testBit (x % 64) else tb ws x:=by
  unfold tb
  by_cases h : x / 64 = i
  · rw [if_pos h,h,List.getD_eq_getElem?_getD,List.getElem?_set_self hi];rfl
  · rw [if_neg h,List.getD_eq_getElem?_getD,List.getElem?_set_ne (fun e=>h e.symm),← List.getD_eq_getElem?_getD]
theorem qcj.set' {ws : List Int} (hw : qcj ws) {i : Nat} {v : Int} (h0 : 0≤v) (h1 : v < 18446744073709551616) : qcj (ws.set i v):=by
  intro w h
  rcases List.mem_or_eq_of_mem_set h with h|rfl
  · exact hw w h
  · exact ⟨h0,h1⟩
theorem bits_or_ok {a b : Int} (ha : 0≤a∧a < 18446744073709551616) (hb : 0≤b∧b < 18446744073709551616) : 0≤Go.bits .or .u64 a b∧Go.bits .or .u64 a b < 18446744073709551616∧∀ j,(Go.bits .or .u64 a b).toNat.testBit j = (a.toNat.testBit j||b.toNat.testBit j):=by
  obtain ⟨m,rfl⟩:=Int.eq_ofNat_of_zero_le ha.1
  obtain ⟨n,rfl⟩:=Int.eq_ofNat_of_zero_le hb.1
  have h1 : m < 2 ^ 64:=by omega
  have h2 : n < 2 ^ 64:=by omega
  have:=Nat.or_lt_two_pow h1 h2
  rw [bits_or_u64_nat m n (by omega) (by omega)]
  refine ⟨by omega,by omega,fun j=>?_⟩
  rw [Int.toNat_natCast,Int.toNat_natCast,Int.toNat_natCast,Nat.testBit_or]
theorem bits_andNot_ok {a b : Int} (ha : 0≤a∧a < 18446744073709551616) (hb : 0≤b∧b < 18446744073709551616) : 0≤Go.bits .andNot .u64 a b∧Go.bits .andNot .u64 a b < 18446744073709551616∧∀ j,j < 64→(Go.bits .andNot .u64 a b).toNat.testBit j = (a.toNat.testBit j && !b.toNat.testBit j):=by
  obtain ⟨m,rfl⟩:=Int.eq_ofNat_of_zero_le ha.1
  obtain ⟨n,rfl⟩:=Int.eq_ofNat_of_zero_le hb.1
  have h2 : n < 2 ^ 64:=by omega
  have h3 : m &&& (18446744073709551615 - n) < 2 ^ 64:=Nat.and_lt_two_pow _ (by omega)
  rw [u64_andNot_nat m n (by omega) (by omega)]
  refine ⟨by omega,by omega,fun j hj=>?_⟩
  have:=Nat.testBit_two_pow_sub_succ h2 j
  rw [show 2 ^ 64 - (n + 1) = 18446744073709551615 - n by omega] at this
  rw [Int.toNat_natCast,Int.toNat_natCast,Int.toNat_natCast,Nat.testBit_and,this,decide_eq_true hj,Bool.true_and]
theorem Union_from {s t : List Int} (hs : qcj s) (ht : qcj t) (n : Nat) (hn : n≤1024) : ∀ (m i : Nat) (ws : List Int),i + m = n→ws.length = n→qcj ws→
    ∃ r,Ev (fun k=>qah.l0 k ws (n : Int) (i : Int) s t) r∧GS r∧∀ x,tb r x = if x / 64 < i∨n≤x / 64 then tb ws x else (tb s x||tb t x)
  | 0,i,ws,hi,hl,hw=>by
    obtain ⟨r,h1,h2,h3⟩:=trimmed_ev hw (by omega)
    refine ⟨r,Ev.next (Ev.bind h1 (Ev.const r)) (fun k=>?_),h3,fun x=>?_⟩
    · rw [qah.l0,if_neg (by omega)]
    · rw [h2,if_pos (by omega)]
  | m + 1,i,ws,hi,hl,hw=>by
    obtain ⟨h0,h1,h2⟩:=bits_or_ok (hs.getD i) (ht.getD i)
    have hil : i < ws.length:=by omega
    obtain ⟨r,h3,h4,h5⟩:=Union_from hs ht n hn m (i + 1) (ws.set i (Go.bits .or .u64 (s.getD i 0) (t.getD i 0))) (by omega) (by rw [List.length_set,hl]) (hw.set' h0 h1)
    refine ⟨r,Ev.next h3 (fun k=>?_),h4,fun x=>?_⟩
    · have c1 : ((i : Int) < (n : Int)) = True:=eq_true (by omega)
      have c2 : (0≤(i : Int)) = True:=eq_true (by omega)
      have c3 : ((i : Int) < (ws.length : Int)) = True:=eq_true (by omega)
      have hw':=qch (show i < 9223372036854775807 by omega)
      rw [qah.l0]
      simp only [c1,c2,c3,word_f,qcs.f,hw',if_true,Option.bind_some,Int.toNat_natCast]
    · rw [h5]
      by_cases e : x / 64 = i
      · rw [if_pos (by omega),if_neg (by omega),tb_set hil,if_pos e,h2]
        unfold tb
        rw [e]
      · rw [tb_set hil,if_neg e]
        by_cases e2 : x / 64 < i∨n≤x / 64
        · rw [if_pos e2,if_pos (by omega)]
        · rw [if_neg e2,if_neg (by omega)]
theorem Minus_from {s t : List Int} (hs : qcj s) (ht : qcj t) (n : Nat) (hn : n≤1024) : ∀ (m i : Nat) (ws : List Int),i + m = n→ws.length = n→qcj ws→
    ∃ r,Ev (fun k=>qaj.l0 k ws (n : Int) (i : Int) s t) r∧GS r∧∀ x,tb r x = if x / 64 < i∨n≤x / 64 then tb ws x else (tb s x && !tb t x)
  | 0,i,ws,hi,hl,hw=>by
    obtain ⟨r,h1,h2,h3⟩:=trimmed_ev hw (by omega)
    refine ⟨r,Ev.next (Ev.bind h1 (Ev.const r)) (fun k=>?_),h3,fun x=>?_⟩
    · rw [qaj.l0,if_neg (by omega)]
    · rw [h2,if_pos (by omega)]
  | m + 1,i,ws,hi,hl,hw=>by
    obtain ⟨h0,h1,h2⟩:=bits_andNot_ok (hs.getD i) (ht.getD i)
    have hil : i < ws.length:=by omega
    obtain ⟨r,h3,h4,h5⟩:=Minus_from hs ht n hn m (i + 1) (ws.set i (Go.bits .andNot .u64 (s.getD i 0) (t.getD i 0))) (by omega) (by rw [List.length_set,hl]) (hw.set' h0 h1)
    refine ⟨r,Ev.next h3 (fun k=>?_),h4,fun x=>?_⟩
    · have c1 : ((i : Int) < (n : Int)) = True:=eq_true (by omega)
      have c2 : (0≤(i : Int)) = True:=eq_true (by omega)
      have c3 : ((i : Int) < (ws.length : Int)) = True:=eq_true (by omega)
      have hw':=qch (show i < 9223372036854775807 by omega)
      rw [qaj.l0]
      simp only [c1,c2,c3,word_f,qcw.f,hw',if_true,Option.bind_some,Int.toNat_natCast]
    · rw [h5]
      by_cases e : x / 64 = i
      · rw [if_pos (by omega),if_neg (by omega),tb_set hil,if_pos e,h2 _ (Nat.mod_lt _ (by decide))]
        unfold tb
        rw [e]
      · rw [tb_set hil,if_neg e]
        by_cases e2 : x / 64 < i∨n≤x / 64
        · rw [if_pos e2,if_pos (by omega)]
        · rw [if_neg e2,if_neg (by omega)]
theorem mx_nat (a b : Nat) : mx (a : Int) (b : Int) = ((max a b : Nat) : Int):=by unfold mx;omega
theorem tb_zeros (n x : Nat) : tb (List.replicate n 0) x = false:=by
  unfold tb
  rw [List.getD_eq_getElem?_getD,List.getElem?_replicate]
  split <;> simp
theorem qcj.zeros (n : Nat) : qcj (List.replicate n 0):=by
  intro w h
  obtain ⟨_,rfl⟩:=List.mem_replicate.1 h
  omega
theorem tb_out {ws : List Int} {x : Nat} (h : ws.length≤x / 64) : tb ws x = false:=by
  cases e : tb ws x with
  | false=>rfl
  | true=>have:=tb_len e;omega
theorem Union_ev {s t : List Int} (hs : GS s) (ht : GS t) : ∃ r,Ev (fun k=>qca.f k s t) r∧GS r∧∀ x,tb r x = (tb s x||tb t x):=by
  obtain ⟨n,hn⟩ : ∃ n,max s.length t.length = n:=⟨_,rfl⟩
  have hn2 : n≤1024:=by have:=hs.len;have:=ht.len;omega
  obtain ⟨r,h1,h2,h3⟩:=Union_from hs.wd ht.wd n hn2 n 0 (List.replicate n 0) (by omega) (by simp) (.zeros n)
  refine ⟨r,(Ev.bind h1 (Ev.const r)).congr (fun k=>?_),h2,fun x=>?_⟩
  · unfold qca.f qah.f
    have c1 : (0≤(n : Int)) = True:=eq_true (by omega)
    have c2 : (n≤35184372088832) = True:=eq_true (by omega)
    simp only [mx_nat,hn,Int.toNat_natCast,c1,c2,if_true,Option.bind_some,List.length_replicate]
    rfl
  · rw [h3]
    by_cases h : n≤x / 64
    · rw [if_pos (.inr h),tb_zeros,tb_out (by omega),tb_out (by omega)];rfl
    · rw [if_neg (by omega)]
theorem Minus_ev {s t : List Int} (hs : GS s) (ht : GS t) : ∃ r,Ev (fun k=>qbs.f k s t) r∧GS r∧∀ x,tb r x = (tb s x && !tb t x):=by
  obtain ⟨n,hn⟩ : ∃ n,max s.length t.length = n:=⟨_,rfl⟩
  have hn2 : n≤1024:=by have:=hs.len;have:=ht.len;omega
  obtain ⟨r,h1,h2,h3⟩:=Minus_from hs.wd ht.wd n hn2 n 0 (List.replicate n 0) (by omega) (by simp) (.zeros n)
  refine ⟨r,(Ev.bind h1 (Ev.const r)).congr (fun k=>?_),h2,fun x=>?_⟩
  · unfold qbs.f qaj.f
    have c1 : (0≤(n : Int)) = True:=eq_true (by omega)
    have c2 : (n≤35184372088832) = True:=eq_true (by omega)
    simp only [mx_nat,hn,Int.toNat_natCast,c1,c2,if_true,Option.bind_some,List.length_replicate]
    rfl
  · rw [h3]
    by_cases h : n≤x / 64
    · rw [if_pos (.inr h),tb_zeros,tb_out (by omega),tb_out (by omega)];rfl
    · rw [if_neg (by omega)]
theorem With_ev {s : List Int} (hs : GS s) (n : Nat) (hn : n≤65535) : ∃ r,Ev (fun k=>qbr.f k s (n : Int)) r∧GS r∧∀ x,tb r x = (tb s x||decide (x = n)):=by
  obtain ⟨o,h1,h2,h3⟩:=Of_ev [(n : Int)] (by simp)
  obtain ⟨r,h4,h5,h6⟩:=Union_ev hs h2
  refine ⟨r,Ev.bind h1 (Ev.bind h4 (Ev.const r)),h5,fun x=>?_⟩
  rw [h6,Bool.eq_iff_iff,Bool.or_eq_true,Bool.or_eq_true,h3,within,List.mem_singleton,decide_eq_true_eq]
  exact ⟨fun h=>h.imp_right (fun h=>by omega),fun h=>h.imp_right (fun h=>by subst h;exact ⟨rfl,hn⟩)⟩
theorem Without_ev {s : List Int} (hs : GS s) (n : Nat) (hn : n≤65535) : ∃ r,Ev (fun k=>qbw.f k s (n : Int)) r∧GS r∧∀ x,tb r x = (tb s x && !decide (x = n)):=by
  obtain ⟨o,h1,h2,h3⟩:=Of_ev [(n : Int)] (by simp)
  obtain ⟨r,h4,h5,h6⟩:=Minus_ev hs h2
  refine ⟨r,Ev.bind h1 (Ev.bind h4 (Ev.const r)),h5,fun x=>?_⟩
  have : tb o x = decide (x = n):=by
    rw [Bool.eq_iff_iff,h3,within,List.mem_singleton,decide_eq_true_eq]
    exact ⟨fun h=>by omega,fun h=>by subst h;exact ⟨rfl,hn⟩⟩
  rw [h6,this]
end Go.Proofs.YtmfjmbcfaamebaaDoor.X
