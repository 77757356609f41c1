/- Parts of the proof of the law CFGEdges: words, walks of single functions and plain laws, joined by a program out of the session's texts. -/
import Derived.Test.YtmfjmbcfaamebaaDoorCFGEdges5
namespace Go.Proofs.YtmfjmbcfaamebaaDoor.X
open Go.RowKit Go.Proofs.YtmfjmbcfaamebaaDoorW.PrintWords Go.Proofs.YtmfjmbcfaamebaaDoorW.PrintLast Go.Proofs.YtmfjmbcfaamebaaDoorW.PrintMore
attribute [local go_sem] qbo qbu
set_option linter.unusedVariables false
set_option linter.unusedSimpArgs false
def qaj.l0 : Nat→List Int→Int→Int→List Int→List Int→Option (List Int)
  | 0,_,_,_,_,_=>none
  | k + 1,x7,x18,x19,x166000,x167000=>if x19 < x18 then ((qbv.f x166000 x19).bind fun t171=>((qbv.f x167000 x19).bind fun t172=>((qcw.f t171 t172).bind fun t173=>(if 0≤x19 then (if x19 < (x7.length : Int) then (qaj.l0 k (x7.set (x19 : Int).toNat t173) x18 (wrap64 (x19 + 1)) x166000 x167000) else (none)) else (none))))) else ((qba.f k x7).bind fun t175=>(some t175))
def qaj.f (k : Nat) (l0_0 : List Int) (l1_0 : List Int)  : Option (List Int):=if 0≤(mx (l0_0.length : Int) (l1_0.length : Int)) then (if (mx (l0_0.length : Int) (l1_0.length : Int) : Int).toNat≤35184372088832 then ((some (List.replicate (mx (l0_0.length : Int) (l1_0.length : Int) : Int).toNat 0 : List Int)).bind fun y168=>(qaj.l0 k y168 (y168.length : Int) 0 l0_0 l1_0)) else (none)) else (none)
theorem qaj.mono_l : ∀ k,(∀ y0 y1 y2 y3 y4,LeO (qaj.l0 k y0 y1 y2 y3 y4) (qaj.l0 (k + 1) y0 y1 y2 y3 y4))
  | 0=>fun _ _ _ _ _ r h=>by simp [qaj.l0] at h
  | k + 1=>by
    have ih0:=qaj.mono_l k
    · intro y0 y1 y2 y3 y4
      unfold qaj.l0
      repeat' first|(with_reducible exact ih0 _ _ _ _ _)|(with_reducible exact qba.mono _ _)|(with_reducible exact LeO.refl _)|(with_reducible refine LeO.ite ?_ ?_)|(with_reducible refine LeO.bind ?_ (fun _=>?_))
theorem qaj.mono : ∀ a0 a1 k,LeO (qaj.f k a0 a1) (qaj.f (k + 1) a0 a1):=by
  intro a0 a1 k
  have ih0:=qaj.mono_l k
  unfold qaj.f
  repeat' first|(with_reducible exact ih0 _ _ _ _ _)|(with_reducible exact LeO.refl _)|(with_reducible refine LeO.ite ?_ ?_)|(with_reducible refine LeO.bind ?_ (fun _=>?_))
def qaj.T5 : Bool × List (List Nat × List Nat):=(true,[([],[]),([],[]),([],[]),([],[]),([],[]),([3,4],[3,4]),([],[]),([],[]),([6,7,5],[6,7]),([2,5,8,8],[2,5,8]),([0,1,0,1,2,3,4,5,6,7,8,9],[0,1]),([10,9,9,0,1,2,3,4,5,6,7,8,9],[9,10])])
def qaj.B5 : List Nat:=[0,0,0,0,0,24,0,0,248,508,1023,2047]
theorem qaj.tab5 : rtab .any (opsOf Tryd.f78 5) = qaj.T5:=by kernel_rfl
theorem qaj.bits5 : qea qaj.T5.2 qaj.B5 = true:=by kernel_rfl
set_option maxHeartbeats 8000000 in
set_option maxRecDepth 100000 in
theorem qaj.calls (k : Nat) (A0_0 : Option Addr) (c0_0 : Nat) (l0_0 : List Int) (A1_0 : Option Addr) (c1_0 : Nat) (l1_0 : List Int)  (r : List Int) (w : World) (hr0_0 : Kd.C (Kd.int .u64) w A0_0 l0_0.length l0_0) (hc0_0 : l0_0.length≤c0_0) (hr1_0 : Kd.C (Kd.int .u64) w A1_0 l1_0.length l1_0) (hc1_0 : l1_0.length≤c1_0) (h : qaj.f k l0_0 l1_0 = some r) :
    Calls Tryd.prog 78 #[.agg #[.slice A0_0 l0_0.length c0_0],.agg #[.slice A1_0 l1_0.length c1_0],.func (.func 79) #[] #[]] w fun e w'=>∃ v0_ : Value,e = .returned (.agg #[v0_])∧Kd.V (Kd.int .u64) 77 w' w.heap.size (fun k_=>(w.heap.size≤k_)) v0_ r∧Below w.heap.size w w':=by
  have hu38:=Tryd.underlying38
  have HR0_0:=Aside0.mk hr0_0
  have HC0_0:=Aside0.mk hc0_0
  clear hr0_0 hc0_0
  have HR1_0:=Aside0.mk hr1_0
  have HC1_0:=Aside0.mk hc1_0
  clear hr1_0 hc1_0
  have HB:=Aside0.mk (Below.refl w.heap.size w)
  have H : (if 0≤(mx (l0_0.length : Int) (l1_0.length : Int)) then (if (mx (l0_0.length : Int) (l1_0.length : Int) : Int).toNat≤35184372088832 then ((some (List.replicate (mx (l0_0.length : Int) (l1_0.length : Int) : Int).toNat 0 : List Int)).bind fun y168=>(qaj.l0 k y168 (y168.length : Int) 0 l0_0 l1_0)) else (none)) else (none)) = some r:=h
  clear h
  obtain ⟨ji4,hji4⟩ : ∃ j_ : Int,(mx (l0_0.length : Int) (l1_0.length : Int)) = j_:=⟨_,rfl⟩
  replace H : (if 0≤(ji4) then (if (ji4 : Int).toNat≤35184372088832 then ((some (List.replicate (ji4 : Int).toNat 0 : List Int)).bind fun y168=>(qaj.l0 k y168 (y168.length : Int) 0 l0_0 l1_0)) else (none)) else (none)) = some r:=by (rw [hji4] at H;exact H)
  (try (have hji4l : 0≤ji4:=by (rw [← hji4];unfold mx;(repeat' split) <;> omega)))
  (try (have hji4m : 0≤ji4:=by omega))
  have hji4n : (if l0_0.length < l1_0.length then (l1_0.length : Int) else (l0_0.length : Int)) = ji4:=by have h_ : (if (l0_0.length : Int) < (l1_0.length : Int) then (l1_0.length : Int) else (l0_0.length : Int)) = ji4:=hji4;simp only [Int.ofNat_lt] at h_;exact h_
  have hji4_ : (if (l0_0.length : Int) < (l1_0.length : Int) then (l1_0.length : Int) else (l0_0.length : Int)) = ji4:=hji4
  by_cases c5 : 0≤(ji4)
  · rw [if_pos c5] at H
    have c5b0:=eq_true c5
    have c5b1 : decide (0≤(ji4)) = true:=decide_eq_true c5
    clear c5
    by_cases c6 : (ji4 : Int).toNat≤35184372088832
    · rw [if_pos c6] at H
      have c6b0:=eq_true c6
      have c6b1 : decide ((ji4 : Int).toNat≤35184372088832) = true:=decide_eq_true c6
      clear c6
      obtain ⟨y168,hy168⟩ : ∃ y_ : List Int,y_ = (List.replicate (ji4 : Int).toNat 0):=⟨_,rfl⟩
      replace H : (qaj.l0 k y168 (y168.length : Int) 0 l0_0 l1_0) = some r:=by (have H2_:=(Option.bind_some _ _).symm.trans H;rw [hy168];with_reducible exact H2_)
      have Ny168:=Aside0.mk hy168
      clear hy168
      have H':=Aside0.mk H
      clear H
      go_enter Tryd.func78,Tryd.ntmps78
      go_wp2_with (first|((with_reducible refine qbg (N:=3) rfl ?_);refine qbl ?hg (N:=3) ?hd (cs:=#[.slice A0_0 l0_0.length c0_0]) (t:=38) ?hr ?_;(case hd=>rfl);(case hg=>rfl);(case hr=>(go_simp;done));intro gb165 hg w7 hbox hb;have n0_:=Aside0.mk (qai HB.out hb);have n1_:=Aside0.mk (hbox);have n2_:=Aside0.mk ((by rw [hg];exact (qac HB.out) : w.heap.size≤gb165));have n3_:=Aside0.mk ((by rw [hg];exact (qac HB.out) : w.heap.size≤gb165));clear HB;have HB:=n0_;have BK165:=n1_;have GW165:=n2_;have GE165:=n3_;clear n0_ n1_ n2_ n3_;clear hb hbox hg)|((with_reducible refine qbg (N:=4) rfl ?_);refine qbl ?hg (N:=4) ?hd (cs:=#[.slice A1_0 l1_0.length c1_0]) (t:=38) ?hr ?_;(case hd=>rfl);(case hg=>rfl);(case hr=>(go_simp;done));intro gb166 hg w8 hbox hb;have n0_:=Aside0.mk (qag (g:=gb165) (o:=.cells #[.slice A0_0 l0_0.length c0_0] 38 (0,0)) (by (with_reducible repeat (refine qaa ?_));exact BK165.out) hb);have n1_:=Aside0.mk (qai HB.out hb);have n2_:=Aside0.mk (hbox);have n3_:=Aside0.mk ((by rw [hg];exact (qac HB.out) : w.heap.size≤gb166));have n4_:=Aside0.mk ((by rw [hg];exact (qac HB.out) : w.heap.size≤gb166));have n5_:=Aside0.mk ((by rw [hg];exact Nat.ne_of_lt (blk_lt (g:=gb165) (o:=.cells #[.slice A0_0 l0_0.length c0_0] 38 (0,0)) (by (with_reducible repeat (refine qaa ?_));exact BK165.out)) : gb165≠gb166));have n6_:=Aside0.mk ((by rw [hg];exact Nat.ne_of_gt (blk_lt (g:=gb165) (o:=.cells #[.slice A0_0 l0_0.length c0_0] 38 (0,0)) (by (with_reducible repeat (refine qaa ?_));exact BK165.out)) : gb166≠gb165));clear BK165;clear HB;have BK165:=n0_;have HB:=n1_;have BK166:=n2_;have GW166:=n3_;have GE166:=n4_;have NB165_166:=n5_;have NB166_165:=n6_;clear n0_ n1_ n2_ n3_ n4_ n5_ n6_;clear hb hbox hg)|((with_reducible refine qbg (N:=6) rfl ?_);refine qbl ?hg (N:=6) ?hd (cs:=#[.slice none 0 0]) (t:=38) ?hr ?_;(case hd=>rfl);(case hg=>rfl);(case hr=>(go_simp;done));intro gb167 hg w9 hbox hb;have n0_:=Aside0.mk (qag (g:=gb165) (o:=.cells #[.slice A0_0 l0_0.length c0_0] 38 (0,0)) (by (with_reducible repeat (refine qaa ?_));exact BK165.out) hb);have n1_:=Aside0.mk (qag (g:=gb166) (o:=.cells #[.slice A1_0 l1_0.length c1_0] 38 (0,0)) (by (with_reducible repeat (refine qaa ?_));exact BK166.out) hb);have n2_:=Aside0.mk (qai HB.out hb);have n3_:=Aside0.mk (hbox);have n4_:=Aside0.mk ((by rw [hg];exact (qac HB.out) : w.heap.size≤gb167));have n5_:=Aside0.mk ((by rw [hg];exact (qac HB.out) : w.heap.size≤gb167));have n6_:=Aside0.mk ((by rw [hg];exact Nat.ne_of_lt (blk_lt (g:=gb165) (o:=.cells #[.slice A0_0 l0_0.length c0_0] 38 (0,0)) (by (with_reducible repeat (refine qaa ?_));exact BK165.out)) : gb165≠gb167));have n7_:=Aside0.mk ((by rw [hg];exact Nat.ne_of_gt (blk_lt (g:=gb165) (o:=.cells #[.slice A0_0 l0_0.length c0_0] 38 (0,0)) (by (with_reducible repeat (refine qaa ?_));exact BK165.out)) : gb167≠gb165));have n8_:=Aside0.mk ((by rw [hg];exact Nat.ne_of_lt (blk_lt (g:=gb166) (o:=.cells #[.slice A1_0 l1_0.length c1_0] 38 (0,0)) (by (with_reducible repeat (refine qaa ?_));exact BK166.out)) : gb166≠gb167));have n9_:=Aside0.mk ((by rw [hg];exact Nat.ne_of_gt (blk_lt (g:=gb166) (o:=.cells #[.slice A1_0 l1_0.length c1_0] 38 (0,0)) (by (with_reducible repeat (refine qaa ?_));exact BK166.out)) : gb167≠gb166));clear BK165;clear BK166;clear HB;have BK165:=n0_;have BK166:=n1_;have HB:=n2_;have BK167:=n3_;have GW167:=n4_;have GE167:=n5_;have NB165_167:=n6_;have NB167_165:=n7_;have NB166_167:=n8_;have NB167_166:=n9_;clear n0_ n1_ n2_ n3_ n4_ n5_ n6_ n7_ n8_ n9_;clear hb hbox hg;have hnb10:=NB165_166.out;have hnc10:=NB166_165.out;have hnb11:=NB165_167.out;have hnc11:=NB167_165.out;have hcz12_0 : w9.cell? ⟨gb165,0,none⟩ = some (.slice A0_0 l0_0.length c0_0):=(qab BK165.out 0).trans rfl;have hfz12_0:=qaf BK165.out 0;have hnb13:=NB166_167.out;have hnc13:=NB167_166.out;have hcz14_0 : w9.cell? ⟨gb166,0,none⟩ = some (.slice A1_0 l1_0.length c1_0):=(qab BK166.out 0).trans rfl;have hfz14_0:=qaf BK166.out 0)|((with_reducible refine qbg (N:=16) rfl ?_);refine Kd.R_make (Kd.int .u64) _ 77 rfl (N:=16) rfl 36 _ _ rfl ji4 rfl rfl Tryd.underlying36 (.int .u64 0) 8 info77 rfl (by decide) (by omega) 0 (ok:=fun _=>True) (okp:=fun _=>True) rfl (fun _ hk=>hk) trivial (of_decide_eq_true (by (with_reducible assumption))) (Nat.le_trans (Nat.mul_le_mul_right _ (of_decide_eq_true (by (with_reducible assumption)) : ji4.toNat≤35184372088832)) (by omega)) (Below.refl _ _) (Nat.le_refl _) ?_;intro v169 w15 ho16 hb hg_ hnew_;clear hg_ hnew_;(rw [← Ny168.out] at ho16);have n0_:=Aside0.mk (Kd.R_lower (Kd.R_newM (M:=fun k_=>(w.heap.size≤k_)) ho16 (qac HB.out) (fun k_ h_=>h_)) (qac HB.out));have n1_:=Aside0.mk (qag (g:=gb165) (o:=.cells #[.slice A0_0 l0_0.length c0_0] 38 (0,0)) (by (with_reducible repeat (refine qaa ?_));exact BK165.out) hb);have n2_:=Aside0.mk (qag (g:=gb166) (o:=.cells #[.slice A1_0 l1_0.length c1_0] 38 (0,0)) (by (with_reducible repeat (refine qaa ?_));exact BK166.out) hb);have n3_:=Aside0.mk (qag (g:=gb167) (o:=.cells #[.slice none 0 0] 38 (0,0)) (by (with_reducible repeat (refine qaa ?_));exact BK167.out) hb);have n4_:=Aside0.mk (qai HB.out hb);clear BK165;clear BK166;clear BK167;clear HB;have HO170:=n0_;have BK165:=n1_;have BK166:=n2_;have BK167:=n3_;have HB:=n4_;clear n0_ n1_ n2_ n3_ n4_;clear hb ho16;obtain ⟨Ao17,co17,eo17⟩:=Kd.R_slice HO170.out;subst eo17))
      go_loopg [19] k (fun kq v19 w'=>∃ (x7_1 : List Int) (x19_1 : Int),v19 = .int .i64 x19_1∧Aside0 (qaj.l0 kq x7_1 (y168.length : Int) x19_1 l0_0 l1_0 = some r)∧Aside0 (kq≤k)∧Aside0 (Kd.R (Kd.int .u64) 77 w' w.heap.size (fun k_=>(w.heap.size≤k_)) (.slice Ao17 y168.length co17) x7_1)∧Aside0 (w'.heap[gb165]? = some (.cells #[(.slice A0_0 l0_0.length c0_0)] 38 (0,0)))∧Aside0 (w'.heap[gb166]? = some (.cells #[(.slice A1_0 l1_0.length c1_0)] 38 (0,0)))∧Aside0 (w'.heap[gb167]? = some (.cells #[(.slice none 0 0)] 38 (0,0)))∧Aside0 (Below w.heap.size w w'))
      case atStart=>exact ⟨(y168),(0),(by rfl),H',⟨Nat.le_refl _⟩,⟨by (with_reducible repeat (apply Kd.R_drew));exact Kd.R_mono HO170.out (fun _ hk=>hk.1)⟩,⟨by (with_reducible repeat (refine qaa ?_));exact BK165.out⟩,⟨by (with_reducible repeat (refine qaa ?_));exact BK166.out⟩,⟨by (with_reducible repeat (refine qaa ?_));exact BK167.out⟩,⟨by repeat ((with_reducible exact HB.out))⟩⟩
      case round=>
        clear H'
        try clear c5b0
        try clear c5b1
        try clear c6b0
        try clear c6b1
        try clear hcz12_0
        try clear hcz14_0
        try clear hfz12_0
        try clear hfz14_0
        obtain ⟨x7_1,x19_1,rfl,HA,HK1,HO_7,BK165,BK166,BK167,HB⟩:=hrel
        have hl7_1:=(Kd.R_reads' HO_7.out).1
        rw [hl7_1] at HO_7
        (try simp only [hl7_1])
        cases gk with
        | zero=>exact absurd HA.out (by simp [qaj.l0])
        | succ k1=>
          have H:=HA.out
          clear HA
          simp only [qaj.l0] at H
          by_cases c18 : x19_1 < (y168.length : Int)
          · rw [if_pos c18] at H
            have c18b0 : decide (x19_1 < (y168.length : Int)) = true:=decide_eq_true c18
            (try (have c18b0q:=c18b0;rw [hl7_1] at c18b0q))
            clear c18
            replace H:=Option.bind_eq_some_iff.mp H
            obtain ⟨t171,A190,H⟩:=H
            replace H : ((qbv.f l1_0 x19_1).bind fun t172=>((qcw.f t171 t172).bind fun t173=>(if 0≤x19_1 then (if x19_1 < (x7_1.length : Int) then (qaj.l0 k1 (x7_1.set (x19_1 : Int).toNat t173) (y168.length : Int) (wrap64 (x19_1 + 1)) l0_0 l1_0) else (none)) else (none)))) = some r:=H
            have A19:=Aside0.mk A190
            clear A190
            replace H:=Option.bind_eq_some_iff.mp H
            obtain ⟨t172,A200,H⟩:=H
            replace H : ((qcw.f t171 t172).bind fun t173=>(if 0≤x19_1 then (if x19_1 < (x7_1.length : Int) then (qaj.l0 k1 (x7_1.set (x19_1 : Int).toNat t173) (y168.length : Int) (wrap64 (x19_1 + 1)) l0_0 l1_0) else (none)) else (none))) = some r:=H
            have A20:=Aside0.mk A200
            clear A200
            replace H:=Option.bind_eq_some_iff.mp H
            obtain ⟨t173,A210,H⟩:=H
            replace H : (if 0≤x19_1 then (if x19_1 < (x7_1.length : Int) then (qaj.l0 k1 (x7_1.set (x19_1 : Int).toNat t173) (y168.length : Int) (wrap64 (x19_1 + 1)) l0_0 l1_0) else (none)) else (none)) = some r:=H
            have A21:=Aside0.mk A210
            clear A210
            by_cases c22 : 0≤x19_1
            · rw [if_pos c22] at H
              have c22b0 : decide (0≤x19_1) = true:=decide_eq_true c22
              clear c22
              by_cases c23 : x19_1 < (x7_1.length : Int)
              · rw [if_pos c23] at H
                have c23b0 : decide (x19_1 < (x7_1.length : Int)) = true:=decide_eq_true c23
                clear c23
                obtain ⟨y174,hy174⟩ : ∃ y_ : List Int,y_ = (x7_1.set (x19_1 : Int).toNat t173):=⟨_,rfl⟩
                replace H : (qaj.l0 k1 y174 (y168.length : Int) (wrap64 (x19_1 + 1)) l0_0 l1_0) = some r:=by (rw [hy174];with_reducible exact H)
                have Ny174:=Aside0.mk hy174
                clear hy174
                have H':=Aside0.mk H
                clear H
                try go_wp2
                have n0_:=Aside0.mk (Kd.R_drew HO_7.out)
                have n1_:=Aside0.mk (qaa BK165.out)
                have n2_:=Aside0.mk (qaa BK166.out)
                have n3_:=Aside0.mk (qaa BK167.out)
                have n4_:=Aside0.mk (qcy HB.out)
                clear HO_7
                clear BK165
                clear BK166
                clear BK167
                clear HB
                have HO_7:=n0_
                have BK165:=n1_
                have BK166:=n2_
                have BK167:=n3_
                have HB:=n4_
                clear n0_ n1_ n2_ n3_ n4_
                refine start_ (n:=12) (S:=fun w'=>w'.cell? ⟨gb165,0,none⟩ = some (.slice A0_0 l0_0.length c0_0)∧w'.cell? ⟨gb166,0,none⟩ = some (.slice A1_0 l1_0.length c1_0)) (ds:=[11]) #[false,false,false,false,false,false,false,false,false,false,false,false] (by kernel_rfl) rfl rfl ⟨(qab BK165.out 0).trans rfl,(qab BK166.out 0).trans rfl⟩ (fun hHeld=>?_);refine qdl qaj.tab5 qaj.bits5 (fun HT_ HW_=>?_)
                generalize wr.drew = w25 at HO_7 BK165 BK166 BK167 HB hHeld ⊢
                refine pure_ (i:=0) (N:=some 22) (v:=?_) (a':=?_) #[true,false,false,false,false,false,false,false,false,false,false,false] rfl rfl (any_of HT_.out (by kernel_rfl)) (fun _ _ _ h=>h) (Or.inl ⟨by rfl,?_⟩) ?_ ?_
                rotate_left
                · intro w'
                  go_simp
                  with_reducible rfl
                rotate_left
                · simp only [Act.put,List.setIfInBounds_toArray,List.set_cons_zero,List.set_cons_succ,i64_w,i32_w]
                  rfl
                refine pure_ (i:=1) (N:=some 23) (v:=?_) (a':=?_) #[true,true,false,false,false,false,false,false,false,false,false,false] rfl rfl (any_of HT_.out (by kernel_rfl)) (fun _ _ _ h=>h) (Or.inl ⟨by rfl,?_⟩) ?_ ?_
                rotate_left
                · intro w'
                  go_simp
                  with_reducible rfl
                rotate_left
                · simp only [Act.put,List.setIfInBounds_toArray,List.set_cons_zero,List.set_cons_succ,i64_w,i32_w]
                  rfl
                refine pure_ (i:=2) (N:=some 24) (v:=?_) (a':=?_) #[true,true,true,false,false,false,false,false,false,false,false,false] rfl rfl (any_of HT_.out (by kernel_rfl)) (fun _ _ _ h=>h) (Or.inl ⟨by rfl,?_⟩) ?_ ?_
                rotate_left
                · intro w'
                  go_simp
                  with_reducible rfl
                rotate_left
                · simp only [Act.put,List.setIfInBounds_toArray,List.set_cons_zero,List.set_cons_succ,i64_w,i32_w]
                  rfl
                refine pure_ (i:=4) (N:=some 26) (v:=?_) (a':=?_) #[true,true,true,false,true,false,false,false,false,false,false,false] rfl rfl (any_of HT_.out (by kernel_rfl)) (fun _ _ _ h=>h) (Or.inl ⟨by rfl,?_⟩) ?_ ?_
                rotate_left
                · intro w'
                  go_simp
                  with_reducible rfl
                rotate_left
                · simp only [Act.put,List.setIfInBounds_toArray,List.set_cons_zero,List.set_cons_succ,i64_w,i32_w]
                  rfl
                refine pure_ (i:=7) (N:=some 29) (v:=?_) (a':=?_) #[true,true,true,false,true,false,false,true,false,false,false,false] rfl rfl (any_of HT_.out (by kernel_rfl)) (fun _ _ _ h=>h) (Or.inl ⟨by rfl,?_⟩) ?_ ?_
                rotate_left
                · intro w'
                  go_simp
                  with_reducible rfl
                rotate_left
                · simp only [Act.put,List.setIfInBounds_toArray,List.set_cons_zero,List.set_cons_succ,i64_w,i32_w]
                  rfl
                refine take_ (i:=3) (N:=some 25) (v:=?_) (a':=?_) #[true,true,true,true,true,false,false,true,false,false,false,false] rfl rfl (qcf HT_.out HW_.out (by kernel_rfl)) (fun _ _ _ h=>h) (Or.inl ⟨by rfl,?_⟩) hHeld ?_ ?_
                rotate_left
                · rintro w' ⟨s0,s1⟩
                  go_simp
                  with_reducible rfl
                rotate_left
                · simp only [Act.put,List.setIfInBounds_toArray,List.set_cons_zero,List.set_cons_succ,i64_w,i32_w]
                  rfl
                refine take_ (i:=6) (N:=some 28) (v:=?_) (a':=?_) #[true,true,true,true,true,false,true,true,false,false,false,false] rfl rfl (qcf HT_.out HW_.out (by kernel_rfl)) (fun _ _ _ h=>h) (Or.inl ⟨by rfl,?_⟩) hHeld ?_ ?_
                rotate_left
                · rintro w' ⟨s0,s1⟩
                  go_simp
                  with_reducible rfl
                rotate_left
                · simp only [Act.put,List.setIfInBounds_toArray,List.set_cons_zero,List.set_cons_succ,i64_w,i32_w]
                  rfl
                refine one_ (i:=5) (N:=some 27) #[true,true,true,true,true,true,true,true,false,false,false,false] rfl rfl (one_of HT_.out (by kernel_rfl)) (by decide) (fun K hK=>?_)
                refine goes_ Tryd.func65 (by kernel_rfl) rfl #[.agg #[.slice A0_0 l0_0.length c0_0],.int .i64 x19_1] (by rfl) rfl rfl (by (try simp only [List.map_toArray,List.map_cons,List.map_nil]);rfl) ?_
                with_reducible refine (qbv.calls _ _ l0_0 x19_1 t171 _ ?side1 ?side2 A19.out).mono ?_
                (case side1=>repeat (exact (Kd.C_below HR0_0.out HB.out)))
                (case side2=>exact HC0_0.out)
                rintro e w26 ⟨rfl,hb⟩
                refine ⟨_,rfl,?_⟩
                have n0_:=Aside0.mk (Kd.R_below (by (with_reducible repeat (apply Kd.R_drew));exact HO_7.out) hb)
                have n1_:=Aside0.mk (qag (g:=gb165) (o:=.cells #[.slice A0_0 l0_0.length c0_0] 38 (0,0)) (by (with_reducible repeat (refine qaa ?_));exact BK165.out) hb)
                have n2_:=Aside0.mk (qag (g:=gb166) (o:=.cells #[.slice A1_0 l1_0.length c1_0] 38 (0,0)) (by (with_reducible repeat (refine qaa ?_));exact BK166.out) hb)
                have n3_:=Aside0.mk (qag (g:=gb167) (o:=.cells #[.slice none 0 0] 38 (0,0)) (by (with_reducible repeat (refine qaa ?_));exact BK167.out) hb)
                have n4_:=Aside0.mk (qai HB.out hb)
                clear HO_7
                clear BK165
                clear BK166
                clear BK167
                clear HB
                have HO_7:=n0_
                have BK165:=n1_
                have BK166:=n2_
                have BK167:=n3_
                have HB:=n4_
                clear n0_ n1_ n2_ n3_ n4_
                (try clear hb)
                refine hK.out _ _ ⟨(qab BK165.out 0).trans rfl,(qab BK166.out 0).trans rfl⟩ (fun hHeld=>?_)
                clear hK K
                refine norm_ (a':=?_) ?_ ?_
                rotate_left
                · show Act.put _ (some 27) _ = _
                  simp only [Act.put,List.setIfInBounds_toArray,List.set_cons_zero,List.set_cons_succ,i64_w,i32_w]
                  rfl
                refine one_ (i:=8) (N:=some 30) #[true,true,true,true,true,true,true,true,true,false,false,false] rfl rfl (one_of HT_.out (by kernel_rfl)) (by decide) (fun K hK=>?_)
                refine goes_ Tryd.func65 (by kernel_rfl) rfl #[.agg #[.slice A1_0 l1_0.length c1_0],.int .i64 x19_1] (by rfl) rfl rfl (by (try simp only [List.map_toArray,List.map_cons,List.map_nil]);rfl) ?_
                with_reducible refine (qbv.calls _ _ l1_0 x19_1 t172 _ ?side1 ?side2 A20.out).mono ?_
                (case side1=>repeat (exact (Kd.C_below HR1_0.out HB.out)))
                (case side2=>exact HC1_0.out)
                rintro e w27 ⟨rfl,hb⟩
                refine ⟨_,rfl,?_⟩
                have n0_:=Aside0.mk (Kd.R_below (by (with_reducible repeat (apply Kd.R_drew));exact HO_7.out) hb)
                have n1_:=Aside0.mk (qag (g:=gb165) (o:=.cells #[.slice A0_0 l0_0.length c0_0] 38 (0,0)) (by (with_reducible repeat (refine qaa ?_));exact BK165.out) hb)
                have n2_:=Aside0.mk (qag (g:=gb166) (o:=.cells #[.slice A1_0 l1_0.length c1_0] 38 (0,0)) (by (with_reducible repeat (refine qaa ?_));exact BK166.out) hb)
                have n3_:=Aside0.mk (qag (g:=gb167) (o:=.cells #[.slice none 0 0] 38 (0,0)) (by (with_reducible repeat (refine qaa ?_));exact BK167.out) hb)
                have n4_:=Aside0.mk (qai HB.out hb)
                clear HO_7
                clear BK165
                clear BK166
                clear BK167
                clear HB
                have HO_7:=n0_
                have BK165:=n1_
                have BK166:=n2_
                have BK167:=n3_
                have HB:=n4_
                clear n0_ n1_ n2_ n3_ n4_
                (try clear hb)
                refine hK.out _ _ ⟨(qab BK165.out 0).trans rfl,(qab BK166.out 0).trans rfl⟩ (fun hHeld=>?_)
                clear hK K
                refine norm_ (a':=?_) ?_ ?_
                rotate_left
                · show Act.put _ (some 30) _ = _
                  simp only [Act.put,List.setIfInBounds_toArray,List.set_cons_zero,List.set_cons_succ,i64_w,i32_w]
                  rfl
                refine one_ (i:=9) (N:=some 31) #[true,true,true,true,true,true,true,true,true,true,false,false] rfl rfl (one_of HT_.out (by kernel_rfl)) (by decide) (fun K hK=>?_)
                refine goesT_ Tryd.func79 (by kernel_rfl) rfl #[.int .u64 t171,.int .u64 t172] (by rfl) rfl rfl rfl (by (try simp only [List.map_toArray,List.map_cons,List.map_nil]);rfl) ?_
                with_reducible refine (qcw.calls t171 t172 t173 _ A21.out).mono ?_
                rintro e w' ⟨rfl,⟨nd,rfl⟩⟩
                refine ⟨_,rfl,?_⟩
                have p24 : 0≤(x19_1 : Int):=of_decide_eq_true (by (with_reducible assumption))
                have q24 : (x19_1 : Int) < ((x7_1.length : Int) : Int):=of_decide_eq_true (by (with_reducible assumption))
                obtain ⟨go24,co24,eo24,gb24,gl24,cl24,HG24⟩:=Kd.R_form HO_7.out (by omega)
                (cases eo24)
                have GB24:=Aside0.mk gb24
                have GG24:=Aside0.mk HG24
                clear gb24 gl24 HG24
                obtain ⟨hx24_0,hf24_0⟩:=Kd.R_celln 0 HO_7.out (x19_1 : Int) p24 q24
                replace p24:=eq_true p24
                replace q24:=eq_true q24
                have HP28:=Kd.R_putn HO_7.out (x19_1 : Int) t173
                rw [← Ny174.out] at HP28
                have HQ28:=Aside0.mk HP28
                clear HP28
                refine hK.out _ _ ⟨(qab BK165.out 0).trans rfl,(qab BK166.out 0).trans rfl⟩ (fun hHeld=>?_)
                clear hK K
                refine norm_ (a':=?_) ?_ ?_
                rotate_left
                · show Act.put _ (some 31) _ = _
                  simp only [Act.put,List.setIfInBounds_toArray,List.set_cons_zero,List.set_cons_succ,i64_w,i32_w]
                  rfl
                refine pure_ (i:=10) (N:=some 32) (v:=?_) (a':=?_) #[true,true,true,true,true,true,true,true,true,true,true,false] rfl rfl (any_of HT_.out (by kernel_rfl)) (fun _ _ _ h=>h) (Or.inl ⟨by rfl,?_⟩) ?_ ?_
                rotate_left
                · intro w'
                  go_simp
                  with_reducible rfl
                rotate_left
                · simp only [Act.put,List.setIfInBounds_toArray,List.set_cons_zero,List.set_cons_succ,i64_w,i32_w]
                  rfl
                refine last_ (i:=11) (N:=none) #[true,true,true,true,true,true,true,true,true,true,true,true] rfl rfl (one_of HT_.out (by kernel_rfl)) (by decide) (fun K hK=>?_)
                refine skip_ (w1:=?_) (by rfl) rfl ?_ ?_
                rotate_left
                · go_simp
                  rfl
                refine hK.out _ _ ?_
                clear hK K
                refine done_ (done_of HT_.out (by kernel_rfl)) ?_
                try go_wp2
                (try simp only [← hl7_1])
                go_roundg k1
                case measure=>have:=HK1.out;omega
                case rel=>exact ⟨(y174),(wrap64 (x19_1 + 1)),(by rfl),H',⟨by have:=HK1.out;omega⟩,⟨by (try simp only [hl7_1]);(with_reducible repeat (apply Kd.R_drew));exact HQ28.out⟩,⟨by (skip);(with_reducible repeat (refine qaa ?_));refine qci ?_ (by have h_:=Kd.R_ne HO_7.out BK165.out (by decide);intro e_;exact h_ (by rw [e_];rfl)) _;(with_reducible repeat (refine qcr ?_ _));exact BK165.out⟩,⟨by (skip);(with_reducible repeat (refine qaa ?_));refine qci ?_ (by have h_:=Kd.R_ne HO_7.out BK166.out (by decide);intro e_;exact h_ (by rw [e_];rfl)) _;(with_reducible repeat (refine qcr ?_ _));exact BK166.out⟩,⟨by (skip);(with_reducible repeat (refine qaa ?_));refine qci ?_ (by have h_:=Kd.R_ne HO_7.out BK167.out (by decide);intro e_;exact h_ (by rw [e_];rfl)) _;(with_reducible repeat (refine qcr ?_ _));exact BK167.out⟩,⟨by repeat ((with_reducible first|exact HB.out|apply qay|refine qbq ?_ GB24.out))⟩⟩
              · rw [if_neg c23] at H
                exact absurd H (by simp)
            · rw [if_neg c22] at H
              exact absurd H (by simp)
          · rw [if_neg c18] at H
            have c18b0 : decide (x19_1 < (y168.length : Int)) = false:=decide_eq_false c18
            (try (have c18b0q:=c18b0;rw [hl7_1] at c18b0q))
            clear c18
            replace H:=Option.bind_eq_some_iff.mp H
            obtain ⟨t175,A290,H⟩:=H
            replace H : (some t175) = some r:=H
            have A29:=Aside0.mk A290
            clear A290
            obtain rfl:=Option.some.inj H
            go_wp2_with (((with_reducible refine qbb (f:=62) rfl ?_);refine goesL_ (some 35) rfl rfl Tryd.func62 (by kernel_rfl) rfl #[.slice Ao17 x7_1.length co17] rfl (by (try simp only [List.map_toArray,List.map_cons,List.map_nil]);rfl) ?_;(with_reducible refine (qba.calls k1 (fun k_=>some k_ = (.slice Ao17 x7_1.length co17 : Value).ownBlock) (.slice Ao17 x7_1.length co17) x7_1 t175 w _ ?side1 ?side2 A29.out).mono ?_);(case side1=>repeat ((with_reducible exact HB.out)));(case side2=>exact Kd.R_tight rfl HO_7.out);rintro e w30 ⟨v176,rfl,ho0,hb,hkp⟩;refine ⟨_,rfl,?_⟩;have n0_:=Aside0.mk (qdq (by (with_reducible repeat (refine qaa ?_));exact BK165.out) hkp (fun hs_=>(fun e_=>(Kd.R_ne HO_7.out BK165.out (by decide)) e_) hs_));have n1_:=Aside0.mk (qdq (by (with_reducible repeat (refine qaa ?_));exact BK166.out) hkp (fun hs_=>(fun e_=>(Kd.R_ne HO_7.out BK166.out (by decide)) e_) hs_));have n2_:=Aside0.mk (qdq (by (with_reducible repeat (refine qaa ?_));exact BK167.out) hkp (fun hs_=>(fun e_=>(Kd.R_ne HO_7.out BK167.out (by decide)) e_) hs_));have n3_:=Aside0.mk (Kd.V_mono (ok':=fun k_=>(w.heap.size≤k_)∧k_≠gb165∧k_≠gb166∧k_≠gb167) ho0 (fun k_ hk_=>⟨Or.elim hk_ (fun hs_=>(HO_7.out.1 k_ (hs_).symm)) (fun hn_=>(Nat.le_trans (qac HB.out) hn_)),Or.elim hk_ (fun hs_=>fun e_=>(Kd.R_ne HO_7.out BK165.out (by decide)) (by rw [← e_];exact hs_)) (fun hn_=>(Kd.freshB (g:=gb165) (o:=.cells #[.slice A0_0 l0_0.length c0_0] 38 (0,0)) (by (with_reducible repeat (refine qaa ?_));exact BK165.out) k_ hn_)),Or.elim hk_ (fun hs_=>fun e_=>(Kd.R_ne HO_7.out BK166.out (by decide)) (by rw [← e_];exact hs_)) (fun hn_=>(Kd.freshB (g:=gb166) (o:=.cells #[.slice A1_0 l1_0.length c1_0] 38 (0,0)) (by (with_reducible repeat (refine qaa ?_));exact BK166.out) k_ hn_)),Or.elim hk_ (fun hs_=>fun e_=>(Kd.R_ne HO_7.out BK167.out (by decide)) (by rw [← e_];exact hs_)) (fun hn_=>(Kd.freshB (g:=gb167) (o:=.cells #[.slice none 0 0] 38 (0,0)) (by (with_reducible repeat (refine qaa ?_));exact BK167.out) k_ hn_))⟩));have n4_:=Aside0.mk (hb);clear BK165;clear BK166;clear BK167;clear HB;clear HO_7;have BK165:=n0_;have BK166:=n1_;have BK167:=n2_;have HO177:=n3_;have HB:=n4_;clear n0_ n1_ n2_ n3_ n4_;(try clear hb);(try clear hkp);(try clear ho0);obtain ⟨Ao31,co31,eo31⟩:=Kd.V_slice HO177.out;subst eo31;have hnb32:=NB167_165.out;have hnc32:=NB165_167.out;have hnb33:=NB167_166.out;have hnc33:=NB166_167.out;have hcz34_0 : w30.cell? ⟨gb167,0,none⟩ = some (.slice none 0 0):=(qab BK167.out 0).trans rfl;have hfz34_0:=qaf BK167.out 0))
            refine bodyPost_ret (results_cell_row rfl _ _ gb167 38 #[.slice Ao31 t175.length co31] (0,0) _ rfl (by (with_reducible repeat (refine qaa ?_));refine qce (cs:=#[.slice none 0 0]) ?_ 0 _ rfl;(with_reducible repeat (refine qaa ?_));exact BK167.out) Tryd.underlying38 rfl (by kernel_rfl)) rfl ?_
            exact ⟨_,by rfl,by (with_reducible repeat (apply Kd.V_drew));exact Kd.V_mono (Kd.V_far (p:=⟨gb167,0,none⟩) (Kd.V_mono HO177.out (fun k_ hk=>(⟨hk,hk.2.2.2⟩ : _∧k_≠gb167))) (fun _ hk=>hk.2) (.slice Ao31 t175.length co31)) (fun _ hk=>hk.1.1),by repeat ((with_reducible first|exact HB.out|refine qbq ?_ GE167.out))⟩
    · rw [if_neg c6] at H
      exact absurd H (by simp)
  · rw [if_neg c5] at H
    exact absurd H (by simp)
end Go.Proofs.YtmfjmbcfaamebaaDoor.X
namespace Go.Proofs.YtmfjmbcfaamebaaDoor.X
open Go.RowKit Go.Proofs.YtmfjmbcfaamebaaDoorW.PrintWords Go.Proofs.YtmfjmbcfaamebaaDoorW.PrintLast Go.Proofs.YtmfjmbcfaamebaaDoorW.PrintMore
attribute [local go_sem] qbo qbu
set_option linter.unusedVariables false
set_option linter.unusedSimpArgs false
def qbs.f (k : Nat) (l0_0 : List Int) (l1_0 : List Int) : Option (List Int):=(qaj.f k l0_0 l1_0).bind fun t211=>(some t211)
theorem qbs.mono : ∀ a0 a1 k,LeO (qbs.f k a0 a1) (qbs.f (k + 1) a0 a1):=by
  intro a0 a1 k
  unfold qbs.f
  repeat' first|(with_reducible exact qaj.mono _ _ _)|(with_reducible exact LeO.refl _)|(with_reducible refine LeO.bind ?_ (fun _=>?_))
set_option maxHeartbeats 8000000 in
set_option maxRecDepth 100000 in
theorem qbs.calls (k : Nat) (A0_0 : Option Addr) (c0_0 : Nat) (l0_0 : List Int) (A1_0 : Option Addr) (c1_0 : Nat) (l1_0 : List Int) (r : List Int) (w : World) (hr0_0 : Kd.C (Kd.int .u64) w A0_0 l0_0.length l0_0) (hc0_0 : l0_0.length≤c0_0) (hr1_0 : Kd.C (Kd.int .u64) w A1_0 l1_0.length l1_0) (hc1_0 : l1_0.length≤c1_0) (h : qbs.f k l0_0 l1_0 = some r) :
    Calls Tryd.prog 53 #[.agg #[.slice A0_0 l0_0.length c0_0],.agg #[.slice A1_0 l1_0.length c1_0]] w fun e w'=>∃ v0_ : Value,e = .returned (.agg #[v0_])∧Kd.V (Kd.int .u64) 77 w' w.heap.size (fun k_=>(w.heap.size≤k_)) v0_ r∧Below w.heap.size w w':=by
  have hu38:=Tryd.underlying38
  have HR0_0:=Aside0.mk hr0_0
  have HC0_0:=Aside0.mk hc0_0
  clear hr0_0 hc0_0
  have HR1_0:=Aside0.mk hr1_0
  have HC1_0:=Aside0.mk hc1_0
  clear hr1_0 hc1_0
  have HB:=Aside0.mk (Below.refl w.heap.size w)
  have H : ((qaj.f k l0_0 l1_0).bind fun t211=>(some t211)) = some r:=h
  clear h
  replace H:=Option.bind_eq_some_iff.mp H
  obtain ⟨t211,A30,H⟩:=H
  replace H : (some t211) = some r:=H
  have A3:=Aside0.mk A30
  clear A30
  obtain rfl:=Option.some.inj H
  go_enter Tryd.func53,Tryd.ntmps53
  go_wp2_with (first|((with_reducible refine qbg (N:=2) rfl ?_);refine qbl ?hg (N:=2) ?hd (cs:=#[.slice A0_0 l0_0.length c0_0]) (t:=38) ?hr ?_;(case hd=>rfl);(case hg=>rfl);(case hr=>(go_simp;done));intro gb208 hg w4 hbox hb;have n0_:=Aside0.mk (qai HB.out hb);have n1_:=Aside0.mk (hbox);have n2_:=Aside0.mk ((by rw [hg];exact (qac HB.out) : w.heap.size≤gb208));have n3_:=Aside0.mk ((by rw [hg];exact (qac HB.out) : w.heap.size≤gb208));clear HB;have HB:=n0_;have BK208:=n1_;have GW208:=n2_;have GE208:=n3_;clear n0_ n1_ n2_ n3_;clear hb hbox hg)|((with_reducible refine qbg (N:=3) rfl ?_);refine qbl ?hg (N:=3) ?hd (cs:=#[.slice A1_0 l1_0.length c1_0]) (t:=38) ?hr ?_;(case hd=>rfl);(case hg=>rfl);(case hr=>(go_simp;done));intro gb209 hg w5 hbox hb;have n0_:=Aside0.mk (qag (g:=gb208) (o:=.cells #[.slice A0_0 l0_0.length c0_0] 38 (0,0)) (by (with_reducible repeat (refine qaa ?_));exact BK208.out) hb);have n1_:=Aside0.mk (qai HB.out hb);have n2_:=Aside0.mk (hbox);have n3_:=Aside0.mk ((by rw [hg];exact (qac HB.out) : w.heap.size≤gb209));have n4_:=Aside0.mk ((by rw [hg];exact (qac HB.out) : w.heap.size≤gb209));have n5_:=Aside0.mk ((by rw [hg];exact Nat.ne_of_lt (blk_lt (g:=gb208) (o:=.cells #[.slice A0_0 l0_0.length c0_0] 38 (0,0)) (by (with_reducible repeat (refine qaa ?_));exact BK208.out)) : gb208≠gb209));have n6_:=Aside0.mk ((by rw [hg];exact Nat.ne_of_gt (blk_lt (g:=gb208) (o:=.cells #[.slice A0_0 l0_0.length c0_0] 38 (0,0)) (by (with_reducible repeat (refine qaa ?_));exact BK208.out)) : gb209≠gb208));clear BK208;clear HB;have BK208:=n0_;have HB:=n1_;have BK209:=n2_;have GW209:=n3_;have GE209:=n4_;have NB208_209:=n5_;have NB209_208:=n6_;clear n0_ n1_ n2_ n3_ n4_ n5_ n6_;clear hb hbox hg)|((with_reducible refine qbg (N:=4) rfl ?_);refine qbl ?hg (N:=4) ?hd (cs:=#[.slice none 0 0]) (t:=38) ?hr ?_;(case hd=>rfl);(case hg=>rfl);(case hr=>(go_simp;done));intro gb210 hg w6 hbox hb;have n0_:=Aside0.mk (qag (g:=gb208) (o:=.cells #[.slice A0_0 l0_0.length c0_0] 38 (0,0)) (by (with_reducible repeat (refine qaa ?_));exact BK208.out) hb);have n1_:=Aside0.mk (qag (g:=gb209) (o:=.cells #[.slice A1_0 l1_0.length c1_0] 38 (0,0)) (by (with_reducible repeat (refine qaa ?_));exact BK209.out) hb);have n2_:=Aside0.mk (qai HB.out hb);have n3_:=Aside0.mk (hbox);have n4_:=Aside0.mk ((by rw [hg];exact (qac HB.out) : w.heap.size≤gb210));have n5_:=Aside0.mk ((by rw [hg];exact (qac HB.out) : w.heap.size≤gb210));have n6_:=Aside0.mk ((by rw [hg];exact Nat.ne_of_lt (blk_lt (g:=gb208) (o:=.cells #[.slice A0_0 l0_0.length c0_0] 38 (0,0)) (by (with_reducible repeat (refine qaa ?_));exact BK208.out)) : gb208≠gb210));have n7_:=Aside0.mk ((by rw [hg];exact Nat.ne_of_gt (blk_lt (g:=gb208) (o:=.cells #[.slice A0_0 l0_0.length c0_0] 38 (0,0)) (by (with_reducible repeat (refine qaa ?_));exact BK208.out)) : gb210≠gb208));have n8_:=Aside0.mk ((by rw [hg];exact Nat.ne_of_lt (blk_lt (g:=gb209) (o:=.cells #[.slice A1_0 l1_0.length c1_0] 38 (0,0)) (by (with_reducible repeat (refine qaa ?_));exact BK209.out)) : gb209≠gb210));have n9_:=Aside0.mk ((by rw [hg];exact Nat.ne_of_gt (blk_lt (g:=gb209) (o:=.cells #[.slice A1_0 l1_0.length c1_0] 38 (0,0)) (by (with_reducible repeat (refine qaa ?_));exact BK209.out)) : gb210≠gb209));clear BK208;clear BK209;clear HB;have BK208:=n0_;have BK209:=n1_;have HB:=n2_;have BK210:=n3_;have GW210:=n4_;have GE210:=n5_;have NB208_210:=n6_;have NB210_208:=n7_;have NB209_210:=n8_;have NB210_209:=n9_;clear n0_ n1_ n2_ n3_ n4_ n5_ n6_ n7_ n8_ n9_;clear hb hbox hg;have hnb7:=NB208_209.out;have hnc7:=NB209_208.out;have hnb8:=NB208_210.out;have hnc8:=NB210_208.out;have hcz9_0 : w6.cell? ⟨gb208,0,none⟩ = some (.slice A0_0 l0_0.length c0_0):=(qab BK208.out 0).trans rfl;have hfz9_0:=qaf BK208.out 0;have hnb10:=NB209_210.out;have hnc10:=NB210_209.out;have hcz11_0 : w6.cell? ⟨gb209,0,none⟩ = some (.slice A1_0 l1_0.length c1_0):=(qab BK209.out 0).trans rfl;have hfz11_0:=qaf BK209.out 0)|((with_reducible refine qbb (f:=78) rfl ?_);refine goesL_ (some 7) rfl rfl Tryd.func78 (by kernel_rfl) rfl #[.agg #[.slice A0_0 l0_0.length c0_0],.agg #[.slice A1_0 l1_0.length c1_0],.func (.func 79) #[] #[]] rfl (by (try simp only [List.map_toArray,List.map_cons,List.map_nil]);rfl) ?_;(with_reducible refine (qaj.calls k _ _ l0_0 _ _ l1_0  t211 _ ?side1 ?side2 ?side3 ?side4 A3.out).mono ?_);(case side1=>repeat (exact (Kd.C_below HR0_0.out HB.out)));(case side2=>exact HC0_0.out);(case side3=>repeat (exact (Kd.C_below HR1_0.out HB.out)));(case side4=>exact HC1_0.out);rintro e w12 ⟨v212,rfl,ho0,hb⟩;refine ⟨_,rfl,?_⟩;have n0_:=Aside0.mk (Kd.V_lower (Kd.V_mono (ok':=fun k_=>(w.heap.size≤k_)∧k_≠gb208∧k_≠gb209∧k_≠gb210) ho0 (fun k_ hk_=>⟨(Nat.le_trans (qac HB.out) hk_),(Kd.freshB (g:=gb208) (o:=.cells #[.slice A0_0 l0_0.length c0_0] 38 (0,0)) (by (with_reducible repeat (refine qaa ?_));exact BK208.out) k_ hk_),(Kd.freshB (g:=gb209) (o:=.cells #[.slice A1_0 l1_0.length c1_0] 38 (0,0)) (by (with_reducible repeat (refine qaa ?_));exact BK209.out) k_ hk_),(Kd.freshB (g:=gb210) (o:=.cells #[.slice none 0 0] 38 (0,0)) (by (with_reducible repeat (refine qaa ?_));exact BK210.out) k_ hk_)⟩)) (qac HB.out));have n1_:=Aside0.mk (qag (g:=gb208) (o:=.cells #[.slice A0_0 l0_0.length c0_0] 38 (0,0)) (by (with_reducible repeat (refine qaa ?_));exact BK208.out) hb);have n2_:=Aside0.mk (qag (g:=gb209) (o:=.cells #[.slice A1_0 l1_0.length c1_0] 38 (0,0)) (by (with_reducible repeat (refine qaa ?_));exact BK209.out) hb);have n3_:=Aside0.mk (qag (g:=gb210) (o:=.cells #[.slice none 0 0] 38 (0,0)) (by (with_reducible repeat (refine qaa ?_));exact BK210.out) hb);have n4_:=Aside0.mk (qai HB.out hb);clear BK208;clear BK209;clear BK210;clear HB;have HO213:=n0_;have BK208:=n1_;have BK209:=n2_;have BK210:=n3_;have HB:=n4_;clear n0_ n1_ n2_ n3_ n4_;(try clear hb);(try clear ho0);obtain ⟨Ao13,co13,eo13⟩:=Kd.V_slice HO213.out;subst eo13;have hcz14_0 : w12.cell? ⟨gb210,0,none⟩ = some (.slice none 0 0):=(qab BK210.out 0).trans rfl;have hfz14_0:=qaf BK210.out 0))
  refine bodyPost_ret (results_cell_row rfl _ _ gb210 38 #[.slice Ao13 t211.length co13] (0,0) _ rfl (by (with_reducible repeat (refine qaa ?_));refine qce (cs:=#[.slice none 0 0]) ?_ 0 _ rfl;(with_reducible repeat (refine qaa ?_));exact BK210.out) Tryd.underlying38 rfl (by kernel_rfl)) rfl ?_
  exact ⟨_,by rfl,by (with_reducible repeat (apply Kd.V_drew));exact Kd.V_mono (Kd.V_far (p:=⟨gb210,0,none⟩) (Kd.V_mono HO213.out (fun k_ hk=>(⟨hk,hk.2.2.2⟩ : _∧k_≠gb210))) (fun _ hk=>hk.2) (.slice Ao13 t211.length co13)) (fun _ hk=>hk.1.1),by repeat ((with_reducible first|exact HB.out|refine qbq ?_ GE210.out))⟩
end Go.Proofs.YtmfjmbcfaamebaaDoor.X
namespace Go.Proofs.YtmfjmbcfaamebaaDoor.X
noncomputable section
open Go.RowKit Go.Proofs.YtmfjmbcfaamebaaDoorW.PrintWords Go.Proofs.YtmfjmbcfaamebaaDoorW.PrintLast Go.Proofs.YtmfjmbcfaamebaaDoorW.PrintMore
attribute [local go_sem] qbo qbu
set_option linter.unusedVariables false
set_option linter.unusedSimpArgs false
def qbm.T5 : Bool × List (List Nat × List Nat):=(true,[([],[]),([],[]),([],[]),([2],[2]),([3],[3]),([1,4,4],[1,4]),([0,5,5],[0,5]),([6,6],[6])])
def qbm.B5 : List Nat:=[0,0,0,4,12,30,63,127]
theorem qbm.tab5 : rtab .any (opsOf Tryd.f21 5) = qbm.T5:=by kernel_rfl
theorem qbm.bits5 : qea qbm.T5.2 qbm.B5 = true:=by kernel_rfl
def qbm.T7 : Bool × List (List Nat × List Nat):=(true,[([],[]),([],[]),([],[]),([],[]),([2,3],[2,3]),([4],[4]),([],[]),([5,6],[5,6]),([0,1,0,1,2,3,4,5,6,7],[0,1]),([8,7,7,0,1,2,3,4,5,6,7],[7,8])])
def qbm.B7 : List Nat:=[0,0,0,0,12,28,0,124,255,511]
theorem qbm.tab7 : rtab .any (opsOf Tryd.f21 7) = qbm.T7:=by kernel_rfl
theorem qbm.bits7 : qea qbm.T7.2 qbm.B7 = true:=by kernel_rfl
open Go.Shelf
attribute [local go_sem] Oper.semAt_some
def withT (k : Nat) (ws : List Int) (d : Int) : List Int:=(qbr.f k ws d).getD []
def qds (k : Nat) (d : Int) (out : List S38) (n : Int) : List S38:=out.set n.toNat ⟨withT k (rd_T38 out n).f0 d⟩
def domSet (k : Nat) (a : Bool) (b : Int) (l : List S60) (all : List Int) (d : Int) : List Int:=(((qav.f k [d]).bind fun av=>(qcb.f k a b l 0 av).bind fun x=>qbs.f k all x)).getD []
def domOne (k : Nat) (a : Bool) (b : Int) (l : List S60) (all : List Int) (out : List S38) (d : Int) : List S38:=(els (domSet k a b l all d)).foldl (qds k d) out
def WithOk (k : Nat) (d : Int) : Prop:=∀ ws,setOk ws = true→∃ y,qbr.f k ws d = some y∧setOk y = true
theorem withT_ok {k : Nat} {d : Int} (h : WithOk k d) {ws : List Int} (hw : setOk ws = true) : qbr.f k ws d = some (withT k ws d)∧setOk (withT k ws d) = true:=by
  obtain ⟨y,h1,h2⟩:=h ws hw
  simp [withT,h1,h2]
def DomAt (k : Nat) (a : Bool) (b : Int) (l : List S60) (all : List Int) (d : Int) : Prop:=
  (∃ av x,qav.f k [d] = some av∧qcb.f k a b l 0 av = some x∧qbs.f k all x = some (domSet k a b l all d))∧setOk (domSet k a b l all d) = true∧(∀ n ∈ els (domSet k a b l all d),0≤n∧n < (l.length : Int))∧WithOk k d
def Dom (a : Bool) (b : Int) (l : List S60) (r : List S38) : Prop:=
  ∃ k all,qbz.f k a b l 0 = some all∧setOk all = true∧l.length≤4398046511104∧(∀ d ∈ els all,DomAt k a b l all d)∧r = (els all).foldl (domOne k a b l all) (List.replicate l.length ⟨[]⟩)
open Classical in
noncomputable def qbm.f (a : Bool) (b : Int) (l : List S60) : Option (List S38):=if h : ∃ r,Dom a b l r then some h.choose else none
theorem qbm.spec {a : Bool} {b : Int} {l : List S60} {r : List S38} (h : qbm.f a b l = some r) : Dom a b l r:=by
  unfold qbm.f at h
  split at h
  · rename_i hx
    injection h with h
    rw [← h]
    exact hx.choose_spec
  · cases h
def AllOk (n : Nat) (out : List S38) : Prop:=out.length = n∧∀ s ∈ out,setOk s.f0 = true
theorem rdOk {n : Nat} {out : List S38} (h : AllOk n out) {i : Int} (h0 : 0≤i) (h1 : i < (n : Int)) : setOk (rd_T38 out i).f0 = true:=by
  have hl : i.toNat < out.length:=by have:=h.1;omega
  have : rd_T38 out i = out[i.toNat]:=by simp [rd_T38,hl]
  rw [this]
  exact h.2 _ (List.getElem_mem hl)
theorem domStep_ok {k n : Nat} {d : Int} {out : List S38} {i : Int} (hw : WithOk k d) (h : AllOk n out) (h0 : 0≤i) (h1 : i < (n : Int)) : AllOk n (qds k d out i):=by
  refine ⟨by simp [qds,h.1],fun s hs=>?_⟩
  rcases List.mem_or_eq_of_mem_set hs with hs|rfl
  · exact h.2 s hs
  · exact (withT_ok hw (rdOk h h0 h1)).2
theorem info38_ : (Tryd.prog.info? 38).map (fun i=>(i.zero,i.size,i.bytes)) = some (some (.agg #[.slice none 0 0]),1,24):=by kernel_rfl
theorem makeSets (m : Nat) (hm : m * 24≤281474976710656) : ∀ W : World,(Instr.makeSlice 33 (.int .i64 (m : Int)) (.int .i64 (m : Int))).run Tryd.prog W = .ok (.slice (some ⟨W.heap.size,0,none⟩) m m) (W.alloc (.cells (madeCells #[.slice none 0 0] (m * 1)) 38)):=by
  intro W
  obtain ⟨i0,hi,hzz⟩:=Option.map_eq_some_iff.1 info38_
  simp only [Prod.mk.injEq] at hzz
  obtain ⟨hz0,hz1,hz2⟩:=hzz
  have hr:=run_make (P:=Tryd.prog) W 33 38 i0 (.agg #[.slice none 0 0]) Tryd.underlying33 hi hz0 .i64 .i64 (m : Int) (m : Int) (by omega) (by omega)
    (by
      have h3 : ((i0.bytes * m : Nat) : Int)≤281474976710656:=by rw [hz2,Nat.mul_comm];omega
      rwa [Int.natCast_mul] at h3) (by omega)
  simp only [Int.toNat_natCast] at hr
  rw [hz1] at hr
  exact hr
set_option maxRecDepth 100000 in
set_option maxHeartbeats 4000000 in
theorem qbm.calls (a0_0 : Bool) (a0_1 : Int) (A0_2 : Option Addr) (c0_2 : Nat) (l0_2 : List (S60)) (r : List S38) (w : World) (hT : TabW w) (hr0_2 : Kd.C k60 w A0_2 l0_2.length l0_2) (hc0_2 : l0_2.length≤c0_2) (h : qbm.f a0_0 a0_1 l0_2 = some r) :
    Calls Tryd.prog 21 #[.agg #[.bool a0_0,.int .i64 a0_1,.slice A0_2 l0_2.length c0_2]] w fun e w'=>∃ v0_ : Value,e = .returned v0_∧Kd.V k38 38 w' w.heap.size (fun k_=>(w.heap.size≤k_)) v0_ r∧Below w.heap.size w w':=by
  have hu24:=Tryd.underlying24
  have hu38:=Tryd.underlying38
  obtain ⟨k,all,hre,hok,hlen,hD,rfl⟩:=qbm.spec h
  clear h
  have HR0:=Aside0.mk hr0_2
  have HT:=Aside0.mk hT
  have HD:=Aside0.mk hD
  have HCR:=Aside0.mk (fun W (hW : Below w.heap.size w W)=>qbz.calls k a0_0 a0_1 A0_2 c0_2 l0_2 0 all W (hT.below' hW) (Kd.C_below hr0_2 hW) hc0_2 hre)
  clear hr0_2 hT hD hre
  have hmk:=makeSets l0_2.length (by omega)
  rw [Nat.mul_one] at hmk
  refine (callsIn_wide (n:=9)).1 ?_
  refine callsIn_of_wp_marks Tryd.func21 rfl trivial ?_ rfl
  simp only [Tryd.ntmps21,List.size_toArray,List.length_cons,List.length_nil,Nat.reduceAdd,Nat.reduceSub,Array.replicate_succ,Array.replicate_zero,List.push_toArray,List.append_toArray,List.nil_append,List.cons_append]
  gi_wp2
  refine ⟨trivial,?_⟩
  obtain ⟨W1,hW1⟩ : ∃ W1,((w.alloc (Obj.cells #[Value.bool a0_0,Value.int IntKind.i64 a0_1,Value.slice A0_2 l0_2.length c0_2] 24)).alloc (Obj.cells (madeCells #[Value.slice none 0 0] l0_2.length) 38)).alloc (Obj.cells #[Value.slice (some ⟨w.heap.size + 1,0,none⟩) l0_2.length l0_2.length] 33) = W1:=⟨_,rfl⟩
  have hsz1 : W1.heap.size = w.heap.size + 3:=by rw [← hW1];simp
  have hB1 : Below w.heap.size w W1:=by rw [← hW1];exact (((Below.refl _ w).alloc (Nat.le_refl _) _).alloc (by simp) _).alloc (by simp;omega) _
  have b24 : W1.heap[w.heap.size]? = some (.cells #[Value.bool a0_0,Value.int IntKind.i64 a0_1,Value.slice A0_2 l0_2.length c0_2] 24 (0,0)):=by rw [← hW1];exact qcm (qcm (World.alloc_heap_new w _) _) _
  have bO : W1.heap[w.heap.size + 1]? = some (.cells (madeCells #[Value.slice none 0 0] l0_2.length) 38 (0,0)):=by rw [← hW1];have:=World.alloc_heap_new (w.alloc (Obj.cells #[Value.bool a0_0,Value.int IntKind.i64 a0_1,Value.slice A0_2 l0_2.length c0_2] 24)) (Obj.cells (madeCells #[Value.slice none 0 0] l0_2.length) 38);rw [World.size_alloc] at this;exact qcm this _
  have b33 : W1.heap[w.heap.size + 1 + 1]? = some (.cells #[Value.slice (some ⟨w.heap.size + 1,0,none⟩) l0_2.length l0_2.length] 33 (0,0)):=by rw [← hW1];have:=World.alloc_heap_new ((w.alloc (Obj.cells #[Value.bool a0_0,Value.int IntKind.i64 a0_1,Value.slice A0_2 l0_2.length c0_2] 24)).alloc (Obj.cells (madeCells #[Value.slice none 0 0] l0_2.length) 38)) (Obj.cells #[Value.slice (some ⟨w.heap.size + 1,0,none⟩) l0_2.length l0_2.length] 33);rw [World.size_alloc,World.size_alloc] at this;exact this
  have hN : Kd.N k38 38 W1 w.heap.size (fun k=>w.heap.size≤k∧IsC W1 k) (.slice (some ⟨w.heap.size + 1,0,none⟩) l0_2.length l0_2.length) (List.replicate l0_2.length ⟨[]⟩):=by
    have h1:=World.ownsRow_lit (base:=w.heap.size) (e:=38) (size:=1) (w.alloc (Obj.cells #[Value.bool a0_0,Value.int .i64 a0_1,.slice A0_2 l0_2.length c0_2] 24)) (madeCells #[.slice none 0 0] l0_2.length) l0_2.length (by simp) (by simp [maxLen];omega) (by simp [size_madeCells])
    have h2:=Kd.reps_made (R:=k38.M ((w.alloc (Obj.cells #[Value.bool a0_0,Value.int .i64 a0_1,.slice A0_2 l0_2.length c0_2] 24)).alloc (Obj.cells (madeCells #[Value.slice none 0 0] l0_2.length) 38)) w.heap.size (fun k=>w.heap.size≤k∧some k≠(Value.slice (some ⟨w.heap.size + 1,0,none⟩) l0_2.length l0_2.length).ownBlock)) (z:=.slice none 0 0) (size:=1) (z0:=(⟨[]⟩ : S38)) rfl (by decide) (k38_mkM _ _ _ _ (Kd.R_nil _ _ _ _ _)) l0_2.length
    rw [World.size_alloc] at h1
    rw [Nat.mul_one] at h2
    have h3 : Kd.R k38 38 _ w.heap.size (fun k=>w.heap.size≤k) (.slice (some ⟨w.heap.size + 1,0,none⟩) l0_2.length l0_2.length) (List.replicate l0_2.length ⟨[]⟩):=⟨fun k hk=>by simp [Value.ownBlock] at hk;omega,_,by rw [List.length_replicate];exact h1,h2⟩
    have h4:=Kd.N_alloc (Kd.R_N (Kd.R_bound h3)) (Obj.cells #[Value.slice (some ⟨w.heap.size + 1,0,none⟩) l0_2.length l0_2.length] 33)
    rw [hW1] at h4
    refine Kd.N_mono h4 (fun k hk=>⟨hk.1,?_⟩)
    obtain ⟨_,_,hlt,q,_,cells,hc⟩:=hk
    exact ⟨cells,q,(0,0),by rw [← hW1];exact qcm hc _⟩
  rw [hW1]
  refine (callsIn_wide.2 (HCR.out W1 hB1)).mono ?_
  rintro e W2 ⟨v2,rfl,hV,hB2⟩
  obtain ⟨Aa,ca,rfl⟩:=Kd.V_slice hV
  have hca:=(Kd.V_reads' hV).2.1
  have hFA : Kd.F (Kd.int .u64) W2 (fun k=>(W1.heap.size≤k∧k < W2.heap.size)∧IsC W2 k) Aa all.length all:=Kd.F_mono (F_int_cells (Kd.F_bound (Kd.V_F hV))) (fun k hk=>hk)
  have hs12:=hB2.size
  replace hN:=N_belowC hN hB2
  replace b24:=(hB2.block _ (by omega)).trans b24
  replace b33:=(hB2.block _ (by omega)).trans b33
  have hBw2:=hB1.trans (hB2.mono (by omega))
  clear hW1 bO hV HCR hmk hB1 hB2
  gi_wp2
  refine ⟨trivial,?_⟩
  refine (callsIn_wide.2 (qcp.calls_in _ _)).mono ?_
  rintro e W3 ⟨rfl,hW3⟩
  gi_wp2
  rw [← hW3]
  have hs3 : W3.heap.size = W2.heap.size + 2:=by rw [hW3];simp
  have hB23 : Below W2.heap.size W2 W3:=by rw [hW3];exact ((Below.refl _ W2).alloc (Nat.le_refl _) _).alloc (by simp) _
  have b38 : W3.heap[W2.heap.size]? = some (.cells #[Value.slice Aa all.length ca] 38 (0,0)):=by rw [hW3];exact qcm (World.alloc_heap_new W2 _) _
  have b52 : W3.heap[W2.heap.size + 1]? = some (.cells #[Value.slice Aa all.length ca] 38 (0,0)):=by
    rw [hW3]
    have:=World.alloc_heap_new (W2.alloc (Obj.cells #[Value.slice Aa all.length ca] 38)) (Obj.cells #[Value.slice Aa all.length ca] 38)
    rwa [World.size_alloc] at this
  replace hN:=N_belowC hN hB23
  replace b24:=(hB23.block _ (by omega)).trans b24
  replace b33:=(hB23.block _ (by omega)).trans b33
  have hBw3:=hBw2.trans (hB23.mono (by omega))
  have hFA3 : Kd.F (Kd.int .u64) W3 (fun k=>(W1.heap.size≤k∧k < W2.heap.size)∧IsC W3 k) Aa all.length all:=F_belowC hFA hB23
  have hT0:=HT.out.2.1
  clear hW3 hB23 hFA hBw2
  refine wpIn_rangeFunc_ownH (w0:=W3) rfl (by decide) (gf:=76) (lb:=#[.pointer (some ⟨W2.heap.size + 1,0,none⟩)]) rfl trivial (enters_of Tryd.func76 (by kernel_rfl) rfl)
    (qcp.stops _ (W2.heap.size + 1) (But W3.heap.size (w.heap.size + 1)) (But.refl _ _) But.trans Aa ca all W3 (fun hb h=>(But.of_below hb (Nat.le_refl _)).trans h) hok (by omega) (fun W' h=>But.tab (HT.out.below' hBw3) (by omega) (by omega) h) (cellOf b52 0 rfl) (fun W' h=>Kd.F_now (Kd.F_step hFA3 (fun k hk hlt=>h.2 k hlt (by omega))))) But.trans (fun W l o o' hl _ _ _=>But.putObj W _ hl) (Below.refl _ _) (fun _=>rfl)
    (fun pre W=>((Kd.N k38 38 W w.heap.size (fun k=>w.heap.size≤k∧IsC W k) (.slice (some ⟨w.heap.size + 1,0,none⟩) l0_2.length l0_2.length) ((pre.map (·.1)).foldl (domOne k a0_0 a0_1 l0_2 all) (List.replicate l0_2.length ⟨[]⟩))∧W.heap[w.heap.size]? = some (.cells #[Value.bool a0_0,Value.int IntKind.i64 a0_1,Value.slice A0_2 l0_2.length c0_2] 24 (0,0))∧W.heap[w.heap.size + 1 + 1]? = some (.cells #[Value.slice (some ⟨w.heap.size + 1,0,none⟩) l0_2.length l0_2.length] 33 (0,0))∧W.heap[W2.heap.size]? = some (.cells #[Value.slice Aa all.length ca] 38 (0,0))∧Kd.F (Kd.int .u64) W (fun k=>(W1.heap.size≤k∧k < W2.heap.size)∧IsC W k) Aa all.length all)∧AllOk l0_2.length ((pre.map (·.1)).foldl (domOne k a0_0 a0_1 l0_2 all) (List.replicate l0_2.length ⟨[]⟩)))∧(Below w.heap.size w W∧W3.heap.size≤W.heap.size))
    (fun _ _ _=>False)
    (OwnFrom.and (Own.from (fun s A B row hs hg hr=>⟨⟨N_rowC hg hr hs.1.1,qeb hg hr hs.1.2.1,qeb hg hr hs.1.2.2.1,qeb hg hr hs.1.2.2.2.1,F_rowC hg hr hs.1.2.2.2.2⟩,hs.2⟩) _) (OwnFrom.and (ownFrom_below (Nat.le_refl _) (by omega)) (fun _ _ _ _ hs hg _=>Nat.le_trans hs hg.size)))
    (fun _ _ _ _ _ hs _ _=>hs)
    ⟨⟨⟨hN,b24,b33,b38,hFA3⟩,by simp,fun s hs=>by obtain rfl:=(List.mem_replicate.1 hs).2;rfl⟩,hBw3,Nat.le_refl _⟩
    (fun x a' W=>∃ Bx,W3.heap.size≤Bx∧W.heap[Bx]? = some (.cells #[.int .i64 x.1] 3 (0,0))∧a' = { tmps:=#[Value.agg #[Value.bool a0_0,Value.int IntKind.i64 a0_1,Value.slice A0_2 l0_2.length c0_2],.pointer (some ⟨w.heap.size,0,none⟩),.slice none 0 0,.pointer (some ⟨w.heap.size + 1 + 1,0,none⟩),.pointer (some ⟨W2.heap.size,0,none⟩),.pointer (some ⟨Bx,0,none⟩),undef,.pointer (some ⟨w.heap.size,2,none⟩),.slice A0_2 l0_2.length c0_2,.int .i64 l0_2.length,.slice (some ⟨w.heap.size + 1,0,none⟩) l0_2.length l0_2.length,Value.agg #[Value.bool a0_0,Value.int IntKind.i64 a0_1,Value.slice A0_2 l0_2.length c0_2],.agg #[.slice Aa all.length ca],.agg #[.slice Aa all.length ca],.func (.func 76) #[] #[.pointer (some ⟨W2.heap.size + 1,0,none⟩)],.int .i64 x.1,undef,undef,undef,undef,undef,undef,undef,undef,undef,undef,undef,undef,undef,undef,undef,undef,undef,undef,undef],defers:=[] })
    (fun x a' _ X Y row hs hg hr=>by obtain ⟨Bx,h1,h2,h3⟩:=hs;exact ⟨Bx,h1,qeb hg (fun r e=>(hr r e).2) h2,h3⟩)
    ?assign ?body ?done ?stop
  case assign=>
    rintro l pre x W K ⟨⟨⟨hN1,b24,b33,b38,hF1⟩,hAO⟩,hB,hsW⟩ hK
    gi_wp2
    have hbl : Below W.heap.size W (W.alloc (.cells #[.int .i64 x.1] 3)):=(Below.refl _ W).alloc (Nat.le_refl _) _
    exact hK _ _ ((KeepsOthers.alloc _ _).from _) (But.of_below hbl hsW) ⟨⟨⟨N_belowC hN1 hbl,qcm b24 _,qcm b33 _,qcm b38 _,F_belowC hF1 hbl⟩,hAO⟩,hB.alloc hB.size _,by simp;omega⟩ ⟨W.heap.size,hsW,World.alloc_heap_new W _,rfl⟩
  case body=>
    rintro l pre x a' W hl ⟨r,hr⟩ ⟨⟨⟨hN1,b24,b33,b38,hF1⟩,hAO⟩,hB,hsW⟩ ⟨Bx,hBx,bX,rfl⟩ hlt
    obtain ⟨⟨av,xv,hav,hxv,hmv⟩,hmok,hmn,hWO⟩:=HD.out x.1 x.2
    obtain ⟨m,hm⟩ : ∃ m,domSet k a0_0 a0_1 l0_2 all x.1 = m:=⟨_,rfl⟩
    rw [hm] at hmv hmok hmn
    have hSt : ∀ W',Below W.heap.size W W'→(W'.cell? ⟨W2.heap.size,0,none⟩ = some (.slice Aa all.length ca)∧W'.cell? ⟨w.heap.size,0,none⟩ = some (.bool a0_0)∧W'.cell? ⟨w.heap.size,1,none⟩ = some (.int .i64 a0_1)∧W'.cell? ⟨w.heap.size,2,none⟩ = some (.slice A0_2 l0_2.length c0_2)∧W'.cell? ⟨Bx,0,none⟩ = some (.int .i64 x.1)):=fun W' hb=>
      ⟨cellOf ((hb.block _ (blk_lt b38)).trans b38) 0 rfl,cellOf ((hb.block _ (blk_lt b24)).trans b24) 0 rfl,cellOf ((hb.block _ (blk_lt b24)).trans b24) 1 rfl,cellOf ((hb.block _ (blk_lt b24)).trans b24) 2 rfl,cellOf ((hb.block _ (blk_lt bX)).trans bX) 0 rfl⟩
    refine wpIn_block ?_
    refine wpIn_seq_k (fun K hKs=>?_)
    refine startIn_ (m:=8) (S:=fun W'=>W'.cell? ⟨W2.heap.size,0,none⟩ = some (.slice Aa all.length ca)∧W'.cell? ⟨w.heap.size,0,none⟩ = some (.bool a0_0)∧W'.cell? ⟨w.heap.size,1,none⟩ = some (.int .i64 a0_1)∧W'.cell? ⟨w.heap.size,2,none⟩ = some (.slice A0_2 l0_2.length c0_2)∧W'.cell? ⟨Bx,0,none⟩ = some (.int .i64 x.1)) (ds:=[]) #[false,false,false,false,false,false,false,false] (by kernel_rfl) rfl rfl rfl (fun hh=>by obtain ⟨_,_,hh⟩:=hh;exact hh) (hSt _ (qdb (Below.refl _ _))) (fun hHeld=>?_);refine qdl qbm.tab5 qbm.bits5 (fun HT_ HW_=>?_)
    obtain ⟨Wd,hWd⟩ : ∃ Wd,W.drew = Wd:=⟨_,rfl⟩
    have hbd : Below W.heap.size W Wd:=by rw [← hWd];exact qdb (Below.refl _ _)
    have hsd : Wd.heap.size = W.heap.size:=by rw [← hWd];rfl
    rw [hWd] at hHeld ⊢
    refine take_ (i:=0) (N:=some 16) (v:=?_) (a':=?_) #[true,false,false,false,false,false,false,false] rfl rfl (qcf HT_.out HW_.out (by kernel_rfl)) (fun _ _ _ h=>h) (Or.inl ⟨by rfl,?_⟩) hHeld ?_ ?_
    rotate_left
    · rintro w' ⟨s0,s1,s2,s3,s4⟩
      go_simp
      with_reducible rfl
    rotate_left
    · simp only [Act.put,List.setIfInBounds_toArray,List.set_cons_zero,List.set_cons_succ,i64_w,i32_w]
      rfl
    refine take_ (i:=1) (N:=some 17) (v:=?_) (a':=?_) #[true,true,false,false,false,false,false,false] rfl rfl (qcf HT_.out HW_.out (by kernel_rfl)) (fun _ _ _ h=>h) (Or.inl ⟨by rfl,?_⟩) hHeld ?_ ?_
    rotate_left
    · rintro w' ⟨s0,s1,s2,s3,s4⟩
      go_simp
      with_reducible rfl
    rotate_left
    · simp only [Act.put,List.setIfInBounds_toArray,List.set_cons_zero,List.set_cons_succ,i64_w,i32_w]
      rfl
    refine take_ (i:=2) (N:=some 18) (v:=?_) (a':=?_) #[true,true,true,false,false,false,false,false] rfl rfl (qcf HT_.out HW_.out (by kernel_rfl)) (fun _ _ _ h=>h) (Or.inl ⟨by rfl,?_⟩) hHeld ?_ ?_
    rotate_left
    · rintro w' ⟨s0,s1,s2,s3,s4⟩
      go_simp
      with_reducible rfl
    rotate_left
    · simp only [Act.put,List.setIfInBounds_toArray,List.set_cons_zero,List.set_cons_succ,i64_w,i32_w]
      rfl
    refine one_ (i:=3) (N:=some 19) #[true,true,true,true,false,false,false,false] rfl rfl (one_of HT_.out (by kernel_rfl)) (by decide) (fun K hK=>?_)
    refine value_ (v:=.slice (some ⟨Wd.heap.size,0,none⟩) 1 1) (w1:=Wd.alloc (.cells #[.int .i64 x.1] 3)) (by rfl) rfl ?_ ?_
    · go_simp
    obtain ⟨X3,hX3⟩ : ∃ X3,Wd.alloc (.cells #[.int .i64 x.1] 3) = X3:=⟨_,rfl⟩
    have hC3:=C_one Wd x.1 3
    have hb3 : Below W.heap.size W X3:=by rw [← hX3];exact hbd.alloc (by omega) _
    rw [hX3] at hC3 ⊢
    refine hK.out _ _ (hSt _ hb3) (fun hHeld=>?_)
    clear hK K
    refine norm_ (a':=?_) ?_ ?_
    rotate_left
    · show Act.put _ (some 19) _ = _
      simp only [Act.put,List.setIfInBounds_toArray,List.set_cons_zero,List.set_cons_succ,i64_w,i32_w]
      rfl
    refine one_ (i:=4) (N:=some 20) #[true,true,true,true,true,false,false,false] rfl rfl (one_of HT_.out (by kernel_rfl)) (by decide) (fun K hK=>?_)
    refine goes_ Tryd.func34 (by kernel_rfl) rfl #[.slice (some ⟨Wd.heap.size,0,none⟩) 1 1] (by rfl) rfl rfl (by (try simp only [List.map_toArray,List.map_cons,List.map_nil]);rfl) ?_
    refine (qav.calls k (some ⟨Wd.heap.size,0,none⟩) 1 [x.1] av X3 hC3 (Nat.le_refl _) hav).mono ?_
    rintro e X4 ⟨v4,rfl,hV4,hb4⟩
    refine ⟨_,rfl,?_⟩
    obtain ⟨A4,c4,rfl⟩:=Kd.V_slice hV4
    have hC4:=Kd.V_reads' hV4
    have hb4':=hb3.trans (hb4.mono hb3.size)
    clear hX3 hC3 hV4 hb4
    refine hK.out _ _ (hSt _ hb4') (fun hHeld=>?_)
    clear hK K
    refine norm_ (a':=?_) ?_ ?_
    rotate_left
    · show Act.put _ (some 20) _ = _
      simp only [Act.put,List.setIfInBounds_toArray,List.set_cons_zero,List.set_cons_succ,i64_w,i32_w]
      rfl
    refine one_ (i:=5) (N:=some 21) #[true,true,true,true,true,true,false,false] rfl rfl (one_of HT_.out (by kernel_rfl)) (by decide) (fun K hK=>?_)
    refine goes_ Tryd.func54 (by kernel_rfl) rfl #[Value.agg #[Value.bool a0_0,Value.int IntKind.i64 a0_1,Value.slice A0_2 l0_2.length c0_2],.int .i64 0,.agg #[.slice A4 av.length c4]] (by rfl) rfl rfl (by (try simp only [List.map_toArray,List.map_cons,List.map_nil]);rfl) ?_
    refine (qcb.calls k a0_0 a0_1 A0_2 c0_2 l0_2 0 A4 c4 av xv X4 (HT.out.below' (hB.trans (hb4'.mono hB.size))) (Kd.C_below HR0.out (hB.trans (hb4'.mono hB.size))) hc0_2 hC4.2.2 hC4.2.1 hxv).mono ?_
    rintro e X5 ⟨v5,rfl,hV5,hb5⟩
    refine ⟨_,rfl,?_⟩
    obtain ⟨A5,c5,rfl⟩:=Kd.V_slice hV5
    have hC5:=Kd.V_reads' hV5
    have hb5':=hb4'.trans (hb5.mono hb4'.size)
    clear hC4 hV5 hb5 hb4'
    refine hK.out _ _ (hSt _ hb5') (fun hHeld=>?_)
    clear hK K
    refine norm_ (a':=?_) ?_ ?_
    rotate_left
    · show Act.put _ (some 21) _ = _
      simp only [Act.put,List.setIfInBounds_toArray,List.set_cons_zero,List.set_cons_succ,i64_w,i32_w]
      rfl
    refine one_ (i:=6) (N:=some 22) #[true,true,true,true,true,true,true,false] rfl rfl (one_of HT_.out (by kernel_rfl)) (by decide) (fun K hK=>?_)
    refine goes_ Tryd.func53 (by kernel_rfl) rfl #[.agg #[.slice Aa all.length ca],.agg #[.slice A5 xv.length c5]] (by rfl) rfl rfl (by (try simp only [List.map_toArray,List.map_cons,List.map_nil]);rfl) ?_
    refine (qbs.calls k Aa ca all A5 c5 xv m X5 (Kd.C_below (Kd.F_now hF1) hb5') hca hC5.2.2 hC5.2.1 hmv).mono ?_
    rintro e X6 ⟨v6,rfl,hV6,hb6⟩
    refine ⟨_,rfl,?_⟩
    obtain ⟨A6,c6,rfl⟩:=Kd.V_slice hV6
    have hF6 : Kd.F (Kd.int .u64) X6 (fun k=>X5.heap.size≤k∧IsC X6 k) A6 m.length m:=F_int_cells (Kd.V_F hV6)
    have hs5:=hb5'.size
    have hb6':=hb5'.trans (hb6.mono hb5'.size)
    clear hC5 hV6 hb6 hb5'
    refine hK.out _ _ (hSt _ hb6') (fun hHeld=>?_)
    clear hK K
    refine norm_ (a':=?_) ?_ ?_
    rotate_left
    · show Act.put _ (some 22) _ = _
      simp only [Act.put,List.setIfInBounds_toArray,List.set_cons_zero,List.set_cons_succ,i64_w,i32_w]
      rfl
    refine one_ (i:=7) (N:=some 23) #[true,true,true,true,true,true,true,true] rfl rfl (one_of HT_.out (by kernel_rfl)) (by decide) (fun K hK=>?_)
    refine goes_ Tryd.func52 (by kernel_rfl) rfl #[.agg #[.slice A6 m.length c6]] (by rfl) rfl rfl (by (try simp only [List.map_toArray,List.map_cons,List.map_nil]);rfl) ?_
    refine (qcp.calls_in (.slice A6 m.length c6) X6).mono ?_
    rintro e X7 ⟨rfl,hX7⟩
    refine ⟨_,rfl,?_⟩
    have hb7 : Below X6.heap.size X6 X7:=by rw [hX7];exact (Below.refl _ _).alloc (Nat.le_refl _) _
    have hs7 : X7.heap.size = X6.heap.size + 1:=by rw [hX7];simp
    have b7 : X7.heap[X6.heap.size]? = some (.cells #[.slice A6 m.length c6] 38 (0,0)):=by rw [hX7];exact World.alloc_heap_new X6 _
    have hb7':=hb6'.trans (hb7.mono hb6'.size)
    replace hF6:=F_belowC hF6 hb7
    have hs6:=hb6'.size
    clear hX7 hb7 hb6'
    refine hK.out _ _ (hSt _ hb7') (fun hHeld=>?_)
    clear hK K
    refine norm_ (a':=?_) ?_ ?_
    rotate_left
    · show Act.put _ (some 23) _ = _
      simp only [Act.put,List.setIfInBounds_toArray,List.set_cons_zero,List.set_cons_succ,i64_w,i32_w]
      rfl
    refine done_ (done_of HT_.out (by kernel_rfl)) ?_
    refine hKs _ _ ?_
    clear hKs K HT_ HW_ hHeld
    have hs07:=hb7'.size
    have hNx:=N_belowC hN1 hb7'
    have hFx:=F_belowC hF1 hb7'
    have b24x:=(hb7'.block _ (blk_lt b24)).trans b24
    have b33x:=(hb7'.block _ (blk_lt b33)).trans b33
    have b38x:=(hb7'.block _ (blk_lt b38)).trans b38
    have bXx:=(hb7'.block _ (blk_lt bX)).trans bX
    have hr':=(hb7'.block l (Array.getElem?_eq_some_iff.1 hr).1).trans hr
    have hT7:=HT.out.below' (hB.trans (hb7'.mono hB.size))
    have hB7:=hB.trans (hb7'.mono hB.size)
    have hBt : But W3.heap.size (w.heap.size + 1) W X7:=But.of_below hb7' hsW
    have hKo : KeepsFrom W3.heap.size W X7:=(keeps_below hb7').from _
    have hF6n:=hF6
    obtain ⟨out,hout⟩ : ∃ out,(pre.map (·.1)).foldl (domOne k a0_0 a0_1 l0_2 all) (List.replicate l0_2.length ⟨[]⟩) = out:=⟨_,rfl⟩
    rw [hout] at hNx hAO
    clear hN1 hF1 b24 b33 b38 bX hr hb7' hSt hav hxv hmv hF6
    refine wpIn_block ?_
    refine wpIn_rangeFunc_ownN (w0:=X7) (l₀:=l) (r₀:=r) rfl hr' (by decide) (gf:=76) (lb:=#[.pointer (some ⟨X6.heap.size,0,none⟩)]) rfl trivial (enters_of Tryd.func76 (by kernel_rfl) rfl)
      ((qcp.stops _ X6.heap.size (But X7.heap.size (w.heap.size + 1)) (But.refl _ _) But.trans A6 c6 m X7 (fun hb h=>(But.of_below hb (Nat.le_refl _)).trans h) hmok (by omega) (fun W' h=>But.tab hT7 (by omega) (by omega) h) (cellOf b7 0 rfl) (fun W' h=>Kd.F_now (Kd.F_step hF6n (fun k hk hlt=>h.2 k hlt (by omega))))).inRound l) But.trans (fun W l o o' hl _ _ _=>But.putObj W _ hl) (Below.refl _ _) (fun _=>rfl)
      (fun pre' W'=>((Kd.N k38 38 W' w.heap.size (fun k=>w.heap.size≤k∧IsC W' k) (.slice (some ⟨w.heap.size + 1,0,none⟩) l0_2.length l0_2.length) ((pre'.map (·.1)).foldl (qds k x.1) out)∧W'.heap[w.heap.size]? = some (.cells #[Value.bool a0_0,Value.int IntKind.i64 a0_1,Value.slice A0_2 l0_2.length c0_2] 24 (0,0))∧W'.heap[w.heap.size + 1 + 1]? = some (.cells #[Value.slice (some ⟨w.heap.size + 1,0,none⟩) l0_2.length l0_2.length] 33 (0,0))∧W'.heap[W2.heap.size]? = some (.cells #[Value.slice Aa all.length ca] 38 (0,0))∧W'.heap[Bx]? = some (.cells #[.int .i64 x.1] 3 (0,0))∧Kd.F (Kd.int .u64) W' (fun k=>(W1.heap.size≤k∧k < W2.heap.size)∧IsC W' k) Aa all.length all)∧AllOk l0_2.length ((pre'.map (·.1)).foldl (qds k x.1) out))∧(((Below w.heap.size w W'∧X7.heap.size≤W'.heap.size)∧But W3.heap.size (w.heap.size + 1) W W')∧KeepsFrom W3.heap.size W W'))
      (fun _ _ _=>False)
      (OwnFrom.and (Own.from (fun s A B row hs hg hr=>⟨⟨N_rowC hg hr hs.1.1,qeb hg hr hs.1.2.1,qeb hg hr hs.1.2.2.1,qeb hg hr hs.1.2.2.2.1,qeb hg hr hs.1.2.2.2.2.1,F_rowC hg hr hs.1.2.2.2.2.2⟩,hs.2⟩) _) (OwnFrom.and (OwnFrom.and (OwnFrom.and (ownFrom_below (Nat.le_refl _) (by omega)) (fun _ _ _ _ hs hg _=>Nat.le_trans hs hg.size)) (ownFrom_but hsW (by omega))) (ownFrom_keepsFrom (by omega))))
      (fun _ _ _ _ _ hs _ _=>hs)
      ⟨⟨⟨hNx,b24x,b33x,b38x,bXx,hFx⟩,hAO⟩,⟨⟨hB7,Nat.le_refl _⟩,hBt⟩,hKo⟩
      (fun y a'' _=>a'' = { tmps:=#[Value.agg #[Value.bool a0_0,Value.int IntKind.i64 a0_1,Value.slice A0_2 l0_2.length c0_2],.pointer (some ⟨w.heap.size,0,none⟩),.slice none 0 0,.pointer (some ⟨w.heap.size + 1 + 1,0,none⟩),.pointer (some ⟨W2.heap.size,0,none⟩),.pointer (some ⟨Bx,0,none⟩),.int .i64 y.1,.pointer (some ⟨w.heap.size,2,none⟩),.slice A0_2 l0_2.length c0_2,.int .i64 l0_2.length,.slice (some ⟨w.heap.size + 1,0,none⟩) l0_2.length l0_2.length,Value.agg #[Value.bool a0_0,Value.int IntKind.i64 a0_1,Value.slice A0_2 l0_2.length c0_2],.agg #[.slice Aa all.length ca],.agg #[.slice Aa all.length ca],.func (.func 76) #[] #[.pointer (some ⟨W2.heap.size + 1,0,none⟩)],.int .i64 x.1,.agg #[.slice Aa all.length ca],Value.agg #[Value.bool a0_0,Value.int IntKind.i64 a0_1,Value.slice A0_2 l0_2.length c0_2],.int .i64 x.1,.slice (some ⟨Wd.heap.size,0,none⟩) 1 1,.agg #[.slice A4 av.length c4],.agg #[.slice A5 xv.length c5],.agg #[.slice A6 m.length c6],.func (.func 76) #[] #[.pointer (some ⟨X6.heap.size,0,none⟩)],.int .i64 y.1,undef,undef,undef,undef,undef,undef,undef,undef,undef,undef],defers:=[] })
      (fun _ _ _ _ _ _ hs _ _=>hs)
      ?assign2 ?body2 ?done2 ?stop2
    case assign2=>
      rintro l2 pre' y W' K hi hK
      gi_wp2
      exact hK _ _ (KeepsFrom.refl _ _) (But.refl _ _ _) hi (by rw [hsd])
    case body2=>
      rintro l2 pre' y a'' W' _ _ ⟨⟨⟨hN2,b24,b33,b38,bX,hF2⟩,hAO2⟩,⟨⟨hB2,hs2⟩,hBt2⟩,hKF2⟩ rfl _
      obtain ⟨hy0,hy1⟩:=hmn y.1 y.2
      obtain ⟨outj,houtj⟩ : ∃ outj,(pre'.map (·.1)).foldl (qds k x.1) out = outj:=⟨_,rfl⟩
      rw [houtj] at hN2 hAO2
      obtain ⟨hw1,hw2⟩:=withT_ok hWO (rdOk hAO2 hy0 hy1)
      obtain ⟨cc,hcl,hFK,hcc,hfr⟩:=Kd.N_elem hN2 (⟨[]⟩ : S38) y.1 hy0 hy1
      obtain ⟨An,cn,rfl,hcn,hFn⟩:=k38_openF hFK
      have hxc:=hcc 0 _ rfl
      have hxf:=hfr 0
      obtain ⟨wn,hwn⟩ : ∃ wn,(rd_T38 outj y.1).f0 = wn:=⟨_,rfl⟩
      have hwn' : (outj.getD y.1.toNat (⟨[]⟩ : S38)).f0 = wn:=hwn
      rw [hwn'] at hcn hFn hxc hcc
      rw [hwn] at hw1 hw2
      obtain ⟨wx,hwx⟩ : ∃ wx,withT k wn x.1 = wx:=⟨_,rfl⟩
      rw [hwx] at hw1 hw2
      simp only [show k38.sz = 1 from rfl,Nat.mul_one,Nat.add_zero] at hxc hxf hcc
      have hSt : ∀ Y,Below W'.heap.size W' Y→(Y.cell? ⟨w.heap.size + 1 + 1,0,none⟩ = some (.slice (some ⟨w.heap.size + 1,0,none⟩) l0_2.length l0_2.length)∧Y.cell? ⟨w.heap.size + 1,y.1.toNat,none⟩ = some (.slice An wn.length cn)∧Y.cell? ⟨Bx,0,none⟩ = some (.int .i64 x.1)):=fun Y hb=>
        ⟨cellOf ((hb.block _ (blk_lt b33)).trans b33) 0 rfl,(World.cell?_of_block (w:=W') (hb.block _ (World.block_lt_of_cell? _ _ hxc))).trans hxc,cellOf ((hb.block _ (blk_lt bX)).trans bX) 0 rfl⟩
      refine wpIn_block ?_
      refine startIn_ (m:=10) (S:=fun Y=>Y.cell? ⟨w.heap.size + 1 + 1,0,none⟩ = some (.slice (some ⟨w.heap.size + 1,0,none⟩) l0_2.length l0_2.length)∧Y.cell? ⟨w.heap.size + 1,y.1.toNat,none⟩ = some (.slice An wn.length cn)∧Y.cell? ⟨Bx,0,none⟩ = some (.int .i64 x.1)) (ds:=[9]) #[false,false,false,false,false,false,false,false,false,false] (by kernel_rfl) rfl rfl rfl (fun hh=>by obtain ⟨_,_,hh⟩:=hh;exact hh) (hSt _ (qdb (Below.refl _ _))) (fun hHeld=>?_);refine qdl qbm.tab7 qbm.bits7 (fun HT_ HW_=>?_)
      obtain ⟨Y0,hY0⟩ : ∃ Y0,W'.drew = Y0:=⟨_,rfl⟩
      have hb0 : Below W'.heap.size W' Y0:=by rw [← hY0];exact qdb (Below.refl _ _)
      rw [hY0] at hHeld ⊢
      refine take_ (i:=0) (N:=some 25) (v:=?_) (a':=?_) #[true,false,false,false,false,false,false,false,false,false] rfl rfl (qcf HT_.out HW_.out (by kernel_rfl)) (fun _ _ _ h=>h) (Or.inl ⟨by rfl,?_⟩) hHeld ?_ ?_
      rotate_left
      · rintro w' ⟨s0,s1,s2⟩
        go_simp
        with_reducible rfl
      rotate_left
      · simp only [Act.put,List.setIfInBounds_toArray,List.set_cons_zero,List.set_cons_succ,i64_w,i32_w]
        rfl
      refine pure_ (i:=1) (N:=some 26) (v:=?_) (a':=?_) #[true,true,false,false,false,false,false,false,false,false] rfl rfl (any_of HT_.out (by kernel_rfl)) (fun _ _ _ h=>h) (Or.inl ⟨by rfl,?_⟩) ?_ ?_
      rotate_left
      · intro w'
        go_simp
        with_reducible rfl
      rotate_left
      · simp only [Act.put,List.setIfInBounds_toArray,List.set_cons_zero,List.set_cons_succ,i64_w,i32_w]
        rfl
      refine take_ (i:=2) (N:=some 27) (v:=?_) (a':=?_) #[true,true,true,false,false,false,false,false,false,false] rfl rfl (qcf HT_.out HW_.out (by kernel_rfl)) (fun _ _ _ h=>h) (Or.inl ⟨by rfl,?_⟩) hHeld ?_ ?_
      rotate_left
      · rintro w' ⟨s0,s1,s2⟩
        go_simp
        with_reducible rfl
      rotate_left
      · simp only [Act.put,List.setIfInBounds_toArray,List.set_cons_zero,List.set_cons_succ,i64_w,i32_w]
        rfl
      refine pure_ (i:=3) (N:=some 28) (v:=?_) (a':=?_) #[true,true,true,true,false,false,false,false,false,false] rfl rfl (any_of HT_.out (by kernel_rfl)) (fun _ _ _ h=>h) (Or.inl ⟨by rfl,?_⟩) ?_ ?_
      rotate_left
      · intro w'
        go_simp
        with_reducible rfl
      rotate_left
      · simp only [Act.put,List.setIfInBounds_toArray,List.set_cons_zero,List.set_cons_succ,i64_w,i32_w]
        rfl
      refine pure_ (i:=4) (N:=some 29) (v:=?_) (a':=?_) #[true,true,true,true,true,false,false,false,false,false] rfl rfl (any_of HT_.out (by kernel_rfl)) (fun _ _ _ h=>h) (Or.inl ⟨by rfl,?_⟩) ?_ ?_
      rotate_left
      · intro w'
        go_simp
        with_reducible rfl
      rotate_left
      · simp only [Act.put,List.setIfInBounds_toArray,List.set_cons_zero,List.set_cons_succ,i64_w,i32_w]
        rfl
      refine take_ (i:=5) (N:=some 30) (v:=?_) (a':=?_) #[true,true,true,true,true,true,false,false,false,false] rfl rfl (qcf HT_.out HW_.out (by kernel_rfl)) (fun _ _ _ h=>h) (Or.inl ⟨by rfl,?_⟩) hHeld ?_ ?_
      rotate_left
      · rintro w' ⟨s0,s1,s2⟩
        go_simp
        with_reducible rfl
      rotate_left
      · simp only [Act.put,List.setIfInBounds_toArray,List.set_cons_zero,List.set_cons_succ,i64_w,i32_w]
        rfl
      refine take_ (i:=6) (N:=some 31) (v:=?_) (a':=?_) #[true,true,true,true,true,true,true,false,false,false] rfl rfl (qcf HT_.out HW_.out (by kernel_rfl)) (fun _ _ _ h=>h) (Or.inl ⟨by rfl,?_⟩) hHeld ?_ ?_
      rotate_left
      · rintro w' ⟨s0,s1,s2⟩
        go_simp
        with_reducible rfl
      rotate_left
      · simp only [Act.put,List.setIfInBounds_toArray,List.set_cons_zero,List.set_cons_succ,i64_w,i32_w]
        rfl
      refine one_ (i:=7) (N:=some 32) #[true,true,true,true,true,true,true,true,false,false] rfl rfl (one_of HT_.out (by kernel_rfl)) (by decide) (fun K hK=>?_)
      refine goes_ Tryd.func37 (by kernel_rfl) rfl #[.agg #[.slice An wn.length cn],.int .i64 x.1] (by rfl) rfl rfl (by (try simp only [List.map_toArray,List.map_cons,List.map_nil]);rfl) ?_
      refine (qbr.calls k An cn wn x.1 wx Y0 (Kd.C_below (Kd.F_now hFn) hb0) hcn hw1).mono ?_
      rintro e Y1 ⟨v1,rfl,hV1,hb1⟩
      refine ⟨_,rfl,?_⟩
      obtain ⟨A1,c1,rfl⟩:=Kd.V_slice hV1
      have hF1' : Kd.F (Kd.int .u64) Y1 (fun k=>Y0.heap.size≤k∧IsC Y1 k) A1 wx.length wx:=F_int_cells (Kd.V_F hV1)
      have hc1:=(Kd.V_reads' hV1).2.1
      have hb1':=hb0.trans (hb1.mono hb0.size)
      have hs0:=hb0.size
      have hsz1':=hb1.size
      clear hV1 hb1 hb0
      refine hK.out _ _ (hSt _ hb1') (fun hHeld=>?_)
      clear hK K
      refine norm_ (a':=?_) ?_ ?_
      rotate_left
      · show Act.put _ (some 32) _ = _
        simp only [Act.put,List.setIfInBounds_toArray,List.set_cons_zero,List.set_cons_succ,i64_w,i32_w]
        rfl
      refine pure_ (i:=8) (N:=some 33) (v:=?_) (a':=?_) #[true,true,true,true,true,true,true,true,true,false] rfl rfl (any_of HT_.out (by kernel_rfl)) (fun _ _ _ h=>h) (Or.inl ⟨by rfl,?_⟩) ?_ ?_
      rotate_left
      · intro w'
        go_simp
        with_reducible rfl
      rotate_left
      · simp only [Act.put,List.setIfInBounds_toArray,List.set_cons_zero,List.set_cons_succ,i64_w,i32_w]
        rfl
      have hcx:=hHeld.2.1
      have hblk:=hb1'.block (w.heap.size + 1) (World.block_lt_of_cell? _ _ hxc)
      have hfx : Y1.frozen? ⟨w.heap.size + 1,y.1.toNat,none⟩ = false:=(World.frozen?_of_block (w:=W') hblk).trans hxf
      refine last_ (i:=9) (N:=none) #[true,true,true,true,true,true,true,true,true,true] rfl rfl (one_of HT_.out (by kernel_rfl)) (by decide) (fun K hK=>?_)
      refine skip_ (w1:=Y1.setCell ⟨w.heap.size + 1,y.1.toNat,none⟩ (.slice A1 wx.length c1)) (by rfl) rfl ?_ ?_
      · go_simp
      refine hK.out _ _ ?_
      clear hK K
      refine done_ (done_of HT_.out (by kernel_rfl)) ?_
      have hNy:=N_belowC hN2 hb1'
      have hFy:=F_belowC hF2 hb1'
      have hcc1 : ∀ (j : Nat) (u : Value),[Value.slice An wn.length cn][j]? = some u→Y1.cell? ⟨w.heap.size + 1,y.1.toNat * k38.sz + j,none⟩ = some u:=fun j u hu=>(World.cell?_of_block (w:=W') hblk).trans (by rw [show k38.sz = 1 from rfl,Nat.mul_one];exact hcc j u hu)
      have hseg:=Kd.N_seg (seg:=[.slice A1 wx.length c1]) (j:=0) (c:=[.slice An wn.length cn]) (x':=(⟨wx⟩ : S38)) (okp:=fun k=>Y0.heap.size≤k∧IsC Y1 k) hNy y.1 hy0 hy1 rfl hcc1 (Nat.le_refl 1) (k38_mkF Y1 _ ⟨wx⟩ hc1 hF1') (fun k hk=>⟨⟨by have:=hB2.size;omega,hk.2⟩,by omega⟩)
      simp only [show k38.sz = 1 from rfl,Nat.mul_one,Nat.add_zero,World.setCells] at hseg
      have hne : ∀ k,k < w.heap.size + 1∨w.heap.size + 1 < k→(Y1.setCell ⟨w.heap.size + 1,y.1.toNat,none⟩ (.slice A1 wx.length c1)).heap[k]? = Y1.heap[k]?:=fun k hk=>Below.heap_setCell _ _ _ _ (by show k≠w.heap.size + 1;omega)
      have e2 : ((pre' ++ [y]).map (·.1)).foldl (qds k x.1) out = outj.set y.1.toNat ⟨wx⟩:=by
        rw [List.map_append,List.foldl_append,houtj]
        show qds k x.1 outj y.1 = _
        rw [qds,hwn,hwx]
      have hBx2 : w.heap.size + 1 < Bx:=by omega
      refine ⟨((keeps_below hb1').trans (KeepsOthers.setCell _ _ _)).from _,(But.of_below hb1' hs2).trans (But.setCell _ _ _),⟨⟨?_,(hne _ (by omega)).trans ((hb1'.block _ (blk_lt b24)).trans b24),(hne _ (by omega)).trans ((hb1'.block _ (blk_lt b33)).trans b33),(hne _ (by omega)).trans ((hb1'.block _ (blk_lt b38)).trans b38),(hne _ (by omega)).trans ((hb1'.block _ (blk_lt bX)).trans bX),?_⟩,?_⟩,⟨⟨(hB2.trans (hb1'.mono hB2.size)).setCell (p:=⟨w.heap.size + 1,y.1.toNat,none⟩) (show w.heap.size≤w.heap.size + 1 by omega) _,by simp;have:=hb1'.size;omega⟩,(hBt2.trans (But.of_below hb1' (by omega))).trans (But.setCell _ _ _)⟩,hKF2.trans (((keeps_below hb1').trans (KeepsOthers.setCell _ _ _)).from _)⟩
      · rw [e2]
        exact Kd.N_mono hseg.1 (fun k hk=>⟨hk.1,hk.2.setCell _ _⟩)
      · exact Kd.F_mono (Kd.F_far hFy (p:=⟨w.heap.size + 1,y.1.toNat,none⟩) (fun k hk=>show k≠w.heap.size + 1 by omega) _) (fun k hk=>⟨hk.1,hk.2.setCell _ _⟩)
      · rw [e2]
        have:=domStep_ok hWO hAO2 hy0 hy1
        rwa [qds,hwn,hwx] at this
    case done2=>
      rintro ys' W' hys ⟨⟨⟨hN2,b24,b33,b38,bX,hF2⟩,hAO2⟩,⟨⟨hB2,hs2⟩,hBt2⟩,hKF2⟩
      gi_wp2
      rw [hys] at hN2 hAO2
      have e1 : ((pre ++ [x]).map (·.1)).foldl (domOne k a0_0 a0_1 l0_2 all) (List.replicate l0_2.length ⟨[]⟩) = (els m).foldl (qds k x.1) out:=by
        rw [List.map_append,List.foldl_append,hout]
        show domOne k a0_0 a0_1 l0_2 all out x.1 = _
        rw [domOne,hm]
      refine ⟨hKF2,hBt2,⟨⟨?_,b24,b33,b38,hF2⟩,?_⟩,hB2,by omega⟩
      · rw [e1];exact hN2
      · rw [e1];exact hAO2
    case stop2=>
      rintro c pre' W' _ h
      exact h.elim
  case done=>
    rintro D ys W hD hS ⟨⟨⟨hN1,b24,b33,b38,hF1⟩,hAO⟩,hB,hsW⟩ hK
    rw [hS] at hN1
    have c33 : W.cell? ⟨w.heap.size + 1 + 1,0,none⟩ = some (.slice (some ⟨w.heap.size + 1,0,none⟩) l0_2.length l0_2.length):=cellOf b33 0 rfl
    gi_wp2
    refine ⟨by simp,.inl ⟨_,_,rfl,run_takeDeferred hK,?_⟩⟩
    have hV:=Kd.N_V (base':=w.heap.size) hN1
    have hgp:=grownBy_putObj' W D (.deferred none)
    refine ⟨_,results_tmp rfl _ _ _,_,rfl,?_,hB.trans (belowK_b (w:=w) (Nat.le_refl _) W D _ _ (by omega) hK rfl rfl)⟩
    exact Kd.V_mono (Kd.V_grown hV hgp (fun k hk e=>by injection e with e;subst e;obtain ⟨c,t,f,hc⟩:=hk.2;rw [hK] at hc;cases hc)) (fun k hk=>hk.1)
  case stop=>
    rintro D c pre W _ _ h _
    exact h.elim
end
end Go.Proofs.YtmfjmbcfaamebaaDoor.X
namespace Go.Proofs.YtmfjmbcfaamebaaDoor.X
open Go.RowKit Go.Proofs.YtmfjmbcfaamebaaDoorW.PrintWords Go.Proofs.YtmfjmbcfaamebaaDoorW.PrintLast Go.Proofs.YtmfjmbcfaamebaaDoorW.PrintMore
attribute [local go_sem] qbo qbu
set_option linter.unusedVariables false
set_option linter.unusedSimpArgs false
def qdc.f (a0 : Int) : Option (Int):=some (Go.bits .and .i64 (wrap64 (IntKind.u64.wrap ((IntKind.u64.wrap ((IntKind.u64.wrap ((Go.bits .and .u64 (IntKind.u64.wrap (((IntKind.u64.wrap ((Go.bits .and .u64 ((IntKind.u64.wrap ((Go.bits .and .u64 (a0 / 2) 6148914691236517205) + (Go.bits .and .u64 a0 6148914691236517205))) / 4) 3689348814741910323) + (Go.bits .and .u64 (IntKind.u64.wrap ((Go.bits .and .u64 (a0 / 2) 6148914691236517205) + (Go.bits .and .u64 a0 6148914691236517205))) 3689348814741910323))) / 16) + (IntKind.u64.wrap ((Go.bits .and .u64 ((IntKind.u64.wrap ((Go.bits .and .u64 (a0 / 2) 6148914691236517205) + (Go.bits .and .u64 a0 6148914691236517205))) / 4) 3689348814741910323) + (Go.bits .and .u64 (IntKind.u64.wrap ((Go.bits .and .u64 (a0 / 2) 6148914691236517205) + (Go.bits .and .u64 a0 6148914691236517205))) 3689348814741910323))))) 1085102592571150095) + ((Go.bits .and .u64 (IntKind.u64.wrap (((IntKind.u64.wrap ((Go.bits .and .u64 ((IntKind.u64.wrap ((Go.bits .and .u64 (a0 / 2) 6148914691236517205) + (Go.bits .and .u64 a0 6148914691236517205))) / 4) 3689348814741910323) + (Go.bits .and .u64 (IntKind.u64.wrap ((Go.bits .and .u64 (a0 / 2) 6148914691236517205) + (Go.bits .and .u64 a0 6148914691236517205))) 3689348814741910323))) / 16) + (IntKind.u64.wrap ((Go.bits .and .u64 ((IntKind.u64.wrap ((Go.bits .and .u64 (a0 / 2) 6148914691236517205) + (Go.bits .and .u64 a0 6148914691236517205))) / 4) 3689348814741910323) + (Go.bits .and .u64 (IntKind.u64.wrap ((Go.bits .and .u64 (a0 / 2) 6148914691236517205) + (Go.bits .and .u64 a0 6148914691236517205))) 3689348814741910323))))) 1085102592571150095) / 256))) + ((IntKind.u64.wrap ((Go.bits .and .u64 (IntKind.u64.wrap (((IntKind.u64.wrap ((Go.bits .and .u64 ((IntKind.u64.wrap ((Go.bits .and .u64 (a0 / 2) 6148914691236517205) + (Go.bits .and .u64 a0 6148914691236517205))) / 4) 3689348814741910323) + (Go.bits .and .u64 (IntKind.u64.wrap ((Go.bits .and .u64 (a0 / 2) 6148914691236517205) + (Go.bits .and .u64 a0 6148914691236517205))) 3689348814741910323))) / 16) + (IntKind.u64.wrap ((Go.bits .and .u64 ((IntKind.u64.wrap ((Go.bits .and .u64 (a0 / 2) 6148914691236517205) + (Go.bits .and .u64 a0 6148914691236517205))) / 4) 3689348814741910323) + (Go.bits .and .u64 (IntKind.u64.wrap ((Go.bits .and .u64 (a0 / 2) 6148914691236517205) + (Go.bits .and .u64 a0 6148914691236517205))) 3689348814741910323))))) 1085102592571150095) + ((Go.bits .and .u64 (IntKind.u64.wrap (((IntKind.u64.wrap ((Go.bits .and .u64 ((IntKind.u64.wrap ((Go.bits .and .u64 (a0 / 2) 6148914691236517205) + (Go.bits .and .u64 a0 6148914691236517205))) / 4) 3689348814741910323) + (Go.bits .and .u64 (IntKind.u64.wrap ((Go.bits .and .u64 (a0 / 2) 6148914691236517205) + (Go.bits .and .u64 a0 6148914691236517205))) 3689348814741910323))) / 16) + (IntKind.u64.wrap ((Go.bits .and .u64 ((IntKind.u64.wrap ((Go.bits .and .u64 (a0 / 2) 6148914691236517205) + (Go.bits .and .u64 a0 6148914691236517205))) / 4) 3689348814741910323) + (Go.bits .and .u64 (IntKind.u64.wrap ((Go.bits .and .u64 (a0 / 2) 6148914691236517205) + (Go.bits .and .u64 a0 6148914691236517205))) 3689348814741910323))))) 1085102592571150095) / 256))) / 65536))) + ((IntKind.u64.wrap ((IntKind.u64.wrap ((Go.bits .and .u64 (IntKind.u64.wrap (((IntKind.u64.wrap ((Go.bits .and .u64 ((IntKind.u64.wrap ((Go.bits .and .u64 (a0 / 2) 6148914691236517205) + (Go.bits .and .u64 a0 6148914691236517205))) / 4) 3689348814741910323) + (Go.bits .and .u64 (IntKind.u64.wrap ((Go.bits .and .u64 (a0 / 2) 6148914691236517205) + (Go.bits .and .u64 a0 6148914691236517205))) 3689348814741910323))) / 16) + (IntKind.u64.wrap ((Go.bits .and .u64 ((IntKind.u64.wrap ((Go.bits .and .u64 (a0 / 2) 6148914691236517205) + (Go.bits .and .u64 a0 6148914691236517205))) / 4) 3689348814741910323) + (Go.bits .and .u64 (IntKind.u64.wrap ((Go.bits .and .u64 (a0 / 2) 6148914691236517205) + (Go.bits .and .u64 a0 6148914691236517205))) 3689348814741910323))))) 1085102592571150095) + ((Go.bits .and .u64 (IntKind.u64.wrap (((IntKind.u64.wrap ((Go.bits .and .u64 ((IntKind.u64.wrap ((Go.bits .and .u64 (a0 / 2) 6148914691236517205) + (Go.bits .and .u64 a0 6148914691236517205))) / 4) 3689348814741910323) + (Go.bits .and .u64 (IntKind.u64.wrap ((Go.bits .and .u64 (a0 / 2) 6148914691236517205) + (Go.bits .and .u64 a0 6148914691236517205))) 3689348814741910323))) / 16) + (IntKind.u64.wrap ((Go.bits .and .u64 ((IntKind.u64.wrap ((Go.bits .and .u64 (a0 / 2) 6148914691236517205) + (Go.bits .and .u64 a0 6148914691236517205))) / 4) 3689348814741910323) + (Go.bits .and .u64 (IntKind.u64.wrap ((Go.bits .and .u64 (a0 / 2) 6148914691236517205) + (Go.bits .and .u64 a0 6148914691236517205))) 3689348814741910323))))) 1085102592571150095) / 256))) + ((IntKind.u64.wrap ((Go.bits .and .u64 (IntKind.u64.wrap (((IntKind.u64.wrap ((Go.bits .and .u64 ((IntKind.u64.wrap ((Go.bits .and .u64 (a0 / 2) 6148914691236517205) + (Go.bits .and .u64 a0 6148914691236517205))) / 4) 3689348814741910323) + (Go.bits .and .u64 (IntKind.u64.wrap ((Go.bits .and .u64 (a0 / 2) 6148914691236517205) + (Go.bits .and .u64 a0 6148914691236517205))) 3689348814741910323))) / 16) + (IntKind.u64.wrap ((Go.bits .and .u64 ((IntKind.u64.wrap ((Go.bits .and .u64 (a0 / 2) 6148914691236517205) + (Go.bits .and .u64 a0 6148914691236517205))) / 4) 3689348814741910323) + (Go.bits .and .u64 (IntKind.u64.wrap ((Go.bits .and .u64 (a0 / 2) 6148914691236517205) + (Go.bits .and .u64 a0 6148914691236517205))) 3689348814741910323))))) 1085102592571150095) + ((Go.bits .and .u64 (IntKind.u64.wrap (((IntKind.u64.wrap ((Go.bits .and .u64 ((IntKind.u64.wrap ((Go.bits .and .u64 (a0 / 2) 6148914691236517205) + (Go.bits .and .u64 a0 6148914691236517205))) / 4) 3689348814741910323) + (Go.bits .and .u64 (IntKind.u64.wrap ((Go.bits .and .u64 (a0 / 2) 6148914691236517205) + (Go.bits .and .u64 a0 6148914691236517205))) 3689348814741910323))) / 16) + (IntKind.u64.wrap ((Go.bits .and .u64 ((IntKind.u64.wrap ((Go.bits .and .u64 (a0 / 2) 6148914691236517205) + (Go.bits .and .u64 a0 6148914691236517205))) / 4) 3689348814741910323) + (Go.bits .and .u64 (IntKind.u64.wrap ((Go.bits .and .u64 (a0 / 2) 6148914691236517205) + (Go.bits .and .u64 a0 6148914691236517205))) 3689348814741910323))))) 1085102592571150095) / 256))) / 65536))) / 4294967296)))) 127)
set_option maxHeartbeats 8000000 in
set_option maxRecDepth 100000 in
theorem qdc.calls (a0 : Int) (r : Int) (w : World) (h : qdc.f a0 = some r) :
    Calls Tryd.prog 60 #[.int .u64 a0] w fun e w'=>e = .returned (.int .i64 r)∧Drawn0 w w':=by
  have H : (some (Go.bits .and .i64 (wrap64 (IntKind.u64.wrap ((IntKind.u64.wrap ((IntKind.u64.wrap ((Go.bits .and .u64 (IntKind.u64.wrap (((IntKind.u64.wrap ((Go.bits .and .u64 ((IntKind.u64.wrap ((Go.bits .and .u64 (a0 / 2) 6148914691236517205) + (Go.bits .and .u64 a0 6148914691236517205))) / 4) 3689348814741910323) + (Go.bits .and .u64 (IntKind.u64.wrap ((Go.bits .and .u64 (a0 / 2) 6148914691236517205) + (Go.bits .and .u64 a0 6148914691236517205))) 3689348814741910323))) / 16) + (IntKind.u64.wrap ((Go.bits .and .u64 ((IntKind.u64.wrap ((Go.bits .and .u64 (a0 / 2) 6148914691236517205) + (Go.bits .and .u64 a0 6148914691236517205))) / 4) 3689348814741910323) + (Go.bits .and .u64 (IntKind.u64.wrap ((Go.bits .and .u64 (a0 / 2) 6148914691236517205) + (Go.bits .and .u64 a0 6148914691236517205))) 3689348814741910323))))) 1085102592571150095) + ((Go.bits .and .u64 (IntKind.u64.wrap (((IntKind.u64.wrap ((Go.bits .and .u64 ((IntKind.u64.wrap ((Go.bits .and .u64 (a0 / 2) 6148914691236517205) + (Go.bits .and .u64 a0 6148914691236517205))) / 4) 3689348814741910323) + (Go.bits .and .u64 (IntKind.u64.wrap ((Go.bits .and .u64 (a0 / 2) 6148914691236517205) + (Go.bits .and .u64 a0 6148914691236517205))) 3689348814741910323))) / 16) + (IntKind.u64.wrap ((Go.bits .and .u64 ((IntKind.u64.wrap ((Go.bits .and .u64 (a0 / 2) 6148914691236517205) + (Go.bits .and .u64 a0 6148914691236517205))) / 4) 3689348814741910323) + (Go.bits .and .u64 (IntKind.u64.wrap ((Go.bits .and .u64 (a0 / 2) 6148914691236517205) + (Go.bits .and .u64 a0 6148914691236517205))) 3689348814741910323))))) 1085102592571150095) / 256))) + ((IntKind.u64.wrap ((Go.bits .and .u64 (IntKind.u64.wrap (((IntKind.u64.wrap ((Go.bits .and .u64 ((IntKind.u64.wrap ((Go.bits .and .u64 (a0 / 2) 6148914691236517205) + (Go.bits .and .u64 a0 6148914691236517205))) / 4) 3689348814741910323) + (Go.bits .and .u64 (IntKind.u64.wrap ((Go.bits .and .u64 (a0 / 2) 6148914691236517205) + (Go.bits .and .u64 a0 6148914691236517205))) 3689348814741910323))) / 16) + (IntKind.u64.wrap ((Go.bits .and .u64 ((IntKind.u64.wrap ((Go.bits .and .u64 (a0 / 2) 6148914691236517205) + (Go.bits .and .u64 a0 6148914691236517205))) / 4) 3689348814741910323) + (Go.bits .and .u64 (IntKind.u64.wrap ((Go.bits .and .u64 (a0 / 2) 6148914691236517205) + (Go.bits .and .u64 a0 6148914691236517205))) 3689348814741910323))))) 1085102592571150095) + ((Go.bits .and .u64 (IntKind.u64.wrap (((IntKind.u64.wrap ((Go.bits .and .u64 ((IntKind.u64.wrap ((Go.bits .and .u64 (a0 / 2) 6148914691236517205) + (Go.bits .and .u64 a0 6148914691236517205))) / 4) 3689348814741910323) + (Go.bits .and .u64 (IntKind.u64.wrap ((Go.bits .and .u64 (a0 / 2) 6148914691236517205) + (Go.bits .and .u64 a0 6148914691236517205))) 3689348814741910323))) / 16) + (IntKind.u64.wrap ((Go.bits .and .u64 ((IntKind.u64.wrap ((Go.bits .and .u64 (a0 / 2) 6148914691236517205) + (Go.bits .and .u64 a0 6148914691236517205))) / 4) 3689348814741910323) + (Go.bits .and .u64 (IntKind.u64.wrap ((Go.bits .and .u64 (a0 / 2) 6148914691236517205) + (Go.bits .and .u64 a0 6148914691236517205))) 3689348814741910323))))) 1085102592571150095) / 256))) / 65536))) + ((IntKind.u64.wrap ((IntKind.u64.wrap ((Go.bits .and .u64 (IntKind.u64.wrap (((IntKind.u64.wrap ((Go.bits .and .u64 ((IntKind.u64.wrap ((Go.bits .and .u64 (a0 / 2) 6148914691236517205) + (Go.bits .and .u64 a0 6148914691236517205))) / 4) 3689348814741910323) + (Go.bits .and .u64 (IntKind.u64.wrap ((Go.bits .and .u64 (a0 / 2) 6148914691236517205) + (Go.bits .and .u64 a0 6148914691236517205))) 3689348814741910323))) / 16) + (IntKind.u64.wrap ((Go.bits .and .u64 ((IntKind.u64.wrap ((Go.bits .and .u64 (a0 / 2) 6148914691236517205) + (Go.bits .and .u64 a0 6148914691236517205))) / 4) 3689348814741910323) + (Go.bits .and .u64 (IntKind.u64.wrap ((Go.bits .and .u64 (a0 / 2) 6148914691236517205) + (Go.bits .and .u64 a0 6148914691236517205))) 3689348814741910323))))) 1085102592571150095) + ((Go.bits .and .u64 (IntKind.u64.wrap (((IntKind.u64.wrap ((Go.bits .and .u64 ((IntKind.u64.wrap ((Go.bits .and .u64 (a0 / 2) 6148914691236517205) + (Go.bits .and .u64 a0 6148914691236517205))) / 4) 3689348814741910323) + (Go.bits .and .u64 (IntKind.u64.wrap ((Go.bits .and .u64 (a0 / 2) 6148914691236517205) + (Go.bits .and .u64 a0 6148914691236517205))) 3689348814741910323))) / 16) + (IntKind.u64.wrap ((Go.bits .and .u64 ((IntKind.u64.wrap ((Go.bits .and .u64 (a0 / 2) 6148914691236517205) + (Go.bits .and .u64 a0 6148914691236517205))) / 4) 3689348814741910323) + (Go.bits .and .u64 (IntKind.u64.wrap ((Go.bits .and .u64 (a0 / 2) 6148914691236517205) + (Go.bits .and .u64 a0 6148914691236517205))) 3689348814741910323))))) 1085102592571150095) / 256))) + ((IntKind.u64.wrap ((Go.bits .and .u64 (IntKind.u64.wrap (((IntKind.u64.wrap ((Go.bits .and .u64 ((IntKind.u64.wrap ((Go.bits .and .u64 (a0 / 2) 6148914691236517205) + (Go.bits .and .u64 a0 6148914691236517205))) / 4) 3689348814741910323) + (Go.bits .and .u64 (IntKind.u64.wrap ((Go.bits .and .u64 (a0 / 2) 6148914691236517205) + (Go.bits .and .u64 a0 6148914691236517205))) 3689348814741910323))) / 16) + (IntKind.u64.wrap ((Go.bits .and .u64 ((IntKind.u64.wrap ((Go.bits .and .u64 (a0 / 2) 6148914691236517205) + (Go.bits .and .u64 a0 6148914691236517205))) / 4) 3689348814741910323) + (Go.bits .and .u64 (IntKind.u64.wrap ((Go.bits .and .u64 (a0 / 2) 6148914691236517205) + (Go.bits .and .u64 a0 6148914691236517205))) 3689348814741910323))))) 1085102592571150095) + ((Go.bits .and .u64 (IntKind.u64.wrap (((IntKind.u64.wrap ((Go.bits .and .u64 ((IntKind.u64.wrap ((Go.bits .and .u64 (a0 / 2) 6148914691236517205) + (Go.bits .and .u64 a0 6148914691236517205))) / 4) 3689348814741910323) + (Go.bits .and .u64 (IntKind.u64.wrap ((Go.bits .and .u64 (a0 / 2) 6148914691236517205) + (Go.bits .and .u64 a0 6148914691236517205))) 3689348814741910323))) / 16) + (IntKind.u64.wrap ((Go.bits .and .u64 ((IntKind.u64.wrap ((Go.bits .and .u64 (a0 / 2) 6148914691236517205) + (Go.bits .and .u64 a0 6148914691236517205))) / 4) 3689348814741910323) + (Go.bits .and .u64 (IntKind.u64.wrap ((Go.bits .and .u64 (a0 / 2) 6148914691236517205) + (Go.bits .and .u64 a0 6148914691236517205))) 3689348814741910323))))) 1085102592571150095) / 256))) / 65536))) / 4294967296)))) 127)) = some r:=h
  clear h
  obtain rfl:=Option.some.inj H
  go_enter Tryd.func60,Tryd.ntmps60
  go_wp2
  go_ret
  exact ⟨by rfl,by repeat (exact Drawn0.refl _)⟩
end Go.Proofs.YtmfjmbcfaamebaaDoor.X
namespace Go.Proofs.YtmfjmbcfaamebaaDoor.X
open Go.RowKit Go.Proofs.YtmfjmbcfaamebaaDoorW.PrintWords Go.Proofs.YtmfjmbcfaamebaaDoorW.PrintLast Go.Proofs.YtmfjmbcfaamebaaDoorW.PrintMore
attribute [local go_sem] qbo qbu
set_option linter.unusedVariables false
set_option linter.unusedSimpArgs false
def qbe.l0 : Nat→Int→List Int→Int→Int→Option (Int)
  | 0,_,_,_,_=>none
  | k + 1,x3,x7,x8,x9=>if x9 < x8 then (if 0≤x9 then (if x9 < (x7.length : Int) then ((qdc.f (rd x7 x9)).bind fun t216=>(qbe.l0 k (wrap64 (x3 + t216)) x7 x8 (wrap64 (x9 + 1)))) else (none)) else (none)) else (some x3)
def qbe.f (k : Nat) (l0_0 : List Int) : Option (Int):=qbe.l0 k 0 l0_0 (l0_0.length : Int) 0
theorem qbe.mono_l : ∀ k,(∀ y0 y1 y2 y3,LeO (qbe.l0 k y0 y1 y2 y3) (qbe.l0 (k + 1) y0 y1 y2 y3))
  | 0=>fun _ _ _ _ r h=>by simp [qbe.l0] at h
  | k + 1=>by
    have ih0:=qbe.mono_l k
    · intro y0 y1 y2 y3
      unfold qbe.l0
      repeat' first|(with_reducible exact ih0 _ _ _ _)|(with_reducible exact LeO.refl _)|(with_reducible refine LeO.ite ?_ ?_)|(with_reducible refine LeO.bind ?_ (fun _=>?_))
theorem qbe.mono : ∀ a0 k,LeO (qbe.f k a0) (qbe.f (k + 1) a0):=by
  intro a0 k
  have ih0:=qbe.mono_l k
  unfold qbe.f
  repeat' (with_reducible exact ih0 _ _ _ _)
set_option maxHeartbeats 8000000 in
set_option maxRecDepth 100000 in
theorem qbe.calls (k : Nat) (A0_0 : Option Addr) (c0_0 : Nat) (l0_0 : List Int) (r : Int) (w : World) (hr0_0 : Kd.C (Kd.int .u64) w A0_0 l0_0.length l0_0) (hc0_0 : l0_0.length≤c0_0) (h : qbe.f k l0_0 = some r) :
    Calls Tryd.prog 31 #[.agg #[.slice A0_0 l0_0.length c0_0]] w fun e w'=>e = .returned (.int .i64 r)∧Below w.heap.size w w':=by
  have hu38:=Tryd.underlying38
  have HR0_0:=Aside0.mk hr0_0
  have HC0_0:=Aside0.mk hc0_0
  clear hr0_0 hc0_0
  have HB:=Aside0.mk (Below.refl w.heap.size w)
  have H : (qbe.l0 k 0 l0_0 (l0_0.length : Int) 0) = some r:=h
  clear h
  have H':=Aside0.mk H
  clear H
  go_enter Tryd.func31,Tryd.ntmps31
  go_wp2_with (((with_reducible refine qbg (N:=1) rfl ?_);refine qbl ?hg (N:=1) ?hd (cs:=#[.slice A0_0 l0_0.length c0_0]) (t:=38) ?hr ?_;(case hd=>rfl);(case hg=>rfl);(case hr=>(go_simp;done));intro gb214 hg w2 hbox hb;have n0_:=Aside0.mk (qai HB.out hb);have n1_:=Aside0.mk (hbox);have n2_:=Aside0.mk ((by rw [hg];exact (qac HB.out) : w.heap.size≤gb214));have n3_:=Aside0.mk ((by rw [hg];exact (qac HB.out) : w.heap.size≤gb214));clear HB;have HB:=n0_;have BK214:=n1_;have GW214:=n2_;have GE214:=n3_;clear n0_ n1_ n2_ n3_;clear hb hbox hg;have hcz3_0 : w2.cell? ⟨gb214,0,none⟩ = some (.slice A0_0 l0_0.length c0_0):=(qab BK214.out 0).trans rfl;have hfz3_0:=qaf BK214.out 0))
  go_loopg [3,9] k (fun kq v3 v9 w'=>∃ (x3_1 : Int) (x9_1 : Int),v3 = .int .i64 x3_1∧v9 = .int .i64 x9_1∧Aside0 (qbe.l0 kq x3_1 l0_0 (l0_0.length : Int) x9_1 = some r)∧Aside0 (kq≤k)∧Aside0 (w'.heap[gb214]? = some (.cells #[(.slice A0_0 l0_0.length c0_0)] 38 (0,0)))∧Aside0 (Below w.heap.size w w'))
  case atStart=>exact ⟨(0),(0),(by rfl),(by rfl),H',⟨Nat.le_refl _⟩,⟨by (with_reducible repeat (refine qaa ?_));exact BK214.out⟩,⟨by repeat ((with_reducible exact HB.out))⟩⟩
  case round=>
    clear H'
    try clear hcz3_0
    try clear hfz3_0
    obtain ⟨x3_1,x9_1,rfl,rfl,HA,HK1,BK214,HB⟩:=hrel
    cases gk with
    | zero=>exact absurd HA.out (by simp [qbe.l0])
    | succ k1=>
      have H:=HA.out
      clear HA
      simp only [qbe.l0] at H
      by_cases c4 : x9_1 < (l0_0.length : Int)
      · rw [if_pos c4] at H
        have c4b0 : decide (x9_1 < (l0_0.length : Int)) = true:=decide_eq_true c4
        clear c4
        by_cases c5 : 0≤x9_1
        · rw [if_pos c5] at H
          have c5b0 : decide (0≤x9_1) = true:=decide_eq_true c5
          clear c5
          by_cases c6 : x9_1 < (l0_0.length : Int)
          · rw [if_pos c6] at H
            have c6b0 : decide (x9_1 < (l0_0.length : Int)) = true:=decide_eq_true c6
            clear c6
            replace H:=Option.bind_eq_some_iff.mp H
            obtain ⟨t216,A70,H⟩:=H
            replace H : (qbe.l0 k1 (wrap64 (x3_1 + t216)) l0_0 (l0_0.length : Int) (wrap64 (x9_1 + 1))) = some r:=H
            have A7:=Aside0.mk A70
            clear A70
            have H':=Aside0.mk H
            clear H
            have p215 : 0≤(x9_1 : Int):=of_decide_eq_true (by (with_reducible assumption))
            have q215 : x9_1 < (l0_0.length : Int):=of_decide_eq_true (by (with_reducible assumption))
            obtain ⟨ad215,e215,hx215_0⟩:=Kd.at_int HR0_0.out x9_1 p215 q215
            cases e215
            replace hx215_0:=(HB.out.cell (World.block_lt_of_cell? w _ hx215_0)).trans hx215_0
            replace p215:=eq_true p215
            replace q215:=eq_true q215
            go_wp2_with (((with_reducible refine qbb (f:=60) rfl ?_);refine goesL_ (some 15) rfl rfl Tryd.func60 (by kernel_rfl) rfl #[.int .u64 (rd l0_0 x9_1)] rfl (by (try simp only [List.map_toArray,List.map_cons,List.map_nil]);rfl) ?_;(with_reducible refine (qdc.calls (rd l0_0 x9_1) t216 _ A7.out).mono ?_);rintro e w' ⟨rfl,⟨nd,rfl⟩⟩;refine ⟨_,rfl,?_⟩))
            go_roundg k1
            case measure=>have:=HK1.out;omega
            case rel=>exact ⟨(wrap64 (x3_1 + t216)),(wrap64 (x9_1 + 1)),(by rfl),(by rfl),H',⟨by have:=HK1.out;omega⟩,⟨by (with_reducible repeat (refine qcr ?_ _));exact BK214.out⟩,⟨by repeat ((with_reducible first|exact HB.out|apply qay))⟩⟩
          · rw [if_neg c6] at H
            exact absurd H (by simp)
        · rw [if_neg c5] at H
          exact absurd H (by simp)
      · rw [if_neg c4] at H
        have c4b0 : decide (x9_1 < (l0_0.length : Int)) = false:=decide_eq_false c4
        clear c4
        obtain rfl:=Option.some.inj H
        go_wp2
        go_ret
        exact ⟨by rfl,by repeat ((with_reducible exact HB.out))⟩
end Go.Proofs.YtmfjmbcfaamebaaDoor.X
namespace Go.Proofs.YtmfjmbcfaamebaaDoor.X
open Go.RowKit Go.Proofs.YtmfjmbcfaamebaaDoorW.PrintWords Go.Proofs.YtmfjmbcfaamebaaDoorW.PrintLast Go.Proofs.YtmfjmbcfaamebaaDoorW.PrintMore
attribute [local go_sem] qbo qbu
set_option linter.unusedVariables false
set_option linter.unusedSimpArgs false
def qbw.f (k : Nat) (l0_0 : List Int) (a1 : Int) : Option (List Int):=(qav.f k (([a1] : List Int))).bind fun t222=>((qbs.f k l0_0 t222).bind fun t225=>(some t225))
theorem qbw.mono : ∀ a0 a1 k,LeO (qbw.f k a0 a1) (qbw.f (k + 1) a0 a1):=by
  intro a0 a1 k
  unfold qbw.f
  repeat' first|(with_reducible exact qav.mono _ _)|(with_reducible exact qbs.mono _ _ _)|(with_reducible exact LeO.refl _)|(with_reducible refine LeO.bind ?_ (fun _=>?_))
set_option maxHeartbeats 8000000 in
set_option maxRecDepth 100000 in
theorem qbw.calls (k : Nat) (A0_0 : Option Addr) (c0_0 : Nat) (l0_0 : List Int) (a1 : Int) (r : List Int) (w : World) (hr0_0 : Kd.C (Kd.int .u64) w A0_0 l0_0.length l0_0) (hc0_0 : l0_0.length≤c0_0) (h : qbw.f k l0_0 a1 = some r) :
    Calls Tryd.prog 57 #[.agg #[.slice A0_0 l0_0.length c0_0],.int .i64 a1] w fun e w'=>∃ v0_ : Value,e = .returned (.agg #[v0_])∧Kd.V (Kd.int .u64) 77 w' w.heap.size (fun k_=>(w.heap.size≤k_)) v0_ r∧Below w.heap.size w w':=by
  have hu38:=Tryd.underlying38
  have HR0_0:=Aside0.mk hr0_0
  have HC0_0:=Aside0.mk hc0_0
  clear hr0_0 hc0_0
  have HB:=Aside0.mk (Below.refl w.heap.size w)
  have H : ((qav.f k (([a1] : List Int))).bind fun t222=>((qbs.f k l0_0 t222).bind fun t225=>(some t225))) = some r:=h
  clear h
  obtain ⟨y219,hy219⟩ : ∃ y_ : List Int,y_ = (([a1] : List Int)):=⟨_,rfl⟩
  replace H : ((qav.f k y219).bind fun t222=>((qbs.f k l0_0 t222).bind fun t225=>(some t225))) = some r:=by (rw [hy219];with_reducible exact H)
  have Ny219:=Aside0.mk hy219
  clear hy219
  replace H:=Option.bind_eq_some_iff.mp H
  obtain ⟨t222,A30,H⟩:=H
  replace H : ((qbs.f k l0_0 t222).bind fun t225=>(some t225)) = some r:=H
  have A3:=Aside0.mk A30
  clear A30
  replace H:=Option.bind_eq_some_iff.mp H
  obtain ⟨t225,A40,H⟩:=H
  replace H : (some t225) = some r:=H
  have A4:=Aside0.mk A40
  clear A40
  obtain rfl:=Option.some.inj H
  go_enter Tryd.func57,Tryd.ntmps57
  try go_wp2_with (first|((with_reducible refine qbg (N:=2) rfl ?_);refine qbl ?hg (N:=2) ?hd (cs:=#[.slice A0_0 l0_0.length c0_0]) (t:=38) ?hr ?_;(case hd=>rfl);(case hg=>rfl);(case hr=>(go_simp;done));intro gb217 hg w5 hbox hb;have n0_:=Aside0.mk (qai HB.out hb);have n1_:=Aside0.mk (hbox);have n2_:=Aside0.mk ((by rw [hg];exact (qac HB.out) : w.heap.size≤gb217));have n3_:=Aside0.mk ((by rw [hg];exact (qac HB.out) : w.heap.size≤gb217));clear HB;have HB:=n0_;have BK217:=n1_;have GW217:=n2_;have GE217:=n3_;clear n0_ n1_ n2_ n3_;clear hb hbox hg)|((with_reducible refine qbg (N:=4) rfl ?_);refine qbl ?hg (N:=4) ?hd (cs:=#[.slice none 0 0]) (t:=38) ?hr ?_;(case hd=>rfl);(case hg=>rfl);(case hr=>(go_simp;done));intro gb218 hg w6 hbox hb;have n0_:=Aside0.mk (qag (g:=gb217) (o:=.cells #[.slice A0_0 l0_0.length c0_0] 38 (0,0)) (by (with_reducible repeat (refine qaa ?_));exact BK217.out) hb);have n1_:=Aside0.mk (qai HB.out hb);have n2_:=Aside0.mk (hbox);have n3_:=Aside0.mk ((by rw [hg];exact (qac HB.out) : w.heap.size≤gb218));have n4_:=Aside0.mk ((by rw [hg];exact (qac HB.out) : w.heap.size≤gb218));have n5_:=Aside0.mk ((by rw [hg];exact Nat.ne_of_lt (blk_lt (g:=gb217) (o:=.cells #[.slice A0_0 l0_0.length c0_0] 38 (0,0)) (by (with_reducible repeat (refine qaa ?_));exact BK217.out)) : gb217≠gb218));have n6_:=Aside0.mk ((by rw [hg];exact Nat.ne_of_gt (blk_lt (g:=gb217) (o:=.cells #[.slice A0_0 l0_0.length c0_0] 38 (0,0)) (by (with_reducible repeat (refine qaa ?_));exact BK217.out)) : gb218≠gb217));clear BK217;clear HB;have BK217:=n0_;have HB:=n1_;have BK218:=n2_;have GW218:=n3_;have GE218:=n4_;have NB217_218:=n5_;have NB218_217:=n6_;clear n0_ n1_ n2_ n3_ n4_ n5_ n6_;clear hb hbox hg))
  have n0_:=Aside0.mk (qaa BK217.out)
  have n1_:=Aside0.mk (qaa BK218.out)
  have n2_:=Aside0.mk (qcy HB.out)
  clear BK217
  clear BK218
  clear HB
  have BK217:=n0_
  have BK218:=n1_
  have HB:=n2_
  clear n0_ n1_ n2_
  refine start_ (n:=6) (S:=fun w'=>w'.cell? ⟨gb217,0,none⟩ = some (.slice A0_0 l0_0.length c0_0)) (ds:=[]) #[false,false,false,false,false,false] (by kernel_rfl) rfl rfl ((qab BK217.out 0).trans rfl) (fun hHeld=>?_)
  generalize w6.drew = w7 at BK217 BK218 HB hHeld ⊢
  refine pure_ (i:=1) (N:=some 6) (v:=?_) (a':=?_) #[false,true,false,false,false,false] rfl rfl (by kernel_rfl) (fun _ _ _ h=>h) (Or.inl ⟨by rfl,?_⟩) ?_ ?_
  rotate_left
  · intro w'
    go_simp
    with_reducible rfl
  rotate_left
  · simp only [Act.put,List.setIfInBounds_toArray,List.set_cons_zero,List.set_cons_succ,i64_w,i32_w]
    rfl
  refine take_ (i:=0) (N:=some 5) (v:=?_) (a':=?_) #[true,true,false,false,false,false] rfl rfl (by kernel_rfl) (fun _ _ _ h=>h) (Or.inl ⟨by rfl,?_⟩) hHeld ?_ ?_
  rotate_left
  · intro w' s0
    go_simp
    with_reducible rfl
  rotate_left
  · simp only [Act.put,List.setIfInBounds_toArray,List.set_cons_zero,List.set_cons_succ,i64_w,i32_w]
    rfl
  refine one_ (i:=2) (N:=some 7) #[true,true,true,false,false,false] rfl rfl (by kernel_rfl) (by decide) (fun K hK=>?_)
  refine Kd.R_lit_step (Kd.int .i64) _ 3 ?hg (N:=7) ?hd (xs:=([a1] : List Int)) (inner:=[.int .i64 a1]) (ok:=fun _=>True) (okp:=fun _=>True) ?hr ?hp (fun _ hk=>hk) trivial (Below.refl _ _) (Nat.le_refl _) (by simp) ?_;(case hd=>rfl);(case hg=>rfl);(case hr=>(go_simp;done));(case hp=>exact (Reps.one (show Kd.M (Kd.int .i64) _ _ _ a1 [.int .i64 a1] from rfl) (Reps.none _ _)))
  intro v220 w8 ho9 hb hg_ hnew_
  clear hg_ hnew_
  (rw [← Ny219.out] at ho9)
  have n0_:=Aside0.mk (Kd.R_lower (Kd.R_newM (M:=fun k_=>(w.heap.size≤k_)) ho9 (qac HB.out) (fun k_ h_=>h_)) (qac HB.out))
  have n1_:=Aside0.mk (qag (g:=gb217) (o:=.cells #[.slice A0_0 l0_0.length c0_0] 38 (0,0)) (by (with_reducible repeat (refine qaa ?_));exact BK217.out) hb)
  have n2_:=Aside0.mk (qag (g:=gb218) (o:=.cells #[.slice none 0 0] 38 (0,0)) (by (with_reducible repeat (refine qaa ?_));exact BK218.out) hb)
  have n3_:=Aside0.mk (qai HB.out hb)
  clear BK217
  clear BK218
  clear HB
  have HO221:=n0_
  have BK217:=n1_
  have BK218:=n2_
  have HB:=n3_
  clear n0_ n1_ n2_ n3_
  clear hb ho9
  obtain ⟨Ao10,co10,eo10⟩:=Kd.R_slice HO221.out
  (subst eo10)
  refine hK.out _ _ ((qab BK217.out 0).trans rfl) (fun hHeld=>?_)
  clear hK K
  refine norm_ (a':=?_) ?_ ?_
  rotate_left
  · show Act.put _ (some 7) _ = _
    simp only [Act.put,List.setIfInBounds_toArray,List.set_cons_zero,List.set_cons_succ,i64_w,i32_w]
    rfl
  refine one_ (i:=3) (N:=some 8) #[true,true,true,true,false,false] rfl rfl (by kernel_rfl) (by decide) (fun K hK=>?_)
  refine goes_ Tryd.func34 (by kernel_rfl) rfl #[.slice Ao10 y219.length co10] (by rfl) rfl rfl (by (try simp only [List.map_toArray,List.map_cons,List.map_nil]);rfl) ?_
  with_reducible refine (qav.calls k _ _ y219 t222 _ ?side1 ?side2 A3.out).mono ?_
  (case side1=>repeat (exact (Kd.R_reads' HO221.out).2.2))
  (case side2=>exact (Kd.R_reads' HO221.out).2.1)
  rintro e w11 ⟨v223,rfl,ho0,hb⟩
  refine ⟨_,rfl,?_⟩
  have n0_:=Aside0.mk (Kd.R_below (by (with_reducible repeat (apply Kd.R_drew));exact HO221.out) hb)
  have n1_:=Aside0.mk (Kd.V_lower (Kd.V_mono (ok':=fun k_=>(w.heap.size≤k_)∧some k_≠(.slice Ao10 y219.length co10 : Value).ownBlock∧k_≠gb217∧k_≠gb218) ho0 (fun k_ hk_=>⟨(Nat.le_trans (qac HB.out) hk_),(Kd.fresh' (Kd.R_lt (by (with_reducible repeat (apply Kd.R_drew));exact HO221.out)) k_ hk_),(Kd.freshB (g:=gb217) (o:=.cells #[.slice A0_0 l0_0.length c0_0] 38 (0,0)) (by (with_reducible repeat (refine qaa ?_));exact BK217.out) k_ hk_),(Kd.freshB (g:=gb218) (o:=.cells #[.slice none 0 0] 38 (0,0)) (by (with_reducible repeat (refine qaa ?_));exact BK218.out) k_ hk_)⟩)) (qac HB.out))
  have n2_:=Aside0.mk (qag (g:=gb217) (o:=.cells #[.slice A0_0 l0_0.length c0_0] 38 (0,0)) (by (with_reducible repeat (refine qaa ?_));exact BK217.out) hb)
  have n3_:=Aside0.mk (qag (g:=gb218) (o:=.cells #[.slice none 0 0] 38 (0,0)) (by (with_reducible repeat (refine qaa ?_));exact BK218.out) hb)
  have n4_:=Aside0.mk (qai HB.out hb)
  clear HO221
  clear BK217
  clear BK218
  clear HB
  have HO221:=n0_
  have HO224:=n1_
  have BK217:=n2_
  have BK218:=n3_
  have HB:=n4_
  clear n0_ n1_ n2_ n3_ n4_
  (try clear hb)
  (try clear ho0)
  obtain ⟨Ao12,co12,eo12⟩:=Kd.V_slice HO224.out
  (subst eo12)
  refine hK.out _ _ ((qab BK217.out 0).trans rfl) (fun hHeld=>?_)
  clear hK K
  refine norm_ (a':=?_) ?_ ?_
  rotate_left
  · show Act.put _ (some 8) _ = _
    simp only [Act.put,List.setIfInBounds_toArray,List.set_cons_zero,List.set_cons_succ,i64_w,i32_w]
    rfl
  refine one_ (i:=4) (N:=some 9) #[true,true,true,true,true,false] rfl rfl (by kernel_rfl) (by decide) (fun K hK=>?_)
  refine goes_ Tryd.func53 (by kernel_rfl) rfl #[.agg #[.slice A0_0 l0_0.length c0_0],.agg #[.slice Ao12 t222.length co12]] (by rfl) rfl rfl (by (try simp only [List.map_toArray,List.map_cons,List.map_nil]);rfl) ?_
  with_reducible refine (qbs.calls k _ _ l0_0 _ _ t222 t225 _ ?side1 ?side2 ?side3 ?side4 A4.out).mono ?_
  (case side1=>repeat (exact (Kd.C_below HR0_0.out HB.out)))
  (case side2=>exact HC0_0.out)
  (case side3=>repeat (exact (Kd.V_reads' HO224.out).2.2))
  (case side4=>exact (Kd.V_reads' HO224.out).2.1)
  rintro e w13 ⟨v226,rfl,ho0,hb⟩
  refine ⟨_,rfl,?_⟩
  have n0_:=Aside0.mk (Kd.R_below (by (with_reducible repeat (apply Kd.R_drew));exact HO221.out) hb)
  have n1_:=Aside0.mk (Kd.V_below (by (with_reducible repeat (apply Kd.V_drew));exact HO224.out) hb)
  have n2_:=Aside0.mk (Kd.V_lower (Kd.V_mono (ok':=fun k_=>(w.heap.size≤k_)∧some k_≠(.slice Ao10 y219.length co10 : Value).ownBlock∧k_≠gb217∧k_≠gb218) ho0 (fun k_ hk_=>⟨(Nat.le_trans (qac HB.out) hk_),(Kd.fresh' (Kd.R_lt (by (with_reducible repeat (apply Kd.R_drew));exact HO221.out)) k_ hk_),(Kd.freshB (g:=gb217) (o:=.cells #[.slice A0_0 l0_0.length c0_0] 38 (0,0)) (by (with_reducible repeat (refine qaa ?_));exact BK217.out) k_ hk_),(Kd.freshB (g:=gb218) (o:=.cells #[.slice none 0 0] 38 (0,0)) (by (with_reducible repeat (refine qaa ?_));exact BK218.out) k_ hk_)⟩)) (qac HB.out))
  have n3_:=Aside0.mk (qag (g:=gb217) (o:=.cells #[.slice A0_0 l0_0.length c0_0] 38 (0,0)) (by (with_reducible repeat (refine qaa ?_));exact BK217.out) hb)
  have n4_:=Aside0.mk (qag (g:=gb218) (o:=.cells #[.slice none 0 0] 38 (0,0)) (by (with_reducible repeat (refine qaa ?_));exact BK218.out) hb)
  have n5_:=Aside0.mk (qai HB.out hb)
  clear HO221
  clear HO224
  clear BK217
  clear BK218
  clear HB
  have HO221:=n0_
  have HO224:=n1_
  have HO227:=n2_
  have BK217:=n3_
  have BK218:=n4_
  have HB:=n5_
  clear n0_ n1_ n2_ n3_ n4_ n5_
  (try clear hb)
  (try clear ho0)
  obtain ⟨Ao14,co14,eo14⟩:=Kd.V_slice HO227.out
  (subst eo14)
  refine hK.out _ _ ((qab BK217.out 0).trans rfl) (fun hHeld=>?_)
  clear hK K
  refine norm_ (a':=?_) ?_ ?_
  rotate_left
  · show Act.put _ (some 9) _ = _
    simp only [Act.put,List.setIfInBounds_toArray,List.set_cons_zero,List.set_cons_succ,i64_w,i32_w]
    rfl
  refine one_ (i:=5) (N:=none) #[true,true,true,true,true,true] rfl rfl (by kernel_rfl) (by decide) (fun K hK=>?_)
  have hs15 : w13.cell? ⟨gb218,0,none⟩ = some (.slice none 0 0):=(qab BK218.out 0).trans rfl
  have hfs15:=qaf BK218.out 0
  have hns15_0:=NB217_218.out
  have hms15_0:=NB218_217.out
  refine skip_ (w1:=?_) (by rfl) rfl ?_ ?_
  rotate_left
  · go_simp
    rfl
  refine hK.out _ _ (((cell_far (p:=⟨gb218,_,none⟩) NB217_218.out _).trans (hHeld))) (fun hHeld=>?_)
  clear hK K
  refine done_ (by kernel_rfl) ?_
  try go_wp2
  refine bodyPost_ret (results_cell_row rfl _ _ gb218 38 #[.slice Ao14 t225.length co14] (0,0) _ rfl (by (with_reducible repeat (refine qaa ?_));refine qce (cs:=#[.slice none 0 0]) ?_ 0 _ rfl;(with_reducible repeat (refine qaa ?_));exact BK218.out) Tryd.underlying38 rfl (by kernel_rfl)) rfl ?_
  exact ⟨_,by rfl,by (with_reducible repeat (apply Kd.V_drew));exact Kd.V_mono (Kd.V_far (p:=⟨gb218,0,none⟩) (Kd.V_mono HO227.out (fun k_ hk=>(⟨hk,hk.2.2.2⟩ : _∧k_≠gb218))) (fun _ hk=>hk.2) (.slice Ao14 t225.length co14)) (fun _ hk=>hk.1.1),by repeat ((with_reducible first|exact HB.out|refine qbq ?_ GE218.out))⟩
end Go.Proofs.YtmfjmbcfaamebaaDoor.X
