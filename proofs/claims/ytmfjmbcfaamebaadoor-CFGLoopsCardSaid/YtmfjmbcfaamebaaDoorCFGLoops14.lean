/- Parts of the proof of the law CFGLoops: words, walks of single functions and plain laws, joined by a program out of the session's texts. -/
import Derived.Test.YtmfjmbcfaamebaaDoorCFGLoops13
set_option linter.unusedVariables false
set_option linter.unusedSimpArgs false
namespace Go.Proofs.YtmfjmbcfaamebaaDoor.X
noncomputable section
open Go.RowKit Go.Proofs.YtmfjmbcfaamebaaDoorW.PrintWords Go.Proofs.YtmfjmbcfaamebaaDoorW.PrintLast Go.Proofs.YtmfjmbcfaamebaaDoorW.PrintMore
attribute [local go_sem] qbv qcg
set_option linter.unusedVariables false
set_option linter.unusedSimpArgs false
attribute [local go_sem high] eqA39
def qam.l0:Nat→List (S39)→List (S39)→Int→Int→Bool→Int→List (S60)→Int→Int→Option (Bool)
 | 0,_,_,_,_,_,_,_,_,_=>none
 | k+1,x5,x23,x24,x25,x514000,x514001,x514002,x515000,x515001=>if x25<x24 then (if 0≤x25 then (if x25<(x23.length:Int) then (if x25<(x5.length:Int) then (if (!(((qav x5 x25).f0)==((qav x23 x25).f0))||(!(((qav x5 x25).f1)==((qav x23 x25).f1))))=true then (some false) else ((qbq.f k x514000 x514001 x514002 ((qav x23 x25).f0) ((qav x23 x25).f1)).bind fun t526=>((qci.f t526).bind fun t529=>((qaj.f k x514000 x514001 x514002 ((qav x23 x25).f0) ((qav x23 x25).f1)).bind fun t532=>((qak.f k t529 t532).bind fun t535=>(if t535=true then (qam.l0 k x5 x23 x24 (wrap64 (x25+1)) x514000 x514001 x514002 x515000 x515001) else (some false))))))) else (none)) else (none)) else (none)) else ((qbq.f k x514000 x514001 x514002 x515000 x515001).bind fun t536=>((qci.f t536).bind fun t539=>((qaj.f k x514000 x514001 x514002 x515000 x515001).bind fun t542=>((qak.f k t539 t542).bind fun t545=>(some t545)))))
def qam.f (k:Nat) (a0_0:Bool) (a0_1:Int) (l0_2:List (S60)) (a1_0:Int) (a1_1:Int):Option (Bool):=(qbr.f k).bind fun t515=>(if t515=true then ((qau.f k a0_0 a0_1 l0_2).bind fun t516=>(if t516=true then ((qbx.f k a0_0 a0_1 l0_2).bind fun t517=>((qbg.f k a0_0 a0_1 l0_2).bind fun t520=>(if (t517.length:Int)=(t520.length:Int) then (qam.l0 k t517 t520 (t520.length:Int) 0 a0_0 a0_1 l0_2 a1_0 a1_1) else (some false)))) else (some true))) else (some false))
theorem qam.mono_l:∀ k,(∀ y0 y1 y2 y3 y4 y5 y6 y7 y8,LeO (qam.l0 k y0 y1 y2 y3 y4 y5 y6 y7 y8) (qam.l0 (k+1) y0 y1 y2 y3 y4 y5 y6 y7 y8))
 | 0=>fun _ _ _ _ _ _ _ _ _ r h=>by simp [qam.l0] at h
 | k+1=>by
  have ih0:=qam.mono_l k
  ·intro y0 y1 y2 y3 y4 y5 y6 y7 y8
   unfold qam.l0
   repeat' first|(with_reducible exact ih0 _ _ _ _ _ _ _ _ _)|(with_reducible exact qbq.mono _ _ _ _ _ _)|(with_reducible exact qak.mono _ _ _)|(with_reducible exact qaj.mono _ _ _ _ _ _)|(with_reducible exact LeO.refl _)|(with_reducible refine LeO.ite ?_ ?_)|(with_reducible refine LeO.bind ?_ (fun _=>?_))
theorem qam.mono:∀ a0 a1 a2 a3 a4 k,LeO (qam.f k a0 a1 a2 a3 a4) (qam.f (k+1) a0 a1 a2 a3 a4):=by
 intro a0 a1 a2 a3 a4 k
 have ih0:=qam.mono_l k
 unfold qam.f
 repeat' first|(with_reducible exact ih0 _ _ _ _ _ _ _ _ _)|(with_reducible exact qbx.mono _ _ _ _)|(with_reducible exact qbr.mono _)|(with_reducible exact qbg.mono _ _ _ _)|(with_reducible exact qau.mono _ _ _ _)|(with_reducible exact LeO.refl _)|(with_reducible refine LeO.ite ?_ ?_)|(with_reducible refine LeO.bind ?_ (fun _=>?_))
def qam.T11:Bool×List (List Nat×List Nat):=(true,[([],[]),([],[]),([0,1],[0,1]),([2],[2]),([],[]),([3,4],[3,4]),([5],[5]),([6],[6]),([6],[6]),([7,8,6,6],[6,7,8]),([9,9,6],[6,9]),([6],[6]),([6],[6]),([11,12,10,6],[6,11,12]),([10,13,13,6],[6,10,13]),([14,6],[6,14]),([6,15],[6,15])])
def qam.B11:List Nat:=[0,0,3,7,0,31,63,127,127,511,1023,127,127,8191,16383,32767,65535]
theorem qam.tab11:rtab .any (opsOf Tryd.f6 11)=qam.T11:=by kernel_rfl
theorem qam.bits11:qel qam.T11.2 qam.B11=true:=by kernel_rfl
def qam.T14:Bool×List (List Nat×List Nat):=(true,[([],[]),([],[]),([0,1],[0,1]),([2,2],[2]),([],[]),([],[]),([4,5,3],[4,5]),([3,6,6],[3,6]),([7,7,0,1,2,3,4,5,6,7],[7])])
def qam.B14:List Nat:=[0,0,3,7,0,0,63,127,255]
theorem qam.tab14:rtab .any (opsOf Tryd.f6 14)=qam.T14:=by kernel_rfl
theorem qam.bits14:qel qam.T14.2 qam.B14=true:=by kernel_rfl
set_option maxHeartbeats 8000000 in
set_option maxRecDepth 100000 in
theorem qam.calls (k:Nat) (a0_0:Bool) (a0_1:Int) (A0_2:Option Addr) (c0_2:Nat) (l0_2:List (S60)) (a1_0:Int) (a1_1:Int) (r:Bool) (w:World) (hT:TabW w) (hr0_2:Kd.C k60 w A0_2 l0_2.length l0_2) (hc0_2:l0_2.length≤c0_2) (h:qam.f k a0_0 a0_1 l0_2 a1_0 a1_1=some r) :
  Calls Tryd.prog 6 #[.agg #[.bool a0_0,.int .i64 a0_1,.slice A0_2 l0_2.length c0_2],.agg #[.int .i64 a1_0,.int .i64 a1_1]] w fun e w'=>e=.returned (.bool r)∧Below w.heap.size w w':=by
 have hu24:=Tryd.underlying24
 have hu39:=Tryd.underlying39
 have HR0_2:=qaa.mk hr0_2
 have HC0_2:=qaa.mk hc0_2
 clear hr0_2 hc0_2
 have HTB:=qaa.mk hT
 clear hT
 have HB:=qaa.mk (Below.refl w.heap.size w)
 have H:((qbr.f k).bind fun t515=>(if t515=true then ((qau.f k a0_0 a0_1 l0_2).bind fun t516=>(if t516=true then ((qbx.f k a0_0 a0_1 l0_2).bind fun t517=>((qbg.f k a0_0 a0_1 l0_2).bind fun t520=>(if (t517.length:Int)=(t520.length:Int) then (qam.l0 k t517 t520 (t520.length:Int) 0 a0_0 a0_1 l0_2 a1_0 a1_1) else (some false)))) else (some true))) else (some false)))=some r:=h
 clear h
 replace H:=Option.bind_eq_some_iff.mp H
 obtain ⟨t515,A30,H⟩:=H
 replace H:(if t515=true then ((qau.f k a0_0 a0_1 l0_2).bind fun t516=>(if t516=true then ((qbx.f k a0_0 a0_1 l0_2).bind fun t517=>((qbg.f k a0_0 a0_1 l0_2).bind fun t520=>(if (t517.length:Int)=(t520.length:Int) then (qam.l0 k t517 t520 (t520.length:Int) 0 a0_0 a0_1 l0_2 a1_0 a1_1) else (some false)))) else (some true))) else (some false))=some r:=H
 have A3:=qaa.mk A30
 clear A30
 by_cases c4:t515=true
 ·subst c4
  have H1:((qau.f k a0_0 a0_1 l0_2).bind fun t516=>(if t516=true then ((qbx.f k a0_0 a0_1 l0_2).bind fun t517=>((qbg.f k a0_0 a0_1 l0_2).bind fun t520=>(if (t517.length:Int)=(t520.length:Int) then (qam.l0 k t517 t520 (t520.length:Int) 0 a0_0 a0_1 l0_2 a1_0 a1_1) else (some false)))) else (some true)))=some r:=by rw [if_pos rfl] at H;exact H
  clear H
  have H:=H1
  clear H1
  replace H:=Option.bind_eq_some_iff.mp H
  obtain ⟨t516,A50,H⟩:=H
  replace H:(if t516=true then ((qbx.f k a0_0 a0_1 l0_2).bind fun t517=>((qbg.f k a0_0 a0_1 l0_2).bind fun t520=>(if (t517.length:Int)=(t520.length:Int) then (qam.l0 k t517 t520 (t520.length:Int) 0 a0_0 a0_1 l0_2 a1_0 a1_1) else (some false)))) else (some true))=some r:=H
  have A5:=qaa.mk A50
  clear A50
  by_cases c6:t516=true
  ·subst c6
   have H1:((qbx.f k a0_0 a0_1 l0_2).bind fun t517=>((qbg.f k a0_0 a0_1 l0_2).bind fun t520=>(if (t517.length:Int)=(t520.length:Int) then (qam.l0 k t517 t520 (t520.length:Int) 0 a0_0 a0_1 l0_2 a1_0 a1_1) else (some false))))=some r:=by rw [if_pos rfl] at H;exact H
   clear H
   have H:=H1
   clear H1
   replace H:=Option.bind_eq_some_iff.mp H
   obtain ⟨t517,A70,H⟩:=H
   replace H:((qbg.f k a0_0 a0_1 l0_2).bind fun t520=>(if (t517.length:Int)=(t520.length:Int) then (qam.l0 k t517 t520 (t520.length:Int) 0 a0_0 a0_1 l0_2 a1_0 a1_1) else (some false)))=some r:=H
   have A7:=qaa.mk A70
   clear A70
   replace H:=Option.bind_eq_some_iff.mp H
   obtain ⟨t520,A80,H⟩:=H
   replace H:(if (t517.length:Int)=(t520.length:Int) then (qam.l0 k t517 t520 (t520.length:Int) 0 a0_0 a0_1 l0_2 a1_0 a1_1) else (some false))=some r:=H
   have A8:=qaa.mk A80
   clear A80
   by_cases c9:(t517.length:Int)=(t520.length:Int)
   ·rw [if_pos c9] at H
    have c9b0:((t517.length:Int)==(t520.length:Int))=true:=beq_iff_eq.mpr c9
    have c9b1:((t517.length:Int)!=(t520.length:Int))=false:=bne_eq_false_iff_eq.mpr c9
    have c9b2:(t517.length==t520.length)=true:=by (simp at c9 ⊢;omega)
    clear c9
    have H':=qaa.mk H
    clear H
    go_enter Tryd.func6,Tryd.ntmps6
    try go_wp2_with (first|((with_reducible refine qbf (N:=2) rfl ?_);refine qbk ?hg (N:=2) ?hd (cs:=#[.bool a0_0,.int .i64 a0_1,.slice A0_2 l0_2.length c0_2]) (t:=24) ?hr ?_;(case hd=>rfl);(case hg=>rfl);(case hr=>(go_simp;done));intro gb513 hg w10 hbox hb;have BK513:=qaa.mk (hbox);have GW513:=qaa.mk ((by rw [hg];exact (qad HB.out):w.heap.size≤gb513));have GE513:=qaa.mk ((by rw [hg];exact (qad HB.out):w.heap.size≤gb513));replace HB:=qaa.mk (qai HB.out hb);clear hb hbox hg)|((with_reducible refine qbf (N:=3) rfl ?_);refine qbk ?hg (N:=3) ?hd (cs:=#[.int .i64 a1_0,.int .i64 a1_1]) (t:=39) ?hr ?_;(case hd=>rfl);(case hg=>rfl);(case hr=>(go_simp;done));intro gb514 hg w11 hbox hb;have BK514:=qaa.mk (hbox);have GW514:=qaa.mk ((by rw [hg];exact (qad HB.out):w.heap.size≤gb514));have GE514:=qaa.mk ((by rw [hg];exact (qad HB.out):w.heap.size≤gb514));replace HB:=qaa.mk (qai HB.out hb);have NB513_514:=qaa.mk ((by rw [hg];exact Nat.ne_of_lt (qbh (g:=gb513) (o:=.cells #[.bool a0_0,.int .i64 a0_1,.slice A0_2 l0_2.length c0_2] 24 (0,0)) (by (with_reducible repeat (refine qab ?_));exact BK513.out)):gb513≠gb514));have NB514_513:=qaa.mk ((by rw [hg];exact Nat.ne_of_gt (qbh (g:=gb513) (o:=.cells #[.bool a0_0,.int .i64 a0_1,.slice A0_2 l0_2.length c0_2] 24 (0,0)) (by (with_reducible repeat (refine qab ?_));exact BK513.out)):gb514≠gb513));replace BK513:=qaa.mk (qaf (g:=gb513) (o:=.cells #[.bool a0_0,.int .i64 a0_1,.slice A0_2 l0_2.length c0_2] 24 (0,0)) (by (with_reducible repeat (refine qab ?_));exact BK513.out) hb);clear hb hbox hg)|((with_reducible refine qbb (f:=11) rfl ?_);refine qcu (some 9) rfl rfl Tryd.func11 (by kernel_rfl) rfl #[] rfl (by (try simp only [List.map_toArray,List.map_cons,List.map_nil]);done) ?_;(with_reducible refine (qbr.calls k  true _ ?side1 A3.out).mono ?_);(case side1=>exact TabW.below' HTB.out HB.out);rintro e w12 ⟨rfl,hb⟩;refine ⟨_,rfl,?_⟩;replace BK513:=qaa.mk (qaf (g:=gb513) (o:=.cells #[.bool a0_0,.int .i64 a0_1,.slice A0_2 l0_2.length c0_2] 24 (0,0)) (by (with_reducible repeat (refine qab ?_));exact BK513.out) hb);replace BK514:=qaa.mk (qaf (g:=gb514) (o:=.cells #[.int .i64 a1_0,.int .i64 a1_1] 39 (0,0)) (by (with_reducible repeat (refine qab ?_));exact BK514.out) hb);replace HB:=qaa.mk (qai HB.out hb);(try clear hb);have hnb13:=NB513_514.out;have hnc13:=NB514_513.out;have hcz14_0:w12.cell? ⟨gb513,0,none⟩=some (.bool a0_0):=(qac BK513.out 0).trans rfl;have hcz14_1:w12.cell? ⟨gb513,1,none⟩=some (.int .i64 a0_1):=(qac BK513.out 1).trans rfl;have hcz14_2:w12.cell? ⟨gb513,2,none⟩=some (.slice A0_2 l0_2.length c0_2):=(qac BK513.out 2).trans rfl;have hfz14_0:=qag BK513.out 0;have hfz14_1:=qag BK513.out 1;have hfz14_2:=qag BK513.out 2)|((with_reducible refine qbb (f:=12) rfl ?_);refine qcu (some 12) rfl rfl Tryd.func12 (by kernel_rfl) rfl #[.agg #[.bool a0_0,.int .i64 a0_1,.slice A0_2 l0_2.length c0_2]] rfl (by (try simp only [List.map_toArray,List.map_cons,List.map_nil]);rfl) ?_;(with_reducible refine (qau.calls k a0_0 a0_1 _ _ l0_2 true _ ?side1 ?side2 A5.out).mono ?_);(case side1=>repeat (exact (Kd.C_below HR0_2.out HB.out)));(case side2=>exact HC0_2.out);rintro e w15 ⟨rfl,hb⟩;refine ⟨_,rfl,?_⟩;replace BK513:=qaa.mk (qaf (g:=gb513) (o:=.cells #[.bool a0_0,.int .i64 a0_1,.slice A0_2 l0_2.length c0_2] 24 (0,0)) (by (with_reducible repeat (refine qab ?_));exact BK513.out) hb);replace BK514:=qaa.mk (qaf (g:=gb514) (o:=.cells #[.int .i64 a1_0,.int .i64 a1_1] 39 (0,0)) (by (with_reducible repeat (refine qab ?_));exact BK514.out) hb);replace HB:=qaa.mk (qai HB.out hb);(try clear hb)))
    have n0_:=qaa.mk (qab BK513.out)
    have n1_:=qaa.mk (qab BK514.out)
    have n2_:=qaa.mk (qcz HB.out)
    clear BK513
    clear BK514
    clear HB
    have BK513:=n0_
    have BK514:=n1_
    have HB:=n2_
    clear n0_ n1_ n2_
    refine qew (n:=6) (S:=fun w'=>w'.cell? ⟨gb513,0,none⟩=some (.bool a0_0)∧w'.cell? ⟨gb513,1,none⟩=some (.int .i64 a0_1)∧w'.cell? ⟨gb513,2,none⟩=some (.slice A0_2 l0_2.length c0_2)) (ds:=[]) #[false,false,false,false,false,false] (by kernel_rfl) rfl rfl ⟨(qac BK513.out 0).trans rfl,(qac BK513.out 1).trans rfl,(qac BK513.out 2).trans rfl⟩ (fun hHeld=>?_)
    generalize w15.drew=w16 at BK513 BK514 HB hHeld ⊢
    refine take_ (i:=0) (N:=some 14) (v:=?_) (a':=?_) #[true,false,false,false,false,false] rfl rfl (by kernel_rfl) (fun _ _ _ h=>h) (Or.inl ⟨by rfl,?_⟩) hHeld ?_ ?_
    rotate_left
    ·rintro w' ⟨s0,s1,s2⟩
     go_simp
     with_reducible rfl
    rotate_left
    ·simp only [Act.put,List.setIfInBounds_toArray,List.set_cons_zero,List.set_cons_succ,qbd,qbe]
     rfl
    refine take_ (i:=2) (N:=some 16) (v:=?_) (a':=?_) #[true,false,true,false,false,false] rfl rfl (by kernel_rfl) (fun _ _ _ h=>h) (Or.inl ⟨by rfl,?_⟩) hHeld ?_ ?_
    rotate_left
    ·rintro w' ⟨s0,s1,s2⟩
     go_simp
     with_reducible rfl
    rotate_left
    ·simp only [Act.put,List.setIfInBounds_toArray,List.set_cons_zero,List.set_cons_succ,qbd,qbe]
     rfl
    refine one_ (i:=1) (N:=some 15) #[true,true,true,false,false,false] rfl rfl (by kernel_rfl) (by decide) (fun K hK=>?_)
    refine qdz Tryd.func26 (by kernel_rfl) rfl #[.agg #[.bool a0_0,.int .i64 a0_1,.slice A0_2 l0_2.length c0_2]] (by rfl) rfl rfl (by (try simp only [List.map_toArray,List.map_cons,List.map_nil]);rfl) ?_
    with_reducible refine (qbx.calls k a0_0 a0_1 _ _ l0_2 t517 _ ?side1 ?side2 ?side3 A7.out).mono ?_
    (case side1=>exact TabW.below' HTB.out HB.out)
    (case side2=>repeat (exact (Kd.C_below HR0_2.out HB.out)))
    (case side3=>exact HC0_2.out)
    rintro e w17 ⟨v518,rfl,ho0,hb⟩
    refine ⟨_,rfl,?_⟩
    have n0_:=qaa.mk (Kd.R_lower (Kd.R_newB ho0 (g:=gb514) (o:=.cells #[.int .i64 a1_0,.int .i64 a1_1] 39 (0,0)) (by (with_reducible repeat (refine qab ?_));exact BK514.out)) (qad HB.out))
    have n1_:=qaa.mk (qaf (g:=gb513) (o:=.cells #[.bool a0_0,.int .i64 a0_1,.slice A0_2 l0_2.length c0_2] 24 (0,0)) (by (with_reducible repeat (refine qab ?_));exact BK513.out) hb)
    have n2_:=qaa.mk (qaf (g:=gb514) (o:=.cells #[.int .i64 a1_0,.int .i64 a1_1] 39 (0,0)) (by (with_reducible repeat (refine qab ?_));exact BK514.out) hb)
    have n3_:=qaa.mk (qai HB.out hb)
    clear BK513
    clear BK514
    clear HB
    have HO519:=n0_
    have BK513:=n1_
    have BK514:=n2_
    have HB:=n3_
    clear n0_ n1_ n2_ n3_
    (try clear hb)
    (try clear ho0)
    refine hK.out _ _ ⟨(qac BK513.out 0).trans rfl,(qac BK513.out 1).trans rfl,(qac BK513.out 2).trans rfl⟩ (fun hHeld=>?_)
    clear hK K
    refine qdk (a':=?_) ?_ ?_
    rotate_left
    ·show Act.put _ (some 15) _=_
     simp only [Act.put,List.setIfInBounds_toArray,List.set_cons_zero,List.set_cons_succ,qbd,qbe]
     rfl
    refine one_ (i:=3) (N:=some 17) #[true,true,true,true,false,false] rfl rfl (by kernel_rfl) (by decide) (fun K hK=>?_)
    refine qdz Tryd.func27 (by kernel_rfl) rfl #[.agg #[.bool a0_0,.int .i64 a0_1,.slice A0_2 l0_2.length c0_2]] (by rfl) rfl rfl (by (try simp only [List.map_toArray,List.map_cons,List.map_nil]);rfl) ?_
    with_reducible refine (qbg.calls k a0_0 a0_1 _ _ l0_2 t520 _ ?side1 ?side2 A8.out).mono ?_
    (case side1=>repeat (exact (Kd.C_below HR0_2.out HB.out)))
    (case side2=>exact HC0_2.out)
    rintro e w18 ⟨v521,rfl,ho0,hb⟩
    refine ⟨_,rfl,?_⟩
    have n0_:=qaa.mk (Kd.R_elder' (by (with_reducible repeat (apply Kd.R_drew));exact HO519.out) (Kd.R_base ho0) hb)
    have n1_:=qaa.mk (Kd.R_lower (Kd.R_newB (Kd.R_new' ho0 (Kd.R_lt (by (with_reducible repeat (apply Kd.R_drew));exact HO519.out))) (g:=gb514) (o:=.cells #[.int .i64 a1_0,.int .i64 a1_1] 39 (0,0)) (by (with_reducible repeat (refine qab ?_));exact BK514.out)) (qad HB.out))
    have n2_:=qaa.mk (qaf (g:=gb513) (o:=.cells #[.bool a0_0,.int .i64 a0_1,.slice A0_2 l0_2.length c0_2] 24 (0,0)) (by (with_reducible repeat (refine qab ?_));exact BK513.out) hb)
    have n3_:=qaa.mk (qaf (g:=gb514) (o:=.cells #[.int .i64 a1_0,.int .i64 a1_1] 39 (0,0)) (by (with_reducible repeat (refine qab ?_));exact BK514.out) hb)
    have n4_:=qaa.mk (qai HB.out hb)
    clear HO519
    clear BK513
    clear BK514
    clear HB
    have HO519:=n0_
    have HO522:=n1_
    have BK513:=n2_
    have BK514:=n3_
    have HB:=n4_
    clear n0_ n1_ n2_ n3_ n4_
    (try clear hb)
    (try clear ho0)
    refine hK.out _ _ ⟨(qac BK513.out 0).trans rfl,(qac BK513.out 1).trans rfl,(qac BK513.out 2).trans rfl⟩ (fun hHeld=>?_)
    clear hK K
    refine qdk (a':=?_) ?_ ?_
    rotate_left
    ·show Act.put _ (some 17) _=_
     simp only [Act.put,List.setIfInBounds_toArray,List.set_cons_zero,List.set_cons_succ,qbd,qbe]
     rfl
    refine qcr (i:=4) (N:=some 5) (v:=?_) (a':=?_) #[true,true,true,true,true,false] rfl rfl (by kernel_rfl) (fun _ _ _ h=>h) (Or.inl ⟨by rfl,?_⟩) ?_ ?_
    rotate_left
    ·intro w'
     go_simp
     with_reducible rfl
    rotate_left
    ·simp only [Act.put,List.setIfInBounds_toArray,List.set_cons_zero,List.set_cons_succ,qbd,qbe]
     rfl
    refine qcr (i:=5) (N:=some 6) (v:=?_) (a':=?_) #[true,true,true,true,true,true] rfl rfl (by kernel_rfl) (fun _ _ _ h=>h) (Or.inl ⟨by rfl,?_⟩) ?_ ?_
    rotate_left
    ·intro w'
     go_simp
     with_reducible rfl
    rotate_left
    ·simp only [Act.put,List.setIfInBounds_toArray,List.set_cons_zero,List.set_cons_succ,qbd,qbe]
     rfl
    refine qfj (by kernel_rfl) ?_
    obtain ⟨Ao19,co19,eo19⟩:=Kd.R_slice HO519.out
    subst eo19
    obtain ⟨Ao20,co20,eo20⟩:=Kd.R_slice HO522.out
    subst eo20
    try go_wp2
    go_loopg [25] k (fun kq v25 w'=>∃ (x25_1:Int),v25=.int .i64 x25_1∧qaa (qam.l0 kq t517 t520 (t520.length:Int) x25_1 a0_0 a0_1 l0_2 a1_0 a1_1=some r)∧qaa (kq≤k)∧qaa (Kd.R k39 39 w' w.heap.size (fun k_=>some k_≠((.slice Ao20 t520.length co20):Value).ownBlock∧k_≠gb514) (.slice Ao19 t517.length co19) t517)∧qaa (Kd.R k39 39 w' w.heap.size (fun k_=>some k_≠((.slice Ao19 t517.length co19):Value).ownBlock∧k_≠gb514) (.slice Ao20 t520.length co20) t520)∧qaa (w'.heap[gb513]?=some (.cells #[.bool a0_0,.int .i64 a0_1,(.slice A0_2 l0_2.length c0_2)] 24 (0,0)))∧qaa (w'.heap[gb514]?=some (.cells #[.int .i64 a1_0,.int .i64 a1_1] 39 (0,0)))∧qaa (Below w.heap.size w w'))
    case atStart=>exact ⟨(0),(by rfl),H',⟨Nat.le_refl _⟩,⟨by (with_reducible repeat (apply Kd.R_drew));exact Kd.R_mono HO519.out (fun _ hk=>⟨hk.2,hk.1.2⟩)⟩,⟨by (with_reducible repeat (apply Kd.R_drew));exact Kd.R_mono HO522.out (fun _ hk=>⟨hk.1.2,hk.2⟩)⟩,⟨by (with_reducible repeat (refine qab ?_));exact BK513.out⟩,⟨by (with_reducible repeat (refine qab ?_));exact BK514.out⟩,⟨by repeat ((with_reducible exact HB.out))⟩⟩
    case round=>
     clear H'
     try clear c9b0
     try clear c9b1
     try clear c9b2
     try clear hcz14_0
     try clear hcz14_1
     try clear hcz14_2
     try clear hfz14_0
     try clear hfz14_1
     try clear hfz14_2
     obtain ⟨x25_1,rfl,HA,HK1,HO_5,HO_23,BK513,BK514,HB⟩:=hrel
     cases gk with
     | zero=>exact absurd HA.out (by simp [qam.l0])
     | succ k1=>
      have H:=HA.out
      clear HA
      simp only [qam.l0] at H
      by_cases c21:x25_1<(t520.length:Int)
      ·rw [if_pos c21] at H
       have c21b0:decide (x25_1<(t520.length:Int))=true:=decide_eq_true c21
       clear c21
       by_cases c22:0≤x25_1
       ·rw [if_pos c22] at H
        have c22b0:decide (0≤x25_1)=true:=decide_eq_true c22
        clear c22
        by_cases c23:x25_1<(t520.length:Int)
        ·rw [if_pos c23] at H
         have c23b0:decide (x25_1<(t520.length:Int))=true:=decide_eq_true c23
         clear c23
         by_cases c24:x25_1<(t517.length:Int)
         ·rw [if_pos c24] at H
          have c24b0:decide (x25_1<(t517.length:Int))=true:=decide_eq_true c24
          clear c24
          by_cases c25:(!(((qav t517 x25_1).f0)==((qav t520 x25_1).f0))||(!(((qav t517 x25_1).f1)==((qav t520 x25_1).f1))))=true
          ·rw [if_pos c25] at H
           have c25b0:(!(((qav t517 x25_1).f0)==((qav t520 x25_1).f0))||(!(((qav t517 x25_1).f1)==((qav t520 x25_1).f1))))=true:=c25
           clear c25
           obtain rfl:=Option.some.inj H
           have p523:0≤(x25_1:Int):=of_decide_eq_true (by (with_reducible assumption))
           have q523:x25_1<(t520.length:Int):=of_decide_eq_true (by (with_reducible assumption))
           obtain ⟨ad523,e523,hx523_0,hx523_1⟩:=qgv (Kd.R_reads' HO_23.out).2.2 x25_1 p523 q523
           cases e523
           replace p523:=eq_true p523
           replace q523:=eq_true q523
           try go_wp2_with (((with_reducible refine qbf (N:=8) rfl ?_);refine qbk ?hg (N:=8) ?hd (cs:=#[.int .i64 0,.int .i64 0]) (t:=39) ?hr ?_;(case hd=>rfl);(case hg=>rfl);(case hr=>(go_simp;done));intro gb524 hg w26 hbox hb;replace HO_5:=qaa.mk (Kd.R_below (Kd.R_elderB (by (with_reducible repeat (apply Kd.R_drew));exact HO_5.out) gb524 (Nat.le_of_eq hg.symm)) hb);replace HO_23:=qaa.mk (Kd.R_below (Kd.R_elderB (by (with_reducible repeat (apply Kd.R_drew));exact HO_23.out) gb524 (Nat.le_of_eq hg.symm)) hb);have BK524:=qaa.mk (hbox);have GW524:=qaa.mk ((by rw [hg];exact (qad HB.out):w.heap.size≤gb524));have GE524:=qaa.mk ((by rw [hg];exact (qad HB.out):w.heap.size≤gb524));replace HB:=qaa.mk (qai HB.out hb);have NB513_524:=qaa.mk ((by rw [hg];exact Nat.ne_of_lt (qbh (g:=gb513) (o:=.cells #[.bool a0_0,.int .i64 a0_1,.slice A0_2 l0_2.length c0_2] 24 (0,0)) (by (with_reducible repeat (refine qab ?_));exact BK513.out)):gb513≠gb524));have NB524_513:=qaa.mk ((by rw [hg];exact Nat.ne_of_gt (qbh (g:=gb513) (o:=.cells #[.bool a0_0,.int .i64 a0_1,.slice A0_2 l0_2.length c0_2] 24 (0,0)) (by (with_reducible repeat (refine qab ?_));exact BK513.out)):gb524≠gb513));replace BK513:=qaa.mk (qaf (g:=gb513) (o:=.cells #[.bool a0_0,.int .i64 a0_1,.slice A0_2 l0_2.length c0_2] 24 (0,0)) (by (with_reducible repeat (refine qab ?_));exact BK513.out) hb);have NB514_524:=qaa.mk ((by rw [hg];exact Nat.ne_of_lt (qbh (g:=gb514) (o:=.cells #[.int .i64 a1_0,.int .i64 a1_1] 39 (0,0)) (by (with_reducible repeat (refine qab ?_));exact BK514.out)):gb514≠gb524));have NB524_514:=qaa.mk ((by rw [hg];exact Nat.ne_of_gt (qbh (g:=gb514) (o:=.cells #[.int .i64 a1_0,.int .i64 a1_1] 39 (0,0)) (by (with_reducible repeat (refine qab ?_));exact BK514.out)):gb524≠gb514));replace BK514:=qaa.mk (qaf (g:=gb514) (o:=.cells #[.int .i64 a1_0,.int .i64 a1_1] 39 (0,0)) (by (with_reducible repeat (refine qab ?_));exact BK514.out) hb);clear hb hbox hg;have hnb27:=NB524_513.out;have hnc27:=NB513_524.out;have hnb28:=NB524_514.out;have hnc28:=NB514_524.out;have hcz29_0:w26.cell? ⟨gb524,0,none⟩=some (.int .i64 0):=(qac BK524.out 0).trans rfl;have hcz29_1:w26.cell? ⟨gb524,1,none⟩=some (.int .i64 0):=(qac BK524.out 1).trans rfl;have hfz29_0:=qag BK524.out 0;have hfz29_1:=qag BK524.out 1))
           have n0_:qaa (Kd.R k39 39 ((w26.setCell ⟨gb524,0,none⟩ (.int .i64 ((qav t520 x25_1).f0))).setCell ⟨gb524,1,none⟩ (.int .i64 ((qav t520 x25_1).f1))) w.heap.size (fun k_=>some k_≠(.slice (some ad523) t520.length co20:Value).ownBlock∧k_≠gb514∧k_≠gb524) (.slice Ao19 t517.length co19) t517):=⟨by (with_reducible repeat (apply Kd.R_drew));exact Kd.R_mono (Kd.R_far (p:=⟨gb524,1,none⟩) (Kd.R_far (p:=⟨gb524,0,none⟩) (Kd.R_mono HO_5.out (fun k_ hk=>(⟨hk,hk.2⟩:_∧k_≠gb524))) (fun _ hk=>hk.2) (.int .i64 ((qav t520 x25_1).f0))) (fun _ hk=>hk.2) (.int .i64 ((qav t520 x25_1).f1))) (fun _ hk=>⟨hk.1.1.1,⟨hk.1.1.2,hk.1.2⟩⟩)⟩
           have n1_:qaa (Kd.R k39 39 ((w26.setCell ⟨gb524,0,none⟩ (.int .i64 ((qav t520 x25_1).f0))).setCell ⟨gb524,1,none⟩ (.int .i64 ((qav t520 x25_1).f1))) w.heap.size (fun k_=>some k_≠(.slice Ao19 t517.length co19:Value).ownBlock∧k_≠gb514∧k_≠gb524) (.slice (some ad523) t520.length co20) t520):=⟨by (with_reducible repeat (apply Kd.R_drew));exact Kd.R_mono (Kd.R_far (p:=⟨gb524,1,none⟩) (Kd.R_far (p:=⟨gb524,0,none⟩) (Kd.R_mono HO_23.out (fun k_ hk=>(⟨hk,hk.2⟩:_∧k_≠gb524))) (fun _ hk=>hk.2) (.int .i64 ((qav t520 x25_1).f0))) (fun _ hk=>hk.2) (.int .i64 ((qav t520 x25_1).f1))) (fun _ hk=>⟨hk.1.1.1,⟨hk.1.1.2,hk.1.2⟩⟩)⟩
           have n2_:qaa (((w26.setCell ⟨gb524,0,none⟩ (.int .i64 ((qav t520 x25_1).f0))).setCell ⟨gb524,1,none⟩ (.int .i64 ((qav t520 x25_1).f1))).heap[gb513]?=some (.cells #[.bool a0_0,.int .i64 a0_1,.slice A0_2 l0_2.length c0_2] 24 (0,0))):=⟨by (with_reducible repeat (refine qab ?_));refine qcm ?_ NB513_524.out _;(with_reducible repeat (refine qab ?_));refine qcm ?_ NB513_524.out _;(with_reducible repeat (refine qab ?_));exact BK513.out⟩
           have n3_:qaa (((w26.setCell ⟨gb524,0,none⟩ (.int .i64 ((qav t520 x25_1).f0))).setCell ⟨gb524,1,none⟩ (.int .i64 ((qav t520 x25_1).f1))).heap[gb514]?=some (.cells #[.int .i64 a1_0,.int .i64 a1_1] 39 (0,0))):=⟨by (with_reducible repeat (refine qab ?_));refine qcm ?_ NB514_524.out _;(with_reducible repeat (refine qab ?_));refine qcm ?_ NB514_524.out _;(with_reducible repeat (refine qab ?_));exact BK514.out⟩
           have n4_:qaa (((w26.setCell ⟨gb524,0,none⟩ (.int .i64 ((qav t520 x25_1).f0))).setCell ⟨gb524,1,none⟩ (.int .i64 ((qav t520 x25_1).f1))).heap[gb524]?=some (.cells #[.int .i64 ((qav t520 x25_1).f0),.int .i64 ((qav t520 x25_1).f1)] 39 (0,0))):=⟨by (with_reducible repeat (refine qab ?_));refine qct (cs:=#[.int .i64 ((qav t520 x25_1).f0),.int .i64 0]) ?_ 1 _ rfl;(with_reducible repeat (refine qab ?_));refine qct (cs:=#[.int .i64 0,.int .i64 0]) ?_ 0 _ rfl;(with_reducible repeat (refine qab ?_));exact BK524.out⟩
           have n5_:qaa (Below w.heap.size w ((w26.setCell ⟨gb524,0,none⟩ (.int .i64 ((qav t520 x25_1).f0))).setCell ⟨gb524,1,none⟩ (.int .i64 ((qav t520 x25_1).f1)))):=⟨by repeat ((with_reducible first|exact HB.out|refine qby ?_ GE524.out))⟩
           (try clear HO_5)
           (try clear HO_23)
           (try clear BK513)
           (try clear BK514)
           (try clear BK524)
           (try clear HB)
           generalize ((w26.setCell ⟨gb524,0,none⟩ (.int .i64 ((qav t520 x25_1).f0))).setCell ⟨gb524,1,none⟩ (.int .i64 ((qav t520 x25_1).f1)))=w30 at n0_ n1_ n2_ n3_ n4_ n5_ ⊢
           have HO_5:=n0_
           have HO_23:=n1_
           have BK513:=n2_
           have BK514:=n3_
           have BK524:=n4_
           have HB:=n5_
           clear n0_ n1_ n2_ n3_ n4_ n5_
           have n0_:=qaa.mk (Kd.R_drew HO_5.out)
           have n1_:=qaa.mk (Kd.R_drew HO_23.out)
           have n2_:=qaa.mk (qab BK513.out)
           have n3_:=qaa.mk (qab BK514.out)
           have n4_:=qaa.mk (qab BK524.out)
           have n5_:=qaa.mk (qcz HB.out)
           clear HO_5
           clear HO_23
           clear BK513
           clear BK514
           clear BK524
           clear HB
           have HO_5:=n0_
           have HO_23:=n1_
           have BK513:=n2_
           have BK514:=n3_
           have BK524:=n4_
           have HB:=n5_
           clear n0_ n1_ n2_ n3_ n4_ n5_
           have p525:0≤(x25_1:Int):=of_decide_eq_true (by (with_reducible assumption))
           have q525:x25_1<(t517.length:Int):=of_decide_eq_true (by (with_reducible assumption))
           obtain ⟨ad525,e525,hx525_0,hx525_1⟩:=qgv (Kd.R_reads' HO_5.out).2.2 x25_1 p525 q525
           cases e525
           replace p525:=eq_true p525
           replace q525:=eq_true q525
           refine qew (n:=17) (S:=fun w'=>w'.cell? ⟨gb524,0,none⟩=some (.int .i64 ((qav t520 x25_1).f0))∧w'.cell? ⟨gb524,1,none⟩=some (.int .i64 ((qav t520 x25_1).f1))∧w'.cell? (ad525.add ((x25_1).toNat*2))=some (.int .i64 ((qav t517 x25_1).f0))∧w'.cell? ⟨(ad525.add ((x25_1).toNat*2)).block,(ad525.add ((x25_1).toNat*2)).off+1,none⟩=some (.int .i64 ((qav t517 x25_1).f1))) (ds:=[]) #[false,false,false,false,false,false,false,false,false,false,false,false,false,false,false,false,false] (by kernel_rfl) rfl rfl ⟨(qac BK524.out 0).trans rfl,(qac BK524.out 1).trans rfl,hx525_0,hx525_1⟩ (fun hHeld=>?_);refine qdv qam.tab11 qam.bits11 (fun HT_ HW_=>?_)
           generalize w30.drew=w31 at HO_5 HO_23 BK513 BK514 BK524 HB hx525_0 hx525_1 hHeld ⊢
           refine qcr (i:=0) (N:=some 30) (v:=?_) (a':=?_) #[true,false,false,false,false,false,false,false,false,false,false,false,false,false,false,false,false] rfl rfl (qca HT_.out (by kernel_rfl)) (fun _ _ _ h=>h) (Or.inl ⟨by rfl,?_⟩) ?_ ?_
           rotate_left
           ·intro w'
            go_simp
            with_reducible rfl
           rotate_left
           ·simp only [Act.put,List.setIfInBounds_toArray,List.set_cons_zero,List.set_cons_succ,qbd,qbe]
            rfl
           refine qcr (i:=1) (N:=some 31) (v:=?_) (a':=?_) #[true,true,false,false,false,false,false,false,false,false,false,false,false,false,false,false,false] rfl rfl (qca HT_.out (by kernel_rfl)) (fun _ _ _ h=>h) (Or.inl ⟨by rfl,?_⟩) ?_ ?_
           rotate_left
           ·intro w'
            go_simp
            with_reducible rfl
           rotate_left
           ·simp only [Act.put,List.setIfInBounds_toArray,List.set_cons_zero,List.set_cons_succ,qbd,qbe]
            rfl
           refine qcr (i:=2) (N:=some 32) (v:=?_) (a':=?_) #[true,true,true,false,false,false,false,false,false,false,false,false,false,false,false,false,false] rfl rfl (qca HT_.out (by kernel_rfl)) (fun _ _ _ h=>h) (Or.inl ⟨by rfl,?_⟩) ?_ ?_
           rotate_left
           ·intro w'
            go_simp
            with_reducible rfl
           rotate_left
           ·simp only [Act.put,List.setIfInBounds_toArray,List.set_cons_zero,List.set_cons_succ,qbd,qbe]
            rfl
           refine take_ (i:=3) (N:=some 33) (v:=?_) (a':=?_) #[true,true,true,true,false,false,false,false,false,false,false,false,false,false,false,false,false] rfl rfl (qce HT_.out HW_.out (by kernel_rfl)) (fun _ _ _ h=>h) (Or.inl ⟨by rfl,?_⟩) hHeld ?_ ?_
           rotate_left
           ·rintro w' ⟨s0,s1,s2,s3⟩
            go_simp
            with_reducible rfl
           rotate_left
           ·simp only [Act.put,List.setIfInBounds_toArray,List.set_cons_zero,List.set_cons_succ,qbd,qbe]
            rfl
           refine take_ (i:=4) (N:=some 34) (v:=?_) (a':=?_) #[true,true,true,true,true,false,false,false,false,false,false,false,false,false,false,false,false] rfl rfl (qce HT_.out HW_.out (by kernel_rfl)) (fun _ _ _ h=>h) (Or.inl ⟨by rfl,?_⟩) hHeld ?_ ?_
           rotate_left
           ·rintro w' ⟨s0,s1,s2,s3⟩
            go_simp
            with_reducible rfl
           rotate_left
           ·simp only [Act.put,List.setIfInBounds_toArray,List.set_cons_zero,List.set_cons_succ,qbd,qbe]
            rfl
           refine qcr (i:=5) (N:=some 35) (v:=?_) (a':=?_) #[true,true,true,true,true,true,false,false,false,false,false,false,false,false,false,false,false] rfl rfl (qca HT_.out (by kernel_rfl)) (fun _ _ _ h=>h) (Or.inl ⟨by rfl,?_⟩) ?_ ?_
           rotate_left
           ·intro w'
            go_simp
            with_reducible rfl
           rotate_left
           ·simp only [Act.put,List.setIfInBounds_toArray,List.set_cons_zero,List.set_cons_succ,qbd,qbe]
            rfl
           refine qcr (i:=6) (N:=some 36) (v:=?_) (a':=?_) #[true,true,true,true,true,true,true,false,false,false,false,false,false,false,false,false,false] rfl rfl (qca HT_.out (by kernel_rfl)) (fun _ _ _ h=>h) (Or.inl ⟨by rfl,?_⟩) ?_ ?_
           rotate_left
           ·intro w'
            go_simp
            with_reducible rfl
           rotate_left
           ·simp only [Act.put,List.setIfInBounds_toArray,List.set_cons_zero,List.set_cons_succ,qbd,qbe]
            rfl
           refine qcr (i:=7) (N:=some 37) (v:=undef) (a':=?_) #[true,true,true,true,true,true,true,true,false,false,false,false,false,false,false,false,false] rfl rfl (qca HT_.out (by kernel_rfl)) (fun _ _ _ h=>h) (Or.inr ⟨by rfl,rfl⟩) ?_ ?_
           rotate_left
           ·simp only [Act.put,List.setIfInBounds_toArray,List.set_cons_zero,List.set_cons_succ,qbd,qbe]
            rfl
           refine qcr (i:=8) (N:=some 38) (v:=undef) (a':=?_) #[true,true,true,true,true,true,true,true,true,false,false,false,false,false,false,false,false] rfl rfl (qca HT_.out (by kernel_rfl)) (fun _ _ _ h=>h) (Or.inr ⟨by rfl,rfl⟩) ?_ ?_
           rotate_left
           ·simp only [Act.put,List.setIfInBounds_toArray,List.set_cons_zero,List.set_cons_succ,qbd,qbe]
            rfl
           refine qcr (i:=9) (N:=some 39) (v:=undef) (a':=?_) #[true,true,true,true,true,true,true,true,true,true,false,false,false,false,false,false,false] rfl rfl (qca HT_.out (by kernel_rfl)) (fun _ _ _ h=>h) (Or.inr ⟨by rfl,rfl⟩) ?_ ?_
           rotate_left
           ·simp only [Act.put,List.setIfInBounds_toArray,List.set_cons_zero,List.set_cons_succ,qbd,qbe]
            rfl
           refine qcr (i:=10) (N:=some 40) (v:=undef) (a':=?_) #[true,true,true,true,true,true,true,true,true,true,true,false,false,false,false,false,false] rfl rfl (qca HT_.out (by kernel_rfl)) (fun _ _ _ h=>h) (Or.inr ⟨by rfl,rfl⟩) ?_ ?_
           rotate_left
           ·simp only [Act.put,List.setIfInBounds_toArray,List.set_cons_zero,List.set_cons_succ,qbd,qbe]
            rfl
           refine qcr (i:=11) (N:=some 41) (v:=undef) (a':=?_) #[true,true,true,true,true,true,true,true,true,true,true,true,false,false,false,false,false] rfl rfl (qca HT_.out (by kernel_rfl)) (fun _ _ _ h=>h) (Or.inr ⟨by rfl,rfl⟩) ?_ ?_
           rotate_left
           ·simp only [Act.put,List.setIfInBounds_toArray,List.set_cons_zero,List.set_cons_succ,qbd,qbe]
            rfl
           refine qcr (i:=12) (N:=some 42) (v:=undef) (a':=?_) #[true,true,true,true,true,true,true,true,true,true,true,true,true,false,false,false,false] rfl rfl (qca HT_.out (by kernel_rfl)) (fun _ _ _ h=>h) (Or.inr ⟨by rfl,rfl⟩) ?_ ?_
           rotate_left
           ·simp only [Act.put,List.setIfInBounds_toArray,List.set_cons_zero,List.set_cons_succ,qbd,qbe]
            rfl
           refine qcr (i:=13) (N:=some 43) (v:=undef) (a':=?_) #[true,true,true,true,true,true,true,true,true,true,true,true,true,true,false,false,false] rfl rfl (qca HT_.out (by kernel_rfl)) (fun _ _ _ h=>h) (Or.inr ⟨by rfl,rfl⟩) ?_ ?_
           rotate_left
           ·simp only [Act.put,List.setIfInBounds_toArray,List.set_cons_zero,List.set_cons_succ,qbd,qbe]
            rfl
           refine qcr (i:=14) (N:=some 44) (v:=undef) (a':=?_) #[true,true,true,true,true,true,true,true,true,true,true,true,true,true,true,false,false] rfl rfl (qca HT_.out (by kernel_rfl)) (fun _ _ _ h=>h) (Or.inr ⟨by rfl,rfl⟩) ?_ ?_
           rotate_left
           ·simp only [Act.put,List.setIfInBounds_toArray,List.set_cons_zero,List.set_cons_succ,qbd,qbe]
            rfl
           refine qcr (i:=15) (N:=some 45) (v:=undef) (a':=?_) #[true,true,true,true,true,true,true,true,true,true,true,true,true,true,true,true,false] rfl rfl (qca HT_.out (by kernel_rfl)) (fun _ _ _ h=>h) (Or.inr ⟨by rfl,rfl⟩) ?_ ?_
           rotate_left
           ·simp only [Act.put,List.setIfInBounds_toArray,List.set_cons_zero,List.set_cons_succ,qbd,qbe]
            rfl
           refine qcr (i:=16) (N:=some 46) (v:=?_) (a':=?_) #[true,true,true,true,true,true,true,true,true,true,true,true,true,true,true,true,true] rfl rfl (qca HT_.out (by kernel_rfl)) (fun _ _ _ h=>h) (Or.inl ⟨by rfl,?_⟩) ?_ ?_
           rotate_left
           ·intro w'
            go_simp
            with_reducible rfl
           rotate_left
           ·simp only [Act.put,List.setIfInBounds_toArray,List.set_cons_zero,List.set_cons_succ,qbd,qbe]
            rfl
           refine qfj (qek HT_.out (by kernel_rfl)) ?_
           try go_wp2
           go_ret
           exact ⟨by rfl,by repeat ((with_reducible exact HB.out))⟩
          ·rw [if_neg c25] at H
           have c25b0:(!(((qav t517 x25_1).f0)==((qav t520 x25_1).f0))||(!(((qav t517 x25_1).f1)==((qav t520 x25_1).f1))))=false:=by simpa using c25
           clear c25
           replace H:=Option.bind_eq_some_iff.mp H
           obtain ⟨t526,A320,H⟩:=H
           replace H:((qci.f t526).bind fun t529=>((qaj.f k1 a0_0 a0_1 l0_2 ((qav t520 x25_1).f0) ((qav t520 x25_1).f1)).bind fun t532=>((qak.f k1 t529 t532).bind fun t535=>(if t535=true then (qam.l0 k1 t517 t520 (t520.length:Int) (wrap64 (x25_1+1)) a0_0 a0_1 l0_2 a1_0 a1_1) else (some false)))))=some r:=H
           have A32:=qaa.mk A320
           clear A320
           replace H:=Option.bind_eq_some_iff.mp H
           obtain ⟨t529,A330,H⟩:=H
           replace H:((qaj.f k1 a0_0 a0_1 l0_2 ((qav t520 x25_1).f0) ((qav t520 x25_1).f1)).bind fun t532=>((qak.f k1 t529 t532).bind fun t535=>(if t535=true then (qam.l0 k1 t517 t520 (t520.length:Int) (wrap64 (x25_1+1)) a0_0 a0_1 l0_2 a1_0 a1_1) else (some false))))=some r:=H
           have A33:=qaa.mk A330
           clear A330
           replace H:=Option.bind_eq_some_iff.mp H
           obtain ⟨t532,A340,H⟩:=H
           replace H:((qak.f k1 t529 t532).bind fun t535=>(if t535=true then (qam.l0 k1 t517 t520 (t520.length:Int) (wrap64 (x25_1+1)) a0_0 a0_1 l0_2 a1_0 a1_1) else (some false)))=some r:=H
           have A34:=qaa.mk A340
           clear A340
           replace H:=Option.bind_eq_some_iff.mp H
           obtain ⟨t535,A350,H⟩:=H
           replace H:(if t535=true then (qam.l0 k1 t517 t520 (t520.length:Int) (wrap64 (x25_1+1)) a0_0 a0_1 l0_2 a1_0 a1_1) else (some false))=some r:=H
           have A35:=qaa.mk A350
           clear A350
           by_cases c36:t535=true
           ·subst c36
            have H1:(qam.l0 k1 t517 t520 (t520.length:Int) (wrap64 (x25_1+1)) a0_0 a0_1 l0_2 a1_0 a1_1)=some r:=by rw [if_pos rfl] at H;exact H
            clear H
            have H:=H1
            clear H1
            have H':=qaa.mk H
            clear H
            have p523:0≤(x25_1:Int):=of_decide_eq_true (by (with_reducible assumption))
            have q523:x25_1<(t520.length:Int):=of_decide_eq_true (by (with_reducible assumption))
            obtain ⟨ad523,e523,hx523_0,hx523_1⟩:=qgv (Kd.R_reads' HO_23.out).2.2 x25_1 p523 q523
            cases e523
            replace p523:=eq_true p523
            replace q523:=eq_true q523
            try go_wp2_with (((with_reducible refine qbf (N:=8) rfl ?_);refine qbk ?hg (N:=8) ?hd (cs:=#[.int .i64 0,.int .i64 0]) (t:=39) ?hr ?_;(case hd=>rfl);(case hg=>rfl);(case hr=>(go_simp;done));intro gb524 hg w37 hbox hb;replace HO_5:=qaa.mk (Kd.R_below (Kd.R_elderB (by (with_reducible repeat (apply Kd.R_drew));exact HO_5.out) gb524 (Nat.le_of_eq hg.symm)) hb);replace HO_23:=qaa.mk (Kd.R_below (Kd.R_elderB (by (with_reducible repeat (apply Kd.R_drew));exact HO_23.out) gb524 (Nat.le_of_eq hg.symm)) hb);have BK524:=qaa.mk (hbox);have GW524:=qaa.mk ((by rw [hg];exact (qad HB.out):w.heap.size≤gb524));have GE524:=qaa.mk ((by rw [hg];exact (qad HB.out):w.heap.size≤gb524));replace HB:=qaa.mk (qai HB.out hb);have NB513_524:=qaa.mk ((by rw [hg];exact Nat.ne_of_lt (qbh (g:=gb513) (o:=.cells #[.bool a0_0,.int .i64 a0_1,.slice A0_2 l0_2.length c0_2] 24 (0,0)) (by (with_reducible repeat (refine qab ?_));exact BK513.out)):gb513≠gb524));have NB524_513:=qaa.mk ((by rw [hg];exact Nat.ne_of_gt (qbh (g:=gb513) (o:=.cells #[.bool a0_0,.int .i64 a0_1,.slice A0_2 l0_2.length c0_2] 24 (0,0)) (by (with_reducible repeat (refine qab ?_));exact BK513.out)):gb524≠gb513));replace BK513:=qaa.mk (qaf (g:=gb513) (o:=.cells #[.bool a0_0,.int .i64 a0_1,.slice A0_2 l0_2.length c0_2] 24 (0,0)) (by (with_reducible repeat (refine qab ?_));exact BK513.out) hb);have NB514_524:=qaa.mk ((by rw [hg];exact Nat.ne_of_lt (qbh (g:=gb514) (o:=.cells #[.int .i64 a1_0,.int .i64 a1_1] 39 (0,0)) (by (with_reducible repeat (refine qab ?_));exact BK514.out)):gb514≠gb524));have NB524_514:=qaa.mk ((by rw [hg];exact Nat.ne_of_gt (qbh (g:=gb514) (o:=.cells #[.int .i64 a1_0,.int .i64 a1_1] 39 (0,0)) (by (with_reducible repeat (refine qab ?_));exact BK514.out)):gb524≠gb514));replace BK514:=qaa.mk (qaf (g:=gb514) (o:=.cells #[.int .i64 a1_0,.int .i64 a1_1] 39 (0,0)) (by (with_reducible repeat (refine qab ?_));exact BK514.out) hb);clear hb hbox hg;have hnb38:=NB524_513.out;have hnc38:=NB513_524.out;have hnb39:=NB524_514.out;have hnc39:=NB514_524.out;have hcz40_0:w37.cell? ⟨gb524,0,none⟩=some (.int .i64 0):=(qac BK524.out 0).trans rfl;have hcz40_1:w37.cell? ⟨gb524,1,none⟩=some (.int .i64 0):=(qac BK524.out 1).trans rfl;have hfz40_0:=qag BK524.out 0;have hfz40_1:=qag BK524.out 1))
            have n0_:qaa (Kd.R k39 39 ((w37.setCell ⟨gb524,0,none⟩ (.int .i64 ((qav t520 x25_1).f0))).setCell ⟨gb524,1,none⟩ (.int .i64 ((qav t520 x25_1).f1))) w.heap.size (fun k_=>some k_≠(.slice (some ad523) t520.length co20:Value).ownBlock∧k_≠gb514∧k_≠gb524) (.slice Ao19 t517.length co19) t517):=⟨by (with_reducible repeat (apply Kd.R_drew));exact Kd.R_mono (Kd.R_far (p:=⟨gb524,1,none⟩) (Kd.R_far (p:=⟨gb524,0,none⟩) (Kd.R_mono HO_5.out (fun k_ hk=>(⟨hk,hk.2⟩:_∧k_≠gb524))) (fun _ hk=>hk.2) (.int .i64 ((qav t520 x25_1).f0))) (fun _ hk=>hk.2) (.int .i64 ((qav t520 x25_1).f1))) (fun _ hk=>⟨hk.1.1.1,⟨hk.1.1.2,hk.1.2⟩⟩)⟩
            have n1_:qaa (Kd.R k39 39 ((w37.setCell ⟨gb524,0,none⟩ (.int .i64 ((qav t520 x25_1).f0))).setCell ⟨gb524,1,none⟩ (.int .i64 ((qav t520 x25_1).f1))) w.heap.size (fun k_=>some k_≠(.slice Ao19 t517.length co19:Value).ownBlock∧k_≠gb514∧k_≠gb524) (.slice (some ad523) t520.length co20) t520):=⟨by (with_reducible repeat (apply Kd.R_drew));exact Kd.R_mono (Kd.R_far (p:=⟨gb524,1,none⟩) (Kd.R_far (p:=⟨gb524,0,none⟩) (Kd.R_mono HO_23.out (fun k_ hk=>(⟨hk,hk.2⟩:_∧k_≠gb524))) (fun _ hk=>hk.2) (.int .i64 ((qav t520 x25_1).f0))) (fun _ hk=>hk.2) (.int .i64 ((qav t520 x25_1).f1))) (fun _ hk=>⟨hk.1.1.1,⟨hk.1.1.2,hk.1.2⟩⟩)⟩
            have n2_:qaa (((w37.setCell ⟨gb524,0,none⟩ (.int .i64 ((qav t520 x25_1).f0))).setCell ⟨gb524,1,none⟩ (.int .i64 ((qav t520 x25_1).f1))).heap[gb513]?=some (.cells #[.bool a0_0,.int .i64 a0_1,.slice A0_2 l0_2.length c0_2] 24 (0,0))):=⟨by (with_reducible repeat (refine qab ?_));refine qcm ?_ NB513_524.out _;(with_reducible repeat (refine qab ?_));refine qcm ?_ NB513_524.out _;(with_reducible repeat (refine qab ?_));exact BK513.out⟩
            have n3_:qaa (((w37.setCell ⟨gb524,0,none⟩ (.int .i64 ((qav t520 x25_1).f0))).setCell ⟨gb524,1,none⟩ (.int .i64 ((qav t520 x25_1).f1))).heap[gb514]?=some (.cells #[.int .i64 a1_0,.int .i64 a1_1] 39 (0,0))):=⟨by (with_reducible repeat (refine qab ?_));refine qcm ?_ NB514_524.out _;(with_reducible repeat (refine qab ?_));refine qcm ?_ NB514_524.out _;(with_reducible repeat (refine qab ?_));exact BK514.out⟩
            have n4_:qaa (((w37.setCell ⟨gb524,0,none⟩ (.int .i64 ((qav t520 x25_1).f0))).setCell ⟨gb524,1,none⟩ (.int .i64 ((qav t520 x25_1).f1))).heap[gb524]?=some (.cells #[.int .i64 ((qav t520 x25_1).f0),.int .i64 ((qav t520 x25_1).f1)] 39 (0,0))):=⟨by (with_reducible repeat (refine qab ?_));refine qct (cs:=#[.int .i64 ((qav t520 x25_1).f0),.int .i64 0]) ?_ 1 _ rfl;(with_reducible repeat (refine qab ?_));refine qct (cs:=#[.int .i64 0,.int .i64 0]) ?_ 0 _ rfl;(with_reducible repeat (refine qab ?_));exact BK524.out⟩
            have n5_:qaa (Below w.heap.size w ((w37.setCell ⟨gb524,0,none⟩ (.int .i64 ((qav t520 x25_1).f0))).setCell ⟨gb524,1,none⟩ (.int .i64 ((qav t520 x25_1).f1)))):=⟨by repeat ((with_reducible first|exact HB.out|refine qby ?_ GE524.out))⟩
            (try clear HO_5)
            (try clear HO_23)
            (try clear BK513)
            (try clear BK514)
            (try clear BK524)
            (try clear HB)
            generalize ((w37.setCell ⟨gb524,0,none⟩ (.int .i64 ((qav t520 x25_1).f0))).setCell ⟨gb524,1,none⟩ (.int .i64 ((qav t520 x25_1).f1)))=w41 at n0_ n1_ n2_ n3_ n4_ n5_ ⊢
            have HO_5:=n0_
            have HO_23:=n1_
            have BK513:=n2_
            have BK514:=n3_
            have BK524:=n4_
            have HB:=n5_
            clear n0_ n1_ n2_ n3_ n4_ n5_
            have n0_:=qaa.mk (Kd.R_drew HO_5.out)
            have n1_:=qaa.mk (Kd.R_drew HO_23.out)
            have n2_:=qaa.mk (qab BK513.out)
            have n3_:=qaa.mk (qab BK514.out)
            have n4_:=qaa.mk (qab BK524.out)
            have n5_:=qaa.mk (qcz HB.out)
            clear HO_5
            clear HO_23
            clear BK513
            clear BK514
            clear BK524
            clear HB
            have HO_5:=n0_
            have HO_23:=n1_
            have BK513:=n2_
            have BK514:=n3_
            have BK524:=n4_
            have HB:=n5_
            clear n0_ n1_ n2_ n3_ n4_ n5_
            have p525:0≤(x25_1:Int):=of_decide_eq_true (by (with_reducible assumption))
            have q525:x25_1<(t517.length:Int):=of_decide_eq_true (by (with_reducible assumption))
            obtain ⟨ad525,e525,hx525_0,hx525_1⟩:=qgv (Kd.R_reads' HO_5.out).2.2 x25_1 p525 q525
            cases e525
            replace p525:=eq_true p525
            replace q525:=eq_true q525
            refine qew (n:=17) (S:=fun w'=>w'.cell? ⟨gb524,0,none⟩=some (.int .i64 ((qav t520 x25_1).f0))∧w'.cell? ⟨gb524,1,none⟩=some (.int .i64 ((qav t520 x25_1).f1))∧w'.cell? ⟨gb513,0,none⟩=some (.bool a0_0)∧w'.cell? ⟨gb513,1,none⟩=some (.int .i64 a0_1)∧w'.cell? ⟨gb513,2,none⟩=some (.slice A0_2 l0_2.length c0_2)∧w'.cell? (ad525.add ((x25_1).toNat*2))=some (.int .i64 ((qav t517 x25_1).f0))∧w'.cell? ⟨(ad525.add ((x25_1).toNat*2)).block,(ad525.add ((x25_1).toNat*2)).off+1,none⟩=some (.int .i64 ((qav t517 x25_1).f1))) (ds:=[]) #[false,false,false,false,false,false,false,false,false,false,false,false,false,false,false,false,false] (by kernel_rfl) rfl rfl ⟨(qac BK524.out 0).trans rfl,(qac BK524.out 1).trans rfl,(qac BK513.out 0).trans rfl,(qac BK513.out 1).trans rfl,(qac BK513.out 2).trans rfl,hx525_0,hx525_1⟩ (fun hHeld=>?_);refine qdv qam.tab11 qam.bits11 (fun HT_ HW_=>?_)
            generalize w41.drew=w42 at HO_5 HO_23 BK513 BK514 BK524 HB hx525_0 hx525_1 hHeld ⊢
            refine qcr (i:=0) (N:=some 30) (v:=?_) (a':=?_) #[true,false,false,false,false,false,false,false,false,false,false,false,false,false,false,false,false] rfl rfl (qca HT_.out (by kernel_rfl)) (fun _ _ _ h=>h) (Or.inl ⟨by rfl,?_⟩) ?_ ?_
            rotate_left
            ·intro w'
             go_simp
             with_reducible rfl
            rotate_left
            ·simp only [Act.put,List.setIfInBounds_toArray,List.set_cons_zero,List.set_cons_succ,qbd,qbe]
             rfl
            refine qcr (i:=1) (N:=some 31) (v:=?_) (a':=?_) #[true,true,false,false,false,false,false,false,false,false,false,false,false,false,false,false,false] rfl rfl (qca HT_.out (by kernel_rfl)) (fun _ _ _ h=>h) (Or.inl ⟨by rfl,?_⟩) ?_ ?_
            rotate_left
            ·intro w'
             go_simp
             with_reducible rfl
            rotate_left
            ·simp only [Act.put,List.setIfInBounds_toArray,List.set_cons_zero,List.set_cons_succ,qbd,qbe]
             rfl
            refine qcr (i:=2) (N:=some 32) (v:=?_) (a':=?_) #[true,true,true,false,false,false,false,false,false,false,false,false,false,false,false,false,false] rfl rfl (qca HT_.out (by kernel_rfl)) (fun _ _ _ h=>h) (Or.inl ⟨by rfl,?_⟩) ?_ ?_
            rotate_left
            ·intro w'
             go_simp
             with_reducible rfl
            rotate_left
            ·simp only [Act.put,List.setIfInBounds_toArray,List.set_cons_zero,List.set_cons_succ,qbd,qbe]
             rfl
            refine take_ (i:=3) (N:=some 33) (v:=?_) (a':=?_) #[true,true,true,true,false,false,false,false,false,false,false,false,false,false,false,false,false] rfl rfl (qce HT_.out HW_.out (by kernel_rfl)) (fun _ _ _ h=>h) (Or.inl ⟨by rfl,?_⟩) hHeld ?_ ?_
            rotate_left
            ·rintro w' ⟨s0,s1,s2,s3,s4,s5,s6⟩
             go_simp
             with_reducible rfl
            rotate_left
            ·simp only [Act.put,List.setIfInBounds_toArray,List.set_cons_zero,List.set_cons_succ,qbd,qbe]
             rfl
            refine take_ (i:=4) (N:=some 34) (v:=?_) (a':=?_) #[true,true,true,true,true,false,false,false,false,false,false,false,false,false,false,false,false] rfl rfl (qce HT_.out HW_.out (by kernel_rfl)) (fun _ _ _ h=>h) (Or.inl ⟨by rfl,?_⟩) hHeld ?_ ?_
            rotate_left
            ·rintro w' ⟨s0,s1,s2,s3,s4,s5,s6⟩
             go_simp
             with_reducible rfl
            rotate_left
            ·simp only [Act.put,List.setIfInBounds_toArray,List.set_cons_zero,List.set_cons_succ,qbd,qbe]
             rfl
            refine qcr (i:=5) (N:=some 35) (v:=?_) (a':=?_) #[true,true,true,true,true,true,false,false,false,false,false,false,false,false,false,false,false] rfl rfl (qca HT_.out (by kernel_rfl)) (fun _ _ _ h=>h) (Or.inl ⟨by rfl,?_⟩) ?_ ?_
            rotate_left
            ·intro w'
             go_simp
             with_reducible rfl
            rotate_left
            ·simp only [Act.put,List.setIfInBounds_toArray,List.set_cons_zero,List.set_cons_succ,qbd,qbe]
             rfl
            refine qcr (i:=6) (N:=some 36) (v:=?_) (a':=?_) #[true,true,true,true,true,true,true,false,false,false,false,false,false,false,false,false,false] rfl rfl (qca HT_.out (by kernel_rfl)) (fun _ _ _ h=>h) (Or.inl ⟨by rfl,?_⟩) ?_ ?_
            rotate_left
            ·intro w'
             go_simp
             with_reducible rfl
            rotate_left
            ·simp only [Act.put,List.setIfInBounds_toArray,List.set_cons_zero,List.set_cons_succ,qbd,qbe]
             rfl
            refine take_ (i:=7) (N:=some 37) (v:=?_) (a':=?_) #[true,true,true,true,true,true,true,true,false,false,false,false,false,false,false,false,false] rfl rfl (qce HT_.out HW_.out (by kernel_rfl)) (fun _ _ _ h=>h) (Or.inl ⟨by rfl,?_⟩) hHeld ?_ ?_
            rotate_left
            ·rintro w' ⟨s0,s1,s2,s3,s4,s5,s6⟩
             go_simp
             with_reducible rfl
            rotate_left
            ·simp only [Act.put,List.setIfInBounds_toArray,List.set_cons_zero,List.set_cons_succ,qbd,qbe]
             rfl
            refine take_ (i:=8) (N:=some 38) (v:=?_) (a':=?_) #[true,true,true,true,true,true,true,true,true,false,false,false,false,false,false,false,false] rfl rfl (qce HT_.out HW_.out (by kernel_rfl)) (fun _ _ _ h=>h) (Or.inl ⟨by rfl,?_⟩) hHeld ?_ ?_
            rotate_left
            ·rintro w' ⟨s0,s1,s2,s3,s4,s5,s6⟩
             go_simp
             with_reducible rfl
            rotate_left
            ·simp only [Act.put,List.setIfInBounds_toArray,List.set_cons_zero,List.set_cons_succ,qbd,qbe]
             rfl
            refine take_ (i:=11) (N:=some 41) (v:=?_) (a':=?_) #[true,true,true,true,true,true,true,true,true,false,false,true,false,false,false,false,false] rfl rfl (qce HT_.out HW_.out (by kernel_rfl)) (fun _ _ _ h=>h) (Or.inl ⟨by rfl,?_⟩) hHeld ?_ ?_
            rotate_left
            ·rintro w' ⟨s0,s1,s2,s3,s4,s5,s6⟩
             go_simp
             with_reducible rfl
            rotate_left
            ·simp only [Act.put,List.setIfInBounds_toArray,List.set_cons_zero,List.set_cons_succ,qbd,qbe]
             rfl
            refine take_ (i:=12) (N:=some 42) (v:=?_) (a':=?_) #[true,true,true,true,true,true,true,true,true,false,false,true,true,false,false,false,false] rfl rfl (qce HT_.out HW_.out (by kernel_rfl)) (fun _ _ _ h=>h) (Or.inl ⟨by rfl,?_⟩) hHeld ?_ ?_
            rotate_left
            ·rintro w' ⟨s0,s1,s2,s3,s4,s5,s6⟩
             go_simp
             with_reducible rfl
            rotate_left
            ·simp only [Act.put,List.setIfInBounds_toArray,List.set_cons_zero,List.set_cons_succ,qbd,qbe]
             rfl
            refine one_ (i:=9) (N:=some 39) #[true,true,true,true,true,true,true,true,true,true,false,true,true,false,false,false,false] rfl rfl (qdg HT_.out (by kernel_rfl)) (by decide) (fun K hK=>?_)
            refine qdz Tryd.func28 (by kernel_rfl) rfl #[.agg #[.bool a0_0,.int .i64 a0_1,.slice A0_2 l0_2.length c0_2],.agg #[.int .i64 ((qav t520 x25_1).f0),.int .i64 ((qav t520 x25_1).f1)]] (by rfl) rfl rfl (by (try simp only [List.map_toArray,List.map_cons,List.map_nil]);rfl) ?_
            with_reducible refine (qbq.calls k1 a0_0 a0_1 _ _ l0_2 ((qav t520 x25_1).f0) ((qav t520 x25_1).f1) t526 _ ?side1 ?side2 ?side3 A32.out).mono ?_
            (case side1=>exact TabW.below' HTB.out HB.out)
            (case side2=>repeat (exact (Kd.C_below HR0_2.out HB.out)))
            (case side3=>exact HC0_2.out)
            rintro e w43 ⟨v527,rfl,ho0,hb⟩
            have HS5_:=(hb.cell (World.block_lt_of_cell? _ _ (hHeld.2.2.2.2.2.1))).trans (hHeld.2.2.2.2.2.1)
            have HS6_:=(hb.cell (World.block_lt_of_cell? _ _ (hHeld.2.2.2.2.2.2))).trans (hHeld.2.2.2.2.2.2)
            refine ⟨_,rfl,?_⟩
            have n0_:=qaa.mk (Kd.R_below (by (with_reducible repeat (apply Kd.R_drew));exact HO_5.out) hb)
            have n1_:=qaa.mk (Kd.R_below (by (with_reducible repeat (apply Kd.R_drew));exact HO_23.out) hb)
            have n2_:=qaa.mk (Kd.V_lower (Kd.V_mono (ok':=fun k_=>some k_≠(.slice (some ad525) t517.length co19:Value).ownBlock∧some k_≠(.slice (some ad523) t520.length co20:Value).ownBlock∧k_≠gb513∧k_≠gb514∧k_≠gb524) ho0 (fun k_ hk_=>⟨(Kd.fresh' (Kd.R_lt (by (with_reducible repeat (apply Kd.R_drew));exact HO_5.out)) k_ hk_),(Kd.fresh' (Kd.R_lt (by (with_reducible repeat (apply Kd.R_drew));exact HO_23.out)) k_ hk_),(Kd.freshB (g:=gb513) (o:=.cells #[.bool a0_0,.int .i64 a0_1,.slice A0_2 l0_2.length c0_2] 24 (0,0)) (by (with_reducible repeat (refine qab ?_));exact BK513.out) k_ hk_),(Kd.freshB (g:=gb514) (o:=.cells #[.int .i64 a1_0,.int .i64 a1_1] 39 (0,0)) (by (with_reducible repeat (refine qab ?_));exact BK514.out) k_ hk_),(Kd.freshB (g:=gb524) (o:=.cells #[.int .i64 ((qav t520 x25_1).f0),.int .i64 ((qav t520 x25_1).f1)] 39 (0,0)) (by (with_reducible repeat (refine qab ?_));exact BK524.out) k_ hk_)⟩)) (qad HB.out))
            have n3_:=qaa.mk (qaf (g:=gb513) (o:=.cells #[.bool a0_0,.int .i64 a0_1,.slice A0_2 l0_2.length c0_2] 24 (0,0)) (by (with_reducible repeat (refine qab ?_));exact BK513.out) hb)
            have n4_:=qaa.mk (qaf (g:=gb514) (o:=.cells #[.int .i64 a1_0,.int .i64 a1_1] 39 (0,0)) (by (with_reducible repeat (refine qab ?_));exact BK514.out) hb)
            have n5_:=qaa.mk (qaf (g:=gb524) (o:=.cells #[.int .i64 ((qav t520 x25_1).f0),.int .i64 ((qav t520 x25_1).f1)] 39 (0,0)) (by (with_reducible repeat (refine qab ?_));exact BK524.out) hb)
            have n6_:=qaa.mk (qai HB.out hb)
            clear HO_5
            clear HO_23
            clear BK513
            clear BK514
            clear BK524
            clear HB
            have HO_5:=n0_
            have HO_23:=n1_
            have HO528:=n2_
            have BK513:=n3_
            have BK514:=n4_
            have BK524:=n5_
            have HB:=n6_
            clear n0_ n1_ n2_ n3_ n4_ n5_ n6_
            (try clear hb)
            (try clear ho0)
            obtain ⟨Ao44,co44,eo44⟩:=Kd.V_slice HO528.out
            (subst eo44)
            refine hK.out _ _ ⟨(qac BK524.out 0).trans rfl,(qac BK524.out 1).trans rfl,(qac BK513.out 0).trans rfl,(qac BK513.out 1).trans rfl,(qac BK513.out 2).trans rfl,HS5_,HS6_⟩ (fun hHeld=>?_)
            clear hK K
            refine qdk (a':=?_) ?_ ?_
            rotate_left
            ·show Act.put _ (some 39) _=_
             simp only [Act.put,List.setIfInBounds_toArray,List.set_cons_zero,List.set_cons_succ,qbd,qbe]
             rfl
            refine one_ (i:=10) (N:=some 40) #[true,true,true,true,true,true,true,true,true,true,true,true,true,false,false,false,false] rfl rfl (qdg HT_.out (by kernel_rfl)) (by decide) (fun K hK=>?_)
            refine qdz Tryd.func23 (by kernel_rfl) rfl #[.agg #[.slice Ao44 t526.length co44]] (by rfl) rfl rfl (by (try simp only [List.map_toArray,List.map_cons,List.map_nil]);rfl) ?_
            with_reducible refine (qci.calls _ _ t526 t529 _ ?side1 ?side2 ?side3 A33.out).mono ?_
            (case side1=>exact TabW.below' HTB.out HB.out)
            (case side2=>repeat (exact (Kd.V_reads' HO528.out).2.2))
            (case side3=>exact (Kd.V_reads' HO528.out).2.1)
            rintro e w45 ⟨v530,rfl,ho0,hb⟩
            have HS5_:=(hb.cell (World.block_lt_of_cell? _ _ (hHeld.2.2.2.2.2.1))).trans (hHeld.2.2.2.2.2.1)
            have HS6_:=(hb.cell (World.block_lt_of_cell? _ _ (hHeld.2.2.2.2.2.2))).trans (hHeld.2.2.2.2.2.2)
            refine ⟨_,rfl,?_⟩
            have n0_:=qaa.mk (Kd.R_below (by (with_reducible repeat (apply Kd.R_drew));exact HO_5.out) hb)
            have n1_:=qaa.mk (Kd.R_below (by (with_reducible repeat (apply Kd.R_drew));exact HO_23.out) hb)
            have n2_:=qaa.mk (Kd.V_elder' (by (with_reducible repeat (apply Kd.V_drew));exact HO528.out) (Kd.R_base ho0) hb)
            have n3_:=qaa.mk (Kd.R_lower ho0 (qad HB.out))
            have n4_:=qaa.mk (qaf (g:=gb513) (o:=.cells #[.bool a0_0,.int .i64 a0_1,.slice A0_2 l0_2.length c0_2] 24 (0,0)) (by (with_reducible repeat (refine qab ?_));exact BK513.out) hb)
            have n5_:=qaa.mk (qaf (g:=gb514) (o:=.cells #[.int .i64 a1_0,.int .i64 a1_1] 39 (0,0)) (by (with_reducible repeat (refine qab ?_));exact BK514.out) hb)
            have n6_:=qaa.mk (qaf (g:=gb524) (o:=.cells #[.int .i64 ((qav t520 x25_1).f0),.int .i64 ((qav t520 x25_1).f1)] 39 (0,0)) (by (with_reducible repeat (refine qab ?_));exact BK524.out) hb)
            have n7_:=qaa.mk (qai HB.out hb)
            clear HO_5
            clear HO_23
            clear HO528
            clear BK513
            clear BK514
            clear BK524
            clear HB
            have HO_5:=n0_
            have HO_23:=n1_
            have HO528:=n2_
            have HO531:=n3_
            have BK513:=n4_
            have BK514:=n5_
            have BK524:=n6_
            have HB:=n7_
            clear n0_ n1_ n2_ n3_ n4_ n5_ n6_ n7_
            (try clear hb)
            (try clear ho0)
            refine hK.out _ _ ⟨(qac BK524.out 0).trans rfl,(qac BK524.out 1).trans rfl,(qac BK513.out 0).trans rfl,(qac BK513.out 1).trans rfl,(qac BK513.out 2).trans rfl,HS5_,HS6_⟩ (fun hHeld=>?_)
            clear hK K
            refine qdk (a':=?_) ?_ ?_
            rotate_left
            ·show Act.put _ (some 40) _=_
             simp only [Act.put,List.setIfInBounds_toArray,List.set_cons_zero,List.set_cons_succ,qbd,qbe]
             rfl
            refine one_ (i:=13) (N:=some 43) #[true,true,true,true,true,true,true,true,true,true,true,true,true,true,false,false,false] rfl rfl (qdg HT_.out (by kernel_rfl)) (by decide) (fun K hK=>?_)
            refine qdz Tryd.func29 (by kernel_rfl) rfl #[.agg #[.bool a0_0,.int .i64 a0_1,.slice A0_2 l0_2.length c0_2],.agg #[.int .i64 ((qav t520 x25_1).f0),.int .i64 ((qav t520 x25_1).f1)]] (by rfl) rfl rfl (by (try simp only [List.map_toArray,List.map_cons,List.map_nil]);rfl) ?_
            with_reducible refine (qaj.calls k1 a0_0 a0_1 _ _ l0_2 ((qav t520 x25_1).f0) ((qav t520 x25_1).f1) t532 _ ?side1 ?side2 A34.out).mono ?_
            (case side1=>repeat (exact (Kd.C_below HR0_2.out HB.out)))
            (case side2=>exact HC0_2.out)
            rintro e w46 ⟨v533,rfl,ho0,hb⟩
            have HS5_:=(hb.cell (World.block_lt_of_cell? _ _ (hHeld.2.2.2.2.2.1))).trans (hHeld.2.2.2.2.2.1)
            have HS6_:=(hb.cell (World.block_lt_of_cell? _ _ (hHeld.2.2.2.2.2.2))).trans (hHeld.2.2.2.2.2.2)
            refine ⟨_,rfl,?_⟩
            have n0_:=qaa.mk (Kd.R_below (by (with_reducible repeat (apply Kd.R_drew));exact HO_5.out) hb)
            have n1_:=qaa.mk (Kd.R_below (by (with_reducible repeat (apply Kd.R_drew));exact HO_23.out) hb)
            have n2_:=qaa.mk (Kd.V_elder' (by (with_reducible repeat (apply Kd.V_drew));exact HO528.out) (Kd.R_base ho0) hb)
            have n3_:=qaa.mk (Kd.R_elder' (by (with_reducible repeat (apply Kd.R_drew));exact HO531.out) (Kd.R_base ho0) hb)
            have n4_:=qaa.mk (Kd.R_lower (Kd.R_new' ho0 (Kd.R_lt (by (with_reducible repeat (apply Kd.R_drew));exact HO531.out))) (qad HB.out))
            have n5_:=qaa.mk (qaf (g:=gb513) (o:=.cells #[.bool a0_0,.int .i64 a0_1,.slice A0_2 l0_2.length c0_2] 24 (0,0)) (by (with_reducible repeat (refine qab ?_));exact BK513.out) hb)
            have n6_:=qaa.mk (qaf (g:=gb514) (o:=.cells #[.int .i64 a1_0,.int .i64 a1_1] 39 (0,0)) (by (with_reducible repeat (refine qab ?_));exact BK514.out) hb)
            have n7_:=qaa.mk (qaf (g:=gb524) (o:=.cells #[.int .i64 ((qav t520 x25_1).f0),.int .i64 ((qav t520 x25_1).f1)] 39 (0,0)) (by (with_reducible repeat (refine qab ?_));exact BK524.out) hb)
            have n8_:=qaa.mk (qai HB.out hb)
            clear HO_5
            clear HO_23
            clear HO528
            clear HO531
            clear BK513
            clear BK514
            clear BK524
            clear HB
            have HO_5:=n0_
            have HO_23:=n1_
            have HO528:=n2_
            have HO531:=n3_
            have HO534:=n4_
            have BK513:=n5_
            have BK514:=n6_
            have BK524:=n7_
            have HB:=n8_
            clear n0_ n1_ n2_ n3_ n4_ n5_ n6_ n7_ n8_
            (try clear hb)
            (try clear ho0)
            obtain ⟨Ao47,co47,eo47⟩:=Kd.R_slice HO531.out
            (subst eo47)
            obtain ⟨Ao48,co48,eo48⟩:=Kd.R_slice HO534.out
            (subst eo48)
            refine hK.out _ _ ⟨(qac BK524.out 0).trans rfl,(qac BK524.out 1).trans rfl,(qac BK513.out 0).trans rfl,(qac BK513.out 1).trans rfl,(qac BK513.out 2).trans rfl,HS5_,HS6_⟩ (fun hHeld=>?_)
            clear hK K
            refine qdk (a':=?_) ?_ ?_
            rotate_left
            ·show Act.put _ (some 43) _=_
             simp only [Act.put,List.setIfInBounds_toArray,List.set_cons_zero,List.set_cons_succ,qbd,qbe]
             rfl
            refine one_ (i:=14) (N:=some 44) #[true,true,true,true,true,true,true,true,true,true,true,true,true,true,true,false,false] rfl rfl (qdg HT_.out (by kernel_rfl)) (by decide) (fun K hK=>?_)
            refine qdz Tryd.func18 (by kernel_rfl) rfl #[.slice Ao47 t529.length co47,.slice Ao48 t532.length co48] (by rfl) rfl rfl (by (try simp only [List.map_toArray,List.map_cons,List.map_nil]);rfl) ?_
            with_reducible refine (qak.calls k1 _ _ t529 _ _ t532 true _ ?side1 ?side2 ?side3 ?side4 A35.out).mono ?_
            (case side1=>repeat (exact (Kd.R_reads' HO531.out).2.2))
            (case side2=>exact (Kd.R_reads' HO531.out).2.1)
            (case side3=>repeat (exact (Kd.R_reads' HO534.out).2.2))
            (case side4=>exact (Kd.R_reads' HO534.out).2.1)
            rintro e w' ⟨rfl,⟨nd,rfl⟩⟩
            refine ⟨_,rfl,?_⟩
            refine hK.out _ _ ⟨(qac BK524.out 0).trans rfl,(qac BK524.out 1).trans rfl,(qac BK513.out 0).trans rfl,(qac BK513.out 1).trans rfl,(qac BK513.out 2).trans rfl,hHeld.2.2.2.2.2.1,hHeld.2.2.2.2.2.2⟩ (fun hHeld=>?_)
            clear hK K
            refine qdk (a':=?_) ?_ ?_
            rotate_left
            ·show Act.put _ (some 44) _=_
             simp only [Act.put,List.setIfInBounds_toArray,List.set_cons_zero,List.set_cons_succ,qbd,qbe]
             rfl
            refine qcr (i:=15) (N:=some 45) (v:=?_) (a':=?_) #[true,true,true,true,true,true,true,true,true,true,true,true,true,true,true,true,false] rfl rfl (qca HT_.out (by kernel_rfl)) (fun _ _ _ h=>h) (Or.inl ⟨by rfl,?_⟩) ?_ ?_
            rotate_left
            ·intro w'
             go_simp
             with_reducible rfl
            rotate_left
            ·simp only [Act.put,List.setIfInBounds_toArray,List.set_cons_zero,List.set_cons_succ,qbd,qbe]
             rfl
            refine qcr (i:=16) (N:=some 46) (v:=?_) (a':=?_) #[true,true,true,true,true,true,true,true,true,true,true,true,true,true,true,true,true] rfl rfl (qca HT_.out (by kernel_rfl)) (fun _ _ _ h=>h) (Or.inl ⟨by rfl,?_⟩) ?_ ?_
            rotate_left
            ·intro w'
             go_simp
             with_reducible rfl
            rotate_left
            ·simp only [Act.put,List.setIfInBounds_toArray,List.set_cons_zero,List.set_cons_succ,qbd,qbe]
             rfl
            refine qfj (qek HT_.out (by kernel_rfl)) ?_
            try go_wp2
            go_roundg k1
            case measure=>have:=HK1.out;omega
            case rel=>exact ⟨(wrap64 (x25_1+1)),(by rfl),H',⟨by have:=HK1.out;omega⟩,⟨by (with_reducible repeat (apply Kd.R_drewN));exact Kd.R_mono HO_5.out (fun _ hk=>⟨hk.1,hk.2.1⟩)⟩,⟨by (with_reducible repeat (apply Kd.R_drewN));exact Kd.R_mono HO_23.out (fun _ hk=>⟨hk.1,hk.2.1⟩)⟩,⟨by (with_reducible repeat (refine qcx ?_ _));exact BK513.out⟩,⟨by (with_reducible repeat (refine qcx ?_ _));exact BK514.out⟩,⟨by repeat ((with_reducible first|exact HB.out|apply qay))⟩⟩
           ·replace c36:=Bool.eq_false_iff.mpr c36
            subst c36
            have H1:(some false)=some r:=by rw [if_neg (show ¬ (false=true) by decide)] at H;exact H
            clear H
            have H:=H1
            clear H1
            obtain rfl:=Option.some.inj H
            have p523:0≤(x25_1:Int):=of_decide_eq_true (by (with_reducible assumption))
            have q523:x25_1<(t520.length:Int):=of_decide_eq_true (by (with_reducible assumption))
            obtain ⟨ad523,e523,hx523_0,hx523_1⟩:=qgv (Kd.R_reads' HO_23.out).2.2 x25_1 p523 q523
            cases e523
            replace p523:=eq_true p523
            replace q523:=eq_true q523
            try go_wp2_with (((with_reducible refine qbf (N:=8) rfl ?_);refine qbk ?hg (N:=8) ?hd (cs:=#[.int .i64 0,.int .i64 0]) (t:=39) ?hr ?_;(case hd=>rfl);(case hg=>rfl);(case hr=>(go_simp;done));intro gb524 hg w49 hbox hb;replace HO_5:=qaa.mk (Kd.R_below (Kd.R_elderB (by (with_reducible repeat (apply Kd.R_drew));exact HO_5.out) gb524 (Nat.le_of_eq hg.symm)) hb);replace HO_23:=qaa.mk (Kd.R_below (Kd.R_elderB (by (with_reducible repeat (apply Kd.R_drew));exact HO_23.out) gb524 (Nat.le_of_eq hg.symm)) hb);have BK524:=qaa.mk (hbox);have GW524:=qaa.mk ((by rw [hg];exact (qad HB.out):w.heap.size≤gb524));have GE524:=qaa.mk ((by rw [hg];exact (qad HB.out):w.heap.size≤gb524));replace HB:=qaa.mk (qai HB.out hb);have NB513_524:=qaa.mk ((by rw [hg];exact Nat.ne_of_lt (qbh (g:=gb513) (o:=.cells #[.bool a0_0,.int .i64 a0_1,.slice A0_2 l0_2.length c0_2] 24 (0,0)) (by (with_reducible repeat (refine qab ?_));exact BK513.out)):gb513≠gb524));have NB524_513:=qaa.mk ((by rw [hg];exact Nat.ne_of_gt (qbh (g:=gb513) (o:=.cells #[.bool a0_0,.int .i64 a0_1,.slice A0_2 l0_2.length c0_2] 24 (0,0)) (by (with_reducible repeat (refine qab ?_));exact BK513.out)):gb524≠gb513));replace BK513:=qaa.mk (qaf (g:=gb513) (o:=.cells #[.bool a0_0,.int .i64 a0_1,.slice A0_2 l0_2.length c0_2] 24 (0,0)) (by (with_reducible repeat (refine qab ?_));exact BK513.out) hb);have NB514_524:=qaa.mk ((by rw [hg];exact Nat.ne_of_lt (qbh (g:=gb514) (o:=.cells #[.int .i64 a1_0,.int .i64 a1_1] 39 (0,0)) (by (with_reducible repeat (refine qab ?_));exact BK514.out)):gb514≠gb524));have NB524_514:=qaa.mk ((by rw [hg];exact Nat.ne_of_gt (qbh (g:=gb514) (o:=.cells #[.int .i64 a1_0,.int .i64 a1_1] 39 (0,0)) (by (with_reducible repeat (refine qab ?_));exact BK514.out)):gb524≠gb514));replace BK514:=qaa.mk (qaf (g:=gb514) (o:=.cells #[.int .i64 a1_0,.int .i64 a1_1] 39 (0,0)) (by (with_reducible repeat (refine qab ?_));exact BK514.out) hb);clear hb hbox hg;have hnb50:=NB524_513.out;have hnc50:=NB513_524.out;have hnb51:=NB524_514.out;have hnc51:=NB514_524.out;have hcz52_0:w49.cell? ⟨gb524,0,none⟩=some (.int .i64 0):=(qac BK524.out 0).trans rfl;have hcz52_1:w49.cell? ⟨gb524,1,none⟩=some (.int .i64 0):=(qac BK524.out 1).trans rfl;have hfz52_0:=qag BK524.out 0;have hfz52_1:=qag BK524.out 1))
            have n0_:qaa (Kd.R k39 39 ((w49.setCell ⟨gb524,0,none⟩ (.int .i64 ((qav t520 x25_1).f0))).setCell ⟨gb524,1,none⟩ (.int .i64 ((qav t520 x25_1).f1))) w.heap.size (fun k_=>some k_≠(.slice (some ad523) t520.length co20:Value).ownBlock∧k_≠gb514∧k_≠gb524) (.slice Ao19 t517.length co19) t517):=⟨by (with_reducible repeat (apply Kd.R_drew));exact Kd.R_mono (Kd.R_far (p:=⟨gb524,1,none⟩) (Kd.R_far (p:=⟨gb524,0,none⟩) (Kd.R_mono HO_5.out (fun k_ hk=>(⟨hk,hk.2⟩:_∧k_≠gb524))) (fun _ hk=>hk.2) (.int .i64 ((qav t520 x25_1).f0))) (fun _ hk=>hk.2) (.int .i64 ((qav t520 x25_1).f1))) (fun _ hk=>⟨hk.1.1.1,⟨hk.1.1.2,hk.1.2⟩⟩)⟩
            have n1_:qaa (Kd.R k39 39 ((w49.setCell ⟨gb524,0,none⟩ (.int .i64 ((qav t520 x25_1).f0))).setCell ⟨gb524,1,none⟩ (.int .i64 ((qav t520 x25_1).f1))) w.heap.size (fun k_=>some k_≠(.slice Ao19 t517.length co19:Value).ownBlock∧k_≠gb514∧k_≠gb524) (.slice (some ad523) t520.length co20) t520):=⟨by (with_reducible repeat (apply Kd.R_drew));exact Kd.R_mono (Kd.R_far (p:=⟨gb524,1,none⟩) (Kd.R_far (p:=⟨gb524,0,none⟩) (Kd.R_mono HO_23.out (fun k_ hk=>(⟨hk,hk.2⟩:_∧k_≠gb524))) (fun _ hk=>hk.2) (.int .i64 ((qav t520 x25_1).f0))) (fun _ hk=>hk.2) (.int .i64 ((qav t520 x25_1).f1))) (fun _ hk=>⟨hk.1.1.1,⟨hk.1.1.2,hk.1.2⟩⟩)⟩
            have n2_:qaa (((w49.setCell ⟨gb524,0,none⟩ (.int .i64 ((qav t520 x25_1).f0))).setCell ⟨gb524,1,none⟩ (.int .i64 ((qav t520 x25_1).f1))).heap[gb513]?=some (.cells #[.bool a0_0,.int .i64 a0_1,.slice A0_2 l0_2.length c0_2] 24 (0,0))):=⟨by (with_reducible repeat (refine qab ?_));refine qcm ?_ NB513_524.out _;(with_reducible repeat (refine qab ?_));refine qcm ?_ NB513_524.out _;(with_reducible repeat (refine qab ?_));exact BK513.out⟩
            have n3_:qaa (((w49.setCell ⟨gb524,0,none⟩ (.int .i64 ((qav t520 x25_1).f0))).setCell ⟨gb524,1,none⟩ (.int .i64 ((qav t520 x25_1).f1))).heap[gb514]?=some (.cells #[.int .i64 a1_0,.int .i64 a1_1] 39 (0,0))):=⟨by (with_reducible repeat (refine qab ?_));refine qcm ?_ NB514_524.out _;(with_reducible repeat (refine qab ?_));refine qcm ?_ NB514_524.out _;(with_reducible repeat (refine qab ?_));exact BK514.out⟩
            have n4_:qaa (((w49.setCell ⟨gb524,0,none⟩ (.int .i64 ((qav t520 x25_1).f0))).setCell ⟨gb524,1,none⟩ (.int .i64 ((qav t520 x25_1).f1))).heap[gb524]?=some (.cells #[.int .i64 ((qav t520 x25_1).f0),.int .i64 ((qav t520 x25_1).f1)] 39 (0,0))):=⟨by (with_reducible repeat (refine qab ?_));refine qct (cs:=#[.int .i64 ((qav t520 x25_1).f0),.int .i64 0]) ?_ 1 _ rfl;(with_reducible repeat (refine qab ?_));refine qct (cs:=#[.int .i64 0,.int .i64 0]) ?_ 0 _ rfl;(with_reducible repeat (refine qab ?_));exact BK524.out⟩
            have n5_:qaa (Below w.heap.size w ((w49.setCell ⟨gb524,0,none⟩ (.int .i64 ((qav t520 x25_1).f0))).setCell ⟨gb524,1,none⟩ (.int .i64 ((qav t520 x25_1).f1)))):=⟨by repeat ((with_reducible first|exact HB.out|refine qby ?_ GE524.out))⟩
            (try clear HO_5)
            (try clear HO_23)
            (try clear BK513)
            (try clear BK514)
            (try clear BK524)
            (try clear HB)
            generalize ((w49.setCell ⟨gb524,0,none⟩ (.int .i64 ((qav t520 x25_1).f0))).setCell ⟨gb524,1,none⟩ (.int .i64 ((qav t520 x25_1).f1)))=w53 at n0_ n1_ n2_ n3_ n4_ n5_ ⊢
            have HO_5:=n0_
            have HO_23:=n1_
            have BK513:=n2_
            have BK514:=n3_
            have BK524:=n4_
            have HB:=n5_
            clear n0_ n1_ n2_ n3_ n4_ n5_
            have n0_:=qaa.mk (Kd.R_drew HO_5.out)
            have n1_:=qaa.mk (Kd.R_drew HO_23.out)
            have n2_:=qaa.mk (qab BK513.out)
            have n3_:=qaa.mk (qab BK514.out)
            have n4_:=qaa.mk (qab BK524.out)
            have n5_:=qaa.mk (qcz HB.out)
            clear HO_5
            clear HO_23
            clear BK513
            clear BK514
            clear BK524
            clear HB
            have HO_5:=n0_
            have HO_23:=n1_
            have BK513:=n2_
            have BK514:=n3_
            have BK524:=n4_
            have HB:=n5_
            clear n0_ n1_ n2_ n3_ n4_ n5_
            have p525:0≤(x25_1:Int):=of_decide_eq_true (by (with_reducible assumption))
            have q525:x25_1<(t517.length:Int):=of_decide_eq_true (by (with_reducible assumption))
            obtain ⟨ad525,e525,hx525_0,hx525_1⟩:=qgv (Kd.R_reads' HO_5.out).2.2 x25_1 p525 q525
            cases e525
            replace p525:=eq_true p525
            replace q525:=eq_true q525
            refine qew (n:=17) (S:=fun w'=>w'.cell? ⟨gb524,0,none⟩=some (.int .i64 ((qav t520 x25_1).f0))∧w'.cell? ⟨gb524,1,none⟩=some (.int .i64 ((qav t520 x25_1).f1))∧w'.cell? ⟨gb513,0,none⟩=some (.bool a0_0)∧w'.cell? ⟨gb513,1,none⟩=some (.int .i64 a0_1)∧w'.cell? ⟨gb513,2,none⟩=some (.slice A0_2 l0_2.length c0_2)∧w'.cell? (ad525.add ((x25_1).toNat*2))=some (.int .i64 ((qav t517 x25_1).f0))∧w'.cell? ⟨(ad525.add ((x25_1).toNat*2)).block,(ad525.add ((x25_1).toNat*2)).off+1,none⟩=some (.int .i64 ((qav t517 x25_1).f1))) (ds:=[]) #[false,false,false,false,false,false,false,false,false,false,false,false,false,false,false,false,false] (by kernel_rfl) rfl rfl ⟨(qac BK524.out 0).trans rfl,(qac BK524.out 1).trans rfl,(qac BK513.out 0).trans rfl,(qac BK513.out 1).trans rfl,(qac BK513.out 2).trans rfl,hx525_0,hx525_1⟩ (fun hHeld=>?_);refine qdv qam.tab11 qam.bits11 (fun HT_ HW_=>?_)
            generalize w53.drew=w54 at HO_5 HO_23 BK513 BK514 BK524 HB hx525_0 hx525_1 hHeld ⊢
            refine qcr (i:=0) (N:=some 30) (v:=?_) (a':=?_) #[true,false,false,false,false,false,false,false,false,false,false,false,false,false,false,false,false] rfl rfl (qca HT_.out (by kernel_rfl)) (fun _ _ _ h=>h) (Or.inl ⟨by rfl,?_⟩) ?_ ?_
            rotate_left
            ·intro w'
             go_simp
             with_reducible rfl
            rotate_left
            ·simp only [Act.put,List.setIfInBounds_toArray,List.set_cons_zero,List.set_cons_succ,qbd,qbe]
             rfl
            refine qcr (i:=1) (N:=some 31) (v:=?_) (a':=?_) #[true,true,false,false,false,false,false,false,false,false,false,false,false,false,false,false,false] rfl rfl (qca HT_.out (by kernel_rfl)) (fun _ _ _ h=>h) (Or.inl ⟨by rfl,?_⟩) ?_ ?_
            rotate_left
            ·intro w'
             go_simp
             with_reducible rfl
            rotate_left
            ·simp only [Act.put,List.setIfInBounds_toArray,List.set_cons_zero,List.set_cons_succ,qbd,qbe]
             rfl
            refine qcr (i:=2) (N:=some 32) (v:=?_) (a':=?_) #[true,true,true,false,false,false,false,false,false,false,false,false,false,false,false,false,false] rfl rfl (qca HT_.out (by kernel_rfl)) (fun _ _ _ h=>h) (Or.inl ⟨by rfl,?_⟩) ?_ ?_
            rotate_left
            ·intro w'
             go_simp
             with_reducible rfl
            rotate_left
            ·simp only [Act.put,List.setIfInBounds_toArray,List.set_cons_zero,List.set_cons_succ,qbd,qbe]
             rfl
            refine take_ (i:=3) (N:=some 33) (v:=?_) (a':=?_) #[true,true,true,true,false,false,false,false,false,false,false,false,false,false,false,false,false] rfl rfl (qce HT_.out HW_.out (by kernel_rfl)) (fun _ _ _ h=>h) (Or.inl ⟨by rfl,?_⟩) hHeld ?_ ?_
            rotate_left
            ·rintro w' ⟨s0,s1,s2,s3,s4,s5,s6⟩
             go_simp
             with_reducible rfl
            rotate_left
            ·simp only [Act.put,List.setIfInBounds_toArray,List.set_cons_zero,List.set_cons_succ,qbd,qbe]
             rfl
            refine take_ (i:=4) (N:=some 34) (v:=?_) (a':=?_) #[true,true,true,true,true,false,false,false,false,false,false,false,false,false,false,false,false] rfl rfl (qce HT_.out HW_.out (by kernel_rfl)) (fun _ _ _ h=>h) (Or.inl ⟨by rfl,?_⟩) hHeld ?_ ?_
            rotate_left
            ·rintro w' ⟨s0,s1,s2,s3,s4,s5,s6⟩
             go_simp
             with_reducible rfl
            rotate_left
            ·simp only [Act.put,List.setIfInBounds_toArray,List.set_cons_zero,List.set_cons_succ,qbd,qbe]
             rfl
            refine qcr (i:=5) (N:=some 35) (v:=?_) (a':=?_) #[true,true,true,true,true,true,false,false,false,false,false,false,false,false,false,false,false] rfl rfl (qca HT_.out (by kernel_rfl)) (fun _ _ _ h=>h) (Or.inl ⟨by rfl,?_⟩) ?_ ?_
            rotate_left
            ·intro w'
             go_simp
             with_reducible rfl
            rotate_left
            ·simp only [Act.put,List.setIfInBounds_toArray,List.set_cons_zero,List.set_cons_succ,qbd,qbe]
             rfl
            refine qcr (i:=6) (N:=some 36) (v:=?_) (a':=?_) #[true,true,true,true,true,true,true,false,false,false,false,false,false,false,false,false,false] rfl rfl (qca HT_.out (by kernel_rfl)) (fun _ _ _ h=>h) (Or.inl ⟨by rfl,?_⟩) ?_ ?_
            rotate_left
            ·intro w'
             go_simp
             with_reducible rfl
            rotate_left
            ·simp only [Act.put,List.setIfInBounds_toArray,List.set_cons_zero,List.set_cons_succ,qbd,qbe]
             rfl
            refine take_ (i:=7) (N:=some 37) (v:=?_) (a':=?_) #[true,true,true,true,true,true,true,true,false,false,false,false,false,false,false,false,false] rfl rfl (qce HT_.out HW_.out (by kernel_rfl)) (fun _ _ _ h=>h) (Or.inl ⟨by rfl,?_⟩) hHeld ?_ ?_
            rotate_left
            ·rintro w' ⟨s0,s1,s2,s3,s4,s5,s6⟩
             go_simp
             with_reducible rfl
            rotate_left
            ·simp only [Act.put,List.setIfInBounds_toArray,List.set_cons_zero,List.set_cons_succ,qbd,qbe]
             rfl
            refine take_ (i:=8) (N:=some 38) (v:=?_) (a':=?_) #[true,true,true,true,true,true,true,true,true,false,false,false,false,false,false,false,false] rfl rfl (qce HT_.out HW_.out (by kernel_rfl)) (fun _ _ _ h=>h) (Or.inl ⟨by rfl,?_⟩) hHeld ?_ ?_
            rotate_left
            ·rintro w' ⟨s0,s1,s2,s3,s4,s5,s6⟩
             go_simp
             with_reducible rfl
            rotate_left
            ·simp only [Act.put,List.setIfInBounds_toArray,List.set_cons_zero,List.set_cons_succ,qbd,qbe]
             rfl
            refine take_ (i:=11) (N:=some 41) (v:=?_) (a':=?_) #[true,true,true,true,true,true,true,true,true,false,false,true,false,false,false,false,false] rfl rfl (qce HT_.out HW_.out (by kernel_rfl)) (fun _ _ _ h=>h) (Or.inl ⟨by rfl,?_⟩) hHeld ?_ ?_
            rotate_left
            ·rintro w' ⟨s0,s1,s2,s3,s4,s5,s6⟩
             go_simp
             with_reducible rfl
            rotate_left
            ·simp only [Act.put,List.setIfInBounds_toArray,List.set_cons_zero,List.set_cons_succ,qbd,qbe]
             rfl
            refine take_ (i:=12) (N:=some 42) (v:=?_) (a':=?_) #[true,true,true,true,true,true,true,true,true,false,false,true,true,false,false,false,false] rfl rfl (qce HT_.out HW_.out (by kernel_rfl)) (fun _ _ _ h=>h) (Or.inl ⟨by rfl,?_⟩) hHeld ?_ ?_
            rotate_left
            ·rintro w' ⟨s0,s1,s2,s3,s4,s5,s6⟩
             go_simp
             with_reducible rfl
            rotate_left
            ·simp only [Act.put,List.setIfInBounds_toArray,List.set_cons_zero,List.set_cons_succ,qbd,qbe]
             rfl
            refine one_ (i:=9) (N:=some 39) #[true,true,true,true,true,true,true,true,true,true,false,true,true,false,false,false,false] rfl rfl (qdg HT_.out (by kernel_rfl)) (by decide) (fun K hK=>?_)
            refine qdz Tryd.func28 (by kernel_rfl) rfl #[.agg #[.bool a0_0,.int .i64 a0_1,.slice A0_2 l0_2.length c0_2],.agg #[.int .i64 ((qav t520 x25_1).f0),.int .i64 ((qav t520 x25_1).f1)]] (by rfl) rfl rfl (by (try simp only [List.map_toArray,List.map_cons,List.map_nil]);rfl) ?_
            with_reducible refine (qbq.calls k1 a0_0 a0_1 _ _ l0_2 ((qav t520 x25_1).f0) ((qav t520 x25_1).f1) t526 _ ?side1 ?side2 ?side3 A32.out).mono ?_
            (case side1=>exact TabW.below' HTB.out HB.out)
            (case side2=>repeat (exact (Kd.C_below HR0_2.out HB.out)))
            (case side3=>exact HC0_2.out)
            rintro e w55 ⟨v527,rfl,ho0,hb⟩
            have HS5_:=(hb.cell (World.block_lt_of_cell? _ _ (hHeld.2.2.2.2.2.1))).trans (hHeld.2.2.2.2.2.1)
            have HS6_:=(hb.cell (World.block_lt_of_cell? _ _ (hHeld.2.2.2.2.2.2))).trans (hHeld.2.2.2.2.2.2)
            refine ⟨_,rfl,?_⟩
            have n0_:=qaa.mk (Kd.R_below (by (with_reducible repeat (apply Kd.R_drew));exact HO_5.out) hb)
            have n1_:=qaa.mk (Kd.R_below (by (with_reducible repeat (apply Kd.R_drew));exact HO_23.out) hb)
            have n2_:=qaa.mk (Kd.V_lower (Kd.V_mono (ok':=fun k_=>some k_≠(.slice (some ad525) t517.length co19:Value).ownBlock∧some k_≠(.slice (some ad523) t520.length co20:Value).ownBlock∧k_≠gb513∧k_≠gb514∧k_≠gb524) ho0 (fun k_ hk_=>⟨(Kd.fresh' (Kd.R_lt (by (with_reducible repeat (apply Kd.R_drew));exact HO_5.out)) k_ hk_),(Kd.fresh' (Kd.R_lt (by (with_reducible repeat (apply Kd.R_drew));exact HO_23.out)) k_ hk_),(Kd.freshB (g:=gb513) (o:=.cells #[.bool a0_0,.int .i64 a0_1,.slice A0_2 l0_2.length c0_2] 24 (0,0)) (by (with_reducible repeat (refine qab ?_));exact BK513.out) k_ hk_),(Kd.freshB (g:=gb514) (o:=.cells #[.int .i64 a1_0,.int .i64 a1_1] 39 (0,0)) (by (with_reducible repeat (refine qab ?_));exact BK514.out) k_ hk_),(Kd.freshB (g:=gb524) (o:=.cells #[.int .i64 ((qav t520 x25_1).f0),.int .i64 ((qav t520 x25_1).f1)] 39 (0,0)) (by (with_reducible repeat (refine qab ?_));exact BK524.out) k_ hk_)⟩)) (qad HB.out))
            have n3_:=qaa.mk (qaf (g:=gb513) (o:=.cells #[.bool a0_0,.int .i64 a0_1,.slice A0_2 l0_2.length c0_2] 24 (0,0)) (by (with_reducible repeat (refine qab ?_));exact BK513.out) hb)
            have n4_:=qaa.mk (qaf (g:=gb514) (o:=.cells #[.int .i64 a1_0,.int .i64 a1_1] 39 (0,0)) (by (with_reducible repeat (refine qab ?_));exact BK514.out) hb)
            have n5_:=qaa.mk (qaf (g:=gb524) (o:=.cells #[.int .i64 ((qav t520 x25_1).f0),.int .i64 ((qav t520 x25_1).f1)] 39 (0,0)) (by (with_reducible repeat (refine qab ?_));exact BK524.out) hb)
            have n6_:=qaa.mk (qai HB.out hb)
            clear HO_5
            clear HO_23
            clear BK513
            clear BK514
            clear BK524
            clear HB
            have HO_5:=n0_
            have HO_23:=n1_
            have HO528:=n2_
            have BK513:=n3_
            have BK514:=n4_
            have BK524:=n5_
            have HB:=n6_
            clear n0_ n1_ n2_ n3_ n4_ n5_ n6_
            (try clear hb)
            (try clear ho0)
            obtain ⟨Ao56,co56,eo56⟩:=Kd.V_slice HO528.out
            (subst eo56)
            refine hK.out _ _ ⟨(qac BK524.out 0).trans rfl,(qac BK524.out 1).trans rfl,(qac BK513.out 0).trans rfl,(qac BK513.out 1).trans rfl,(qac BK513.out 2).trans rfl,HS5_,HS6_⟩ (fun hHeld=>?_)
            clear hK K
            refine qdk (a':=?_) ?_ ?_
            rotate_left
            ·show Act.put _ (some 39) _=_
             simp only [Act.put,List.setIfInBounds_toArray,List.set_cons_zero,List.set_cons_succ,qbd,qbe]
             rfl
            refine one_ (i:=10) (N:=some 40) #[true,true,true,true,true,true,true,true,true,true,true,true,true,false,false,false,false] rfl rfl (qdg HT_.out (by kernel_rfl)) (by decide) (fun K hK=>?_)
            refine qdz Tryd.func23 (by kernel_rfl) rfl #[.agg #[.slice Ao56 t526.length co56]] (by rfl) rfl rfl (by (try simp only [List.map_toArray,List.map_cons,List.map_nil]);rfl) ?_
            with_reducible refine (qci.calls _ _ t526 t529 _ ?side1 ?side2 ?side3 A33.out).mono ?_
            (case side1=>exact TabW.below' HTB.out HB.out)
            (case side2=>repeat (exact (Kd.V_reads' HO528.out).2.2))
            (case side3=>exact (Kd.V_reads' HO528.out).2.1)
            rintro e w57 ⟨v530,rfl,ho0,hb⟩
            have HS5_:=(hb.cell (World.block_lt_of_cell? _ _ (hHeld.2.2.2.2.2.1))).trans (hHeld.2.2.2.2.2.1)
            have HS6_:=(hb.cell (World.block_lt_of_cell? _ _ (hHeld.2.2.2.2.2.2))).trans (hHeld.2.2.2.2.2.2)
            refine ⟨_,rfl,?_⟩
            have n0_:=qaa.mk (Kd.R_below (by (with_reducible repeat (apply Kd.R_drew));exact HO_5.out) hb)
            have n1_:=qaa.mk (Kd.R_below (by (with_reducible repeat (apply Kd.R_drew));exact HO_23.out) hb)
            have n2_:=qaa.mk (Kd.V_elder' (by (with_reducible repeat (apply Kd.V_drew));exact HO528.out) (Kd.R_base ho0) hb)
            have n3_:=qaa.mk (Kd.R_lower ho0 (qad HB.out))
            have n4_:=qaa.mk (qaf (g:=gb513) (o:=.cells #[.bool a0_0,.int .i64 a0_1,.slice A0_2 l0_2.length c0_2] 24 (0,0)) (by (with_reducible repeat (refine qab ?_));exact BK513.out) hb)
            have n5_:=qaa.mk (qaf (g:=gb514) (o:=.cells #[.int .i64 a1_0,.int .i64 a1_1] 39 (0,0)) (by (with_reducible repeat (refine qab ?_));exact BK514.out) hb)
            have n6_:=qaa.mk (qaf (g:=gb524) (o:=.cells #[.int .i64 ((qav t520 x25_1).f0),.int .i64 ((qav t520 x25_1).f1)] 39 (0,0)) (by (with_reducible repeat (refine qab ?_));exact BK524.out) hb)
            have n7_:=qaa.mk (qai HB.out hb)
            clear HO_5
            clear HO_23
            clear HO528
            clear BK513
            clear BK514
            clear BK524
            clear HB
            have HO_5:=n0_
            have HO_23:=n1_
            have HO528:=n2_
            have HO531:=n3_
            have BK513:=n4_
            have BK514:=n5_
            have BK524:=n6_
            have HB:=n7_
            clear n0_ n1_ n2_ n3_ n4_ n5_ n6_ n7_
            (try clear hb)
            (try clear ho0)
            refine hK.out _ _ ⟨(qac BK524.out 0).trans rfl,(qac BK524.out 1).trans rfl,(qac BK513.out 0).trans rfl,(qac BK513.out 1).trans rfl,(qac BK513.out 2).trans rfl,HS5_,HS6_⟩ (fun hHeld=>?_)
            clear hK K
            refine qdk (a':=?_) ?_ ?_
            rotate_left
            ·show Act.put _ (some 40) _=_
             simp only [Act.put,List.setIfInBounds_toArray,List.set_cons_zero,List.set_cons_succ,qbd,qbe]
             rfl
            refine one_ (i:=13) (N:=some 43) #[true,true,true,true,true,true,true,true,true,true,true,true,true,true,false,false,false] rfl rfl (qdg HT_.out (by kernel_rfl)) (by decide) (fun K hK=>?_)
            refine qdz Tryd.func29 (by kernel_rfl) rfl #[.agg #[.bool a0_0,.int .i64 a0_1,.slice A0_2 l0_2.length c0_2],.agg #[.int .i64 ((qav t520 x25_1).f0),.int .i64 ((qav t520 x25_1).f1)]] (by rfl) rfl rfl (by (try simp only [List.map_toArray,List.map_cons,List.map_nil]);rfl) ?_
            with_reducible refine (qaj.calls k1 a0_0 a0_1 _ _ l0_2 ((qav t520 x25_1).f0) ((qav t520 x25_1).f1) t532 _ ?side1 ?side2 A34.out).mono ?_
            (case side1=>repeat (exact (Kd.C_below HR0_2.out HB.out)))
            (case side2=>exact HC0_2.out)
            rintro e w58 ⟨v533,rfl,ho0,hb⟩
            have HS5_:=(hb.cell (World.block_lt_of_cell? _ _ (hHeld.2.2.2.2.2.1))).trans (hHeld.2.2.2.2.2.1)
            have HS6_:=(hb.cell (World.block_lt_of_cell? _ _ (hHeld.2.2.2.2.2.2))).trans (hHeld.2.2.2.2.2.2)
            refine ⟨_,rfl,?_⟩
            have n0_:=qaa.mk (Kd.R_below (by (with_reducible repeat (apply Kd.R_drew));exact HO_5.out) hb)
            have n1_:=qaa.mk (Kd.R_below (by (with_reducible repeat (apply Kd.R_drew));exact HO_23.out) hb)
            have n2_:=qaa.mk (Kd.V_elder' (by (with_reducible repeat (apply Kd.V_drew));exact HO528.out) (Kd.R_base ho0) hb)
            have n3_:=qaa.mk (Kd.R_elder' (by (with_reducible repeat (apply Kd.R_drew));exact HO531.out) (Kd.R_base ho0) hb)
            have n4_:=qaa.mk (Kd.R_lower (Kd.R_new' ho0 (Kd.R_lt (by (with_reducible repeat (apply Kd.R_drew));exact HO531.out))) (qad HB.out))
            have n5_:=qaa.mk (qaf (g:=gb513) (o:=.cells #[.bool a0_0,.int .i64 a0_1,.slice A0_2 l0_2.length c0_2] 24 (0,0)) (by (with_reducible repeat (refine qab ?_));exact BK513.out) hb)
            have n6_:=qaa.mk (qaf (g:=gb514) (o:=.cells #[.int .i64 a1_0,.int .i64 a1_1] 39 (0,0)) (by (with_reducible repeat (refine qab ?_));exact BK514.out) hb)
            have n7_:=qaa.mk (qaf (g:=gb524) (o:=.cells #[.int .i64 ((qav t520 x25_1).f0),.int .i64 ((qav t520 x25_1).f1)] 39 (0,0)) (by (with_reducible repeat (refine qab ?_));exact BK524.out) hb)
            have n8_:=qaa.mk (qai HB.out hb)
            clear HO_5
            clear HO_23
            clear HO528
            clear HO531
            clear BK513
            clear BK514
            clear BK524
            clear HB
            have HO_5:=n0_
            have HO_23:=n1_
            have HO528:=n2_
            have HO531:=n3_
            have HO534:=n4_
            have BK513:=n5_
            have BK514:=n6_
            have BK524:=n7_
            have HB:=n8_
            clear n0_ n1_ n2_ n3_ n4_ n5_ n6_ n7_ n8_
            (try clear hb)
            (try clear ho0)
            obtain ⟨Ao59,co59,eo59⟩:=Kd.R_slice HO531.out
            (subst eo59)
            obtain ⟨Ao60,co60,eo60⟩:=Kd.R_slice HO534.out
            (subst eo60)
            refine hK.out _ _ ⟨(qac BK524.out 0).trans rfl,(qac BK524.out 1).trans rfl,(qac BK513.out 0).trans rfl,(qac BK513.out 1).trans rfl,(qac BK513.out 2).trans rfl,HS5_,HS6_⟩ (fun hHeld=>?_)
            clear hK K
            refine qdk (a':=?_) ?_ ?_
            rotate_left
            ·show Act.put _ (some 43) _=_
             simp only [Act.put,List.setIfInBounds_toArray,List.set_cons_zero,List.set_cons_succ,qbd,qbe]
             rfl
            refine one_ (i:=14) (N:=some 44) #[true,true,true,true,true,true,true,true,true,true,true,true,true,true,true,false,false] rfl rfl (qdg HT_.out (by kernel_rfl)) (by decide) (fun K hK=>?_)
            refine qdz Tryd.func18 (by kernel_rfl) rfl #[.slice Ao59 t529.length co59,.slice Ao60 t532.length co60] (by rfl) rfl rfl (by (try simp only [List.map_toArray,List.map_cons,List.map_nil]);rfl) ?_
            with_reducible refine (qak.calls k1 _ _ t529 _ _ t532 false _ ?side1 ?side2 ?side3 ?side4 A35.out).mono ?_
            (case side1=>repeat (exact (Kd.R_reads' HO531.out).2.2))
            (case side2=>exact (Kd.R_reads' HO531.out).2.1)
            (case side3=>repeat (exact (Kd.R_reads' HO534.out).2.2))
            (case side4=>exact (Kd.R_reads' HO534.out).2.1)
            rintro e w' ⟨rfl,⟨nd,rfl⟩⟩
            refine ⟨_,rfl,?_⟩
            refine hK.out _ _ ⟨(qac BK524.out 0).trans rfl,(qac BK524.out 1).trans rfl,(qac BK513.out 0).trans rfl,(qac BK513.out 1).trans rfl,(qac BK513.out 2).trans rfl,hHeld.2.2.2.2.2.1,hHeld.2.2.2.2.2.2⟩ (fun hHeld=>?_)
            clear hK K
            refine qdk (a':=?_) ?_ ?_
            rotate_left
            ·show Act.put _ (some 44) _=_
             simp only [Act.put,List.setIfInBounds_toArray,List.set_cons_zero,List.set_cons_succ,qbd,qbe]
             rfl
            refine qcr (i:=15) (N:=some 45) (v:=?_) (a':=?_) #[true,true,true,true,true,true,true,true,true,true,true,true,true,true,true,true,false] rfl rfl (qca HT_.out (by kernel_rfl)) (fun _ _ _ h=>h) (Or.inl ⟨by rfl,?_⟩) ?_ ?_
            rotate_left
            ·intro w'
             go_simp
             with_reducible rfl
            rotate_left
            ·simp only [Act.put,List.setIfInBounds_toArray,List.set_cons_zero,List.set_cons_succ,qbd,qbe]
             rfl
            refine qcr (i:=16) (N:=some 46) (v:=?_) (a':=?_) #[true,true,true,true,true,true,true,true,true,true,true,true,true,true,true,true,true] rfl rfl (qca HT_.out (by kernel_rfl)) (fun _ _ _ h=>h) (Or.inl ⟨by rfl,?_⟩) ?_ ?_
            rotate_left
            ·intro w'
             go_simp
             with_reducible rfl
            rotate_left
            ·simp only [Act.put,List.setIfInBounds_toArray,List.set_cons_zero,List.set_cons_succ,qbd,qbe]
             rfl
            refine qfj (qek HT_.out (by kernel_rfl)) ?_
            try go_wp2
            go_ret
            exact ⟨by rfl,by repeat ((with_reducible first|exact HB.out|apply qay))⟩
         ·rw [if_neg c24] at H
          exact absurd H (by simp)
        ·rw [if_neg c23] at H
         exact absurd H (by simp)
       ·rw [if_neg c22] at H
        exact absurd H (by simp)
      ·rw [if_neg c21] at H
       have c21b0:decide (x25_1<(t520.length:Int))=false:=decide_eq_false c21
       clear c21
       replace H:=Option.bind_eq_some_iff.mp H
       obtain ⟨t536,A610,H⟩:=H
       replace H:((qci.f t536).bind fun t539=>((qaj.f k1 a0_0 a0_1 l0_2 a1_0 a1_1).bind fun t542=>((qak.f k1 t539 t542).bind fun t545=>(some t545))))=some r:=H
       have A61:=qaa.mk A610
       clear A610
       replace H:=Option.bind_eq_some_iff.mp H
       obtain ⟨t539,A620,H⟩:=H
       replace H:((qaj.f k1 a0_0 a0_1 l0_2 a1_0 a1_1).bind fun t542=>((qak.f k1 t539 t542).bind fun t545=>(some t545)))=some r:=H
       have A62:=qaa.mk A620
       clear A620
       replace H:=Option.bind_eq_some_iff.mp H
       obtain ⟨t542,A630,H⟩:=H
       replace H:((qak.f k1 t539 t542).bind fun t545=>(some t545))=some r:=H
       have A63:=qaa.mk A630
       clear A630
       replace H:=Option.bind_eq_some_iff.mp H
       obtain ⟨t545,A640,H⟩:=H
       replace H:(some t545)=some r:=H
       have A64:=qaa.mk A640
       clear A640
       obtain rfl:=Option.some.inj H
       try go_wp2
       have n0_:=qaa.mk (Kd.R_drew HO_5.out)
       have n1_:=qaa.mk (Kd.R_drew HO_23.out)
       have n2_:=qaa.mk (qab BK513.out)
       have n3_:=qaa.mk (qab BK514.out)
       have n4_:=qaa.mk (qcz HB.out)
       clear HO_5
       clear HO_23
       clear BK513
       clear BK514
       clear HB
       have HO_5:=n0_
       have HO_23:=n1_
       have BK513:=n2_
       have BK514:=n3_
       have HB:=n4_
       clear n0_ n1_ n2_ n3_ n4_
       refine qew (n:=9) (S:=fun w'=>w'.cell? ⟨gb513,0,none⟩=some (.bool a0_0)∧w'.cell? ⟨gb513,1,none⟩=some (.int .i64 a0_1)∧w'.cell? ⟨gb513,2,none⟩=some (.slice A0_2 l0_2.length c0_2)∧w'.cell? ⟨gb514,0,none⟩=some (.int .i64 a1_0)∧w'.cell? ⟨gb514,1,none⟩=some (.int .i64 a1_1)) (ds:=[]) #[false,false,false,false,false,false,false,false,false] (by kernel_rfl) rfl rfl ⟨(qac BK513.out 0).trans rfl,(qac BK513.out 1).trans rfl,(qac BK513.out 2).trans rfl,(qac BK514.out 0).trans rfl,(qac BK514.out 1).trans rfl⟩ (fun hHeld=>?_);refine qdv qam.tab14 qam.bits14 (fun HT_ HW_=>?_)
       generalize wr.drew=w65 at HO_5 HO_23 BK513 BK514 HB hHeld ⊢
       refine take_ (i:=0) (N:=some 48) (v:=?_) (a':=?_) #[true,false,false,false,false,false,false,false,false] rfl rfl (qce HT_.out HW_.out (by kernel_rfl)) (fun _ _ _ h=>h) (Or.inl ⟨by rfl,?_⟩) hHeld ?_ ?_
       rotate_left
       ·rintro w' ⟨s0,s1,s2,s3,s4⟩
        go_simp
        with_reducible rfl
       rotate_left
       ·simp only [Act.put,List.setIfInBounds_toArray,List.set_cons_zero,List.set_cons_succ,qbd,qbe]
        rfl
       refine take_ (i:=1) (N:=some 49) (v:=?_) (a':=?_) #[true,true,false,false,false,false,false,false,false] rfl rfl (qce HT_.out HW_.out (by kernel_rfl)) (fun _ _ _ h=>h) (Or.inl ⟨by rfl,?_⟩) hHeld ?_ ?_
       rotate_left
       ·rintro w' ⟨s0,s1,s2,s3,s4⟩
        go_simp
        with_reducible rfl
       rotate_left
       ·simp only [Act.put,List.setIfInBounds_toArray,List.set_cons_zero,List.set_cons_succ,qbd,qbe]
        rfl
       refine take_ (i:=4) (N:=some 52) (v:=?_) (a':=?_) #[true,true,false,false,true,false,false,false,false] rfl rfl (qce HT_.out HW_.out (by kernel_rfl)) (fun _ _ _ h=>h) (Or.inl ⟨by rfl,?_⟩) hHeld ?_ ?_
       rotate_left
       ·rintro w' ⟨s0,s1,s2,s3,s4⟩
        go_simp
        with_reducible rfl
       rotate_left
       ·simp only [Act.put,List.setIfInBounds_toArray,List.set_cons_zero,List.set_cons_succ,qbd,qbe]
        rfl
       refine take_ (i:=5) (N:=some 53) (v:=?_) (a':=?_) #[true,true,false,false,true,true,false,false,false] rfl rfl (qce HT_.out HW_.out (by kernel_rfl)) (fun _ _ _ h=>h) (Or.inl ⟨by rfl,?_⟩) hHeld ?_ ?_
       rotate_left
       ·rintro w' ⟨s0,s1,s2,s3,s4⟩
        go_simp
        with_reducible rfl
       rotate_left
       ·simp only [Act.put,List.setIfInBounds_toArray,List.set_cons_zero,List.set_cons_succ,qbd,qbe]
        rfl
       refine one_ (i:=2) (N:=some 50) #[true,true,true,false,true,true,false,false,false] rfl rfl (qdg HT_.out (by kernel_rfl)) (by decide) (fun K hK=>?_)
       refine qdz Tryd.func28 (by kernel_rfl) rfl #[.agg #[.bool a0_0,.int .i64 a0_1,.slice A0_2 l0_2.length c0_2],.agg #[.int .i64 a1_0,.int .i64 a1_1]] (by rfl) rfl rfl (by (try simp only [List.map_toArray,List.map_cons,List.map_nil]);rfl) ?_
       with_reducible refine (qbq.calls k1 a0_0 a0_1 _ _ l0_2 a1_0 a1_1 t536 _ ?side1 ?side2 ?side3 A61.out).mono ?_
       (case side1=>exact TabW.below' HTB.out HB.out)
       (case side2=>repeat (exact (Kd.C_below HR0_2.out HB.out)))
       (case side3=>exact HC0_2.out)
       rintro e w66 ⟨v537,rfl,ho0,hb⟩
       refine ⟨_,rfl,?_⟩
       have n0_:=qaa.mk (Kd.R_below (by (with_reducible repeat (apply Kd.R_drew));exact HO_5.out) hb)
       have n1_:=qaa.mk (Kd.R_below (by (with_reducible repeat (apply Kd.R_drew));exact HO_23.out) hb)
       have n2_:=qaa.mk (Kd.V_lower (Kd.V_mono (ok':=fun k_=>some k_≠(.slice Ao19 t517.length co19:Value).ownBlock∧some k_≠(.slice Ao20 t520.length co20:Value).ownBlock∧k_≠gb513∧k_≠gb514) ho0 (fun k_ hk_=>⟨(Kd.fresh' (Kd.R_lt (by (with_reducible repeat (apply Kd.R_drew));exact HO_5.out)) k_ hk_),(Kd.fresh' (Kd.R_lt (by (with_reducible repeat (apply Kd.R_drew));exact HO_23.out)) k_ hk_),(Kd.freshB (g:=gb513) (o:=.cells #[.bool a0_0,.int .i64 a0_1,.slice A0_2 l0_2.length c0_2] 24 (0,0)) (by (with_reducible repeat (refine qab ?_));exact BK513.out) k_ hk_),(Kd.freshB (g:=gb514) (o:=.cells #[.int .i64 a1_0,.int .i64 a1_1] 39 (0,0)) (by (with_reducible repeat (refine qab ?_));exact BK514.out) k_ hk_)⟩)) (qad HB.out))
       have n3_:=qaa.mk (qaf (g:=gb513) (o:=.cells #[.bool a0_0,.int .i64 a0_1,.slice A0_2 l0_2.length c0_2] 24 (0,0)) (by (with_reducible repeat (refine qab ?_));exact BK513.out) hb)
       have n4_:=qaa.mk (qaf (g:=gb514) (o:=.cells #[.int .i64 a1_0,.int .i64 a1_1] 39 (0,0)) (by (with_reducible repeat (refine qab ?_));exact BK514.out) hb)
       have n5_:=qaa.mk (qai HB.out hb)
       clear HO_5
       clear HO_23
       clear BK513
       clear BK514
       clear HB
       have HO_5:=n0_
       have HO_23:=n1_
       have HO538:=n2_
       have BK513:=n3_
       have BK514:=n4_
       have HB:=n5_
       clear n0_ n1_ n2_ n3_ n4_ n5_
       (try clear hb)
       (try clear ho0)
       obtain ⟨Ao67,co67,eo67⟩:=Kd.V_slice HO538.out
       (subst eo67)
       refine hK.out _ _ ⟨(qac BK513.out 0).trans rfl,(qac BK513.out 1).trans rfl,(qac BK513.out 2).trans rfl,(qac BK514.out 0).trans rfl,(qac BK514.out 1).trans rfl⟩ (fun hHeld=>?_)
       clear hK K
       refine qdk (a':=?_) ?_ ?_
       rotate_left
       ·show Act.put _ (some 50) _=_
        simp only [Act.put,List.setIfInBounds_toArray,List.set_cons_zero,List.set_cons_succ,qbd,qbe]
        rfl
       refine one_ (i:=3) (N:=some 51) #[true,true,true,true,true,true,false,false,false] rfl rfl (qdg HT_.out (by kernel_rfl)) (by decide) (fun K hK=>?_)
       refine qdz Tryd.func23 (by kernel_rfl) rfl #[.agg #[.slice Ao67 t536.length co67]] (by rfl) rfl rfl (by (try simp only [List.map_toArray,List.map_cons,List.map_nil]);rfl) ?_
       with_reducible refine (qci.calls _ _ t536 t539 _ ?side1 ?side2 ?side3 A62.out).mono ?_
       (case side1=>exact TabW.below' HTB.out HB.out)
       (case side2=>repeat (exact (Kd.V_reads' HO538.out).2.2))
       (case side3=>exact (Kd.V_reads' HO538.out).2.1)
       rintro e w68 ⟨v540,rfl,ho0,hb⟩
       refine ⟨_,rfl,?_⟩
       have n0_:=qaa.mk (Kd.R_below (by (with_reducible repeat (apply Kd.R_drew));exact HO_5.out) hb)
       have n1_:=qaa.mk (Kd.R_below (by (with_reducible repeat (apply Kd.R_drew));exact HO_23.out) hb)
       have n2_:=qaa.mk (Kd.V_elder' (by (with_reducible repeat (apply Kd.V_drew));exact HO538.out) (Kd.R_base ho0) hb)
       have n3_:=qaa.mk (Kd.R_lower ho0 (qad HB.out))
       have n4_:=qaa.mk (qaf (g:=gb513) (o:=.cells #[.bool a0_0,.int .i64 a0_1,.slice A0_2 l0_2.length c0_2] 24 (0,0)) (by (with_reducible repeat (refine qab ?_));exact BK513.out) hb)
       have n5_:=qaa.mk (qaf (g:=gb514) (o:=.cells #[.int .i64 a1_0,.int .i64 a1_1] 39 (0,0)) (by (with_reducible repeat (refine qab ?_));exact BK514.out) hb)
       have n6_:=qaa.mk (qai HB.out hb)
       clear HO_5
       clear HO_23
       clear HO538
       clear BK513
       clear BK514
       clear HB
       have HO_5:=n0_
       have HO_23:=n1_
       have HO538:=n2_
       have HO541:=n3_
       have BK513:=n4_
       have BK514:=n5_
       have HB:=n6_
       clear n0_ n1_ n2_ n3_ n4_ n5_ n6_
       (try clear hb)
       (try clear ho0)
       refine hK.out _ _ ⟨(qac BK513.out 0).trans rfl,(qac BK513.out 1).trans rfl,(qac BK513.out 2).trans rfl,(qac BK514.out 0).trans rfl,(qac BK514.out 1).trans rfl⟩ (fun hHeld=>?_)
       clear hK K
       refine qdk (a':=?_) ?_ ?_
       rotate_left
       ·show Act.put _ (some 51) _=_
        simp only [Act.put,List.setIfInBounds_toArray,List.set_cons_zero,List.set_cons_succ,qbd,qbe]
        rfl
       refine one_ (i:=6) (N:=some 54) #[true,true,true,true,true,true,true,false,false] rfl rfl (qdg HT_.out (by kernel_rfl)) (by decide) (fun K hK=>?_)
       refine qdz Tryd.func29 (by kernel_rfl) rfl #[.agg #[.bool a0_0,.int .i64 a0_1,.slice A0_2 l0_2.length c0_2],.agg #[.int .i64 a1_0,.int .i64 a1_1]] (by rfl) rfl rfl (by (try simp only [List.map_toArray,List.map_cons,List.map_nil]);rfl) ?_
       with_reducible refine (qaj.calls k1 a0_0 a0_1 _ _ l0_2 a1_0 a1_1 t542 _ ?side1 ?side2 A63.out).mono ?_
       (case side1=>repeat (exact (Kd.C_below HR0_2.out HB.out)))
       (case side2=>exact HC0_2.out)
       rintro e w69 ⟨v543,rfl,ho0,hb⟩
       refine ⟨_,rfl,?_⟩
       have n0_:=qaa.mk (Kd.R_below (by (with_reducible repeat (apply Kd.R_drew));exact HO_5.out) hb)
       have n1_:=qaa.mk (Kd.R_below (by (with_reducible repeat (apply Kd.R_drew));exact HO_23.out) hb)
       have n2_:=qaa.mk (Kd.V_elder' (by (with_reducible repeat (apply Kd.V_drew));exact HO538.out) (Kd.R_base ho0) hb)
       have n3_:=qaa.mk (Kd.R_elder' (by (with_reducible repeat (apply Kd.R_drew));exact HO541.out) (Kd.R_base ho0) hb)
       have n4_:=qaa.mk (Kd.R_lower (Kd.R_new' ho0 (Kd.R_lt (by (with_reducible repeat (apply Kd.R_drew));exact HO541.out))) (qad HB.out))
       have n5_:=qaa.mk (qaf (g:=gb513) (o:=.cells #[.bool a0_0,.int .i64 a0_1,.slice A0_2 l0_2.length c0_2] 24 (0,0)) (by (with_reducible repeat (refine qab ?_));exact BK513.out) hb)
       have n6_:=qaa.mk (qaf (g:=gb514) (o:=.cells #[.int .i64 a1_0,.int .i64 a1_1] 39 (0,0)) (by (with_reducible repeat (refine qab ?_));exact BK514.out) hb)
       have n7_:=qaa.mk (qai HB.out hb)
       clear HO_5
       clear HO_23
       clear HO538
       clear HO541
       clear BK513
       clear BK514
       clear HB
       have HO_5:=n0_
       have HO_23:=n1_
       have HO538:=n2_
       have HO541:=n3_
       have HO544:=n4_
       have BK513:=n5_
       have BK514:=n6_
       have HB:=n7_
       clear n0_ n1_ n2_ n3_ n4_ n5_ n6_ n7_
       (try clear hb)
       (try clear ho0)
       obtain ⟨Ao70,co70,eo70⟩:=Kd.R_slice HO541.out
       (subst eo70)
       obtain ⟨Ao71,co71,eo71⟩:=Kd.R_slice HO544.out
       (subst eo71)
       refine hK.out _ _ ⟨(qac BK513.out 0).trans rfl,(qac BK513.out 1).trans rfl,(qac BK513.out 2).trans rfl,(qac BK514.out 0).trans rfl,(qac BK514.out 1).trans rfl⟩ (fun hHeld=>?_)
       clear hK K
       refine qdk (a':=?_) ?_ ?_
       rotate_left
       ·show Act.put _ (some 54) _=_
        simp only [Act.put,List.setIfInBounds_toArray,List.set_cons_zero,List.set_cons_succ,qbd,qbe]
        rfl
       refine one_ (i:=7) (N:=some 55) #[true,true,true,true,true,true,true,true,false] rfl rfl (qdg HT_.out (by kernel_rfl)) (by decide) (fun K hK=>?_)
       refine qdz Tryd.func18 (by kernel_rfl) rfl #[.slice Ao70 t539.length co70,.slice Ao71 t542.length co71] (by rfl) rfl rfl (by (try simp only [List.map_toArray,List.map_cons,List.map_nil]);rfl) ?_
       with_reducible refine (qak.calls k1 _ _ t539 _ _ t542 t545 _ ?side1 ?side2 ?side3 ?side4 A64.out).mono ?_
       (case side1=>repeat (exact (Kd.R_reads' HO541.out).2.2))
       (case side2=>exact (Kd.R_reads' HO541.out).2.1)
       (case side3=>repeat (exact (Kd.R_reads' HO544.out).2.2))
       (case side4=>exact (Kd.R_reads' HO544.out).2.1)
       rintro e w' ⟨rfl,⟨nd,rfl⟩⟩
       refine ⟨_,rfl,?_⟩
       refine hK.out _ _ ⟨(qac BK513.out 0).trans rfl,(qac BK513.out 1).trans rfl,(qac BK513.out 2).trans rfl,(qac BK514.out 0).trans rfl,(qac BK514.out 1).trans rfl⟩ (fun hHeld=>?_)
       clear hK K
       refine qdk (a':=?_) ?_ ?_
       rotate_left
       ·show Act.put _ (some 55) _=_
        simp only [Act.put,List.setIfInBounds_toArray,List.set_cons_zero,List.set_cons_succ,qbd,qbe]
        rfl
       refine qcr (i:=8) (N:=some 4) (v:=?_) (a':=?_) #[true,true,true,true,true,true,true,true,true] rfl rfl (qca HT_.out (by kernel_rfl)) (fun _ _ _ h=>h) (Or.inl ⟨by rfl,?_⟩) ?_ ?_
       rotate_left
       ·intro w'
        go_simp
        with_reducible rfl
       rotate_left
       ·simp only [Act.put,List.setIfInBounds_toArray,List.set_cons_zero,List.set_cons_succ,qbd,qbe]
        rfl
       refine qfj (qek HT_.out (by kernel_rfl)) ?_
       try go_wp2
       go_ret
       exact ⟨by rfl,by repeat ((with_reducible first|exact HB.out|apply qay))⟩
   ·rw [if_neg c9] at H
    have c9b0:((t517.length:Int)==(t520.length:Int))=false:=beq_eq_false_iff_ne.mpr c9
    have c9b1:((t517.length:Int)!=(t520.length:Int))=true:=bne_iff_ne.mpr c9
    have c9b2:(t517.length==t520.length)=false:=by (simp at c9 ⊢;omega)
    obtain rfl:=Option.some.inj H
    go_enter Tryd.func6,Tryd.ntmps6
    try go_wp2_with (first|((with_reducible refine qbf (N:=2) rfl ?_);refine qbk ?hg (N:=2) ?hd (cs:=#[.bool a0_0,.int .i64 a0_1,.slice A0_2 l0_2.length c0_2]) (t:=24) ?hr ?_;(case hd=>rfl);(case hg=>rfl);(case hr=>(go_simp;done));intro gb513 hg w72 hbox hb;have BK513:=qaa.mk (hbox);have GW513:=qaa.mk ((by rw [hg];exact (qad HB.out):w.heap.size≤gb513));have GE513:=qaa.mk ((by rw [hg];exact (qad HB.out):w.heap.size≤gb513));replace HB:=qaa.mk (qai HB.out hb);clear hb hbox hg)|((with_reducible refine qbf (N:=3) rfl ?_);refine qbk ?hg (N:=3) ?hd (cs:=#[.int .i64 a1_0,.int .i64 a1_1]) (t:=39) ?hr ?_;(case hd=>rfl);(case hg=>rfl);(case hr=>(go_simp;done));intro gb514 hg w73 hbox hb;have BK514:=qaa.mk (hbox);have GW514:=qaa.mk ((by rw [hg];exact (qad HB.out):w.heap.size≤gb514));have GE514:=qaa.mk ((by rw [hg];exact (qad HB.out):w.heap.size≤gb514));replace HB:=qaa.mk (qai HB.out hb);have NB513_514:=qaa.mk ((by rw [hg];exact Nat.ne_of_lt (qbh (g:=gb513) (o:=.cells #[.bool a0_0,.int .i64 a0_1,.slice A0_2 l0_2.length c0_2] 24 (0,0)) (by (with_reducible repeat (refine qab ?_));exact BK513.out)):gb513≠gb514));have NB514_513:=qaa.mk ((by rw [hg];exact Nat.ne_of_gt (qbh (g:=gb513) (o:=.cells #[.bool a0_0,.int .i64 a0_1,.slice A0_2 l0_2.length c0_2] 24 (0,0)) (by (with_reducible repeat (refine qab ?_));exact BK513.out)):gb514≠gb513));replace BK513:=qaa.mk (qaf (g:=gb513) (o:=.cells #[.bool a0_0,.int .i64 a0_1,.slice A0_2 l0_2.length c0_2] 24 (0,0)) (by (with_reducible repeat (refine qab ?_));exact BK513.out) hb);clear hb hbox hg)|((with_reducible refine qbb (f:=11) rfl ?_);refine qcu (some 9) rfl rfl Tryd.func11 (by kernel_rfl) rfl #[] rfl (by (try simp only [List.map_toArray,List.map_cons,List.map_nil]);done) ?_;(with_reducible refine (qbr.calls k  true _ ?side1 A3.out).mono ?_);(case side1=>exact TabW.below' HTB.out HB.out);rintro e w74 ⟨rfl,hb⟩;refine ⟨_,rfl,?_⟩;replace BK513:=qaa.mk (qaf (g:=gb513) (o:=.cells #[.bool a0_0,.int .i64 a0_1,.slice A0_2 l0_2.length c0_2] 24 (0,0)) (by (with_reducible repeat (refine qab ?_));exact BK513.out) hb);replace BK514:=qaa.mk (qaf (g:=gb514) (o:=.cells #[.int .i64 a1_0,.int .i64 a1_1] 39 (0,0)) (by (with_reducible repeat (refine qab ?_));exact BK514.out) hb);replace HB:=qaa.mk (qai HB.out hb);(try clear hb);have hnb75:=NB513_514.out;have hnc75:=NB514_513.out;have hcz76_0:w74.cell? ⟨gb513,0,none⟩=some (.bool a0_0):=(qac BK513.out 0).trans rfl;have hcz76_1:w74.cell? ⟨gb513,1,none⟩=some (.int .i64 a0_1):=(qac BK513.out 1).trans rfl;have hcz76_2:w74.cell? ⟨gb513,2,none⟩=some (.slice A0_2 l0_2.length c0_2):=(qac BK513.out 2).trans rfl;have hfz76_0:=qag BK513.out 0;have hfz76_1:=qag BK513.out 1;have hfz76_2:=qag BK513.out 2)|((with_reducible refine qbb (f:=12) rfl ?_);refine qcu (some 12) rfl rfl Tryd.func12 (by kernel_rfl) rfl #[.agg #[.bool a0_0,.int .i64 a0_1,.slice A0_2 l0_2.length c0_2]] rfl (by (try simp only [List.map_toArray,List.map_cons,List.map_nil]);rfl) ?_;(with_reducible refine (qau.calls k a0_0 a0_1 _ _ l0_2 true _ ?side1 ?side2 A5.out).mono ?_);(case side1=>repeat (exact (Kd.C_below HR0_2.out HB.out)));(case side2=>exact HC0_2.out);rintro e w77 ⟨rfl,hb⟩;refine ⟨_,rfl,?_⟩;replace BK513:=qaa.mk (qaf (g:=gb513) (o:=.cells #[.bool a0_0,.int .i64 a0_1,.slice A0_2 l0_2.length c0_2] 24 (0,0)) (by (with_reducible repeat (refine qab ?_));exact BK513.out) hb);replace BK514:=qaa.mk (qaf (g:=gb514) (o:=.cells #[.int .i64 a1_0,.int .i64 a1_1] 39 (0,0)) (by (with_reducible repeat (refine qab ?_));exact BK514.out) hb);replace HB:=qaa.mk (qai HB.out hb);(try clear hb)))
    have n0_:=qaa.mk (qab BK513.out)
    have n1_:=qaa.mk (qab BK514.out)
    have n2_:=qaa.mk (qcz HB.out)
    clear BK513
    clear BK514
    clear HB
    have BK513:=n0_
    have BK514:=n1_
    have HB:=n2_
    clear n0_ n1_ n2_
    refine qew (n:=6) (S:=fun w'=>w'.cell? ⟨gb513,0,none⟩=some (.bool a0_0)∧w'.cell? ⟨gb513,1,none⟩=some (.int .i64 a0_1)∧w'.cell? ⟨gb513,2,none⟩=some (.slice A0_2 l0_2.length c0_2)) (ds:=[]) #[false,false,false,false,false,false] (by kernel_rfl) rfl rfl ⟨(qac BK513.out 0).trans rfl,(qac BK513.out 1).trans rfl,(qac BK513.out 2).trans rfl⟩ (fun hHeld=>?_)
    generalize w77.drew=w78 at BK513 BK514 HB hHeld ⊢
    refine take_ (i:=0) (N:=some 14) (v:=?_) (a':=?_) #[true,false,false,false,false,false] rfl rfl (by kernel_rfl) (fun _ _ _ h=>h) (Or.inl ⟨by rfl,?_⟩) hHeld ?_ ?_
    rotate_left
    ·rintro w' ⟨s0,s1,s2⟩
     go_simp
     with_reducible rfl
    rotate_left
    ·simp only [Act.put,List.setIfInBounds_toArray,List.set_cons_zero,List.set_cons_succ,qbd,qbe]
     rfl
    refine take_ (i:=2) (N:=some 16) (v:=?_) (a':=?_) #[true,false,true,false,false,false] rfl rfl (by kernel_rfl) (fun _ _ _ h=>h) (Or.inl ⟨by rfl,?_⟩) hHeld ?_ ?_
    rotate_left
    ·rintro w' ⟨s0,s1,s2⟩
     go_simp
     with_reducible rfl
    rotate_left
    ·simp only [Act.put,List.setIfInBounds_toArray,List.set_cons_zero,List.set_cons_succ,qbd,qbe]
     rfl
    refine one_ (i:=1) (N:=some 15) #[true,true,true,false,false,false] rfl rfl (by kernel_rfl) (by decide) (fun K hK=>?_)
    refine qdz Tryd.func26 (by kernel_rfl) rfl #[.agg #[.bool a0_0,.int .i64 a0_1,.slice A0_2 l0_2.length c0_2]] (by rfl) rfl rfl (by (try simp only [List.map_toArray,List.map_cons,List.map_nil]);rfl) ?_
    with_reducible refine (qbx.calls k a0_0 a0_1 _ _ l0_2 t517 _ ?side1 ?side2 ?side3 A7.out).mono ?_
    (case side1=>exact TabW.below' HTB.out HB.out)
    (case side2=>repeat (exact (Kd.C_below HR0_2.out HB.out)))
    (case side3=>exact HC0_2.out)
    rintro e w79 ⟨v518,rfl,ho0,hb⟩
    refine ⟨_,rfl,?_⟩
    have n0_:=qaa.mk (Kd.R_lower (Kd.R_newB ho0 (g:=gb514) (o:=.cells #[.int .i64 a1_0,.int .i64 a1_1] 39 (0,0)) (by (with_reducible repeat (refine qab ?_));exact BK514.out)) (qad HB.out))
    have n1_:=qaa.mk (qaf (g:=gb513) (o:=.cells #[.bool a0_0,.int .i64 a0_1,.slice A0_2 l0_2.length c0_2] 24 (0,0)) (by (with_reducible repeat (refine qab ?_));exact BK513.out) hb)
    have n2_:=qaa.mk (qaf (g:=gb514) (o:=.cells #[.int .i64 a1_0,.int .i64 a1_1] 39 (0,0)) (by (with_reducible repeat (refine qab ?_));exact BK514.out) hb)
    have n3_:=qaa.mk (qai HB.out hb)
    clear BK513
    clear BK514
    clear HB
    have HO519:=n0_
    have BK513:=n1_
    have BK514:=n2_
    have HB:=n3_
    clear n0_ n1_ n2_ n3_
    (try clear hb)
    (try clear ho0)
    refine hK.out _ _ ⟨(qac BK513.out 0).trans rfl,(qac BK513.out 1).trans rfl,(qac BK513.out 2).trans rfl⟩ (fun hHeld=>?_)
    clear hK K
    refine qdk (a':=?_) ?_ ?_
    rotate_left
    ·show Act.put _ (some 15) _=_
     simp only [Act.put,List.setIfInBounds_toArray,List.set_cons_zero,List.set_cons_succ,qbd,qbe]
     rfl
    refine one_ (i:=3) (N:=some 17) #[true,true,true,true,false,false] rfl rfl (by kernel_rfl) (by decide) (fun K hK=>?_)
    refine qdz Tryd.func27 (by kernel_rfl) rfl #[.agg #[.bool a0_0,.int .i64 a0_1,.slice A0_2 l0_2.length c0_2]] (by rfl) rfl rfl (by (try simp only [List.map_toArray,List.map_cons,List.map_nil]);rfl) ?_
    with_reducible refine (qbg.calls k a0_0 a0_1 _ _ l0_2 t520 _ ?side1 ?side2 A8.out).mono ?_
    (case side1=>repeat (exact (Kd.C_below HR0_2.out HB.out)))
    (case side2=>exact HC0_2.out)
    rintro e w80 ⟨v521,rfl,ho0,hb⟩
    refine ⟨_,rfl,?_⟩
    have n0_:=qaa.mk (Kd.R_elder' (by (with_reducible repeat (apply Kd.R_drew));exact HO519.out) (Kd.R_base ho0) hb)
    have n1_:=qaa.mk (Kd.R_lower (Kd.R_newB (Kd.R_new' ho0 (Kd.R_lt (by (with_reducible repeat (apply Kd.R_drew));exact HO519.out))) (g:=gb514) (o:=.cells #[.int .i64 a1_0,.int .i64 a1_1] 39 (0,0)) (by (with_reducible repeat (refine qab ?_));exact BK514.out)) (qad HB.out))
    have n2_:=qaa.mk (qaf (g:=gb513) (o:=.cells #[.bool a0_0,.int .i64 a0_1,.slice A0_2 l0_2.length c0_2] 24 (0,0)) (by (with_reducible repeat (refine qab ?_));exact BK513.out) hb)
    have n3_:=qaa.mk (qaf (g:=gb514) (o:=.cells #[.int .i64 a1_0,.int .i64 a1_1] 39 (0,0)) (by (with_reducible repeat (refine qab ?_));exact BK514.out) hb)
    have n4_:=qaa.mk (qai HB.out hb)
    clear HO519
    clear BK513
    clear BK514
    clear HB
    have HO519:=n0_
    have HO522:=n1_
    have BK513:=n2_
    have BK514:=n3_
    have HB:=n4_
    clear n0_ n1_ n2_ n3_ n4_
    (try clear hb)
    (try clear ho0)
    refine hK.out _ _ ⟨(qac BK513.out 0).trans rfl,(qac BK513.out 1).trans rfl,(qac BK513.out 2).trans rfl⟩ (fun hHeld=>?_)
    clear hK K
    refine qdk (a':=?_) ?_ ?_
    rotate_left
    ·show Act.put _ (some 17) _=_
     simp only [Act.put,List.setIfInBounds_toArray,List.set_cons_zero,List.set_cons_succ,qbd,qbe]
     rfl
    refine qcr (i:=4) (N:=some 5) (v:=?_) (a':=?_) #[true,true,true,true,true,false] rfl rfl (by kernel_rfl) (fun _ _ _ h=>h) (Or.inl ⟨by rfl,?_⟩) ?_ ?_
    rotate_left
    ·intro w'
     go_simp
     with_reducible rfl
    rotate_left
    ·simp only [Act.put,List.setIfInBounds_toArray,List.set_cons_zero,List.set_cons_succ,qbd,qbe]
     rfl
    refine qcr (i:=5) (N:=some 6) (v:=?_) (a':=?_) #[true,true,true,true,true,true] rfl rfl (by kernel_rfl) (fun _ _ _ h=>h) (Or.inl ⟨by rfl,?_⟩) ?_ ?_
    rotate_left
    ·intro w'
     go_simp
     with_reducible rfl
    rotate_left
    ·simp only [Act.put,List.setIfInBounds_toArray,List.set_cons_zero,List.set_cons_succ,qbd,qbe]
     rfl
    refine qfj (by kernel_rfl) ?_
    obtain ⟨Ao81,co81,eo81⟩:=Kd.R_slice HO519.out
    subst eo81
    obtain ⟨Ao82,co82,eo82⟩:=Kd.R_slice HO522.out
    subst eo82
    try go_wp2
    go_ret
    exact ⟨by rfl,by repeat ((with_reducible exact HB.out))⟩
  ·replace c6:=Bool.eq_false_iff.mpr c6
   subst c6
   have H1:(some true)=some r:=by rw [if_neg (show ¬ (false=true) by decide)] at H;exact H
   clear H
   have H:=H1
   clear H1
   obtain rfl:=Option.some.inj H
   go_enter Tryd.func6,Tryd.ntmps6
   go_wp2_with (first|((with_reducible refine qbf (N:=2) rfl ?_);refine qbk ?hg (N:=2) ?hd (cs:=#[.bool a0_0,.int .i64 a0_1,.slice A0_2 l0_2.length c0_2]) (t:=24) ?hr ?_;(case hd=>rfl);(case hg=>rfl);(case hr=>(go_simp;done));intro gb513 hg w83 hbox hb;have BK513:=qaa.mk (hbox);have GW513:=qaa.mk ((by rw [hg];exact (qad HB.out):w.heap.size≤gb513));have GE513:=qaa.mk ((by rw [hg];exact (qad HB.out):w.heap.size≤gb513));replace HB:=qaa.mk (qai HB.out hb);clear hb hbox hg)|((with_reducible refine qbf (N:=3) rfl ?_);refine qbk ?hg (N:=3) ?hd (cs:=#[.int .i64 a1_0,.int .i64 a1_1]) (t:=39) ?hr ?_;(case hd=>rfl);(case hg=>rfl);(case hr=>(go_simp;done));intro gb514 hg w84 hbox hb;have BK514:=qaa.mk (hbox);have GW514:=qaa.mk ((by rw [hg];exact (qad HB.out):w.heap.size≤gb514));have GE514:=qaa.mk ((by rw [hg];exact (qad HB.out):w.heap.size≤gb514));replace HB:=qaa.mk (qai HB.out hb);have NB513_514:=qaa.mk ((by rw [hg];exact Nat.ne_of_lt (qbh (g:=gb513) (o:=.cells #[.bool a0_0,.int .i64 a0_1,.slice A0_2 l0_2.length c0_2] 24 (0,0)) (by (with_reducible repeat (refine qab ?_));exact BK513.out)):gb513≠gb514));have NB514_513:=qaa.mk ((by rw [hg];exact Nat.ne_of_gt (qbh (g:=gb513) (o:=.cells #[.bool a0_0,.int .i64 a0_1,.slice A0_2 l0_2.length c0_2] 24 (0,0)) (by (with_reducible repeat (refine qab ?_));exact BK513.out)):gb514≠gb513));replace BK513:=qaa.mk (qaf (g:=gb513) (o:=.cells #[.bool a0_0,.int .i64 a0_1,.slice A0_2 l0_2.length c0_2] 24 (0,0)) (by (with_reducible repeat (refine qab ?_));exact BK513.out) hb);clear hb hbox hg)|((with_reducible refine qbb (f:=11) rfl ?_);refine qcu (some 9) rfl rfl Tryd.func11 (by kernel_rfl) rfl #[] rfl (by (try simp only [List.map_toArray,List.map_cons,List.map_nil]);done) ?_;(with_reducible refine (qbr.calls k  true _ ?side1 A3.out).mono ?_);(case side1=>exact TabW.below' HTB.out HB.out);rintro e w85 ⟨rfl,hb⟩;refine ⟨_,rfl,?_⟩;replace BK513:=qaa.mk (qaf (g:=gb513) (o:=.cells #[.bool a0_0,.int .i64 a0_1,.slice A0_2 l0_2.length c0_2] 24 (0,0)) (by (with_reducible repeat (refine qab ?_));exact BK513.out) hb);replace BK514:=qaa.mk (qaf (g:=gb514) (o:=.cells #[.int .i64 a1_0,.int .i64 a1_1] 39 (0,0)) (by (with_reducible repeat (refine qab ?_));exact BK514.out) hb);replace HB:=qaa.mk (qai HB.out hb);(try clear hb);have hnb86:=NB513_514.out;have hnc86:=NB514_513.out;have hcz87_0:w85.cell? ⟨gb513,0,none⟩=some (.bool a0_0):=(qac BK513.out 0).trans rfl;have hcz87_1:w85.cell? ⟨gb513,1,none⟩=some (.int .i64 a0_1):=(qac BK513.out 1).trans rfl;have hcz87_2:w85.cell? ⟨gb513,2,none⟩=some (.slice A0_2 l0_2.length c0_2):=(qac BK513.out 2).trans rfl;have hfz87_0:=qag BK513.out 0;have hfz87_1:=qag BK513.out 1;have hfz87_2:=qag BK513.out 2)|((with_reducible refine qbb (f:=12) rfl ?_);refine qcu (some 12) rfl rfl Tryd.func12 (by kernel_rfl) rfl #[.agg #[.bool a0_0,.int .i64 a0_1,.slice A0_2 l0_2.length c0_2]] rfl (by (try simp only [List.map_toArray,List.map_cons,List.map_nil]);rfl) ?_;(with_reducible refine (qau.calls k a0_0 a0_1 _ _ l0_2 false _ ?side1 ?side2 A5.out).mono ?_);(case side1=>repeat (exact (Kd.C_below HR0_2.out HB.out)));(case side2=>exact HC0_2.out);rintro e w88 ⟨rfl,hb⟩;refine ⟨_,rfl,?_⟩;replace BK513:=qaa.mk (qaf (g:=gb513) (o:=.cells #[.bool a0_0,.int .i64 a0_1,.slice A0_2 l0_2.length c0_2] 24 (0,0)) (by (with_reducible repeat (refine qab ?_));exact BK513.out) hb);replace BK514:=qaa.mk (qaf (g:=gb514) (o:=.cells #[.int .i64 a1_0,.int .i64 a1_1] 39 (0,0)) (by (with_reducible repeat (refine qab ?_));exact BK514.out) hb);replace HB:=qaa.mk (qai HB.out hb);(try clear hb)))
   go_ret
   exact ⟨by rfl,by repeat ((with_reducible exact HB.out))⟩
 ·replace c4:=Bool.eq_false_iff.mpr c4
  subst c4
  have H1:(some false)=some r:=by rw [if_neg (show ¬ (false=true) by decide)] at H;exact H
  clear H
  have H:=H1
  clear H1
  obtain rfl:=Option.some.inj H
  go_enter Tryd.func6,Tryd.ntmps6
  go_wp2_with (first|((with_reducible refine qbf (N:=2) rfl ?_);refine qbk ?hg (N:=2) ?hd (cs:=#[.bool a0_0,.int .i64 a0_1,.slice A0_2 l0_2.length c0_2]) (t:=24) ?hr ?_;(case hd=>rfl);(case hg=>rfl);(case hr=>(go_simp;done));intro gb513 hg w89 hbox hb;have BK513:=qaa.mk (hbox);have GW513:=qaa.mk ((by rw [hg];exact (qad HB.out):w.heap.size≤gb513));have GE513:=qaa.mk ((by rw [hg];exact (qad HB.out):w.heap.size≤gb513));replace HB:=qaa.mk (qai HB.out hb);clear hb hbox hg)|((with_reducible refine qbf (N:=3) rfl ?_);refine qbk ?hg (N:=3) ?hd (cs:=#[.int .i64 a1_0,.int .i64 a1_1]) (t:=39) ?hr ?_;(case hd=>rfl);(case hg=>rfl);(case hr=>(go_simp;done));intro gb514 hg w90 hbox hb;have BK514:=qaa.mk (hbox);have GW514:=qaa.mk ((by rw [hg];exact (qad HB.out):w.heap.size≤gb514));have GE514:=qaa.mk ((by rw [hg];exact (qad HB.out):w.heap.size≤gb514));replace HB:=qaa.mk (qai HB.out hb);have NB513_514:=qaa.mk ((by rw [hg];exact Nat.ne_of_lt (qbh (g:=gb513) (o:=.cells #[.bool a0_0,.int .i64 a0_1,.slice A0_2 l0_2.length c0_2] 24 (0,0)) (by (with_reducible repeat (refine qab ?_));exact BK513.out)):gb513≠gb514));have NB514_513:=qaa.mk ((by rw [hg];exact Nat.ne_of_gt (qbh (g:=gb513) (o:=.cells #[.bool a0_0,.int .i64 a0_1,.slice A0_2 l0_2.length c0_2] 24 (0,0)) (by (with_reducible repeat (refine qab ?_));exact BK513.out)):gb514≠gb513));replace BK513:=qaa.mk (qaf (g:=gb513) (o:=.cells #[.bool a0_0,.int .i64 a0_1,.slice A0_2 l0_2.length c0_2] 24 (0,0)) (by (with_reducible repeat (refine qab ?_));exact BK513.out) hb);clear hb hbox hg)|((with_reducible refine qbb (f:=11) rfl ?_);refine qcu (some 9) rfl rfl Tryd.func11 (by kernel_rfl) rfl #[] rfl (by (try simp only [List.map_toArray,List.map_cons,List.map_nil]);done) ?_;(with_reducible refine (qbr.calls k  false _ ?side1 A3.out).mono ?_);(case side1=>exact TabW.below' HTB.out HB.out);rintro e w91 ⟨rfl,hb⟩;refine ⟨_,rfl,?_⟩;replace BK513:=qaa.mk (qaf (g:=gb513) (o:=.cells #[.bool a0_0,.int .i64 a0_1,.slice A0_2 l0_2.length c0_2] 24 (0,0)) (by (with_reducible repeat (refine qab ?_));exact BK513.out) hb);replace BK514:=qaa.mk (qaf (g:=gb514) (o:=.cells #[.int .i64 a1_0,.int .i64 a1_1] 39 (0,0)) (by (with_reducible repeat (refine qab ?_));exact BK514.out) hb);replace HB:=qaa.mk (qai HB.out hb);(try clear hb)))
  go_ret
  exact ⟨by rfl,by repeat ((with_reducible exact HB.out))⟩
end
end Go.Proofs.YtmfjmbcfaamebaaDoor.X
