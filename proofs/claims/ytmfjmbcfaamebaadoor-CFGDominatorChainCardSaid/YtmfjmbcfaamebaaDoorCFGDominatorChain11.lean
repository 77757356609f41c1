/- Parts of the proof of the law CFGDominatorChain: words, walks of single functions and plain laws, joined by a program out of the session's texts. -/
import Derived.Test.YtmfjmbcfaamebaaDoorCFGDominatorChain10
set_option linter.unusedVariables false
set_option linter.unusedSimpArgs false
namespace Go.Proofs.YtmfjmbcfaamebaaDoor.X
noncomputable section
open Go.RowKit Go.Proofs.YtmfjmbcfaamebaaDoorW.PrintWords Go.Proofs.YtmfjmbcfaamebaaDoorW.PrintLast Go.Proofs.YtmfjmbcfaamebaaDoorW.PrintMore
attribute [local go_sem] qbv qcg
set_option linter.unusedVariables false
set_option linter.unusedSimpArgs false
mutual
def qab.j0:Nat→List (S38)→List Int→Bool→Bool→Int→List (S60)→Option (Bool)
 | 0,_,_,_,_,_,_=>none
 | k+1,x3,x4,x33,x608000,x608001,x608002=>if x33=true then (some false) else (qab.l0 k x3 x4 (x608002.length:Int) 0 x608000 x608001 x608002)
def qab.l0:Nat→List (S38)→List Int→Int→Int→Bool→Int→List (S60)→Option (Bool)
 | 0,_,_,_,_,_,_,_=>none
 | k+1,x3,x4,x36,x37,x608000,x608001,x608002=>if x37<x36 then (if 0≤x37 then (if x37<(x4.length:Int) then (if (rd x4 x37)≥(x608002.length:Int) then (some false) else (if (rd x4 x37)≥0 then (if x37<(x3.length:Int) then (if 0≤(rd x4 x37) then (if (rd x4 x37)<(x3.length:Int) then ((qca.f k ((qcd x3 (rd x4 x37)).f0) x37).bind fun t619=>((qda.f k ((qcd x3 x37).f0) t619).bind fun t622=>(if t622=true then (qab.l0 k x3 x4 x36 (wrap64 (x37+1)) x608000 x608001 x608002) else (some false)))) else (none)) else (none)) else (none)) else (qab.l0 k x3 x4 x36 (wrap64 (x37+1)) x608000 x608001 x608002))) else (none)) else (none)) else ((qcf.f k x608000 x608001 x608002).bind fun t623=>(qab.l1 k x3 t623 (t623.length:Int) 0 x608000 x608001 x608002))
def qab.l1:Nat→List (S38)→List (S39)→Int→Int→Bool→Int→List (S60)→Option (Bool)
 | 0,_,_,_,_,_,_,_=>none
 | k+1,x3,x69,x70,x71,x608000,x608001,x608002=>if x71<x70 then (if 0≤x71 then (if x71<(x69.length:Int) then ((qbn.f k x608000 x608001 x608002 ((qbt x69 x71).f0) ((qbt x69 x71).f1)).bind fun t628=>((qcs.f t628).bind fun t631=>(qab.l2 k x3 x69 x70 x71 t631 (t631.length:Int) 0 x608000 x608001 x608002 ((qbt x69 x71).f0) ((qbt x69 x71).f1)))) else (none)) else (none)) else (some true)
def qab.l2:Nat→List (S38)→List (S39)→Int→Int→List Int→Int→Int→Bool→Int→List (S60)→Int→Int→Option (Bool)
 | 0,_,_,_,_,_,_,_,_,_,_,_,_=>none
 | k+1,x3,x69,x70,x71,x78,x79,x80,x608000,x608001,x608002,x628000,x628001=>if x80<x79 then (if 0≤x80 then (if x80<(x78.length:Int) then (if (rd x78 x80)<0 then (some false) else (if (rd x78 x80)≥(x3.length:Int) then (some false) else (if 0≤(rd x78 x80) then (if (rd x78 x80)<(x3.length:Int) then ((qcc.f ((qcd x3 (rd x78 x80)).f0) x628001).bind fun t636=>(if t636=true then (qab.l2 k x3 x69 x70 x71 x78 x79 (wrap64 (x80+1)) x608000 x608001 x608002 x628000 x628001) else (some false))) else (none)) else (none)))) else (none)) else (none)) else (qab.l1 k x3 x69 x70 (wrap64 (x71+1)) x608000 x608001 x608002)
end
def qab.f (k:Nat) (a0_0:Bool) (a0_1:Int) (l0_2:List (S60)):Option (Bool):=(qbj.f k).bind fun t608=>(if t608=true then ((qar.f k a0_0 a0_1 l0_2).bind fun t609=>(if t609=true then ((qbh.f a0_0 a0_1 l0_2).bind fun t610=>((qbd.f a0_0 a0_1 l0_2).bind fun t613=>(if (t610.length:Int)=(l0_2.length:Int) then (qab.j0 k t610 t613 ((t613.length:Int)!=(l0_2.length:Int)) a0_0 a0_1 l0_2) else (qab.j0 k t610 t613 true a0_0 a0_1 l0_2)))) else (some true))) else (some false))
theorem qab.mono_l:∀ k,(∀ y0 y1 y2 y3 y4 y5,LeO (qab.j0 k y0 y1 y2 y3 y4 y5) (qab.j0 (k+1) y0 y1 y2 y3 y4 y5))∧(∀ y0 y1 y2 y3 y4 y5 y6,LeO (qab.l0 k y0 y1 y2 y3 y4 y5 y6) (qab.l0 (k+1) y0 y1 y2 y3 y4 y5 y6))∧(∀ y0 y1 y2 y3 y4 y5 y6,LeO (qab.l1 k y0 y1 y2 y3 y4 y5 y6) (qab.l1 (k+1) y0 y1 y2 y3 y4 y5 y6))∧(∀ y0 y1 y2 y3 y4 y5 y6 y7 y8 y9 y10 y11,LeO (qab.l2 k y0 y1 y2 y3 y4 y5 y6 y7 y8 y9 y10 y11) (qab.l2 (k+1) y0 y1 y2 y3 y4 y5 y6 y7 y8 y9 y10 y11))
 | 0=>⟨fun _ _ _ _ _ _ r h=>by simp [qab.j0] at h,fun _ _ _ _ _ _ _ r h=>by simp [qab.l0] at h,fun _ _ _ _ _ _ _ r h=>by simp [qab.l1] at h,fun _ _ _ _ _ _ _ _ _ _ _ _ r h=>by simp [qab.l2] at h⟩
 | k+1=>by
  obtain ⟨ih0,ih1,ih2,ih3⟩:=qab.mono_l k
  refine ⟨?_,?_,?_,?_⟩
  ·intro y0 y1 y2 y3 y4 y5
   unfold qab.j0
   repeat' first|(with_reducible exact ih1 _ _ _ _ _ _ _)|(with_reducible exact LeO.refl _)|(with_reducible refine LeO.ite ?_ ?_)
  ·intro y0 y1 y2 y3 y4 y5 y6
   unfold qab.l0
   repeat' first|(with_reducible exact ih1 _ _ _ _ _ _ _)|(with_reducible exact ih2 _ _ _ _ _ _ _)|(with_reducible exact qda.mono _ _ _)|(with_reducible exact qca.mono _ _ _)|(with_reducible exact qcf.mono _ _ _ _)|(with_reducible exact LeO.refl _)|(with_reducible refine LeO.ite ?_ ?_)|(with_reducible refine LeO.bind ?_ (fun _=>?_))
  ·intro y0 y1 y2 y3 y4 y5 y6
   unfold qab.l1
   repeat' first|(with_reducible exact ih3 _ _ _ _ _ _ _ _ _ _ _ _)|(with_reducible exact qbn.mono _ _ _ _ _ _)|(with_reducible exact LeO.refl _)|(with_reducible refine LeO.ite ?_ ?_)|(with_reducible refine LeO.bind ?_ (fun _=>?_))
  ·intro y0 y1 y2 y3 y4 y5 y6 y7 y8 y9 y10 y11
   unfold qab.l2
   repeat' first|(with_reducible exact ih2 _ _ _ _ _ _ _)|(with_reducible exact ih3 _ _ _ _ _ _ _ _ _ _ _ _)|(with_reducible exact LeO.refl _)|(with_reducible refine LeO.ite ?_ ?_)|(with_reducible refine LeO.bind ?_ (fun _=>?_))
theorem qab.mono:∀ a0 a1 a2 k,LeO (qab.f k a0 a1 a2) (qab.f (k+1) a0 a1 a2):=by
 intro a0 a1 a2 k
 obtain ⟨ih0,ih1,ih2,ih3⟩:=qab.mono_l k
 unfold qab.f
 repeat' first|(with_reducible exact ih0 _ _ _ _ _ _)|(with_reducible exact qbj.mono _)|(with_reducible exact qar.mono _ _ _ _)|(with_reducible exact LeO.refl _)|(with_reducible refine LeO.ite ?_ ?_)|(with_reducible refine LeO.bind ?_ (fun _=>?_))
def qab.T12:Bool×List (List Nat×List Nat):=(true,[([],[]),([],[]),([1],[1]),([2],[2]),([0,3],[0,3]),([4],[4]),([5],[5]),([6,5],[5,6]),([7,5,5],[5,7]),([8],[8]),([8],[8]),([9,10,8],[8,9,10]),([11,8],[8,11]),([8],[8]),([8],[8]),([13,14,8],[8,13,14]),([15,8],[8,15]),([8],[8]),([16,17,8,8],[8,16,17]),([12,18,18,8],[8,12,18]),([19,8],[8,19]),([8,20,5],[5,8,20]),([5,21],[5,21])])
def qab.B12:List Nat:=[0,0,2,6,15,31,63,127,255,511,511,2047,4095,511,511,25087,57855,511,254463,524287,1048575,2097151,4194303]
theorem qab.tab12:rtab .any (opsOf Tryd.f9 12)=qab.T12:=by kernel_rfl
theorem qab.bits12:qey qab.T12.2 qab.B12=true:=by kernel_rfl
def qab.T21:Bool×List (List Nat×List Nat):=(true,[([],[]),([0],[0]),([1],[1]),([2],[2]),([2],[2]),([4,2],[2,4]),([3,5,2],[2,3,5]),([2,6],[2,6]),([7,2],[7]),([8],[8]),([8],[8]),([9,10,8],[8,9,10]),([11,8],[8,11]),([8],[8]),([13,8],[8,13]),([12,14,8,8],[8,12,14]),([15,8],[8,15]),([8,16],[8,16])])
def qab.B21:List Nat:=[0,1,3,7,7,23,63,127,255,511,511,2047,4095,511,8703,32767,65535,131071]
theorem qab.tab21:rtab .any (opsOf Tryd.f9 21)=qab.T21:=by kernel_rfl
theorem qab.bits21:qey qab.T21.2 qab.B21=true:=by kernel_rfl
set_option maxHeartbeats 8000000 in
set_option maxRecDepth 100000 in
theorem qab.calls (k:Nat) (a0_0:Bool) (a0_1:Int) (A0_2:Option Addr) (c0_2:Nat) (l0_2:List (S60)) (r:Bool) (w:World) (hT:TabW w) (hr0_2:Kd.C k60 w A0_2 l0_2.length l0_2) (hc0_2:l0_2.length≤c0_2) (h:qab.f k a0_0 a0_1 l0_2=some r) :
  Calls Tryd.prog 9 #[.agg #[.bool a0_0,.int .i64 a0_1,.slice A0_2 l0_2.length c0_2]] w fun e w'=>e=.returned (.bool r)∧Below w.heap.size w w':=by
 have hu24:=Tryd.underlying24
 have hu38:=Tryd.underlying38
 have hu39:=Tryd.underlying39
 have HR0_2:=qaa.mk hr0_2
 have HC0_2:=qaa.mk hc0_2
 clear hr0_2 hc0_2
 have HTB:=qaa.mk hT
 clear hT
 have HB:=qaa.mk (Below.refl w.heap.size w)
 have H:((qbj.f k).bind fun t608=>(if t608=true then ((qar.f k a0_0 a0_1 l0_2).bind fun t609=>(if t609=true then ((qbh.f a0_0 a0_1 l0_2).bind fun t610=>((qbd.f a0_0 a0_1 l0_2).bind fun t613=>(if (t610.length:Int)=(l0_2.length:Int) then (qab.j0 k t610 t613 ((t613.length:Int)!=(l0_2.length:Int)) a0_0 a0_1 l0_2) else (qab.j0 k t610 t613 true a0_0 a0_1 l0_2)))) else (some true))) else (some false)))=some r:=h
 clear h
 replace H:=Option.bind_eq_some_iff.mp H
 obtain ⟨t608,A20,H⟩:=H
 replace H:(if t608=true then ((qar.f k a0_0 a0_1 l0_2).bind fun t609=>(if t609=true then ((qbh.f a0_0 a0_1 l0_2).bind fun t610=>((qbd.f a0_0 a0_1 l0_2).bind fun t613=>(if (t610.length:Int)=(l0_2.length:Int) then (qab.j0 k t610 t613 ((t613.length:Int)!=(l0_2.length:Int)) a0_0 a0_1 l0_2) else (qab.j0 k t610 t613 true a0_0 a0_1 l0_2)))) else (some true))) else (some false))=some r:=H
 have A2:=qaa.mk A20
 clear A20
 by_cases c3:t608=true
 ·subst c3
  have H1:((qar.f k a0_0 a0_1 l0_2).bind fun t609=>(if t609=true then ((qbh.f a0_0 a0_1 l0_2).bind fun t610=>((qbd.f a0_0 a0_1 l0_2).bind fun t613=>(if (t610.length:Int)=(l0_2.length:Int) then (qab.j0 k t610 t613 ((t613.length:Int)!=(l0_2.length:Int)) a0_0 a0_1 l0_2) else (qab.j0 k t610 t613 true a0_0 a0_1 l0_2)))) else (some true)))=some r:=by rw [if_pos rfl] at H;exact H
  clear H
  have H:=H1
  clear H1
  replace H:=Option.bind_eq_some_iff.mp H
  obtain ⟨t609,A40,H⟩:=H
  replace H:(if t609=true then ((qbh.f a0_0 a0_1 l0_2).bind fun t610=>((qbd.f a0_0 a0_1 l0_2).bind fun t613=>(if (t610.length:Int)=(l0_2.length:Int) then (qab.j0 k t610 t613 ((t613.length:Int)!=(l0_2.length:Int)) a0_0 a0_1 l0_2) else (qab.j0 k t610 t613 true a0_0 a0_1 l0_2)))) else (some true))=some r:=H
  have A4:=qaa.mk A40
  clear A40
  by_cases c5:t609=true
  ·subst c5
   have H1:((qbh.f a0_0 a0_1 l0_2).bind fun t610=>((qbd.f a0_0 a0_1 l0_2).bind fun t613=>(if (t610.length:Int)=(l0_2.length:Int) then (qab.j0 k t610 t613 ((t613.length:Int)!=(l0_2.length:Int)) a0_0 a0_1 l0_2) else (qab.j0 k t610 t613 true a0_0 a0_1 l0_2))))=some r:=by rw [if_pos rfl] at H;exact H
   clear H
   have H:=H1
   clear H1
   replace H:=Option.bind_eq_some_iff.mp H
   obtain ⟨t610,A60,H⟩:=H
   replace H:((qbd.f a0_0 a0_1 l0_2).bind fun t613=>(if (t610.length:Int)=(l0_2.length:Int) then (qab.j0 k t610 t613 ((t613.length:Int)!=(l0_2.length:Int)) a0_0 a0_1 l0_2) else (qab.j0 k t610 t613 true a0_0 a0_1 l0_2)))=some r:=H
   have A6:=qaa.mk A60
   clear A60
   replace H:=Option.bind_eq_some_iff.mp H
   obtain ⟨t613,A70,H⟩:=H
   replace H:(if (t610.length:Int)=(l0_2.length:Int) then (qab.j0 k t610 t613 ((t613.length:Int)!=(l0_2.length:Int)) a0_0 a0_1 l0_2) else (qab.j0 k t610 t613 true a0_0 a0_1 l0_2))=some r:=H
   have A7:=qaa.mk A70
   clear A70
   have HC8:=qaa.mk H
   clear H
   go_enter Tryd.func9,Tryd.ntmps9
   try go_wp2_with (first|((with_reducible refine qbr (N:=1) rfl ?_);(try (refine qcw (by rfl) ?_;dsimp only));refine qby ?hg (N:=1) ?hd (cs:=#[.bool a0_0,.int .i64 a0_1,.slice A0_2 l0_2.length c0_2]) (t:=24) ?hr ?_;(case hd=>rfl);(case hg=>rfl);(case hr=>(go_simp;done));intro gb607 hg w9 hbox hb;have BK607:=qaa.mk (hbox);have GW607:=qaa.mk ((by rw [hg];exact (qad HB.out):w.heap.size≤gb607));have GE607:=qaa.mk ((by rw [hg];exact (qad HB.out):w.heap.size≤gb607));replace HB:=qaa.mk (qak HB.out hb);clear hb hbox hg)|((with_reducible refine qbp (f:=11) rfl ?_);refine qdj (some 11) rfl rfl Tryd.func11 (by kernel_rfl) rfl #[] rfl (by (try simp only [List.map_toArray,List.map_cons,List.map_nil]);done) ?_;(with_reducible refine (qbj.calls k  true _ ?side1 A2.out).mono ?_);(case side1=>exact TabW.below' HTB.out HB.out);rintro e w10 ⟨rfl,hb⟩;refine ⟨_,rfl,?_⟩;replace BK607:=qaa.mk (qaf (g:=gb607) (o:=.cells #[.bool a0_0,.int .i64 a0_1,.slice A0_2 l0_2.length c0_2] 24 (0,0)) (by (with_reducible repeat (refine qac ?_));exact BK607.out) hb);replace HB:=qaa.mk (qak HB.out hb);(try clear hb);have hcz11_0:w10.cell? ⟨gb607,0,none⟩=some (.bool a0_0):=(qae BK607.out 0).trans rfl;have hcz11_1:w10.cell? ⟨gb607,1,none⟩=some (.int .i64 a0_1):=(qae BK607.out 1).trans rfl;have hcz11_2:w10.cell? ⟨gb607,2,none⟩=some (.slice A0_2 l0_2.length c0_2):=(qae BK607.out 2).trans rfl;have hfz11_0:=qai BK607.out 0;have hfz11_1:=qai BK607.out 1;have hfz11_2:=qai BK607.out 2)|((with_reducible refine qbp (f:=12) rfl ?_);refine qdj (some 14) rfl rfl Tryd.func12 (by kernel_rfl) rfl #[.agg #[.bool a0_0,.int .i64 a0_1,.slice A0_2 l0_2.length c0_2]] rfl (by (try simp only [List.map_toArray,List.map_cons,List.map_nil]);rfl) ?_;(with_reducible refine (qar.calls k a0_0 a0_1 _ _ l0_2 true _ ?side1 ?side2 A4.out).mono ?_);(case side1=>repeat (exact (Kd.C_below HR0_2.out HB.out)));(case side2=>exact HC0_2.out);rintro e w12 ⟨rfl,hb⟩;refine ⟨_,rfl,?_⟩;replace BK607:=qaa.mk (qaf (g:=gb607) (o:=.cells #[.bool a0_0,.int .i64 a0_1,.slice A0_2 l0_2.length c0_2] 24 (0,0)) (by (with_reducible repeat (refine qac ?_));exact BK607.out) hb);replace HB:=qaa.mk (qak HB.out hb);(try clear hb)))
   have n0_:=qaa.mk (qac BK607.out)
   have n1_:=qaa.mk (qcx HB.out)
   clear BK607
   clear HB
   have BK607:=n0_
   have HB:=n1_
   clear n0_ n1_
   refine qew (n:=6) (S:=fun w'=>w'.cell? ⟨gb607,0,none⟩=some (.bool a0_0)∧w'.cell? ⟨gb607,1,none⟩=some (.int .i64 a0_1)∧w'.cell? ⟨gb607,2,none⟩=some (.slice A0_2 l0_2.length c0_2)) (ds:=[]) #[false,false,false,false,false,false] (by kernel_rfl) rfl rfl ⟨(qae BK607.out 0).trans rfl,(qae BK607.out 1).trans rfl,(qae BK607.out 2).trans rfl⟩ (fun hHeld=>?_)
   generalize w12.drew=w13 at BK607 HB hHeld ⊢
   refine take_ (i:=0) (N:=some 16) (v:=?_) (a':=?_) #[true,false,false,false,false,false] rfl rfl (by kernel_rfl) (fun _ _ _ h=>h) (Or.inl ⟨by rfl,?_⟩) hHeld ?_ ?_
   rotate_left
   ·rintro w' ⟨s0,s1,s2⟩
    go_simp
    with_reducible rfl
   rotate_left
   ·simp only [Act.put,List.setIfInBounds_toArray,List.set_cons_zero,List.set_cons_succ,qas,qat]
    rfl
   refine take_ (i:=2) (N:=some 18) (v:=?_) (a':=?_) #[true,false,true,false,false,false] rfl rfl (by kernel_rfl) (fun _ _ _ h=>h) (Or.inl ⟨by rfl,?_⟩) hHeld ?_ ?_
   rotate_left
   ·rintro w' ⟨s0,s1,s2⟩
    go_simp
    with_reducible rfl
   rotate_left
   ·simp only [Act.put,List.setIfInBounds_toArray,List.set_cons_zero,List.set_cons_succ,qas,qat]
    rfl
   refine one_ (i:=1) (N:=some 17) #[true,true,true,false,false,false] rfl rfl (by kernel_rfl) (by decide) (fun K hK=>?_)
   refine qen Tryd.func21 (by kernel_rfl) rfl #[.agg #[.bool a0_0,.int .i64 a0_1,.slice A0_2 l0_2.length c0_2]] (by rfl) rfl rfl (by (try simp only [List.map_toArray,List.map_cons,List.map_nil]);rfl) ?_
   with_reducible refine (qbh.calls a0_0 a0_1 _ _ l0_2 t610 _ ?side1 ?side2 ?side3 A6.out).mono ?_
   (case side1=>exact TabW.below' HTB.out HB.out)
   (case side2=>repeat (exact (Kd.C_below HR0_2.out HB.out)))
   (case side3=>exact HC0_2.out)
   rintro e w14 ⟨v611,rfl,ho0,hb⟩
   refine ⟨_,rfl,?_⟩
   have n0_:=qaa.mk (Kd.V_lower (Kd.V_mono (ok':=fun k_=>k_≠gb607) ho0 (fun k_ hk_=>(Kd.freshB (g:=gb607) (o:=.cells #[.bool a0_0,.int .i64 a0_1,.slice A0_2 l0_2.length c0_2] 24 (0,0)) (by (with_reducible repeat (refine qac ?_));exact BK607.out) k_ hk_))) (qad HB.out))
   have n1_:=qaa.mk (qaf (g:=gb607) (o:=.cells #[.bool a0_0,.int .i64 a0_1,.slice A0_2 l0_2.length c0_2] 24 (0,0)) (by (with_reducible repeat (refine qac ?_));exact BK607.out) hb)
   have n2_:=qaa.mk (qak HB.out hb)
   clear BK607
   clear HB
   have HO612:=n0_
   have BK607:=n1_
   have HB:=n2_
   clear n0_ n1_ n2_
   (try clear hb)
   (try clear ho0)
   refine hK.out _ _ ⟨(qae BK607.out 0).trans rfl,(qae BK607.out 1).trans rfl,(qae BK607.out 2).trans rfl⟩ (fun hHeld=>?_)
   clear hK K
   refine qdw (a':=?_) ?_ ?_
   rotate_left
   ·show Act.put _ (some 17) _=_
    simp only [Act.put,List.setIfInBounds_toArray,List.set_cons_zero,List.set_cons_succ,qas,qat]
    rfl
   refine one_ (i:=3) (N:=some 19) #[true,true,true,true,false,false] rfl rfl (by kernel_rfl) (by decide) (fun K hK=>?_)
   refine qen Tryd.func24 (by kernel_rfl) rfl #[.agg #[.bool a0_0,.int .i64 a0_1,.slice A0_2 l0_2.length c0_2]] (by rfl) rfl rfl (by (try simp only [List.map_toArray,List.map_cons,List.map_nil]);rfl) ?_
   with_reducible refine (qbd.calls a0_0 a0_1 _ _ l0_2 t613 _ ?side1 ?side2 ?side3 A7.out).mono ?_
   (case side1=>exact TabW.below' HTB.out HB.out)
   (case side2=>repeat (exact (Kd.C_below HR0_2.out HB.out)))
   (case side3=>exact HC0_2.out)
   rintro e w15 ⟨v614,rfl,ho0,hb⟩
   refine ⟨_,rfl,?_⟩
   have n0_:=qaa.mk (Kd.V_elder' (by (with_reducible repeat (apply Kd.V_drew));exact HO612.out) (Kd.R_base ho0) hb)
   have n1_:=qaa.mk (Kd.R_lower ho0 (qad HB.out))
   have n2_:=qaa.mk (qaf (g:=gb607) (o:=.cells #[.bool a0_0,.int .i64 a0_1,.slice A0_2 l0_2.length c0_2] 24 (0,0)) (by (with_reducible repeat (refine qac ?_));exact BK607.out) hb)
   have n3_:=qaa.mk (qak HB.out hb)
   clear HO612
   clear BK607
   clear HB
   have HO612:=n0_
   have HO615:=n1_
   have BK607:=n2_
   have HB:=n3_
   clear n0_ n1_ n2_ n3_
   (try clear hb)
   (try clear ho0)
   refine hK.out _ _ ⟨(qae BK607.out 0).trans rfl,(qae BK607.out 1).trans rfl,(qae BK607.out 2).trans rfl⟩ (fun hHeld=>?_)
   clear hK K
   refine qdw (a':=?_) ?_ ?_
   rotate_left
   ·show Act.put _ (some 19) _=_
    simp only [Act.put,List.setIfInBounds_toArray,List.set_cons_zero,List.set_cons_succ,qas,qat]
    rfl
   refine qbg (i:=4) (N:=some 3) (v:=?_) (a':=?_) #[true,true,true,true,true,false] rfl rfl (by kernel_rfl) (fun _ _ _ h=>h) (Or.inl ⟨by rfl,?_⟩) ?_ ?_
   rotate_left
   ·intro w'
    go_simp
    with_reducible rfl
   rotate_left
   ·simp only [Act.put,List.setIfInBounds_toArray,List.set_cons_zero,List.set_cons_succ,qas,qat]
    rfl
   refine qbg (i:=5) (N:=some 4) (v:=?_) (a':=?_) #[true,true,true,true,true,true] rfl rfl (by kernel_rfl) (fun _ _ _ h=>h) (Or.inl ⟨by rfl,?_⟩) ?_ ?_
   rotate_left
   ·intro w'
    go_simp
    with_reducible rfl
   rotate_left
   ·simp only [Act.put,List.setIfInBounds_toArray,List.set_cons_zero,List.set_cons_succ,qas,qat]
    rfl
   refine qfl (by kernel_rfl) ?_
   go_upto_region 6 with (fail)
   go_cut [33] (fun v33 wc=>∃ (kq:Nat) (x33_7:Bool),v33=.bool x33_7∧qaa (qab.j0 kq t610 t613 x33_7 a0_0 a0_1 l0_2=some r)∧qaa (kq≤k)∧qaa (Kd.V k38 38 wc w.heap.size (fun k_=>some k_≠(v614:Value).ownBlock∧k_≠gb607) v611 t610)∧qaa (Kd.R (Kd.int .i64) 3 wc w.heap.size (fun _=>True) v614 t613)∧qaa (wc.heap[gb607]?=some (.cells #[.bool a0_0,.int .i64 a0_1,(.slice A0_2 l0_2.length c0_2)] 24 (0,0)))∧qaa (Below w.heap.size w wc))
   case first=>
    have H:=HC8.out
    clear HC8
    by_cases c16:(t610.length:Int)=(l0_2.length:Int)
    ·rw [if_pos c16] at H
     have c16b0:((t610.length:Int)==(l0_2.length:Int))=true:=beq_iff_eq.mpr c16
     have c16b1:((t610.length:Int)!=(l0_2.length:Int))=false:=bne_eq_false_iff_eq.mpr c16
     have c16b2:(t610.length==l0_2.length)=true:=by (simp at c16 ⊢;omega)
     clear c16
     have H':=qaa.mk H
     clear H
     obtain ⟨Ao17,co17,eo17⟩:=Kd.V_slice HO612.out
     subst eo17
     have hcz18_0:w15.cell? ⟨gb607,0,none⟩=some (.bool a0_0):=(qae BK607.out 0).trans rfl
     have hcz18_1:w15.cell? ⟨gb607,1,none⟩=some (.int .i64 a0_1):=(qae BK607.out 1).trans rfl
     have hcz18_2:w15.cell? ⟨gb607,2,none⟩=some (.slice A0_2 l0_2.length c0_2):=(qae BK607.out 2).trans rfl
     have hfz18_0:=qai BK607.out 0
     have hfz18_1:=qai BK607.out 1
     have hfz18_2:=qai BK607.out 2
     obtain ⟨Ao19,co19,eo19⟩:=Kd.R_slice HO615.out
     subst eo19
     go_wp2
     go_meet
     case rel=>exact ⟨_,(((t613.length:Int)!=(l0_2.length:Int))),(by rfl),H',⟨by omega⟩,⟨by (with_reducible repeat (apply Kd.V_drew));exact Kd.V_mono HO612.out (fun _ hk=>⟨hk.2,hk.1⟩)⟩,⟨by (with_reducible repeat (apply Kd.R_drew));exact HO615.out⟩,⟨by (with_reducible repeat (refine qac ?_));exact BK607.out⟩,⟨by repeat ((with_reducible exact HB.out))⟩⟩
    ·rw [if_neg c16] at H
     have c16b0:((t610.length:Int)==(l0_2.length:Int))=false:=beq_eq_false_iff_ne.mpr c16
     have c16b1:((t610.length:Int)!=(l0_2.length:Int))=true:=bne_iff_ne.mpr c16
     have c16b2:(t610.length==l0_2.length)=false:=by (simp at c16 ⊢;omega)
     have H':=qaa.mk H
     clear H
     obtain ⟨Ao20,co20,eo20⟩:=Kd.V_slice HO612.out
     subst eo20
     have hcz21_0:w15.cell? ⟨gb607,0,none⟩=some (.bool a0_0):=(qae BK607.out 0).trans rfl
     have hcz21_1:w15.cell? ⟨gb607,1,none⟩=some (.int .i64 a0_1):=(qae BK607.out 1).trans rfl
     have hcz21_2:w15.cell? ⟨gb607,2,none⟩=some (.slice A0_2 l0_2.length c0_2):=(qae BK607.out 2).trans rfl
     have hfz21_0:=qai BK607.out 0
     have hfz21_1:=qai BK607.out 1
     have hfz21_2:=qai BK607.out 2
     go_wp2
     go_meet
     case rel=>exact ⟨_,(true),(by rfl),H',⟨by omega⟩,⟨by (with_reducible repeat (apply Kd.V_drew));exact Kd.V_mono HO612.out (fun _ hk=>⟨hk.2,hk.1⟩)⟩,⟨by (with_reducible repeat (apply Kd.R_drew));exact HO615.out⟩,⟨by (with_reducible repeat (refine qac ?_));exact BK607.out⟩,⟨by repeat ((with_reducible exact HB.out))⟩⟩
   case rest=>
    clear HC8
    try clear hcz11_0
    try clear hcz11_1
    try clear hcz11_2
    try clear hfz11_0
    try clear hfz11_1
    try clear hfz11_2
    obtain ⟨kq,x33_7,rfl,HA,HJ7,HO_3,HO_4,BK607,HB⟩:=hcut
    cases kq with
    | zero=>exact absurd HA.out (by simp [qab.j0])
    | succ kj7=>
     have H:=HA.out
     clear HA
     simp only [qab.j0] at H
     by_cases c22:x33_7=true
     ·subst c22
      have H1:(some false)=some r:=by rw [if_pos rfl] at H;exact H
      clear H
      have H:=H1
      clear H1
      obtain rfl:=Option.some.inj H
      go_wp2
      go_ret
      exact ⟨by rfl,by repeat ((with_reducible exact HB.out))⟩
     ·replace c22:=Bool.eq_false_iff.mpr c22
      subst c22
      have H1:(qab.l0 kj7 t610 t613 (l0_2.length:Int) 0 a0_0 a0_1 l0_2)=some r:=by rw [if_neg (show ¬ (false=true) by decide)] at H;exact H
      clear H
      have H:=H1
      clear H1
      have H':=qaa.mk H
      clear H
      have hcz23_0:wc.cell? ⟨gb607,0,none⟩=some (.bool a0_0):=(qae BK607.out 0).trans rfl
      have hcz23_1:wc.cell? ⟨gb607,1,none⟩=some (.int .i64 a0_1):=(qae BK607.out 1).trans rfl
      have hcz23_2:wc.cell? ⟨gb607,2,none⟩=some (.slice A0_2 l0_2.length c0_2):=(qae BK607.out 2).trans rfl
      have hfz23_0:=qai BK607.out 0
      have hfz23_1:=qai BK607.out 1
      have hfz23_2:=qai BK607.out 2
      go_wp2
      go_loopg [37] kj7 (fun kq v37 w'=>∃ (x37_2:Int),v37=.int .i64 x37_2∧qaa (qab.l0 kq t610 t613 (l0_2.length:Int) x37_2 a0_0 a0_1 l0_2=some r)∧qaa (kq≤kj7)∧qaa (Kd.V k38 38 w' w.heap.size (fun k_=>some k_≠(v614:Value).ownBlock∧k_≠gb607) v611 t610)∧qaa (Kd.R (Kd.int .i64) 3 w' w.heap.size (fun _=>True) v614 t613)∧qaa (w'.heap[gb607]?=some (.cells #[.bool a0_0,.int .i64 a0_1,(.slice A0_2 l0_2.length c0_2)] 24 (0,0)))∧qaa (Below w.heap.size w w'))
      case atStart=>exact ⟨(0),(by rfl),H',⟨Nat.le_refl _⟩,⟨by (with_reducible repeat (apply Kd.V_drew));exact HO_3.out⟩,⟨by (with_reducible repeat (apply Kd.R_drew));exact HO_4.out⟩,⟨by (with_reducible repeat (refine qac ?_));exact BK607.out⟩,⟨by repeat ((with_reducible exact HB.out))⟩⟩
      case round=>
       clear H'
       try clear hcz23_0
       try clear hcz23_1
       try clear hcz23_2
       try clear hfz23_0
       try clear hfz23_1
       try clear hfz23_2
       obtain ⟨x37_2,rfl,HA,HK2,HO_3,HO_4,BK607,HB⟩:=hrel
       cases gk with
       | zero=>exact absurd HA.out (by simp [qab.l0])
       | succ k2=>
        have H:=HA.out
        clear HA
        simp only [qab.l0] at H
        by_cases c24:x37_2<(l0_2.length:Int)
        ·rw [if_pos c24] at H
         have c24b0:decide (x37_2<(l0_2.length:Int))=true:=decide_eq_true c24
         clear c24
         by_cases c25:0≤x37_2
         ·rw [if_pos c25] at H
          have c25b0:decide (0≤x37_2)=true:=decide_eq_true c25
          clear c25
          by_cases c26:x37_2<(t613.length:Int)
          ·rw [if_pos c26] at H
           have c26b0:decide (x37_2<(t613.length:Int))=true:=decide_eq_true c26
           clear c26
           by_cases c27:(rd t613 x37_2)≥(l0_2.length:Int)
           ·rw [if_pos c27] at H
            have c27b0:decide ((l0_2.length:Int)≤(rd t613 x37_2))=true:=decide_eq_true c27
            clear c27
            obtain rfl:=Option.some.inj H
            obtain ⟨Ao28,co28,eo28⟩:=Kd.R_slice HO_4.out
            subst eo28
            have p616:0≤(x37_2:Int):=of_decide_eq_true (by (with_reducible assumption))
            have q616:x37_2<(t613.length:Int):=of_decide_eq_true (by (with_reducible assumption))
            obtain ⟨ad616,e616,hx616_0⟩:=Kd.at_int (Kd.R_reads' HO_4.out).2.2 x37_2 p616 q616
            cases e616
            replace p616:=eq_true p616
            replace q616:=eq_true q616
            try go_wp2
            have n0_:=qaa.mk (Kd.V_drew HO_3.out)
            have n1_:=qaa.mk (Kd.R_drew HO_4.out)
            have n2_:=qaa.mk (qac BK607.out)
            have n3_:=qaa.mk (qcx HB.out)
            clear HO_3
            clear HO_4
            clear BK607
            clear HB
            have HO_3:=n0_
            have HO_4:=n1_
            have BK607:=n2_
            have HB:=n3_
            clear n0_ n1_ n2_ n3_
            refine qew (n:=23) (S:=fun w'=>w'.cell? ⟨gb607,0,none⟩=some (.bool a0_0)∧w'.cell? ⟨gb607,1,none⟩=some (.int .i64 a0_1)∧w'.cell? ⟨gb607,2,none⟩=some (.slice A0_2 l0_2.length c0_2)) (ds:=[]) #[false,false,false,false,false,false,false,false,false,false,false,false,false,false,false,false,false,false,false,false,false,false,false] (by kernel_rfl) rfl rfl ⟨(qae BK607.out 0).trans rfl,(qae BK607.out 1).trans rfl,(qae BK607.out 2).trans rfl⟩ (fun hHeld=>?_);refine qdp qab.tab12 qab.bits12 (fun HT_ HW_=>?_)
            generalize wr.drew=w29 at HO_3 HO_4 BK607 HB hHeld ⊢
            refine qbg (i:=0) (N:=some 44) (v:=?_) (a':=?_) #[true,false,false,false,false,false,false,false,false,false,false,false,false,false,false,false,false,false,false,false,false,false,false] rfl rfl (qau HT_.out (by kernel_rfl)) (fun _ _ _ h=>h) (Or.inl ⟨by rfl,?_⟩) ?_ ?_
            rotate_left
            ·intro w'
             go_simp
             with_reducible rfl
            rotate_left
            ·simp only [Act.put,List.setIfInBounds_toArray,List.set_cons_zero,List.set_cons_succ,qas,qat]
             rfl
            refine qbg (i:=1) (N:=some 45) (v:=?_) (a':=?_) #[true,true,false,false,false,false,false,false,false,false,false,false,false,false,false,false,false,false,false,false,false,false,false] rfl rfl (qau HT_.out (by kernel_rfl)) (fun _ _ _ h=>h) (Or.inl ⟨by rfl,?_⟩) ?_ ?_
            rotate_left
            ·intro w'
             go_simp
             with_reducible rfl
            rotate_left
            ·simp only [Act.put,List.setIfInBounds_toArray,List.set_cons_zero,List.set_cons_succ,qas,qat]
             rfl
            refine take_ (i:=2) (N:=some 46) (v:=?_) (a':=?_) #[true,true,true,false,false,false,false,false,false,false,false,false,false,false,false,false,false,false,false,false,false,false,false] rfl rfl (qcu HT_.out HW_.out (by kernel_rfl)) (fun _ _ _ h=>h) (Or.inl ⟨by rfl,?_⟩) hHeld ?_ ?_
            rotate_left
            ·rintro w' ⟨s0,s1,s2⟩
             go_simp
             with_reducible rfl
            rotate_left
            ·simp only [Act.put,List.setIfInBounds_toArray,List.set_cons_zero,List.set_cons_succ,qas,qat]
             rfl
            refine qbg (i:=3) (N:=some 47) (v:=?_) (a':=?_) #[true,true,true,true,false,false,false,false,false,false,false,false,false,false,false,false,false,false,false,false,false,false,false] rfl rfl (qau HT_.out (by kernel_rfl)) (fun _ _ _ h=>h) (Or.inl ⟨by rfl,?_⟩) ?_ ?_
            rotate_left
            ·intro w'
             go_simp
             with_reducible rfl
            rotate_left
            ·simp only [Act.put,List.setIfInBounds_toArray,List.set_cons_zero,List.set_cons_succ,qas,qat]
             rfl
            refine qbg (i:=4) (N:=some 48) (v:=?_) (a':=?_) #[true,true,true,true,true,false,false,false,false,false,false,false,false,false,false,false,false,false,false,false,false,false,false] rfl rfl (qau HT_.out (by kernel_rfl)) (fun _ _ _ h=>h) (Or.inl ⟨by rfl,?_⟩) ?_ ?_
            rotate_left
            ·intro w'
             go_simp
             with_reducible rfl
            rotate_left
            ·simp only [Act.put,List.setIfInBounds_toArray,List.set_cons_zero,List.set_cons_succ,qas,qat]
             rfl
            refine qbg (i:=5) (N:=some 49) (v:=?_) (a':=?_) #[true,true,true,true,true,true,false,false,false,false,false,false,false,false,false,false,false,false,false,false,false,false,false] rfl rfl (qau HT_.out (by kernel_rfl)) (fun _ _ _ h=>h) (Or.inl ⟨by rfl,?_⟩) ?_ ?_
            rotate_left
            ·intro w'
             go_simp
             with_reducible rfl
            rotate_left
            ·simp only [Act.put,List.setIfInBounds_toArray,List.set_cons_zero,List.set_cons_succ,qas,qat]
             rfl
            refine qbg (i:=6) (N:=some 50) (v:=undef) (a':=?_) #[true,true,true,true,true,true,true,false,false,false,false,false,false,false,false,false,false,false,false,false,false,false,false] rfl rfl (qau HT_.out (by kernel_rfl)) (fun _ _ _ h=>h) (Or.inr ⟨by rfl,rfl⟩) ?_ ?_
            rotate_left
            ·simp only [Act.put,List.setIfInBounds_toArray,List.set_cons_zero,List.set_cons_succ,qas,qat]
             rfl
            refine qbg (i:=7) (N:=some 51) (v:=undef) (a':=?_) #[true,true,true,true,true,true,true,true,false,false,false,false,false,false,false,false,false,false,false,false,false,false,false] rfl rfl (qau HT_.out (by kernel_rfl)) (fun _ _ _ h=>h) (Or.inr ⟨by rfl,rfl⟩) ?_ ?_
            rotate_left
            ·simp only [Act.put,List.setIfInBounds_toArray,List.set_cons_zero,List.set_cons_succ,qas,qat]
             rfl
            refine qbg (i:=8) (N:=some 52) (v:=undef) (a':=?_) #[true,true,true,true,true,true,true,true,true,false,false,false,false,false,false,false,false,false,false,false,false,false,false] rfl rfl (qau HT_.out (by kernel_rfl)) (fun _ _ _ h=>h) (Or.inr ⟨by rfl,rfl⟩) ?_ ?_
            rotate_left
            ·simp only [Act.put,List.setIfInBounds_toArray,List.set_cons_zero,List.set_cons_succ,qas,qat]
             rfl
            refine qbg (i:=9) (N:=some 53) (v:=undef) (a':=?_) #[true,true,true,true,true,true,true,true,true,true,false,false,false,false,false,false,false,false,false,false,false,false,false] rfl rfl (qau HT_.out (by kernel_rfl)) (fun _ _ _ h=>h) (Or.inr ⟨by rfl,rfl⟩) ?_ ?_
            rotate_left
            ·simp only [Act.put,List.setIfInBounds_toArray,List.set_cons_zero,List.set_cons_succ,qas,qat]
             rfl
            refine qbg (i:=10) (N:=some 54) (v:=undef) (a':=?_) #[true,true,true,true,true,true,true,true,true,true,true,false,false,false,false,false,false,false,false,false,false,false,false] rfl rfl (qau HT_.out (by kernel_rfl)) (fun _ _ _ h=>h) (Or.inr ⟨by rfl,rfl⟩) ?_ ?_
            rotate_left
            ·simp only [Act.put,List.setIfInBounds_toArray,List.set_cons_zero,List.set_cons_succ,qas,qat]
             rfl
            refine qbg (i:=11) (N:=some 55) (v:=undef) (a':=?_) #[true,true,true,true,true,true,true,true,true,true,true,true,false,false,false,false,false,false,false,false,false,false,false] rfl rfl (qau HT_.out (by kernel_rfl)) (fun _ _ _ h=>h) (Or.inr ⟨by rfl,rfl⟩) ?_ ?_
            rotate_left
            ·simp only [Act.put,List.setIfInBounds_toArray,List.set_cons_zero,List.set_cons_succ,qas,qat]
             rfl
            refine qbg (i:=12) (N:=some 56) (v:=undef) (a':=?_) #[true,true,true,true,true,true,true,true,true,true,true,true,true,false,false,false,false,false,false,false,false,false,false] rfl rfl (qau HT_.out (by kernel_rfl)) (fun _ _ _ h=>h) (Or.inr ⟨by rfl,rfl⟩) ?_ ?_
            rotate_left
            ·simp only [Act.put,List.setIfInBounds_toArray,List.set_cons_zero,List.set_cons_succ,qas,qat]
             rfl
            refine qbg (i:=13) (N:=some 57) (v:=undef) (a':=?_) #[true,true,true,true,true,true,true,true,true,true,true,true,true,true,false,false,false,false,false,false,false,false,false] rfl rfl (qau HT_.out (by kernel_rfl)) (fun _ _ _ h=>h) (Or.inr ⟨by rfl,rfl⟩) ?_ ?_
            rotate_left
            ·simp only [Act.put,List.setIfInBounds_toArray,List.set_cons_zero,List.set_cons_succ,qas,qat]
             rfl
            refine qbg (i:=14) (N:=some 58) (v:=undef) (a':=?_) #[true,true,true,true,true,true,true,true,true,true,true,true,true,true,true,false,false,false,false,false,false,false,false] rfl rfl (qau HT_.out (by kernel_rfl)) (fun _ _ _ h=>h) (Or.inr ⟨by rfl,rfl⟩) ?_ ?_
            rotate_left
            ·simp only [Act.put,List.setIfInBounds_toArray,List.set_cons_zero,List.set_cons_succ,qas,qat]
             rfl
            refine qbg (i:=15) (N:=some 59) (v:=undef) (a':=?_) #[true,true,true,true,true,true,true,true,true,true,true,true,true,true,true,true,false,false,false,false,false,false,false] rfl rfl (qau HT_.out (by kernel_rfl)) (fun _ _ _ h=>h) (Or.inr ⟨by rfl,rfl⟩) ?_ ?_
            rotate_left
            ·simp only [Act.put,List.setIfInBounds_toArray,List.set_cons_zero,List.set_cons_succ,qas,qat]
             rfl
            refine qbg (i:=16) (N:=some 60) (v:=undef) (a':=?_) #[true,true,true,true,true,true,true,true,true,true,true,true,true,true,true,true,true,false,false,false,false,false,false] rfl rfl (qau HT_.out (by kernel_rfl)) (fun _ _ _ h=>h) (Or.inr ⟨by rfl,rfl⟩) ?_ ?_
            rotate_left
            ·simp only [Act.put,List.setIfInBounds_toArray,List.set_cons_zero,List.set_cons_succ,qas,qat]
             rfl
            refine qbg (i:=17) (N:=some 61) (v:=undef) (a':=?_) #[true,true,true,true,true,true,true,true,true,true,true,true,true,true,true,true,true,true,false,false,false,false,false] rfl rfl (qau HT_.out (by kernel_rfl)) (fun _ _ _ h=>h) (Or.inr ⟨by rfl,rfl⟩) ?_ ?_
            rotate_left
            ·simp only [Act.put,List.setIfInBounds_toArray,List.set_cons_zero,List.set_cons_succ,qas,qat]
             rfl
            refine qbg (i:=18) (N:=some 62) (v:=undef) (a':=?_) #[true,true,true,true,true,true,true,true,true,true,true,true,true,true,true,true,true,true,true,false,false,false,false] rfl rfl (qau HT_.out (by kernel_rfl)) (fun _ _ _ h=>h) (Or.inr ⟨by rfl,rfl⟩) ?_ ?_
            rotate_left
            ·simp only [Act.put,List.setIfInBounds_toArray,List.set_cons_zero,List.set_cons_succ,qas,qat]
             rfl
            refine qbg (i:=19) (N:=some 63) (v:=undef) (a':=?_) #[true,true,true,true,true,true,true,true,true,true,true,true,true,true,true,true,true,true,true,true,false,false,false] rfl rfl (qau HT_.out (by kernel_rfl)) (fun _ _ _ h=>h) (Or.inr ⟨by rfl,rfl⟩) ?_ ?_
            rotate_left
            ·simp only [Act.put,List.setIfInBounds_toArray,List.set_cons_zero,List.set_cons_succ,qas,qat]
             rfl
            refine qbg (i:=20) (N:=some 64) (v:=undef) (a':=?_) #[true,true,true,true,true,true,true,true,true,true,true,true,true,true,true,true,true,true,true,true,true,false,false] rfl rfl (qau HT_.out (by kernel_rfl)) (fun _ _ _ h=>h) (Or.inr ⟨by rfl,rfl⟩) ?_ ?_
            rotate_left
            ·simp only [Act.put,List.setIfInBounds_toArray,List.set_cons_zero,List.set_cons_succ,qas,qat]
             rfl
            refine qbg (i:=21) (N:=some 65) (v:=undef) (a':=?_) #[true,true,true,true,true,true,true,true,true,true,true,true,true,true,true,true,true,true,true,true,true,true,false] rfl rfl (qau HT_.out (by kernel_rfl)) (fun _ _ _ h=>h) (Or.inr ⟨by rfl,rfl⟩) ?_ ?_
            rotate_left
            ·simp only [Act.put,List.setIfInBounds_toArray,List.set_cons_zero,List.set_cons_succ,qas,qat]
             rfl
            refine qbg (i:=22) (N:=some 66) (v:=?_) (a':=?_) #[true,true,true,true,true,true,true,true,true,true,true,true,true,true,true,true,true,true,true,true,true,true,true] rfl rfl (qau HT_.out (by kernel_rfl)) (fun _ _ _ h=>h) (Or.inl ⟨by rfl,?_⟩) ?_ ?_
            rotate_left
            ·intro w'
             go_simp
             with_reducible rfl
            rotate_left
            ·simp only [Act.put,List.setIfInBounds_toArray,List.set_cons_zero,List.set_cons_succ,qas,qat]
             rfl
            refine qfl (qej HT_.out (by kernel_rfl)) ?_
            try go_wp2
            go_ret
            exact ⟨by rfl,by repeat ((with_reducible exact HB.out))⟩
           ·rw [if_neg c27] at H
            have c27b0:decide ((l0_2.length:Int)≤(rd t613 x37_2))=false:=decide_eq_false c27
            clear c27
            by_cases c30:(rd t613 x37_2)≥0
            ·rw [if_pos c30] at H
             have c30b0:decide (0≤(rd t613 x37_2))=true:=decide_eq_true c30
             clear c30
             by_cases c31:x37_2<(t610.length:Int)
             ·rw [if_pos c31] at H
              have c31b0:decide (x37_2<(t610.length:Int))=true:=decide_eq_true c31
              clear c31
              by_cases c32:0≤(rd t613 x37_2)
              ·rw [if_pos c32] at H
               have c32b0:decide (0≤(rd t613 x37_2))=true:=decide_eq_true c32
               clear c32
               by_cases c33:(rd t613 x37_2)<(t610.length:Int)
               ·rw [if_pos c33] at H
                have c33b0:decide ((rd t613 x37_2)<(t610.length:Int))=true:=decide_eq_true c33
                clear c33
                replace H:=Option.bind_eq_some_iff.mp H
                obtain ⟨t619,A340,H⟩:=H
                replace H:((qda.f k2 ((qcd t610 x37_2).f0) t619).bind fun t622=>(if t622=true then (qab.l0 k2 t610 t613 (l0_2.length:Int) (wrap64 (x37_2+1)) a0_0 a0_1 l0_2) else (some false)))=some r:=H
                have A34:=qaa.mk A340
                clear A340
                replace H:=Option.bind_eq_some_iff.mp H
                obtain ⟨t622,A350,H⟩:=H
                replace H:(if t622=true then (qab.l0 k2 t610 t613 (l0_2.length:Int) (wrap64 (x37_2+1)) a0_0 a0_1 l0_2) else (some false))=some r:=H
                have A35:=qaa.mk A350
                clear A350
                by_cases c36:t622=true
                ·subst c36
                 have H1:(qab.l0 k2 t610 t613 (l0_2.length:Int) (wrap64 (x37_2+1)) a0_0 a0_1 l0_2)=some r:=by rw [if_pos rfl] at H;exact H
                 clear H
                 have H:=H1
                 clear H1
                 have H':=qaa.mk H
                 clear H
                 obtain ⟨Ao37,co37,eo37⟩:=Kd.R_slice HO_4.out
                 subst eo37
                 have p616:0≤(x37_2:Int):=of_decide_eq_true (by (with_reducible assumption))
                 have q616:x37_2<(t613.length:Int):=of_decide_eq_true (by (with_reducible assumption))
                 obtain ⟨ad616,e616,hx616_0⟩:=Kd.at_int (Kd.R_reads' HO_4.out).2.2 x37_2 p616 q616
                 cases e616
                 replace p616:=eq_true p616
                 replace q616:=eq_true q616
                 try go_wp2
                 have n0_:=qaa.mk (Kd.V_drew HO_3.out)
                 have n1_:=qaa.mk (Kd.R_drew HO_4.out)
                 have n2_:=qaa.mk (qac BK607.out)
                 have n3_:=qaa.mk (qcx HB.out)
                 clear HO_3
                 clear HO_4
                 clear BK607
                 clear HB
                 have HO_3:=n0_
                 have HO_4:=n1_
                 have BK607:=n2_
                 have HB:=n3_
                 clear n0_ n1_ n2_ n3_
                 obtain ⟨Ao39,co39,eo39⟩:=Kd.V_slice HO_3.out
                 (subst eo39)
                 have p617:0≤(x37_2:Int):=of_decide_eq_true (by (with_reducible assumption))
                 have q617:x37_2<(t610.length:Int):=of_decide_eq_true (by (with_reducible assumption))
                 obtain ⟨ad617,A617_0,c617_0,e617,hx617_0,hl617_0,hi617_0⟩:=at_T38 (Kd.V_reads' HO_3.out).2.2 x37_2 p617 q617
                 cases e617
                 obtain ⟨ce617,hce617,hMe617,hcc617⟩:=Kd.V_get HO_3.out z38 x37_2 p617 (by exact q617)
                 obtain ⟨ua617_0,uc617_0,rfl,ul617_0,ge617_0⟩:=qes hMe617
                 have hv617_0:=hcc617 0 _ rfl
                 rw [Nat.add_zero,show (k38).sz=1 from rfl,Nat.mul_one] at hv617_0
                 replace hv617_0:=Option.some.inj (hv617_0.symm.trans hx617_0)
                 injection hv617_0 with hva_ hvn_ hvc_
                 rw [hva_] at ge617_0
                 rw [hvc_] at ul617_0
                 have HL617_0:=qaa.mk (show Kd.V (Kd.int .u64) 77 _ w.heap.size _ _ ((qcd t610 x37_2).f0) from Kd.V_mk ul617_0 ge617_0)
                 clear hva_ hvn_ hvc_ ge617_0 ul617_0
                 clear hcc617 hce617
                 have HR617_0:=qaa.mk hi617_0
                 have HC617_0:=qaa.mk hl617_0
                 clear hi617_0 hl617_0
                 replace p617:=eq_true p617
                 replace q617:=eq_true q617
                 have p618:0≤((rd t613 x37_2):Int):=of_decide_eq_true (by (with_reducible assumption))
                 have q618:(rd t613 x37_2)<(t610.length:Int):=of_decide_eq_true (by (with_reducible assumption))
                 obtain ⟨ad618,A618_0,c618_0,e618,hx618_0,hl618_0,hi618_0⟩:=at_T38 (Kd.V_reads' HO_3.out).2.2 (rd t613 x37_2) p618 q618
                 obtain rfl:ad617=ad618:=(by injection e618)
                 obtain ⟨ce618,hce618,hMe618,hcc618⟩:=Kd.V_get HO_3.out z38 (rd t613 x37_2) p618 (by exact q618)
                 obtain ⟨ua618_0,uc618_0,rfl,ul618_0,ge618_0⟩:=qes hMe618
                 have hv618_0:=hcc618 0 _ rfl
                 rw [Nat.add_zero,show (k38).sz=1 from rfl,Nat.mul_one] at hv618_0
                 replace hv618_0:=Option.some.inj (hv618_0.symm.trans hx618_0)
                 injection hv618_0 with hva_ hvn_ hvc_
                 rw [hva_] at ge618_0
                 rw [hvc_] at ul618_0
                 have HL618_0:=qaa.mk (show Kd.V (Kd.int .u64) 77 _ w.heap.size _ _ ((qcd t610 (rd t613 x37_2)).f0) from Kd.V_mk ul618_0 ge618_0)
                 clear hva_ hvn_ hvc_ ge618_0 ul618_0
                 clear hcc618 hce618
                 have HR618_0:=qaa.mk hi618_0
                 have HC618_0:=qaa.mk hl618_0
                 clear hi618_0 hl618_0
                 replace p618:=eq_true p618
                 replace q618:=eq_true q618
                 refine qew (n:=23) (S:=fun w'=>w'.cell? ⟨gb607,0,none⟩=some (.bool a0_0)∧w'.cell? ⟨gb607,1,none⟩=some (.int .i64 a0_1)∧w'.cell? ⟨gb607,2,none⟩=some (.slice A0_2 l0_2.length c0_2)∧w'.cell? (ad617.add (x37_2).toNat)=some (.slice A617_0 ((qcd t610 x37_2).f0).length c617_0)∧w'.cell? (ad617.add ((rd t613 x37_2)).toNat)=some (.slice A618_0 ((qcd t610 (rd t613 x37_2)).f0).length c618_0)) (ds:=[]) #[false,false,false,false,false,false,false,false,false,false,false,false,false,false,false,false,false,false,false,false,false,false,false] (by kernel_rfl) rfl rfl ⟨(qae BK607.out 0).trans rfl,(qae BK607.out 1).trans rfl,(qae BK607.out 2).trans rfl,hx617_0,hx618_0⟩ (fun hHeld=>?_);refine qdp qab.tab12 qab.bits12 (fun HT_ HW_=>?_)
                 generalize wr.drew=w38 at HO_3 HO_4 BK607 HB HL617_0 HL618_0 HR617_0 HR618_0 hx617_0 hx618_0 hHeld ⊢
                 refine qbg (i:=0) (N:=some 44) (v:=?_) (a':=?_) #[true,false,false,false,false,false,false,false,false,false,false,false,false,false,false,false,false,false,false,false,false,false,false] rfl rfl (qau HT_.out (by kernel_rfl)) (fun _ _ _ h=>h) (Or.inl ⟨by rfl,?_⟩) ?_ ?_
                 rotate_left
                 ·intro w'
                  go_simp
                  with_reducible rfl
                 rotate_left
                 ·simp only [Act.put,List.setIfInBounds_toArray,List.set_cons_zero,List.set_cons_succ,qas,qat]
                  rfl
                 refine qbg (i:=1) (N:=some 45) (v:=?_) (a':=?_) #[true,true,false,false,false,false,false,false,false,false,false,false,false,false,false,false,false,false,false,false,false,false,false] rfl rfl (qau HT_.out (by kernel_rfl)) (fun _ _ _ h=>h) (Or.inl ⟨by rfl,?_⟩) ?_ ?_
                 rotate_left
                 ·intro w'
                  go_simp
                  with_reducible rfl
                 rotate_left
                 ·simp only [Act.put,List.setIfInBounds_toArray,List.set_cons_zero,List.set_cons_succ,qas,qat]
                  rfl
                 refine take_ (i:=2) (N:=some 46) (v:=?_) (a':=?_) #[true,true,true,false,false,false,false,false,false,false,false,false,false,false,false,false,false,false,false,false,false,false,false] rfl rfl (qcu HT_.out HW_.out (by kernel_rfl)) (fun _ _ _ h=>h) (Or.inl ⟨by rfl,?_⟩) hHeld ?_ ?_
                 rotate_left
                 ·rintro w' ⟨s0,s1,s2,s3,s4⟩
                  go_simp
                  with_reducible rfl
                 rotate_left
                 ·simp only [Act.put,List.setIfInBounds_toArray,List.set_cons_zero,List.set_cons_succ,qas,qat]
                  rfl
                 refine qbg (i:=3) (N:=some 47) (v:=?_) (a':=?_) #[true,true,true,true,false,false,false,false,false,false,false,false,false,false,false,false,false,false,false,false,false,false,false] rfl rfl (qau HT_.out (by kernel_rfl)) (fun _ _ _ h=>h) (Or.inl ⟨by rfl,?_⟩) ?_ ?_
                 rotate_left
                 ·intro w'
                  go_simp
                  with_reducible rfl
                 rotate_left
                 ·simp only [Act.put,List.setIfInBounds_toArray,List.set_cons_zero,List.set_cons_succ,qas,qat]
                  rfl
                 refine qbg (i:=4) (N:=some 48) (v:=?_) (a':=?_) #[true,true,true,true,true,false,false,false,false,false,false,false,false,false,false,false,false,false,false,false,false,false,false] rfl rfl (qau HT_.out (by kernel_rfl)) (fun _ _ _ h=>h) (Or.inl ⟨by rfl,?_⟩) ?_ ?_
                 rotate_left
                 ·intro w'
                  go_simp
                  with_reducible rfl
                 rotate_left
                 ·simp only [Act.put,List.setIfInBounds_toArray,List.set_cons_zero,List.set_cons_succ,qas,qat]
                  rfl
                 refine qbg (i:=5) (N:=some 49) (v:=?_) (a':=?_) #[true,true,true,true,true,true,false,false,false,false,false,false,false,false,false,false,false,false,false,false,false,false,false] rfl rfl (qau HT_.out (by kernel_rfl)) (fun _ _ _ h=>h) (Or.inl ⟨by rfl,?_⟩) ?_ ?_
                 rotate_left
                 ·intro w'
                  go_simp
                  with_reducible rfl
                 rotate_left
                 ·simp only [Act.put,List.setIfInBounds_toArray,List.set_cons_zero,List.set_cons_succ,qas,qat]
                  rfl
                 refine qbg (i:=6) (N:=some 50) (v:=?_) (a':=?_) #[true,true,true,true,true,true,true,false,false,false,false,false,false,false,false,false,false,false,false,false,false,false,false] rfl rfl (qau HT_.out (by kernel_rfl)) (fun _ _ _ h=>h) (Or.inl ⟨by rfl,?_⟩) ?_ ?_
                 rotate_left
                 ·intro w'
                  go_simp
                  with_reducible rfl
                 rotate_left
                 ·simp only [Act.put,List.setIfInBounds_toArray,List.set_cons_zero,List.set_cons_succ,qas,qat]
                  rfl
                 refine qbg (i:=7) (N:=some 51) (v:=?_) (a':=?_) #[true,true,true,true,true,true,true,true,false,false,false,false,false,false,false,false,false,false,false,false,false,false,false] rfl rfl (qau HT_.out (by kernel_rfl)) (fun _ _ _ h=>h) (Or.inl ⟨by rfl,?_⟩) ?_ ?_
                 rotate_left
                 ·intro w'
                  go_simp
                  with_reducible rfl
                 rotate_left
                 ·simp only [Act.put,List.setIfInBounds_toArray,List.set_cons_zero,List.set_cons_succ,qas,qat]
                  rfl
                 refine qbg (i:=8) (N:=some 52) (v:=?_) (a':=?_) #[true,true,true,true,true,true,true,true,true,false,false,false,false,false,false,false,false,false,false,false,false,false,false] rfl rfl (qau HT_.out (by kernel_rfl)) (fun _ _ _ h=>h) (Or.inl ⟨by rfl,?_⟩) ?_ ?_
                 rotate_left
                 ·intro w'
                  go_simp
                  with_reducible rfl
                 rotate_left
                 ·simp only [Act.put,List.setIfInBounds_toArray,List.set_cons_zero,List.set_cons_succ,qas,qat]
                  rfl
                 refine qbg (i:=9) (N:=some 53) (v:=?_) (a':=?_) #[true,true,true,true,true,true,true,true,true,true,false,false,false,false,false,false,false,false,false,false,false,false,false] rfl rfl (qau HT_.out (by kernel_rfl)) (fun _ _ _ h=>h) (Or.inl ⟨by rfl,?_⟩) ?_ ?_
                 rotate_left
                 ·intro w'
                  go_simp
                  with_reducible rfl
                 rotate_left
                 ·simp only [Act.put,List.setIfInBounds_toArray,List.set_cons_zero,List.set_cons_succ,qas,qat]
                  rfl
                 refine qbg (i:=10) (N:=some 54) (v:=?_) (a':=?_) #[true,true,true,true,true,true,true,true,true,true,true,false,false,false,false,false,false,false,false,false,false,false,false] rfl rfl (qau HT_.out (by kernel_rfl)) (fun _ _ _ h=>h) (Or.inl ⟨by rfl,?_⟩) ?_ ?_
                 rotate_left
                 ·intro w'
                  go_simp
                  with_reducible rfl
                 rotate_left
                 ·simp only [Act.put,List.setIfInBounds_toArray,List.set_cons_zero,List.set_cons_succ,qas,qat]
                  rfl
                 refine qbg (i:=11) (N:=some 55) (v:=?_) (a':=?_) #[true,true,true,true,true,true,true,true,true,true,true,true,false,false,false,false,false,false,false,false,false,false,false] rfl rfl (qau HT_.out (by kernel_rfl)) (fun _ _ _ h=>h) (Or.inl ⟨by rfl,?_⟩) ?_ ?_
                 rotate_left
                 ·intro w'
                  go_simp
                  with_reducible rfl
                 rotate_left
                 ·simp only [Act.put,List.setIfInBounds_toArray,List.set_cons_zero,List.set_cons_succ,qas,qat]
                  rfl
                 refine qbg (i:=13) (N:=some 57) (v:=?_) (a':=?_) #[true,true,true,true,true,true,true,true,true,true,true,true,false,true,false,false,false,false,false,false,false,false,false] rfl rfl (qau HT_.out (by kernel_rfl)) (fun _ _ _ h=>h) (Or.inl ⟨by rfl,?_⟩) ?_ ?_
                 rotate_left
                 ·intro w'
                  go_simp
                  with_reducible rfl
                 rotate_left
                 ·simp only [Act.put,List.setIfInBounds_toArray,List.set_cons_zero,List.set_cons_succ,qas,qat]
                  rfl
                 refine qbg (i:=14) (N:=some 58) (v:=?_) (a':=?_) #[true,true,true,true,true,true,true,true,true,true,true,true,false,true,true,false,false,false,false,false,false,false,false] rfl rfl (qau HT_.out (by kernel_rfl)) (fun _ _ _ h=>h) (Or.inl ⟨by rfl,?_⟩) ?_ ?_
                 rotate_left
                 ·intro w'
                  go_simp
                  with_reducible rfl
                 rotate_left
                 ·simp only [Act.put,List.setIfInBounds_toArray,List.set_cons_zero,List.set_cons_succ,qas,qat]
                  rfl
                 refine qbg (i:=15) (N:=some 59) (v:=?_) (a':=?_) #[true,true,true,true,true,true,true,true,true,true,true,true,false,true,true,true,false,false,false,false,false,false,false] rfl rfl (qau HT_.out (by kernel_rfl)) (fun _ _ _ h=>h) (Or.inl ⟨by rfl,?_⟩) ?_ ?_
                 rotate_left
                 ·intro w'
                  go_simp
                  with_reducible rfl
                 rotate_left
                 ·simp only [Act.put,List.setIfInBounds_toArray,List.set_cons_zero,List.set_cons_succ,qas,qat]
                  rfl
                 refine qbg (i:=17) (N:=some 61) (v:=?_) (a':=?_) #[true,true,true,true,true,true,true,true,true,true,true,true,false,true,true,true,false,true,false,false,false,false,false] rfl rfl (qau HT_.out (by kernel_rfl)) (fun _ _ _ h=>h) (Or.inl ⟨by rfl,?_⟩) ?_ ?_
                 rotate_left
                 ·intro w'
                  go_simp
                  with_reducible rfl
                 rotate_left
                 ·simp only [Act.put,List.setIfInBounds_toArray,List.set_cons_zero,List.set_cons_succ,qas,qat]
                  rfl
                 refine take_ (i:=12) (N:=some 56) (v:=?_) (a':=?_) #[true,true,true,true,true,true,true,true,true,true,true,true,true,true,true,true,false,true,false,false,false,false,false] rfl rfl (qcu HT_.out HW_.out (by kernel_rfl)) (fun _ _ _ h=>h) (Or.inl ⟨by rfl,?_⟩) hHeld ?_ ?_
                 rotate_left
                 ·rintro w' ⟨s0,s1,s2,s3,s4⟩
                  go_simp
                  with_reducible rfl
                 rotate_left
                 ·simp only [Act.put,List.setIfInBounds_toArray,List.set_cons_zero,List.set_cons_succ,qas,qat]
                  rfl
                 refine take_ (i:=16) (N:=some 60) (v:=?_) (a':=?_) #[true,true,true,true,true,true,true,true,true,true,true,true,true,true,true,true,true,true,false,false,false,false,false] rfl rfl (qcu HT_.out HW_.out (by kernel_rfl)) (fun _ _ _ h=>h) (Or.inl ⟨by rfl,?_⟩) hHeld ?_ ?_
                 rotate_left
                 ·rintro w' ⟨s0,s1,s2,s3,s4⟩
                  go_simp
                  with_reducible rfl
                 rotate_left
                 ·simp only [Act.put,List.setIfInBounds_toArray,List.set_cons_zero,List.set_cons_succ,qas,qat]
                  rfl
                 refine one_ (i:=18) (N:=some 62) #[true,true,true,true,true,true,true,true,true,true,true,true,true,true,true,true,true,true,true,false,false,false,false] rfl rfl (qdy HT_.out (by kernel_rfl)) (by decide) (fun K hK=>?_)
                 refine qen Tryd.func37 (by kernel_rfl) rfl #[.agg #[.slice A618_0 ((qcd t610 (rd t613 x37_2)).f0).length c618_0],.int .i64 x37_2] (by rfl) rfl rfl (by (try simp only [List.map_toArray,List.map_cons,List.map_nil]);rfl) ?_
                 with_reducible refine (qca.calls k2 _ _ ((qcd t610 (rd t613 x37_2)).f0) x37_2 t619 _ ?side1 ?side2 A34.out).mono ?_
                 (case side1=>repeat (exact HR618_0.out))
                 (case side2=>exact HC618_0.out)
                 rintro e w40 ⟨v620,rfl,ho0,hb⟩
                 have HS3_:=(hb.cell (World.block_lt_of_cell? _ _ (hHeld.2.2.2.1))).trans (hHeld.2.2.2.1)
                 have HS4_:=(hb.cell (World.block_lt_of_cell? _ _ (hHeld.2.2.2.2))).trans (hHeld.2.2.2.2)
                 refine ⟨_,rfl,?_⟩
                 have n0_:=qaa.mk (Kd.V_below (by (with_reducible repeat (apply Kd.V_drew));exact HO_3.out) hb)
                 have n1_:=qaa.mk (Kd.R_below (by (with_reducible repeat (apply Kd.R_drew));exact HO_4.out) hb)
                 have n2_:=qaa.mk (Kd.V_below (by (with_reducible repeat (apply Kd.V_drew));exact HL617_0.out) hb)
                 have n3_:=qaa.mk (Kd.V_below (by (with_reducible repeat (apply Kd.V_drew));exact HL618_0.out) hb)
                 have n4_:=qaa.mk (Kd.V_lower (Kd.V_mono (ok':=fun k_=>some k_≠(.slice (some ad616) t613.length co37:Value).ownBlock∧k_≠gb607) ho0 (fun k_ hk_=>⟨(Kd.fresh' (Kd.R_lt (by (with_reducible repeat (apply Kd.R_drew));exact HO_4.out)) k_ hk_),(Kd.freshB (g:=gb607) (o:=.cells #[.bool a0_0,.int .i64 a0_1,.slice A0_2 l0_2.length c0_2] 24 (0,0)) (by (with_reducible repeat (refine qac ?_));exact BK607.out) k_ hk_)⟩)) (qad HB.out))
                 have n5_:=qaa.mk (qaf (g:=gb607) (o:=.cells #[.bool a0_0,.int .i64 a0_1,.slice A0_2 l0_2.length c0_2] 24 (0,0)) (by (with_reducible repeat (refine qac ?_));exact BK607.out) hb)
                 have n6_:=qaa.mk (Kd.C_below HR617_0.out hb)
                 have n7_:=qaa.mk (Kd.C_below HR618_0.out hb)
                 have n8_:=qaa.mk (qak HB.out hb)
                 clear HO_3
                 clear HO_4
                 clear HL617_0
                 clear HL618_0
                 clear BK607
                 clear HR617_0
                 clear HR618_0
                 clear HB
                 have HO_3:=n0_
                 have HO_4:=n1_
                 have HL617_0:=n2_
                 have HL618_0:=n3_
                 have HO621:=n4_
                 have BK607:=n5_
                 have HR617_0:=n6_
                 have HR618_0:=n7_
                 have HB:=n8_
                 clear n0_ n1_ n2_ n3_ n4_ n5_ n6_ n7_ n8_
                 (try clear hb)
                 (try clear ho0)
                 obtain ⟨Ao41,co41,eo41⟩:=Kd.V_slice HO621.out
                 (subst eo41)
                 refine hK.out _ _ ⟨(qae BK607.out 0).trans rfl,(qae BK607.out 1).trans rfl,(qae BK607.out 2).trans rfl,HS3_,HS4_⟩ (fun hHeld=>?_)
                 clear hK K
                 refine qdw (a':=?_) ?_ ?_
                 rotate_left
                 ·show Act.put _ (some 62) _=_
                  simp only [Act.put,List.setIfInBounds_toArray,List.set_cons_zero,List.set_cons_succ,qas,qat]
                  rfl
                 refine one_ (i:=19) (N:=some 63) #[true,true,true,true,true,true,true,true,true,true,true,true,true,true,true,true,true,true,true,true,false,false,false] rfl rfl (qdy HT_.out (by kernel_rfl)) (by decide) (fun K hK=>?_)
                 refine qen Tryd.func36 (by kernel_rfl) rfl #[.agg #[.slice A617_0 ((qcd t610 x37_2).f0).length c617_0],.agg #[.slice Ao41 t619.length co41]] (by rfl) rfl rfl (by (try simp only [List.map_toArray,List.map_cons,List.map_nil]);rfl) ?_
                 with_reducible refine (qda.calls k2 _ _ ((qcd t610 x37_2).f0) _ _ t619 true _ ?side1 ?side2 ?side3 ?side4 A35.out).mono ?_
                 (case side1=>repeat (exact HR617_0.out))
                 (case side2=>exact HC617_0.out)
                 (case side3=>repeat (exact (Kd.V_reads' HO621.out).2.2))
                 (case side4=>exact (Kd.V_reads' HO621.out).2.1)
                 rintro e w42 ⟨rfl,hb⟩
                 have HS3_:=(hb.cell (World.block_lt_of_cell? _ _ (hHeld.2.2.2.1))).trans (hHeld.2.2.2.1)
                 have HS4_:=(hb.cell (World.block_lt_of_cell? _ _ (hHeld.2.2.2.2))).trans (hHeld.2.2.2.2)
                 refine ⟨_,rfl,?_⟩
                 have n0_:=qaa.mk (Kd.V_below (by (with_reducible repeat (apply Kd.V_drew));exact HO_3.out) hb)
                 have n1_:=qaa.mk (Kd.R_below (by (with_reducible repeat (apply Kd.R_drew));exact HO_4.out) hb)
                 have n2_:=qaa.mk (Kd.V_below (by (with_reducible repeat (apply Kd.V_drew));exact HL617_0.out) hb)
                 have n3_:=qaa.mk (Kd.V_below (by (with_reducible repeat (apply Kd.V_drew));exact HL618_0.out) hb)
                 have n4_:=qaa.mk (Kd.V_below (by (with_reducible repeat (apply Kd.V_drew));exact HO621.out) hb)
                 have n5_:=qaa.mk (qaf (g:=gb607) (o:=.cells #[.bool a0_0,.int .i64 a0_1,.slice A0_2 l0_2.length c0_2] 24 (0,0)) (by (with_reducible repeat (refine qac ?_));exact BK607.out) hb)
                 have n6_:=qaa.mk (Kd.C_below HR617_0.out hb)
                 have n7_:=qaa.mk (Kd.C_below HR618_0.out hb)
                 have n8_:=qaa.mk (qak HB.out hb)
                 clear HO_3
                 clear HO_4
                 clear HL617_0
                 clear HL618_0
                 clear HO621
                 clear BK607
                 clear HR617_0
                 clear HR618_0
                 clear HB
                 have HO_3:=n0_
                 have HO_4:=n1_
                 have HL617_0:=n2_
                 have HL618_0:=n3_
                 have HO621:=n4_
                 have BK607:=n5_
                 have HR617_0:=n6_
                 have HR618_0:=n7_
                 have HB:=n8_
                 clear n0_ n1_ n2_ n3_ n4_ n5_ n6_ n7_ n8_
                 (try clear hb)
                 refine hK.out _ _ ⟨(qae BK607.out 0).trans rfl,(qae BK607.out 1).trans rfl,(qae BK607.out 2).trans rfl,HS3_,HS4_⟩ (fun hHeld=>?_)
                 clear hK K
                 refine qdw (a':=?_) ?_ ?_
                 rotate_left
                 ·show Act.put _ (some 63) _=_
                  simp only [Act.put,List.setIfInBounds_toArray,List.set_cons_zero,List.set_cons_succ,qas,qat]
                  rfl
                 refine qbg (i:=20) (N:=some 64) (v:=?_) (a':=?_) #[true,true,true,true,true,true,true,true,true,true,true,true,true,true,true,true,true,true,true,true,true,false,false] rfl rfl (qau HT_.out (by kernel_rfl)) (fun _ _ _ h=>h) (Or.inl ⟨by rfl,?_⟩) ?_ ?_
                 rotate_left
                 ·intro w'
                  go_simp
                  with_reducible rfl
                 rotate_left
                 ·simp only [Act.put,List.setIfInBounds_toArray,List.set_cons_zero,List.set_cons_succ,qas,qat]
                  rfl
                 refine qbg (i:=21) (N:=some 65) (v:=?_) (a':=?_) #[true,true,true,true,true,true,true,true,true,true,true,true,true,true,true,true,true,true,true,true,true,true,false] rfl rfl (qau HT_.out (by kernel_rfl)) (fun _ _ _ h=>h) (Or.inl ⟨by rfl,?_⟩) ?_ ?_
                 rotate_left
                 ·intro w'
                  go_simp
                  with_reducible rfl
                 rotate_left
                 ·simp only [Act.put,List.setIfInBounds_toArray,List.set_cons_zero,List.set_cons_succ,qas,qat]
                  rfl
                 refine qbg (i:=22) (N:=some 66) (v:=?_) (a':=?_) #[true,true,true,true,true,true,true,true,true,true,true,true,true,true,true,true,true,true,true,true,true,true,true] rfl rfl (qau HT_.out (by kernel_rfl)) (fun _ _ _ h=>h) (Or.inl ⟨by rfl,?_⟩) ?_ ?_
                 rotate_left
                 ·intro w'
                  go_simp
                  with_reducible rfl
                 rotate_left
                 ·simp only [Act.put,List.setIfInBounds_toArray,List.set_cons_zero,List.set_cons_succ,qas,qat]
                  rfl
                 refine qfl (qej HT_.out (by kernel_rfl)) ?_
                 try go_wp2
                 go_roundg k2
                 case measure=>have:=HJ7.out;have:=HK2.out;omega
                 case rel=>exact ⟨(wrap64 (x37_2+1)),(by rfl),H',⟨by have:=HJ7.out;have:=HK2.out;omega⟩,⟨by (with_reducible repeat (apply Kd.V_drew));exact HO_3.out⟩,⟨by (with_reducible repeat (apply Kd.R_drew));exact HO_4.out⟩,⟨by (with_reducible repeat (refine qac ?_));exact BK607.out⟩,⟨by repeat ((with_reducible exact HB.out))⟩⟩
                ·replace c36:=Bool.eq_false_iff.mpr c36
                 subst c36
                 have H1:(some false)=some r:=by rw [if_neg (show ¬ (false=true) by decide)] at H;exact H
                 clear H
                 have H:=H1
                 clear H1
                 obtain rfl:=Option.some.inj H
                 obtain ⟨Ao43,co43,eo43⟩:=Kd.R_slice HO_4.out
                 subst eo43
                 have p616:0≤(x37_2:Int):=of_decide_eq_true (by (with_reducible assumption))
                 have q616:x37_2<(t613.length:Int):=of_decide_eq_true (by (with_reducible assumption))
                 obtain ⟨ad616,e616,hx616_0⟩:=Kd.at_int (Kd.R_reads' HO_4.out).2.2 x37_2 p616 q616
                 cases e616
                 replace p616:=eq_true p616
                 replace q616:=eq_true q616
                 try go_wp2
                 have n0_:=qaa.mk (Kd.V_drew HO_3.out)
                 have n1_:=qaa.mk (Kd.R_drew HO_4.out)
                 have n2_:=qaa.mk (qac BK607.out)
                 have n3_:=qaa.mk (qcx HB.out)
                 clear HO_3
                 clear HO_4
                 clear BK607
                 clear HB
                 have HO_3:=n0_
                 have HO_4:=n1_
                 have BK607:=n2_
                 have HB:=n3_
                 clear n0_ n1_ n2_ n3_
                 obtain ⟨Ao45,co45,eo45⟩:=Kd.V_slice HO_3.out
                 (subst eo45)
                 have p617:0≤(x37_2:Int):=of_decide_eq_true (by (with_reducible assumption))
                 have q617:x37_2<(t610.length:Int):=of_decide_eq_true (by (with_reducible assumption))
                 obtain ⟨ad617,A617_0,c617_0,e617,hx617_0,hl617_0,hi617_0⟩:=at_T38 (Kd.V_reads' HO_3.out).2.2 x37_2 p617 q617
                 cases e617
                 obtain ⟨ce617,hce617,hMe617,hcc617⟩:=Kd.V_get HO_3.out z38 x37_2 p617 (by exact q617)
                 obtain ⟨ua617_0,uc617_0,rfl,ul617_0,ge617_0⟩:=qes hMe617
                 have hv617_0:=hcc617 0 _ rfl
                 rw [Nat.add_zero,show (k38).sz=1 from rfl,Nat.mul_one] at hv617_0
                 replace hv617_0:=Option.some.inj (hv617_0.symm.trans hx617_0)
                 injection hv617_0 with hva_ hvn_ hvc_
                 rw [hva_] at ge617_0
                 rw [hvc_] at ul617_0
                 have HL617_0:=qaa.mk (show Kd.V (Kd.int .u64) 77 _ w.heap.size _ _ ((qcd t610 x37_2).f0) from Kd.V_mk ul617_0 ge617_0)
                 clear hva_ hvn_ hvc_ ge617_0 ul617_0
                 clear hcc617 hce617
                 have HR617_0:=qaa.mk hi617_0
                 have HC617_0:=qaa.mk hl617_0
                 clear hi617_0 hl617_0
                 replace p617:=eq_true p617
                 replace q617:=eq_true q617
                 have p618:0≤((rd t613 x37_2):Int):=of_decide_eq_true (by (with_reducible assumption))
                 have q618:(rd t613 x37_2)<(t610.length:Int):=of_decide_eq_true (by (with_reducible assumption))
                 obtain ⟨ad618,A618_0,c618_0,e618,hx618_0,hl618_0,hi618_0⟩:=at_T38 (Kd.V_reads' HO_3.out).2.2 (rd t613 x37_2) p618 q618
                 obtain rfl:ad617=ad618:=(by injection e618)
                 obtain ⟨ce618,hce618,hMe618,hcc618⟩:=Kd.V_get HO_3.out z38 (rd t613 x37_2) p618 (by exact q618)
                 obtain ⟨ua618_0,uc618_0,rfl,ul618_0,ge618_0⟩:=qes hMe618
                 have hv618_0:=hcc618 0 _ rfl
                 rw [Nat.add_zero,show (k38).sz=1 from rfl,Nat.mul_one] at hv618_0
                 replace hv618_0:=Option.some.inj (hv618_0.symm.trans hx618_0)
                 injection hv618_0 with hva_ hvn_ hvc_
                 rw [hva_] at ge618_0
                 rw [hvc_] at ul618_0
                 have HL618_0:=qaa.mk (show Kd.V (Kd.int .u64) 77 _ w.heap.size _ _ ((qcd t610 (rd t613 x37_2)).f0) from Kd.V_mk ul618_0 ge618_0)
                 clear hva_ hvn_ hvc_ ge618_0 ul618_0
                 clear hcc618 hce618
                 have HR618_0:=qaa.mk hi618_0
                 have HC618_0:=qaa.mk hl618_0
                 clear hi618_0 hl618_0
                 replace p618:=eq_true p618
                 replace q618:=eq_true q618
                 refine qew (n:=23) (S:=fun w'=>w'.cell? ⟨gb607,0,none⟩=some (.bool a0_0)∧w'.cell? ⟨gb607,1,none⟩=some (.int .i64 a0_1)∧w'.cell? ⟨gb607,2,none⟩=some (.slice A0_2 l0_2.length c0_2)∧w'.cell? (ad617.add (x37_2).toNat)=some (.slice A617_0 ((qcd t610 x37_2).f0).length c617_0)∧w'.cell? (ad617.add ((rd t613 x37_2)).toNat)=some (.slice A618_0 ((qcd t610 (rd t613 x37_2)).f0).length c618_0)) (ds:=[]) #[false,false,false,false,false,false,false,false,false,false,false,false,false,false,false,false,false,false,false,false,false,false,false] (by kernel_rfl) rfl rfl ⟨(qae BK607.out 0).trans rfl,(qae BK607.out 1).trans rfl,(qae BK607.out 2).trans rfl,hx617_0,hx618_0⟩ (fun hHeld=>?_);refine qdp qab.tab12 qab.bits12 (fun HT_ HW_=>?_)
                 generalize wr.drew=w44 at HO_3 HO_4 BK607 HB HL617_0 HL618_0 HR617_0 HR618_0 hx617_0 hx618_0 hHeld ⊢
                 refine qbg (i:=0) (N:=some 44) (v:=?_) (a':=?_) #[true,false,false,false,false,false,false,false,false,false,false,false,false,false,false,false,false,false,false,false,false,false,false] rfl rfl (qau HT_.out (by kernel_rfl)) (fun _ _ _ h=>h) (Or.inl ⟨by rfl,?_⟩) ?_ ?_
                 rotate_left
                 ·intro w'
                  go_simp
                  with_reducible rfl
                 rotate_left
                 ·simp only [Act.put,List.setIfInBounds_toArray,List.set_cons_zero,List.set_cons_succ,qas,qat]
                  rfl
                 refine qbg (i:=1) (N:=some 45) (v:=?_) (a':=?_) #[true,true,false,false,false,false,false,false,false,false,false,false,false,false,false,false,false,false,false,false,false,false,false] rfl rfl (qau HT_.out (by kernel_rfl)) (fun _ _ _ h=>h) (Or.inl ⟨by rfl,?_⟩) ?_ ?_
                 rotate_left
                 ·intro w'
                  go_simp
                  with_reducible rfl
                 rotate_left
                 ·simp only [Act.put,List.setIfInBounds_toArray,List.set_cons_zero,List.set_cons_succ,qas,qat]
                  rfl
                 refine take_ (i:=2) (N:=some 46) (v:=?_) (a':=?_) #[true,true,true,false,false,false,false,false,false,false,false,false,false,false,false,false,false,false,false,false,false,false,false] rfl rfl (qcu HT_.out HW_.out (by kernel_rfl)) (fun _ _ _ h=>h) (Or.inl ⟨by rfl,?_⟩) hHeld ?_ ?_
                 rotate_left
                 ·rintro w' ⟨s0,s1,s2,s3,s4⟩
                  go_simp
                  with_reducible rfl
                 rotate_left
                 ·simp only [Act.put,List.setIfInBounds_toArray,List.set_cons_zero,List.set_cons_succ,qas,qat]
                  rfl
                 refine qbg (i:=3) (N:=some 47) (v:=?_) (a':=?_) #[true,true,true,true,false,false,false,false,false,false,false,false,false,false,false,false,false,false,false,false,false,false,false] rfl rfl (qau HT_.out (by kernel_rfl)) (fun _ _ _ h=>h) (Or.inl ⟨by rfl,?_⟩) ?_ ?_
                 rotate_left
                 ·intro w'
                  go_simp
                  with_reducible rfl
                 rotate_left
                 ·simp only [Act.put,List.setIfInBounds_toArray,List.set_cons_zero,List.set_cons_succ,qas,qat]
                  rfl
                 refine qbg (i:=4) (N:=some 48) (v:=?_) (a':=?_) #[true,true,true,true,true,false,false,false,false,false,false,false,false,false,false,false,false,false,false,false,false,false,false] rfl rfl (qau HT_.out (by kernel_rfl)) (fun _ _ _ h=>h) (Or.inl ⟨by rfl,?_⟩) ?_ ?_
                 rotate_left
                 ·intro w'
                  go_simp
                  with_reducible rfl
                 rotate_left
                 ·simp only [Act.put,List.setIfInBounds_toArray,List.set_cons_zero,List.set_cons_succ,qas,qat]
                  rfl
                 refine qbg (i:=5) (N:=some 49) (v:=?_) (a':=?_) #[true,true,true,true,true,true,false,false,false,false,false,false,false,false,false,false,false,false,false,false,false,false,false] rfl rfl (qau HT_.out (by kernel_rfl)) (fun _ _ _ h=>h) (Or.inl ⟨by rfl,?_⟩) ?_ ?_
                 rotate_left
                 ·intro w'
                  go_simp
                  with_reducible rfl
                 rotate_left
                 ·simp only [Act.put,List.setIfInBounds_toArray,List.set_cons_zero,List.set_cons_succ,qas,qat]
                  rfl
                 refine qbg (i:=6) (N:=some 50) (v:=?_) (a':=?_) #[true,true,true,true,true,true,true,false,false,false,false,false,false,false,false,false,false,false,false,false,false,false,false] rfl rfl (qau HT_.out (by kernel_rfl)) (fun _ _ _ h=>h) (Or.inl ⟨by rfl,?_⟩) ?_ ?_
                 rotate_left
                 ·intro w'
                  go_simp
                  with_reducible rfl
                 rotate_left
                 ·simp only [Act.put,List.setIfInBounds_toArray,List.set_cons_zero,List.set_cons_succ,qas,qat]
                  rfl
                 refine qbg (i:=7) (N:=some 51) (v:=?_) (a':=?_) #[true,true,true,true,true,true,true,true,false,false,false,false,false,false,false,false,false,false,false,false,false,false,false] rfl rfl (qau HT_.out (by kernel_rfl)) (fun _ _ _ h=>h) (Or.inl ⟨by rfl,?_⟩) ?_ ?_
                 rotate_left
                 ·intro w'
                  go_simp
                  with_reducible rfl
                 rotate_left
                 ·simp only [Act.put,List.setIfInBounds_toArray,List.set_cons_zero,List.set_cons_succ,qas,qat]
                  rfl
                 refine qbg (i:=8) (N:=some 52) (v:=?_) (a':=?_) #[true,true,true,true,true,true,true,true,true,false,false,false,false,false,false,false,false,false,false,false,false,false,false] rfl rfl (qau HT_.out (by kernel_rfl)) (fun _ _ _ h=>h) (Or.inl ⟨by rfl,?_⟩) ?_ ?_
                 rotate_left
                 ·intro w'
                  go_simp
                  with_reducible rfl
                 rotate_left
                 ·simp only [Act.put,List.setIfInBounds_toArray,List.set_cons_zero,List.set_cons_succ,qas,qat]
                  rfl
                 refine qbg (i:=9) (N:=some 53) (v:=?_) (a':=?_) #[true,true,true,true,true,true,true,true,true,true,false,false,false,false,false,false,false,false,false,false,false,false,false] rfl rfl (qau HT_.out (by kernel_rfl)) (fun _ _ _ h=>h) (Or.inl ⟨by rfl,?_⟩) ?_ ?_
                 rotate_left
                 ·intro w'
                  go_simp
                  with_reducible rfl
                 rotate_left
                 ·simp only [Act.put,List.setIfInBounds_toArray,List.set_cons_zero,List.set_cons_succ,qas,qat]
                  rfl
                 refine qbg (i:=10) (N:=some 54) (v:=?_) (a':=?_) #[true,true,true,true,true,true,true,true,true,true,true,false,false,false,false,false,false,false,false,false,false,false,false] rfl rfl (qau HT_.out (by kernel_rfl)) (fun _ _ _ h=>h) (Or.inl ⟨by rfl,?_⟩) ?_ ?_
                 rotate_left
                 ·intro w'
                  go_simp
                  with_reducible rfl
                 rotate_left
                 ·simp only [Act.put,List.setIfInBounds_toArray,List.set_cons_zero,List.set_cons_succ,qas,qat]
                  rfl
                 refine qbg (i:=11) (N:=some 55) (v:=?_) (a':=?_) #[true,true,true,true,true,true,true,true,true,true,true,true,false,false,false,false,false,false,false,false,false,false,false] rfl rfl (qau HT_.out (by kernel_rfl)) (fun _ _ _ h=>h) (Or.inl ⟨by rfl,?_⟩) ?_ ?_
                 rotate_left
                 ·intro w'
                  go_simp
                  with_reducible rfl
                 rotate_left
                 ·simp only [Act.put,List.setIfInBounds_toArray,List.set_cons_zero,List.set_cons_succ,qas,qat]
                  rfl
                 refine qbg (i:=13) (N:=some 57) (v:=?_) (a':=?_) #[true,true,true,true,true,true,true,true,true,true,true,true,false,true,false,false,false,false,false,false,false,false,false] rfl rfl (qau HT_.out (by kernel_rfl)) (fun _ _ _ h=>h) (Or.inl ⟨by rfl,?_⟩) ?_ ?_
                 rotate_left
                 ·intro w'
                  go_simp
                  with_reducible rfl
                 rotate_left
                 ·simp only [Act.put,List.setIfInBounds_toArray,List.set_cons_zero,List.set_cons_succ,qas,qat]
                  rfl
                 refine qbg (i:=14) (N:=some 58) (v:=?_) (a':=?_) #[true,true,true,true,true,true,true,true,true,true,true,true,false,true,true,false,false,false,false,false,false,false,false] rfl rfl (qau HT_.out (by kernel_rfl)) (fun _ _ _ h=>h) (Or.inl ⟨by rfl,?_⟩) ?_ ?_
                 rotate_left
                 ·intro w'
                  go_simp
                  with_reducible rfl
                 rotate_left
                 ·simp only [Act.put,List.setIfInBounds_toArray,List.set_cons_zero,List.set_cons_succ,qas,qat]
                  rfl
                 refine qbg (i:=15) (N:=some 59) (v:=?_) (a':=?_) #[true,true,true,true,true,true,true,true,true,true,true,true,false,true,true,true,false,false,false,false,false,false,false] rfl rfl (qau HT_.out (by kernel_rfl)) (fun _ _ _ h=>h) (Or.inl ⟨by rfl,?_⟩) ?_ ?_
                 rotate_left
                 ·intro w'
                  go_simp
                  with_reducible rfl
                 rotate_left
                 ·simp only [Act.put,List.setIfInBounds_toArray,List.set_cons_zero,List.set_cons_succ,qas,qat]
                  rfl
                 refine qbg (i:=17) (N:=some 61) (v:=?_) (a':=?_) #[true,true,true,true,true,true,true,true,true,true,true,true,false,true,true,true,false,true,false,false,false,false,false] rfl rfl (qau HT_.out (by kernel_rfl)) (fun _ _ _ h=>h) (Or.inl ⟨by rfl,?_⟩) ?_ ?_
                 rotate_left
                 ·intro w'
                  go_simp
                  with_reducible rfl
                 rotate_left
                 ·simp only [Act.put,List.setIfInBounds_toArray,List.set_cons_zero,List.set_cons_succ,qas,qat]
                  rfl
                 refine take_ (i:=12) (N:=some 56) (v:=?_) (a':=?_) #[true,true,true,true,true,true,true,true,true,true,true,true,true,true,true,true,false,true,false,false,false,false,false] rfl rfl (qcu HT_.out HW_.out (by kernel_rfl)) (fun _ _ _ h=>h) (Or.inl ⟨by rfl,?_⟩) hHeld ?_ ?_
                 rotate_left
                 ·rintro w' ⟨s0,s1,s2,s3,s4⟩
                  go_simp
                  with_reducible rfl
                 rotate_left
                 ·simp only [Act.put,List.setIfInBounds_toArray,List.set_cons_zero,List.set_cons_succ,qas,qat]
                  rfl
                 refine take_ (i:=16) (N:=some 60) (v:=?_) (a':=?_) #[true,true,true,true,true,true,true,true,true,true,true,true,true,true,true,true,true,true,false,false,false,false,false] rfl rfl (qcu HT_.out HW_.out (by kernel_rfl)) (fun _ _ _ h=>h) (Or.inl ⟨by rfl,?_⟩) hHeld ?_ ?_
                 rotate_left
                 ·rintro w' ⟨s0,s1,s2,s3,s4⟩
                  go_simp
                  with_reducible rfl
                 rotate_left
                 ·simp only [Act.put,List.setIfInBounds_toArray,List.set_cons_zero,List.set_cons_succ,qas,qat]
                  rfl
                 refine one_ (i:=18) (N:=some 62) #[true,true,true,true,true,true,true,true,true,true,true,true,true,true,true,true,true,true,true,false,false,false,false] rfl rfl (qdy HT_.out (by kernel_rfl)) (by decide) (fun K hK=>?_)
                 refine qen Tryd.func37 (by kernel_rfl) rfl #[.agg #[.slice A618_0 ((qcd t610 (rd t613 x37_2)).f0).length c618_0],.int .i64 x37_2] (by rfl) rfl rfl (by (try simp only [List.map_toArray,List.map_cons,List.map_nil]);rfl) ?_
                 with_reducible refine (qca.calls k2 _ _ ((qcd t610 (rd t613 x37_2)).f0) x37_2 t619 _ ?side1 ?side2 A34.out).mono ?_
                 (case side1=>repeat (exact HR618_0.out))
                 (case side2=>exact HC618_0.out)
                 rintro e w46 ⟨v620,rfl,ho0,hb⟩
                 have HS3_:=(hb.cell (World.block_lt_of_cell? _ _ (hHeld.2.2.2.1))).trans (hHeld.2.2.2.1)
                 have HS4_:=(hb.cell (World.block_lt_of_cell? _ _ (hHeld.2.2.2.2))).trans (hHeld.2.2.2.2)
                 refine ⟨_,rfl,?_⟩
                 have n0_:=qaa.mk (Kd.V_below (by (with_reducible repeat (apply Kd.V_drew));exact HO_3.out) hb)
                 have n1_:=qaa.mk (Kd.R_below (by (with_reducible repeat (apply Kd.R_drew));exact HO_4.out) hb)
                 have n2_:=qaa.mk (Kd.V_below (by (with_reducible repeat (apply Kd.V_drew));exact HL617_0.out) hb)
                 have n3_:=qaa.mk (Kd.V_below (by (with_reducible repeat (apply Kd.V_drew));exact HL618_0.out) hb)
                 have n4_:=qaa.mk (Kd.V_lower (Kd.V_mono (ok':=fun k_=>some k_≠(.slice (some ad616) t613.length co43:Value).ownBlock∧k_≠gb607) ho0 (fun k_ hk_=>⟨(Kd.fresh' (Kd.R_lt (by (with_reducible repeat (apply Kd.R_drew));exact HO_4.out)) k_ hk_),(Kd.freshB (g:=gb607) (o:=.cells #[.bool a0_0,.int .i64 a0_1,.slice A0_2 l0_2.length c0_2] 24 (0,0)) (by (with_reducible repeat (refine qac ?_));exact BK607.out) k_ hk_)⟩)) (qad HB.out))
                 have n5_:=qaa.mk (qaf (g:=gb607) (o:=.cells #[.bool a0_0,.int .i64 a0_1,.slice A0_2 l0_2.length c0_2] 24 (0,0)) (by (with_reducible repeat (refine qac ?_));exact BK607.out) hb)
                 have n6_:=qaa.mk (Kd.C_below HR617_0.out hb)
                 have n7_:=qaa.mk (Kd.C_below HR618_0.out hb)
                 have n8_:=qaa.mk (qak HB.out hb)
                 clear HO_3
                 clear HO_4
                 clear HL617_0
                 clear HL618_0
                 clear BK607
                 clear HR617_0
                 clear HR618_0
                 clear HB
                 have HO_3:=n0_
                 have HO_4:=n1_
                 have HL617_0:=n2_
                 have HL618_0:=n3_
                 have HO621:=n4_
                 have BK607:=n5_
                 have HR617_0:=n6_
                 have HR618_0:=n7_
                 have HB:=n8_
                 clear n0_ n1_ n2_ n3_ n4_ n5_ n6_ n7_ n8_
                 (try clear hb)
                 (try clear ho0)
                 obtain ⟨Ao47,co47,eo47⟩:=Kd.V_slice HO621.out
                 (subst eo47)
                 refine hK.out _ _ ⟨(qae BK607.out 0).trans rfl,(qae BK607.out 1).trans rfl,(qae BK607.out 2).trans rfl,HS3_,HS4_⟩ (fun hHeld=>?_)
                 clear hK K
                 refine qdw (a':=?_) ?_ ?_
                 rotate_left
                 ·show Act.put _ (some 62) _=_
                  simp only [Act.put,List.setIfInBounds_toArray,List.set_cons_zero,List.set_cons_succ,qas,qat]
                  rfl
                 refine one_ (i:=19) (N:=some 63) #[true,true,true,true,true,true,true,true,true,true,true,true,true,true,true,true,true,true,true,true,false,false,false] rfl rfl (qdy HT_.out (by kernel_rfl)) (by decide) (fun K hK=>?_)
                 refine qen Tryd.func36 (by kernel_rfl) rfl #[.agg #[.slice A617_0 ((qcd t610 x37_2).f0).length c617_0],.agg #[.slice Ao47 t619.length co47]] (by rfl) rfl rfl (by (try simp only [List.map_toArray,List.map_cons,List.map_nil]);rfl) ?_
                 with_reducible refine (qda.calls k2 _ _ ((qcd t610 x37_2).f0) _ _ t619 false _ ?side1 ?side2 ?side3 ?side4 A35.out).mono ?_
                 (case side1=>repeat (exact HR617_0.out))
                 (case side2=>exact HC617_0.out)
                 (case side3=>repeat (exact (Kd.V_reads' HO621.out).2.2))
                 (case side4=>exact (Kd.V_reads' HO621.out).2.1)
                 rintro e w48 ⟨rfl,hb⟩
                 have HS3_:=(hb.cell (World.block_lt_of_cell? _ _ (hHeld.2.2.2.1))).trans (hHeld.2.2.2.1)
                 have HS4_:=(hb.cell (World.block_lt_of_cell? _ _ (hHeld.2.2.2.2))).trans (hHeld.2.2.2.2)
                 refine ⟨_,rfl,?_⟩
                 have n0_:=qaa.mk (Kd.V_below (by (with_reducible repeat (apply Kd.V_drew));exact HO_3.out) hb)
                 have n1_:=qaa.mk (Kd.R_below (by (with_reducible repeat (apply Kd.R_drew));exact HO_4.out) hb)
                 have n2_:=qaa.mk (Kd.V_below (by (with_reducible repeat (apply Kd.V_drew));exact HL617_0.out) hb)
                 have n3_:=qaa.mk (Kd.V_below (by (with_reducible repeat (apply Kd.V_drew));exact HL618_0.out) hb)
                 have n4_:=qaa.mk (Kd.V_below (by (with_reducible repeat (apply Kd.V_drew));exact HO621.out) hb)
                 have n5_:=qaa.mk (qaf (g:=gb607) (o:=.cells #[.bool a0_0,.int .i64 a0_1,.slice A0_2 l0_2.length c0_2] 24 (0,0)) (by (with_reducible repeat (refine qac ?_));exact BK607.out) hb)
                 have n6_:=qaa.mk (Kd.C_below HR617_0.out hb)
                 have n7_:=qaa.mk (Kd.C_below HR618_0.out hb)
                 have n8_:=qaa.mk (qak HB.out hb)
                 clear HO_3
                 clear HO_4
                 clear HL617_0
                 clear HL618_0
                 clear HO621
                 clear BK607
                 clear HR617_0
                 clear HR618_0
                 clear HB
                 have HO_3:=n0_
                 have HO_4:=n1_
                 have HL617_0:=n2_
                 have HL618_0:=n3_
                 have HO621:=n4_
                 have BK607:=n5_
                 have HR617_0:=n6_
                 have HR618_0:=n7_
                 have HB:=n8_
                 clear n0_ n1_ n2_ n3_ n4_ n5_ n6_ n7_ n8_
                 (try clear hb)
                 refine hK.out _ _ ⟨(qae BK607.out 0).trans rfl,(qae BK607.out 1).trans rfl,(qae BK607.out 2).trans rfl,HS3_,HS4_⟩ (fun hHeld=>?_)
                 clear hK K
                 refine qdw (a':=?_) ?_ ?_
                 rotate_left
                 ·show Act.put _ (some 63) _=_
                  simp only [Act.put,List.setIfInBounds_toArray,List.set_cons_zero,List.set_cons_succ,qas,qat]
                  rfl
                 refine qbg (i:=20) (N:=some 64) (v:=?_) (a':=?_) #[true,true,true,true,true,true,true,true,true,true,true,true,true,true,true,true,true,true,true,true,true,false,false] rfl rfl (qau HT_.out (by kernel_rfl)) (fun _ _ _ h=>h) (Or.inl ⟨by rfl,?_⟩) ?_ ?_
                 rotate_left
                 ·intro w'
                  go_simp
                  with_reducible rfl
                 rotate_left
                 ·simp only [Act.put,List.setIfInBounds_toArray,List.set_cons_zero,List.set_cons_succ,qas,qat]
                  rfl
                 refine qbg (i:=21) (N:=some 65) (v:=?_) (a':=?_) #[true,true,true,true,true,true,true,true,true,true,true,true,true,true,true,true,true,true,true,true,true,true,false] rfl rfl (qau HT_.out (by kernel_rfl)) (fun _ _ _ h=>h) (Or.inl ⟨by rfl,?_⟩) ?_ ?_
                 rotate_left
                 ·intro w'
                  go_simp
                  with_reducible rfl
                 rotate_left
                 ·simp only [Act.put,List.setIfInBounds_toArray,List.set_cons_zero,List.set_cons_succ,qas,qat]
                  rfl
                 refine qbg (i:=22) (N:=some 66) (v:=?_) (a':=?_) #[true,true,true,true,true,true,true,true,true,true,true,true,true,true,true,true,true,true,true,true,true,true,true] rfl rfl (qau HT_.out (by kernel_rfl)) (fun _ _ _ h=>h) (Or.inl ⟨by rfl,?_⟩) ?_ ?_
                 rotate_left
                 ·intro w'
                  go_simp
                  with_reducible rfl
                 rotate_left
                 ·simp only [Act.put,List.setIfInBounds_toArray,List.set_cons_zero,List.set_cons_succ,qas,qat]
                  rfl
                 refine qfl (qej HT_.out (by kernel_rfl)) ?_
                 try go_wp2
                 go_ret
                 exact ⟨by rfl,by repeat ((with_reducible exact HB.out))⟩
               ·rw [if_neg c33] at H
                exact absurd H (by simp)
              ·rw [if_neg c32] at H
               exact absurd H (by simp)
             ·rw [if_neg c31] at H
              exact absurd H (by simp)
            ·rw [if_neg c30] at H
             have c30b0:decide (0≤(rd t613 x37_2))=false:=decide_eq_false c30
             clear c30
             have H':=qaa.mk H
             clear H
             obtain ⟨Ao49,co49,eo49⟩:=Kd.R_slice HO_4.out
             subst eo49
             have p616:0≤(x37_2:Int):=of_decide_eq_true (by (with_reducible assumption))
             have q616:x37_2<(t613.length:Int):=of_decide_eq_true (by (with_reducible assumption))
             obtain ⟨ad616,e616,hx616_0⟩:=Kd.at_int (Kd.R_reads' HO_4.out).2.2 x37_2 p616 q616
             cases e616
             replace p616:=eq_true p616
             replace q616:=eq_true q616
             try go_wp2
             have n0_:=qaa.mk (Kd.V_drew HO_3.out)
             have n1_:=qaa.mk (Kd.R_drew HO_4.out)
             have n2_:=qaa.mk (qac BK607.out)
             have n3_:=qaa.mk (qcx HB.out)
             clear HO_3
             clear HO_4
             clear BK607
             clear HB
             have HO_3:=n0_
             have HO_4:=n1_
             have BK607:=n2_
             have HB:=n3_
             clear n0_ n1_ n2_ n3_
             refine qew (n:=23) (S:=fun w'=>w'.cell? ⟨gb607,0,none⟩=some (.bool a0_0)∧w'.cell? ⟨gb607,1,none⟩=some (.int .i64 a0_1)∧w'.cell? ⟨gb607,2,none⟩=some (.slice A0_2 l0_2.length c0_2)) (ds:=[]) #[false,false,false,false,false,false,false,false,false,false,false,false,false,false,false,false,false,false,false,false,false,false,false] (by kernel_rfl) rfl rfl ⟨(qae BK607.out 0).trans rfl,(qae BK607.out 1).trans rfl,(qae BK607.out 2).trans rfl⟩ (fun hHeld=>?_);refine qdp qab.tab12 qab.bits12 (fun HT_ HW_=>?_)
             generalize wr.drew=w50 at HO_3 HO_4 BK607 HB hHeld ⊢
             refine qbg (i:=0) (N:=some 44) (v:=?_) (a':=?_) #[true,false,false,false,false,false,false,false,false,false,false,false,false,false,false,false,false,false,false,false,false,false,false] rfl rfl (qau HT_.out (by kernel_rfl)) (fun _ _ _ h=>h) (Or.inl ⟨by rfl,?_⟩) ?_ ?_
             rotate_left
             ·intro w'
              go_simp
              with_reducible rfl
             rotate_left
             ·simp only [Act.put,List.setIfInBounds_toArray,List.set_cons_zero,List.set_cons_succ,qas,qat]
              rfl
             refine qbg (i:=1) (N:=some 45) (v:=?_) (a':=?_) #[true,true,false,false,false,false,false,false,false,false,false,false,false,false,false,false,false,false,false,false,false,false,false] rfl rfl (qau HT_.out (by kernel_rfl)) (fun _ _ _ h=>h) (Or.inl ⟨by rfl,?_⟩) ?_ ?_
             rotate_left
             ·intro w'
              go_simp
              with_reducible rfl
             rotate_left
             ·simp only [Act.put,List.setIfInBounds_toArray,List.set_cons_zero,List.set_cons_succ,qas,qat]
              rfl
             refine take_ (i:=2) (N:=some 46) (v:=?_) (a':=?_) #[true,true,true,false,false,false,false,false,false,false,false,false,false,false,false,false,false,false,false,false,false,false,false] rfl rfl (qcu HT_.out HW_.out (by kernel_rfl)) (fun _ _ _ h=>h) (Or.inl ⟨by rfl,?_⟩) hHeld ?_ ?_
             rotate_left
             ·rintro w' ⟨s0,s1,s2⟩
              go_simp
              with_reducible rfl
             rotate_left
             ·simp only [Act.put,List.setIfInBounds_toArray,List.set_cons_zero,List.set_cons_succ,qas,qat]
              rfl
             refine qbg (i:=3) (N:=some 47) (v:=?_) (a':=?_) #[true,true,true,true,false,false,false,false,false,false,false,false,false,false,false,false,false,false,false,false,false,false,false] rfl rfl (qau HT_.out (by kernel_rfl)) (fun _ _ _ h=>h) (Or.inl ⟨by rfl,?_⟩) ?_ ?_
             rotate_left
             ·intro w'
              go_simp
              with_reducible rfl
             rotate_left
             ·simp only [Act.put,List.setIfInBounds_toArray,List.set_cons_zero,List.set_cons_succ,qas,qat]
              rfl
             refine qbg (i:=4) (N:=some 48) (v:=?_) (a':=?_) #[true,true,true,true,true,false,false,false,false,false,false,false,false,false,false,false,false,false,false,false,false,false,false] rfl rfl (qau HT_.out (by kernel_rfl)) (fun _ _ _ h=>h) (Or.inl ⟨by rfl,?_⟩) ?_ ?_
             rotate_left
             ·intro w'
              go_simp
              with_reducible rfl
             rotate_left
             ·simp only [Act.put,List.setIfInBounds_toArray,List.set_cons_zero,List.set_cons_succ,qas,qat]
              rfl
             refine qbg (i:=5) (N:=some 49) (v:=?_) (a':=?_) #[true,true,true,true,true,true,false,false,false,false,false,false,false,false,false,false,false,false,false,false,false,false,false] rfl rfl (qau HT_.out (by kernel_rfl)) (fun _ _ _ h=>h) (Or.inl ⟨by rfl,?_⟩) ?_ ?_
             rotate_left
             ·intro w'
              go_simp
              with_reducible rfl
             rotate_left
             ·simp only [Act.put,List.setIfInBounds_toArray,List.set_cons_zero,List.set_cons_succ,qas,qat]
              rfl
             refine qbg (i:=6) (N:=some 50) (v:=?_) (a':=?_) #[true,true,true,true,true,true,true,false,false,false,false,false,false,false,false,false,false,false,false,false,false,false,false] rfl rfl (qau HT_.out (by kernel_rfl)) (fun _ _ _ h=>h) (Or.inl ⟨by rfl,?_⟩) ?_ ?_
             rotate_left
             ·intro w'
              go_simp
              with_reducible rfl
             rotate_left
             ·simp only [Act.put,List.setIfInBounds_toArray,List.set_cons_zero,List.set_cons_succ,qas,qat]
              rfl
             refine qbg (i:=7) (N:=some 51) (v:=?_) (a':=?_) #[true,true,true,true,true,true,true,true,false,false,false,false,false,false,false,false,false,false,false,false,false,false,false] rfl rfl (qau HT_.out (by kernel_rfl)) (fun _ _ _ h=>h) (Or.inl ⟨by rfl,?_⟩) ?_ ?_
             rotate_left
             ·intro w'
              go_simp
              with_reducible rfl
             rotate_left
             ·simp only [Act.put,List.setIfInBounds_toArray,List.set_cons_zero,List.set_cons_succ,qas,qat]
              rfl
             refine qbg (i:=8) (N:=some 52) (v:=?_) (a':=?_) #[true,true,true,true,true,true,true,true,true,false,false,false,false,false,false,false,false,false,false,false,false,false,false] rfl rfl (qau HT_.out (by kernel_rfl)) (fun _ _ _ h=>h) (Or.inl ⟨by rfl,?_⟩) ?_ ?_
             rotate_left
             ·intro w'
              go_simp
              with_reducible rfl
             rotate_left
             ·simp only [Act.put,List.setIfInBounds_toArray,List.set_cons_zero,List.set_cons_succ,qas,qat]
              rfl
             refine qbg (i:=9) (N:=some 53) (v:=undef) (a':=?_) #[true,true,true,true,true,true,true,true,true,true,false,false,false,false,false,false,false,false,false,false,false,false,false] rfl rfl (qau HT_.out (by kernel_rfl)) (fun _ _ _ h=>h) (Or.inr ⟨by rfl,rfl⟩) ?_ ?_
             rotate_left
             ·simp only [Act.put,List.setIfInBounds_toArray,List.set_cons_zero,List.set_cons_succ,qas,qat]
              rfl
             refine qbg (i:=10) (N:=some 54) (v:=undef) (a':=?_) #[true,true,true,true,true,true,true,true,true,true,true,false,false,false,false,false,false,false,false,false,false,false,false] rfl rfl (qau HT_.out (by kernel_rfl)) (fun _ _ _ h=>h) (Or.inr ⟨by rfl,rfl⟩) ?_ ?_
             rotate_left
             ·simp only [Act.put,List.setIfInBounds_toArray,List.set_cons_zero,List.set_cons_succ,qas,qat]
              rfl
             refine qbg (i:=11) (N:=some 55) (v:=undef) (a':=?_) #[true,true,true,true,true,true,true,true,true,true,true,true,false,false,false,false,false,false,false,false,false,false,false] rfl rfl (qau HT_.out (by kernel_rfl)) (fun _ _ _ h=>h) (Or.inr ⟨by rfl,rfl⟩) ?_ ?_
             rotate_left
             ·simp only [Act.put,List.setIfInBounds_toArray,List.set_cons_zero,List.set_cons_succ,qas,qat]
              rfl
             refine qbg (i:=12) (N:=some 56) (v:=undef) (a':=?_) #[true,true,true,true,true,true,true,true,true,true,true,true,true,false,false,false,false,false,false,false,false,false,false] rfl rfl (qau HT_.out (by kernel_rfl)) (fun _ _ _ h=>h) (Or.inr ⟨by rfl,rfl⟩) ?_ ?_
             rotate_left
             ·simp only [Act.put,List.setIfInBounds_toArray,List.set_cons_zero,List.set_cons_succ,qas,qat]
              rfl
             refine qbg (i:=13) (N:=some 57) (v:=undef) (a':=?_) #[true,true,true,true,true,true,true,true,true,true,true,true,true,true,false,false,false,false,false,false,false,false,false] rfl rfl (qau HT_.out (by kernel_rfl)) (fun _ _ _ h=>h) (Or.inr ⟨by rfl,rfl⟩) ?_ ?_
             rotate_left
             ·simp only [Act.put,List.setIfInBounds_toArray,List.set_cons_zero,List.set_cons_succ,qas,qat]
              rfl
             refine qbg (i:=14) (N:=some 58) (v:=undef) (a':=?_) #[true,true,true,true,true,true,true,true,true,true,true,true,true,true,true,false,false,false,false,false,false,false,false] rfl rfl (qau HT_.out (by kernel_rfl)) (fun _ _ _ h=>h) (Or.inr ⟨by rfl,rfl⟩) ?_ ?_
             rotate_left
             ·simp only [Act.put,List.setIfInBounds_toArray,List.set_cons_zero,List.set_cons_succ,qas,qat]
              rfl
             refine qbg (i:=15) (N:=some 59) (v:=undef) (a':=?_) #[true,true,true,true,true,true,true,true,true,true,true,true,true,true,true,true,false,false,false,false,false,false,false] rfl rfl (qau HT_.out (by kernel_rfl)) (fun _ _ _ h=>h) (Or.inr ⟨by rfl,rfl⟩) ?_ ?_
             rotate_left
             ·simp only [Act.put,List.setIfInBounds_toArray,List.set_cons_zero,List.set_cons_succ,qas,qat]
              rfl
             refine qbg (i:=16) (N:=some 60) (v:=undef) (a':=?_) #[true,true,true,true,true,true,true,true,true,true,true,true,true,true,true,true,true,false,false,false,false,false,false] rfl rfl (qau HT_.out (by kernel_rfl)) (fun _ _ _ h=>h) (Or.inr ⟨by rfl,rfl⟩) ?_ ?_
             rotate_left
             ·simp only [Act.put,List.setIfInBounds_toArray,List.set_cons_zero,List.set_cons_succ,qas,qat]
              rfl
             refine qbg (i:=17) (N:=some 61) (v:=undef) (a':=?_) #[true,true,true,true,true,true,true,true,true,true,true,true,true,true,true,true,true,true,false,false,false,false,false] rfl rfl (qau HT_.out (by kernel_rfl)) (fun _ _ _ h=>h) (Or.inr ⟨by rfl,rfl⟩) ?_ ?_
             rotate_left
             ·simp only [Act.put,List.setIfInBounds_toArray,List.set_cons_zero,List.set_cons_succ,qas,qat]
              rfl
             refine qbg (i:=18) (N:=some 62) (v:=undef) (a':=?_) #[true,true,true,true,true,true,true,true,true,true,true,true,true,true,true,true,true,true,true,false,false,false,false] rfl rfl (qau HT_.out (by kernel_rfl)) (fun _ _ _ h=>h) (Or.inr ⟨by rfl,rfl⟩) ?_ ?_
             rotate_left
             ·simp only [Act.put,List.setIfInBounds_toArray,List.set_cons_zero,List.set_cons_succ,qas,qat]
              rfl
             refine qbg (i:=19) (N:=some 63) (v:=undef) (a':=?_) #[true,true,true,true,true,true,true,true,true,true,true,true,true,true,true,true,true,true,true,true,false,false,false] rfl rfl (qau HT_.out (by kernel_rfl)) (fun _ _ _ h=>h) (Or.inr ⟨by rfl,rfl⟩) ?_ ?_
             rotate_left
             ·simp only [Act.put,List.setIfInBounds_toArray,List.set_cons_zero,List.set_cons_succ,qas,qat]
              rfl
             refine qbg (i:=20) (N:=some 64) (v:=undef) (a':=?_) #[true,true,true,true,true,true,true,true,true,true,true,true,true,true,true,true,true,true,true,true,true,false,false] rfl rfl (qau HT_.out (by kernel_rfl)) (fun _ _ _ h=>h) (Or.inr ⟨by rfl,rfl⟩) ?_ ?_
             rotate_left
             ·simp only [Act.put,List.setIfInBounds_toArray,List.set_cons_zero,List.set_cons_succ,qas,qat]
              rfl
             refine qbg (i:=21) (N:=some 65) (v:=?_) (a':=?_) #[true,true,true,true,true,true,true,true,true,true,true,true,true,true,true,true,true,true,true,true,true,true,false] rfl rfl (qau HT_.out (by kernel_rfl)) (fun _ _ _ h=>h) (Or.inl ⟨by rfl,?_⟩) ?_ ?_
             rotate_left
             ·intro w'
              go_simp
              with_reducible rfl
             rotate_left
             ·simp only [Act.put,List.setIfInBounds_toArray,List.set_cons_zero,List.set_cons_succ,qas,qat]
              rfl
             refine qbg (i:=22) (N:=some 66) (v:=?_) (a':=?_) #[true,true,true,true,true,true,true,true,true,true,true,true,true,true,true,true,true,true,true,true,true,true,true] rfl rfl (qau HT_.out (by kernel_rfl)) (fun _ _ _ h=>h) (Or.inl ⟨by rfl,?_⟩) ?_ ?_
             rotate_left
             ·intro w'
              go_simp
              with_reducible rfl
             rotate_left
             ·simp only [Act.put,List.setIfInBounds_toArray,List.set_cons_zero,List.set_cons_succ,qas,qat]
              rfl
             refine qfl (qej HT_.out (by kernel_rfl)) ?_
             try go_wp2
             go_roundg k2
             case measure=>have:=HJ7.out;have:=HK2.out;omega
             case rel=>exact ⟨(wrap64 (x37_2+1)),(by rfl),H',⟨by have:=HJ7.out;have:=HK2.out;omega⟩,⟨by (with_reducible repeat (apply Kd.V_drew));exact HO_3.out⟩,⟨by (with_reducible repeat (apply Kd.R_drew));exact HO_4.out⟩,⟨by (with_reducible repeat (refine qac ?_));exact BK607.out⟩,⟨by repeat ((with_reducible exact HB.out))⟩⟩
          ·rw [if_neg c26] at H
           exact absurd H (by simp)
         ·rw [if_neg c25] at H
          exact absurd H (by simp)
        ·rw [if_neg c24] at H
         have c24b0:decide (x37_2<(l0_2.length:Int))=false:=decide_eq_false c24
         clear c24
         replace H:=Option.bind_eq_some_iff.mp H
         obtain ⟨t623,A510,H⟩:=H
         replace H:(qab.l1 k2 t610 t623 (t623.length:Int) 0 a0_0 a0_1 l0_2)=some r:=H
         have A51:=qaa.mk A510
         clear A510
         have H':=qaa.mk H
         clear H
         have hcz52_0:wr.cell? ⟨gb607,0,none⟩=some (.bool a0_0):=(qae BK607.out 0).trans rfl
         have hcz52_1:wr.cell? ⟨gb607,1,none⟩=some (.int .i64 a0_1):=(qae BK607.out 1).trans rfl
         have hcz52_2:wr.cell? ⟨gb607,2,none⟩=some (.slice A0_2 l0_2.length c0_2):=(qae BK607.out 2).trans rfl
         have hfz52_0:=qai BK607.out 0
         have hfz52_1:=qai BK607.out 1
         have hfz52_2:=qai BK607.out 2
         go_wp2_with (((with_reducible refine qbp (f:=26) rfl ?_);refine qdj (some 69) rfl rfl Tryd.func26 (by kernel_rfl) rfl #[.agg #[.bool a0_0,.int .i64 a0_1,.slice A0_2 l0_2.length c0_2]] rfl (by (try simp only [List.map_toArray,List.map_cons,List.map_nil]);rfl) ?_;(with_reducible refine (qcf.calls k2 a0_0 a0_1 _ _ l0_2 t623 _ ?side1 ?side2 ?side3 A51.out).mono ?_);(case side1=>exact TabW.below' HTB.out HB.out);(case side2=>repeat (exact (Kd.C_below HR0_2.out HB.out)));(case side3=>exact HC0_2.out);rintro e w53 ⟨v624,rfl,ho0,hb⟩;refine ⟨_,rfl,?_⟩;replace HO_3:=qaa.mk (Kd.V_elder' (by (with_reducible repeat (apply Kd.V_drew));exact HO_3.out) (Kd.R_base ho0) hb);replace HO_4:=qaa.mk (Kd.R_below (by (with_reducible repeat (apply Kd.R_drew));exact HO_4.out) hb);have HO625:=qaa.mk (Kd.R_lower ho0 (qad HB.out));replace BK607:=qaa.mk (qaf (g:=gb607) (o:=.cells #[.bool a0_0,.int .i64 a0_1,.slice A0_2 l0_2.length c0_2] 24 (0,0)) (by (with_reducible repeat (refine qac ?_));exact BK607.out) hb);replace HB:=qaa.mk (qak HB.out hb);(try clear hb);(try clear ho0);obtain ⟨Ao54,co54,eo54⟩:=Kd.R_slice HO625.out;subst eo54))
         go_loopg [71] k2 (fun kq v71 w'=>∃ (x71_3:Int),v71=.int .i64 x71_3∧qaa (qab.l1 kq t610 t623 (t623.length:Int) x71_3 a0_0 a0_1 l0_2=some r)∧qaa (kq≤k2)∧qaa (Kd.V k38 38 w' w.heap.size (fun k_=>some k_≠((.slice Ao54 t623.length co54):Value).ownBlock∧k_≠gb607) v611 t610)∧qaa (Kd.R k39 39 w' w.heap.size (fun _=>True) (.slice Ao54 t623.length co54) t623)∧qaa (w'.heap[gb607]?=some (.cells #[.bool a0_0,.int .i64 a0_1,(.slice A0_2 l0_2.length c0_2)] 24 (0,0)))∧qaa (Below w.heap.size w w'))
         case atStart=>exact ⟨(0),(by rfl),H',⟨Nat.le_refl _⟩,⟨by (with_reducible repeat (apply Kd.V_drew));exact Kd.V_mono HO_3.out (fun _ hk=>⟨hk.2,hk.1.2⟩)⟩,⟨by (with_reducible repeat (apply Kd.R_drew));exact HO625.out⟩,⟨by (with_reducible repeat (refine qac ?_));exact BK607.out⟩,⟨by repeat ((with_reducible exact HB.out))⟩⟩
         case round=>
          clear H'
          try clear c24b0
          try clear hcz52_0
          try clear hcz52_1
          try clear hcz52_2
          try clear hfz52_0
          try clear hfz52_1
          try clear hfz52_2
          obtain ⟨x71_3,rfl,HA,HK3,HO_3,HO_69,BK607,HB⟩:=hrel
          cases gk with
          | zero=>exact absurd HA.out (by simp [qab.l1])
          | succ k3=>
           have H:=HA.out
           clear HA
           simp only [qab.l1] at H
           by_cases c55:x71_3<(t623.length:Int)
           ·rw [if_pos c55] at H
            have c55b0:decide (x71_3<(t623.length:Int))=true:=decide_eq_true c55
            clear c55
            by_cases c56:0≤x71_3
            ·rw [if_pos c56] at H
             have c56b0:decide (0≤x71_3)=true:=decide_eq_true c56
             clear c56
             by_cases c57:x71_3<(t623.length:Int)
             ·rw [if_pos c57] at H
              have c57b0:decide (x71_3<(t623.length:Int))=true:=decide_eq_true c57
              clear c57
              replace H:=Option.bind_eq_some_iff.mp H
              obtain ⟨t628,A580,H⟩:=H
              replace H:((qcs.f t628).bind fun t631=>(qab.l2 k3 t610 t623 (t623.length:Int) x71_3 t631 (t631.length:Int) 0 a0_0 a0_1 l0_2 ((qbt t623 x71_3).f0) ((qbt t623 x71_3).f1)))=some r:=H
              have A58:=qaa.mk A580
              clear A580
              replace H:=Option.bind_eq_some_iff.mp H
              obtain ⟨t631,A590,H⟩:=H
              replace H:(qab.l2 k3 t610 t623 (t623.length:Int) x71_3 t631 (t631.length:Int) 0 a0_0 a0_1 l0_2 ((qbt t623 x71_3).f0) ((qbt t623 x71_3).f1))=some r:=H
              have A59:=qaa.mk A590
              clear A590
              have H':=qaa.mk H
              clear H
              have p626:0≤(x71_3:Int):=of_decide_eq_true (by (with_reducible assumption))
              have q626:x71_3<(t623.length:Int):=of_decide_eq_true (by (with_reducible assumption))
              obtain ⟨ad626,e626,hx626_0,hx626_1⟩:=at_T39 (Kd.R_reads' HO_69.out).2.2 x71_3 p626 q626
              cases e626
              replace p626:=eq_true p626
              replace q626:=eq_true q626
              go_wp2_with (first|((with_reducible refine qbr (N:=8) rfl ?_);(try (refine qcw (by rfl) ?_;dsimp only));refine qby ?hg (N:=8) ?hd (cs:=#[.int .i64 0,.int .i64 0]) (t:=39) ?hr ?_;(case hd=>rfl);(case hg=>rfl);(case hr=>(go_simp;done));intro gb627 hg w60 hbox hb;replace HO_3:=qaa.mk (Kd.V_below (Kd.V_elderB (by (with_reducible repeat (apply Kd.V_drew));exact HO_3.out) gb627 (Nat.le_of_eq hg.symm)) hb);replace HO_69:=qaa.mk (Kd.R_below (Kd.R_elderB (by (with_reducible repeat (apply Kd.R_drew));exact HO_69.out) gb627 (Nat.le_of_eq hg.symm)) hb);have BK627:=qaa.mk (hbox);have GW627:=qaa.mk ((by rw [hg];exact (qad HB.out):w.heap.size≤gb627));have GE627:=qaa.mk ((by rw [hg];exact (qad HB.out):w.heap.size≤gb627));replace HB:=qaa.mk (qak HB.out hb);have NB607_627:=qaa.mk ((by rw [hg];exact Nat.ne_of_lt (qbo (g:=gb607) (o:=.cells #[.bool a0_0,.int .i64 a0_1,.slice A0_2 l0_2.length c0_2] 24 (0,0)) (by (with_reducible repeat (refine qac ?_));exact BK607.out)):gb607≠gb627));have NB627_607:=qaa.mk ((by rw [hg];exact Nat.ne_of_gt (qbo (g:=gb607) (o:=.cells #[.bool a0_0,.int .i64 a0_1,.slice A0_2 l0_2.length c0_2] 24 (0,0)) (by (with_reducible repeat (refine qac ?_));exact BK607.out)):gb627≠gb607));replace BK607:=qaa.mk (qaf (g:=gb607) (o:=.cells #[.bool a0_0,.int .i64 a0_1,.slice A0_2 l0_2.length c0_2] 24 (0,0)) (by (with_reducible repeat (refine qac ?_));exact BK607.out) hb);clear hb hbox hg;have hnb61:=NB627_607.out;have hnc61:=NB607_627.out;have hcz62_0:w60.cell? ⟨gb627,0,none⟩=some (.int .i64 0):=(qae BK627.out 0).trans rfl;have hcz62_1:w60.cell? ⟨gb627,1,none⟩=some (.int .i64 0):=(qae BK627.out 1).trans rfl;have hfz62_0:=qai BK627.out 0;have hfz62_1:=qai BK627.out 1;have hcz63_0:w60.cell? ⟨gb607,0,none⟩=some (.bool a0_0):=(qae BK607.out 0).trans rfl;have hcz63_1:w60.cell? ⟨gb607,1,none⟩=some (.int .i64 a0_1):=(qae BK607.out 1).trans rfl;have hcz63_2:w60.cell? ⟨gb607,2,none⟩=some (.slice A0_2 l0_2.length c0_2):=(qae BK607.out 2).trans rfl;have hfz63_0:=qai BK607.out 0;have hfz63_1:=qai BK607.out 1;have hfz63_2:=qai BK607.out 2)|((with_reducible refine qbp (f:=28) rfl ?_);refine qdj (some 77) rfl rfl Tryd.func28 (by kernel_rfl) rfl #[.agg #[.bool a0_0,.int .i64 a0_1,.slice A0_2 l0_2.length c0_2],.agg #[.int .i64 ((qbt t623 x71_3).f0),.int .i64 ((qbt t623 x71_3).f1)]] rfl (by (try simp only [List.map_toArray,List.map_cons,List.map_nil]);rfl) ?_;(with_reducible refine (qbn.calls k3 a0_0 a0_1 _ _ l0_2 ((qbt t623 x71_3).f0) ((qbt t623 x71_3).f1) t628 _ ?side1 ?side2 ?side3 A58.out).mono ?_);(case side1=>exact TabW.below' HTB.out (by repeat ((with_reducible first|exact HB.out|refine qce ?_ GE627.out))));(case side2=>exact Kd.C_below HR0_2.out (by repeat ((with_reducible first|exact HB.out|refine qce ?_ GE627.out))));(case side3=>exact HC0_2.out);rintro e w64 ⟨v629,rfl,ho0,hb⟩;refine ⟨_,rfl,?_⟩;replace HO_3:=qaa.mk (Kd.V_below (by (with_reducible repeat (apply Kd.V_drew));exact (Kd.V_mono (Kd.V_far (p:=⟨gb627,1,none⟩) (Kd.V_far (p:=⟨gb627,0,none⟩) (Kd.V_mono HO_3.out (fun k_ hk=>(⟨hk,hk.2⟩:_∧k_≠gb627))) (fun _ hk=>hk.2) (.int .i64 ((qbt t623 x71_3).f0))) (fun _ hk=>hk.2) (.int .i64 ((qbt t623 x71_3).f1))) (fun _ h_=>h_.1))) hb);have HO630:=qaa.mk (Kd.V_lower (Kd.V_mono (ok':=fun k_=>some k_≠(.slice (some ad626) t623.length co54:Value).ownBlock∧k_≠gb607∧k_≠gb627) ho0 (fun k_ hk_=>⟨(Kd.fresh' (Kd.R_lt (by (with_reducible repeat (apply Kd.R_drew));exact (Kd.R_mono (Kd.R_far (p:=⟨gb627,1,none⟩) (Kd.R_far (p:=⟨gb627,0,none⟩) (Kd.R_mono HO_69.out (fun k_ hk=>(⟨hk,hk.2⟩:_∧k_≠gb627))) (fun _ hk=>hk.2) (.int .i64 ((qbt t623 x71_3).f0))) (fun _ hk=>hk.2) (.int .i64 ((qbt t623 x71_3).f1))) (fun _ h_=>h_.1)))) k_ hk_),(Kd.freshB (g:=gb607) (o:=.cells #[.bool a0_0,.int .i64 a0_1,.slice A0_2 l0_2.length c0_2] 24 (0,0)) (by (with_reducible repeat (refine qac ?_));refine qdk ?_ NB607_627.out _;(with_reducible repeat (refine qac ?_));refine qdk ?_ NB607_627.out _;(with_reducible repeat (refine qac ?_));exact BK607.out) k_ hk_),(Kd.freshB (g:=gb627) (o:=.cells #[.int .i64 ((qbt t623 x71_3).f0),.int .i64 ((qbt t623 x71_3).f1)] 39 (0,0)) (by (with_reducible repeat (refine qac ?_));refine qdc (cs:=#[.int .i64 ((qbt t623 x71_3).f0),.int .i64 0]) ?_ 1 _ rfl;(with_reducible repeat (refine qac ?_));refine qdc (cs:=#[.int .i64 0,.int .i64 0]) ?_ 0 _ rfl;(with_reducible repeat (refine qac ?_));exact BK627.out) k_ hk_)⟩)) (qad (by repeat ((with_reducible first|exact HB.out|refine qce ?_ GE627.out)))));replace HO_69:=qaa.mk (Kd.R_below (by (with_reducible repeat (apply Kd.R_drew));exact (Kd.R_mono (Kd.R_far (p:=⟨gb627,1,none⟩) (Kd.R_far (p:=⟨gb627,0,none⟩) (Kd.R_mono HO_69.out (fun k_ hk=>(⟨hk,hk.2⟩:_∧k_≠gb627))) (fun _ hk=>hk.2) (.int .i64 ((qbt t623 x71_3).f0))) (fun _ hk=>hk.2) (.int .i64 ((qbt t623 x71_3).f1))) (fun _ h_=>h_.1))) hb);replace BK607:=qaa.mk (qaf (g:=gb607) (o:=.cells #[.bool a0_0,.int .i64 a0_1,.slice A0_2 l0_2.length c0_2] 24 (0,0)) (by (with_reducible repeat (refine qac ?_));refine qdk ?_ NB607_627.out _;(with_reducible repeat (refine qac ?_));refine qdk ?_ NB607_627.out _;(with_reducible repeat (refine qac ?_));exact BK607.out) hb);replace BK627:=qaa.mk (qaf (g:=gb627) (o:=.cells #[.int .i64 ((qbt t623 x71_3).f0),.int .i64 ((qbt t623 x71_3).f1)] 39 (0,0)) (by (with_reducible repeat (refine qac ?_));refine qdc (cs:=#[.int .i64 ((qbt t623 x71_3).f0),.int .i64 0]) ?_ 1 _ rfl;(with_reducible repeat (refine qac ?_));refine qdc (cs:=#[.int .i64 0,.int .i64 0]) ?_ 0 _ rfl;(with_reducible repeat (refine qac ?_));exact BK627.out) hb);replace HB:=qaa.mk (qak (by repeat ((with_reducible first|exact HB.out|refine qce ?_ GE627.out))) hb);(try clear hb);(try clear ho0);obtain ⟨Ao65,co65,eo65⟩:=Kd.V_slice HO630.out;subst eo65)|((with_reducible refine qbp (f:=23) rfl ?_);refine qdj (some 78) rfl rfl Tryd.func23 (by kernel_rfl) rfl #[.agg #[.slice Ao65 t628.length co65]] rfl (by (try simp only [List.map_toArray,List.map_cons,List.map_nil]);rfl) ?_;(with_reducible refine (qcs.calls _ _ t628 t631 _ ?side1 ?side2 ?side3 A59.out).mono ?_);(case side1=>exact TabW.below' HTB.out HB.out);(case side2=>repeat (exact (Kd.V_reads' HO630.out).2.2));(case side3=>exact (Kd.V_reads' HO630.out).2.1);rintro e w66 ⟨v632,rfl,ho0,hb⟩;refine ⟨_,rfl,?_⟩;replace HO_3:=qaa.mk (Kd.V_elder' (by (with_reducible repeat (apply Kd.V_drew));exact HO_3.out) (Kd.R_base ho0) hb);replace HO_69:=qaa.mk (Kd.R_below (by (with_reducible repeat (apply Kd.R_drew));exact HO_69.out) hb);replace HO630:=qaa.mk (Kd.V_elder' (by (with_reducible repeat (apply Kd.V_drew));exact HO630.out) (Kd.R_base ho0) hb);have HO633:=qaa.mk (Kd.R_lower ho0 (qad HB.out));replace BK607:=qaa.mk (qaf (g:=gb607) (o:=.cells #[.bool a0_0,.int .i64 a0_1,.slice A0_2 l0_2.length c0_2] 24 (0,0)) (by (with_reducible repeat (refine qac ?_));exact BK607.out) hb);replace BK627:=qaa.mk (qaf (g:=gb627) (o:=.cells #[.int .i64 ((qbt t623 x71_3).f0),.int .i64 ((qbt t623 x71_3).f1)] 39 (0,0)) (by (with_reducible repeat (refine qac ?_));exact BK627.out) hb);replace HB:=qaa.mk (qak HB.out hb);(try clear hb);(try clear ho0);obtain ⟨Ao67,co67,eo67⟩:=Kd.R_slice HO633.out;subst eo67))
              go_loopg [80] k3 (fun kq v80 w'=>∃ (x80_4:Int),v80=.int .i64 x80_4∧qaa (qab.l2 kq t610 t623 (t623.length:Int) x71_3 t631 (t631.length:Int) x80_4 a0_0 a0_1 l0_2 ((qbt t623 x71_3).f0) ((qbt t623 x71_3).f1)=some r)∧qaa (kq≤k3)∧qaa (Kd.V k38 38 w' w.heap.size (fun k_=>some k_≠((.slice (some ad626) t623.length co54):Value).ownBlock∧some k_≠((.slice Ao67 t631.length co67):Value).ownBlock∧k_≠gb607∧k_≠gb627) v611 t610)∧qaa (Kd.R k39 39 w' w.heap.size (fun k_=>k_≠gb627) (.slice (some ad626) t623.length co54) t623)∧qaa (Kd.R (Kd.int .i64) 3 w' w.heap.size (fun _=>True) (.slice Ao67 t631.length co67) t631)∧qaa (w'.heap[gb607]?=some (.cells #[.bool a0_0,.int .i64 a0_1,(.slice A0_2 l0_2.length c0_2)] 24 (0,0)))∧qaa (w'.heap[gb627]?=some (.cells #[.int .i64 ((qbt t623 x71_3).f0),.int .i64 ((qbt t623 x71_3).f1)] 39 (0,0)))∧qaa (Below w.heap.size w w'))
              case atStart=>exact ⟨(0),(by rfl),H',⟨Nat.le_refl _⟩,⟨by (with_reducible repeat (apply Kd.V_drew));exact Kd.V_mono HO_3.out (fun _ hk=>⟨hk.1.1.1,⟨hk.2,⟨hk.1.1.2,hk.1.2⟩⟩⟩)⟩,⟨by (with_reducible repeat (apply Kd.R_drew));exact Kd.R_mono HO_69.out (fun _ hk=>hk.2)⟩,⟨by (with_reducible repeat (apply Kd.R_drew));exact HO633.out⟩,⟨by (with_reducible repeat (refine qac ?_));exact BK607.out⟩,⟨by (with_reducible repeat (refine qac ?_));exact BK627.out⟩,⟨by repeat ((with_reducible exact HB.out))⟩⟩
              case round=>
               clear H'
               try clear c55b0
               try clear c56b0
               try clear c57b0
               try clear hcz62_0
               try clear hcz62_1
               try clear hcz63_0
               try clear hcz63_1
               try clear hcz63_2
               try clear hfz62_0
               try clear hfz62_1
               try clear hfz63_0
               try clear hfz63_1
               try clear hfz63_2
               try clear hx626_0
               try clear hx626_1
               try clear p626
               try clear q626
               obtain ⟨x80_4,rfl,HA,HK4,HO_3,HO_69,HO_78,BK607,BK627,HB⟩:=hrel
               cases gk with
               | zero=>exact absurd HA.out (by simp [qab.l2])
               | succ k4=>
                have H:=HA.out
                clear HA
                simp only [qab.l2] at H
                by_cases c68:x80_4<(t631.length:Int)
                ·rw [if_pos c68] at H
                 have c68b0:decide (x80_4<(t631.length:Int))=true:=decide_eq_true c68
                 clear c68
                 by_cases c69:0≤x80_4
                 ·rw [if_pos c69] at H
                  have c69b0:decide (0≤x80_4)=true:=decide_eq_true c69
                  clear c69
                  by_cases c70:x80_4<(t631.length:Int)
                  ·rw [if_pos c70] at H
                   have c70b0:decide (x80_4<(t631.length:Int))=true:=decide_eq_true c70
                   clear c70
                   by_cases c71:(rd t631 x80_4)<0
                   ·rw [if_pos c71] at H
                    have c71b0:decide ((rd t631 x80_4)<0)=true:=decide_eq_true c71
                    clear c71
                    obtain rfl:=Option.some.inj H
                    have p634:0≤(x80_4:Int):=of_decide_eq_true (by (with_reducible assumption))
                    have q634:x80_4<(t631.length:Int):=of_decide_eq_true (by (with_reducible assumption))
                    obtain ⟨ad634,e634,hx634_0⟩:=Kd.at_int (Kd.R_reads' HO_78.out).2.2 x80_4 p634 q634
                    cases e634
                    replace p634:=eq_true p634
                    replace q634:=eq_true q634
                    try go_wp2
                    have n0_:=qaa.mk (Kd.V_drew HO_3.out)
                    have n1_:=qaa.mk (Kd.R_drew HO_69.out)
                    have n2_:=qaa.mk (Kd.R_drew HO_78.out)
                    have n3_:=qaa.mk (qac BK607.out)
                    have n4_:=qaa.mk (qac BK627.out)
                    have n5_:=qaa.mk (qcx HB.out)
                    clear HO_3
                    clear HO_69
                    clear HO_78
                    clear BK607
                    clear BK627
                    clear HB
                    have HO_3:=n0_
                    have HO_69:=n1_
                    have HO_78:=n2_
                    have BK607:=n3_
                    have BK627:=n4_
                    have HB:=n5_
                    clear n0_ n1_ n2_ n3_ n4_ n5_
                    refine qew (n:=18) (S:=fun w'=>True) (ds:=[]) #[false,false,false,false,false,false,false,false,false,false,false,false,false,false,false,false,false,false] (by kernel_rfl) rfl rfl trivial (fun hHeld=>?_);refine qdp qab.tab21 qab.bits21 (fun HT_ HW_=>?_)
                    generalize wr.drew=w72 at HO_3 HO_69 HO_78 BK607 BK627 HB hHeld ⊢
                    refine qbg (i:=0) (N:=some 84) (v:=?_) (a':=?_) #[true,false,false,false,false,false,false,false,false,false,false,false,false,false,false,false,false,false] rfl rfl (qau HT_.out (by kernel_rfl)) (fun _ _ _ h=>h) (Or.inl ⟨by rfl,?_⟩) ?_ ?_
                    rotate_left
                    ·intro w'
                     go_simp
                     with_reducible rfl
                    rotate_left
                    ·simp only [Act.put,List.setIfInBounds_toArray,List.set_cons_zero,List.set_cons_succ,qas,qat]
                     rfl
                    refine qbg (i:=1) (N:=some 85) (v:=?_) (a':=?_) #[true,true,false,false,false,false,false,false,false,false,false,false,false,false,false,false,false,false] rfl rfl (qau HT_.out (by kernel_rfl)) (fun _ _ _ h=>h) (Or.inl ⟨by rfl,?_⟩) ?_ ?_
                    rotate_left
                    ·intro w'
                     go_simp
                     with_reducible rfl
                    rotate_left
                    ·simp only [Act.put,List.setIfInBounds_toArray,List.set_cons_zero,List.set_cons_succ,qas,qat]
                     rfl
                    refine qbg (i:=2) (N:=some 86) (v:=?_) (a':=?_) #[true,true,true,false,false,false,false,false,false,false,false,false,false,false,false,false,false,false] rfl rfl (qau HT_.out (by kernel_rfl)) (fun _ _ _ h=>h) (Or.inl ⟨by rfl,?_⟩) ?_ ?_
                    rotate_left
                    ·intro w'
                     go_simp
                     with_reducible rfl
                    rotate_left
                    ·simp only [Act.put,List.setIfInBounds_toArray,List.set_cons_zero,List.set_cons_succ,qas,qat]
                     rfl
                    refine qbg (i:=3) (N:=some 87) (v:=undef) (a':=?_) #[true,true,true,true,false,false,false,false,false,false,false,false,false,false,false,false,false,false] rfl rfl (qau HT_.out (by kernel_rfl)) (fun _ _ _ h=>h) (Or.inr ⟨by rfl,rfl⟩) ?_ ?_
                    rotate_left
                    ·simp only [Act.put,List.setIfInBounds_toArray,List.set_cons_zero,List.set_cons_succ,qas,qat]
                     rfl
                    refine qbg (i:=4) (N:=some 88) (v:=undef) (a':=?_) #[true,true,true,true,true,false,false,false,false,false,false,false,false,false,false,false,false,false] rfl rfl (qau HT_.out (by kernel_rfl)) (fun _ _ _ h=>h) (Or.inr ⟨by rfl,rfl⟩) ?_ ?_
                    rotate_left
                    ·simp only [Act.put,List.setIfInBounds_toArray,List.set_cons_zero,List.set_cons_succ,qas,qat]
                     rfl
                    refine qbg (i:=5) (N:=some 89) (v:=undef) (a':=?_) #[true,true,true,true,true,true,false,false,false,false,false,false,false,false,false,false,false,false] rfl rfl (qau HT_.out (by kernel_rfl)) (fun _ _ _ h=>h) (Or.inr ⟨by rfl,rfl⟩) ?_ ?_
                    rotate_left
                    ·simp only [Act.put,List.setIfInBounds_toArray,List.set_cons_zero,List.set_cons_succ,qas,qat]
                     rfl
                    refine qbg (i:=6) (N:=some 90) (v:=undef) (a':=?_) #[true,true,true,true,true,true,true,false,false,false,false,false,false,false,false,false,false,false] rfl rfl (qau HT_.out (by kernel_rfl)) (fun _ _ _ h=>h) (Or.inr ⟨by rfl,rfl⟩) ?_ ?_
                    rotate_left
                    ·simp only [Act.put,List.setIfInBounds_toArray,List.set_cons_zero,List.set_cons_succ,qas,qat]
                     rfl
                    refine qbg (i:=7) (N:=some 91) (v:=?_) (a':=?_) #[true,true,true,true,true,true,true,true,false,false,false,false,false,false,false,false,false,false] rfl rfl (qau HT_.out (by kernel_rfl)) (fun _ _ _ h=>h) (Or.inl ⟨by rfl,?_⟩) ?_ ?_
                    rotate_left
                    ·intro w'
                     go_simp
                     with_reducible rfl
                    rotate_left
                    ·simp only [Act.put,List.setIfInBounds_toArray,List.set_cons_zero,List.set_cons_succ,qas,qat]
                     rfl
                    refine qbg (i:=8) (N:=some 92) (v:=?_) (a':=?_) #[true,true,true,true,true,true,true,true,true,false,false,false,false,false,false,false,false,false] rfl rfl (qau HT_.out (by kernel_rfl)) (fun _ _ _ h=>h) (Or.inl ⟨by rfl,?_⟩) ?_ ?_
                    rotate_left
                    ·intro w'
                     go_simp
                     with_reducible rfl
                    rotate_left
                    ·simp only [Act.put,List.setIfInBounds_toArray,List.set_cons_zero,List.set_cons_succ,qas,qat]
                     rfl
                    refine qbg (i:=9) (N:=some 93) (v:=undef) (a':=?_) #[true,true,true,true,true,true,true,true,true,true,false,false,false,false,false,false,false,false] rfl rfl (qau HT_.out (by kernel_rfl)) (fun _ _ _ h=>h) (Or.inr ⟨by rfl,rfl⟩) ?_ ?_
                    rotate_left
                    ·simp only [Act.put,List.setIfInBounds_toArray,List.set_cons_zero,List.set_cons_succ,qas,qat]
                     rfl
                    refine qbg (i:=10) (N:=some 94) (v:=undef) (a':=?_) #[true,true,true,true,true,true,true,true,true,true,true,false,false,false,false,false,false,false] rfl rfl (qau HT_.out (by kernel_rfl)) (fun _ _ _ h=>h) (Or.inr ⟨by rfl,rfl⟩) ?_ ?_
                    rotate_left
                    ·simp only [Act.put,List.setIfInBounds_toArray,List.set_cons_zero,List.set_cons_succ,qas,qat]
                     rfl
                    refine qbg (i:=11) (N:=some 95) (v:=undef) (a':=?_) #[true,true,true,true,true,true,true,true,true,true,true,true,false,false,false,false,false,false] rfl rfl (qau HT_.out (by kernel_rfl)) (fun _ _ _ h=>h) (Or.inr ⟨by rfl,rfl⟩) ?_ ?_
                    rotate_left
                    ·simp only [Act.put,List.setIfInBounds_toArray,List.set_cons_zero,List.set_cons_succ,qas,qat]
                     rfl
                    refine qbg (i:=12) (N:=some 96) (v:=undef) (a':=?_) #[true,true,true,true,true,true,true,true,true,true,true,true,true,false,false,false,false,false] rfl rfl (qau HT_.out (by kernel_rfl)) (fun _ _ _ h=>h) (Or.inr ⟨by rfl,rfl⟩) ?_ ?_
                    rotate_left
                    ·simp only [Act.put,List.setIfInBounds_toArray,List.set_cons_zero,List.set_cons_succ,qas,qat]
                     rfl
                    refine qbg (i:=13) (N:=some 97) (v:=undef) (a':=?_) #[true,true,true,true,true,true,true,true,true,true,true,true,true,true,false,false,false,false] rfl rfl (qau HT_.out (by kernel_rfl)) (fun _ _ _ h=>h) (Or.inr ⟨by rfl,rfl⟩) ?_ ?_
                    rotate_left
                    ·simp only [Act.put,List.setIfInBounds_toArray,List.set_cons_zero,List.set_cons_succ,qas,qat]
                     rfl
                    refine qbg (i:=14) (N:=some 98) (v:=undef) (a':=?_) #[true,true,true,true,true,true,true,true,true,true,true,true,true,true,true,false,false,false] rfl rfl (qau HT_.out (by kernel_rfl)) (fun _ _ _ h=>h) (Or.inr ⟨by rfl,rfl⟩) ?_ ?_
                    rotate_left
                    ·simp only [Act.put,List.setIfInBounds_toArray,List.set_cons_zero,List.set_cons_succ,qas,qat]
                     rfl
                    refine qbg (i:=15) (N:=some 99) (v:=undef) (a':=?_) #[true,true,true,true,true,true,true,true,true,true,true,true,true,true,true,true,false,false] rfl rfl (qau HT_.out (by kernel_rfl)) (fun _ _ _ h=>h) (Or.inr ⟨by rfl,rfl⟩) ?_ ?_
                    rotate_left
                    ·simp only [Act.put,List.setIfInBounds_toArray,List.set_cons_zero,List.set_cons_succ,qas,qat]
                     rfl
                    refine qbg (i:=16) (N:=some 100) (v:=undef) (a':=?_) #[true,true,true,true,true,true,true,true,true,true,true,true,true,true,true,true,true,false] rfl rfl (qau HT_.out (by kernel_rfl)) (fun _ _ _ h=>h) (Or.inr ⟨by rfl,rfl⟩) ?_ ?_
                    rotate_left
                    ·simp only [Act.put,List.setIfInBounds_toArray,List.set_cons_zero,List.set_cons_succ,qas,qat]
                     rfl
                    refine qbg (i:=17) (N:=some 101) (v:=?_) (a':=?_) #[true,true,true,true,true,true,true,true,true,true,true,true,true,true,true,true,true,true] rfl rfl (qau HT_.out (by kernel_rfl)) (fun _ _ _ h=>h) (Or.inl ⟨by rfl,?_⟩) ?_ ?_
                    rotate_left
                    ·intro w'
                     go_simp
                     with_reducible rfl
                    rotate_left
                    ·simp only [Act.put,List.setIfInBounds_toArray,List.set_cons_zero,List.set_cons_succ,qas,qat]
                     rfl
                    refine qfl (qej HT_.out (by kernel_rfl)) ?_
                    try go_wp2
                    go_ret
                    exact ⟨by rfl,by repeat ((with_reducible exact HB.out))⟩
                   ·rw [if_neg c71] at H
                    have c71b0:decide ((rd t631 x80_4)<0)=false:=decide_eq_false c71
                    clear c71
                    by_cases c73:(rd t631 x80_4)≥(t610.length:Int)
                    ·rw [if_pos c73] at H
                     have c73b0:decide ((t610.length:Int)≤(rd t631 x80_4))=true:=decide_eq_true c73
                     clear c73
                     obtain rfl:=Option.some.inj H
                     have p634:0≤(x80_4:Int):=of_decide_eq_true (by (with_reducible assumption))
                     have q634:x80_4<(t631.length:Int):=of_decide_eq_true (by (with_reducible assumption))
                     obtain ⟨ad634,e634,hx634_0⟩:=Kd.at_int (Kd.R_reads' HO_78.out).2.2 x80_4 p634 q634
                     cases e634
                     replace p634:=eq_true p634
                     replace q634:=eq_true q634
                     try go_wp2
                     have n0_:=qaa.mk (Kd.V_drew HO_3.out)
                     have n1_:=qaa.mk (Kd.R_drew HO_69.out)
                     have n2_:=qaa.mk (Kd.R_drew HO_78.out)
                     have n3_:=qaa.mk (qac BK607.out)
                     have n4_:=qaa.mk (qac BK627.out)
                     have n5_:=qaa.mk (qcx HB.out)
                     clear HO_3
                     clear HO_69
                     clear HO_78
                     clear BK607
                     clear BK627
                     clear HB
                     have HO_3:=n0_
                     have HO_69:=n1_
                     have HO_78:=n2_
                     have BK607:=n3_
                     have BK627:=n4_
                     have HB:=n5_
                     clear n0_ n1_ n2_ n3_ n4_ n5_
                     obtain ⟨Ao75,co75,eo75⟩:=Kd.V_slice HO_3.out
                     (subst eo75)
                     refine qew (n:=18) (S:=fun w'=>True) (ds:=[]) #[false,false,false,false,false,false,false,false,false,false,false,false,false,false,false,false,false,false] (by kernel_rfl) rfl rfl trivial (fun hHeld=>?_);refine qdp qab.tab21 qab.bits21 (fun HT_ HW_=>?_)
                     generalize wr.drew=w74 at HO_3 HO_69 HO_78 BK607 BK627 HB hHeld ⊢
                     refine qbg (i:=0) (N:=some 84) (v:=?_) (a':=?_) #[true,false,false,false,false,false,false,false,false,false,false,false,false,false,false,false,false,false] rfl rfl (qau HT_.out (by kernel_rfl)) (fun _ _ _ h=>h) (Or.inl ⟨by rfl,?_⟩) ?_ ?_
                     rotate_left
                     ·intro w'
                      go_simp
                      with_reducible rfl
                     rotate_left
                     ·simp only [Act.put,List.setIfInBounds_toArray,List.set_cons_zero,List.set_cons_succ,qas,qat]
                      rfl
                     refine qbg (i:=1) (N:=some 85) (v:=?_) (a':=?_) #[true,true,false,false,false,false,false,false,false,false,false,false,false,false,false,false,false,false] rfl rfl (qau HT_.out (by kernel_rfl)) (fun _ _ _ h=>h) (Or.inl ⟨by rfl,?_⟩) ?_ ?_
                     rotate_left
                     ·intro w'
                      go_simp
                      with_reducible rfl
                     rotate_left
                     ·simp only [Act.put,List.setIfInBounds_toArray,List.set_cons_zero,List.set_cons_succ,qas,qat]
                      rfl
                     refine qbg (i:=2) (N:=some 86) (v:=?_) (a':=?_) #[true,true,true,false,false,false,false,false,false,false,false,false,false,false,false,false,false,false] rfl rfl (qau HT_.out (by kernel_rfl)) (fun _ _ _ h=>h) (Or.inl ⟨by rfl,?_⟩) ?_ ?_
                     rotate_left
                     ·intro w'
                      go_simp
                      with_reducible rfl
                     rotate_left
                     ·simp only [Act.put,List.setIfInBounds_toArray,List.set_cons_zero,List.set_cons_succ,qas,qat]
                      rfl
                     refine qbg (i:=3) (N:=some 87) (v:=?_) (a':=?_) #[true,true,true,true,false,false,false,false,false,false,false,false,false,false,false,false,false,false] rfl rfl (qau HT_.out (by kernel_rfl)) (fun _ _ _ h=>h) (Or.inl ⟨by rfl,?_⟩) ?_ ?_
                     rotate_left
                     ·intro w'
                      go_simp
                      with_reducible rfl
                     rotate_left
                     ·simp only [Act.put,List.setIfInBounds_toArray,List.set_cons_zero,List.set_cons_succ,qas,qat]
                      rfl
                     refine qbg (i:=4) (N:=some 88) (v:=?_) (a':=?_) #[true,true,true,true,true,false,false,false,false,false,false,false,false,false,false,false,false,false] rfl rfl (qau HT_.out (by kernel_rfl)) (fun _ _ _ h=>h) (Or.inl ⟨by rfl,?_⟩) ?_ ?_
                     rotate_left
                     ·intro w'
                      go_simp
                      with_reducible rfl
                     rotate_left
                     ·simp only [Act.put,List.setIfInBounds_toArray,List.set_cons_zero,List.set_cons_succ,qas,qat]
                      rfl
                     refine qbg (i:=5) (N:=some 89) (v:=?_) (a':=?_) #[true,true,true,true,true,true,false,false,false,false,false,false,false,false,false,false,false,false] rfl rfl (qau HT_.out (by kernel_rfl)) (fun _ _ _ h=>h) (Or.inl ⟨by rfl,?_⟩) ?_ ?_
                     rotate_left
                     ·intro w'
                      go_simp
                      with_reducible rfl
                     rotate_left
                     ·simp only [Act.put,List.setIfInBounds_toArray,List.set_cons_zero,List.set_cons_succ,qas,qat]
                      rfl
                     refine qbg (i:=6) (N:=some 90) (v:=?_) (a':=?_) #[true,true,true,true,true,true,true,false,false,false,false,false,false,false,false,false,false,false] rfl rfl (qau HT_.out (by kernel_rfl)) (fun _ _ _ h=>h) (Or.inl ⟨by rfl,?_⟩) ?_ ?_
                     rotate_left
                     ·intro w'
                      go_simp
                      with_reducible rfl
                     rotate_left
                     ·simp only [Act.put,List.setIfInBounds_toArray,List.set_cons_zero,List.set_cons_succ,qas,qat]
                      rfl
                     refine qbg (i:=7) (N:=some 91) (v:=?_) (a':=?_) #[true,true,true,true,true,true,true,true,false,false,false,false,false,false,false,false,false,false] rfl rfl (qau HT_.out (by kernel_rfl)) (fun _ _ _ h=>h) (Or.inl ⟨by rfl,?_⟩) ?_ ?_
                     rotate_left
                     ·intro w'
                      go_simp
                      with_reducible rfl
                     rotate_left
                     ·simp only [Act.put,List.setIfInBounds_toArray,List.set_cons_zero,List.set_cons_succ,qas,qat]
                      rfl
                     refine qbg (i:=8) (N:=some 92) (v:=?_) (a':=?_) #[true,true,true,true,true,true,true,true,true,false,false,false,false,false,false,false,false,false] rfl rfl (qau HT_.out (by kernel_rfl)) (fun _ _ _ h=>h) (Or.inl ⟨by rfl,?_⟩) ?_ ?_
                     rotate_left
                     ·intro w'
                      go_simp
                      with_reducible rfl
                     rotate_left
                     ·simp only [Act.put,List.setIfInBounds_toArray,List.set_cons_zero,List.set_cons_succ,qas,qat]
                      rfl
                     refine qbg (i:=9) (N:=some 93) (v:=undef) (a':=?_) #[true,true,true,true,true,true,true,true,true,true,false,false,false,false,false,false,false,false] rfl rfl (qau HT_.out (by kernel_rfl)) (fun _ _ _ h=>h) (Or.inr ⟨by rfl,rfl⟩) ?_ ?_
                     rotate_left
                     ·simp only [Act.put,List.setIfInBounds_toArray,List.set_cons_zero,List.set_cons_succ,qas,qat]
                      rfl
                     refine qbg (i:=10) (N:=some 94) (v:=undef) (a':=?_) #[true,true,true,true,true,true,true,true,true,true,true,false,false,false,false,false,false,false] rfl rfl (qau HT_.out (by kernel_rfl)) (fun _ _ _ h=>h) (Or.inr ⟨by rfl,rfl⟩) ?_ ?_
                     rotate_left
                     ·simp only [Act.put,List.setIfInBounds_toArray,List.set_cons_zero,List.set_cons_succ,qas,qat]
                      rfl
                     refine qbg (i:=11) (N:=some 95) (v:=undef) (a':=?_) #[true,true,true,true,true,true,true,true,true,true,true,true,false,false,false,false,false,false] rfl rfl (qau HT_.out (by kernel_rfl)) (fun _ _ _ h=>h) (Or.inr ⟨by rfl,rfl⟩) ?_ ?_
                     rotate_left
                     ·simp only [Act.put,List.setIfInBounds_toArray,List.set_cons_zero,List.set_cons_succ,qas,qat]
                      rfl
                     refine qbg (i:=12) (N:=some 96) (v:=undef) (a':=?_) #[true,true,true,true,true,true,true,true,true,true,true,true,true,false,false,false,false,false] rfl rfl (qau HT_.out (by kernel_rfl)) (fun _ _ _ h=>h) (Or.inr ⟨by rfl,rfl⟩) ?_ ?_
                     rotate_left
                     ·simp only [Act.put,List.setIfInBounds_toArray,List.set_cons_zero,List.set_cons_succ,qas,qat]
                      rfl
                     refine qbg (i:=13) (N:=some 97) (v:=undef) (a':=?_) #[true,true,true,true,true,true,true,true,true,true,true,true,true,true,false,false,false,false] rfl rfl (qau HT_.out (by kernel_rfl)) (fun _ _ _ h=>h) (Or.inr ⟨by rfl,rfl⟩) ?_ ?_
                     rotate_left
                     ·simp only [Act.put,List.setIfInBounds_toArray,List.set_cons_zero,List.set_cons_succ,qas,qat]
                      rfl
                     refine qbg (i:=14) (N:=some 98) (v:=undef) (a':=?_) #[true,true,true,true,true,true,true,true,true,true,true,true,true,true,true,false,false,false] rfl rfl (qau HT_.out (by kernel_rfl)) (fun _ _ _ h=>h) (Or.inr ⟨by rfl,rfl⟩) ?_ ?_
                     rotate_left
                     ·simp only [Act.put,List.setIfInBounds_toArray,List.set_cons_zero,List.set_cons_succ,qas,qat]
                      rfl
                     refine qbg (i:=15) (N:=some 99) (v:=undef) (a':=?_) #[true,true,true,true,true,true,true,true,true,true,true,true,true,true,true,true,false,false] rfl rfl (qau HT_.out (by kernel_rfl)) (fun _ _ _ h=>h) (Or.inr ⟨by rfl,rfl⟩) ?_ ?_
                     rotate_left
                     ·simp only [Act.put,List.setIfInBounds_toArray,List.set_cons_zero,List.set_cons_succ,qas,qat]
                      rfl
                     refine qbg (i:=16) (N:=some 100) (v:=undef) (a':=?_) #[true,true,true,true,true,true,true,true,true,true,true,true,true,true,true,true,true,false] rfl rfl (qau HT_.out (by kernel_rfl)) (fun _ _ _ h=>h) (Or.inr ⟨by rfl,rfl⟩) ?_ ?_
                     rotate_left
                     ·simp only [Act.put,List.setIfInBounds_toArray,List.set_cons_zero,List.set_cons_succ,qas,qat]
                      rfl
                     refine qbg (i:=17) (N:=some 101) (v:=?_) (a':=?_) #[true,true,true,true,true,true,true,true,true,true,true,true,true,true,true,true,true,true] rfl rfl (qau HT_.out (by kernel_rfl)) (fun _ _ _ h=>h) (Or.inl ⟨by rfl,?_⟩) ?_ ?_
                     rotate_left
                     ·intro w'
                      go_simp
                      with_reducible rfl
                     rotate_left
                     ·simp only [Act.put,List.setIfInBounds_toArray,List.set_cons_zero,List.set_cons_succ,qas,qat]
                      rfl
                     refine qfl (qej HT_.out (by kernel_rfl)) ?_
                     try go_wp2
                     go_ret
                     exact ⟨by rfl,by repeat ((with_reducible exact HB.out))⟩
                    ·rw [if_neg c73] at H
                     have c73b0:decide ((t610.length:Int)≤(rd t631 x80_4))=false:=decide_eq_false c73
                     clear c73
                     by_cases c76:0≤(rd t631 x80_4)
                     ·rw [if_pos c76] at H
                      have c76b0:decide (0≤(rd t631 x80_4))=true:=decide_eq_true c76
                      clear c76
                      by_cases c77:(rd t631 x80_4)<(t610.length:Int)
                      ·rw [if_pos c77] at H
                       have c77b0:decide ((rd t631 x80_4)<(t610.length:Int))=true:=decide_eq_true c77
                       clear c77
                       replace H:=Option.bind_eq_some_iff.mp H
                       obtain ⟨t636,A780,H⟩:=H
                       replace H:(if t636=true then (qab.l2 k4 t610 t623 (t623.length:Int) x71_3 t631 (t631.length:Int) (wrap64 (x80_4+1)) a0_0 a0_1 l0_2 ((qbt t623 x71_3).f0) ((qbt t623 x71_3).f1)) else (some false))=some r:=H
                       have A78:=qaa.mk A780
                       clear A780
                       by_cases c79:t636=true
                       ·subst c79
                        have H1:(qab.l2 k4 t610 t623 (t623.length:Int) x71_3 t631 (t631.length:Int) (wrap64 (x80_4+1)) a0_0 a0_1 l0_2 ((qbt t623 x71_3).f0) ((qbt t623 x71_3).f1))=some r:=by rw [if_pos rfl] at H;exact H
                        clear H
                        have H:=H1
                        clear H1
                        have H':=qaa.mk H
                        clear H
                        have p634:0≤(x80_4:Int):=of_decide_eq_true (by (with_reducible assumption))
                        have q634:x80_4<(t631.length:Int):=of_decide_eq_true (by (with_reducible assumption))
                        obtain ⟨ad634,e634,hx634_0⟩:=Kd.at_int (Kd.R_reads' HO_78.out).2.2 x80_4 p634 q634
                        cases e634
                        replace p634:=eq_true p634
                        replace q634:=eq_true q634
                        try go_wp2
                        have n0_:=qaa.mk (Kd.V_drew HO_3.out)
                        have n1_:=qaa.mk (Kd.R_drew HO_69.out)
                        have n2_:=qaa.mk (Kd.R_drew HO_78.out)
                        have n3_:=qaa.mk (qac BK607.out)
                        have n4_:=qaa.mk (qac BK627.out)
                        have n5_:=qaa.mk (qcx HB.out)
                        clear HO_3
                        clear HO_69
                        clear HO_78
                        clear BK607
                        clear BK627
                        clear HB
                        have HO_3:=n0_
                        have HO_69:=n1_
                        have HO_78:=n2_
                        have BK607:=n3_
                        have BK627:=n4_
                        have HB:=n5_
                        clear n0_ n1_ n2_ n3_ n4_ n5_
                        obtain ⟨Ao81,co81,eo81⟩:=Kd.V_slice HO_3.out
                        (subst eo81)
                        have p635:0≤((rd t631 x80_4):Int):=of_decide_eq_true (by (with_reducible assumption))
                        have q635:(rd t631 x80_4)<(t610.length:Int):=of_decide_eq_true (by (with_reducible assumption))
                        obtain ⟨ad635,A635_0,c635_0,e635,hx635_0,hl635_0,hi635_0⟩:=at_T38 (Kd.V_reads' HO_3.out).2.2 (rd t631 x80_4) p635 q635
                        cases e635
                        obtain ⟨ce635,hce635,hMe635,hcc635⟩:=Kd.V_get HO_3.out z38 (rd t631 x80_4) p635 (by exact q635)
                        obtain ⟨ua635_0,uc635_0,rfl,ul635_0,ge635_0⟩:=qes hMe635
                        have hv635_0:=hcc635 0 _ rfl
                        rw [Nat.add_zero,show (k38).sz=1 from rfl,Nat.mul_one] at hv635_0
                        replace hv635_0:=Option.some.inj (hv635_0.symm.trans hx635_0)
                        injection hv635_0 with hva_ hvn_ hvc_
                        rw [hva_] at ge635_0
                        rw [hvc_] at ul635_0
                        have HL635_0:=qaa.mk (show Kd.V (Kd.int .u64) 77 _ w.heap.size _ _ ((qcd t610 (rd t631 x80_4)).f0) from Kd.V_mk ul635_0 ge635_0)
                        clear hva_ hvn_ hvc_ ge635_0 ul635_0
                        clear hcc635 hce635
                        have HR635_0:=qaa.mk hi635_0
                        have HC635_0:=qaa.mk hl635_0
                        clear hi635_0 hl635_0
                        replace p635:=eq_true p635
                        replace q635:=eq_true q635
                        refine qew (n:=18) (S:=fun w'=>w'.cell? ⟨gb627,0,none⟩=some (.int .i64 ((qbt t623 x71_3).f0))∧w'.cell? ⟨gb627,1,none⟩=some (.int .i64 ((qbt t623 x71_3).f1))∧w'.cell? (ad635.add ((rd t631 x80_4)).toNat)=some (.slice A635_0 ((qcd t610 (rd t631 x80_4)).f0).length c635_0)) (ds:=[]) #[false,false,false,false,false,false,false,false,false,false,false,false,false,false,false,false,false,false] (by kernel_rfl) rfl rfl ⟨(qae BK627.out 0).trans rfl,(qae BK627.out 1).trans rfl,hx635_0⟩ (fun hHeld=>?_);refine qdp qab.tab21 qab.bits21 (fun HT_ HW_=>?_)
                        generalize wr.drew=w80 at HO_3 HO_69 HO_78 BK607 BK627 HB HL635_0 HR635_0 hx635_0 hHeld ⊢
                        refine qbg (i:=0) (N:=some 84) (v:=?_) (a':=?_) #[true,false,false,false,false,false,false,false,false,false,false,false,false,false,false,false,false,false] rfl rfl (qau HT_.out (by kernel_rfl)) (fun _ _ _ h=>h) (Or.inl ⟨by rfl,?_⟩) ?_ ?_
                        rotate_left
                        ·intro w'
                         go_simp
                         with_reducible rfl
                        rotate_left
                        ·simp only [Act.put,List.setIfInBounds_toArray,List.set_cons_zero,List.set_cons_succ,qas,qat]
                         rfl
                        refine qbg (i:=1) (N:=some 85) (v:=?_) (a':=?_) #[true,true,false,false,false,false,false,false,false,false,false,false,false,false,false,false,false,false] rfl rfl (qau HT_.out (by kernel_rfl)) (fun _ _ _ h=>h) (Or.inl ⟨by rfl,?_⟩) ?_ ?_
                        rotate_left
                        ·intro w'
                         go_simp
                         with_reducible rfl
                        rotate_left
                        ·simp only [Act.put,List.setIfInBounds_toArray,List.set_cons_zero,List.set_cons_succ,qas,qat]
                         rfl
                        refine qbg (i:=2) (N:=some 86) (v:=?_) (a':=?_) #[true,true,true,false,false,false,false,false,false,false,false,false,false,false,false,false,false,false] rfl rfl (qau HT_.out (by kernel_rfl)) (fun _ _ _ h=>h) (Or.inl ⟨by rfl,?_⟩) ?_ ?_
                        rotate_left
                        ·intro w'
                         go_simp
                         with_reducible rfl
                        rotate_left
                        ·simp only [Act.put,List.setIfInBounds_toArray,List.set_cons_zero,List.set_cons_succ,qas,qat]
                         rfl
                        refine qbg (i:=3) (N:=some 87) (v:=?_) (a':=?_) #[true,true,true,true,false,false,false,false,false,false,false,false,false,false,false,false,false,false] rfl rfl (qau HT_.out (by kernel_rfl)) (fun _ _ _ h=>h) (Or.inl ⟨by rfl,?_⟩) ?_ ?_
                        rotate_left
                        ·intro w'
                         go_simp
                         with_reducible rfl
                        rotate_left
                        ·simp only [Act.put,List.setIfInBounds_toArray,List.set_cons_zero,List.set_cons_succ,qas,qat]
                         rfl
                        refine qbg (i:=4) (N:=some 88) (v:=?_) (a':=?_) #[true,true,true,true,true,false,false,false,false,false,false,false,false,false,false,false,false,false] rfl rfl (qau HT_.out (by kernel_rfl)) (fun _ _ _ h=>h) (Or.inl ⟨by rfl,?_⟩) ?_ ?_
                        rotate_left
                        ·intro w'
                         go_simp
                         with_reducible rfl
                        rotate_left
                        ·simp only [Act.put,List.setIfInBounds_toArray,List.set_cons_zero,List.set_cons_succ,qas,qat]
                         rfl
                        refine qbg (i:=5) (N:=some 89) (v:=?_) (a':=?_) #[true,true,true,true,true,true,false,false,false,false,false,false,false,false,false,false,false,false] rfl rfl (qau HT_.out (by kernel_rfl)) (fun _ _ _ h=>h) (Or.inl ⟨by rfl,?_⟩) ?_ ?_
                        rotate_left
                        ·intro w'
                         go_simp
                         with_reducible rfl
                        rotate_left
                        ·simp only [Act.put,List.setIfInBounds_toArray,List.set_cons_zero,List.set_cons_succ,qas,qat]
                         rfl
                        refine qbg (i:=6) (N:=some 90) (v:=?_) (a':=?_) #[true,true,true,true,true,true,true,false,false,false,false,false,false,false,false,false,false,false] rfl rfl (qau HT_.out (by kernel_rfl)) (fun _ _ _ h=>h) (Or.inl ⟨by rfl,?_⟩) ?_ ?_
                        rotate_left
                        ·intro w'
                         go_simp
                         with_reducible rfl
                        rotate_left
                        ·simp only [Act.put,List.setIfInBounds_toArray,List.set_cons_zero,List.set_cons_succ,qas,qat]
                         rfl
                        refine qbg (i:=7) (N:=some 91) (v:=?_) (a':=?_) #[true,true,true,true,true,true,true,true,false,false,false,false,false,false,false,false,false,false] rfl rfl (qau HT_.out (by kernel_rfl)) (fun _ _ _ h=>h) (Or.inl ⟨by rfl,?_⟩) ?_ ?_
                        rotate_left
                        ·intro w'
                         go_simp
                         with_reducible rfl
                        rotate_left
                        ·simp only [Act.put,List.setIfInBounds_toArray,List.set_cons_zero,List.set_cons_succ,qas,qat]
                         rfl
                        refine qbg (i:=8) (N:=some 92) (v:=?_) (a':=?_) #[true,true,true,true,true,true,true,true,true,false,false,false,false,false,false,false,false,false] rfl rfl (qau HT_.out (by kernel_rfl)) (fun _ _ _ h=>h) (Or.inl ⟨by rfl,?_⟩) ?_ ?_
                        rotate_left
                        ·intro w'
                         go_simp
                         with_reducible rfl
                        rotate_left
                        ·simp only [Act.put,List.setIfInBounds_toArray,List.set_cons_zero,List.set_cons_succ,qas,qat]
                         rfl
                        refine qbg (i:=9) (N:=some 93) (v:=?_) (a':=?_) #[true,true,true,true,true,true,true,true,true,true,false,false,false,false,false,false,false,false] rfl rfl (qau HT_.out (by kernel_rfl)) (fun _ _ _ h=>h) (Or.inl ⟨by rfl,?_⟩) ?_ ?_
                        rotate_left
                        ·intro w'
                         go_simp
                         with_reducible rfl
                        rotate_left
                        ·simp only [Act.put,List.setIfInBounds_toArray,List.set_cons_zero,List.set_cons_succ,qas,qat]
                         rfl
                        refine qbg (i:=10) (N:=some 94) (v:=?_) (a':=?_) #[true,true,true,true,true,true,true,true,true,true,true,false,false,false,false,false,false,false] rfl rfl (qau HT_.out (by kernel_rfl)) (fun _ _ _ h=>h) (Or.inl ⟨by rfl,?_⟩) ?_ ?_
                        rotate_left
                        ·intro w'
                         go_simp
                         with_reducible rfl
                        rotate_left
                        ·simp only [Act.put,List.setIfInBounds_toArray,List.set_cons_zero,List.set_cons_succ,qas,qat]
                         rfl
                        refine qbg (i:=11) (N:=some 95) (v:=?_) (a':=?_) #[true,true,true,true,true,true,true,true,true,true,true,true,false,false,false,false,false,false] rfl rfl (qau HT_.out (by kernel_rfl)) (fun _ _ _ h=>h) (Or.inl ⟨by rfl,?_⟩) ?_ ?_
                        rotate_left
                        ·intro w'
                         go_simp
                         with_reducible rfl
                        rotate_left
                        ·simp only [Act.put,List.setIfInBounds_toArray,List.set_cons_zero,List.set_cons_succ,qas,qat]
                         rfl
                        refine qbg (i:=13) (N:=some 97) (v:=?_) (a':=?_) #[true,true,true,true,true,true,true,true,true,true,true,true,false,true,false,false,false,false] rfl rfl (qau HT_.out (by kernel_rfl)) (fun _ _ _ h=>h) (Or.inl ⟨by rfl,?_⟩) ?_ ?_
                        rotate_left
                        ·intro w'
                         go_simp
                         with_reducible rfl
                        rotate_left
                        ·simp only [Act.put,List.setIfInBounds_toArray,List.set_cons_zero,List.set_cons_succ,qas,qat]
                         rfl
                        refine take_ (i:=12) (N:=some 96) (v:=?_) (a':=?_) #[true,true,true,true,true,true,true,true,true,true,true,true,true,true,false,false,false,false] rfl rfl (qcu HT_.out HW_.out (by kernel_rfl)) (fun _ _ _ h=>h) (Or.inl ⟨by rfl,?_⟩) hHeld ?_ ?_
                        rotate_left
                        ·rintro w' ⟨s0,s1,s2⟩
                         go_simp
                         with_reducible rfl
                        rotate_left
                        ·simp only [Act.put,List.setIfInBounds_toArray,List.set_cons_zero,List.set_cons_succ,qas,qat]
                         rfl
                        refine take_ (i:=14) (N:=some 98) (v:=?_) (a':=?_) #[true,true,true,true,true,true,true,true,true,true,true,true,true,true,true,false,false,false] rfl rfl (qcu HT_.out HW_.out (by kernel_rfl)) (fun _ _ _ h=>h) (Or.inl ⟨by rfl,?_⟩) hHeld ?_ ?_
                        rotate_left
                        ·rintro w' ⟨s0,s1,s2⟩
                         go_simp
                         with_reducible rfl
                        rotate_left
                        ·simp only [Act.put,List.setIfInBounds_toArray,List.set_cons_zero,List.set_cons_succ,qas,qat]
                         rfl
                        refine one_ (i:=15) (N:=some 99) #[true,true,true,true,true,true,true,true,true,true,true,true,true,true,true,true,false,false] rfl rfl (qdy HT_.out (by kernel_rfl)) (by decide) (fun K hK=>?_)
                        refine qen Tryd.func38 (by kernel_rfl) rfl #[.agg #[.slice A635_0 ((qcd t610 (rd t631 x80_4)).f0).length c635_0],.int .i64 ((qbt t623 x71_3).f1)] (by rfl) rfl rfl (by (try simp only [List.map_toArray,List.map_cons,List.map_nil]);rfl) ?_
                        with_reducible refine (qcc.calls _ _ ((qcd t610 (rd t631 x80_4)).f0) ((qbt t623 x71_3).f1) true _ ?side1 ?side2 A78.out).mono ?_
                        (case side1=>repeat (exact HR635_0.out))
                        (case side2=>exact HC635_0.out)
                        rintro e w82 ⟨rfl,hb⟩
                        have HS2_:=(hb.cell (World.block_lt_of_cell? _ _ (hHeld.2.2))).trans (hHeld.2.2)
                        refine ⟨_,rfl,?_⟩
                        have n0_:=qaa.mk (Kd.V_below (by (with_reducible repeat (apply Kd.V_drew));exact HO_3.out) hb)
                        have n1_:=qaa.mk (Kd.R_below (by (with_reducible repeat (apply Kd.R_drew));exact HO_69.out) hb)
                        have n2_:=qaa.mk (Kd.R_below (by (with_reducible repeat (apply Kd.R_drew));exact HO_78.out) hb)
                        have n3_:=qaa.mk (Kd.V_below (by (with_reducible repeat (apply Kd.V_drew));exact HL635_0.out) hb)
                        have n4_:=qaa.mk (qaf (g:=gb607) (o:=.cells #[.bool a0_0,.int .i64 a0_1,.slice A0_2 l0_2.length c0_2] 24 (0,0)) (by (with_reducible repeat (refine qac ?_));exact BK607.out) hb)
                        have n5_:=qaa.mk (qaf (g:=gb627) (o:=.cells #[.int .i64 ((qbt t623 x71_3).f0),.int .i64 ((qbt t623 x71_3).f1)] 39 (0,0)) (by (with_reducible repeat (refine qac ?_));exact BK627.out) hb)
                        have n6_:=qaa.mk (Kd.C_below HR635_0.out hb)
                        have n7_:=qaa.mk (qak HB.out hb)
                        clear HO_3
                        clear HO_69
                        clear HO_78
                        clear HL635_0
                        clear BK607
                        clear BK627
                        clear HR635_0
                        clear HB
                        have HO_3:=n0_
                        have HO_69:=n1_
                        have HO_78:=n2_
                        have HL635_0:=n3_
                        have BK607:=n4_
                        have BK627:=n5_
                        have HR635_0:=n6_
                        have HB:=n7_
                        clear n0_ n1_ n2_ n3_ n4_ n5_ n6_ n7_
                        (try clear hb)
                        refine hK.out _ _ ⟨(qae BK627.out 0).trans rfl,(qae BK627.out 1).trans rfl,HS2_⟩ (fun hHeld=>?_)
                        clear hK K
                        refine qdw (a':=?_) ?_ ?_
                        rotate_left
                        ·show Act.put _ (some 99) _=_
                         simp only [Act.put,List.setIfInBounds_toArray,List.set_cons_zero,List.set_cons_succ,qas,qat]
                         rfl
                        refine qbg (i:=16) (N:=some 100) (v:=?_) (a':=?_) #[true,true,true,true,true,true,true,true,true,true,true,true,true,true,true,true,true,false] rfl rfl (qau HT_.out (by kernel_rfl)) (fun _ _ _ h=>h) (Or.inl ⟨by rfl,?_⟩) ?_ ?_
                        rotate_left
                        ·intro w'
                         go_simp
                         with_reducible rfl
                        rotate_left
                        ·simp only [Act.put,List.setIfInBounds_toArray,List.set_cons_zero,List.set_cons_succ,qas,qat]
                         rfl
                        refine qbg (i:=17) (N:=some 101) (v:=?_) (a':=?_) #[true,true,true,true,true,true,true,true,true,true,true,true,true,true,true,true,true,true] rfl rfl (qau HT_.out (by kernel_rfl)) (fun _ _ _ h=>h) (Or.inl ⟨by rfl,?_⟩) ?_ ?_
                        rotate_left
                        ·intro w'
                         go_simp
                         with_reducible rfl
                        rotate_left
                        ·simp only [Act.put,List.setIfInBounds_toArray,List.set_cons_zero,List.set_cons_succ,qas,qat]
                         rfl
                        refine qfl (qej HT_.out (by kernel_rfl)) ?_
                        try go_wp2
                        go_roundg k4
                        case measure=>have:=HJ7.out;have:=HK2.out;have:=HK3.out;have:=HK4.out;omega
                        case rel=>exact ⟨(wrap64 (x80_4+1)),(by rfl),H',⟨by have:=HJ7.out;have:=HK2.out;have:=HK3.out;have:=HK4.out;omega⟩,⟨by (with_reducible repeat (apply Kd.V_drew));exact HO_3.out⟩,⟨by (with_reducible repeat (apply Kd.R_drew));exact HO_69.out⟩,⟨by (with_reducible repeat (apply Kd.R_drew));exact HO_78.out⟩,⟨by (with_reducible repeat (refine qac ?_));exact BK607.out⟩,⟨by (with_reducible repeat (refine qac ?_));exact BK627.out⟩,⟨by repeat ((with_reducible exact HB.out))⟩⟩
                       ·replace c79:=Bool.eq_false_iff.mpr c79
                        subst c79
                        have H1:(some false)=some r:=by rw [if_neg (show ¬ (false=true) by decide)] at H;exact H
                        clear H
                        have H:=H1
                        clear H1
                        obtain rfl:=Option.some.inj H
                        have p634:0≤(x80_4:Int):=of_decide_eq_true (by (with_reducible assumption))
                        have q634:x80_4<(t631.length:Int):=of_decide_eq_true (by (with_reducible assumption))
                        obtain ⟨ad634,e634,hx634_0⟩:=Kd.at_int (Kd.R_reads' HO_78.out).2.2 x80_4 p634 q634
                        cases e634
                        replace p634:=eq_true p634
                        replace q634:=eq_true q634
                        try go_wp2
                        have n0_:=qaa.mk (Kd.V_drew HO_3.out)
                        have n1_:=qaa.mk (Kd.R_drew HO_69.out)
                        have n2_:=qaa.mk (Kd.R_drew HO_78.out)
                        have n3_:=qaa.mk (qac BK607.out)
                        have n4_:=qaa.mk (qac BK627.out)
                        have n5_:=qaa.mk (qcx HB.out)
                        clear HO_3
                        clear HO_69
                        clear HO_78
                        clear BK607
                        clear BK627
                        clear HB
                        have HO_3:=n0_
                        have HO_69:=n1_
                        have HO_78:=n2_
                        have BK607:=n3_
                        have BK627:=n4_
                        have HB:=n5_
                        clear n0_ n1_ n2_ n3_ n4_ n5_
                        obtain ⟨Ao84,co84,eo84⟩:=Kd.V_slice HO_3.out
                        (subst eo84)
                        have p635:0≤((rd t631 x80_4):Int):=of_decide_eq_true (by (with_reducible assumption))
                        have q635:(rd t631 x80_4)<(t610.length:Int):=of_decide_eq_true (by (with_reducible assumption))
                        obtain ⟨ad635,A635_0,c635_0,e635,hx635_0,hl635_0,hi635_0⟩:=at_T38 (Kd.V_reads' HO_3.out).2.2 (rd t631 x80_4) p635 q635
                        cases e635
                        obtain ⟨ce635,hce635,hMe635,hcc635⟩:=Kd.V_get HO_3.out z38 (rd t631 x80_4) p635 (by exact q635)
                        obtain ⟨ua635_0,uc635_0,rfl,ul635_0,ge635_0⟩:=qes hMe635
                        have hv635_0:=hcc635 0 _ rfl
                        rw [Nat.add_zero,show (k38).sz=1 from rfl,Nat.mul_one] at hv635_0
                        replace hv635_0:=Option.some.inj (hv635_0.symm.trans hx635_0)
                        injection hv635_0 with hva_ hvn_ hvc_
                        rw [hva_] at ge635_0
                        rw [hvc_] at ul635_0
                        have HL635_0:=qaa.mk (show Kd.V (Kd.int .u64) 77 _ w.heap.size _ _ ((qcd t610 (rd t631 x80_4)).f0) from Kd.V_mk ul635_0 ge635_0)
                        clear hva_ hvn_ hvc_ ge635_0 ul635_0
                        clear hcc635 hce635
                        have HR635_0:=qaa.mk hi635_0
                        have HC635_0:=qaa.mk hl635_0
                        clear hi635_0 hl635_0
                        replace p635:=eq_true p635
                        replace q635:=eq_true q635
                        refine qew (n:=18) (S:=fun w'=>w'.cell? ⟨gb627,0,none⟩=some (.int .i64 ((qbt t623 x71_3).f0))∧w'.cell? ⟨gb627,1,none⟩=some (.int .i64 ((qbt t623 x71_3).f1))∧w'.cell? (ad635.add ((rd t631 x80_4)).toNat)=some (.slice A635_0 ((qcd t610 (rd t631 x80_4)).f0).length c635_0)) (ds:=[]) #[false,false,false,false,false,false,false,false,false,false,false,false,false,false,false,false,false,false] (by kernel_rfl) rfl rfl ⟨(qae BK627.out 0).trans rfl,(qae BK627.out 1).trans rfl,hx635_0⟩ (fun hHeld=>?_);refine qdp qab.tab21 qab.bits21 (fun HT_ HW_=>?_)
                        generalize wr.drew=w83 at HO_3 HO_69 HO_78 BK607 BK627 HB HL635_0 HR635_0 hx635_0 hHeld ⊢
                        refine qbg (i:=0) (N:=some 84) (v:=?_) (a':=?_) #[true,false,false,false,false,false,false,false,false,false,false,false,false,false,false,false,false,false] rfl rfl (qau HT_.out (by kernel_rfl)) (fun _ _ _ h=>h) (Or.inl ⟨by rfl,?_⟩) ?_ ?_
                        rotate_left
                        ·intro w'
                         go_simp
                         with_reducible rfl
                        rotate_left
                        ·simp only [Act.put,List.setIfInBounds_toArray,List.set_cons_zero,List.set_cons_succ,qas,qat]
                         rfl
                        refine qbg (i:=1) (N:=some 85) (v:=?_) (a':=?_) #[true,true,false,false,false,false,false,false,false,false,false,false,false,false,false,false,false,false] rfl rfl (qau HT_.out (by kernel_rfl)) (fun _ _ _ h=>h) (Or.inl ⟨by rfl,?_⟩) ?_ ?_
                        rotate_left
                        ·intro w'
                         go_simp
                         with_reducible rfl
                        rotate_left
                        ·simp only [Act.put,List.setIfInBounds_toArray,List.set_cons_zero,List.set_cons_succ,qas,qat]
                         rfl
                        refine qbg (i:=2) (N:=some 86) (v:=?_) (a':=?_) #[true,true,true,false,false,false,false,false,false,false,false,false,false,false,false,false,false,false] rfl rfl (qau HT_.out (by kernel_rfl)) (fun _ _ _ h=>h) (Or.inl ⟨by rfl,?_⟩) ?_ ?_
                        rotate_left
                        ·intro w'
                         go_simp
                         with_reducible rfl
                        rotate_left
                        ·simp only [Act.put,List.setIfInBounds_toArray,List.set_cons_zero,List.set_cons_succ,qas,qat]
                         rfl
                        refine qbg (i:=3) (N:=some 87) (v:=?_) (a':=?_) #[true,true,true,true,false,false,false,false,false,false,false,false,false,false,false,false,false,false] rfl rfl (qau HT_.out (by kernel_rfl)) (fun _ _ _ h=>h) (Or.inl ⟨by rfl,?_⟩) ?_ ?_
                        rotate_left
                        ·intro w'
                         go_simp
                         with_reducible rfl
                        rotate_left
                        ·simp only [Act.put,List.setIfInBounds_toArray,List.set_cons_zero,List.set_cons_succ,qas,qat]
                         rfl
                        refine qbg (i:=4) (N:=some 88) (v:=?_) (a':=?_) #[true,true,true,true,true,false,false,false,false,false,false,false,false,false,false,false,false,false] rfl rfl (qau HT_.out (by kernel_rfl)) (fun _ _ _ h=>h) (Or.inl ⟨by rfl,?_⟩) ?_ ?_
                        rotate_left
                        ·intro w'
                         go_simp
                         with_reducible rfl
                        rotate_left
                        ·simp only [Act.put,List.setIfInBounds_toArray,List.set_cons_zero,List.set_cons_succ,qas,qat]
                         rfl
                        refine qbg (i:=5) (N:=some 89) (v:=?_) (a':=?_) #[true,true,true,true,true,true,false,false,false,false,false,false,false,false,false,false,false,false] rfl rfl (qau HT_.out (by kernel_rfl)) (fun _ _ _ h=>h) (Or.inl ⟨by rfl,?_⟩) ?_ ?_
                        rotate_left
                        ·intro w'
                         go_simp
                         with_reducible rfl
                        rotate_left
                        ·simp only [Act.put,List.setIfInBounds_toArray,List.set_cons_zero,List.set_cons_succ,qas,qat]
                         rfl
                        refine qbg (i:=6) (N:=some 90) (v:=?_) (a':=?_) #[true,true,true,true,true,true,true,false,false,false,false,false,false,false,false,false,false,false] rfl rfl (qau HT_.out (by kernel_rfl)) (fun _ _ _ h=>h) (Or.inl ⟨by rfl,?_⟩) ?_ ?_
                        rotate_left
                        ·intro w'
                         go_simp
                         with_reducible rfl
                        rotate_left
                        ·simp only [Act.put,List.setIfInBounds_toArray,List.set_cons_zero,List.set_cons_succ,qas,qat]
                         rfl
                        refine qbg (i:=7) (N:=some 91) (v:=?_) (a':=?_) #[true,true,true,true,true,true,true,true,false,false,false,false,false,false,false,false,false,false] rfl rfl (qau HT_.out (by kernel_rfl)) (fun _ _ _ h=>h) (Or.inl ⟨by rfl,?_⟩) ?_ ?_
                        rotate_left
                        ·intro w'
                         go_simp
                         with_reducible rfl
                        rotate_left
                        ·simp only [Act.put,List.setIfInBounds_toArray,List.set_cons_zero,List.set_cons_succ,qas,qat]
                         rfl
                        refine qbg (i:=8) (N:=some 92) (v:=?_) (a':=?_) #[true,true,true,true,true,true,true,true,true,false,false,false,false,false,false,false,false,false] rfl rfl (qau HT_.out (by kernel_rfl)) (fun _ _ _ h=>h) (Or.inl ⟨by rfl,?_⟩) ?_ ?_
                        rotate_left
                        ·intro w'
                         go_simp
                         with_reducible rfl
                        rotate_left
                        ·simp only [Act.put,List.setIfInBounds_toArray,List.set_cons_zero,List.set_cons_succ,qas,qat]
                         rfl
                        refine qbg (i:=9) (N:=some 93) (v:=?_) (a':=?_) #[true,true,true,true,true,true,true,true,true,true,false,false,false,false,false,false,false,false] rfl rfl (qau HT_.out (by kernel_rfl)) (fun _ _ _ h=>h) (Or.inl ⟨by rfl,?_⟩) ?_ ?_
                        rotate_left
                        ·intro w'
                         go_simp
                         with_reducible rfl
                        rotate_left
                        ·simp only [Act.put,List.setIfInBounds_toArray,List.set_cons_zero,List.set_cons_succ,qas,qat]
                         rfl
                        refine qbg (i:=10) (N:=some 94) (v:=?_) (a':=?_) #[true,true,true,true,true,true,true,true,true,true,true,false,false,false,false,false,false,false] rfl rfl (qau HT_.out (by kernel_rfl)) (fun _ _ _ h=>h) (Or.inl ⟨by rfl,?_⟩) ?_ ?_
                        rotate_left
                        ·intro w'
                         go_simp
                         with_reducible rfl
                        rotate_left
                        ·simp only [Act.put,List.setIfInBounds_toArray,List.set_cons_zero,List.set_cons_succ,qas,qat]
                         rfl
                        refine qbg (i:=11) (N:=some 95) (v:=?_) (a':=?_) #[true,true,true,true,true,true,true,true,true,true,true,true,false,false,false,false,false,false] rfl rfl (qau HT_.out (by kernel_rfl)) (fun _ _ _ h=>h) (Or.inl ⟨by rfl,?_⟩) ?_ ?_
                        rotate_left
                        ·intro w'
                         go_simp
                         with_reducible rfl
                        rotate_left
                        ·simp only [Act.put,List.setIfInBounds_toArray,List.set_cons_zero,List.set_cons_succ,qas,qat]
                         rfl
                        refine qbg (i:=13) (N:=some 97) (v:=?_) (a':=?_) #[true,true,true,true,true,true,true,true,true,true,true,true,false,true,false,false,false,false] rfl rfl (qau HT_.out (by kernel_rfl)) (fun _ _ _ h=>h) (Or.inl ⟨by rfl,?_⟩) ?_ ?_
                        rotate_left
                        ·intro w'
                         go_simp
                         with_reducible rfl
                        rotate_left
                        ·simp only [Act.put,List.setIfInBounds_toArray,List.set_cons_zero,List.set_cons_succ,qas,qat]
                         rfl
                        refine take_ (i:=12) (N:=some 96) (v:=?_) (a':=?_) #[true,true,true,true,true,true,true,true,true,true,true,true,true,true,false,false,false,false] rfl rfl (qcu HT_.out HW_.out (by kernel_rfl)) (fun _ _ _ h=>h) (Or.inl ⟨by rfl,?_⟩) hHeld ?_ ?_
                        rotate_left
                        ·rintro w' ⟨s0,s1,s2⟩
                         go_simp
                         with_reducible rfl
                        rotate_left
                        ·simp only [Act.put,List.setIfInBounds_toArray,List.set_cons_zero,List.set_cons_succ,qas,qat]
                         rfl
                        refine take_ (i:=14) (N:=some 98) (v:=?_) (a':=?_) #[true,true,true,true,true,true,true,true,true,true,true,true,true,true,true,false,false,false] rfl rfl (qcu HT_.out HW_.out (by kernel_rfl)) (fun _ _ _ h=>h) (Or.inl ⟨by rfl,?_⟩) hHeld ?_ ?_
                        rotate_left
                        ·rintro w' ⟨s0,s1,s2⟩
                         go_simp
                         with_reducible rfl
                        rotate_left
                        ·simp only [Act.put,List.setIfInBounds_toArray,List.set_cons_zero,List.set_cons_succ,qas,qat]
                         rfl
                        refine one_ (i:=15) (N:=some 99) #[true,true,true,true,true,true,true,true,true,true,true,true,true,true,true,true,false,false] rfl rfl (qdy HT_.out (by kernel_rfl)) (by decide) (fun K hK=>?_)
                        refine qen Tryd.func38 (by kernel_rfl) rfl #[.agg #[.slice A635_0 ((qcd t610 (rd t631 x80_4)).f0).length c635_0],.int .i64 ((qbt t623 x71_3).f1)] (by rfl) rfl rfl (by (try simp only [List.map_toArray,List.map_cons,List.map_nil]);rfl) ?_
                        with_reducible refine (qcc.calls _ _ ((qcd t610 (rd t631 x80_4)).f0) ((qbt t623 x71_3).f1) false _ ?side1 ?side2 A78.out).mono ?_
                        (case side1=>repeat (exact HR635_0.out))
                        (case side2=>exact HC635_0.out)
                        rintro e w85 ⟨rfl,hb⟩
                        have HS2_:=(hb.cell (World.block_lt_of_cell? _ _ (hHeld.2.2))).trans (hHeld.2.2)
                        refine ⟨_,rfl,?_⟩
                        have n0_:=qaa.mk (Kd.V_below (by (with_reducible repeat (apply Kd.V_drew));exact HO_3.out) hb)
                        have n1_:=qaa.mk (Kd.R_below (by (with_reducible repeat (apply Kd.R_drew));exact HO_69.out) hb)
                        have n2_:=qaa.mk (Kd.R_below (by (with_reducible repeat (apply Kd.R_drew));exact HO_78.out) hb)
                        have n3_:=qaa.mk (Kd.V_below (by (with_reducible repeat (apply Kd.V_drew));exact HL635_0.out) hb)
                        have n4_:=qaa.mk (qaf (g:=gb607) (o:=.cells #[.bool a0_0,.int .i64 a0_1,.slice A0_2 l0_2.length c0_2] 24 (0,0)) (by (with_reducible repeat (refine qac ?_));exact BK607.out) hb)
                        have n5_:=qaa.mk (qaf (g:=gb627) (o:=.cells #[.int .i64 ((qbt t623 x71_3).f0),.int .i64 ((qbt t623 x71_3).f1)] 39 (0,0)) (by (with_reducible repeat (refine qac ?_));exact BK627.out) hb)
                        have n6_:=qaa.mk (Kd.C_below HR635_0.out hb)
                        have n7_:=qaa.mk (qak HB.out hb)
                        clear HO_3
                        clear HO_69
                        clear HO_78
                        clear HL635_0
                        clear BK607
                        clear BK627
                        clear HR635_0
                        clear HB
                        have HO_3:=n0_
                        have HO_69:=n1_
                        have HO_78:=n2_
                        have HL635_0:=n3_
                        have BK607:=n4_
                        have BK627:=n5_
                        have HR635_0:=n6_
                        have HB:=n7_
                        clear n0_ n1_ n2_ n3_ n4_ n5_ n6_ n7_
                        (try clear hb)
                        refine hK.out _ _ ⟨(qae BK627.out 0).trans rfl,(qae BK627.out 1).trans rfl,HS2_⟩ (fun hHeld=>?_)
                        clear hK K
                        refine qdw (a':=?_) ?_ ?_
                        rotate_left
                        ·show Act.put _ (some 99) _=_
                         simp only [Act.put,List.setIfInBounds_toArray,List.set_cons_zero,List.set_cons_succ,qas,qat]
                         rfl
                        refine qbg (i:=16) (N:=some 100) (v:=?_) (a':=?_) #[true,true,true,true,true,true,true,true,true,true,true,true,true,true,true,true,true,false] rfl rfl (qau HT_.out (by kernel_rfl)) (fun _ _ _ h=>h) (Or.inl ⟨by rfl,?_⟩) ?_ ?_
                        rotate_left
                        ·intro w'
                         go_simp
                         with_reducible rfl
                        rotate_left
                        ·simp only [Act.put,List.setIfInBounds_toArray,List.set_cons_zero,List.set_cons_succ,qas,qat]
                         rfl
                        refine qbg (i:=17) (N:=some 101) (v:=?_) (a':=?_) #[true,true,true,true,true,true,true,true,true,true,true,true,true,true,true,true,true,true] rfl rfl (qau HT_.out (by kernel_rfl)) (fun _ _ _ h=>h) (Or.inl ⟨by rfl,?_⟩) ?_ ?_
                        rotate_left
                        ·intro w'
                         go_simp
                         with_reducible rfl
                        rotate_left
                        ·simp only [Act.put,List.setIfInBounds_toArray,List.set_cons_zero,List.set_cons_succ,qas,qat]
                         rfl
                        refine qfl (qej HT_.out (by kernel_rfl)) ?_
                        try go_wp2
                        go_ret
                        exact ⟨by rfl,by repeat ((with_reducible exact HB.out))⟩
                      ·rw [if_neg c77] at H
                       exact absurd H (by simp)
                     ·rw [if_neg c76] at H
                      exact absurd H (by simp)
                  ·rw [if_neg c70] at H
                   exact absurd H (by simp)
                 ·rw [if_neg c69] at H
                  exact absurd H (by simp)
                ·rw [if_neg c68] at H
                 have c68b0:decide (x80_4<(t631.length:Int))=false:=decide_eq_false c68
                 clear c68
                 have H':=qaa.mk H
                 clear H
                 go_wp2
                 go_roundg k4
                 case measure=>have:=HJ7.out;have:=HK2.out;have:=HK3.out;have:=HK4.out;omega
                 case rel=>exact ⟨(wrap64 (x71_3+1)),(by rfl),H',⟨by have:=HJ7.out;have:=HK2.out;have:=HK3.out;have:=HK4.out;omega⟩,⟨by (with_reducible repeat (apply Kd.V_drew));exact Kd.V_mono HO_3.out (fun _ hk=>⟨hk.1,hk.2.2.1⟩)⟩,⟨by (with_reducible repeat (apply Kd.R_drew));exact Kd.R_mono HO_69.out (fun _ hk=>trivial)⟩,⟨by (with_reducible repeat (refine qac ?_));exact BK607.out⟩,⟨by repeat ((with_reducible exact HB.out))⟩⟩
             ·rw [if_neg c57] at H
              exact absurd H (by simp)
            ·rw [if_neg c56] at H
             exact absurd H (by simp)
           ·rw [if_neg c55] at H
            have c55b0:decide (x71_3<(t623.length:Int))=false:=decide_eq_false c55
            clear c55
            obtain rfl:=Option.some.inj H
            go_wp2
            go_ret
            exact ⟨by rfl,by repeat ((with_reducible exact HB.out))⟩
  ·replace c5:=Bool.eq_false_iff.mpr c5
   subst c5
   have H1:(some true)=some r:=by rw [if_neg (show ¬ (false=true) by decide)] at H;exact H
   clear H
   have H:=H1
   clear H1
   obtain rfl:=Option.some.inj H
   go_enter Tryd.func9,Tryd.ntmps9
   go_wp2_with (first|((with_reducible refine qbr (N:=1) rfl ?_);(try (refine qcw (by rfl) ?_;dsimp only));refine qby ?hg (N:=1) ?hd (cs:=#[.bool a0_0,.int .i64 a0_1,.slice A0_2 l0_2.length c0_2]) (t:=24) ?hr ?_;(case hd=>rfl);(case hg=>rfl);(case hr=>(go_simp;done));intro gb607 hg w86 hbox hb;have BK607:=qaa.mk (hbox);have GW607:=qaa.mk ((by rw [hg];exact (qad HB.out):w.heap.size≤gb607));have GE607:=qaa.mk ((by rw [hg];exact (qad HB.out):w.heap.size≤gb607));replace HB:=qaa.mk (qak HB.out hb);clear hb hbox hg)|((with_reducible refine qbp (f:=11) rfl ?_);refine qdj (some 11) rfl rfl Tryd.func11 (by kernel_rfl) rfl #[] rfl (by (try simp only [List.map_toArray,List.map_cons,List.map_nil]);done) ?_;(with_reducible refine (qbj.calls k  true _ ?side1 A2.out).mono ?_);(case side1=>exact TabW.below' HTB.out HB.out);rintro e w87 ⟨rfl,hb⟩;refine ⟨_,rfl,?_⟩;replace BK607:=qaa.mk (qaf (g:=gb607) (o:=.cells #[.bool a0_0,.int .i64 a0_1,.slice A0_2 l0_2.length c0_2] 24 (0,0)) (by (with_reducible repeat (refine qac ?_));exact BK607.out) hb);replace HB:=qaa.mk (qak HB.out hb);(try clear hb);have hcz88_0:w87.cell? ⟨gb607,0,none⟩=some (.bool a0_0):=(qae BK607.out 0).trans rfl;have hcz88_1:w87.cell? ⟨gb607,1,none⟩=some (.int .i64 a0_1):=(qae BK607.out 1).trans rfl;have hcz88_2:w87.cell? ⟨gb607,2,none⟩=some (.slice A0_2 l0_2.length c0_2):=(qae BK607.out 2).trans rfl;have hfz88_0:=qai BK607.out 0;have hfz88_1:=qai BK607.out 1;have hfz88_2:=qai BK607.out 2)|((with_reducible refine qbp (f:=12) rfl ?_);refine qdj (some 14) rfl rfl Tryd.func12 (by kernel_rfl) rfl #[.agg #[.bool a0_0,.int .i64 a0_1,.slice A0_2 l0_2.length c0_2]] rfl (by (try simp only [List.map_toArray,List.map_cons,List.map_nil]);rfl) ?_;(with_reducible refine (qar.calls k a0_0 a0_1 _ _ l0_2 false _ ?side1 ?side2 A4.out).mono ?_);(case side1=>repeat (exact (Kd.C_below HR0_2.out HB.out)));(case side2=>exact HC0_2.out);rintro e w89 ⟨rfl,hb⟩;refine ⟨_,rfl,?_⟩;replace BK607:=qaa.mk (qaf (g:=gb607) (o:=.cells #[.bool a0_0,.int .i64 a0_1,.slice A0_2 l0_2.length c0_2] 24 (0,0)) (by (with_reducible repeat (refine qac ?_));exact BK607.out) hb);replace HB:=qaa.mk (qak HB.out hb);(try clear hb)))
   go_ret
   exact ⟨by rfl,by repeat ((with_reducible exact HB.out))⟩
 ·replace c3:=Bool.eq_false_iff.mpr c3
  subst c3
  have H1:(some false)=some r:=by rw [if_neg (show ¬ (false=true) by decide)] at H;exact H
  clear H
  have H:=H1
  clear H1
  obtain rfl:=Option.some.inj H
  go_enter Tryd.func9,Tryd.ntmps9
  go_wp2_with (first|((with_reducible refine qbr (N:=1) rfl ?_);(try (refine qcw (by rfl) ?_;dsimp only));refine qby ?hg (N:=1) ?hd (cs:=#[.bool a0_0,.int .i64 a0_1,.slice A0_2 l0_2.length c0_2]) (t:=24) ?hr ?_;(case hd=>rfl);(case hg=>rfl);(case hr=>(go_simp;done));intro gb607 hg w90 hbox hb;have BK607:=qaa.mk (hbox);have GW607:=qaa.mk ((by rw [hg];exact (qad HB.out):w.heap.size≤gb607));have GE607:=qaa.mk ((by rw [hg];exact (qad HB.out):w.heap.size≤gb607));replace HB:=qaa.mk (qak HB.out hb);clear hb hbox hg)|((with_reducible refine qbp (f:=11) rfl ?_);refine qdj (some 11) rfl rfl Tryd.func11 (by kernel_rfl) rfl #[] rfl (by (try simp only [List.map_toArray,List.map_cons,List.map_nil]);done) ?_;(with_reducible refine (qbj.calls k  false _ ?side1 A2.out).mono ?_);(case side1=>exact TabW.below' HTB.out HB.out);rintro e w91 ⟨rfl,hb⟩;refine ⟨_,rfl,?_⟩;replace BK607:=qaa.mk (qaf (g:=gb607) (o:=.cells #[.bool a0_0,.int .i64 a0_1,.slice A0_2 l0_2.length c0_2] 24 (0,0)) (by (with_reducible repeat (refine qac ?_));exact BK607.out) hb);replace HB:=qaa.mk (qak HB.out hb);(try clear hb)))
  go_ret
  exact ⟨by rfl,by repeat ((with_reducible exact HB.out))⟩
end
end Go.Proofs.YtmfjmbcfaamebaaDoor.X
