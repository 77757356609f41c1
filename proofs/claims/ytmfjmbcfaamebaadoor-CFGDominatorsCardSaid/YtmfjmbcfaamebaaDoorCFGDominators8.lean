/- Parts of the proof of the law CFGDominators: words, walks of single functions and plain laws, joined by a program out of the session's texts. -/
import Derived.Test.YtmfjmbcfaamebaaDoorCFGDominators7
set_option linter.unusedVariables false
set_option linter.unusedSimpArgs false
namespace Go.Proofs.YtmfjmbcfaamebaaDoor.X
noncomputable section
open Go.RowKit Go.Proofs.YtmfjmbcfaamebaaDoorW.PrintWords Go.Proofs.YtmfjmbcfaamebaaDoorW.PrintLast Go.Proofs.YtmfjmbcfaamebaaDoorW.PrintMore
attribute [local go_sem] qbs qcb
set_option linter.unusedVariables false
set_option linter.unusedSimpArgs false
def qbq.l0:Nat→List (List Int)→List Int→List Int→List Int→Option (List Int)
 | 0,_,_,_,_=>none
 | k+1,x6,x8,x261000,x268000=>if (x8.length:Int)>0 then (if 0≤(wrap64 ((x8.length:Int)-1)) then (if (wrap64 ((x8.length:Int)-1))<(x8.length:Int) then (if (wrap64 ((x8.length:Int)-1))≤(x8.length:Int) then ((some (x8.take ((wrap64 ((x8.length:Int)-1)):Int).toNat:List Int)).bind fun y272=>((qbz.f x261000 (rd x8 (wrap64 ((x8.length:Int)-1)))).bind fun t275=>(if t275=true then (qbq.l0 k x6 y272 x261000 x268000) else ((qbz.f x268000 (rd x8 (wrap64 ((x8.length:Int)-1)))).bind fun t276=>(if t276=true then ((qby.f k x261000 (rd x8 (wrap64 ((x8.length:Int)-1)))).bind fun t277=>(if 0≤(rd x8 (wrap64 ((x8.length:Int)-1))) then (if (rd x8 (wrap64 ((x8.length:Int)-1)))<(x6.length:Int) then (if y272.length+(qeh x6 (rd x8 (wrap64 ((x8.length:Int)-1)))).length<17592186044416 then (qbq.l0 k x6 (y272++(qeh x6 (rd x8 (wrap64 ((x8.length:Int)-1))))) t277 x268000) else (none)) else (none)) else (none))) else (qbq.l0 k x6 y272 x261000 x268000)))))) else (none)) else (none)) else (none)) else (some x261000)
def qbq.f (k:Nat) (a0_0:Bool) (a0_1:Int) (l0_2:List (S60)) (a1_0:Int) (a1_1:Int):Option (List Int):=(qcd.f k a0_0 a0_1 l0_2).bind fun t250=>((qbt.f k t250 a1_0 a1_1).bind fun t253=>(if t253=true then ((qax.f k (([a1_1]:List Int))).bind fun t257=>((qbv.f k a0_0 a0_1 l0_2).bind fun t261=>((qcf.f k a0_0 a0_1 l0_2 0).bind fun t264=>(qbq.l0 k t261 (([a1_0]:List Int)) t257 t264)))) else (some ([]:List Int))))
theorem qbq.mono_l:∀ k,(∀ y0 y1 y2 y3,LeO (qbq.l0 k y0 y1 y2 y3) (qbq.l0 (k+1) y0 y1 y2 y3))
 | 0=>fun _ _ _ _ r h=>by simp [qbq.l0] at h
 | k+1=>by
  have ih0:=qbq.mono_l k
  ·intro y0 y1 y2 y3
   unfold qbq.l0
   repeat' first|(with_reducible exact ih0 _ _ _ _)|(with_reducible exact qby.mono _ _ _)|(with_reducible exact LeO.refl _)|(with_reducible refine LeO.ite ?_ ?_)|(with_reducible refine LeO.bind ?_ (fun _=>?_))
theorem qbq.mono:∀ a0 a1 a2 a3 a4 k,LeO (qbq.f k a0 a1 a2 a3 a4) (qbq.f (k+1) a0 a1 a2 a3 a4):=by
 intro a0 a1 a2 a3 a4 k
 have ih0:=qbq.mono_l k
 unfold qbq.f
 repeat' first|(with_reducible exact ih0 _ _ _ _)|(with_reducible exact qax.mono _ _)|(with_reducible exact qcd.mono _ _ _ _)|(with_reducible exact qbv.mono _ _ _ _)|(with_reducible exact qcf.mono _ _ _ _ _)|(with_reducible exact qbt.mono _ _ _ _)|(with_reducible exact LeO.refl _)|(with_reducible refine LeO.ite ?_ ?_)|(with_reducible refine LeO.bind ?_ (fun _=>?_))
set_option maxHeartbeats 8000000 in
set_option maxRecDepth 100000 in
theorem qbq.calls (k:Nat) (a0_0:Bool) (a0_1:Int) (A0_2:Option Addr) (c0_2:Nat) (l0_2:List (S60)) (a1_0:Int) (a1_1:Int) (r:List Int) (w:World) (hT:TabW w) (hr0_2:Kd.C k60 w A0_2 l0_2.length l0_2) (hc0_2:l0_2.length≤c0_2) (h:qbq.f k a0_0 a0_1 l0_2 a1_0 a1_1=some r) :
  Calls Tryd.prog 28 #[.agg #[.bool a0_0,.int .i64 a0_1,.slice A0_2 l0_2.length c0_2],.agg #[.int .i64 a1_0,.int .i64 a1_1]] w fun e w'=>∃ v0_:Value,e=.returned (.agg #[v0_])∧Kd.V (Kd.int .u64) 77 w' w.heap.size (fun k_=>(w.heap.size≤k_)) v0_ r∧Below w.heap.size w w':=by
 have hu24:=Tryd.underlying24
 have hu39:=Tryd.underlying39
 have hu38:=Tryd.underlying38
 have HR0_2:=qaa.mk hr0_2
 have HC0_2:=qaa.mk hc0_2
 clear hr0_2 hc0_2
 have HTB:=qaa.mk hT
 clear hT
 have HB:=qaa.mk (Below.refl w.heap.size w)
 have H:((qcd.f k a0_0 a0_1 l0_2).bind fun t250=>((qbt.f k t250 a1_0 a1_1).bind fun t253=>(if t253=true then ((qax.f k (([a1_1]:List Int))).bind fun t257=>((qbv.f k a0_0 a0_1 l0_2).bind fun t261=>((qcf.f k a0_0 a0_1 l0_2 0).bind fun t264=>(qbq.l0 k t261 (([a1_0]:List Int)) t257 t264)))) else (some ([]:List Int)))))=some r:=h
 clear h
 replace H:=Option.bind_eq_some_iff.mp H
 obtain ⟨t250,A30,H⟩:=H
 replace H:((qbt.f k t250 a1_0 a1_1).bind fun t253=>(if t253=true then ((qax.f k (([a1_1]:List Int))).bind fun t257=>((qbv.f k a0_0 a0_1 l0_2).bind fun t261=>((qcf.f k a0_0 a0_1 l0_2 0).bind fun t264=>(qbq.l0 k t261 (([a1_0]:List Int)) t257 t264)))) else (some ([]:List Int))))=some r:=H
 have A3:=qaa.mk A30
 clear A30
 replace H:=Option.bind_eq_some_iff.mp H
 obtain ⟨t253,A40,H⟩:=H
 replace H:(if t253=true then ((qax.f k (([a1_1]:List Int))).bind fun t257=>((qbv.f k a0_0 a0_1 l0_2).bind fun t261=>((qcf.f k a0_0 a0_1 l0_2 0).bind fun t264=>(qbq.l0 k t261 (([a1_0]:List Int)) t257 t264)))) else (some ([]:List Int)))=some r:=H
 have A4:=qaa.mk A40
 clear A40
 by_cases c5:t253=true
 ·subst c5
  have H1:((qax.f k (([a1_1]:List Int))).bind fun t257=>((qbv.f k a0_0 a0_1 l0_2).bind fun t261=>((qcf.f k a0_0 a0_1 l0_2 0).bind fun t264=>(qbq.l0 k t261 (([a1_0]:List Int)) t257 t264))))=some r:=by rw [if_pos rfl] at H;exact H
  clear H
  have H:=H1
  clear H1
  obtain ⟨y254,hy254⟩:∃ y_:List Int,y_=(([a1_1]:List Int)):=⟨_,rfl⟩
  replace H:((qax.f k y254).bind fun t257=>((qbv.f k a0_0 a0_1 l0_2).bind fun t261=>((qcf.f k a0_0 a0_1 l0_2 0).bind fun t264=>(qbq.l0 k t261 (([a1_0]:List Int)) t257 t264))))=some r:=by (rw [hy254];with_reducible exact H)
  have Ny254:=qaa.mk hy254
  clear hy254
  replace H:=Option.bind_eq_some_iff.mp H
  obtain ⟨t257,A60,H⟩:=H
  replace H:((qbv.f k a0_0 a0_1 l0_2).bind fun t261=>((qcf.f k a0_0 a0_1 l0_2 0).bind fun t264=>(qbq.l0 k t261 (([a1_0]:List Int)) t257 t264)))=some r:=H
  have A6:=qaa.mk A60
  clear A60
  replace H:=Option.bind_eq_some_iff.mp H
  obtain ⟨t261,A70,H⟩:=H
  replace H:((qcf.f k a0_0 a0_1 l0_2 0).bind fun t264=>(qbq.l0 k t261 (([a1_0]:List Int)) t257 t264))=some r:=H
  have A7:=qaa.mk A70
  clear A70
  replace H:=Option.bind_eq_some_iff.mp H
  obtain ⟨t264,A80,H⟩:=H
  replace H:(qbq.l0 k t261 (([a1_0]:List Int)) t257 t264)=some r:=H
  have A8:=qaa.mk A80
  clear A80
  obtain ⟨y268,hy268⟩:∃ y_:List Int,y_=(([a1_0]:List Int)):=⟨_,rfl⟩
  replace H:(qbq.l0 k t261 y268 t257 t264)=some r:=by (rw [hy268];with_reducible exact H)
  have Ny268:=qaa.mk hy268
  clear hy268
  have H':=qaa.mk H
  clear H
  go_enter Tryd.func28,Tryd.ntmps28
  try go_wp2_with (first|((with_reducible refine qbf (N:=2) rfl ?_);refine qbr ?hg (N:=2) ?hd (cs:=#[.bool a0_0,.int .i64 a0_1,.slice A0_2 l0_2.length c0_2]) (t:=24) ?hr ?_;(case hd=>rfl);(case hg=>rfl);(case hr=>(go_simp;done));intro gb247 hg w9 hbox hb;have BK247:=qaa.mk (hbox);have GW247:=qaa.mk ((by rw [hg];exact (qac HB.out):w.heap.size≤gb247));have GE247:=qaa.mk ((by rw [hg];exact (qac HB.out):w.heap.size≤gb247));replace HB:=qaa.mk (qal HB.out hb);clear hb hbox hg)|((with_reducible refine qbf (N:=3) rfl ?_);refine qbr ?hg (N:=3) ?hd (cs:=#[.int .i64 a1_0,.int .i64 a1_1]) (t:=39) ?hr ?_;(case hd=>rfl);(case hg=>rfl);(case hr=>(go_simp;done));intro gb248 hg w10 hbox hb;have BK248:=qaa.mk (hbox);have GW248:=qaa.mk ((by rw [hg];exact (qac HB.out):w.heap.size≤gb248));have GE248:=qaa.mk ((by rw [hg];exact (qac HB.out):w.heap.size≤gb248));replace HB:=qaa.mk (qal HB.out hb);have NB247_248:=qaa.mk ((by rw [hg];exact Nat.ne_of_lt (qbn (g:=gb247) (o:=.cells #[.bool a0_0,.int .i64 a0_1,.slice A0_2 l0_2.length c0_2] 24 (0,0)) (by (with_reducible repeat (refine qab ?_));exact BK247.out)):gb247≠gb248));have NB248_247:=qaa.mk ((by rw [hg];exact Nat.ne_of_gt (qbn (g:=gb247) (o:=.cells #[.bool a0_0,.int .i64 a0_1,.slice A0_2 l0_2.length c0_2] 24 (0,0)) (by (with_reducible repeat (refine qab ?_));exact BK247.out)):gb248≠gb247));replace BK247:=qaa.mk (qah (g:=gb247) (o:=.cells #[.bool a0_0,.int .i64 a0_1,.slice A0_2 l0_2.length c0_2] 24 (0,0)) (by (with_reducible repeat (refine qab ?_));exact BK247.out) hb);clear hb hbox hg)|((with_reducible refine qbf (N:=4) rfl ?_);refine qbr ?hg (N:=4) ?hd (cs:=#[.slice none 0 0]) (t:=38) ?hr ?_;(case hd=>rfl);(case hg=>rfl);(case hr=>(go_simp;done));intro gb249 hg w11 hbox hb;have BK249:=qaa.mk (hbox);have GW249:=qaa.mk ((by rw [hg];exact (qac HB.out):w.heap.size≤gb249));have GE249:=qaa.mk ((by rw [hg];exact (qac HB.out):w.heap.size≤gb249));replace HB:=qaa.mk (qal HB.out hb);have NB247_249:=qaa.mk ((by rw [hg];exact Nat.ne_of_lt (qbn (g:=gb247) (o:=.cells #[.bool a0_0,.int .i64 a0_1,.slice A0_2 l0_2.length c0_2] 24 (0,0)) (by (with_reducible repeat (refine qab ?_));exact BK247.out)):gb247≠gb249));have NB249_247:=qaa.mk ((by rw [hg];exact Nat.ne_of_gt (qbn (g:=gb247) (o:=.cells #[.bool a0_0,.int .i64 a0_1,.slice A0_2 l0_2.length c0_2] 24 (0,0)) (by (with_reducible repeat (refine qab ?_));exact BK247.out)):gb249≠gb247));replace BK247:=qaa.mk (qah (g:=gb247) (o:=.cells #[.bool a0_0,.int .i64 a0_1,.slice A0_2 l0_2.length c0_2] 24 (0,0)) (by (with_reducible repeat (refine qab ?_));exact BK247.out) hb);have NB248_249:=qaa.mk ((by rw [hg];exact Nat.ne_of_lt (qbn (g:=gb248) (o:=.cells #[.int .i64 a1_0,.int .i64 a1_1] 39 (0,0)) (by (with_reducible repeat (refine qab ?_));exact BK248.out)):gb248≠gb249));have NB249_248:=qaa.mk ((by rw [hg];exact Nat.ne_of_gt (qbn (g:=gb248) (o:=.cells #[.int .i64 a1_0,.int .i64 a1_1] 39 (0,0)) (by (with_reducible repeat (refine qab ?_));exact BK248.out)):gb249≠gb248));replace BK248:=qaa.mk (qah (g:=gb248) (o:=.cells #[.int .i64 a1_0,.int .i64 a1_1] 39 (0,0)) (by (with_reducible repeat (refine qab ?_));exact BK248.out) hb);clear hb hbox hg))
  have n0_:=qaa.mk (qab BK247.out)
  have n1_:=qaa.mk (qab BK248.out)
  have n2_:=qaa.mk (qab BK249.out)
  have n3_:=qaa.mk (qdb HB.out)
  clear BK247
  clear BK248
  clear BK249
  clear HB
  have BK247:=n0_
  have BK248:=n1_
  have BK249:=n2_
  have HB:=n3_
  clear n0_ n1_ n2_ n3_
  refine qfb (n:=5) (S:=fun w'=>w'.cell? ⟨gb247,0,none⟩=some (.bool a0_0)∧w'.cell? ⟨gb247,1,none⟩=some (.int .i64 a0_1)∧w'.cell? ⟨gb247,2,none⟩=some (.slice A0_2 l0_2.length c0_2)∧w'.cell? ⟨gb248,0,none⟩=some (.int .i64 a1_0)∧w'.cell? ⟨gb248,1,none⟩=some (.int .i64 a1_1)) (ds:=[]) #[false,false,false,false,false] (by kernel_rfl) rfl rfl ⟨(qad BK247.out 0).trans rfl,(qad BK247.out 1).trans rfl,(qad BK247.out 2).trans rfl,(qad BK248.out 0).trans rfl,(qad BK248.out 1).trans rfl⟩ (fun hHeld=>?_)
  generalize w11.drew=w12 at BK247 BK248 BK249 HB hHeld ⊢
  refine take_ (i:=0) (N:=some 10) (v:=?_) (a':=?_) #[true,false,false,false,false] rfl rfl (by kernel_rfl) (fun _ _ _ h=>h) (Or.inl ⟨by rfl,?_⟩) hHeld ?_ ?_
  rotate_left
  ·rintro w' ⟨s0,s1,s2,s3,s4⟩
   go_simp
   with_reducible rfl
  rotate_left
  ·simp only [Act.put,List.setIfInBounds_toArray,List.set_cons_zero,List.set_cons_succ,qbk,qbm]
   rfl
  refine take_ (i:=2) (N:=some 12) (v:=?_) (a':=?_) #[true,false,true,false,false] rfl rfl (by kernel_rfl) (fun _ _ _ h=>h) (Or.inl ⟨by rfl,?_⟩) hHeld ?_ ?_
  rotate_left
  ·rintro w' ⟨s0,s1,s2,s3,s4⟩
   go_simp
   with_reducible rfl
  rotate_left
  ·simp only [Act.put,List.setIfInBounds_toArray,List.set_cons_zero,List.set_cons_succ,qbk,qbm]
   rfl
  refine one_ (i:=1) (N:=some 11) #[true,true,true,false,false] rfl rfl (by kernel_rfl) (by decide) (fun K hK=>?_)
  refine qej Tryd.func26 (by kernel_rfl) rfl #[.agg #[.bool a0_0,.int .i64 a0_1,.slice A0_2 l0_2.length c0_2]] (by rfl) rfl rfl (by (try simp only [List.map_toArray,List.map_cons,List.map_nil]);rfl) ?_
  with_reducible refine (qcd.calls k a0_0 a0_1 _ _ l0_2 t250 _ ?side1 ?side2 ?side3 A3.out).mono ?_
  (case side1=>exact TabW.below' HTB.out HB.out)
  (case side2=>repeat (exact (Kd.C_below HR0_2.out HB.out)))
  (case side3=>exact HC0_2.out)
  rintro e w13 ⟨v251,rfl,ho0,hb⟩
  refine ⟨_,rfl,?_⟩
  have n0_:=qaa.mk (Kd.R_lower (Kd.R_newB (Kd.R_newM (M:=fun k_=>(w.heap.size≤k_)) ho0 (qac HB.out) (fun k_ h_=>h_)) (g:=gb248) (o:=.cells #[.int .i64 a1_0,.int .i64 a1_1] 39 (0,0)) (by (with_reducible repeat (refine qab ?_));exact BK248.out)) (qac HB.out))
  have n1_:=qaa.mk (qah (g:=gb247) (o:=.cells #[.bool a0_0,.int .i64 a0_1,.slice A0_2 l0_2.length c0_2] 24 (0,0)) (by (with_reducible repeat (refine qab ?_));exact BK247.out) hb)
  have n2_:=qaa.mk (qah (g:=gb248) (o:=.cells #[.int .i64 a1_0,.int .i64 a1_1] 39 (0,0)) (by (with_reducible repeat (refine qab ?_));exact BK248.out) hb)
  have n3_:=qaa.mk (qah (g:=gb249) (o:=.cells #[.slice none 0 0] 38 (0,0)) (by (with_reducible repeat (refine qab ?_));exact BK249.out) hb)
  have n4_:=qaa.mk (qal HB.out hb)
  clear BK247
  clear BK248
  clear BK249
  clear HB
  have HO252:=n0_
  have BK247:=n1_
  have BK248:=n2_
  have BK249:=n3_
  have HB:=n4_
  clear n0_ n1_ n2_ n3_ n4_
  (try clear hb)
  (try clear ho0)
  obtain ⟨Ao14,co14,eo14⟩:=Kd.R_slice HO252.out
  (subst eo14)
  refine hK.out _ _ ⟨(qad BK247.out 0).trans rfl,(qad BK247.out 1).trans rfl,(qad BK247.out 2).trans rfl,(qad BK248.out 0).trans rfl,(qad BK248.out 1).trans rfl⟩ (fun hHeld=>?_)
  clear hK K
  refine qdt (a':=?_) ?_ ?_
  rotate_left
  ·show Act.put _ (some 11) _=_
   simp only [Act.put,List.setIfInBounds_toArray,List.set_cons_zero,List.set_cons_succ,qbk,qbm]
   rfl
  refine one_ (i:=3) (N:=some 13) #[true,true,true,true,false] rfl rfl (by kernel_rfl) (by decide) (fun K hK=>?_)
  refine qej Tryd.func58 (by kernel_rfl) rfl #[.slice Ao14 t250.length co14,.agg #[.int .i64 a1_0,.int .i64 a1_1]] (by rfl) rfl rfl (by (try simp only [List.map_toArray,List.map_cons,List.map_nil]);rfl) ?_
  with_reducible refine (qbt.calls k _ _ t250 a1_0 a1_1 true _ ?side1 ?side2 A4.out).mono ?_
  (case side1=>repeat (exact (Kd.R_reads' HO252.out).2.2))
  (case side2=>exact (Kd.R_reads' HO252.out).2.1)
  rintro e w15 ⟨rfl,hb⟩
  refine ⟨_,rfl,?_⟩
  have n0_:=qaa.mk (Kd.R_below (by (with_reducible repeat (apply Kd.R_drew));exact HO252.out) hb)
  have n1_:=qaa.mk (qah (g:=gb247) (o:=.cells #[.bool a0_0,.int .i64 a0_1,.slice A0_2 l0_2.length c0_2] 24 (0,0)) (by (with_reducible repeat (refine qab ?_));exact BK247.out) hb)
  have n2_:=qaa.mk (qah (g:=gb248) (o:=.cells #[.int .i64 a1_0,.int .i64 a1_1] 39 (0,0)) (by (with_reducible repeat (refine qab ?_));exact BK248.out) hb)
  have n3_:=qaa.mk (qah (g:=gb249) (o:=.cells #[.slice none 0 0] 38 (0,0)) (by (with_reducible repeat (refine qab ?_));exact BK249.out) hb)
  have n4_:=qaa.mk (qal HB.out hb)
  clear HO252
  clear BK247
  clear BK248
  clear BK249
  clear HB
  have HO252:=n0_
  have BK247:=n1_
  have BK248:=n2_
  have BK249:=n3_
  have HB:=n4_
  clear n0_ n1_ n2_ n3_ n4_
  (try clear hb)
  refine hK.out _ _ ⟨(qad BK247.out 0).trans rfl,(qad BK247.out 1).trans rfl,(qad BK247.out 2).trans rfl,(qad BK248.out 0).trans rfl,(qad BK248.out 1).trans rfl⟩ (fun hHeld=>?_)
  clear hK K
  refine qdt (a':=?_) ?_ ?_
  rotate_left
  ·show Act.put _ (some 13) _=_
   simp only [Act.put,List.setIfInBounds_toArray,List.set_cons_zero,List.set_cons_succ,qbk,qbm]
   rfl
  refine qct (i:=4) (N:=some 14) (v:=?_) (a':=?_) #[true,true,true,true,true] rfl rfl (by kernel_rfl) (fun _ _ _ h=>h) (Or.inl ⟨by rfl,?_⟩) ?_ ?_
  rotate_left
  ·intro w'
   go_simp
   with_reducible rfl
  rotate_left
  ·simp only [Act.put,List.setIfInBounds_toArray,List.set_cons_zero,List.set_cons_succ,qbk,qbm]
   rfl
  refine qfq (by kernel_rfl) ?_
  have hnb16:=NB248_247.out
  have hnc16:=NB247_248.out
  have hnb17:=NB248_249.out
  have hnc17:=NB249_248.out
  have hcz18_0:w15.cell? ⟨gb248,0,none⟩=some (.int .i64 a1_0):=(qad BK248.out 0).trans rfl
  have hcz18_1:w15.cell? ⟨gb248,1,none⟩=some (.int .i64 a1_1):=(qad BK248.out 1).trans rfl
  have hfz18_0:=qaf BK248.out 0
  have hfz18_1:=qaf BK248.out 1
  try go_wp2_with (first|((with_reducible refine qbf (N:=18) rfl ?_);refine Kd.R_lit (Kd.int .i64) _ 3 ?hg (N:=18) ?hd (xs:=([a1_1]:List Int)) (inner:=[.int .i64 a1_1]) (ok:=fun _=>True) (okp:=fun _=>True) ?hr ?hp (fun _ hk=>hk) trivial (Below.refl _ _) (Nat.le_refl _) (by simp) ?_;(case hd=>rfl);(case hg=>rfl);(case hr=>(go_simp;done));(case hp=>exact (Reps.one (show Kd.M (Kd.int .i64) _ _ _ a1_1 [.int .i64 a1_1] from rfl) (Reps.none _ _)));intro v255 w19 ho20 hb hg_ hnew_;clear hg_ hnew_;(rw [← Ny254.out] at ho20);replace HO252:=qaa.mk (Kd.R_below (by (with_reducible repeat (apply Kd.R_drew));exact HO252.out) hb);have HO256:=qaa.mk (Kd.R_lower (Kd.R_newM (M:=fun k_=>(w.heap.size≤k_)) ho20 (qac HB.out) (fun k_ h_=>h_)) (qac HB.out));replace BK247:=qaa.mk (qah (g:=gb247) (o:=.cells #[.bool a0_0,.int .i64 a0_1,.slice A0_2 l0_2.length c0_2] 24 (0,0)) (by (with_reducible repeat (refine qab ?_));exact BK247.out) hb);replace BK248:=qaa.mk (qah (g:=gb248) (o:=.cells #[.int .i64 a1_0,.int .i64 a1_1] 39 (0,0)) (by (with_reducible repeat (refine qab ?_));exact BK248.out) hb);replace BK249:=qaa.mk (qah (g:=gb249) (o:=.cells #[.slice none 0 0] 38 (0,0)) (by (with_reducible repeat (refine qab ?_));exact BK249.out) hb);replace HB:=qaa.mk (qal HB.out hb);clear hb ho20;obtain ⟨Ao21,co21,eo21⟩:=Kd.R_slice HO256.out;subst eo21)|((with_reducible refine qbb (f:=34) rfl ?_);refine qcv (some 19) rfl rfl Tryd.func34 (by kernel_rfl) rfl #[.slice Ao21 y254.length co21] rfl (by (try simp only [List.map_toArray,List.map_cons,List.map_nil]);rfl) ?_;(with_reducible refine (qax.calls k _ _ y254 t257 _ ?side1 ?side2 A6.out).mono ?_);(case side1=>repeat (exact (Kd.R_reads' HO256.out).2.2));(case side2=>exact (Kd.R_reads' HO256.out).2.1);rintro e w22 ⟨v258,rfl,ho0,hb⟩;refine ⟨_,rfl,?_⟩;have HO259:=qaa.mk (Kd.V_lower (Kd.V_mono (ok':=fun k_=>(w.heap.size≤k_)∧some k_≠(.slice Ao14 t250.length co14:Value).ownBlock∧some k_≠(.slice Ao21 y254.length co21:Value).ownBlock∧k_≠gb247∧k_≠gb248∧k_≠gb249) ho0 (fun k_ hk_=>⟨(Nat.le_trans (qac HB.out) hk_),(Kd.fresh' (Kd.R_lt (by (with_reducible repeat (apply Kd.R_drew));exact HO252.out)) k_ hk_),(Kd.fresh' (Kd.R_lt (by (with_reducible repeat (apply Kd.R_drew));exact HO256.out)) k_ hk_),(Kd.freshB (g:=gb247) (o:=.cells #[.bool a0_0,.int .i64 a0_1,.slice A0_2 l0_2.length c0_2] 24 (0,0)) (by (with_reducible repeat (refine qab ?_));exact BK247.out) k_ hk_),(Kd.freshB (g:=gb248) (o:=.cells #[.int .i64 a1_0,.int .i64 a1_1] 39 (0,0)) (by (with_reducible repeat (refine qab ?_));exact BK248.out) k_ hk_),(Kd.freshB (g:=gb249) (o:=.cells #[.slice none 0 0] 38 (0,0)) (by (with_reducible repeat (refine qab ?_));exact BK249.out) k_ hk_)⟩)) (qac HB.out));replace HO252:=qaa.mk (Kd.R_below (by (with_reducible repeat (apply Kd.R_drew));exact HO252.out) hb);replace HO256:=qaa.mk (Kd.R_below (by (with_reducible repeat (apply Kd.R_drew));exact HO256.out) hb);replace BK247:=qaa.mk (qah (g:=gb247) (o:=.cells #[.bool a0_0,.int .i64 a0_1,.slice A0_2 l0_2.length c0_2] 24 (0,0)) (by (with_reducible repeat (refine qab ?_));exact BK247.out) hb);replace BK248:=qaa.mk (qah (g:=gb248) (o:=.cells #[.int .i64 a1_0,.int .i64 a1_1] 39 (0,0)) (by (with_reducible repeat (refine qab ?_));exact BK248.out) hb);replace BK249:=qaa.mk (qah (g:=gb249) (o:=.cells #[.slice none 0 0] 38 (0,0)) (by (with_reducible repeat (refine qab ?_));exact BK249.out) hb);replace HB:=qaa.mk (qal HB.out hb);(try clear hb);(try clear ho0))|((with_reducible refine qbf (N:=5) rfl ?_);refine qbr ?hg (N:=5) ?hd (cs:=#[.slice none 0 0]) (t:=38) ?hr ?_;(case hd=>rfl);(case hg=>rfl);(case hr=>(go_simp;done));intro gb260 hg w23 hbox hb;replace HO252:=qaa.mk (Kd.R_below (by (with_reducible repeat (apply Kd.R_drew));exact HO252.out) hb);replace HO256:=qaa.mk (Kd.R_below (by (with_reducible repeat (apply Kd.R_drew));exact HO256.out) hb);replace HO259:=qaa.mk (Kd.V_below (Kd.V_elderB (by (with_reducible repeat (apply Kd.V_drew));exact HO259.out) gb260 (Nat.le_of_eq hg.symm)) hb);have BK260:=qaa.mk (hbox);have GW260:=qaa.mk ((by rw [hg];exact (qac HB.out):w.heap.size≤gb260));have GE260:=qaa.mk ((by rw [hg];exact (qac HB.out):w.heap.size≤gb260));replace HB:=qaa.mk (qal HB.out hb);have NB247_260:=qaa.mk ((by rw [hg];exact Nat.ne_of_lt (qbn (g:=gb247) (o:=.cells #[.bool a0_0,.int .i64 a0_1,.slice A0_2 l0_2.length c0_2] 24 (0,0)) (by (with_reducible repeat (refine qab ?_));exact BK247.out)):gb247≠gb260));have NB260_247:=qaa.mk ((by rw [hg];exact Nat.ne_of_gt (qbn (g:=gb247) (o:=.cells #[.bool a0_0,.int .i64 a0_1,.slice A0_2 l0_2.length c0_2] 24 (0,0)) (by (with_reducible repeat (refine qab ?_));exact BK247.out)):gb260≠gb247));replace BK247:=qaa.mk (qah (g:=gb247) (o:=.cells #[.bool a0_0,.int .i64 a0_1,.slice A0_2 l0_2.length c0_2] 24 (0,0)) (by (with_reducible repeat (refine qab ?_));exact BK247.out) hb);have NB248_260:=qaa.mk ((by rw [hg];exact Nat.ne_of_lt (qbn (g:=gb248) (o:=.cells #[.int .i64 a1_0,.int .i64 a1_1] 39 (0,0)) (by (with_reducible repeat (refine qab ?_));exact BK248.out)):gb248≠gb260));have NB260_248:=qaa.mk ((by rw [hg];exact Nat.ne_of_gt (qbn (g:=gb248) (o:=.cells #[.int .i64 a1_0,.int .i64 a1_1] 39 (0,0)) (by (with_reducible repeat (refine qab ?_));exact BK248.out)):gb260≠gb248));replace BK248:=qaa.mk (qah (g:=gb248) (o:=.cells #[.int .i64 a1_0,.int .i64 a1_1] 39 (0,0)) (by (with_reducible repeat (refine qab ?_));exact BK248.out) hb);have NB249_260:=qaa.mk ((by rw [hg];exact Nat.ne_of_lt (qbn (g:=gb249) (o:=.cells #[.slice none 0 0] 38 (0,0)) (by (with_reducible repeat (refine qab ?_));exact BK249.out)):gb249≠gb260));have NB260_249:=qaa.mk ((by rw [hg];exact Nat.ne_of_gt (qbn (g:=gb249) (o:=.cells #[.slice none 0 0] 38 (0,0)) (by (with_reducible repeat (refine qab ?_));exact BK249.out)):gb260≠gb249));replace BK249:=qaa.mk (qah (g:=gb249) (o:=.cells #[.slice none 0 0] 38 (0,0)) (by (with_reducible repeat (refine qab ?_));exact BK249.out) hb);clear hb hbox hg;obtain ⟨Ao24,co24,eo24⟩:=Kd.V_slice HO259.out;subst eo24;have hnb25:=NB260_247.out;have hnc25:=NB247_260.out;have hnb26:=NB260_248.out;have hnc26:=NB248_260.out;have hnb27:=NB260_249.out;have hnc27:=NB249_260.out;have hcz28_0:w23.cell? ⟨gb260,0,none⟩=some (.slice none 0 0):=(qad BK260.out 0).trans rfl;have hfz28_0:=qaf BK260.out 0))
  have n0_:qaa (Kd.R k39 39 (w23.setCell ⟨gb260,0,none⟩ (.slice Ao24 t257.length co24)) w.heap.size (fun k_=>(w.heap.size≤k_)∧k_≠gb248) (.slice Ao14 t250.length co14) t250):=⟨by (with_reducible repeat (apply Kd.R_drew));exact Kd.R_mono (Kd.R_far (p:=⟨gb260,0,none⟩) (Kd.R_types HO252.out BK260.out (by decide)) (fun _ hk=>hk.2) (.slice Ao24 t257.length co24)) (fun _ hk=>⟨hk.1.1.1,hk.1.2⟩)⟩
  have n1_:qaa (Kd.R (Kd.int .i64) 3 (w23.setCell ⟨gb260,0,none⟩ (.slice Ao24 t257.length co24)) w.heap.size (fun k_=>(w.heap.size≤k_)) (.slice Ao21 y254.length co21) y254):=⟨by (with_reducible repeat (apply Kd.R_drew));exact Kd.R_mono (Kd.R_far (p:=⟨gb260,0,none⟩) (Kd.R_types HO256.out BK260.out (by decide)) (fun _ hk=>hk.2) (.slice Ao24 t257.length co24)) (fun _ hk=>hk.1.1)⟩
  have n2_:qaa (Kd.V (Kd.int .u64) 77 (w23.setCell ⟨gb260,0,none⟩ (.slice Ao24 t257.length co24)) w.heap.size (fun k_=>(w.heap.size≤k_)∧some k_≠(.slice Ao14 t250.length co14:Value).ownBlock∧some k_≠(.slice Ao21 y254.length co21:Value).ownBlock∧k_≠gb247∧k_≠gb248∧k_≠gb249∧k_≠gb260) (.slice Ao24 t257.length co24) t257):=⟨by (with_reducible repeat (apply Kd.V_drew));exact Kd.V_mono (Kd.V_far (p:=⟨gb260,0,none⟩) (Kd.V_mono HO259.out (fun k_ hk=>(⟨hk,hk.2⟩:_∧k_≠gb260))) (fun _ hk=>hk.2) (.slice Ao24 t257.length co24)) (fun _ hk=>⟨hk.1.1.1,⟨hk.1.1.2.1,⟨hk.1.1.2.2.1,⟨hk.1.1.2.2.2.1,⟨hk.1.1.2.2.2.2.1,⟨hk.1.1.2.2.2.2.2,hk.1.2⟩⟩⟩⟩⟩⟩)⟩
  have n3_:qaa ((w23.setCell ⟨gb260,0,none⟩ (.slice Ao24 t257.length co24)).heap[gb247]?=some (.cells #[.bool a0_0,.int .i64 a0_1,.slice A0_2 l0_2.length c0_2] 24 (0,0))):=⟨by (with_reducible repeat (refine qab ?_));refine qcx ?_ NB247_260.out _;(with_reducible repeat (refine qab ?_));exact BK247.out⟩
  have n4_:qaa ((w23.setCell ⟨gb260,0,none⟩ (.slice Ao24 t257.length co24)).heap[gb248]?=some (.cells #[.int .i64 a1_0,.int .i64 a1_1] 39 (0,0))):=⟨by (with_reducible repeat (refine qab ?_));refine qcx ?_ NB248_260.out _;(with_reducible repeat (refine qab ?_));exact BK248.out⟩
  have n5_:qaa ((w23.setCell ⟨gb260,0,none⟩ (.slice Ao24 t257.length co24)).heap[gb249]?=some (.cells #[.slice none 0 0] 38 (0,0))):=⟨by (with_reducible repeat (refine qab ?_));refine qcx ?_ NB249_260.out _;(with_reducible repeat (refine qab ?_));exact BK249.out⟩
  have n6_:qaa ((w23.setCell ⟨gb260,0,none⟩ (.slice Ao24 t257.length co24)).heap[gb260]?=some (.cells #[.slice Ao24 t257.length co24] 38 (0,0))):=⟨by (with_reducible repeat (refine qab ?_));refine qcs (cs:=#[.slice none 0 0]) ?_ 0 _ rfl;(with_reducible repeat (refine qab ?_));exact BK260.out⟩
  have n7_:qaa (Below w.heap.size w (w23.setCell ⟨gb260,0,none⟩ (.slice Ao24 t257.length co24))):=⟨by repeat ((with_reducible first|exact HB.out|refine qbx ?_ GE260.out))⟩
  (try clear HO252)
  (try clear HO256)
  (try clear HO259)
  (try clear BK247)
  (try clear BK248)
  (try clear BK249)
  (try clear BK260)
  (try clear HB)
  generalize (w23.setCell ⟨gb260,0,none⟩ (.slice Ao24 t257.length co24))=w29 at n0_ n1_ n2_ n3_ n4_ n5_ n6_ n7_ ⊢
  have HO252:=n0_
  have HO256:=n1_
  have HO259:=n2_
  have BK247:=n3_
  have BK248:=n4_
  have BK249:=n5_
  have BK260:=n6_
  have HB:=n7_
  clear n0_ n1_ n2_ n3_ n4_ n5_ n6_ n7_
  have n0_:=qaa.mk (Kd.R_drew HO252.out)
  have n1_:=qaa.mk (Kd.R_drew HO256.out)
  have n2_:=qaa.mk (Kd.V_drew HO259.out)
  have n3_:=qaa.mk (qab BK247.out)
  have n4_:=qaa.mk (qab BK248.out)
  have n5_:=qaa.mk (qab BK249.out)
  have n6_:=qaa.mk (qab BK260.out)
  have n7_:=qaa.mk (qdb HB.out)
  clear HO252
  clear HO256
  clear HO259
  clear BK247
  clear BK248
  clear BK249
  clear BK260
  clear HB
  have HO252:=n0_
  have HO256:=n1_
  have HO259:=n2_
  have BK247:=n3_
  have BK248:=n4_
  have BK249:=n5_
  have BK260:=n6_
  have HB:=n7_
  clear n0_ n1_ n2_ n3_ n4_ n5_ n6_ n7_
  refine qfb (n:=7) (S:=fun w'=>w'.cell? ⟨gb247,0,none⟩=some (.bool a0_0)∧w'.cell? ⟨gb247,1,none⟩=some (.int .i64 a0_1)∧w'.cell? ⟨gb247,2,none⟩=some (.slice A0_2 l0_2.length c0_2)) (ds:=[]) #[false,false,false,false,false,false,false] (by kernel_rfl) rfl rfl ⟨(qad BK247.out 0).trans rfl,(qad BK247.out 1).trans rfl,(qad BK247.out 2).trans rfl⟩ (fun hHeld=>?_)
  generalize w29.drew=w30 at HO252 HO256 HO259 BK247 BK248 BK249 BK260 HB hHeld ⊢
  refine take_ (i:=0) (N:=some 20) (v:=?_) (a':=?_) #[true,false,false,false,false,false,false] rfl rfl (by kernel_rfl) (fun _ _ _ h=>h) (Or.inl ⟨by rfl,?_⟩) hHeld ?_ ?_
  rotate_left
  ·rintro w' ⟨s0,s1,s2⟩
   go_simp
   with_reducible rfl
  rotate_left
  ·simp only [Act.put,List.setIfInBounds_toArray,List.set_cons_zero,List.set_cons_succ,qbk,qbm]
   rfl
  refine take_ (i:=2) (N:=some 22) (v:=?_) (a':=?_) #[true,false,true,false,false,false,false] rfl rfl (by kernel_rfl) (fun _ _ _ h=>h) (Or.inl ⟨by rfl,?_⟩) hHeld ?_ ?_
  rotate_left
  ·rintro w' ⟨s0,s1,s2⟩
   go_simp
   with_reducible rfl
  rotate_left
  ·simp only [Act.put,List.setIfInBounds_toArray,List.set_cons_zero,List.set_cons_succ,qbk,qbm]
   rfl
  refine join_ (σ:=Value×Value×Nat) 2 #[true,true,true,true,true,false,false] (fun s_=>[(21,s_.1),(23,.agg #[s_.2.1]),(7,.pointer (some ⟨s_.2.2,0,none⟩))]) (fun s_ w'=>(w'.cell? ⟨gb247,0,none⟩=some (.bool a0_0)∧w'.cell? ⟨gb247,1,none⟩=some (.int .i64 a0_1)∧w'.cell? ⟨gb247,2,none⟩=some (.slice A0_2 l0_2.length c0_2))∧(Kd.R k39 39 w' w.heap.size (fun k_=>(w.heap.size≤k_)∧k_≠gb248) (.slice Ao14 t250.length co14) t250)∧(Kd.R (Kd.int .i64) 3 w' w.heap.size (fun k_=>(w.heap.size≤k_)) (.slice Ao21 y254.length co21) y254)∧(Kd.V (Kd.int .u64) 77 w' w.heap.size (fun k_=>(w.heap.size≤k_)∧some k_≠(.slice Ao14 t250.length co14:Value).ownBlock∧some k_≠(.slice Ao21 y254.length co21:Value).ownBlock∧k_≠gb247∧k_≠gb248∧k_≠gb249∧k_≠gb260∧k_≠s_.2.2) (.slice Ao24 t257.length co24) t257)∧(Kd.V (Kd.slice 3 (Kd.int .i64)) 31 w' w.heap.size (fun k_=>(w.heap.size≤k_)∧some k_≠(.slice Ao14 t250.length co14:Value).ownBlock∧some k_≠(.slice Ao21 y254.length co21:Value).ownBlock∧k_≠gb247∧k_≠gb248∧k_≠gb249∧k_≠gb260∧k_≠s_.2.2) s_.1 t261)∧(Kd.V (Kd.int .u64) 77 w' w.heap.size (fun k_=>(w.heap.size≤k_)∧some k_≠(.slice Ao14 t250.length co14:Value).ownBlock∧some k_≠(.slice Ao21 y254.length co21:Value).ownBlock∧k_≠gb247∧k_≠gb248∧k_≠gb249∧k_≠gb260∧k_≠s_.2.2) s_.2.1 t264)∧(w'.heap[gb247]?=some (.cells #[.bool a0_0,.int .i64 a0_1,.slice A0_2 l0_2.length c0_2] 24 (0,0)))∧(w'.heap[gb248]?=some (.cells #[.int .i64 a1_0,.int .i64 a1_1] 39 (0,0)))∧(w'.heap[gb249]?=some (.cells #[.slice none 0 0] 38 (0,0)))∧(w'.heap[gb260]?=some (.cells #[.slice Ao24 t257.length co24] 38 (0,0)))∧(w'.heap[s_.2.2]?=some (.cells #[.slice none 0 0] 38 (0,0)))∧(w.heap.size≤s_.2.2)∧(w.heap.size≤s_.2.2)∧(gb247≠s_.2.2)∧(s_.2.2≠gb247)∧(gb248≠s_.2.2)∧(s_.2.2≠gb248)∧(gb249≠s_.2.2)∧(s_.2.2≠gb249)∧(gb260≠s_.2.2)∧(s_.2.2≠gb260)∧(Below w.heap.size w w')) ?_ ?_
  rotate_left
  ·intro hCont
   refine two_ (i:=1) (j:=4) (Ni:=some 21) (Nj:=some 7) #[true,true,true,false,false,false,false] #[true,false,true,false,true,false,false] rfl rfl rfl rfl (by kernel_rfl) (by decide) (by decide) (fun K hK=>?_) (fun K hK=>?_)
   ·skip
    refine qej Tryd.func16 (by kernel_rfl) rfl #[.agg #[.bool a0_0,.int .i64 a0_1,.slice A0_2 l0_2.length c0_2]] (by rfl) rfl rfl (by (try simp only [List.map_toArray,List.map_cons,List.map_nil]);rfl) ?_
    with_reducible refine (qbv.calls k a0_0 a0_1 _ _ l0_2 t261 _ ?side1 ?side2 A7.out).mono ?_
    (case side1=>repeat (exact (Kd.C_below HR0_2.out HB.out)))
    (case side2=>exact HC0_2.out)
    rintro e w31 ⟨v262,rfl,ho0,hb⟩
    refine ⟨_,rfl,?_⟩
    have n0_:=qaa.mk (Kd.R_below (by (with_reducible repeat (apply Kd.R_drew));exact HO252.out) hb)
    have n1_:=qaa.mk (Kd.R_below (by (with_reducible repeat (apply Kd.R_drew));exact HO256.out) hb)
    have n2_:=qaa.mk (Kd.V_below (by (with_reducible repeat (apply Kd.V_drew));exact HO259.out) hb)
    have n3_:=qaa.mk (Kd.V_lower (Kd.V_mono (ok':=fun k_=>(w.heap.size≤k_)∧some k_≠(.slice Ao14 t250.length co14:Value).ownBlock∧some k_≠(.slice Ao21 y254.length co21:Value).ownBlock∧k_≠gb247∧k_≠gb248∧k_≠gb249∧k_≠gb260) ho0 (fun k_ hk_=>⟨(Nat.le_trans (qac HB.out) hk_),(Kd.fresh' (Kd.R_lt (by (with_reducible repeat (apply Kd.R_drew));exact HO252.out)) k_ hk_),(Kd.fresh' (Kd.R_lt (by (with_reducible repeat (apply Kd.R_drew));exact HO256.out)) k_ hk_),(Kd.freshB (g:=gb247) (o:=.cells #[.bool a0_0,.int .i64 a0_1,.slice A0_2 l0_2.length c0_2] 24 (0,0)) (by (with_reducible repeat (refine qab ?_));exact BK247.out) k_ hk_),(Kd.freshB (g:=gb248) (o:=.cells #[.int .i64 a1_0,.int .i64 a1_1] 39 (0,0)) (by (with_reducible repeat (refine qab ?_));exact BK248.out) k_ hk_),(Kd.freshB (g:=gb249) (o:=.cells #[.slice none 0 0] 38 (0,0)) (by (with_reducible repeat (refine qab ?_));exact BK249.out) k_ hk_),(Kd.freshB (g:=gb260) (o:=.cells #[.slice Ao24 t257.length co24] 38 (0,0)) (by (with_reducible repeat (refine qab ?_));exact BK260.out) k_ hk_)⟩)) (qac HB.out))
    have n4_:=qaa.mk (qah (g:=gb247) (o:=.cells #[.bool a0_0,.int .i64 a0_1,.slice A0_2 l0_2.length c0_2] 24 (0,0)) (by (with_reducible repeat (refine qab ?_));exact BK247.out) hb)
    have n5_:=qaa.mk (qah (g:=gb248) (o:=.cells #[.int .i64 a1_0,.int .i64 a1_1] 39 (0,0)) (by (with_reducible repeat (refine qab ?_));exact BK248.out) hb)
    have n6_:=qaa.mk (qah (g:=gb249) (o:=.cells #[.slice none 0 0] 38 (0,0)) (by (with_reducible repeat (refine qab ?_));exact BK249.out) hb)
    have n7_:=qaa.mk (qah (g:=gb260) (o:=.cells #[.slice Ao24 t257.length co24] 38 (0,0)) (by (with_reducible repeat (refine qab ?_));exact BK260.out) hb)
    have n8_:=qaa.mk (qal HB.out hb)
    clear HO252
    clear HO256
    clear HO259
    clear BK247
    clear BK248
    clear BK249
    clear BK260
    clear HB
    have HO252:=n0_
    have HO256:=n1_
    have HO259:=n2_
    have HO263:=n3_
    have BK247:=n4_
    have BK248:=n5_
    have BK249:=n6_
    have BK260:=n7_
    have HB:=n8_
    clear n0_ n1_ n2_ n3_ n4_ n5_ n6_ n7_ n8_
    (try clear hb)
    (try clear ho0)
    refine hK.out _ _ ⟨(qad BK247.out 0).trans rfl,(qad BK247.out 1).trans rfl,(qad BK247.out 2).trans rfl⟩ (fun hHeld=>?_)
    clear hK K
    refine qdt (a':=?_) ?_ ?_
    rotate_left
    ·show Act.put _ (some 21) _=_
     simp only [Act.put,List.setIfInBounds_toArray,List.set_cons_zero,List.set_cons_succ,qbk,qbm]
     rfl
    refine two_ (i:=3) (j:=4) (Ni:=some 23) (Nj:=some 7) #[true,true,true,true,false,false,false] #[true,true,true,false,true,false,false] rfl rfl rfl rfl (by kernel_rfl) (by decide) (by decide) (fun K hK=>?_) (fun K hK=>?_)
    ·skip
     refine qej Tryd.func30 (by kernel_rfl) rfl #[.agg #[.bool a0_0,.int .i64 a0_1,.slice A0_2 l0_2.length c0_2],.int .i64 0] (by rfl) rfl rfl (by (try simp only [List.map_toArray,List.map_cons,List.map_nil]);rfl) ?_
     with_reducible refine (qcf.calls k a0_0 a0_1 _ _ l0_2 0 t264 _ ?side1 ?side2 ?side3 A8.out).mono ?_
     (case side1=>exact TabW.below' HTB.out HB.out)
     (case side2=>repeat (exact (Kd.C_below HR0_2.out HB.out)))
     (case side3=>exact HC0_2.out)
     rintro e w32 ⟨v265,rfl,ho0,hb⟩
     refine ⟨_,rfl,?_⟩
     have n0_:=qaa.mk (Kd.R_below (by (with_reducible repeat (apply Kd.R_drew));exact HO252.out) hb)
     have n1_:=qaa.mk (Kd.R_below (by (with_reducible repeat (apply Kd.R_drew));exact HO256.out) hb)
     have n2_:=qaa.mk (Kd.V_below (by (with_reducible repeat (apply Kd.V_drew));exact HO259.out) hb)
     have n3_:=qaa.mk (Kd.V_below (by (with_reducible repeat (apply Kd.V_drew));exact HO263.out) hb)
     have n4_:=qaa.mk (Kd.V_lower (Kd.V_mono (ok':=fun k_=>(w.heap.size≤k_)∧some k_≠(.slice Ao14 t250.length co14:Value).ownBlock∧some k_≠(.slice Ao21 y254.length co21:Value).ownBlock∧k_≠gb247∧k_≠gb248∧k_≠gb249∧k_≠gb260) ho0 (fun k_ hk_=>⟨(Nat.le_trans (qac HB.out) hk_),(Kd.fresh' (Kd.R_lt (by (with_reducible repeat (apply Kd.R_drew));exact HO252.out)) k_ hk_),(Kd.fresh' (Kd.R_lt (by (with_reducible repeat (apply Kd.R_drew));exact HO256.out)) k_ hk_),(Kd.freshB (g:=gb247) (o:=.cells #[.bool a0_0,.int .i64 a0_1,.slice A0_2 l0_2.length c0_2] 24 (0,0)) (by (with_reducible repeat (refine qab ?_));exact BK247.out) k_ hk_),(Kd.freshB (g:=gb248) (o:=.cells #[.int .i64 a1_0,.int .i64 a1_1] 39 (0,0)) (by (with_reducible repeat (refine qab ?_));exact BK248.out) k_ hk_),(Kd.freshB (g:=gb249) (o:=.cells #[.slice none 0 0] 38 (0,0)) (by (with_reducible repeat (refine qab ?_));exact BK249.out) k_ hk_),(Kd.freshB (g:=gb260) (o:=.cells #[.slice Ao24 t257.length co24] 38 (0,0)) (by (with_reducible repeat (refine qab ?_));exact BK260.out) k_ hk_)⟩)) (qac HB.out))
     have n5_:=qaa.mk (qah (g:=gb247) (o:=.cells #[.bool a0_0,.int .i64 a0_1,.slice A0_2 l0_2.length c0_2] 24 (0,0)) (by (with_reducible repeat (refine qab ?_));exact BK247.out) hb)
     have n6_:=qaa.mk (qah (g:=gb248) (o:=.cells #[.int .i64 a1_0,.int .i64 a1_1] 39 (0,0)) (by (with_reducible repeat (refine qab ?_));exact BK248.out) hb)
     have n7_:=qaa.mk (qah (g:=gb249) (o:=.cells #[.slice none 0 0] 38 (0,0)) (by (with_reducible repeat (refine qab ?_));exact BK249.out) hb)
     have n8_:=qaa.mk (qah (g:=gb260) (o:=.cells #[.slice Ao24 t257.length co24] 38 (0,0)) (by (with_reducible repeat (refine qab ?_));exact BK260.out) hb)
     have n9_:=qaa.mk (qal HB.out hb)
     clear HO252
     clear HO256
     clear HO259
     clear HO263
     clear BK247
     clear BK248
     clear BK249
     clear BK260
     clear HB
     have HO252:=n0_
     have HO256:=n1_
     have HO259:=n2_
     have HO263:=n3_
     have HO266:=n4_
     have BK247:=n5_
     have BK248:=n6_
     have BK249:=n7_
     have BK260:=n8_
     have HB:=n9_
     clear n0_ n1_ n2_ n3_ n4_ n5_ n6_ n7_ n8_ n9_
     (try clear hb)
     (try clear ho0)
     refine hK.out _ _ ⟨(qad BK247.out 0).trans rfl,(qad BK247.out 1).trans rfl,(qad BK247.out 2).trans rfl⟩ (fun hHeld=>?_)
     clear hK K
     refine qdt (a':=?_) ?_ ?_
     rotate_left
     ·show Act.put _ (some 23) _=_
      simp only [Act.put,List.setIfInBounds_toArray,List.set_cons_zero,List.set_cons_succ,qbk,qbm]
      rfl
     refine one_ (i:=4) (N:=some 7) #[true,true,true,true,true,false,false] rfl rfl (by kernel_rfl) (by decide) (fun K hK=>?_)
     refine box_step ?hg (N:=7) ?hd (cs:=#[.slice none 0 0]) (t:=38) ?hr ?_;(case hd=>rfl);(case hg=>rfl);(case hr=>(go_simp;done))
     intro gb267 hg w33 hbox hb
     have n0_:=qaa.mk (Kd.R_below (by (with_reducible repeat (apply Kd.R_drew));exact HO252.out) hb)
     have n1_:=qaa.mk (Kd.R_below (by (with_reducible repeat (apply Kd.R_drew));exact HO256.out) hb)
     have n2_:=qaa.mk (Kd.V_below (Kd.V_elderB (by (with_reducible repeat (apply Kd.V_drew));exact HO259.out) gb267 (Nat.le_of_eq hg.symm)) hb)
     have n3_:=qaa.mk (Kd.V_below (Kd.V_elderB (by (with_reducible repeat (apply Kd.V_drew));exact HO263.out) gb267 (Nat.le_of_eq hg.symm)) hb)
     have n4_:=qaa.mk (Kd.V_below (Kd.V_elderB (by (with_reducible repeat (apply Kd.V_drew));exact HO266.out) gb267 (Nat.le_of_eq hg.symm)) hb)
     have n5_:=qaa.mk (qah (g:=gb247) (o:=.cells #[.bool a0_0,.int .i64 a0_1,.slice A0_2 l0_2.length c0_2] 24 (0,0)) (by (with_reducible repeat (refine qab ?_));exact BK247.out) hb)
     have n6_:=qaa.mk (qah (g:=gb248) (o:=.cells #[.int .i64 a1_0,.int .i64 a1_1] 39 (0,0)) (by (with_reducible repeat (refine qab ?_));exact BK248.out) hb)
     have n7_:=qaa.mk (qah (g:=gb249) (o:=.cells #[.slice none 0 0] 38 (0,0)) (by (with_reducible repeat (refine qab ?_));exact BK249.out) hb)
     have n8_:=qaa.mk (qah (g:=gb260) (o:=.cells #[.slice Ao24 t257.length co24] 38 (0,0)) (by (with_reducible repeat (refine qab ?_));exact BK260.out) hb)
     have n9_:=qaa.mk (qal HB.out hb)
     have n10_:=qaa.mk (hbox)
     have n11_:=qaa.mk ((by rw [hg];exact (qac HB.out):w.heap.size≤gb267))
     have n12_:=qaa.mk ((by rw [hg];exact (qac HB.out):w.heap.size≤gb267))
     have n13_:=qaa.mk ((by rw [hg];exact Nat.ne_of_lt (qbn (g:=gb247) (o:=.cells #[.bool a0_0,.int .i64 a0_1,.slice A0_2 l0_2.length c0_2] 24 (0,0)) (by (with_reducible repeat (refine qab ?_));exact BK247.out)):gb247≠gb267))
     have n14_:=qaa.mk ((by rw [hg];exact Nat.ne_of_gt (qbn (g:=gb247) (o:=.cells #[.bool a0_0,.int .i64 a0_1,.slice A0_2 l0_2.length c0_2] 24 (0,0)) (by (with_reducible repeat (refine qab ?_));exact BK247.out)):gb267≠gb247))
     have n15_:=qaa.mk ((by rw [hg];exact Nat.ne_of_lt (qbn (g:=gb248) (o:=.cells #[.int .i64 a1_0,.int .i64 a1_1] 39 (0,0)) (by (with_reducible repeat (refine qab ?_));exact BK248.out)):gb248≠gb267))
     have n16_:=qaa.mk ((by rw [hg];exact Nat.ne_of_gt (qbn (g:=gb248) (o:=.cells #[.int .i64 a1_0,.int .i64 a1_1] 39 (0,0)) (by (with_reducible repeat (refine qab ?_));exact BK248.out)):gb267≠gb248))
     have n17_:=qaa.mk ((by rw [hg];exact Nat.ne_of_lt (qbn (g:=gb249) (o:=.cells #[.slice none 0 0] 38 (0,0)) (by (with_reducible repeat (refine qab ?_));exact BK249.out)):gb249≠gb267))
     have n18_:=qaa.mk ((by rw [hg];exact Nat.ne_of_gt (qbn (g:=gb249) (o:=.cells #[.slice none 0 0] 38 (0,0)) (by (with_reducible repeat (refine qab ?_));exact BK249.out)):gb267≠gb249))
     have n19_:=qaa.mk ((by rw [hg];exact Nat.ne_of_lt (qbn (g:=gb260) (o:=.cells #[.slice Ao24 t257.length co24] 38 (0,0)) (by (with_reducible repeat (refine qab ?_));exact BK260.out)):gb260≠gb267))
     have n20_:=qaa.mk ((by rw [hg];exact Nat.ne_of_gt (qbn (g:=gb260) (o:=.cells #[.slice Ao24 t257.length co24] 38 (0,0)) (by (with_reducible repeat (refine qab ?_));exact BK260.out)):gb267≠gb260))
     clear HO252
     clear HO256
     clear HO259
     clear HO263
     clear HO266
     clear BK247
     clear BK248
     clear BK249
     clear BK260
     clear HB
     have HO252:=n0_
     have HO256:=n1_
     have HO259:=n2_
     have HO263:=n3_
     have HO266:=n4_
     have BK247:=n5_
     have BK248:=n6_
     have BK249:=n7_
     have BK260:=n8_
     have HB:=n9_
     have BK267:=n10_
     have GW267:=n11_
     have GE267:=n12_
     have NB247_267:=n13_
     have NB267_247:=n14_
     have NB248_267:=n15_
     have NB267_248:=n16_
     have NB249_267:=n17_
     have NB267_249:=n18_
     have NB260_267:=n19_
     have NB267_260:=n20_
     clear n0_ n1_ n2_ n3_ n4_ n5_ n6_ n7_ n8_ n9_ n10_ n11_ n12_ n13_ n14_ n15_ n16_ n17_ n18_ n19_ n20_
     clear hb hbox hg
     refine hK.out _ _ ⟨(qad BK247.out 0).trans rfl,(qad BK247.out 1).trans rfl,(qad BK247.out 2).trans rfl⟩ (fun hHeld=>?_)
     clear hK K
     refine qdt (a':=?_) ?_ ?_
     rotate_left
     ·show Act.put _ (some 7) _=_
      simp only [Act.put,List.setIfInBounds_toArray,List.set_cons_zero,List.set_cons_succ,qbk,qbm]
      rfl
     exact qdt (by simp only [putAll,Act.put,List.setIfInBounds_toArray,List.set_cons_zero,List.set_cons_succ]) (hCont (v262,v265,gb267) _ ⟨hHeld,(by (with_reducible repeat (apply Kd.R_drew));exact HO252.out),(by (with_reducible repeat (apply Kd.R_drew));exact HO256.out),(by (with_reducible repeat (apply Kd.V_drew));exact Kd.V_mono HO259.out (fun _ hk=>⟨hk.1.1,⟨hk.1.2.1,⟨hk.1.2.2.1,⟨hk.1.2.2.2.1,⟨hk.1.2.2.2.2.1,⟨hk.1.2.2.2.2.2.1,⟨hk.1.2.2.2.2.2.2,hk.2⟩⟩⟩⟩⟩⟩⟩)),(by (with_reducible repeat (apply Kd.V_drew));exact Kd.V_mono HO263.out (fun _ hk=>⟨hk.1.1,⟨hk.1.2.1,⟨hk.1.2.2.1,⟨hk.1.2.2.2.1,⟨hk.1.2.2.2.2.1,⟨hk.1.2.2.2.2.2.1,⟨hk.1.2.2.2.2.2.2,hk.2⟩⟩⟩⟩⟩⟩⟩)),(by (with_reducible repeat (apply Kd.V_drew));exact Kd.V_mono HO266.out (fun _ hk=>⟨hk.1.1,⟨hk.1.2.1,⟨hk.1.2.2.1,⟨hk.1.2.2.2.1,⟨hk.1.2.2.2.2.1,⟨hk.1.2.2.2.2.2.1,⟨hk.1.2.2.2.2.2.2,hk.2⟩⟩⟩⟩⟩⟩⟩)),(by (with_reducible repeat (refine qab ?_));exact BK247.out),(by (with_reducible repeat (refine qab ?_));exact BK248.out),(by (with_reducible repeat (refine qab ?_));exact BK249.out),(by (with_reducible repeat (refine qab ?_));exact BK260.out),(by (with_reducible repeat (refine qab ?_));exact BK267.out),GW267.out,GE267.out,NB247_267.out,NB267_247.out,NB248_267.out,NB267_248.out,NB249_267.out,NB267_249.out,NB260_267.out,NB267_260.out,HB.out⟩)
    ·skip
     refine box_step ?hg (N:=7) ?hd (cs:=#[.slice none 0 0]) (t:=38) ?hr ?_;(case hd=>rfl);(case hg=>rfl);(case hr=>(go_simp;done))
     intro gb267 hg w32 hbox hb
     have n0_:=qaa.mk (Kd.R_below (by (with_reducible repeat (apply Kd.R_drew));exact HO252.out) hb)
     have n1_:=qaa.mk (Kd.R_below (by (with_reducible repeat (apply Kd.R_drew));exact HO256.out) hb)
     have n2_:=qaa.mk (Kd.V_below (Kd.V_elderB (by (with_reducible repeat (apply Kd.V_drew));exact HO259.out) gb267 (Nat.le_of_eq hg.symm)) hb)
     have n3_:=qaa.mk (Kd.V_below (Kd.V_elderB (by (with_reducible repeat (apply Kd.V_drew));exact HO263.out) gb267 (Nat.le_of_eq hg.symm)) hb)
     have n4_:=qaa.mk (qah (g:=gb247) (o:=.cells #[.bool a0_0,.int .i64 a0_1,.slice A0_2 l0_2.length c0_2] 24 (0,0)) (by (with_reducible repeat (refine qab ?_));exact BK247.out) hb)
     have n5_:=qaa.mk (qah (g:=gb248) (o:=.cells #[.int .i64 a1_0,.int .i64 a1_1] 39 (0,0)) (by (with_reducible repeat (refine qab ?_));exact BK248.out) hb)
     have n6_:=qaa.mk (qah (g:=gb249) (o:=.cells #[.slice none 0 0] 38 (0,0)) (by (with_reducible repeat (refine qab ?_));exact BK249.out) hb)
     have n7_:=qaa.mk (qah (g:=gb260) (o:=.cells #[.slice Ao24 t257.length co24] 38 (0,0)) (by (with_reducible repeat (refine qab ?_));exact BK260.out) hb)
     have n8_:=qaa.mk (qal HB.out hb)
     have n9_:=qaa.mk (hbox)
     have n10_:=qaa.mk ((by rw [hg];exact (qac HB.out):w.heap.size≤gb267))
     have n11_:=qaa.mk ((by rw [hg];exact (qac HB.out):w.heap.size≤gb267))
     have n12_:=qaa.mk ((by rw [hg];exact Nat.ne_of_lt (qbn (g:=gb247) (o:=.cells #[.bool a0_0,.int .i64 a0_1,.slice A0_2 l0_2.length c0_2] 24 (0,0)) (by (with_reducible repeat (refine qab ?_));exact BK247.out)):gb247≠gb267))
     have n13_:=qaa.mk ((by rw [hg];exact Nat.ne_of_gt (qbn (g:=gb247) (o:=.cells #[.bool a0_0,.int .i64 a0_1,.slice A0_2 l0_2.length c0_2] 24 (0,0)) (by (with_reducible repeat (refine qab ?_));exact BK247.out)):gb267≠gb247))
     have n14_:=qaa.mk ((by rw [hg];exact Nat.ne_of_lt (qbn (g:=gb248) (o:=.cells #[.int .i64 a1_0,.int .i64 a1_1] 39 (0,0)) (by (with_reducible repeat (refine qab ?_));exact BK248.out)):gb248≠gb267))
     have n15_:=qaa.mk ((by rw [hg];exact Nat.ne_of_gt (qbn (g:=gb248) (o:=.cells #[.int .i64 a1_0,.int .i64 a1_1] 39 (0,0)) (by (with_reducible repeat (refine qab ?_));exact BK248.out)):gb267≠gb248))
     have n16_:=qaa.mk ((by rw [hg];exact Nat.ne_of_lt (qbn (g:=gb249) (o:=.cells #[.slice none 0 0] 38 (0,0)) (by (with_reducible repeat (refine qab ?_));exact BK249.out)):gb249≠gb267))
     have n17_:=qaa.mk ((by rw [hg];exact Nat.ne_of_gt (qbn (g:=gb249) (o:=.cells #[.slice none 0 0] 38 (0,0)) (by (with_reducible repeat (refine qab ?_));exact BK249.out)):gb267≠gb249))
     have n18_:=qaa.mk ((by rw [hg];exact Nat.ne_of_lt (qbn (g:=gb260) (o:=.cells #[.slice Ao24 t257.length co24] 38 (0,0)) (by (with_reducible repeat (refine qab ?_));exact BK260.out)):gb260≠gb267))
     have n19_:=qaa.mk ((by rw [hg];exact Nat.ne_of_gt (qbn (g:=gb260) (o:=.cells #[.slice Ao24 t257.length co24] 38 (0,0)) (by (with_reducible repeat (refine qab ?_));exact BK260.out)):gb267≠gb260))
     clear HO252
     clear HO256
     clear HO259
     clear HO263
     clear BK247
     clear BK248
     clear BK249
     clear BK260
     clear HB
     have HO252:=n0_
     have HO256:=n1_
     have HO259:=n2_
     have HO263:=n3_
     have BK247:=n4_
     have BK248:=n5_
     have BK249:=n6_
     have BK260:=n7_
     have HB:=n8_
     have BK267:=n9_
     have GW267:=n10_
     have GE267:=n11_
     have NB247_267:=n12_
     have NB267_247:=n13_
     have NB248_267:=n14_
     have NB267_248:=n15_
     have NB249_267:=n16_
     have NB267_249:=n17_
     have NB260_267:=n18_
     have NB267_260:=n19_
     clear n0_ n1_ n2_ n3_ n4_ n5_ n6_ n7_ n8_ n9_ n10_ n11_ n12_ n13_ n14_ n15_ n16_ n17_ n18_ n19_
     clear hb hbox hg
     refine hK.out _ _ ⟨(qad BK247.out 0).trans rfl,(qad BK247.out 1).trans rfl,(qad BK247.out 2).trans rfl⟩ (fun hHeld=>?_)
     clear hK K
     refine qdt (a':=?_) ?_ ?_
     rotate_left
     ·show Act.put _ (some 7) _=_
      simp only [Act.put,List.setIfInBounds_toArray,List.set_cons_zero,List.set_cons_succ,qbk,qbm]
      rfl
     refine one_ (i:=3) (N:=some 23) #[true,true,true,true,true,false,false] rfl rfl (by kernel_rfl) (by decide) (fun K hK=>?_)
     refine qej Tryd.func30 (by kernel_rfl) rfl #[.agg #[.bool a0_0,.int .i64 a0_1,.slice A0_2 l0_2.length c0_2],.int .i64 0] (by rfl) rfl rfl (by (try simp only [List.map_toArray,List.map_cons,List.map_nil]);rfl) ?_
     with_reducible refine (qcf.calls k a0_0 a0_1 _ _ l0_2 0 t264 _ ?side1 ?side2 ?side3 A8.out).mono ?_
     (case side1=>exact TabW.below' HTB.out HB.out)
     (case side2=>repeat (exact (Kd.C_below HR0_2.out HB.out)))
     (case side3=>exact HC0_2.out)
     rintro e w33 ⟨v265,rfl,ho0,hb⟩
     refine ⟨_,rfl,?_⟩
     have n0_:=qaa.mk (Kd.R_below (by (with_reducible repeat (apply Kd.R_drew));exact HO252.out) hb)
     have n1_:=qaa.mk (Kd.R_below (by (with_reducible repeat (apply Kd.R_drew));exact HO256.out) hb)
     have n2_:=qaa.mk (Kd.V_below (by (with_reducible repeat (apply Kd.V_drew));exact HO259.out) hb)
     have n3_:=qaa.mk (Kd.V_below (by (with_reducible repeat (apply Kd.V_drew));exact HO263.out) hb)
     have n4_:=qaa.mk (Kd.V_lower (Kd.V_mono (ok':=fun k_=>(w.heap.size≤k_)∧some k_≠(.slice Ao14 t250.length co14:Value).ownBlock∧some k_≠(.slice Ao21 y254.length co21:Value).ownBlock∧k_≠gb247∧k_≠gb248∧k_≠gb249∧k_≠gb260∧k_≠gb267) ho0 (fun k_ hk_=>⟨(Nat.le_trans (qac HB.out) hk_),(Kd.fresh' (Kd.R_lt (by (with_reducible repeat (apply Kd.R_drew));exact HO252.out)) k_ hk_),(Kd.fresh' (Kd.R_lt (by (with_reducible repeat (apply Kd.R_drew));exact HO256.out)) k_ hk_),(Kd.freshB (g:=gb247) (o:=.cells #[.bool a0_0,.int .i64 a0_1,.slice A0_2 l0_2.length c0_2] 24 (0,0)) (by (with_reducible repeat (refine qab ?_));exact BK247.out) k_ hk_),(Kd.freshB (g:=gb248) (o:=.cells #[.int .i64 a1_0,.int .i64 a1_1] 39 (0,0)) (by (with_reducible repeat (refine qab ?_));exact BK248.out) k_ hk_),(Kd.freshB (g:=gb249) (o:=.cells #[.slice none 0 0] 38 (0,0)) (by (with_reducible repeat (refine qab ?_));exact BK249.out) k_ hk_),(Kd.freshB (g:=gb260) (o:=.cells #[.slice Ao24 t257.length co24] 38 (0,0)) (by (with_reducible repeat (refine qab ?_));exact BK260.out) k_ hk_),(Kd.freshB (g:=gb267) (o:=.cells #[.slice none 0 0] 38 (0,0)) (by (with_reducible repeat (refine qab ?_));exact BK267.out) k_ hk_)⟩)) (qac HB.out))
     have n5_:=qaa.mk (qah (g:=gb247) (o:=.cells #[.bool a0_0,.int .i64 a0_1,.slice A0_2 l0_2.length c0_2] 24 (0,0)) (by (with_reducible repeat (refine qab ?_));exact BK247.out) hb)
     have n6_:=qaa.mk (qah (g:=gb248) (o:=.cells #[.int .i64 a1_0,.int .i64 a1_1] 39 (0,0)) (by (with_reducible repeat (refine qab ?_));exact BK248.out) hb)
     have n7_:=qaa.mk (qah (g:=gb249) (o:=.cells #[.slice none 0 0] 38 (0,0)) (by (with_reducible repeat (refine qab ?_));exact BK249.out) hb)
     have n8_:=qaa.mk (qah (g:=gb260) (o:=.cells #[.slice Ao24 t257.length co24] 38 (0,0)) (by (with_reducible repeat (refine qab ?_));exact BK260.out) hb)
     have n9_:=qaa.mk (qah (g:=gb267) (o:=.cells #[.slice none 0 0] 38 (0,0)) (by (with_reducible repeat (refine qab ?_));exact BK267.out) hb)
     have n10_:=qaa.mk (qal HB.out hb)
     clear HO252
     clear HO256
     clear HO259
     clear HO263
     clear BK247
     clear BK248
     clear BK249
     clear BK260
     clear BK267
     clear HB
     have HO252:=n0_
     have HO256:=n1_
     have HO259:=n2_
     have HO263:=n3_
     have HO266:=n4_
     have BK247:=n5_
     have BK248:=n6_
     have BK249:=n7_
     have BK260:=n8_
     have BK267:=n9_
     have HB:=n10_
     clear n0_ n1_ n2_ n3_ n4_ n5_ n6_ n7_ n8_ n9_ n10_
     (try clear hb)
     (try clear ho0)
     refine hK.out _ _ ⟨(qad BK247.out 0).trans rfl,(qad BK247.out 1).trans rfl,(qad BK247.out 2).trans rfl⟩ (fun hHeld=>?_)
     clear hK K
     refine qdt (a':=?_) ?_ ?_
     rotate_left
     ·show Act.put _ (some 23) _=_
      simp only [Act.put,List.setIfInBounds_toArray,List.set_cons_zero,List.set_cons_succ,qbk,qbm]
      rfl
     exact qdt (by simp only [putAll,Act.put,List.setIfInBounds_toArray,List.set_cons_zero,List.set_cons_succ]) (hCont (v262,v265,gb267) _ ⟨hHeld,(by (with_reducible repeat (apply Kd.R_drew));exact HO252.out),(by (with_reducible repeat (apply Kd.R_drew));exact HO256.out),(by (with_reducible repeat (apply Kd.V_drew));exact Kd.V_mono HO259.out (fun _ hk=>⟨hk.1.1,⟨hk.1.2.1,⟨hk.1.2.2.1,⟨hk.1.2.2.2.1,⟨hk.1.2.2.2.2.1,⟨hk.1.2.2.2.2.2.1,⟨hk.1.2.2.2.2.2.2,hk.2⟩⟩⟩⟩⟩⟩⟩)),(by (with_reducible repeat (apply Kd.V_drew));exact Kd.V_mono HO263.out (fun _ hk=>⟨hk.1.1,⟨hk.1.2.1,⟨hk.1.2.2.1,⟨hk.1.2.2.2.1,⟨hk.1.2.2.2.2.1,⟨hk.1.2.2.2.2.2.1,⟨hk.1.2.2.2.2.2.2,hk.2⟩⟩⟩⟩⟩⟩⟩)),(by (with_reducible repeat (apply Kd.V_drew));exact HO266.out),(by (with_reducible repeat (refine qab ?_));exact BK247.out),(by (with_reducible repeat (refine qab ?_));exact BK248.out),(by (with_reducible repeat (refine qab ?_));exact BK249.out),(by (with_reducible repeat (refine qab ?_));exact BK260.out),(by (with_reducible repeat (refine qab ?_));exact BK267.out),GW267.out,GE267.out,NB247_267.out,NB267_247.out,NB248_267.out,NB267_248.out,NB249_267.out,NB267_249.out,NB260_267.out,NB267_260.out,HB.out⟩)
   ·skip
    refine box_step ?hg (N:=7) ?hd (cs:=#[.slice none 0 0]) (t:=38) ?hr ?_;(case hd=>rfl);(case hg=>rfl);(case hr=>(go_simp;done))
    intro gb267 hg w31 hbox hb
    have n0_:=qaa.mk (Kd.R_below (by (with_reducible repeat (apply Kd.R_drew));exact HO252.out) hb)
    have n1_:=qaa.mk (Kd.R_below (by (with_reducible repeat (apply Kd.R_drew));exact HO256.out) hb)
    have n2_:=qaa.mk (Kd.V_below (Kd.V_elderB (by (with_reducible repeat (apply Kd.V_drew));exact HO259.out) gb267 (Nat.le_of_eq hg.symm)) hb)
    have n3_:=qaa.mk (qah (g:=gb247) (o:=.cells #[.bool a0_0,.int .i64 a0_1,.slice A0_2 l0_2.length c0_2] 24 (0,0)) (by (with_reducible repeat (refine qab ?_));exact BK247.out) hb)
    have n4_:=qaa.mk (qah (g:=gb248) (o:=.cells #[.int .i64 a1_0,.int .i64 a1_1] 39 (0,0)) (by (with_reducible repeat (refine qab ?_));exact BK248.out) hb)
    have n5_:=qaa.mk (qah (g:=gb249) (o:=.cells #[.slice none 0 0] 38 (0,0)) (by (with_reducible repeat (refine qab ?_));exact BK249.out) hb)
    have n6_:=qaa.mk (qah (g:=gb260) (o:=.cells #[.slice Ao24 t257.length co24] 38 (0,0)) (by (with_reducible repeat (refine qab ?_));exact BK260.out) hb)
    have n7_:=qaa.mk (qal HB.out hb)
    have n8_:=qaa.mk (hbox)
    have n9_:=qaa.mk ((by rw [hg];exact (qac HB.out):w.heap.size≤gb267))
    have n10_:=qaa.mk ((by rw [hg];exact (qac HB.out):w.heap.size≤gb267))
    have n11_:=qaa.mk ((by rw [hg];exact Nat.ne_of_lt (qbn (g:=gb247) (o:=.cells #[.bool a0_0,.int .i64 a0_1,.slice A0_2 l0_2.length c0_2] 24 (0,0)) (by (with_reducible repeat (refine qab ?_));exact BK247.out)):gb247≠gb267))
    have n12_:=qaa.mk ((by rw [hg];exact Nat.ne_of_gt (qbn (g:=gb247) (o:=.cells #[.bool a0_0,.int .i64 a0_1,.slice A0_2 l0_2.length c0_2] 24 (0,0)) (by (with_reducible repeat (refine qab ?_));exact BK247.out)):gb267≠gb247))
    have n13_:=qaa.mk ((by rw [hg];exact Nat.ne_of_lt (qbn (g:=gb248) (o:=.cells #[.int .i64 a1_0,.int .i64 a1_1] 39 (0,0)) (by (with_reducible repeat (refine qab ?_));exact BK248.out)):gb248≠gb267))
    have n14_:=qaa.mk ((by rw [hg];exact Nat.ne_of_gt (qbn (g:=gb248) (o:=.cells #[.int .i64 a1_0,.int .i64 a1_1] 39 (0,0)) (by (with_reducible repeat (refine qab ?_));exact BK248.out)):gb267≠gb248))
    have n15_:=qaa.mk ((by rw [hg];exact Nat.ne_of_lt (qbn (g:=gb249) (o:=.cells #[.slice none 0 0] 38 (0,0)) (by (with_reducible repeat (refine qab ?_));exact BK249.out)):gb249≠gb267))
    have n16_:=qaa.mk ((by rw [hg];exact Nat.ne_of_gt (qbn (g:=gb249) (o:=.cells #[.slice none 0 0] 38 (0,0)) (by (with_reducible repeat (refine qab ?_));exact BK249.out)):gb267≠gb249))
    have n17_:=qaa.mk ((by rw [hg];exact Nat.ne_of_lt (qbn (g:=gb260) (o:=.cells #[.slice Ao24 t257.length co24] 38 (0,0)) (by (with_reducible repeat (refine qab ?_));exact BK260.out)):gb260≠gb267))
    have n18_:=qaa.mk ((by rw [hg];exact Nat.ne_of_gt (qbn (g:=gb260) (o:=.cells #[.slice Ao24 t257.length co24] 38 (0,0)) (by (with_reducible repeat (refine qab ?_));exact BK260.out)):gb267≠gb260))
    clear HO252
    clear HO256
    clear HO259
    clear BK247
    clear BK248
    clear BK249
    clear BK260
    clear HB
    have HO252:=n0_
    have HO256:=n1_
    have HO259:=n2_
    have BK247:=n3_
    have BK248:=n4_
    have BK249:=n5_
    have BK260:=n6_
    have HB:=n7_
    have BK267:=n8_
    have GW267:=n9_
    have GE267:=n10_
    have NB247_267:=n11_
    have NB267_247:=n12_
    have NB248_267:=n13_
    have NB267_248:=n14_
    have NB249_267:=n15_
    have NB267_249:=n16_
    have NB260_267:=n17_
    have NB267_260:=n18_
    clear n0_ n1_ n2_ n3_ n4_ n5_ n6_ n7_ n8_ n9_ n10_ n11_ n12_ n13_ n14_ n15_ n16_ n17_ n18_
    clear hb hbox hg
    refine hK.out _ _ ⟨(qad BK247.out 0).trans rfl,(qad BK247.out 1).trans rfl,(qad BK247.out 2).trans rfl⟩ (fun hHeld=>?_)
    clear hK K
    refine qdt (a':=?_) ?_ ?_
    rotate_left
    ·show Act.put _ (some 7) _=_
     simp only [Act.put,List.setIfInBounds_toArray,List.set_cons_zero,List.set_cons_succ,qbk,qbm]
     rfl
    refine one_ (i:=1) (N:=some 21) #[true,true,true,false,true,false,false] rfl rfl (by kernel_rfl) (by decide) (fun K hK=>?_)
    refine qej Tryd.func16 (by kernel_rfl) rfl #[.agg #[.bool a0_0,.int .i64 a0_1,.slice A0_2 l0_2.length c0_2]] (by rfl) rfl rfl (by (try simp only [List.map_toArray,List.map_cons,List.map_nil]);rfl) ?_
    with_reducible refine (qbv.calls k a0_0 a0_1 _ _ l0_2 t261 _ ?side1 ?side2 A7.out).mono ?_
    (case side1=>repeat (exact (Kd.C_below HR0_2.out HB.out)))
    (case side2=>exact HC0_2.out)
    rintro e w32 ⟨v262,rfl,ho0,hb⟩
    refine ⟨_,rfl,?_⟩
    have n0_:=qaa.mk (Kd.R_below (by (with_reducible repeat (apply Kd.R_drew));exact HO252.out) hb)
    have n1_:=qaa.mk (Kd.R_below (by (with_reducible repeat (apply Kd.R_drew));exact HO256.out) hb)
    have n2_:=qaa.mk (Kd.V_below (by (with_reducible repeat (apply Kd.V_drew));exact HO259.out) hb)
    have n3_:=qaa.mk (Kd.V_lower (Kd.V_mono (ok':=fun k_=>(w.heap.size≤k_)∧some k_≠(.slice Ao14 t250.length co14:Value).ownBlock∧some k_≠(.slice Ao21 y254.length co21:Value).ownBlock∧k_≠gb247∧k_≠gb248∧k_≠gb249∧k_≠gb260∧k_≠gb267) ho0 (fun k_ hk_=>⟨(Nat.le_trans (qac HB.out) hk_),(Kd.fresh' (Kd.R_lt (by (with_reducible repeat (apply Kd.R_drew));exact HO252.out)) k_ hk_),(Kd.fresh' (Kd.R_lt (by (with_reducible repeat (apply Kd.R_drew));exact HO256.out)) k_ hk_),(Kd.freshB (g:=gb247) (o:=.cells #[.bool a0_0,.int .i64 a0_1,.slice A0_2 l0_2.length c0_2] 24 (0,0)) (by (with_reducible repeat (refine qab ?_));exact BK247.out) k_ hk_),(Kd.freshB (g:=gb248) (o:=.cells #[.int .i64 a1_0,.int .i64 a1_1] 39 (0,0)) (by (with_reducible repeat (refine qab ?_));exact BK248.out) k_ hk_),(Kd.freshB (g:=gb249) (o:=.cells #[.slice none 0 0] 38 (0,0)) (by (with_reducible repeat (refine qab ?_));exact BK249.out) k_ hk_),(Kd.freshB (g:=gb260) (o:=.cells #[.slice Ao24 t257.length co24] 38 (0,0)) (by (with_reducible repeat (refine qab ?_));exact BK260.out) k_ hk_),(Kd.freshB (g:=gb267) (o:=.cells #[.slice none 0 0] 38 (0,0)) (by (with_reducible repeat (refine qab ?_));exact BK267.out) k_ hk_)⟩)) (qac HB.out))
    have n4_:=qaa.mk (qah (g:=gb247) (o:=.cells #[.bool a0_0,.int .i64 a0_1,.slice A0_2 l0_2.length c0_2] 24 (0,0)) (by (with_reducible repeat (refine qab ?_));exact BK247.out) hb)
    have n5_:=qaa.mk (qah (g:=gb248) (o:=.cells #[.int .i64 a1_0,.int .i64 a1_1] 39 (0,0)) (by (with_reducible repeat (refine qab ?_));exact BK248.out) hb)
    have n6_:=qaa.mk (qah (g:=gb249) (o:=.cells #[.slice none 0 0] 38 (0,0)) (by (with_reducible repeat (refine qab ?_));exact BK249.out) hb)
    have n7_:=qaa.mk (qah (g:=gb260) (o:=.cells #[.slice Ao24 t257.length co24] 38 (0,0)) (by (with_reducible repeat (refine qab ?_));exact BK260.out) hb)
    have n8_:=qaa.mk (qah (g:=gb267) (o:=.cells #[.slice none 0 0] 38 (0,0)) (by (with_reducible repeat (refine qab ?_));exact BK267.out) hb)
    have n9_:=qaa.mk (qal HB.out hb)
    clear HO252
    clear HO256
    clear HO259
    clear BK247
    clear BK248
    clear BK249
    clear BK260
    clear BK267
    clear HB
    have HO252:=n0_
    have HO256:=n1_
    have HO259:=n2_
    have HO263:=n3_
    have BK247:=n4_
    have BK248:=n5_
    have BK249:=n6_
    have BK260:=n7_
    have BK267:=n8_
    have HB:=n9_
    clear n0_ n1_ n2_ n3_ n4_ n5_ n6_ n7_ n8_ n9_
    (try clear hb)
    (try clear ho0)
    refine hK.out _ _ ⟨(qad BK247.out 0).trans rfl,(qad BK247.out 1).trans rfl,(qad BK247.out 2).trans rfl⟩ (fun hHeld=>?_)
    clear hK K
    refine qdt (a':=?_) ?_ ?_
    rotate_left
    ·show Act.put _ (some 21) _=_
     simp only [Act.put,List.setIfInBounds_toArray,List.set_cons_zero,List.set_cons_succ,qbk,qbm]
     rfl
    refine one_ (i:=3) (N:=some 23) #[true,true,true,true,true,false,false] rfl rfl (by kernel_rfl) (by decide) (fun K hK=>?_)
    refine qej Tryd.func30 (by kernel_rfl) rfl #[.agg #[.bool a0_0,.int .i64 a0_1,.slice A0_2 l0_2.length c0_2],.int .i64 0] (by rfl) rfl rfl (by (try simp only [List.map_toArray,List.map_cons,List.map_nil]);rfl) ?_
    with_reducible refine (qcf.calls k a0_0 a0_1 _ _ l0_2 0 t264 _ ?side1 ?side2 ?side3 A8.out).mono ?_
    (case side1=>exact TabW.below' HTB.out HB.out)
    (case side2=>repeat (exact (Kd.C_below HR0_2.out HB.out)))
    (case side3=>exact HC0_2.out)
    rintro e w33 ⟨v265,rfl,ho0,hb⟩
    refine ⟨_,rfl,?_⟩
    have n0_:=qaa.mk (Kd.R_below (by (with_reducible repeat (apply Kd.R_drew));exact HO252.out) hb)
    have n1_:=qaa.mk (Kd.R_below (by (with_reducible repeat (apply Kd.R_drew));exact HO256.out) hb)
    have n2_:=qaa.mk (Kd.V_below (by (with_reducible repeat (apply Kd.V_drew));exact HO259.out) hb)
    have n3_:=qaa.mk (Kd.V_below (by (with_reducible repeat (apply Kd.V_drew));exact HO263.out) hb)
    have n4_:=qaa.mk (Kd.V_lower (Kd.V_mono (ok':=fun k_=>(w.heap.size≤k_)∧some k_≠(.slice Ao14 t250.length co14:Value).ownBlock∧some k_≠(.slice Ao21 y254.length co21:Value).ownBlock∧k_≠gb247∧k_≠gb248∧k_≠gb249∧k_≠gb260∧k_≠gb267) ho0 (fun k_ hk_=>⟨(Nat.le_trans (qac HB.out) hk_),(Kd.fresh' (Kd.R_lt (by (with_reducible repeat (apply Kd.R_drew));exact HO252.out)) k_ hk_),(Kd.fresh' (Kd.R_lt (by (with_reducible repeat (apply Kd.R_drew));exact HO256.out)) k_ hk_),(Kd.freshB (g:=gb247) (o:=.cells #[.bool a0_0,.int .i64 a0_1,.slice A0_2 l0_2.length c0_2] 24 (0,0)) (by (with_reducible repeat (refine qab ?_));exact BK247.out) k_ hk_),(Kd.freshB (g:=gb248) (o:=.cells #[.int .i64 a1_0,.int .i64 a1_1] 39 (0,0)) (by (with_reducible repeat (refine qab ?_));exact BK248.out) k_ hk_),(Kd.freshB (g:=gb249) (o:=.cells #[.slice none 0 0] 38 (0,0)) (by (with_reducible repeat (refine qab ?_));exact BK249.out) k_ hk_),(Kd.freshB (g:=gb260) (o:=.cells #[.slice Ao24 t257.length co24] 38 (0,0)) (by (with_reducible repeat (refine qab ?_));exact BK260.out) k_ hk_),(Kd.freshB (g:=gb267) (o:=.cells #[.slice none 0 0] 38 (0,0)) (by (with_reducible repeat (refine qab ?_));exact BK267.out) k_ hk_)⟩)) (qac HB.out))
    have n5_:=qaa.mk (qah (g:=gb247) (o:=.cells #[.bool a0_0,.int .i64 a0_1,.slice A0_2 l0_2.length c0_2] 24 (0,0)) (by (with_reducible repeat (refine qab ?_));exact BK247.out) hb)
    have n6_:=qaa.mk (qah (g:=gb248) (o:=.cells #[.int .i64 a1_0,.int .i64 a1_1] 39 (0,0)) (by (with_reducible repeat (refine qab ?_));exact BK248.out) hb)
    have n7_:=qaa.mk (qah (g:=gb249) (o:=.cells #[.slice none 0 0] 38 (0,0)) (by (with_reducible repeat (refine qab ?_));exact BK249.out) hb)
    have n8_:=qaa.mk (qah (g:=gb260) (o:=.cells #[.slice Ao24 t257.length co24] 38 (0,0)) (by (with_reducible repeat (refine qab ?_));exact BK260.out) hb)
    have n9_:=qaa.mk (qah (g:=gb267) (o:=.cells #[.slice none 0 0] 38 (0,0)) (by (with_reducible repeat (refine qab ?_));exact BK267.out) hb)
    have n10_:=qaa.mk (qal HB.out hb)
    clear HO252
    clear HO256
    clear HO259
    clear HO263
    clear BK247
    clear BK248
    clear BK249
    clear BK260
    clear BK267
    clear HB
    have HO252:=n0_
    have HO256:=n1_
    have HO259:=n2_
    have HO263:=n3_
    have HO266:=n4_
    have BK247:=n5_
    have BK248:=n6_
    have BK249:=n7_
    have BK260:=n8_
    have BK267:=n9_
    have HB:=n10_
    clear n0_ n1_ n2_ n3_ n4_ n5_ n6_ n7_ n8_ n9_ n10_
    (try clear hb)
    (try clear ho0)
    refine hK.out _ _ ⟨(qad BK247.out 0).trans rfl,(qad BK247.out 1).trans rfl,(qad BK247.out 2).trans rfl⟩ (fun hHeld=>?_)
    clear hK K
    refine qdt (a':=?_) ?_ ?_
    rotate_left
    ·show Act.put _ (some 23) _=_
     simp only [Act.put,List.setIfInBounds_toArray,List.set_cons_zero,List.set_cons_succ,qbk,qbm]
     rfl
    exact qdt (by simp only [putAll,Act.put,List.setIfInBounds_toArray,List.set_cons_zero,List.set_cons_succ]) (hCont (v262,v265,gb267) _ ⟨hHeld,(by (with_reducible repeat (apply Kd.R_drew));exact HO252.out),(by (with_reducible repeat (apply Kd.R_drew));exact HO256.out),(by (with_reducible repeat (apply Kd.V_drew));exact Kd.V_mono HO259.out (fun _ hk=>⟨hk.1.1,⟨hk.1.2.1,⟨hk.1.2.2.1,⟨hk.1.2.2.2.1,⟨hk.1.2.2.2.2.1,⟨hk.1.2.2.2.2.2.1,⟨hk.1.2.2.2.2.2.2,hk.2⟩⟩⟩⟩⟩⟩⟩)),(by (with_reducible repeat (apply Kd.V_drew));exact HO263.out),(by (with_reducible repeat (apply Kd.V_drew));exact HO266.out),(by (with_reducible repeat (refine qab ?_));exact BK247.out),(by (with_reducible repeat (refine qab ?_));exact BK248.out),(by (with_reducible repeat (refine qab ?_));exact BK249.out),(by (with_reducible repeat (refine qab ?_));exact BK260.out),(by (with_reducible repeat (refine qab ?_));exact BK267.out),GW267.out,GE267.out,NB247_267.out,NB267_247.out,NB248_267.out,NB267_248.out,NB249_267.out,NB267_249.out,NB260_267.out,NB267_260.out,HB.out⟩)
  rintro ⟨v262,v265,gb267⟩ w34 ⟨hS_,h0_,h1_,h2_,h3_,h4_,h5_,h6_,h7_,h8_,h9_,h10_,h11_,h12_,h13_,h14_,h15_,h16_,h17_,h18_,h19_,h20_⟩
  have n0_:qaa (Kd.R k39 39 w34 w.heap.size (fun k_=>(w.heap.size≤k_)∧k_≠gb248) (.slice Ao14 t250.length co14) t250):=⟨h0_⟩
  have n1_:qaa (Kd.R (Kd.int .i64) 3 w34 w.heap.size (fun k_=>(w.heap.size≤k_)) (.slice Ao21 y254.length co21) y254):=⟨h1_⟩
  have n2_:qaa (Kd.V (Kd.int .u64) 77 w34 w.heap.size (fun k_=>(w.heap.size≤k_)∧some k_≠(.slice Ao14 t250.length co14:Value).ownBlock∧some k_≠(.slice Ao21 y254.length co21:Value).ownBlock∧k_≠gb247∧k_≠gb248∧k_≠gb249∧k_≠gb260∧k_≠gb267) (.slice Ao24 t257.length co24) t257):=⟨h2_⟩
  have n3_:qaa (Kd.V (Kd.slice 3 (Kd.int .i64)) 31 w34 w.heap.size (fun k_=>(w.heap.size≤k_)∧some k_≠(.slice Ao14 t250.length co14:Value).ownBlock∧some k_≠(.slice Ao21 y254.length co21:Value).ownBlock∧k_≠gb247∧k_≠gb248∧k_≠gb249∧k_≠gb260∧k_≠gb267) v262 t261):=⟨h3_⟩
  have n4_:qaa (Kd.V (Kd.int .u64) 77 w34 w.heap.size (fun k_=>(w.heap.size≤k_)∧some k_≠(.slice Ao14 t250.length co14:Value).ownBlock∧some k_≠(.slice Ao21 y254.length co21:Value).ownBlock∧k_≠gb247∧k_≠gb248∧k_≠gb249∧k_≠gb260∧k_≠gb267) v265 t264):=⟨h4_⟩
  have n5_:qaa (w34.heap[gb247]?=some (.cells #[.bool a0_0,.int .i64 a0_1,.slice A0_2 l0_2.length c0_2] 24 (0,0))):=⟨h5_⟩
  have n6_:qaa (w34.heap[gb248]?=some (.cells #[.int .i64 a1_0,.int .i64 a1_1] 39 (0,0))):=⟨h6_⟩
  have n7_:qaa (w34.heap[gb249]?=some (.cells #[.slice none 0 0] 38 (0,0))):=⟨h7_⟩
  have n8_:qaa (w34.heap[gb260]?=some (.cells #[.slice Ao24 t257.length co24] 38 (0,0))):=⟨h8_⟩
  have n9_:qaa (w34.heap[gb267]?=some (.cells #[.slice none 0 0] 38 (0,0))):=⟨h9_⟩
  have n10_:qaa (w.heap.size≤gb267):=⟨h10_⟩
  have n11_:qaa (w.heap.size≤gb267):=⟨h11_⟩
  have n12_:qaa (gb247≠gb267):=⟨h12_⟩
  have n13_:qaa (gb267≠gb247):=⟨h13_⟩
  have n14_:qaa (gb248≠gb267):=⟨h14_⟩
  have n15_:qaa (gb267≠gb248):=⟨h15_⟩
  have n16_:qaa (gb249≠gb267):=⟨h16_⟩
  have n17_:qaa (gb267≠gb249):=⟨h17_⟩
  have n18_:qaa (gb260≠gb267):=⟨h18_⟩
  have n19_:qaa (gb267≠gb260):=⟨h19_⟩
  have n20_:qaa (Below w.heap.size w w34):=⟨h20_⟩
  clear HO252
  clear HO256
  clear HO259
  clear BK247
  clear BK248
  clear BK249
  clear BK260
  clear HB
  clear h0_ h1_ h2_ h3_ h4_ h5_ h6_ h7_ h8_ h9_ h10_ h11_ h12_ h13_ h14_ h15_ h16_ h17_ h18_ h19_ h20_
  have HO252:=n0_
  have HO256:=n1_
  have HO259:=n2_
  have HO263:=n3_
  have HO266:=n4_
  have BK247:=n5_
  have BK248:=n6_
  have BK249:=n7_
  have BK260:=n8_
  have BK267:=n9_
  have GW267:=n10_
  have GE267:=n11_
  have NB247_267:=n12_
  have NB267_247:=n13_
  have NB248_267:=n14_
  have NB267_248:=n15_
  have NB249_267:=n16_
  have NB267_249:=n17_
  have NB260_267:=n18_
  have NB267_260:=n19_
  have HB:=n20_
  clear n0_ n1_ n2_ n3_ n4_ n5_ n6_ n7_ n8_ n9_ n10_ n11_ n12_ n13_ n14_ n15_ n16_ n17_ n18_ n19_ n20_
  have hHeld:w34.cell? ⟨gb247,0,none⟩=some (.bool a0_0)∧w34.cell? ⟨gb247,1,none⟩=some (.int .i64 a0_1)∧w34.cell? ⟨gb247,2,none⟩=some (.slice A0_2 l0_2.length c0_2):=hS_
  obtain ⟨Ao35,co35,eo35⟩:=Kd.V_slice HO266.out
  (subst eo35)
  refine qdt (a':=?_) ?_ ?_
  rotate_left
  ·simp only [putAll,Act.put,List.setIfInBounds_toArray,List.set_cons_zero,List.set_cons_succ]
   rfl
  refine qct (i:=5) (N:=some 6) (v:=?_) (a':=?_) #[true,true,true,true,true,true,false] rfl rfl (by kernel_rfl) (fun _ _ _ h=>h) (Or.inl ⟨by rfl,?_⟩) ?_ ?_
  rotate_left
  ·intro w'
   go_simp
   with_reducible rfl
  rotate_left
  ·simp only [Act.put,List.setIfInBounds_toArray,List.set_cons_zero,List.set_cons_succ,qbk,qbm]
   rfl
  refine one_ (i:=6) (N:=none) #[true,true,true,true,true,true,true] rfl rfl (by kernel_rfl) (by decide) (fun K hK=>?_)
  have hs36:w34.cell? ⟨gb267,0,none⟩=some (.slice none 0 0):=(qad BK267.out 0).trans rfl
  have hfs36:=qaf BK267.out 0
  have hns36_0:=NB247_267.out
  have hns36_1:=NB248_267.out
  have hns36_2:=NB249_267.out
  have hns36_3:=NB260_267.out
  have hms36_0:=NB267_247.out
  have hms36_1:=NB267_248.out
  have hms36_2:=NB267_249.out
  have hms36_3:=NB267_260.out
  refine skip_ (w1:=?_) (by rfl) rfl ?_ ?_
  rotate_left
  ·go_simp
   rfl
  refine hK.out _ _ ⟨((cell_far (p:=⟨gb267,_,none⟩) NB247_267.out _).trans (hHeld.1)),((cell_far (p:=⟨gb267,_,none⟩) NB247_267.out _).trans (hHeld.2.1)),((cell_far (p:=⟨gb267,_,none⟩) NB247_267.out _).trans (hHeld.2.2))⟩ (fun hHeld=>?_)
  clear hK K
  refine qfq (by kernel_rfl) ?_
  have hnb37:=NB248_267.out
  have hnc37:=NB267_248.out
  have hcz38_0:w34.cell? ⟨gb248,0,none⟩=some (.int .i64 a1_0):=(qad BK248.out 0).trans rfl
  have hcz38_1:w34.cell? ⟨gb248,1,none⟩=some (.int .i64 a1_1):=(qad BK248.out 1).trans rfl
  have hfz38_0:=qaf BK248.out 0
  have hfz38_1:=qaf BK248.out 1
  try go_wp2_with (((with_reducible refine qbf (N:=26) rfl ?_);refine Kd.R_lit (Kd.int .i64) _ 3 ?hg (N:=26) ?hd (xs:=([a1_0]:List Int)) (inner:=[.int .i64 a1_0]) (ok:=fun _=>True) (okp:=fun _=>True) ?hr ?hp (fun _ hk=>hk) trivial (Below.refl _ _) (Nat.le_refl _) (by simp) ?_;(case hd=>rfl);(case hg=>rfl);(case hr=>(go_simp;done));(case hp=>exact (Reps.one (show Kd.M (Kd.int .i64) _ _ _ a1_0 [.int .i64 a1_0] from rfl) (Reps.none _ _)));intro v269 w39 ho40 hb hg_ hnew_;clear hg_ hnew_;(rw [← Ny268.out] at ho40);replace HO252:=qaa.mk (Kd.R_below (by (with_reducible repeat (apply Kd.R_drew));exact (Kd.R_mono (Kd.R_far (p:=⟨gb267,0,none⟩) (Kd.R_types HO252.out BK267.out (by decide)) (fun _ hk=>hk.2) (.slice Ao35 t264.length co35)) (fun _ h_=>h_.1))) hb);replace HO259:=qaa.mk (Kd.V_elder' (by (with_reducible repeat (apply Kd.V_drew));exact (Kd.V_mono (Kd.V_far (p:=⟨gb267,0,none⟩) (Kd.V_mono HO259.out (fun k_ hk=>(⟨hk,hk.2.2.2.2.2.2.2⟩:_∧k_≠gb267))) (fun _ hk=>hk.2) (.slice Ao35 t264.length co35)) (fun _ h_=>h_.1))) (Kd.R_base ho40) hb);replace HO263:=qaa.mk (Kd.V_elder' (by (with_reducible repeat (apply Kd.V_drew));exact (Kd.V_mono (Kd.V_far (p:=⟨gb267,0,none⟩) (Kd.V_mono HO263.out (fun k_ hk=>(⟨hk,hk.2.2.2.2.2.2.2⟩:_∧k_≠gb267))) (fun _ hk=>hk.2) (.slice Ao35 t264.length co35)) (fun _ h_=>h_.1))) (Kd.R_base ho40) hb);replace HO266:=qaa.mk (Kd.V_elder' (by (with_reducible repeat (apply Kd.V_drew));exact (Kd.V_mono (Kd.V_far (p:=⟨gb267,0,none⟩) (Kd.V_mono HO266.out (fun k_ hk=>(⟨hk,hk.2.2.2.2.2.2.2⟩:_∧k_≠gb267))) (fun _ hk=>hk.2) (.slice Ao35 t264.length co35)) (fun _ h_=>h_.1))) (Kd.R_base ho40) hb);have HO270:=qaa.mk (Kd.R_lower (Kd.R_new' (Kd.R_newM (M:=fun k_=>(w.heap.size≤k_)) ho40 (qac (by repeat ((with_reducible first|exact HB.out|refine qbx ?_ GE267.out)))) (fun k_ h_=>h_)) (Kd.R_lt (by (with_reducible repeat (apply Kd.R_drew));exact (Kd.R_mono (Kd.R_far (p:=⟨gb267,0,none⟩) (Kd.R_types HO256.out BK267.out (by decide)) (fun _ hk=>hk.2) (.slice Ao35 t264.length co35)) (fun _ h_=>h_.1))))) (qac (by repeat ((with_reducible first|exact HB.out|refine qbx ?_ GE267.out)))));replace HO256:=qaa.mk (Kd.R_elder' (by (with_reducible repeat (apply Kd.R_drew));exact (Kd.R_mono (Kd.R_far (p:=⟨gb267,0,none⟩) (Kd.R_types HO256.out BK267.out (by decide)) (fun _ hk=>hk.2) (.slice Ao35 t264.length co35)) (fun _ h_=>h_.1))) (Kd.R_base ho40) hb);replace BK247:=qaa.mk (qah (g:=gb247) (o:=.cells #[.bool a0_0,.int .i64 a0_1,.slice A0_2 l0_2.length c0_2] 24 (0,0)) (by (with_reducible repeat (refine qab ?_));refine qcx ?_ NB247_267.out _;(with_reducible repeat (refine qab ?_));exact BK247.out) hb);replace BK248:=qaa.mk (qah (g:=gb248) (o:=.cells #[.int .i64 a1_0,.int .i64 a1_1] 39 (0,0)) (by (with_reducible repeat (refine qab ?_));refine qcx ?_ NB248_267.out _;(with_reducible repeat (refine qab ?_));exact BK248.out) hb);replace BK249:=qaa.mk (qah (g:=gb249) (o:=.cells #[.slice none 0 0] 38 (0,0)) (by (with_reducible repeat (refine qab ?_));refine qcx ?_ NB249_267.out _;(with_reducible repeat (refine qab ?_));exact BK249.out) hb);replace BK260:=qaa.mk (qah (g:=gb260) (o:=.cells #[.slice Ao24 t257.length co24] 38 (0,0)) (by (with_reducible repeat (refine qab ?_));refine qcx ?_ NB260_267.out _;(with_reducible repeat (refine qab ?_));exact BK260.out) hb);replace BK267:=qaa.mk (qah (g:=gb267) (o:=.cells #[.slice Ao35 t264.length co35] 38 (0,0)) (by (with_reducible repeat (refine qab ?_));refine qcs (cs:=#[.slice none 0 0]) ?_ 0 _ rfl;(with_reducible repeat (refine qab ?_));exact BK267.out) hb);replace HB:=qaa.mk (qal (by repeat ((with_reducible first|exact HB.out|refine qbx ?_ GE267.out))) hb);clear hb ho40))
  go_loopg [8] k (fun kq v8 w'=>∃ (x8_1:List Int) (x261000_1:List Int) (u261000:Value),qaa (qbq.l0 kq t261 x8_1 x261000_1 t264=some r)∧qaa (kq≤k)∧qaa (Kd.V (Kd.slice 3 (Kd.int .i64)) 31 w' w.heap.size (fun k_=>(w.heap.size≤k_)∧some k_≠(v8:Value).ownBlock∧k_≠gb247∧k_≠gb248∧k_≠gb249∧k_≠gb260∧k_≠gb267) v262 t261)∧qaa (Kd.R (Kd.int .i64) 3 w' w.heap.size (fun k_=>(w.heap.size≤k_)) v8 x8_1)∧qaa (Kd.V (Kd.int .u64) 77 w' w.heap.size (fun k_=>(w.heap.size≤k_)∧some k_≠(v8:Value).ownBlock∧k_≠gb247∧k_≠gb248∧k_≠gb249∧k_≠gb260∧k_≠gb267) u261000 x261000_1)∧qaa (Kd.V (Kd.int .u64) 77 w' w.heap.size (fun k_=>(w.heap.size≤k_)∧some k_≠(v8:Value).ownBlock∧k_≠gb247∧k_≠gb248∧k_≠gb249∧k_≠gb260∧k_≠gb267) (.slice Ao35 t264.length co35) t264)∧qaa (w'.heap[gb247]?=some (.cells #[.bool a0_0,.int .i64 a0_1,(.slice A0_2 l0_2.length c0_2)] 24 (0,0)))∧qaa (w'.heap[gb248]?=some (.cells #[.int .i64 a1_0,.int .i64 a1_1] 39 (0,0)))∧qaa (w'.heap[gb249]?=some (.cells #[(.slice none 0 0)] 38 (0,0)))∧qaa (w'.heap[gb260]?=some (.cells #[u261000] 38 (0,0)))∧qaa (w'.heap[gb267]?=some (.cells #[(.slice Ao35 t264.length co35)] 38 (0,0)))∧qaa (Below w.heap.size w w'))
  case atStart=>exact ⟨(y268),(t257),(.slice Ao24 t257.length co24),H',⟨Nat.le_refl _⟩,⟨by (with_reducible repeat (apply Kd.V_drew));exact Kd.V_mono HO263.out (fun _ hk=>⟨hk.1.1,⟨hk.2,⟨hk.1.2.2.2.1,⟨hk.1.2.2.2.2.1,⟨hk.1.2.2.2.2.2.1,⟨hk.1.2.2.2.2.2.2.1,hk.1.2.2.2.2.2.2.2⟩⟩⟩⟩⟩⟩)⟩,⟨by (with_reducible repeat (apply Kd.R_drew));exact Kd.R_mono HO270.out (fun _ hk=>hk.1.1)⟩,⟨by (with_reducible repeat (apply Kd.V_drew));exact Kd.V_mono HO259.out (fun _ hk=>⟨hk.1.1,⟨hk.2,⟨hk.1.2.2.2.1,⟨hk.1.2.2.2.2.1,⟨hk.1.2.2.2.2.2.1,⟨hk.1.2.2.2.2.2.2.1,hk.1.2.2.2.2.2.2.2⟩⟩⟩⟩⟩⟩)⟩,⟨by (with_reducible repeat (apply Kd.V_drew));exact Kd.V_mono HO266.out (fun _ hk=>⟨hk.1.1,⟨hk.2,⟨hk.1.2.2.2.1,⟨hk.1.2.2.2.2.1,⟨hk.1.2.2.2.2.2.1,⟨hk.1.2.2.2.2.2.2.1,hk.1.2.2.2.2.2.2.2⟩⟩⟩⟩⟩⟩)⟩,⟨by (with_reducible repeat (refine qab ?_));exact BK247.out⟩,⟨by (with_reducible repeat (refine qab ?_));exact BK248.out⟩,⟨by (with_reducible repeat (refine qab ?_));exact BK249.out⟩,⟨by (with_reducible repeat (refine qab ?_));exact BK260.out⟩,⟨by (with_reducible repeat (refine qab ?_));exact BK267.out⟩,⟨by repeat ((with_reducible exact HB.out))⟩⟩
  case round=>
   clear H'
   try clear hcz38_0
   try clear hcz38_1
   try clear hfz38_0
   try clear hfz38_1
   obtain ⟨x8_1,x261000_1,u261000,HA,HK1,HO_6,HO_8,HO_261000,HO_268000,BK247,BK248,BK249,BK260,BK267,HB⟩:=hrel
   cases gk with
   | zero=>exact absurd HA.out (by simp [qbq.l0])
   | succ k1=>
    have H:=HA.out
    clear HA
    simp only [qbq.l0] at H
    by_cases c41:(x8_1.length:Int)>0
    ·rw [if_pos c41] at H
     have c41b0:decide (0<(x8_1.length:Int))=true:=decide_eq_true c41
     have c41b1:decide (0<x8_1.length)=true:=decide_eq_true (by omega)
     clear c41
     obtain ⟨ji42,hji42⟩:∃ j_:Int,(wrap64 ((x8_1.length:Int)-1))=j_:=⟨_,rfl⟩
     replace H:(if 0≤(ji42) then (if (ji42)<(x8_1.length:Int) then (if (ji42)≤(x8_1.length:Int) then ((some (x8_1.take ((ji42):Int).toNat:List Int)).bind fun y272=>((qbz.f x261000_1 (rd x8_1 (ji42))).bind fun t275=>(if t275=true then (qbq.l0 k1 t261 y272 x261000_1 t264) else ((qbz.f t264 (rd x8_1 (ji42))).bind fun t276=>(if t276=true then ((qby.f k1 x261000_1 (rd x8_1 (ji42))).bind fun t277=>(if 0≤(rd x8_1 (ji42)) then (if (rd x8_1 (ji42))<(t261.length:Int) then (if y272.length+(qeh t261 (rd x8_1 (ji42))).length<17592186044416 then (qbq.l0 k1 t261 (y272++(qeh t261 (rd x8_1 (ji42)))) t277 t264) else (none)) else (none)) else (none))) else (qbq.l0 k1 t261 y272 x261000_1 t264)))))) else (none)) else (none)) else (none))=some r:=by (rw [hji42] at H;exact H)
     have hji42w:(IntKind.i64.wrap ((x8_1.length:Int)-1))=ji42:=(qbk _).trans hji42
     by_cases c43:0≤(ji42)
     ·rw [if_pos c43] at H
      have c43b0:decide (0≤(ji42))=true:=decide_eq_true c43
      clear c43
      by_cases c44:(ji42)<(x8_1.length:Int)
      ·rw [if_pos c44] at H
       have c44b0:decide ((ji42)<(x8_1.length:Int))=true:=decide_eq_true c44
       clear c44
       by_cases c45:(ji42)≤(x8_1.length:Int)
       ·rw [if_pos c45] at H
        have c45b0:=eq_true c45
        have c45b1:decide ((ji42)≤(x8_1.length:Int))=true:=decide_eq_true c45
        clear c45
        obtain ⟨y272,hy272⟩:∃ y_:List Int,y_=(x8_1.take ((ji42):Int).toNat):=⟨_,rfl⟩
        replace H:((qbz.f x261000_1 (rd x8_1 (ji42))).bind fun t275=>(if t275=true then (qbq.l0 k1 t261 y272 x261000_1 t264) else ((qbz.f t264 (rd x8_1 (ji42))).bind fun t276=>(if t276=true then ((qby.f k1 x261000_1 (rd x8_1 (ji42))).bind fun t277=>(if 0≤(rd x8_1 (ji42)) then (if (rd x8_1 (ji42))<(t261.length:Int) then (if y272.length+(qeh t261 (rd x8_1 (ji42))).length<17592186044416 then (qbq.l0 k1 t261 (y272++(qeh t261 (rd x8_1 (ji42)))) t277 t264) else (none)) else (none)) else (none))) else (qbq.l0 k1 t261 y272 x261000_1 t264)))))=some r:=by (have H2_:=(Option.bind_some _ _).symm.trans H;rw [hy272];with_reducible exact H2_)
        have Ny272:=qaa.mk hy272
        clear hy272
        replace H:=Option.bind_eq_some_iff.mp H
        obtain ⟨t275,A460,H⟩:=H
        replace H:(if t275=true then (qbq.l0 k1 t261 y272 x261000_1 t264) else ((qbz.f t264 (rd x8_1 (ji42))).bind fun t276=>(if t276=true then ((qby.f k1 x261000_1 (rd x8_1 (ji42))).bind fun t277=>(if 0≤(rd x8_1 (ji42)) then (if (rd x8_1 (ji42))<(t261.length:Int) then (if y272.length+(qeh t261 (rd x8_1 (ji42))).length<17592186044416 then (qbq.l0 k1 t261 (y272++(qeh t261 (rd x8_1 (ji42)))) t277 t264) else (none)) else (none)) else (none))) else (qbq.l0 k1 t261 y272 x261000_1 t264))))=some r:=H
        have A46:=qaa.mk A460
        clear A460
        by_cases c47:t275=true
        ·subst c47
         have H1:(qbq.l0 k1 t261 y272 x261000_1 t264)=some r:=by rw [if_pos rfl] at H;exact H
         clear H
         have H:=H1
         clear H1
         have H':=qaa.mk H
         clear H
         obtain ⟨Ao48,co48,eo48⟩:=Kd.R_slice HO_8.out
         subst eo48
         have p271:0≤((ji42):Int):=of_decide_eq_true (by (with_reducible assumption))
         have q271:(ji42)<(x8_1.length:Int):=of_decide_eq_true (by (with_reducible assumption))
         obtain ⟨ad271,e271,hx271_0⟩:=Kd.at_int (Kd.R_reads' HO_8.out).2.2 (ji42) p271 q271
         cases e271
         replace p271:=eq_true p271
         replace q271:=eq_true q271
         have q49:((ji42):Int)≤((x8_1.length:Int):Int):=of_decide_eq_true (by (with_reducible assumption))
         obtain ⟨i049,hi049,_,hsz49,_⟩:=info_parts qfe
         have hcut49:=cut_to (P:=Tryd.prog) 31 3 .i64 Tryd.underlying31 hi049 (some ad271) x8_1.length co48 (ji42) (of_decide_eq_true (by (with_reducible assumption))) q49 (Kd.R_reads' HO_8.out).2.1
         have hr49:=Kd.R_take (m:=((ji42):Int).toNat) HO_8.out (by omega)
         have hy49:y272.length=((ji42):Int).toNat:=(by rw [Ny272.out,List.length_take];omega)
         rw [← Ny272.out] at hr49
         rw [← hy49] at hr49 hcut49
         clear hy49 hi049 hsz49 HO_8
         have HO274:=qaa.mk hr49
         clear hr49
         replace q49:=eq_true q49
         have hnb50:=NB260_247.out
         have hnc50:=NB247_260.out
         have hnb51:=NB260_248.out
         have hnc51:=NB248_260.out
         have hnb52:=NB260_249.out
         have hnc52:=NB249_260.out
         have hnb53:=NB260_267.out
         have hnc53:=NB267_260.out
         have hcz54_0:wr.cell? ⟨gb260,0,none⟩=some (u261000):=(qad BK260.out 0).trans rfl
         have hfz54_0:=qaf BK260.out 0
         obtain ⟨Ao55,co55,eo55⟩:=Kd.V_slice HO_261000.out
         subst eo55
         go_wp2_with (((with_reducible refine qbb (f:=38) rfl ?_);refine qcv (some 43) rfl rfl Tryd.func38 (by kernel_rfl) rfl #[.agg #[.slice Ao55 x261000_1.length co55],.int .i64 (rd x8_1 (ji42))] rfl (by (try simp only [List.map_toArray,List.map_cons,List.map_nil]);rfl) ?_;(with_reducible refine (qbz.calls _ _ x261000_1 (rd x8_1 (ji42)) true _ ?side1 ?side2 A46.out).mono ?_);(case side1=>repeat (exact (Kd.V_reads' HO_261000.out).2.2));(case side2=>exact (Kd.V_reads' HO_261000.out).2.1);rintro e w56 ⟨rfl,hb⟩;refine ⟨_,rfl,?_⟩;replace HO_6:=qaa.mk (Kd.V_below (by (with_reducible repeat (apply Kd.V_drew));exact HO_6.out) hb);replace HO274:=qaa.mk (Kd.R_below (by (with_reducible repeat (apply Kd.R_drew));exact HO274.out) hb);replace HO_261000:=qaa.mk (Kd.V_below (by (with_reducible repeat (apply Kd.V_drew));exact HO_261000.out) hb);replace HO_268000:=qaa.mk (Kd.V_below (by (with_reducible repeat (apply Kd.V_drew));exact HO_268000.out) hb);replace BK247:=qaa.mk (qah (g:=gb247) (o:=.cells #[.bool a0_0,.int .i64 a0_1,.slice A0_2 l0_2.length c0_2] 24 (0,0)) (by (with_reducible repeat (refine qab ?_));exact BK247.out) hb);replace BK248:=qaa.mk (qah (g:=gb248) (o:=.cells #[.int .i64 a1_0,.int .i64 a1_1] 39 (0,0)) (by (with_reducible repeat (refine qab ?_));exact BK248.out) hb);replace BK249:=qaa.mk (qah (g:=gb249) (o:=.cells #[.slice none 0 0] 38 (0,0)) (by (with_reducible repeat (refine qab ?_));exact BK249.out) hb);replace BK260:=qaa.mk (qah (g:=gb260) (o:=.cells #[.slice Ao55 x261000_1.length co55] 38 (0,0)) (by (with_reducible repeat (refine qab ?_));exact BK260.out) hb);replace BK267:=qaa.mk (qah (g:=gb267) (o:=.cells #[.slice Ao35 t264.length co35] 38 (0,0)) (by (with_reducible repeat (refine qab ?_));exact BK267.out) hb);replace HB:=qaa.mk (qal HB.out hb);(try clear hb)))
         go_roundg k1
         case measure=>have:=HK1.out;omega
         case rel=>exact ⟨(y272),(x261000_1),(.slice Ao55 x261000_1.length co55),H',⟨by have:=HK1.out;omega⟩,⟨by (with_reducible repeat (apply Kd.V_drew));exact HO_6.out⟩,⟨by (with_reducible repeat (apply Kd.R_drew));exact HO274.out⟩,⟨by (with_reducible repeat (apply Kd.V_drew));exact HO_261000.out⟩,⟨by (with_reducible repeat (apply Kd.V_drew));exact HO_268000.out⟩,⟨by (with_reducible repeat (refine qab ?_));exact BK247.out⟩,⟨by (with_reducible repeat (refine qab ?_));exact BK248.out⟩,⟨by (with_reducible repeat (refine qab ?_));exact BK249.out⟩,⟨by (with_reducible repeat (refine qab ?_));exact BK260.out⟩,⟨by (with_reducible repeat (refine qab ?_));exact BK267.out⟩,⟨by repeat ((with_reducible exact HB.out))⟩⟩
        ·replace c47:=Bool.eq_false_iff.mpr c47
         subst c47
         have H1:((qbz.f t264 (rd x8_1 (ji42))).bind fun t276=>(if t276=true then ((qby.f k1 x261000_1 (rd x8_1 (ji42))).bind fun t277=>(if 0≤(rd x8_1 (ji42)) then (if (rd x8_1 (ji42))<(t261.length:Int) then (if y272.length+(qeh t261 (rd x8_1 (ji42))).length<17592186044416 then (qbq.l0 k1 t261 (y272++(qeh t261 (rd x8_1 (ji42)))) t277 t264) else (none)) else (none)) else (none))) else (qbq.l0 k1 t261 y272 x261000_1 t264)))=some r:=by rw [if_neg (show ¬ (false=true) by decide)] at H;exact H
         clear H
         have H:=H1
         clear H1
         replace H:=Option.bind_eq_some_iff.mp H
         obtain ⟨t276,A570,H⟩:=H
         replace H:(if t276=true then ((qby.f k1 x261000_1 (rd x8_1 (ji42))).bind fun t277=>(if 0≤(rd x8_1 (ji42)) then (if (rd x8_1 (ji42))<(t261.length:Int) then (if y272.length+(qeh t261 (rd x8_1 (ji42))).length<17592186044416 then (qbq.l0 k1 t261 (y272++(qeh t261 (rd x8_1 (ji42)))) t277 t264) else (none)) else (none)) else (none))) else (qbq.l0 k1 t261 y272 x261000_1 t264))=some r:=H
         have A57:=qaa.mk A570
         clear A570
         by_cases c58:t276=true
         ·subst c58
          have H1:((qby.f k1 x261000_1 (rd x8_1 (ji42))).bind fun t277=>(if 0≤(rd x8_1 (ji42)) then (if (rd x8_1 (ji42))<(t261.length:Int) then (if y272.length+(qeh t261 (rd x8_1 (ji42))).length<17592186044416 then (qbq.l0 k1 t261 (y272++(qeh t261 (rd x8_1 (ji42)))) t277 t264) else (none)) else (none)) else (none)))=some r:=by rw [if_pos rfl] at H;exact H
          clear H
          have H:=H1
          clear H1
          replace H:=Option.bind_eq_some_iff.mp H
          obtain ⟨t277,A590,H⟩:=H
          replace H:(if 0≤(rd x8_1 (ji42)) then (if (rd x8_1 (ji42))<(t261.length:Int) then (if y272.length+(qeh t261 (rd x8_1 (ji42))).length<17592186044416 then (qbq.l0 k1 t261 (y272++(qeh t261 (rd x8_1 (ji42)))) t277 t264) else (none)) else (none)) else (none))=some r:=H
          have A59:=qaa.mk A590
          clear A590
          by_cases c60:0≤(rd x8_1 (ji42))
          ·rw [if_pos c60] at H
           have c60b0:decide (0≤(rd x8_1 (ji42)))=true:=decide_eq_true c60
           clear c60
           by_cases c61:(rd x8_1 (ji42))<(t261.length:Int)
           ·rw [if_pos c61] at H
            have c61b0:decide ((rd x8_1 (ji42))<(t261.length:Int))=true:=decide_eq_true c61
            clear c61
            by_cases c62:y272.length+(qeh t261 (rd x8_1 (ji42))).length<17592186044416
            ·rw [if_pos c62] at H
             have LMc62:=qaa.mk c62
             clear c62
             obtain ⟨y281,hy281⟩:∃ y_:List Int,y_=(y272++(qeh t261 (rd x8_1 (ji42)))):=⟨_,rfl⟩
             replace H:(qbq.l0 k1 t261 y281 t277 t264)=some r:=by (rw [hy281];with_reducible exact H)
             have Ny281:=qaa.mk hy281
             clear hy281
             have H':=qaa.mk H
             clear H
             obtain ⟨Ao63,co63,eo63⟩:=Kd.R_slice HO_8.out
             subst eo63
             have p271:0≤((ji42):Int):=of_decide_eq_true (by (with_reducible assumption))
             have q271:(ji42)<(x8_1.length:Int):=of_decide_eq_true (by (with_reducible assumption))
             obtain ⟨ad271,e271,hx271_0⟩:=Kd.at_int (Kd.R_reads' HO_8.out).2.2 (ji42) p271 q271
             cases e271
             replace p271:=eq_true p271
             replace q271:=eq_true q271
             have q64:((ji42):Int)≤((x8_1.length:Int):Int):=of_decide_eq_true (by (with_reducible assumption))
             obtain ⟨i064,hi064,_,hsz64,_⟩:=info_parts qfe
             have hcut64:=cut_to (P:=Tryd.prog) 31 3 .i64 Tryd.underlying31 hi064 (some ad271) x8_1.length co63 (ji42) (of_decide_eq_true (by (with_reducible assumption))) q64 (Kd.R_reads' HO_8.out).2.1
             have hr64:=Kd.R_take (m:=((ji42):Int).toNat) HO_8.out (by omega)
             have hy64:y272.length=((ji42):Int).toNat:=(by rw [Ny272.out,List.length_take];omega)
             rw [← Ny272.out] at hr64
             rw [← hy64] at hr64 hcut64
             clear hy64 hi064 hsz64 HO_8
             have HO274:=qaa.mk hr64
             clear hr64
             replace q64:=eq_true q64
             have hnb65:=NB260_247.out
             have hnc65:=NB247_260.out
             have hnb66:=NB260_248.out
             have hnc66:=NB248_260.out
             have hnb67:=NB260_249.out
             have hnc67:=NB249_260.out
             have hnb68:=NB260_267.out
             have hnc68:=NB267_260.out
             have hcz69_0:wr.cell? ⟨gb260,0,none⟩=some (u261000):=(qad BK260.out 0).trans rfl
             have hfz69_0:=qaf BK260.out 0
             obtain ⟨Ao70,co70,eo70⟩:=Kd.V_slice HO_261000.out
             subst eo70
             go_wp2_with (first|((with_reducible refine qbb (f:=38) rfl ?_);refine qcv (some 43) rfl rfl Tryd.func38 (by kernel_rfl) rfl #[.agg #[.slice Ao70 x261000_1.length co70],.int .i64 (rd x8_1 (ji42))] rfl (by (try simp only [List.map_toArray,List.map_cons,List.map_nil]);rfl) ?_;(with_reducible refine (qbz.calls _ _ x261000_1 (rd x8_1 (ji42)) false _ ?side1 ?side2 A46.out).mono ?_);(case side1=>repeat (exact (Kd.V_reads' HO_261000.out).2.2));(case side2=>exact (Kd.V_reads' HO_261000.out).2.1);rintro e w71 ⟨rfl,hb⟩;refine ⟨_,rfl,?_⟩;replace HO_6:=qaa.mk (Kd.V_below (by (with_reducible repeat (apply Kd.V_drew));exact HO_6.out) hb);replace HO274:=qaa.mk (Kd.R_below (by (with_reducible repeat (apply Kd.R_drew));exact HO274.out) hb);replace HO_261000:=qaa.mk (Kd.V_below (by (with_reducible repeat (apply Kd.V_drew));exact HO_261000.out) hb);replace HO_268000:=qaa.mk (Kd.V_below (by (with_reducible repeat (apply Kd.V_drew));exact HO_268000.out) hb);replace BK247:=qaa.mk (qah (g:=gb247) (o:=.cells #[.bool a0_0,.int .i64 a0_1,.slice A0_2 l0_2.length c0_2] 24 (0,0)) (by (with_reducible repeat (refine qab ?_));exact BK247.out) hb);replace BK248:=qaa.mk (qah (g:=gb248) (o:=.cells #[.int .i64 a1_0,.int .i64 a1_1] 39 (0,0)) (by (with_reducible repeat (refine qab ?_));exact BK248.out) hb);replace BK249:=qaa.mk (qah (g:=gb249) (o:=.cells #[.slice none 0 0] 38 (0,0)) (by (with_reducible repeat (refine qab ?_));exact BK249.out) hb);replace BK260:=qaa.mk (qah (g:=gb260) (o:=.cells #[.slice Ao70 x261000_1.length co70] 38 (0,0)) (by (with_reducible repeat (refine qab ?_));exact BK260.out) hb);replace BK267:=qaa.mk (qah (g:=gb267) (o:=.cells #[.slice Ao35 t264.length co35] 38 (0,0)) (by (with_reducible repeat (refine qab ?_));exact BK267.out) hb);replace HB:=qaa.mk (qal HB.out hb);(try clear hb);have hnb72:=NB267_247.out;have hnc72:=NB247_267.out;have hnb73:=NB267_248.out;have hnc73:=NB248_267.out;have hnb74:=NB267_249.out;have hnc74:=NB249_267.out;have hcz75_0:w71.cell? ⟨gb267,0,none⟩=some (.slice Ao35 t264.length co35):=(qad BK267.out 0).trans rfl;have hfz75_0:=qaf BK267.out 0)|(go_at_call 38;(with_reducible refine (qbz.calls _ _ t264 (rd x8_1 (ji42)) true _ ?side1 ?side2 A57.out).mono ?_);(case side1=>repeat (exact (Kd.V_reads' HO_268000.out).2.2));(case side2=>exact (Kd.V_reads' HO_268000.out).2.1);rintro e w76 ⟨rfl,hb⟩;replace HO_6:=qaa.mk (Kd.V_below (by (with_reducible repeat (apply Kd.V_drew));exact HO_6.out) hb);replace HO274:=qaa.mk (Kd.R_below (by (with_reducible repeat (apply Kd.R_drew));exact HO274.out) hb);replace HO_261000:=qaa.mk (Kd.V_below (by (with_reducible repeat (apply Kd.V_drew));exact HO_261000.out) hb);replace HO_268000:=qaa.mk (Kd.V_below (by (with_reducible repeat (apply Kd.V_drew));exact HO_268000.out) hb);replace BK247:=qaa.mk (qah (g:=gb247) (o:=.cells #[.bool a0_0,.int .i64 a0_1,.slice A0_2 l0_2.length c0_2] 24 (0,0)) (by (with_reducible repeat (refine qab ?_));exact BK247.out) hb);replace BK248:=qaa.mk (qah (g:=gb248) (o:=.cells #[.int .i64 a1_0,.int .i64 a1_1] 39 (0,0)) (by (with_reducible repeat (refine qab ?_));exact BK248.out) hb);replace BK249:=qaa.mk (qah (g:=gb249) (o:=.cells #[.slice none 0 0] 38 (0,0)) (by (with_reducible repeat (refine qab ?_));exact BK249.out) hb);replace BK260:=qaa.mk (qah (g:=gb260) (o:=.cells #[.slice Ao70 x261000_1.length co70] 38 (0,0)) (by (with_reducible repeat (refine qab ?_));exact BK260.out) hb);replace BK267:=qaa.mk (qah (g:=gb267) (o:=.cells #[.slice Ao35 t264.length co35] 38 (0,0)) (by (with_reducible repeat (refine qab ?_));exact BK267.out) hb);replace HB:=qaa.mk (qal HB.out hb);(try clear hb);have hcz77_0:w76.cell? ⟨gb260,0,none⟩=some (.slice Ao70 x261000_1.length co70):=(qad BK260.out 0).trans rfl;have hfz77_0:=qaf BK260.out 0)|((with_reducible refine qbb (f:=37) rfl ?_);refine qcv (some 52) rfl rfl Tryd.func37 (by kernel_rfl) rfl #[.agg #[.slice Ao70 x261000_1.length co70],.int .i64 (rd x8_1 (ji42))] rfl (by (try simp only [List.map_toArray,List.map_cons,List.map_nil]);rfl) ?_;(with_reducible refine (qby.calls k1 _ _ x261000_1 (rd x8_1 (ji42)) t277 _ ?side1 ?side2 A59.out).mono ?_);(case side1=>repeat (exact (Kd.V_reads' HO_261000.out).2.2));(case side2=>exact (Kd.V_reads' HO_261000.out).2.1);rintro e w78 ⟨v278,rfl,ho0,hb⟩;refine ⟨_,rfl,?_⟩;replace HO_6:=qaa.mk (Kd.V_below (by (with_reducible repeat (apply Kd.V_drew));exact HO_6.out) hb);replace HO_261000:=qaa.mk (Kd.V_below (by (with_reducible repeat (apply Kd.V_drew));exact HO_261000.out) hb);replace HO_268000:=qaa.mk (Kd.V_below (by (with_reducible repeat (apply Kd.V_drew));exact HO_268000.out) hb);have HO279:=qaa.mk (Kd.V_lower (Kd.V_mono (ok':=fun k_=>(w.heap.size≤k_)∧some k_≠(.slice (some ad271) y272.length co63:Value).ownBlock∧k_≠gb247∧k_≠gb248∧k_≠gb249∧k_≠gb260∧k_≠gb267) ho0 (fun k_ hk_=>⟨(Nat.le_trans (qac HB.out) hk_),(Kd.fresh' (Kd.R_lt (by (with_reducible repeat (apply Kd.R_drew));exact HO274.out)) k_ hk_),(Kd.freshB (g:=gb247) (o:=.cells #[.bool a0_0,.int .i64 a0_1,.slice A0_2 l0_2.length c0_2] 24 (0,0)) (by (with_reducible repeat (refine qab ?_));exact BK247.out) k_ hk_),(Kd.freshB (g:=gb248) (o:=.cells #[.int .i64 a1_0,.int .i64 a1_1] 39 (0,0)) (by (with_reducible repeat (refine qab ?_));exact BK248.out) k_ hk_),(Kd.freshB (g:=gb249) (o:=.cells #[.slice none 0 0] 38 (0,0)) (by (with_reducible repeat (refine qab ?_));exact BK249.out) k_ hk_),(Kd.freshB (g:=gb260) (o:=.cells #[.slice Ao70 x261000_1.length co70] 38 (0,0)) (by (with_reducible repeat (refine qab ?_));exact BK260.out) k_ hk_),(Kd.freshB (g:=gb267) (o:=.cells #[.slice Ao35 t264.length co35] 38 (0,0)) (by (with_reducible repeat (refine qab ?_));exact BK267.out) k_ hk_)⟩)) (qac HB.out));replace HO274:=qaa.mk (Kd.R_below (by (with_reducible repeat (apply Kd.R_drew));exact HO274.out) hb);replace BK247:=qaa.mk (qah (g:=gb247) (o:=.cells #[.bool a0_0,.int .i64 a0_1,.slice A0_2 l0_2.length c0_2] 24 (0,0)) (by (with_reducible repeat (refine qab ?_));exact BK247.out) hb);replace BK248:=qaa.mk (qah (g:=gb248) (o:=.cells #[.int .i64 a1_0,.int .i64 a1_1] 39 (0,0)) (by (with_reducible repeat (refine qab ?_));exact BK248.out) hb);replace BK249:=qaa.mk (qah (g:=gb249) (o:=.cells #[.slice none 0 0] 38 (0,0)) (by (with_reducible repeat (refine qab ?_));exact BK249.out) hb);replace BK260:=qaa.mk (qah (g:=gb260) (o:=.cells #[.slice Ao70 x261000_1.length co70] 38 (0,0)) (by (with_reducible repeat (refine qab ?_));exact BK260.out) hb);replace BK267:=qaa.mk (qah (g:=gb267) (o:=.cells #[.slice Ao35 t264.length co35] 38 (0,0)) (by (with_reducible repeat (refine qab ?_));exact BK267.out) hb);replace HB:=qaa.mk (qal HB.out hb);(try clear hb);(try clear ho0);obtain ⟨Ao79,co79,eo79⟩:=Kd.V_slice HO279.out;subst eo79;have hcz80_0:w78.cell? ⟨gb260,0,none⟩=some (.slice Ao70 x261000_1.length co70):=(qad BK260.out 0).trans rfl;have hfz80_0:=qaf BK260.out 0)|((with_reducible refine gate_store (t:=38) (p:=5) rfl ?_);refine store_event (t:=38) (p:=5) (v:=?vo_w81) (w1:=(w78.setCell ⟨gb260,0,none⟩ (.slice Ao79 t277.length co79))) ?hg ?ho ?hn ?hr ?_;(case ho=>rfl);(case hg=>rfl);(case hn=>rfl);(case hr=>(go_simp;done));intro w81 hw;have n0_:qaa (Kd.V (Kd.slice 3 (Kd.int .i64)) 31 w81 w.heap.size (fun k_=>(w.heap.size≤k_)∧some k_≠(.slice (some ad271) y272.length co63:Value).ownBlock∧k_≠gb247∧k_≠gb248∧k_≠gb249∧k_≠gb260∧k_≠gb267) v262 t261):=⟨(by rw [hw];exact (by (with_reducible repeat (apply Kd.V_drew));exact Kd.V_mono (Kd.V_far (p:=⟨gb260,0,none⟩) (Kd.V_mono HO_6.out (fun k_ hk=>(⟨hk,hk.2.2.2.2.2.1⟩:_∧k_≠gb260))) (fun _ hk=>hk.2) (.slice Ao79 t277.length co79)) (fun _ hk=>⟨hk.1.1,⟨hk.1.2.1,⟨hk.1.2.2.1,⟨hk.1.2.2.2.1,⟨hk.1.2.2.2.2.1,⟨hk.1.2.2.2.2.2.1,hk.1.2.2.2.2.2.2⟩⟩⟩⟩⟩⟩)))⟩;have n1_:qaa (Kd.R (Kd.int .i64) 3 w81 w.heap.size (fun k_=>(w.heap.size≤k_)) (.slice (some ad271) y272.length co63) y272):=⟨(by rw [hw];exact (by (with_reducible repeat (apply Kd.R_drew));exact Kd.R_mono (Kd.R_far (p:=⟨gb260,0,none⟩) (Kd.R_types HO274.out BK260.out (by decide)) (fun _ hk=>hk.2) (.slice Ao79 t277.length co79)) (fun _ hk=>hk.1)))⟩;have n2_:qaa (Kd.V (Kd.int .u64) 77 w81 w.heap.size (fun k_=>(w.heap.size≤k_)∧some k_≠(.slice (some ad271) y272.length co63:Value).ownBlock∧k_≠gb247∧k_≠gb248∧k_≠gb249∧k_≠gb260∧k_≠gb267) (.slice Ao70 x261000_1.length co70) x261000_1):=⟨(by rw [hw];exact (by (with_reducible repeat (apply Kd.V_drew));exact Kd.V_mono (Kd.V_far (p:=⟨gb260,0,none⟩) (Kd.V_mono HO_261000.out (fun k_ hk=>(⟨hk,hk.2.2.2.2.2.1⟩:_∧k_≠gb260))) (fun _ hk=>hk.2) (.slice Ao79 t277.length co79)) (fun _ hk=>⟨hk.1.1,⟨hk.1.2.1,⟨hk.1.2.2.1,⟨hk.1.2.2.2.1,⟨hk.1.2.2.2.2.1,⟨hk.1.2.2.2.2.2.1,hk.1.2.2.2.2.2.2⟩⟩⟩⟩⟩⟩)))⟩;have n3_:qaa (Kd.V (Kd.int .u64) 77 w81 w.heap.size (fun k_=>(w.heap.size≤k_)∧some k_≠(.slice (some ad271) y272.length co63:Value).ownBlock∧k_≠gb247∧k_≠gb248∧k_≠gb249∧k_≠gb260∧k_≠gb267) (.slice Ao35 t264.length co35) t264):=⟨(by rw [hw];exact (by (with_reducible repeat (apply Kd.V_drew));exact Kd.V_mono (Kd.V_far (p:=⟨gb260,0,none⟩) (Kd.V_mono HO_268000.out (fun k_ hk=>(⟨hk,hk.2.2.2.2.2.1⟩:_∧k_≠gb260))) (fun _ hk=>hk.2) (.slice Ao79 t277.length co79)) (fun _ hk=>⟨hk.1.1,⟨hk.1.2.1,⟨hk.1.2.2.1,⟨hk.1.2.2.2.1,⟨hk.1.2.2.2.2.1,⟨hk.1.2.2.2.2.2.1,hk.1.2.2.2.2.2.2⟩⟩⟩⟩⟩⟩)))⟩;have n4_:qaa (Kd.V (Kd.int .u64) 77 w81 w.heap.size (fun k_=>(w.heap.size≤k_)∧some k_≠(.slice (some ad271) y272.length co63:Value).ownBlock∧k_≠gb247∧k_≠gb248∧k_≠gb249∧k_≠gb260∧k_≠gb267) (.slice Ao79 t277.length co79) t277):=⟨(by rw [hw];exact (by (with_reducible repeat (apply Kd.V_drew));exact Kd.V_mono (Kd.V_far (p:=⟨gb260,0,none⟩) (Kd.V_mono HO279.out (fun k_ hk=>(⟨hk,hk.2.2.2.2.2.1⟩:_∧k_≠gb260))) (fun _ hk=>hk.2) (.slice Ao79 t277.length co79)) (fun _ hk=>⟨hk.1.1,⟨hk.1.2.1,⟨hk.1.2.2.1,⟨hk.1.2.2.2.1,⟨hk.1.2.2.2.2.1,⟨hk.1.2.2.2.2.2.1,hk.1.2.2.2.2.2.2⟩⟩⟩⟩⟩⟩)))⟩;have n5_:qaa (w81.heap[gb247]?=some (.cells #[.bool a0_0,.int .i64 a0_1,.slice A0_2 l0_2.length c0_2] 24 (0,0))):=⟨(by rw [hw];exact (by (with_reducible repeat (refine qab ?_));refine qcx ?_ NB247_260.out _;(with_reducible repeat (refine qab ?_));exact BK247.out))⟩;have n6_:qaa (w81.heap[gb248]?=some (.cells #[.int .i64 a1_0,.int .i64 a1_1] 39 (0,0))):=⟨(by rw [hw];exact (by (with_reducible repeat (refine qab ?_));refine qcx ?_ NB248_260.out _;(with_reducible repeat (refine qab ?_));exact BK248.out))⟩;have n7_:qaa (w81.heap[gb249]?=some (.cells #[.slice none 0 0] 38 (0,0))):=⟨(by rw [hw];exact (by (with_reducible repeat (refine qab ?_));refine qcx ?_ NB249_260.out _;(with_reducible repeat (refine qab ?_));exact BK249.out))⟩;have n8_:qaa (w81.heap[gb260]?=some (.cells #[.slice Ao79 t277.length co79] 38 (0,0))):=⟨(by rw [hw];exact (by (with_reducible repeat (refine qab ?_));refine qcs (cs:=#[.slice Ao70 x261000_1.length co70]) ?_ 0 _ rfl;(with_reducible repeat (refine qab ?_));exact BK260.out))⟩;have n9_:qaa (w81.heap[gb267]?=some (.cells #[.slice Ao35 t264.length co35] 38 (0,0))):=⟨(by rw [hw];exact (by (with_reducible repeat (refine qab ?_));refine qcx ?_ NB267_260.out _;(with_reducible repeat (refine qab ?_));exact BK267.out))⟩;have n10_:qaa (Below w.heap.size w w81):=⟨(by rw [hw];exact (by repeat ((with_reducible first|exact HB.out|refine qbx ?_ GE260.out))))⟩;clear hw;clear HO_6;clear HO274;clear HO_261000;clear HO_268000;clear HO279;clear BK247;clear BK248;clear BK249;clear BK260;clear BK267;clear HB;have HO_6:=n0_;have HO274:=n1_;have HO_261000:=n2_;have HO_268000:=n3_;have HO279:=n4_;have BK247:=n5_;have BK248:=n6_;have BK249:=n7_;have BK260:=n8_;have BK267:=n9_;have HB:=n10_;clear n0_ n1_ n2_ n3_ n4_ n5_ n6_ n7_ n8_ n9_ n10_;obtain ⟨Ao82,co82,eo82⟩:=Kd.V_slice HO_6.out;subst eo82;have p280:0≤((rd x8_1 (ji42)):Int):=of_decide_eq_true (by (with_reducible assumption));have q280:(rd x8_1 (ji42))<(t261.length:Int):=of_decide_eq_true (by (with_reducible assumption));obtain ⟨ad280,A280_0,c280_0,e280,hx280_0,hl280_0,hi280_0⟩:=at_L6 (Kd.V_reads' HO_6.out).2.2 (rd x8_1 (ji42)) p280 q280;cases e280;obtain ⟨ce280,hce280,hMe280,hcc280⟩:=Kd.V_get HO_6.out [] (rd x8_1 (ji42)) p280 (by exact q280);obtain ⟨ua280_0,uc280_0,rfl,ul280_0,ge280_0⟩:=Kd.FK_slice_open hMe280;have hv280_0:=hcc280 0 _ rfl;rw [Nat.add_zero,show ((Kd.slice 3 (Kd.int .i64))).sz=1 from rfl,Nat.mul_one] at hv280_0;replace hv280_0:=Option.some.inj (hv280_0.symm.trans hx280_0);injection hv280_0 with hva_ hvn_ hvc_;rw [hva_] at ge280_0;rw [hvc_] at ul280_0;have HL280_0:=qaa.mk (show Kd.V (Kd.int .i64) 3 _ w.heap.size _ _ (qeh t261 (rd x8_1 (ji42))) from Kd.V_mk ul280_0 ge280_0);clear hva_ hvn_ hvc_ ge280_0 ul280_0;clear hcc280 hce280;have HR280_0:=qaa.mk hi280_0;have HC280_0:=qaa.mk hl280_0;clear hi280_0 hl280_0;replace p280:=eq_true p280;replace q280:=eq_true q280)|((with_reducible refine qdf (b:=.append) (xs:=#[.tmp 53,.tmp 57]) rfl ?_);at_builtin;refine Kd.R_append_rows (Kd.int .i64) (w0:=w) w.heap.size rfl (.tmp 53) (.tmp 57) 31 3 (.int .i64 0) 8 rfl Tryd.underlying31 qfe rfl (by decide) (by omega) (.slice (some ad271) y272.length co63) y272 (qeh t261 (rd x8_1 (ji42))) _ _ _ (fun k_=>(w.heap.size≤k_)) (fun _=>False) rfl rfl ?aO ?aR (fun _ _ h=>h) (fun _ h=>h.elim) ?aF ?aB ?aS ?aL ?_;(case aR=>repeat (exact (by repeat (exact HR280_0.out))));(case aB=>exact HB.out);(case aF=>exact (fun k_ hk=>(Nat.le_trans (qac HB.out) hk)));(case aO=>exact (by (with_reducible repeat (apply Kd.R_drew));exact HO274.out));(case aS=>exact (qac HB.out));(case aL=>have:=LMc62.out;omega);intro v282 w83 ho hb hg hat;rw [← Ny281.out] at ho;have n0_:=qaa.mk (Kd.V_afterv (ok:=(fun k_=>(w.heap.size≤k_)∧k_≠gb247∧k_≠gb248∧k_≠gb249∧k_≠gb260∧k_≠gb267)) (by (with_reducible repeat (apply Kd.V_drew));exact Kd.V_mono HO_6.out (fun _ hk=>⟨⟨hk.1,⟨hk.2.2.1,⟨hk.2.2.2.1,⟨hk.2.2.2.2.1,⟨hk.2.2.2.2.2.1,hk.2.2.2.2.2.2⟩⟩⟩⟩⟩,hk.2.1⟩)) hg hat);have n1_:=qaa.mk (Kd.V_afterv (ok:=(fun k_=>(w.heap.size≤k_)∧k_≠gb247∧k_≠gb248∧k_≠gb249∧k_≠gb260∧k_≠gb267)) (by (with_reducible repeat (apply Kd.V_drew));exact Kd.V_mono HO_261000.out (fun _ hk=>⟨⟨hk.1,⟨hk.2.2.1,⟨hk.2.2.2.1,⟨hk.2.2.2.2.1,⟨hk.2.2.2.2.2.1,hk.2.2.2.2.2.2⟩⟩⟩⟩⟩,hk.2.1⟩)) hg hat);have n2_:=qaa.mk (Kd.V_afterv (ok:=(fun k_=>(w.heap.size≤k_)∧k_≠gb247∧k_≠gb248∧k_≠gb249∧k_≠gb260∧k_≠gb267)) (by (with_reducible repeat (apply Kd.V_drew));exact Kd.V_mono HO_268000.out (fun _ hk=>⟨⟨hk.1,⟨hk.2.2.1,⟨hk.2.2.2.1,⟨hk.2.2.2.2.1,⟨hk.2.2.2.2.2.1,hk.2.2.2.2.2.2⟩⟩⟩⟩⟩,hk.2.1⟩)) hg hat);have n3_:=qaa.mk (qdp (g:=gb247) (o:=.cells #[.bool a0_0,.int .i64 a0_1,.slice A0_2 l0_2.length c0_2] 24 (0,0)) (by (with_reducible repeat (refine qab ?_));exact BK247.out) hg (Kd.R_ne HO274.out BK247.out (by decide)));have n4_:=qaa.mk (qdp (g:=gb248) (o:=.cells #[.int .i64 a1_0,.int .i64 a1_1] 39 (0,0)) (by (with_reducible repeat (refine qab ?_));exact BK248.out) hg (Kd.R_ne HO274.out BK248.out (by decide)));have n5_:=qaa.mk (qdp (g:=gb249) (o:=.cells #[.slice none 0 0] 38 (0,0)) (by (with_reducible repeat (refine qab ?_));exact BK249.out) hg (Kd.R_ne HO274.out BK249.out (by decide)));have n6_:=qaa.mk (qdp (g:=gb260) (o:=.cells #[.slice Ao79 t277.length co79] 38 (0,0)) (by (with_reducible repeat (refine qab ?_));exact BK260.out) hg (Kd.R_ne HO274.out BK260.out (by decide)));have n7_:=qaa.mk (qdp (g:=gb267) (o:=.cells #[.slice Ao35 t264.length co35] 38 (0,0)) (by (with_reducible repeat (refine qab ?_));exact BK267.out) hg (Kd.R_ne HO274.out BK267.out (by decide)));have n8_:=qaa.mk (Kd.V_afterv (ok:=(fun k_=>(w.heap.size≤k_)∧k_≠gb247∧k_≠gb248∧k_≠gb249∧k_≠gb260∧k_≠gb267)) (by (with_reducible repeat (apply Kd.V_drew));exact Kd.V_mono HO279.out (fun _ hk=>⟨⟨hk.1,⟨hk.2.2.1,⟨hk.2.2.2.1,⟨hk.2.2.2.2.1,⟨hk.2.2.2.2.2.1,hk.2.2.2.2.2.2⟩⟩⟩⟩⟩,hk.2.1⟩)) hg hat);have n9_:=qaa.mk (Kd.V_afterv (ok:=(fun k_=>(w.heap.size≤k_)∧k_≠gb247∧k_≠gb248∧k_≠gb249∧k_≠gb260∧k_≠gb267)) (by (with_reducible repeat (apply Kd.V_drew));exact Kd.V_mono HL280_0.out (fun _ hk=>⟨⟨hk.1,⟨hk.2.2.1,⟨hk.2.2.2.1,⟨hk.2.2.2.2.1,⟨hk.2.2.2.2.2.1,hk.2.2.2.2.2.2⟩⟩⟩⟩⟩,hk.2.1⟩)) hg hat);have n10_:=qaa.mk (hb);have n11_:=qaa.mk (ho);clear HO_6;clear HO_261000;clear HO_268000;clear BK247;clear BK248;clear BK249;clear BK260;clear BK267;clear HO279;clear HL280_0;clear HB;clear HO274;have HO_6:=n0_;have HO_261000:=n1_;have HO_268000:=n2_;have BK247:=n3_;have BK248:=n4_;have BK249:=n5_;have BK260:=n6_;have BK267:=n7_;have HO279:=n8_;have HL280_0:=n9_;have HB:=n10_;have HO283:=n11_;clear n0_ n1_ n2_ n3_ n4_ n5_ n6_ n7_ n8_ n9_ n10_ n11_;clear ho hb hg hat))
             go_roundg k1
             case measure=>have:=HK1.out;omega
             case rel=>exact ⟨(y281),(t277),(.slice Ao79 t277.length co79),H',⟨by have:=HK1.out;omega⟩,⟨by (with_reducible repeat (apply Kd.V_drew));exact Kd.V_mono HO_6.out (fun _ hk=>⟨hk.1.1,⟨hk.2,⟨hk.1.2.1,⟨hk.1.2.2.1,⟨hk.1.2.2.2.1,⟨hk.1.2.2.2.2.1,hk.1.2.2.2.2.2⟩⟩⟩⟩⟩⟩)⟩,⟨by (with_reducible repeat (apply Kd.R_drew));exact HO283.out⟩,⟨by (with_reducible repeat (apply Kd.V_drew));exact Kd.V_mono HO279.out (fun _ hk=>⟨hk.1.1,⟨hk.2,⟨hk.1.2.1,⟨hk.1.2.2.1,⟨hk.1.2.2.2.1,⟨hk.1.2.2.2.2.1,hk.1.2.2.2.2.2⟩⟩⟩⟩⟩⟩)⟩,⟨by (with_reducible repeat (apply Kd.V_drew));exact Kd.V_mono HO_268000.out (fun _ hk=>⟨hk.1.1,⟨hk.2,⟨hk.1.2.1,⟨hk.1.2.2.1,⟨hk.1.2.2.2.1,⟨hk.1.2.2.2.2.1,hk.1.2.2.2.2.2⟩⟩⟩⟩⟩⟩)⟩,⟨by (with_reducible repeat (refine qab ?_));exact BK247.out⟩,⟨by (with_reducible repeat (refine qab ?_));exact BK248.out⟩,⟨by (with_reducible repeat (refine qab ?_));exact BK249.out⟩,⟨by (with_reducible repeat (refine qab ?_));exact BK260.out⟩,⟨by (with_reducible repeat (refine qab ?_));exact BK267.out⟩,⟨by repeat ((with_reducible exact HB.out))⟩⟩
            ·rw [if_neg c62] at H
             exact absurd H (by simp)
           ·rw [if_neg c61] at H
            exact absurd H (by simp)
          ·rw [if_neg c60] at H
           exact absurd H (by simp)
         ·replace c58:=Bool.eq_false_iff.mpr c58
          subst c58
          have H1:(qbq.l0 k1 t261 y272 x261000_1 t264)=some r:=by rw [if_neg (show ¬ (false=true) by decide)] at H;exact H
          clear H
          have H:=H1
          clear H1
          have H':=qaa.mk H
          clear H
          obtain ⟨Ao84,co84,eo84⟩:=Kd.R_slice HO_8.out
          subst eo84
          have p271:0≤((ji42):Int):=of_decide_eq_true (by (with_reducible assumption))
          have q271:(ji42)<(x8_1.length:Int):=of_decide_eq_true (by (with_reducible assumption))
          obtain ⟨ad271,e271,hx271_0⟩:=Kd.at_int (Kd.R_reads' HO_8.out).2.2 (ji42) p271 q271
          cases e271
          replace p271:=eq_true p271
          replace q271:=eq_true q271
          have q85:((ji42):Int)≤((x8_1.length:Int):Int):=of_decide_eq_true (by (with_reducible assumption))
          obtain ⟨i085,hi085,_,hsz85,_⟩:=info_parts qfe
          have hcut85:=cut_to (P:=Tryd.prog) 31 3 .i64 Tryd.underlying31 hi085 (some ad271) x8_1.length co84 (ji42) (of_decide_eq_true (by (with_reducible assumption))) q85 (Kd.R_reads' HO_8.out).2.1
          have hr85:=Kd.R_take (m:=((ji42):Int).toNat) HO_8.out (by omega)
          have hy85:y272.length=((ji42):Int).toNat:=(by rw [Ny272.out,List.length_take];omega)
          rw [← Ny272.out] at hr85
          rw [← hy85] at hr85 hcut85
          clear hy85 hi085 hsz85 HO_8
          have HO274:=qaa.mk hr85
          clear hr85
          replace q85:=eq_true q85
          have hnb86:=NB260_247.out
          have hnc86:=NB247_260.out
          have hnb87:=NB260_248.out
          have hnc87:=NB248_260.out
          have hnb88:=NB260_249.out
          have hnc88:=NB249_260.out
          have hnb89:=NB260_267.out
          have hnc89:=NB267_260.out
          have hcz90_0:wr.cell? ⟨gb260,0,none⟩=some (u261000):=(qad BK260.out 0).trans rfl
          have hfz90_0:=qaf BK260.out 0
          obtain ⟨Ao91,co91,eo91⟩:=Kd.V_slice HO_261000.out
          subst eo91
          go_wp2_with (first|((with_reducible refine qbb (f:=38) rfl ?_);refine qcv (some 43) rfl rfl Tryd.func38 (by kernel_rfl) rfl #[.agg #[.slice Ao91 x261000_1.length co91],.int .i64 (rd x8_1 (ji42))] rfl (by (try simp only [List.map_toArray,List.map_cons,List.map_nil]);rfl) ?_;(with_reducible refine (qbz.calls _ _ x261000_1 (rd x8_1 (ji42)) false _ ?side1 ?side2 A46.out).mono ?_);(case side1=>repeat (exact (Kd.V_reads' HO_261000.out).2.2));(case side2=>exact (Kd.V_reads' HO_261000.out).2.1);rintro e w92 ⟨rfl,hb⟩;refine ⟨_,rfl,?_⟩;replace HO_6:=qaa.mk (Kd.V_below (by (with_reducible repeat (apply Kd.V_drew));exact HO_6.out) hb);replace HO274:=qaa.mk (Kd.R_below (by (with_reducible repeat (apply Kd.R_drew));exact HO274.out) hb);replace HO_261000:=qaa.mk (Kd.V_below (by (with_reducible repeat (apply Kd.V_drew));exact HO_261000.out) hb);replace HO_268000:=qaa.mk (Kd.V_below (by (with_reducible repeat (apply Kd.V_drew));exact HO_268000.out) hb);replace BK247:=qaa.mk (qah (g:=gb247) (o:=.cells #[.bool a0_0,.int .i64 a0_1,.slice A0_2 l0_2.length c0_2] 24 (0,0)) (by (with_reducible repeat (refine qab ?_));exact BK247.out) hb);replace BK248:=qaa.mk (qah (g:=gb248) (o:=.cells #[.int .i64 a1_0,.int .i64 a1_1] 39 (0,0)) (by (with_reducible repeat (refine qab ?_));exact BK248.out) hb);replace BK249:=qaa.mk (qah (g:=gb249) (o:=.cells #[.slice none 0 0] 38 (0,0)) (by (with_reducible repeat (refine qab ?_));exact BK249.out) hb);replace BK260:=qaa.mk (qah (g:=gb260) (o:=.cells #[.slice Ao91 x261000_1.length co91] 38 (0,0)) (by (with_reducible repeat (refine qab ?_));exact BK260.out) hb);replace BK267:=qaa.mk (qah (g:=gb267) (o:=.cells #[.slice Ao35 t264.length co35] 38 (0,0)) (by (with_reducible repeat (refine qab ?_));exact BK267.out) hb);replace HB:=qaa.mk (qal HB.out hb);(try clear hb);have hnb93:=NB267_247.out;have hnc93:=NB247_267.out;have hnb94:=NB267_248.out;have hnc94:=NB248_267.out;have hnb95:=NB267_249.out;have hnc95:=NB249_267.out;have hcz96_0:w92.cell? ⟨gb267,0,none⟩=some (.slice Ao35 t264.length co35):=(qad BK267.out 0).trans rfl;have hfz96_0:=qaf BK267.out 0)|(go_at_call 38;(with_reducible refine (qbz.calls _ _ t264 (rd x8_1 (ji42)) false _ ?side1 ?side2 A57.out).mono ?_);(case side1=>repeat (exact (Kd.V_reads' HO_268000.out).2.2));(case side2=>exact (Kd.V_reads' HO_268000.out).2.1);rintro e w97 ⟨rfl,hb⟩;replace HO_6:=qaa.mk (Kd.V_below (by (with_reducible repeat (apply Kd.V_drew));exact HO_6.out) hb);replace HO274:=qaa.mk (Kd.R_below (by (with_reducible repeat (apply Kd.R_drew));exact HO274.out) hb);replace HO_261000:=qaa.mk (Kd.V_below (by (with_reducible repeat (apply Kd.V_drew));exact HO_261000.out) hb);replace HO_268000:=qaa.mk (Kd.V_below (by (with_reducible repeat (apply Kd.V_drew));exact HO_268000.out) hb);replace BK247:=qaa.mk (qah (g:=gb247) (o:=.cells #[.bool a0_0,.int .i64 a0_1,.slice A0_2 l0_2.length c0_2] 24 (0,0)) (by (with_reducible repeat (refine qab ?_));exact BK247.out) hb);replace BK248:=qaa.mk (qah (g:=gb248) (o:=.cells #[.int .i64 a1_0,.int .i64 a1_1] 39 (0,0)) (by (with_reducible repeat (refine qab ?_));exact BK248.out) hb);replace BK249:=qaa.mk (qah (g:=gb249) (o:=.cells #[.slice none 0 0] 38 (0,0)) (by (with_reducible repeat (refine qab ?_));exact BK249.out) hb);replace BK260:=qaa.mk (qah (g:=gb260) (o:=.cells #[.slice Ao91 x261000_1.length co91] 38 (0,0)) (by (with_reducible repeat (refine qab ?_));exact BK260.out) hb);replace BK267:=qaa.mk (qah (g:=gb267) (o:=.cells #[.slice Ao35 t264.length co35] 38 (0,0)) (by (with_reducible repeat (refine qab ?_));exact BK267.out) hb);replace HB:=qaa.mk (qal HB.out hb);(try clear hb)))
          go_roundg k1
          case measure=>have:=HK1.out;omega
          case rel=>exact ⟨(y272),(x261000_1),(.slice Ao91 x261000_1.length co91),H',⟨by have:=HK1.out;omega⟩,⟨by (with_reducible repeat (apply Kd.V_drew));exact HO_6.out⟩,⟨by (with_reducible repeat (apply Kd.R_drew));exact HO274.out⟩,⟨by (with_reducible repeat (apply Kd.V_drew));exact HO_261000.out⟩,⟨by (with_reducible repeat (apply Kd.V_drew));exact HO_268000.out⟩,⟨by (with_reducible repeat (refine qab ?_));exact BK247.out⟩,⟨by (with_reducible repeat (refine qab ?_));exact BK248.out⟩,⟨by (with_reducible repeat (refine qab ?_));exact BK249.out⟩,⟨by (with_reducible repeat (refine qab ?_));exact BK260.out⟩,⟨by (with_reducible repeat (refine qab ?_));exact BK267.out⟩,⟨by repeat ((with_reducible exact HB.out))⟩⟩
       ·rw [if_neg c45] at H
        exact absurd H (by simp)
      ·rw [if_neg c44] at H
       exact absurd H (by simp)
     ·rw [if_neg c43] at H
      exact absurd H (by simp)
    ·rw [if_neg c41] at H
     have c41b0:decide (0<(x8_1.length:Int))=false:=decide_eq_false c41
     have c41b1:decide (0<x8_1.length)=false:=decide_eq_false (by omega)
     clear c41
     obtain rfl:=Option.some.inj H
     obtain ⟨Ao98,co98,eo98⟩:=Kd.R_slice HO_8.out
     subst eo98
     have hnb99:=NB260_247.out
     have hnc99:=NB247_260.out
     have hnb100:=NB260_248.out
     have hnc100:=NB248_260.out
     have hnb101:=NB260_249.out
     have hnc101:=NB249_260.out
     have hnb102:=NB260_267.out
     have hnc102:=NB267_260.out
     have hcz103_0:wr.cell? ⟨gb260,0,none⟩=some (u261000):=(qad BK260.out 0).trans rfl
     have hfz103_0:=qaf BK260.out 0
     obtain ⟨Ao104,co104,eo104⟩:=Kd.V_slice HO_261000.out
     subst eo104
     have hnb105:=NB249_247.out
     have hnc105:=NB247_249.out
     have hnb106:=NB249_248.out
     have hnc106:=NB248_249.out
     have hnb107:=NB249_267.out
     have hnc107:=NB267_249.out
     have hcz108_0:wr.cell? ⟨gb249,0,none⟩=some (.slice none 0 0):=(qad BK249.out 0).trans rfl
     have hfz108_0:=qaf BK249.out 0
     go_wp2
     refine bodyPost_ret (results_cell_row rfl _ _ gb249 38 #[.slice Ao104 x261000_1.length co104] (0,0) _ rfl (by (with_reducible repeat (refine qab ?_));refine qcs (cs:=#[.slice none 0 0]) ?_ 0 _ rfl;(with_reducible repeat (refine qab ?_));exact BK249.out) Tryd.underlying38 rfl (by kernel_rfl)) rfl ?_
     exact ⟨_,by rfl,by (with_reducible repeat (apply Kd.V_drew));exact Kd.V_mono (Kd.V_far (p:=⟨gb249,0,none⟩) (Kd.V_mono HO_261000.out (fun k_ hk=>(⟨hk,hk.2.2.2.2.1⟩:_∧k_≠gb249))) (fun _ hk=>hk.2) (.slice Ao104 x261000_1.length co104)) (fun _ hk=>hk.1.1),by repeat ((with_reducible first|exact HB.out|refine qbx ?_ GE249.out))⟩
 ·replace c5:=Bool.eq_false_iff.mpr c5
  subst c5
  have H1:(some ([]:List Int))=some r:=by rw [if_neg (show ¬ (false=true) by decide)] at H;exact H
  clear H
  have H:=H1
  clear H1
  obtain rfl:=Option.some.inj H
  go_enter Tryd.func28,Tryd.ntmps28
  try go_wp2_with (first|((with_reducible refine qbf (N:=2) rfl ?_);refine qbr ?hg (N:=2) ?hd (cs:=#[.bool a0_0,.int .i64 a0_1,.slice A0_2 l0_2.length c0_2]) (t:=24) ?hr ?_;(case hd=>rfl);(case hg=>rfl);(case hr=>(go_simp;done));intro gb247 hg w109 hbox hb;have BK247:=qaa.mk (hbox);have GW247:=qaa.mk ((by rw [hg];exact (qac HB.out):w.heap.size≤gb247));have GE247:=qaa.mk ((by rw [hg];exact (qac HB.out):w.heap.size≤gb247));replace HB:=qaa.mk (qal HB.out hb);clear hb hbox hg)|((with_reducible refine qbf (N:=3) rfl ?_);refine qbr ?hg (N:=3) ?hd (cs:=#[.int .i64 a1_0,.int .i64 a1_1]) (t:=39) ?hr ?_;(case hd=>rfl);(case hg=>rfl);(case hr=>(go_simp;done));intro gb248 hg w110 hbox hb;have BK248:=qaa.mk (hbox);have GW248:=qaa.mk ((by rw [hg];exact (qac HB.out):w.heap.size≤gb248));have GE248:=qaa.mk ((by rw [hg];exact (qac HB.out):w.heap.size≤gb248));replace HB:=qaa.mk (qal HB.out hb);have NB247_248:=qaa.mk ((by rw [hg];exact Nat.ne_of_lt (qbn (g:=gb247) (o:=.cells #[.bool a0_0,.int .i64 a0_1,.slice A0_2 l0_2.length c0_2] 24 (0,0)) (by (with_reducible repeat (refine qab ?_));exact BK247.out)):gb247≠gb248));have NB248_247:=qaa.mk ((by rw [hg];exact Nat.ne_of_gt (qbn (g:=gb247) (o:=.cells #[.bool a0_0,.int .i64 a0_1,.slice A0_2 l0_2.length c0_2] 24 (0,0)) (by (with_reducible repeat (refine qab ?_));exact BK247.out)):gb248≠gb247));replace BK247:=qaa.mk (qah (g:=gb247) (o:=.cells #[.bool a0_0,.int .i64 a0_1,.slice A0_2 l0_2.length c0_2] 24 (0,0)) (by (with_reducible repeat (refine qab ?_));exact BK247.out) hb);clear hb hbox hg)|((with_reducible refine qbf (N:=4) rfl ?_);refine qbr ?hg (N:=4) ?hd (cs:=#[.slice none 0 0]) (t:=38) ?hr ?_;(case hd=>rfl);(case hg=>rfl);(case hr=>(go_simp;done));intro gb249 hg w111 hbox hb;have BK249:=qaa.mk (hbox);have GW249:=qaa.mk ((by rw [hg];exact (qac HB.out):w.heap.size≤gb249));have GE249:=qaa.mk ((by rw [hg];exact (qac HB.out):w.heap.size≤gb249));replace HB:=qaa.mk (qal HB.out hb);have NB247_249:=qaa.mk ((by rw [hg];exact Nat.ne_of_lt (qbn (g:=gb247) (o:=.cells #[.bool a0_0,.int .i64 a0_1,.slice A0_2 l0_2.length c0_2] 24 (0,0)) (by (with_reducible repeat (refine qab ?_));exact BK247.out)):gb247≠gb249));have NB249_247:=qaa.mk ((by rw [hg];exact Nat.ne_of_gt (qbn (g:=gb247) (o:=.cells #[.bool a0_0,.int .i64 a0_1,.slice A0_2 l0_2.length c0_2] 24 (0,0)) (by (with_reducible repeat (refine qab ?_));exact BK247.out)):gb249≠gb247));replace BK247:=qaa.mk (qah (g:=gb247) (o:=.cells #[.bool a0_0,.int .i64 a0_1,.slice A0_2 l0_2.length c0_2] 24 (0,0)) (by (with_reducible repeat (refine qab ?_));exact BK247.out) hb);have NB248_249:=qaa.mk ((by rw [hg];exact Nat.ne_of_lt (qbn (g:=gb248) (o:=.cells #[.int .i64 a1_0,.int .i64 a1_1] 39 (0,0)) (by (with_reducible repeat (refine qab ?_));exact BK248.out)):gb248≠gb249));have NB249_248:=qaa.mk ((by rw [hg];exact Nat.ne_of_gt (qbn (g:=gb248) (o:=.cells #[.int .i64 a1_0,.int .i64 a1_1] 39 (0,0)) (by (with_reducible repeat (refine qab ?_));exact BK248.out)):gb249≠gb248));replace BK248:=qaa.mk (qah (g:=gb248) (o:=.cells #[.int .i64 a1_0,.int .i64 a1_1] 39 (0,0)) (by (with_reducible repeat (refine qab ?_));exact BK248.out) hb);clear hb hbox hg))
  have n0_:=qaa.mk (qab BK247.out)
  have n1_:=qaa.mk (qab BK248.out)
  have n2_:=qaa.mk (qab BK249.out)
  have n3_:=qaa.mk (qdb HB.out)
  clear BK247
  clear BK248
  clear BK249
  clear HB
  have BK247:=n0_
  have BK248:=n1_
  have BK249:=n2_
  have HB:=n3_
  clear n0_ n1_ n2_ n3_
  refine qfb (n:=5) (S:=fun w'=>w'.cell? ⟨gb247,0,none⟩=some (.bool a0_0)∧w'.cell? ⟨gb247,1,none⟩=some (.int .i64 a0_1)∧w'.cell? ⟨gb247,2,none⟩=some (.slice A0_2 l0_2.length c0_2)∧w'.cell? ⟨gb248,0,none⟩=some (.int .i64 a1_0)∧w'.cell? ⟨gb248,1,none⟩=some (.int .i64 a1_1)) (ds:=[]) #[false,false,false,false,false] (by kernel_rfl) rfl rfl ⟨(qad BK247.out 0).trans rfl,(qad BK247.out 1).trans rfl,(qad BK247.out 2).trans rfl,(qad BK248.out 0).trans rfl,(qad BK248.out 1).trans rfl⟩ (fun hHeld=>?_)
  generalize w111.drew=w112 at BK247 BK248 BK249 HB hHeld ⊢
  refine take_ (i:=0) (N:=some 10) (v:=?_) (a':=?_) #[true,false,false,false,false] rfl rfl (by kernel_rfl) (fun _ _ _ h=>h) (Or.inl ⟨by rfl,?_⟩) hHeld ?_ ?_
  rotate_left
  ·rintro w' ⟨s0,s1,s2,s3,s4⟩
   go_simp
   with_reducible rfl
  rotate_left
  ·simp only [Act.put,List.setIfInBounds_toArray,List.set_cons_zero,List.set_cons_succ,qbk,qbm]
   rfl
  refine take_ (i:=2) (N:=some 12) (v:=?_) (a':=?_) #[true,false,true,false,false] rfl rfl (by kernel_rfl) (fun _ _ _ h=>h) (Or.inl ⟨by rfl,?_⟩) hHeld ?_ ?_
  rotate_left
  ·rintro w' ⟨s0,s1,s2,s3,s4⟩
   go_simp
   with_reducible rfl
  rotate_left
  ·simp only [Act.put,List.setIfInBounds_toArray,List.set_cons_zero,List.set_cons_succ,qbk,qbm]
   rfl
  refine one_ (i:=1) (N:=some 11) #[true,true,true,false,false] rfl rfl (by kernel_rfl) (by decide) (fun K hK=>?_)
  refine qej Tryd.func26 (by kernel_rfl) rfl #[.agg #[.bool a0_0,.int .i64 a0_1,.slice A0_2 l0_2.length c0_2]] (by rfl) rfl rfl (by (try simp only [List.map_toArray,List.map_cons,List.map_nil]);rfl) ?_
  with_reducible refine (qcd.calls k a0_0 a0_1 _ _ l0_2 t250 _ ?side1 ?side2 ?side3 A3.out).mono ?_
  (case side1=>exact TabW.below' HTB.out HB.out)
  (case side2=>repeat (exact (Kd.C_below HR0_2.out HB.out)))
  (case side3=>exact HC0_2.out)
  rintro e w113 ⟨v251,rfl,ho0,hb⟩
  refine ⟨_,rfl,?_⟩
  have n0_:=qaa.mk (Kd.R_lower (Kd.R_newB (Kd.R_newM (M:=fun k_=>(w.heap.size≤k_)) ho0 (qac HB.out) (fun k_ h_=>h_)) (g:=gb248) (o:=.cells #[.int .i64 a1_0,.int .i64 a1_1] 39 (0,0)) (by (with_reducible repeat (refine qab ?_));exact BK248.out)) (qac HB.out))
  have n1_:=qaa.mk (qah (g:=gb247) (o:=.cells #[.bool a0_0,.int .i64 a0_1,.slice A0_2 l0_2.length c0_2] 24 (0,0)) (by (with_reducible repeat (refine qab ?_));exact BK247.out) hb)
  have n2_:=qaa.mk (qah (g:=gb248) (o:=.cells #[.int .i64 a1_0,.int .i64 a1_1] 39 (0,0)) (by (with_reducible repeat (refine qab ?_));exact BK248.out) hb)
  have n3_:=qaa.mk (qah (g:=gb249) (o:=.cells #[.slice none 0 0] 38 (0,0)) (by (with_reducible repeat (refine qab ?_));exact BK249.out) hb)
  have n4_:=qaa.mk (qal HB.out hb)
  clear BK247
  clear BK248
  clear BK249
  clear HB
  have HO252:=n0_
  have BK247:=n1_
  have BK248:=n2_
  have BK249:=n3_
  have HB:=n4_
  clear n0_ n1_ n2_ n3_ n4_
  (try clear hb)
  (try clear ho0)
  obtain ⟨Ao114,co114,eo114⟩:=Kd.R_slice HO252.out
  (subst eo114)
  refine hK.out _ _ ⟨(qad BK247.out 0).trans rfl,(qad BK247.out 1).trans rfl,(qad BK247.out 2).trans rfl,(qad BK248.out 0).trans rfl,(qad BK248.out 1).trans rfl⟩ (fun hHeld=>?_)
  clear hK K
  refine qdt (a':=?_) ?_ ?_
  rotate_left
  ·show Act.put _ (some 11) _=_
   simp only [Act.put,List.setIfInBounds_toArray,List.set_cons_zero,List.set_cons_succ,qbk,qbm]
   rfl
  refine one_ (i:=3) (N:=some 13) #[true,true,true,true,false] rfl rfl (by kernel_rfl) (by decide) (fun K hK=>?_)
  refine qej Tryd.func58 (by kernel_rfl) rfl #[.slice Ao114 t250.length co114,.agg #[.int .i64 a1_0,.int .i64 a1_1]] (by rfl) rfl rfl (by (try simp only [List.map_toArray,List.map_cons,List.map_nil]);rfl) ?_
  with_reducible refine (qbt.calls k _ _ t250 a1_0 a1_1 false _ ?side1 ?side2 A4.out).mono ?_
  (case side1=>repeat (exact (Kd.R_reads' HO252.out).2.2))
  (case side2=>exact (Kd.R_reads' HO252.out).2.1)
  rintro e w115 ⟨rfl,hb⟩
  refine ⟨_,rfl,?_⟩
  have n0_:=qaa.mk (Kd.R_below (by (with_reducible repeat (apply Kd.R_drew));exact HO252.out) hb)
  have n1_:=qaa.mk (qah (g:=gb247) (o:=.cells #[.bool a0_0,.int .i64 a0_1,.slice A0_2 l0_2.length c0_2] 24 (0,0)) (by (with_reducible repeat (refine qab ?_));exact BK247.out) hb)
  have n2_:=qaa.mk (qah (g:=gb248) (o:=.cells #[.int .i64 a1_0,.int .i64 a1_1] 39 (0,0)) (by (with_reducible repeat (refine qab ?_));exact BK248.out) hb)
  have n3_:=qaa.mk (qah (g:=gb249) (o:=.cells #[.slice none 0 0] 38 (0,0)) (by (with_reducible repeat (refine qab ?_));exact BK249.out) hb)
  have n4_:=qaa.mk (qal HB.out hb)
  clear HO252
  clear BK247
  clear BK248
  clear BK249
  clear HB
  have HO252:=n0_
  have BK247:=n1_
  have BK248:=n2_
  have BK249:=n3_
  have HB:=n4_
  clear n0_ n1_ n2_ n3_ n4_
  (try clear hb)
  refine hK.out _ _ ⟨(qad BK247.out 0).trans rfl,(qad BK247.out 1).trans rfl,(qad BK247.out 2).trans rfl,(qad BK248.out 0).trans rfl,(qad BK248.out 1).trans rfl⟩ (fun hHeld=>?_)
  clear hK K
  refine qdt (a':=?_) ?_ ?_
  rotate_left
  ·show Act.put _ (some 13) _=_
   simp only [Act.put,List.setIfInBounds_toArray,List.set_cons_zero,List.set_cons_succ,qbk,qbm]
   rfl
  refine qct (i:=4) (N:=some 14) (v:=?_) (a':=?_) #[true,true,true,true,true] rfl rfl (by kernel_rfl) (fun _ _ _ h=>h) (Or.inl ⟨by rfl,?_⟩) ?_ ?_
  rotate_left
  ·intro w'
   go_simp
   with_reducible rfl
  rotate_left
  ·simp only [Act.put,List.setIfInBounds_toArray,List.set_cons_zero,List.set_cons_succ,qbk,qbm]
   rfl
  refine qfq (by kernel_rfl) ?_
  have hnb116:=NB249_247.out
  have hnc116:=NB247_249.out
  have hnb117:=NB249_248.out
  have hnc117:=NB248_249.out
  have hcz118_0:w115.cell? ⟨gb249,0,none⟩=some (.slice none 0 0):=(qad BK249.out 0).trans rfl
  have hfz118_0:=qaf BK249.out 0
  try go_wp2
  refine bodyPost_ret (results_cell_row rfl _ _ gb249 38 #[.slice none 0 0] (0,0) _ rfl (by (with_reducible repeat (refine qab ?_));refine qcs (cs:=#[.slice none 0 0]) ?_ 0 _ rfl;(with_reducible repeat (refine qab ?_));exact BK249.out) Tryd.underlying38 rfl (by kernel_rfl)) rfl ?_
  exact ⟨_,by rfl,Kd.R_V (base:=0) (by exact Kd.R_nil _ _ _ _ _),by repeat ((with_reducible first|exact HB.out|refine qbx ?_ GE249.out))⟩
end
end Go.Proofs.YtmfjmbcfaamebaaDoor.X
