/- Parts of the proof of the law CFGDominators: words, walks of single functions and plain laws, joined by a program out of the session's texts. -/
import Derived.Test.YtmfjmbcfaamebaaDoorCFGDominators6
set_option linter.unusedVariables false
set_option linter.unusedSimpArgs false
namespace Go.Proofs.YtmfjmbcfaamebaaDoor.X
open Go.RowKit Go.Proofs.YtmfjmbcfaamebaaDoorW.PrintWords Go.Proofs.YtmfjmbcfaamebaaDoorW.PrintLast Go.Proofs.YtmfjmbcfaamebaaDoorW.PrintMore
attribute [local go_sem] qbs qcb
set_option linter.unusedVariables false
set_option linter.unusedSimpArgs false
def qbi.l0:Nat→List (List Int)→List (S60)→Int→Int→Bool→Int→List (S60)→Option ((List (List Int)))
 | 0,_,_,_,_,_,_,_=>none
 | k+1,x3,x8,x9,x10,x102000,x102001,x102002=>if x10<x9 then (if 0≤x10 then (if x10<(x8.length:Int) then ((qeb.f x102000 x102001 x102002 ((qar x8 x10).f0) ((qar x8 x10).f1) ((qar x8 x10).f2) ((qar x8 x10).f3) ((qar x8 x10).f4)).bind fun t104=>((qdg.f t104).bind fun t107=>((qdc.f t107).bind fun t108=>(if x3.length<5864062014805 then (qbi.l0 k (x3++[t108]) x8 x9 (wrap64 (x10+1)) x102000 x102001 x102002) else (none))))) else (none)) else (none)) else (some x3)
def qbi.f (k:Nat) (a0_0:Bool) (a0_1:Int) (l0_2:List (S60)):Option ((List (List Int))):=qbi.l0 k ([]:List (List Int)) l0_2 (l0_2.length:Int) 0 a0_0 a0_1 l0_2
theorem qbi.mono_l:∀ k,(∀ y0 y1 y2 y3 y4 y5 y6,LeO (qbi.l0 k y0 y1 y2 y3 y4 y5 y6) (qbi.l0 (k+1) y0 y1 y2 y3 y4 y5 y6))
 | 0=>fun _ _ _ _ _ _ _ r h=>by simp [qbi.l0] at h
 | k+1=>by
  have ih0:=qbi.mono_l k
  ·intro y0 y1 y2 y3 y4 y5 y6
   unfold qbi.l0
   repeat' first|(with_reducible exact ih0 _ _ _ _ _ _ _)|(with_reducible exact LeO.refl _)|(with_reducible refine LeO.ite ?_ ?_)|(with_reducible refine LeO.bind ?_ (fun _=>?_))
theorem qbi.mono:∀ a0 a1 a2 k,LeO (qbi.f k a0 a1 a2) (qbi.f (k+1) a0 a1 a2):=by
 intro a0 a1 a2 k
 have ih0:=qbi.mono_l k
 unfold qbi.f
 repeat' (with_reducible exact ih0 _ _ _ _ _ _ _)
set_option maxHeartbeats 8000000 in
set_option maxRecDepth 100000 in
theorem qbi.calls (k:Nat) (a0_0:Bool) (a0_1:Int) (A0_2:Option Addr) (c0_2:Nat) (l0_2:List (S60)) (r:List (List Int)) (w:World) (hr0_2:Kd.C k60 w A0_2 l0_2.length l0_2) (hc0_2:l0_2.length≤c0_2) (h:qbi.f k a0_0 a0_1 l0_2=some r) :
  Calls Tryd.prog 14 #[.agg #[.bool a0_0,.int .i64 a0_1,.slice A0_2 l0_2.length c0_2]] w fun e w'=>∃ v0_:Value,e=.returned (v0_)∧Kd.V (Kd.slice 3 (Kd.int .i64)) 31 w' w.heap.size (fun k_=>(w.heap.size≤k_)) v0_ r∧Below w.heap.size w w':=by
 have hu24:=Tryd.underlying24
 have hu60:=Tryd.underlying60
 have HR0_2:=qaa.mk hr0_2
 have HC0_2:=qaa.mk hc0_2
 clear hr0_2 hc0_2
 have HB:=qaa.mk (Below.refl w.heap.size w)
 have H:(qbi.l0 k ([]:List (List Int)) l0_2 (l0_2.length:Int) 0 a0_0 a0_1 l0_2)=some r:=h
 clear h
 have H':=qaa.mk H
 clear H
 go_enter Tryd.func14,Tryd.ntmps14
 go_wp2_with (((with_reducible refine qbf (N:=1) rfl ?_);refine qbr ?hg (N:=1) ?hd (cs:=#[.bool a0_0,.int .i64 a0_1,.slice A0_2 l0_2.length c0_2]) (t:=24) ?hr ?_;(case hd=>rfl);(case hg=>rfl);(case hr=>(go_simp;done));intro gb101 hg w2 hbox hb;have BK101:=qaa.mk (hbox);have GW101:=qaa.mk ((by rw [hg];exact (qac HB.out):w.heap.size≤gb101));have GE101:=qaa.mk ((by rw [hg];exact (qac HB.out):w.heap.size≤gb101));replace HB:=qaa.mk (qal HB.out hb);clear hb hbox hg;have hcz3_0:w2.cell? ⟨gb101,0,none⟩=some (.bool a0_0):=(qad BK101.out 0).trans rfl;have hcz3_1:w2.cell? ⟨gb101,1,none⟩=some (.int .i64 a0_1):=(qad BK101.out 1).trans rfl;have hcz3_2:w2.cell? ⟨gb101,2,none⟩=some (.slice A0_2 l0_2.length c0_2):=(qad BK101.out 2).trans rfl;have hfz3_0:=qaf BK101.out 0;have hfz3_1:=qaf BK101.out 1;have hfz3_2:=qaf BK101.out 2))
 go_loopg [3,10] k (fun kq v3 v10 w'=>∃ (x3_1:List (List Int)) (x10_1:Int),v10=.int .i64 x10_1∧qaa (qbi.l0 kq x3_1 l0_2 (l0_2.length:Int) x10_1 a0_0 a0_1 l0_2=some r)∧qaa (kq≤k)∧qaa (Kd.S (Kd.slice 3 (Kd.int .i64)) 31 w' w.heap.size (fun k_=>(w.heap.size≤k_)) v3 x3_1)∧qaa (w'.heap[gb101]?=some (.cells #[.bool a0_0,.int .i64 a0_1,(.slice A0_2 l0_2.length c0_2)] 24 (0,0)))∧qaa (Below w.heap.size w w'))
 case atStart=>exact ⟨(([]:List (List Int))),(0),(by rfl),H',⟨Nat.le_refl _⟩,⟨by exact Kd.S_nil _ _ _ _ _⟩,⟨by (with_reducible repeat (refine qab ?_));exact BK101.out⟩,⟨by repeat ((with_reducible exact HB.out))⟩⟩
 case round=>
  clear H'
  try clear hcz3_0
  try clear hcz3_1
  try clear hcz3_2
  try clear hfz3_0
  try clear hfz3_1
  try clear hfz3_2
  obtain ⟨x3_1,x10_1,rfl,HA,HK1,HO_3,BK101,HB⟩:=hrel
  cases gk with
  | zero=>exact absurd HA.out (by simp [qbi.l0])
  | succ k1=>
   have H:=HA.out
   clear HA
   simp only [qbi.l0] at H
   by_cases c4:x10_1<(l0_2.length:Int)
   ·rw [if_pos c4] at H
    have c4b0:decide (x10_1<(l0_2.length:Int))=true:=decide_eq_true c4
    clear c4
    by_cases c5:0≤x10_1
    ·rw [if_pos c5] at H
     have c5b0:decide (0≤x10_1)=true:=decide_eq_true c5
     clear c5
     by_cases c6:x10_1<(l0_2.length:Int)
     ·rw [if_pos c6] at H
      have c6b0:decide (x10_1<(l0_2.length:Int))=true:=decide_eq_true c6
      clear c6
      replace H:=Option.bind_eq_some_iff.mp H
      obtain ⟨t104,A70,H⟩:=H
      replace H:((qdg.f t104).bind fun t107=>((qdc.f t107).bind fun t108=>(if x3_1.length<5864062014805 then (qbi.l0 k1 (x3_1++[t108]) l0_2 (l0_2.length:Int) (wrap64 (x10_1+1)) a0_0 a0_1 l0_2) else (none))))=some r:=H
      have A7:=qaa.mk A70
      clear A70
      replace H:=Option.bind_eq_some_iff.mp H
      obtain ⟨t107,A80,H⟩:=H
      replace H:((qdc.f t107).bind fun t108=>(if x3_1.length<5864062014805 then (qbi.l0 k1 (x3_1++[t108]) l0_2 (l0_2.length:Int) (wrap64 (x10_1+1)) a0_0 a0_1 l0_2) else (none)))=some r:=H
      have A8:=qaa.mk A80
      clear A80
      replace H:=Option.bind_eq_some_iff.mp H
      obtain ⟨t108,A90,H⟩:=H
      replace H:(if x3_1.length<5864062014805 then (qbi.l0 k1 (x3_1++[t108]) l0_2 (l0_2.length:Int) (wrap64 (x10_1+1)) a0_0 a0_1 l0_2) else (none))=some r:=H
      have A9:=qaa.mk A90
      clear A90
      by_cases c10:x3_1.length<5864062014805
      ·rw [if_pos c10] at H
       have LMc10:=qaa.mk c10
       clear c10
       obtain ⟨y111,hy111⟩:∃ y_:List (List Int),y_=(x3_1++[t108]):=⟨_,rfl⟩
       replace H:(qbi.l0 k1 y111 l0_2 (l0_2.length:Int) (wrap64 (x10_1+1)) a0_0 a0_1 l0_2)=some r:=by (rw [hy111];with_reducible exact H)
       have Ny111:=qaa.mk hy111
       clear hy111
       have H':=qaa.mk H
       clear H
       have p102:0≤(x10_1:Int):=of_decide_eq_true (by (with_reducible assumption))
       have q102:x10_1<(l0_2.length:Int):=of_decide_eq_true (by (with_reducible assumption))
       obtain ⟨ad102,A102_0,c102_0,e102,hx102_0,hx102_1,hx102_2,hx102_3,hx102_4,hl102_0,hi102_0⟩:=at_T60 HR0_2.out x10_1 p102 q102
       cases e102
       replace hx102_0:=(HB.out.cell (World.block_lt_of_cell? w _ hx102_0)).trans hx102_0
       replace hx102_1:=(HB.out.cell (World.block_lt_of_cell? w _ hx102_1)).trans hx102_1
       replace hx102_2:=(HB.out.cell (World.block_lt_of_cell? w _ hx102_2)).trans hx102_2
       replace hx102_3:=(HB.out.cell (World.block_lt_of_cell? w _ hx102_3)).trans hx102_3
       replace hx102_4:=(HB.out.cell (World.block_lt_of_cell? w _ hx102_4)).trans hx102_4
       have HR102_0:=qaa.mk hi102_0
       have HC102_0:=qaa.mk hl102_0
       clear hi102_0 hl102_0
       replace p102:=eq_true p102
       replace q102:=eq_true q102
       go_wp2_with (first|((with_reducible refine qbf (N:=5) rfl ?_);refine qbr ?hg (N:=5) ?hd (cs:=#[.slice none 0 0,.int .i64 0,.int .i64 0,.int .i64 0,.int .i64 0]) (t:=60) ?hr ?_;(case hd=>rfl);(case hg=>rfl);(case hr=>(go_simp;done));intro gb103 hg w11 hbox hb;replace HO_3:=qaa.mk (Kd.S_below (by (with_reducible repeat (apply Kd.S_drew));exact HO_3.out) hb);have BK103:=qaa.mk (hbox);have GW103:=qaa.mk ((by rw [hg];exact (qac HB.out):w.heap.size≤gb103));have GE103:=qaa.mk ((by rw [hg];exact (qac HB.out):w.heap.size≤gb103));replace HB:=qaa.mk (qal HB.out hb);have NB101_103:=qaa.mk ((by rw [hg];exact Nat.ne_of_lt (qbn (g:=gb101) (o:=.cells #[.bool a0_0,.int .i64 a0_1,.slice (some ad102) l0_2.length c0_2] 24 (0,0)) (by (with_reducible repeat (refine qab ?_));exact BK101.out)):gb101≠gb103));have NB103_101:=qaa.mk ((by rw [hg];exact Nat.ne_of_gt (qbn (g:=gb101) (o:=.cells #[.bool a0_0,.int .i64 a0_1,.slice (some ad102) l0_2.length c0_2] 24 (0,0)) (by (with_reducible repeat (refine qab ?_));exact BK101.out)):gb103≠gb101));replace BK101:=qaa.mk (qah (g:=gb101) (o:=.cells #[.bool a0_0,.int .i64 a0_1,.slice (some ad102) l0_2.length c0_2] 24 (0,0)) (by (with_reducible repeat (refine qab ?_));exact BK101.out) hb);clear hb hbox hg;have hnb12:=NB103_101.out;have hnc12:=NB101_103.out;have hcz13_0:w11.cell? ⟨gb103,0,none⟩=some (.slice none 0 0):=(qad BK103.out 0).trans rfl;have hcz13_1:w11.cell? ⟨gb103,1,none⟩=some (.int .i64 0):=(qad BK103.out 1).trans rfl;have hcz13_2:w11.cell? ⟨gb103,2,none⟩=some (.int .i64 0):=(qad BK103.out 2).trans rfl;have hcz13_3:w11.cell? ⟨gb103,3,none⟩=some (.int .i64 0):=(qad BK103.out 3).trans rfl;have hcz13_4:w11.cell? ⟨gb103,4,none⟩=some (.int .i64 0):=(qad BK103.out 4).trans rfl;have hfz13_0:=qaf BK103.out 0;have hfz13_1:=qaf BK103.out 1;have hfz13_2:=qaf BK103.out 2;have hfz13_3:=qaf BK103.out 3;have hfz13_4:=qaf BK103.out 4;have hcz14_0:w11.cell? ⟨gb101,0,none⟩=some (.bool a0_0):=(qad BK101.out 0).trans rfl;have hcz14_1:w11.cell? ⟨gb101,1,none⟩=some (.int .i64 a0_1):=(qad BK101.out 1).trans rfl;have hcz14_2:w11.cell? ⟨gb101,2,none⟩=some (.slice (some ad102) l0_2.length c0_2):=(qad BK101.out 2).trans rfl;have hfz14_0:=qaf BK101.out 0;have hfz14_1:=qaf BK101.out 1;have hfz14_2:=qaf BK101.out 2)|((with_reducible refine qbb (f:=43) rfl ?_);refine qcv (some 16) rfl rfl Tryd.func43 (by kernel_rfl) rfl #[.agg #[.bool a0_0,.int .i64 a0_1,.slice (some ad102) l0_2.length c0_2],.agg #[.slice A102_0 ((qar l0_2 x10_1).f0).length c102_0,.int .i64 ((qar l0_2 x10_1).f1),.int .i64 ((qar l0_2 x10_1).f2),.int .i64 ((qar l0_2 x10_1).f3),.int .i64 ((qar l0_2 x10_1).f4)]] rfl (by (try simp only [List.map_toArray,List.map_cons,List.map_nil]);rfl) ?_;(with_reducible refine (qeb.calls a0_0 a0_1 _ _ l0_2 _ _ ((qar l0_2 x10_1).f0) ((qar l0_2 x10_1).f1) ((qar l0_2 x10_1).f2) ((qar l0_2 x10_1).f3) ((qar l0_2 x10_1).f4) t104 _ ?side1 ?side2 ?side3 ?side4 A7.out).mono ?_);(case side1=>exact Kd.C_below HR0_2.out (by repeat ((with_reducible first|exact HB.out|refine qbx ?_ GE103.out))));(case side2=>exact HC0_2.out);(case side3=>exact Kd.C_below HR102_0.out (by repeat ((with_reducible first|exact HB.out|refine qbx ?_ GE103.out))));(case side4=>exact HC102_0.out);rintro e w15 ⟨v105,rfl,ho0,hb⟩;refine ⟨_,rfl,?_⟩;replace HO_3:=qaa.mk (Kd.S_elder' (by (with_reducible repeat (apply Kd.S_drew));exact (Kd.S_mono (Kd.S_far (p:=⟨gb103,4,none⟩) (Kd.S_far (p:=⟨gb103,3,none⟩) (Kd.S_far (p:=⟨gb103,2,none⟩) (Kd.S_far (p:=⟨gb103,1,none⟩) (Kd.S_far (p:=⟨gb103,0,none⟩) (Kd.S_types HO_3.out BK103.out (by decide)) (fun _ hk=>hk.2) (.slice A102_0 ((qar l0_2 x10_1).f0).length c102_0)) (fun _ hk=>hk.2) (.int .i64 ((qar l0_2 x10_1).f1))) (fun _ hk=>hk.2) (.int .i64 ((qar l0_2 x10_1).f2))) (fun _ hk=>hk.2) (.int .i64 ((qar l0_2 x10_1).f3))) (fun _ hk=>hk.2) (.int .i64 ((qar l0_2 x10_1).f4))) (fun _ h_=>h_.1))) (Kd.R_base ho0) hb);have HO106:=qaa.mk (Kd.R_lower (Kd.R_newM (M:=fun k_=>(w.heap.size≤k_)) ho0 (qac (by repeat ((with_reducible first|exact HB.out|refine qbx ?_ GE103.out)))) (fun k_ h_=>h_)) (qac (by repeat ((with_reducible first|exact HB.out|refine qbx ?_ GE103.out)))));replace BK101:=qaa.mk (qah (g:=gb101) (o:=.cells #[.bool a0_0,.int .i64 a0_1,.slice (some ad102) l0_2.length c0_2] 24 (0,0)) (by (with_reducible repeat (refine qab ?_));refine qcx ?_ NB101_103.out _;(with_reducible repeat (refine qab ?_));refine qcx ?_ NB101_103.out _;(with_reducible repeat (refine qab ?_));refine qcx ?_ NB101_103.out _;(with_reducible repeat (refine qab ?_));refine qcx ?_ NB101_103.out _;(with_reducible repeat (refine qab ?_));refine qcx ?_ NB101_103.out _;(with_reducible repeat (refine qab ?_));exact BK101.out) hb);replace BK103:=qaa.mk (qah (g:=gb103) (o:=.cells #[.slice A102_0 ((qar l0_2 x10_1).f0).length c102_0,.int .i64 ((qar l0_2 x10_1).f1),.int .i64 ((qar l0_2 x10_1).f2),.int .i64 ((qar l0_2 x10_1).f3),.int .i64 ((qar l0_2 x10_1).f4)] 60 (0,0)) (by (with_reducible repeat (refine qab ?_));refine qcs (cs:=#[.slice A102_0 ((qar l0_2 x10_1).f0).length c102_0,.int .i64 ((qar l0_2 x10_1).f1),.int .i64 ((qar l0_2 x10_1).f2),.int .i64 ((qar l0_2 x10_1).f3),.int .i64 0]) ?_ 4 _ rfl;(with_reducible repeat (refine qab ?_));refine qcs (cs:=#[.slice A102_0 ((qar l0_2 x10_1).f0).length c102_0,.int .i64 ((qar l0_2 x10_1).f1),.int .i64 ((qar l0_2 x10_1).f2),.int .i64 0,.int .i64 0]) ?_ 3 _ rfl;(with_reducible repeat (refine qab ?_));refine qcs (cs:=#[.slice A102_0 ((qar l0_2 x10_1).f0).length c102_0,.int .i64 ((qar l0_2 x10_1).f1),.int .i64 0,.int .i64 0,.int .i64 0]) ?_ 2 _ rfl;(with_reducible repeat (refine qab ?_));refine qcs (cs:=#[.slice A102_0 ((qar l0_2 x10_1).f0).length c102_0,.int .i64 0,.int .i64 0,.int .i64 0,.int .i64 0]) ?_ 1 _ rfl;(with_reducible repeat (refine qab ?_));refine qcs (cs:=#[.slice none 0 0,.int .i64 0,.int .i64 0,.int .i64 0,.int .i64 0]) ?_ 0 _ rfl;(with_reducible repeat (refine qab ?_));exact BK103.out) hb);replace HB:=qaa.mk (qal (by repeat ((with_reducible first|exact HB.out|refine qbx ?_ GE103.out))) hb);(try clear hb);(try clear ho0);obtain ⟨Ao16,co16,eo16⟩:=Kd.R_slice HO106.out;subst eo16)|((with_reducible refine qbb (f:=44) rfl ?_);refine qcv (some 18) rfl rfl Tryd.func44 (by kernel_rfl) rfl #[.slice Ao16 t104.length co16] rfl (by (try simp only [List.map_toArray,List.map_cons,List.map_nil]);rfl) ?_;(with_reducible refine (qdg.calls (fun k_=>some k_=(.slice Ao16 t104.length co16:Value).ownBlock) (.slice Ao16 t104.length co16) t104 t107 w _ ?side1 ?side2 A8.out).mono ?_);(case side1=>repeat ((with_reducible exact HB.out)));(case side2=>exact Kd.R_tight rfl HO106.out);rintro e w17 ⟨rfl,hy0,hb,hkp⟩;refine ⟨_,rfl,?_⟩;replace HO_3:=qaa.mk (Kd.S_mono (ok':=fun k_=>(w.heap.size≤k_)∧some k_≠(.slice Ao16 t104.length co16:Value).ownBlock) (Kd.S_keptB (HO_3.out) hkp (fun k_ hk_ hs_=>(hk_.2) hs_)) (fun k_ hk_=>⟨hk_.1.1,hk_.1.2⟩));replace BK101:=qaa.mk (qen (by (with_reducible repeat (refine qab ?_));exact BK101.out) hkp (fun hs_=>(fun e_=>(Kd.R_ne HO106.out BK101.out (by decide)) e_) hs_));replace BK103:=qaa.mk (qen (by (with_reducible repeat (refine qab ?_));exact BK103.out) hkp (fun hs_=>(fun e_=>(Kd.R_ne HO106.out BK103.out (by decide)) e_) hs_));replace HO106:=qaa.mk (Kd.R_reok rfl hy0 (fun k_ e_=>HO106.out.1 k_ e_));replace HB:=qaa.mk (hb);(try clear hb);(try clear hkp);(try clear hy0))|((with_reducible refine qbb (f:=45) rfl ?_);refine qcv (some 21) rfl rfl Tryd.func45 (by kernel_rfl) rfl #[.slice Ao16 t104.length co16] rfl (by (try simp only [List.map_toArray,List.map_cons,List.map_nil]);rfl) ?_;(with_reducible refine (qdc.calls (fun k_=>some k_=(.slice Ao16 t104.length co16:Value).ownBlock) (.slice Ao16 t104.length co16) t107 t108 w _ ?side1 ?side2 A9.out).mono ?_);(case side1=>repeat ((with_reducible exact HB.out)));(case side2=>exact Kd.R_tight rfl HO106.out);rintro e w18 ⟨v109,rfl,ho0,hb,hkp⟩;refine ⟨_,rfl,?_⟩;have n0_:=qaa.mk (Kd.S_mono (ok':=fun k_=>(w.heap.size≤k_)∧some k_≠(v109:Value).ownBlock) (Kd.S_keptB (HO_3.out) hkp (fun k_ hk_ hs_=>(hk_.2) hs_)) (fun k_ hk_=>⟨hk_.1.1,fun e_=>Or.elim (ho0.1 k_ e_.symm) (fun hs_=>hk_.2.1 hs_) (fun hn_=>Nat.not_le.2 hk_.2.2 hn_)⟩));have n1_:=qaa.mk (qen (by (with_reducible repeat (refine qab ?_));exact BK101.out) hkp (fun hs_=>(fun e_=>(Kd.R_ne HO106.out BK101.out (by decide)) e_) hs_));have n2_:=qaa.mk (qen (by (with_reducible repeat (refine qab ?_));exact BK103.out) hkp (fun hs_=>(fun e_=>(Kd.R_ne HO106.out BK103.out (by decide)) e_) hs_));have n3_:=qaa.mk (Kd.R_mono (ok':=fun k_=>(w.heap.size≤k_)) ho0 (fun k_ hk_=>Or.elim hk_ (fun hs_=>(HO106.out.1 k_ (hs_).symm).1) (fun hn_=>(Nat.le_trans (qac HB.out) hn_))));have n4_:=qaa.mk (hb);clear HO_3;clear BK101;clear BK103;clear HB;clear HO106;have HO_3:=n0_;have BK101:=n1_;have BK103:=n2_;have HO110:=n3_;have HB:=n4_;clear n0_ n1_ n2_ n3_ n4_;(try clear hb);(try clear hkp);(try clear ho0);obtain ⟨Ao20,co20,eo20⟩:=Kd.R_slice HO110.out;subst eo20)|((with_reducible refine qdf (b:=.append) (xs:=#[.tmp 19,.tmp 22]) rfl ?_);at_builtin;refine Kd.S_append (Kd.slice 3 (Kd.int .i64)) (w0:=w) w.heap.size rfl (.tmp 19) (.tmp 22) 28 31 (.slice none 0 0) 24 rfl Tryd.underlying28 info31 rfl (by decide) (by omega) u3 x3_1 t108 [.slice Ao20 t108.length co20] (fun k_=>(w.heap.size≤k_)) (fun k_=>some k_=(.slice Ao20 t108.length co20:Value).ownBlock) rfl rfl ?aP (fun k_ hk_=>((Kd.R_mono (ok':=fun k_=>((fun k_=>(w.heap.size≤k_))) k_∧some k_≠(u3:Value).ownBlock) (Kd.R_apart' (HO110.out) (Kd.S_typed HO_3.out) (by decide)) (fun k_ hk=>⟨hk.1,hk.2⟩))).1 k_ hk_.symm) ?aF ?aO ?aB ?aS ?aL ?_;(case aP=>exact Kd.M_row (Kd.R_mono (Kd.R_tight rfl (Kd.R_mono (ok':=fun k_=>((fun k_=>(w.heap.size≤k_))) k_∧some k_≠(u3:Value).ownBlock) (Kd.R_apart' (HO110.out) (Kd.S_typed HO_3.out) (by decide)) (fun k_ hk=>⟨hk.1,hk.2⟩))) (fun _ h_=>h_)));(case aB=>exact HB.out);(case aF=>exact (fun k_ hk=>(Nat.le_trans (qac HB.out) hk)));(case aO=>exact (by (with_reducible repeat (apply Kd.S_drew));exact Kd.S_mono HO_3.out (fun k_ hk=>⟨hk.1,fun e_=>hk.2 e_⟩)));(case aS=>exact (qac HB.out));(case aL=>have:=LMc10.out;omega);intro v112 w19 ho hb hg hat;rw [← Ny111.out] at ho;have n0_:=qaa.mk (qdp (g:=gb101) (o:=.cells #[.bool a0_0,.int .i64 a0_1,.slice (some ad102) l0_2.length c0_2] 24 (0,0)) (by (with_reducible repeat (refine qab ?_));exact BK101.out) hg (Kd.S_ne HO_3.out BK101.out (by decide)));have n1_:=qaa.mk (qdp (g:=gb103) (o:=.cells #[.slice A102_0 ((qar l0_2 x10_1).f0).length c102_0,.int .i64 ((qar l0_2 x10_1).f1),.int .i64 ((qar l0_2 x10_1).f2),.int .i64 ((qar l0_2 x10_1).f3),.int .i64 ((qar l0_2 x10_1).f4)] 60 (0,0)) (by (with_reducible repeat (refine qab ?_));exact BK103.out) hg (Kd.S_ne HO_3.out BK103.out (by decide)));have n2_:=qaa.mk (hb);have n3_:=qaa.mk (ho);clear BK101;clear BK103;clear HB;clear HO_3;clear HO110;have BK101:=n0_;have BK103:=n1_;have HB:=n2_;have HO113:=n3_;clear n0_ n1_ n2_ n3_;clear ho hb hg hat))
       go_roundg k1
       case measure=>have:=HK1.out;omega
       case rel=>exact ⟨(y111),(wrap64 (x10_1+1)),(by rfl),H',⟨by have:=HK1.out;omega⟩,⟨by (with_reducible repeat (apply Kd.S_drew));exact HO113.out⟩,⟨by (with_reducible repeat (refine qab ?_));exact BK101.out⟩,⟨by repeat ((with_reducible exact HB.out))⟩⟩
      ·rw [if_neg c10] at H
       exact absurd H (by simp)
     ·rw [if_neg c6] at H
      exact absurd H (by simp)
    ·rw [if_neg c5] at H
     exact absurd H (by simp)
   ·rw [if_neg c4] at H
    have c4b0:decide (x10_1<(l0_2.length:Int))=false:=decide_eq_false c4
    clear c4
    obtain rfl:=Option.some.inj H
    go_wp2
    go_ret
    exact ⟨_,by rfl,Kd.S_V (by (with_reducible repeat (apply Kd.S_drew));exact HO_3.out),by repeat ((with_reducible exact HB.out))⟩
end Go.Proofs.YtmfjmbcfaamebaaDoor.X
namespace Go.Proofs.YtmfjmbcfaamebaaDoor.X
noncomputable section
open Go.RowKit Go.Proofs.YtmfjmbcfaamebaaDoorW.PrintWords Go.Proofs.YtmfjmbcfaamebaaDoorW.PrintLast Go.Proofs.YtmfjmbcfaamebaaDoorW.PrintMore
attribute [local go_sem] qbs qcb
set_option linter.unusedVariables false
set_option linter.unusedSimpArgs false
def backIn (dom:List S38) (a:Int):List Int→List S39→Option (List S39)
 | [],out=>some out
 | b::t,out=>if a<(dom.length:Int)∧out.length<1099511627776 then (qbz.f (qco dom a).f0 b).bind fun h=>backIn dom a t (if h=true then out++[⟨a,b⟩] else out) else none
def qhd (dom:List S38):Nat→List (List Int)→List S39→Option (List S39)
 | _,[],out=>some out
 | a,l::t,out=>(backIn dom (a:Int) l out).bind (qhd dom (a+1) t)
def qcd.f (k:Nat) (a0_0:Bool) (a0_1:Int) (l0_2:List S60):Option (List S39):=
 (qbd.f a0_0 a0_1 l0_2).bind fun dom=>(qbi.f k a0_0 a0_1 l0_2).bind fun s=>qhd dom 0 s []
theorem qcd.mono:∀ a0 a1 a2 k,LeO (qcd.f k a0 a1 a2) (qcd.f (k+1) a0 a1 a2):=by
 intro a0 a1 a2 k
 unfold qcd.f
 exact LeO.bind (LeO.refl _) (fun _=>LeO.bind (qbi.mono _ _ _ _) (fun _=>LeO.refl _))
set_option maxRecDepth 100000 in
set_option maxHeartbeats 4000000 in
theorem qcd.calls (k:Nat) (a0_0:Bool) (a0_1:Int) (A0_2:Option Addr) (c0_2:Nat) (l0_2:List (S60)) (r:List S39) (w:World) (hT:TabW w) (hr0_2:Kd.C k60 w A0_2 l0_2.length l0_2) (hc0_2:l0_2.length≤c0_2) (h:qcd.f k a0_0 a0_1 l0_2=some r) :
  Calls Tryd.prog 26 #[.agg #[.bool a0_0,.int .i64 a0_1,.slice A0_2 l0_2.length c0_2]] w fun e w'=>∃ v0_:Value,e=.returned v0_∧Kd.R k39 39 w' w.heap.size (fun _=>True) v0_ r∧Below w.heap.size w w':=by
 have hu24:=Tryd.underlying24
 have hu38:=Tryd.underlying38
 have hu39:=Tryd.underlying39
 unfold qcd.f at h
 obtain ⟨dom,hd,h⟩:=Option.bind_eq_some_iff.1 h
 obtain ⟨s,hs,h⟩:=Option.bind_eq_some_iff.1 h
 have HP:=qaa.mk h
 have HCD:=qaa.mk (fun W (hW:Below w.heap.size w W)=>qbd.calls a0_0 a0_1 A0_2 c0_2 l0_2 dom W (hT.below' hW) (Kd.C_below hr0_2 hW) hc0_2 hd)
 have HCS:=qaa.mk (fun W (hW:Below w.heap.size w W)=>qbi.calls k a0_0 a0_1 A0_2 c0_2 l0_2 s W (Kd.C_below hr0_2 hW) hc0_2 hs)
 clear hr0_2 hs hd h hT
 go_enter Tryd.func26,Tryd.ntmps26
 obtain ⟨W0,hW0⟩:∃ W0,w.alloc (Obj.cells #[Value.bool a0_0,Value.int .i64 a0_1,.slice A0_2 l0_2.length c0_2] 24)=W0:=⟨_,rfl⟩
 have hB0:Below w.heap.size w W0:=by rw [← hW0];exact (Below.refl _ w).alloc (Nat.le_refl _) _
 have b24:W0.heap[w.heap.size]?=some (.cells #[Value.bool a0_0,Value.int .i64 a0_1,.slice A0_2 l0_2.length c0_2] 24 (0,0)):=by rw [← hW0];exact World.alloc_heap_new w _
 have c24_0:W0.cell? ⟨w.heap.size,0,none⟩=some (.bool a0_0):=qcu b24 0 rfl
 have c24_1:W0.cell? ⟨w.heap.size,1,none⟩=some (.int .i64 a0_1):=qcu b24 1 rfl
 have c24_2:W0.cell? ⟨w.heap.size,2,none⟩=some (.slice A0_2 l0_2.length c0_2):=qcu b24 2 rfl
 go_wp2_with (first|(go_at_call 21;refine (HCD.out W0 hB0).mono ?_;rintro e W1 ⟨v1,rfl,hV1,hB1⟩;obtain ⟨A1,c1,rfl⟩:=Kd.V_slice hV1;have HV1:=qaa.mk hV1;have hB01:=hB0.trans (hB1.mono hB0.size);have b24':=(hB1.block _ (qbn b24)).trans b24;have hs01:=hB1.size;have c24_0':W1.cell? ⟨w.heap.size,0,none⟩=some (.bool a0_0):=qcu b24' 0 rfl;have c24_1':W1.cell? ⟨w.heap.size,1,none⟩=some (.int .i64 a0_1):=qcu b24' 1 rfl;have c24_2':W1.cell? ⟨w.heap.size,2,none⟩=some (.slice A0_2 l0_2.length c0_2):=qcu b24' 2 rfl;clear hV1 hB1)|(go_at_call 14;refine (HCS.out _ hB01).mono ?_;rintro e W2 ⟨v2,rfl,hV2,hB2⟩;obtain ⟨A2,c2,rfl⟩:=Kd.V_slice hV2;have HV2:=qaa.mk hV2;have hB02:=hB01.trans (hB2.mono hB01.size);have hF1:=Kd.F_bound (Kd.F_below (Kd.V_F HV1.out) hB2);have hs12:=hB2.size;clear hV2 hB2))
 have hF2:=Kd.F_bound (Kd.V_F HV2.out)
 have hFD:Kd.F k38 W2 (fun k=>k<W2.heap.size) A1 dom.length dom:=Kd.F_mono hF1 (fun k hk=>hk.2)
 have hFS:Kd.F (Kd.slice 3 (Kd.int .i64)) W2 (fun k=>k<W2.heap.size) A2 s.length s:=Kd.F_mono hF2 (fun k hk=>hk.2)
 have hsl:s.length≤9223372036854775807:=Kd.F_max hFS
 have hdl:dom.length≤9223372036854775807:=Kd.F_max hFD
 have hlw:w.heap.size≤W2.heap.size:=hB02.size
 clear hF1 hF2 HCD HCS b24 b24' c24_0 c24_1 c24_2 c24_0' c24_1' c24_2' hW0
 go_loopw [3,14] (fun v3 v wr=>∃ i:Nat,i≤s.length∧v=.int .i64 i∧∃ outi:List S39,qaa (qhd dom i (s.drop i) outi=some r)∧qaa (Kd.R k39 39 wr w.heap.size (fun k=>W2.heap.size≤k) v3 outi)∧qaa (Kd.F k38 wr (fun k=>k<W2.heap.size) A1 dom.length dom)∧qaa (Kd.F (Kd.slice 3 (Kd.int .i64)) wr (fun k=>k<W2.heap.size) A2 s.length s)∧qaa (Below w.heap.size w wr)∧W2.heap.size≤wr.heap.size)
  (fun _ v _=>s.length-(intOf v).toNat)
 case atStart=>exact ⟨0,Nat.zero_le _,rfl,[],by simpa using HP,⟨Kd.R_nil _ _ _ _ _⟩,⟨hFD⟩,⟨hFS⟩,⟨hB02⟩,Nat.le_refl _⟩
 case round=>
  clear HP hFD hFS hB02
  obtain ⟨i,hi,rfl,outi,HP,HO,HD,HF,HB,hw2⟩:=hrel
  by_cases hlt:i<s.length
  ·obtain ⟨ad,c,rfl,_,hFK,hcc,_⟩:=Kd.F_get HF.out [] (i:Int) (by omega) (by omega)
   obtain ⟨Ai,ci,rfl,hci,hFi⟩:=Kd.FK_slice_open hFK
   have hx:=hcc 0 _ rfl
   have hgi:s.getD ((i:Int)).toNat []=s[i]:=by simp [hlt]
   rw [hgi] at hx hFi hci
   have HHP:=HP.out
   rw [List.drop_eq_getElem_cons hlt,qhd] at HHP
   obtain ⟨li,hli⟩:∃ li,s[i]=li:=⟨_,rfl⟩
   rw [hli] at hx hFi hci HHP
   obtain ⟨out',hin,hrest⟩:=Option.bind_eq_some_iff.1 HHP
   have HIN:=qaa.mk hin
   have HRE:=qaa.mk hrest
   have HFI:=qaa.mk hFi
   have hll:=Kd.F_max hFi
   clear HHP hin hrest hFi hFK hgi hcc
   simp only [Int.toNat_natCast,show (Kd.slice 3 (Kd.int .i64)).sz=1 from rfl,Nat.mul_one,Nat.add_zero] at hx
   go_wp2
   go_loopw [3,21] (fun v3 v wr=>∃ j:Nat,j≤li.length∧v=.int .i64 j∧∃ outj:List S39,qaa (backIn dom (i:Int) (li.drop j) outj=some out')∧qaa (Kd.R k39 39 wr w.heap.size (fun k=>W2.heap.size≤k) v3 outj)∧qaa (Kd.F k38 wr (fun k=>k<W2.heap.size) A1 dom.length dom)∧qaa (Kd.F (Kd.slice 3 (Kd.int .i64)) wr (fun k=>k<W2.heap.size) (some ad) s.length s)∧qaa (Kd.F (Kd.int .i64) wr (fun k=>k<W2.heap.size) Ai li.length li)∧qaa (Below w.heap.size w wr)∧W2.heap.size≤wr.heap.size)
    (fun _ v _=>li.length-(intOf v).toNat)
   case atStart=>exact ⟨0,Nat.zero_le _,rfl,outi,HIN,HO,HD,HF,HFI,HB,hw2⟩
   case round=>
    clear HIN HO HD HF HFI HB hw2 hx HP
    obtain ⟨j,hj,rfl,outj,HIN,HO,HD,HF,HFI,HB,hw2⟩:=hrel
    by_cases hltj:j<li.length
    ·obtain ⟨adi,rfl,hx⟩:=Kd.at_int (Kd.F_now HFI.out) (j:Int) (by omega) (by omega)
     have hgj:rd li (j:Int)=li[j]:=by simp [rd,hltj]
     rw [hgj] at hx
     have hHIN:=HIN.out
     rw [List.drop_eq_getElem_cons hltj,backIn] at hHIN
     obtain ⟨b,hb⟩:∃ b,li[j]=b:=⟨_,rfl⟩
     rw [hb] at hx hHIN
     by_cases hbb:(i:Int)<(dom.length:Int)∧outj.length<1099511627776
     case neg=>rw [if_neg hbb] at hHIN;cases hHIN
     rw [if_pos hbb] at hHIN
     obtain ⟨hb1,hb2⟩:=hbb
     obtain ⟨t,ht,hHIN⟩:=Option.bind_eq_some_iff.1 hHIN
     have HIN2:=qaa.mk hHIN
     clear hHIN HIN
     obtain ⟨add,cd,rfl,_,hFKd,hccd,_⟩:=Kd.F_get HD.out (⟨[]⟩:S38) (i:Int) (by omega) hb1
     obtain ⟨Ad,cd',rfl,hcd,hFd⟩:=qfo hFKd
     have hxd:=hccd 0 _ rfl
     simp only [Int.toNat_natCast,show k38.sz=1 from rfl,Nat.mul_one,Nat.add_zero] at hxd
     obtain ⟨wd,hwd⟩:∃ wd,(qco dom (i:Int)).f0=wd:=⟨_,rfl⟩
     have hwd':(dom.getD i (⟨[]⟩:S38)).f0=wd:=hwd
     have hwd'':(dom.getD ((i:Int)).toNat (⟨[]⟩:S38)).f0=wd:=hwd
     rw [hwd'] at hxd
     rw [hwd''] at hcd hFd
     rw [hwd] at ht
     have HHas:=qaa.mk (qbz.calls Ad cd' wd b t wr (Kd.F_now hFd) hcd ht)
     obtain ⟨A3,c3,rfl⟩:=Kd.R_slice HO.out
     clear hFKd hccd hFd hgj ht
     rw [Int.toNat_natCast] at hx
     have hbi:(i:Int)<(dom.length:Int):=hb1
     cases t with
     | true=>
      go_wp2_with (first|(go_at_call 38;refine HHas.out.mono ?_;rintro e w1 ⟨rfl,hb1⟩;have HO1:=qaa.mk (Kd.R_below HO.out hb1);have HD1:=qaa.mk (Kd.F_below HD.out hb1);have HF1:=qaa.mk (Kd.F_below HF.out hb1);have HFI1:=qaa.mk (Kd.F_below HFI.out hb1);have HB1:=qaa.mk (HB.out.trans (hb1.mono HB.out.size));have hsw1:=hb1.size;clear hb1 HO HD HF HFI HB HHas)|(at_builtin;refine Kd.R_append k39 (w0:=w) w.heap.size rfl (.tmp 31) (.tmp 35) 40 39 (.agg #[(.int .i64 0),(.int .i64 0)]) 16 rfl Tryd.underlying40 info39 rfl (by decide) (by omega) (.slice A3 outj.length c3) outj (⟨(i:Int),b⟩:S39) [.int .i64 (i:Int),.int .i64 b] (fun k=>W2.heap.size≤k) (fun _=>False) rfl (by simp [Act.eval]) (k39_mkM _ _ _ (⟨(i:Int),b⟩:S39)) (fun _ hk=>hk.elim) (fun k hk=>by omega) HO1.out HB1.out (HB1.out.size) (by omega) ?_;intro v1 w2 ho1 hb1 hg1 hat1;have hF1:=Kd.F_grown HD1.out hg1 (fun k hk e=>by have:=HO1.out.1 _ e.symm;omega);have hF2:=Kd.F_grown HF1.out hg1 (fun k hk e=>by have:=HO1.out.1 _ e.symm;omega);have hF3:=Kd.F_grown HFI1.out hg1 (fun k hk e=>by have:=HO1.out.1 _ e.symm;omega);have hsz1':=hg1.size;obtain ⟨A4,c4,rfl⟩:=Kd.R_slice ho1;have HO2:=qaa.mk ho1;have HB2:=qaa.mk hb1;have HF2:=qaa.mk hF1;have HF3:=qaa.mk hF2;have HF4:=qaa.mk hF3;clear ho1 hb1 hg1 hat1 hF1 hF2 hF3))
      go_roundw
      case rel=>
       have e1:(outj++[(⟨(i:Int),b⟩:S39)]).length=outj.length+1:=by simp
       rw [e1] at HO2
       exact ⟨j+1,by omega,by go_num,outj++[⟨(i:Int),b⟩],HIN2,HO2,HF2,HF3,HF4,HB2,by omega⟩
      case measure=>simp [intOf];omega
     | false=>
      go_wp2_with (go_at_call 38;refine HHas.out.mono ?_;rintro e w1 ⟨rfl,hb1⟩;have HO1:=qaa.mk (Kd.R_below HO.out hb1);have HD1:=qaa.mk (Kd.F_below HD.out hb1);have HF1:=qaa.mk (Kd.F_below HF.out hb1);have HFI1:=qaa.mk (Kd.F_below HFI.out hb1);have HB1:=qaa.mk (HB.out.trans (hb1.mono HB.out.size));have hsw1:=hb1.size;clear hb1 HO HD HF HFI HB HHas)
      go_roundw
      case rel=>exact ⟨j+1,by omega,by go_num,outj,HIN2,HO1,HD1,HF1,HFI1,HB1,by omega⟩
      case measure=>simp [intOf];omega
    ·obtain rfl:j=li.length:=by omega
     obtain rfl:outj=out':=by simpa [backIn] using HIN.out
     go_wp2
     go_roundw
     case rel=>exact ⟨i+1,by omega,by go_num,outj,HRE,HO,HD,HF,HB,hw2⟩
     case measure=>simp [intOf];omega
  ·obtain rfl:i=s.length:=by omega
   obtain rfl:outi=r:=by simpa [qhd] using HP.out
   obtain ⟨A3,c3,rfl⟩:=Kd.R_slice HO.out
   go_wp2
   go_ret
   exact ⟨_,rfl,Kd.R_mono HO.out (fun _ _=>trivial),HB.out⟩
end
end Go.Proofs.YtmfjmbcfaamebaaDoor.X
namespace Go.Proofs.YtmfjmbcfaamebaaDoor.X
open Go.RowKit Go.Proofs.YtmfjmbcfaamebaaDoorW.PrintWords Go.Proofs.YtmfjmbcfaamebaaDoorW.PrintLast Go.Proofs.YtmfjmbcfaamebaaDoorW.PrintMore
attribute [local go_sem] qbs qcb
set_option linter.unusedVariables false
set_option linter.unusedSimpArgs false
def qic (a:Int):List Int→List (List Int)→Option (List (List Int))
 | [],out=>some out
 | b::t,out=>if 0≤b∧b<(out.length:Int)∧(out.getD b.toNat []).length<1099511627776 then qic a t (out.set b.toNat (out.getD b.toNat []++[a])) else none
def qfm:Nat→List (List Int)→List (List Int)→Option (List (List Int))
 | _,[],out=>some out
 | a,l::t,out=>(qic (a:Int) l out).bind (qfm (a+1) t)
def qbv.f (k:Nat) (a0_0:Bool) (a0_1:Int) (l0_2:List S60):Option (List (List Int)):=
 if l0_2.length≤4398046511104 then (qbi.f k a0_0 a0_1 l0_2).bind fun s=>qfm 0 s (List.replicate l0_2.length []) else none
theorem qbv.mono:∀ a0 a1 a2 k,LeO (qbv.f k a0 a1 a2) (qbv.f (k+1) a0 a1 a2):=by
 intro a0 a1 a2 k
 unfold qbv.f
 exact LeO.ite (LeO.bind (qbi.mono _ _ _ _) (fun _=>LeO.refl _)) (LeO.refl _)
set_option maxRecDepth 100000 in
set_option maxHeartbeats 4000000 in
theorem qbv.calls (k:Nat) (a0_0:Bool) (a0_1:Int) (A0_2:Option Addr) (c0_2:Nat) (l0_2:List (S60)) (r:List (List Int)) (w:World) (hr0_2:Kd.C k60 w A0_2 l0_2.length l0_2) (hc0_2:l0_2.length≤c0_2) (h:qbv.f k a0_0 a0_1 l0_2=some r) :
  Calls Tryd.prog 16 #[.agg #[.bool a0_0,.int .i64 a0_1,.slice A0_2 l0_2.length c0_2]] w fun e w'=>∃ v0_:Value,e=.returned v0_∧Kd.V (Kd.slice 3 (Kd.int .i64)) 31 w' w.heap.size (fun k_=>(w.heap.size≤k_)) v0_ r∧Below w.heap.size w w':=by
 have hu24:=Tryd.underlying24
 unfold qbv.f at h
 by_cases hlen:l0_2.length≤4398046511104
 case neg=>rw [if_neg hlen] at h;cases h
 rw [if_pos hlen] at h
 obtain ⟨s,hs,h⟩:=Option.bind_eq_some_iff.1 h
 have HR0:=qaa.mk hr0_2
 have HS:=qaa.mk hs
 have HP:=qaa.mk h
 have HCK:=qaa.mk (fun W (hW:Below w.heap.size w W)=>qbi.calls k a0_0 a0_1 A0_2 c0_2 l0_2 s W (Kd.C_below hr0_2 hW) hc0_2 hs)
 clear hr0_2 hs h
 go_enter Tryd.func16,Tryd.ntmps16
 have hmk:=qgr (P:=Tryd.prog) 28 31 (.slice none 0 0) 24 Tryd.underlying28 info31 rfl (by decide) l0_2.length (by omega)
 obtain ⟨W1,hW1⟩:∃ W1,(w.alloc (Obj.cells #[Value.bool a0_0,Value.int .i64 a0_1,.slice A0_2 l0_2.length c0_2] 24)).alloc (Obj.cells (madeCells #[.slice none 0 0] l0_2.length) 31)=W1:=⟨_,rfl⟩
 have hB1:Below w.heap.size w W1:=by rw [← hW1];exact ((Below.refl _ w).alloc (Nat.le_refl _) _).alloc (by simp) _
 have hC1:=HCK.out W1 hB1
 have HC1:=qaa.mk hC1
 clear hC1
 have b24:W1.heap[w.heap.size]?=some (.cells #[Value.bool a0_0,Value.int .i64 a0_1,.slice A0_2 l0_2.length c0_2] 24 (0,0)):=by rw [← hW1];exact qcy (World.alloc_heap_new w _) _
 have c24_0:W1.cell? ⟨w.heap.size,0,none⟩=some (.bool a0_0):=qcu b24 0 rfl
 have c24_1:W1.cell? ⟨w.heap.size,1,none⟩=some (.int .i64 a0_1):=qcu b24 1 rfl
 have c24_2:W1.cell? ⟨w.heap.size,2,none⟩=some (.slice A0_2 l0_2.length c0_2):=qcu b24 2 rfl
 go_wp2_with (go_at_call 14;refine HC1.out.mono ?_;rintro e W2 ⟨v2,rfl,hS2,hB2⟩;obtain ⟨A2,c2,rfl⟩:=Kd.V_slice hS2;have HS2:=qaa.mk hS2;have HB2:=qaa.mk hB2;clear hS2 hB2)
 have hS1:Kd.S (Kd.slice 3 (Kd.int .i64)) 31 W1 w.heap.size (fun k=>w.heap.size≤k) (.slice (some ⟨w.heap.size+1,0,none⟩) l0_2.length l0_2.length) (List.replicate l0_2.length []):=by
  have h1:=World.ownsRow_lit (base:=w.heap.size) (e:=31) (size:=1) (w.alloc (Obj.cells #[Value.bool a0_0,Value.int .i64 a0_1,.slice A0_2 l0_2.length c0_2] 24)) (madeCells #[.slice none 0 0] l0_2.length) l0_2.length (by simp) (by simp [maxLen];omega) (by simp [size_madeCells])
  have h2:=Kd.reps_made (R:=(Kd.bare (Kd.slice 3 (Kd.int .i64))).M W1 w.heap.size (fun k=>w.heap.size≤k∧some k≠(Value.slice (some ⟨w.heap.size+1,0,none⟩) l0_2.length l0_2.length).ownBlock)) (z:=.slice none 0 0) (size:=1) (z0:=([]:List Int)) rfl (by decide) ⟨.slice none 0 0,rfl,Kd.R_nil _ _ _ _ _⟩ l0_2.length
  rw [World.size_alloc] at h1
  rw [Nat.mul_one] at h2
  rw [hW1] at h1
  exact Kd.S_bare ⟨fun k hk=>by simp [Value.ownBlock] at hk;omega,_,by rw [List.length_replicate];exact h1,h2⟩
 have hsz1:W1.heap.size=w.heap.size+2:=by rw [← hW1];simp
 have hSz:=(HB2.out).size
 have hS1':=Kd.S_below (Kd.S_mono (ok':=fun k=>w.heap.size≤k∧(k<W1.heap.size∨W2.heap.size≤k)) (Kd.S_bound hS1) (fun k hk=>⟨hk.1,.inl hk.2.2.1⟩)) HB2.out
 have hF:=Kd.F_bound (Kd.V_F HS2.out)
 have hB:=hB1.trans (HB2.out.mono hB1.size)
 clear b24 c24_0 c24_1 c24_2 hmk hW1 hS1
 have hSO:Kd.S (Kd.slice 3 (Kd.int .i64)) 31 W2 w.heap.size (fun k=>w.heap.size≤k∧(k<W1.heap.size∨W2.heap.size≤k)) (.slice (some ⟨w.heap.size+1,0,none⟩) l0_2.length l0_2.length) (List.replicate l0_2.length []):=hS1'
 have hFS:Kd.F (Kd.slice 3 (Kd.int .i64)) W2 (fun k=>W1.heap.size≤k∧k<W2.heap.size) A2 s.length s:=Kd.F_mono hF (fun k hk=>hk)
 have hsl:s.length≤9223372036854775807:=Kd.F_max hFS
 clear hS1' hF HS2 HB2 HC1 HCK HS HR0
 go_loopw [15] (fun v wr=>∃ i:Nat,i≤s.length∧v=.int .i64 i∧∃ outi:List (List Int),qaa (qfm i (s.drop i) outi=some r)∧outi.length=l0_2.length∧qaa (Kd.S (Kd.slice 3 (Kd.int .i64)) 31 wr w.heap.size (fun k=>w.heap.size≤k∧(k<W1.heap.size∨W2.heap.size≤k)) (.slice (some ⟨w.heap.size+1,0,none⟩) l0_2.length l0_2.length) outi)∧qaa (Kd.F (Kd.slice 3 (Kd.int .i64)) wr (fun k=>W1.heap.size≤k∧k<W2.heap.size) A2 s.length s)∧qaa (Below w.heap.size w wr)∧W2.heap.size≤wr.heap.size)
  (fun v _=>s.length-(intOf v).toNat)
 case atStart=>exact ⟨0,Nat.zero_le _,rfl,_,by simpa using HP,by simp,⟨hSO⟩,⟨hFS⟩,⟨hB⟩,Nat.le_refl _⟩
 case round=>
  clear HP hSO hFS hB
  obtain ⟨i,hi,rfl,outi,HP,hlo,HO,HF,HB,hw2⟩:=hrel
  by_cases hlt:i<s.length
  ·obtain ⟨ad,c,rfl,_,hFK,hcc,_⟩:=Kd.F_get HF.out [] (i:Int) (by omega) (by omega)
   obtain ⟨Ai,ci,rfl,hci,hFi⟩:=Kd.FK_slice_open hFK
   have hx:=hcc 0 _ rfl
   have hgi:s.getD ((i:Int)).toNat []=s[i]:=by simp [hlt]
   rw [hgi] at hx hFi hci
   have HHP:=HP.out
   rw [List.drop_eq_getElem_cons hlt,qfm] at HHP
   obtain ⟨li,hli⟩:∃ li,s[i]=li:=⟨_,rfl⟩
   rw [hli] at hx hFi hci HHP
   obtain ⟨out',hin,hrest⟩:=Option.bind_eq_some_iff.1 HHP
   have HIN:=qaa.mk hin
   have HRE:=qaa.mk hrest
   have HFI:=qaa.mk hFi
   have hll:=Kd.F_max hFi
   clear HHP hin hrest hFi hFK hgi hcc
   simp only [Int.toNat_natCast,show (Kd.slice 3 (Kd.int .i64)).sz=1 from rfl,Nat.mul_one,Nat.add_zero] at hx
   go_wp2
   go_loopw [22] (fun v wr=>∃ j:Nat,j≤li.length∧v=.int .i64 j∧∃ outj:List (List Int),qaa (qic (i:Int) (li.drop j) outj=some out')∧outj.length=l0_2.length∧qaa (Kd.S (Kd.slice 3 (Kd.int .i64)) 31 wr w.heap.size (fun k=>w.heap.size≤k∧(k<W1.heap.size∨W2.heap.size≤k)) (.slice (some ⟨w.heap.size+1,0,none⟩) l0_2.length l0_2.length) outj)∧qaa (Kd.F (Kd.slice 3 (Kd.int .i64)) wr (fun k=>W1.heap.size≤k∧k<W2.heap.size) (some ad) s.length s)∧qaa (Kd.F (Kd.int .i64) wr (fun k=>W1.heap.size≤k∧k<W2.heap.size) Ai li.length li)∧qaa (Below w.heap.size w wr)∧W2.heap.size≤wr.heap.size)
    (fun v _=>li.length-(intOf v).toNat)
   case atStart=>exact ⟨0,Nat.zero_le _,rfl,outi,HIN,hlo,HO,HF,HFI,HB,hw2⟩
   case round=>
    clear HIN hlo HO HF HFI HB hw2 hx HP
    obtain ⟨j,hj,rfl,outj,HIN,hlo,HO,HF,HFI,HB,hw2⟩:=hrel
    by_cases hltj:j<li.length
    ·obtain ⟨adi,rfl,hx⟩:=Kd.at_int (Kd.F_now HFI.out) (j:Int) (by omega) (by omega)
     have hgj:rd li (j:Int)=li[j]:=by simp [rd,hltj]
     rw [hgj] at hx
     have hHIN:=HIN.out
     rw [List.drop_eq_getElem_cons hltj,qic] at hHIN
     obtain ⟨b,hb⟩:∃ b,li[j]=b:=⟨_,rfl⟩
     rw [hb] at hx hHIN
     by_cases hbb:0≤b∧b<(outj.length:Int)∧(outj.getD b.toNat []).length<1099511627776
     case neg=>rw [if_neg hbb] at hHIN;cases hHIN
     rw [if_pos hbb] at hHIN
     obtain ⟨hb0,hb1,hb2⟩:=hbb
     rw [hlo] at hb1
     have HIN2:=qaa.mk hHIN
     clear hHIN HIN
     obtain ⟨oki,cc,hcl,hM,hcc,hfr,hoki,hH⟩:=Kd.S_elem HO.out ([]:List Int) b hb0 hb1
     obtain ⟨vb,rfl,hRb⟩:=hM
     have hxb:=hcc 0 _ rfl
     have hfb:=hfr 0
     simp only [show (Kd.slice 3 (Kd.int .i64)).sz=1 from rfl,Nat.mul_one,Nat.add_zero] at hxb hfb
     obtain ⟨xb,hxbe⟩:∃ xb,outj.getD b.toNat []=xb:=⟨_,rfl⟩
     rw [hxbe] at hb2 hRb
     obtain ⟨Ab,cb,rfl,hcb,_⟩:=Kd.R_reads hRb
     have HRB:=qaa.mk hRb
     have HH:=qaa.mk hH
     have HOKI:=qaa.mk hoki
     clear hRb hH hoki hcc hfr hgj HO
     rw [Int.toNat_natCast] at hx
     have hsz0:=HB.out.size
     have hne0:some (w.heap.size+1)≠(Value.slice Ab xb.length cb).ownBlock:=fun e=>(HOKI.out _ (HRB.out.1 _ e.symm)).2 rfl
     have hblk0:=World.block_lt_of_cell? wr _ hxb
     go_wp2_with (at_builtin;refine Kd.R_append (Kd.int .i64) (w0:=w) w.heap.size rfl (.tmp 31) (.tmp 33) 31 3 (.int .i64 0) 8 rfl Tryd.underlying31 qfe rfl (by decide) (by omega) (.slice Ab xb.length cb) xb (i:Int) [.int .i64 (i:Int)] (fun k=>oki k∨(w.heap.size≤k∧(k<W1.heap.size∨W2.heap.size≤k))∧wr.heap.size≤k) (fun _=>False) rfl (by simp [Act.eval]) rfl (fun _ hk=>hk.elim) (fun k hk=>.inr ⟨⟨by omega,.inr (by omega)⟩,hk⟩) (Kd.R_mono HRB.out (fun k hk=>.inl hk)) HB.out hsz0 (by omega) ?_;intro v1 w1 ho1 hb1 hg1 hat1;have hH1:=Kd.H_grown (Kd.H_widen HH.out) hg1 (fun k hk=>.inl (HRB.out.1 k hk));have hF1:=Kd.F_grown HF.out hg1 (fun k hk e=>by have:=(HOKI.out _ (HRB.out.1 _ e.symm)).1.2;omega);have hF2:=Kd.F_grown HFI.out hg1 (fun k hk e=>by have:=(HOKI.out _ (HRB.out.1 _ e.symm)).1.2;omega);have hkb:=hg1.block (w.heap.size+1) hblk0 hne0;have hxb1:=(World.cell?_of_block (w:=wr) hkb).trans hxb;have hfb1:=(World.frozen?_of_block (w:=wr) hkb).trans hfb;obtain ⟨A1,c1,rfl,_,_⟩:=Kd.R_reads ho1;have hsz1':=hg1.size;have HO1:=qaa.mk ho1;have HB1:=qaa.mk hb1;have HH1:=qaa.mk hH1;have HF1:=qaa.mk hF1;have HF2:=qaa.mk hF2;clear ho1 hb1 hg1 hat1 hH1 hF1 hF2 hkb hxb hfb)
     go_roundw
     case rel=>
      have hseg:=(Kd.H_seg (seg:=[.slice A1 (xb++[(i:Int)]).length c1]) (j:=0) HH1.out hb0 hb1 (Nat.le_refl 1) (by simp [Value.oneCell'])).1
      simp only [show (Kd.slice 3 (Kd.int .i64)).sz=1 from rfl,Nat.mul_one,Nat.add_zero,World.setCells,List.take_zero,List.nil_append,List.length_singleton,Nat.zero_add,List.drop_one,List.tail_cons,List.append_nil] at hseg
      have hR2:=Kd.R_far HO1.out (p:=⟨w.heap.size+1,b.toNat,none⟩) (fun k hk=>by
       show k≠w.heap.size+1
       rcases hk with hk|hk
       ·exact (HOKI.out k hk).2
       ·omega) (.slice A1 (xb++[(i:Int)]).length c1)
      have hS:=Kd.H_back hseg (x':=xb++[(i:Int)]) (okp:=fun k=>oki k∨(w.heap.size≤k∧(k<W1.heap.size∨W2.heap.size≤k))∧wr.heap.size≤k) ⟨_,rfl,hR2⟩ (fun k hk=>hk)
      have e1:(xb++[(i:Int)]).length=xb.length+1:=by simp
      rw [e1] at hS
      refine ⟨j+1,by omega,by go_num,outj.set b.toNat (xb++[(i:Int)]),⟨by rw [← hxbe];exact HIN2.out⟩,by simp [hlo],⟨hS⟩,⟨?_⟩,⟨?_⟩,⟨HB1.out.setCell (p:=⟨w.heap.size+1,b.toNat,none⟩) (show w.heap.size≤w.heap.size+1 by omega) _⟩,by simp;omega⟩
      ·exact Kd.F_far HF1.out (fun k hk=>show k≠w.heap.size+1 by omega) _
      ·exact Kd.F_far HF2.out (fun k hk=>show k≠w.heap.size+1 by omega) _
     case measure=>simp [intOf];omega
    ·obtain rfl:j=li.length:=by omega
     obtain rfl:outj=out':=by simpa [qic] using HIN.out
     go_wp2
     go_roundw
     case rel=>exact ⟨i+1,by omega,by go_num,outj,HRE,hlo,HO,HF,HB,hw2⟩
     case measure=>simp [intOf];omega
  ·obtain rfl:i=s.length:=by omega
   obtain rfl:outi=r:=by simpa [qfm] using HP.out
   go_wp2
   go_ret
   exact ⟨_,rfl,Kd.V_mono (Kd.S_V HO.out) (fun k hk=>hk.1),HB.out⟩
end Go.Proofs.YtmfjmbcfaamebaaDoor.X
namespace Go.Proofs.YtmfjmbcfaamebaaDoor.X
open Go.RowKit Go.Proofs.YtmfjmbcfaamebaaDoorW.PrintWords Go.Proofs.YtmfjmbcfaamebaaDoorW.PrintLast Go.Proofs.YtmfjmbcfaamebaaDoorW.PrintMore
attribute [local go_sem] qbs qcb
set_option linter.unusedVariables false
set_option linter.unusedSimpArgs false
attribute [local go_sem high] eqA39
def qau.l0:Nat→List (S39)→Int→Int→Int→Int→Option (Int)
 | 0,_,_,_,_,_=>none
 | k+1,x0,x7,x8,x229000,x229001=>if x8<x7 then (if 0≤x8 then (if x8<(x0.length:Int) then (if (x229000==((qcn x0 x8).f0)&&(x229001==((qcn x0 x8).f1)))=true then (some x8) else (qau.l0 k x0 x7 (wrap64 (x8+1)) x229000 x229001)) else (none)) else (none)) else (some (-1))
def qau.f (k:Nat) (l0:List (S39)) (a1_0:Int) (a1_1:Int):Option (Int):=qau.l0 k l0 (l0.length:Int) 0 a1_0 a1_1
theorem qau.mono_l:∀ k,(∀ y0 y1 y2 y3 y4,LeO (qau.l0 k y0 y1 y2 y3 y4) (qau.l0 (k+1) y0 y1 y2 y3 y4))
 | 0=>fun _ _ _ _ _ r h=>by simp [qau.l0] at h
 | k+1=>by
  have ih0:=qau.mono_l k
  ·intro y0 y1 y2 y3 y4
   unfold qau.l0
   repeat' first|(with_reducible exact ih0 _ _ _ _ _)|(with_reducible exact LeO.refl _)|(with_reducible refine LeO.ite ?_ ?_)
theorem qau.mono:∀ a0 a1 a2 k,LeO (qau.f k a0 a1 a2) (qau.f (k+1) a0 a1 a2):=by
 intro a0 a1 a2 k
 have ih0:=qau.mono_l k
 unfold qau.f
 repeat' (with_reducible exact ih0 _ _ _ _ _)
set_option maxHeartbeats 8000000 in
set_option maxRecDepth 100000 in
theorem qau.calls (k:Nat) (A0:Option Addr) (c0:Nat) (l0:List (S39)) (a1_0:Int) (a1_1:Int) (r:Int) (w:World) (hr0:Kd.C k39 w A0 l0.length l0) (hc0:l0.length≤c0) (h:qau.f k l0 a1_0 a1_1=some r) :
  Calls Tryd.prog 81 #[.slice A0 l0.length c0,.agg #[.int .i64 a1_0,.int .i64 a1_1]] w fun e w'=>e=.returned (.int .i64 r)∧Below w.heap.size w w':=by
 have hu39:=Tryd.underlying39
 have HR0:=qaa.mk hr0
 have HC0:=qaa.mk hc0
 clear hr0 hc0
 have HB:=qaa.mk (Below.refl w.heap.size w)
 have H:(qau.l0 k l0 (l0.length:Int) 0 a1_0 a1_1)=some r:=h
 clear h
 have H':=qaa.mk H
 clear H
 go_enter Tryd.func81,Tryd.ntmps81
 go_wp2_with (((with_reducible refine qbf (N:=3) rfl ?_);refine qbr ?hg (N:=3) ?hd (cs:=#[.int .i64 a1_0,.int .i64 a1_1]) (t:=39) ?hr ?_;(case hd=>rfl);(case hg=>rfl);(case hr=>(go_simp;done));intro gb228 hg w3 hbox hb;have BK228:=qaa.mk (hbox);have GW228:=qaa.mk ((by rw [hg];exact (qac HB.out):w.heap.size≤gb228));have GE228:=qaa.mk ((by rw [hg];exact (qac HB.out):w.heap.size≤gb228));replace HB:=qaa.mk (qal HB.out hb);clear hb hbox hg))
 repeat (go_quiet (((with_reducible refine qbf (N:=3) rfl ?_);refine qbr ?hg (N:=3) ?hd (cs:=#[.int .i64 a1_0,.int .i64 a1_1]) (t:=39) ?hr ?_;(case hd=>rfl);(case hg=>rfl);(case hr=>(go_simp;rfl));intro gb228 hg w3 hbox hb;have BK228:=qaa.mk (hbox);have GW228:=qaa.mk ((by rw [hg];exact (qac (by repeat (exact HB.out))):w.heap.size≤gb228));have GE228:=qaa.mk ((by rw [hg];exact (qac (by repeat (exact HB.out))):w.heap.size≤gb228));replace HB:=qaa.mk (qal (by repeat (exact HB.out)) hb);clear hb hbox hg)))
 go_loopg [8] k (fun kq v8 w'=>∃ (x8_1:Int),v8=.int .i64 x8_1∧qaa (qau.l0 kq l0 (l0.length:Int) x8_1 a1_0 a1_1=some r)∧qaa (kq≤k)∧qaa (w'.heap[gb228]?=some (.cells #[.int .i64 a1_0,.int .i64 a1_1] 39 (0,0)))∧qaa (Below w.heap.size w w'))
 case atStart=>exact ⟨(0),(by rfl),H',⟨Nat.le_refl _⟩,⟨by (with_reducible repeat (refine qab ?_));exact BK228.out⟩,⟨by repeat ((with_reducible exact HB.out))⟩⟩
 case round=>
  clear H'
  obtain ⟨x8_1,rfl,HA,HK1,BK228,HB⟩:=hrel
  cases gk with
  | zero=>exact absurd HA.out (by simp [qau.l0])
  | succ k1=>
   have H:=HA.out
   clear HA
   simp only [qau.l0] at H
   by_cases c4:x8_1<(l0.length:Int)
   ·rw [if_pos c4] at H
    have c4b0:decide (x8_1<(l0.length:Int))=true:=decide_eq_true c4
    clear c4
    by_cases c5:0≤x8_1
    ·rw [if_pos c5] at H
     have c5b0:decide (0≤x8_1)=true:=decide_eq_true c5
     clear c5
     by_cases c6:x8_1<(l0.length:Int)
     ·rw [if_pos c6] at H
      have c6b0:decide (x8_1<(l0.length:Int))=true:=decide_eq_true c6
      clear c6
      by_cases c7:(a1_0==((qcn l0 x8_1).f0)&&(a1_1==((qcn l0 x8_1).f1)))=true
      ·rw [if_pos c7] at H
       have c7b0:(a1_0==((qcn l0 x8_1).f0)&&(a1_1==((qcn l0 x8_1).f1)))=true:=c7
       (try (have c7b1:decide (a1_0=((qcn l0 x8_1).f0)&&(a1_1==((qcn l0 x8_1).f1)))=true:=by simpa using c7))
       (try (have c7b2:(a1_0==((qcn l0 x8_1).f0)&&(a1_1==((qcn l0 x8_1).f1)))=true:=by simpa using c7))
       clear c7
       obtain rfl:=Option.some.inj H
       have hcz8_0:wr.cell? ⟨gb228,0,none⟩=some (.int .i64 a1_0):=(qad BK228.out 0).trans rfl
       have hcz8_1:wr.cell? ⟨gb228,1,none⟩=some (.int .i64 a1_1):=(qad BK228.out 1).trans rfl
       have hfz8_0:=qaf BK228.out 0
       have hfz8_1:=qaf BK228.out 1
       have p229:0≤(x8_1:Int):=of_decide_eq_true (by (with_reducible assumption))
       have q229:x8_1<(l0.length:Int):=of_decide_eq_true (by (with_reducible assumption))
       obtain ⟨ad229,e229,hx229_0,hx229_1⟩:=at_T39 HR0.out x8_1 p229 q229
       cases e229
       replace hx229_0:=(HB.out.cell (World.block_lt_of_cell? w _ hx229_0)).trans hx229_0
       replace hx229_1:=(HB.out.cell (World.block_lt_of_cell? w _ hx229_1)).trans hx229_1
       replace p229:=eq_true p229
       replace q229:=eq_true q229
       go_wp2
       repeat (go_quiet (fail);try go_wp2)
       go_ret
       exact ⟨by rfl,by repeat ((with_reducible first|exact HB.out|apply qav))⟩
      ·rw [if_neg c7] at H
       have c7b0:(a1_0==((qcn l0 x8_1).f0)&&(a1_1==((qcn l0 x8_1).f1)))=false:=by simpa using c7
       (try (have c7b1:decide (a1_0=((qcn l0 x8_1).f0)&&(a1_1==((qcn l0 x8_1).f1)))=false:=by simpa using c7))
       (try (have c7b2:(a1_0==((qcn l0 x8_1).f0)&&(a1_1==((qcn l0 x8_1).f1)))=false:=by simpa using c7))
       (try (have c7b3:¬ (a1_0=((qcn l0 x8_1).f0)&&(a1_1==((qcn l0 x8_1).f1))):=by simpa using c7))
       clear c7
       have H':=qaa.mk H
       clear H
       have hcz9_0:wr.cell? ⟨gb228,0,none⟩=some (.int .i64 a1_0):=(qad BK228.out 0).trans rfl
       have hcz9_1:wr.cell? ⟨gb228,1,none⟩=some (.int .i64 a1_1):=(qad BK228.out 1).trans rfl
       have hfz9_0:=qaf BK228.out 0
       have hfz9_1:=qaf BK228.out 1
       have p229:0≤(x8_1:Int):=of_decide_eq_true (by (with_reducible assumption))
       have q229:x8_1<(l0.length:Int):=of_decide_eq_true (by (with_reducible assumption))
       obtain ⟨ad229,e229,hx229_0,hx229_1⟩:=at_T39 HR0.out x8_1 p229 q229
       cases e229
       replace hx229_0:=(HB.out.cell (World.block_lt_of_cell? w _ hx229_0)).trans hx229_0
       replace hx229_1:=(HB.out.cell (World.block_lt_of_cell? w _ hx229_1)).trans hx229_1
       replace p229:=eq_true p229
       replace q229:=eq_true q229
       go_wp2
       repeat (go_quiet (fail);try go_wp2)
       go_roundg k1
       case measure=>have:=HK1.out;omega
       case rel=>exact ⟨(wrap64 (x8_1+1)),(by rfl),H',⟨by have:=HK1.out;omega⟩,⟨by (with_reducible repeat (refine qde ?_ _));exact BK228.out⟩,⟨by repeat ((with_reducible first|exact HB.out|apply qav))⟩⟩
     ·rw [if_neg c6] at H
      exact absurd H (by simp)
    ·rw [if_neg c5] at H
     exact absurd H (by simp)
   ·rw [if_neg c4] at H
    have c4b0:decide (x8_1<(l0.length:Int))=false:=decide_eq_false c4
    clear c4
    obtain rfl:=Option.some.inj H
    go_wp2
    repeat (go_quiet (fail))
    go_ret
    exact ⟨by rfl,by repeat ((with_reducible exact HB.out))⟩
end Go.Proofs.YtmfjmbcfaamebaaDoor.X
namespace Go.Proofs.YtmfjmbcfaamebaaDoor.X
open Go.RowKit Go.Proofs.YtmfjmbcfaamebaaDoorW.PrintWords Go.Proofs.YtmfjmbcfaamebaaDoorW.PrintLast Go.Proofs.YtmfjmbcfaamebaaDoorW.PrintMore
attribute [local go_sem] qbs qcb
set_option linter.unusedVariables false
set_option linter.unusedSimpArgs false
def qbt.f (k:Nat) (l0:List (S39)) (a1_0:Int) (a1_1:Int):Option (Bool):=(qau.f k l0 a1_0 a1_1).bind fun t231=>(some (decide (t231≥0)))
theorem qbt.mono:∀ a0 a1 a2 k,LeO (qbt.f k a0 a1 a2) (qbt.f (k+1) a0 a1 a2):=by
 intro a0 a1 a2 k
 unfold qbt.f
 repeat' first|(with_reducible exact qau.mono _ _ _ _)|(with_reducible exact LeO.refl _)|(with_reducible refine LeO.bind ?_ (fun _=>?_))
set_option maxHeartbeats 8000000 in
set_option maxRecDepth 100000 in
theorem qbt.calls (k:Nat) (A0:Option Addr) (c0:Nat) (l0:List (S39)) (a1_0:Int) (a1_1:Int) (r:Bool) (w:World) (hr0:Kd.C k39 w A0 l0.length l0) (hc0:l0.length≤c0) (h:qbt.f k l0 a1_0 a1_1=some r) :
  Calls Tryd.prog 58 #[.slice A0 l0.length c0,.agg #[.int .i64 a1_0,.int .i64 a1_1]] w fun e w'=>e=.returned (.bool r)∧Below w.heap.size w w':=by
 have hu39:=Tryd.underlying39
 have HR0:=qaa.mk hr0
 have HC0:=qaa.mk hc0
 clear hr0 hc0
 have HB:=qaa.mk (Below.refl w.heap.size w)
 have H:((qau.f k l0 a1_0 a1_1).bind fun t231=>(some (decide (t231≥0))))=some r:=h
 clear h
 replace H:=Option.bind_eq_some_iff.mp H
 obtain ⟨t231,A30,H⟩:=H
 replace H:(some (decide (t231≥0)))=some r:=H
 have A3:=qaa.mk A30
 clear A30
 obtain rfl:=Option.some.inj H
 go_enter Tryd.func58,Tryd.ntmps58
 go_wp2_with (first|((with_reducible refine qbf (N:=3) rfl ?_);refine qbr ?hg (N:=3) ?hd (cs:=#[.int .i64 a1_0,.int .i64 a1_1]) (t:=39) ?hr ?_;(case hd=>rfl);(case hg=>rfl);(case hr=>(go_simp;done));intro gb230 hg w4 hbox hb;have BK230:=qaa.mk (hbox);have GW230:=qaa.mk ((by rw [hg];exact (qac HB.out):w.heap.size≤gb230));have GE230:=qaa.mk ((by rw [hg];exact (qac HB.out):w.heap.size≤gb230));replace HB:=qaa.mk (qal HB.out hb);clear hb hbox hg;have hcz5_0:w4.cell? ⟨gb230,0,none⟩=some (.int .i64 a1_0):=(qad BK230.out 0).trans rfl;have hcz5_1:w4.cell? ⟨gb230,1,none⟩=some (.int .i64 a1_1):=(qad BK230.out 1).trans rfl;have hfz5_0:=qaf BK230.out 0;have hfz5_1:=qaf BK230.out 1)|((with_reducible refine qbb (f:=81) rfl ?_);refine qcv (some 7) rfl rfl Tryd.func81 (by kernel_rfl) rfl #[.slice A0 l0.length c0,.agg #[.int .i64 a1_0,.int .i64 a1_1]] rfl (by (try simp only [List.map_toArray,List.map_cons,List.map_nil]);rfl) ?_;(with_reducible refine (qau.calls k _ _ l0 a1_0 a1_1 t231 _ ?side1 ?side2 A3.out).mono ?_);(case side1=>repeat (exact (Kd.C_below HR0.out HB.out)));(case side2=>exact HC0.out);rintro e w6 ⟨rfl,hb⟩;refine ⟨_,rfl,?_⟩;replace BK230:=qaa.mk (qah (g:=gb230) (o:=.cells #[.int .i64 a1_0,.int .i64 a1_1] 39 (0,0)) (by (with_reducible repeat (refine qab ?_));exact BK230.out) hb);replace HB:=qaa.mk (qal HB.out hb);(try clear hb)))
 go_ret
 exact ⟨by rfl,by repeat ((with_reducible exact HB.out))⟩
end Go.Proofs.YtmfjmbcfaamebaaDoor.X
