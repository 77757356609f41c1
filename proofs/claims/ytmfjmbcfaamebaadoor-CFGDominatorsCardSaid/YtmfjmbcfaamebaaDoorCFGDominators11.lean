/- Parts of the proof of the law CFGDominators: words, walks of single functions and plain laws, joined by a program out of the session's texts. -/
import Derived.Test.YtmfjmbcfaamebaaDoorCFGDominators10
set_option linter.unusedVariables false
set_option linter.unusedSimpArgs false
namespace Go.Proofs.YtmfjmbcfaamebaaDoor.X
open Go.RowKit Go.Proofs.YtmfjmbcfaamebaaDoorW.PrintWords Go.Proofs.YtmfjmbcfaamebaaDoorW.PrintLast Go.Proofs.YtmfjmbcfaamebaaDoorW.PrintMore
attribute [local go_sem] qbs qcb
set_option linter.unusedVariables false
set_option linter.unusedSimpArgs false
mutual
def qaq.j0:Nat→List Int→Int→Bool→Option (List Int)
 | 0,_,_,_=>none
 | k+1,x0,x1,x14=>if x14=true then (some x0) else (qaq.l0 k x0 x1 0)
def qaq.l0:Nat→List Int→Int→Int→Option (List Int)
 | 0,_,_,_=>none
 | k+1,x0,x1,x5=>if x5<(x0.length:Int) then (if 0≤x5 then (if (rd x0 x5)<x1 then (qaq.l0 k x0 x1 (wrap64 (x5+1))) else ((some (([]:List Int):List Int)).bind fun y236=>(if x5≤(x0.length:Int) then ((some (x0.take (x5:Int).toNat:List Int)).bind fun y239=>(if y236.length+y239.length<17592186044416 then ((some (y236++y239:List Int)).bind fun y243=>(if y243.length<17592186044416 then ((some (y243++[x1]:List Int)).bind fun y246=>((some (x0.drop (x5:Int).toNat:List Int)).bind fun y249=>(if y246.length+y249.length<17592186044416 then (some (y246++y249)) else (none)))) else (none))) else (none))) else (none)))) else (none)) else ((some (([]:List Int):List Int)).bind fun y256=>(if 0≤x5 then (if x5≤(x0.length:Int) then ((some (x0.take (x5:Int).toNat:List Int)).bind fun y259=>(if y256.length+y259.length<17592186044416 then ((some (y256++y259:List Int)).bind fun y263=>(if y263.length<17592186044416 then ((some (y263++[x1]:List Int)).bind fun y266=>((some (x0.drop (x5:Int).toNat:List Int)).bind fun y269=>(if y266.length+y269.length<17592186044416 then (some (y266++y269)) else (none)))) else (none))) else (none))) else (none)) else (none)))
end
def qaq.f (k:Nat) (l0:List Int) (a1:Int):Option (List Int):=(qdn.f a1).bind fun t233=>(if t233=true then ((qao.f k l0 a1).bind fun t234=>(qaq.j0 k l0 a1 t234)) else (qaq.j0 k l0 a1 true))
theorem qaq.mono_l:∀ k,(∀ y0 y1 y2,LeO (qaq.j0 k y0 y1 y2) (qaq.j0 (k+1) y0 y1 y2))∧(∀ y0 y1 y2,LeO (qaq.l0 k y0 y1 y2) (qaq.l0 (k+1) y0 y1 y2))
 | 0=>⟨fun _ _ _ r h=>by simp [qaq.j0] at h,fun _ _ _ r h=>by simp [qaq.l0] at h⟩
 | k+1=>by
  obtain ⟨ih0,ih1⟩:=qaq.mono_l k
  refine ⟨?_,?_⟩
  ·intro y0 y1 y2
   unfold qaq.j0
   repeat' first|(with_reducible exact ih1 _ _ _)|(with_reducible exact LeO.refl _)|(with_reducible refine LeO.ite ?_ ?_)
  ·intro y0 y1 y2
   unfold qaq.l0
   repeat' first|(with_reducible exact ih1 _ _ _)|(with_reducible exact LeO.refl _)|(with_reducible refine LeO.ite ?_ ?_)
theorem qaq.mono:∀ a0 a1 k,LeO (qaq.f k a0 a1) (qaq.f (k+1) a0 a1):=by
 intro a0 a1 k
 obtain ⟨ih0,ih1⟩:=qaq.mono_l k
 unfold qaq.f
 repeat' first|(with_reducible exact ih0 _ _ _)|(with_reducible exact qao.mono _ _ _)|(with_reducible exact LeO.refl _)|(with_reducible refine LeO.ite ?_ ?_)|(with_reducible refine LeO.bind ?_ (fun _=>?_))
set_option maxHeartbeats 8000000 in
set_option maxRecDepth 100000 in
theorem qaq.calls (k:Nat) (P0_:Nat→Prop) (u9000_:Value) (l0:List Int) (a1:Int) (r:List Int) (w0 w:World) (hB:Below w0.heap.size w0 w) (ho0:Kd.R (Kd.int .i64) 3 w w0.heap.size P0_ u9000_ l0) (h:qaq.f k l0 a1=some r) :
  Calls Tryd.prog 75 #[u9000_,.int .i64 a1] w fun e w'=>∃ v0_:Value,e=.returned (v0_)∧Kd.R (Kd.int .i64) 3 w' w0.heap.size (fun k_=>(P0_ k_∨w.heap.size≤k_)) v0_ r∧Below w0.heap.size w0 w'∧Kept w w' (fun k_=>P0_ k_):=by
 have HO0:=qaa.mk (show Kd.R (Kd.int .i64) 3 w w0.heap.size (fun k_=>(P0_ k_∨w.heap.size≤k_)) u9000_ l0 from Kd.R_mono ho0 (fun k_ hk=>(.inl hk)))
 have HK:=qaa.mk (Kept.refl w (fun k_=>P0_ k_))
 have HW0:=qaa.mk hB.size
 have HB:=qaa.mk hB
 clear hB
 have H:((qdn.f a1).bind fun t233=>(if t233=true then ((qao.f k l0 a1).bind fun t234=>(qaq.j0 k l0 a1 t234)) else (qaq.j0 k l0 a1 true)))=some r:=h
 clear h
 have HC3:=qaa.mk H
 clear H
 go_enter Tryd.func75,Tryd.ntmps75
 go_upto_region 1 with (fail)
 go_cut [14] (fun v14 wc=>∃ (kq:Nat) (x14_2:Bool),v14=.bool x14_2∧qaa (qaq.j0 kq l0 a1 x14_2=some r)∧qaa (kq≤k)∧qaa (Kd.R (Kd.int .i64) 3 wc w0.heap.size (fun k_=>(P0_ k_∨w.heap.size≤k_)) u9000_ l0)∧qaa (Kept w wc (fun k_=>P0_ k_))∧qaa (Below w0.heap.size w0 wc))
 case first=>
  have H:=HC3.out
  clear HC3
  replace H:=Option.bind_eq_some_iff.mp H
  obtain ⟨t233,A40,H⟩:=H
  replace H:(if t233=true then ((qao.f k l0 a1).bind fun t234=>(qaq.j0 k l0 a1 t234)) else (qaq.j0 k l0 a1 true))=some r:=H
  have A4:=qaa.mk A40
  clear A40
  by_cases c5:t233=true
  ·subst c5
   have H1:((qao.f k l0 a1).bind fun t234=>(qaq.j0 k l0 a1 t234))=some r:=by rw [if_pos rfl] at H;exact H
   clear H
   have H:=H1
   clear H1
   replace H:=Option.bind_eq_some_iff.mp H
   obtain ⟨t234,A60,H⟩:=H
   replace H:(qaq.j0 k l0 a1 t234)=some r:=H
   have A6:=qaa.mk A60
   clear A60
   have H':=qaa.mk H
   clear H
   go_wp2_with (first|((with_reducible refine qbb (f:=101) rfl ?_);refine qcv (some 8) rfl rfl Tryd.func101 (by kernel_rfl) rfl #[.int .i64 a1] rfl (by (try simp only [List.map_toArray,List.map_cons,List.map_nil]);rfl) ?_;(with_reducible refine (qdn.calls a1 true _ A4.out).mono ?_);rintro e w' ⟨rfl,⟨nd,rfl⟩⟩;refine ⟨_,rfl,?_⟩;obtain ⟨Ao7,co7,eo7⟩:=Kd.R_slice HO0.out;subst eo7)|(go_at_call 48;(with_reducible refine (qao.calls k _ _ l0 a1 t234 _ ?side1 ?side2 A6.out).mono ?_);(case side1=>repeat (exact (Kd.R_reads' HO0.out).2.2));(case side2=>exact (Kd.R_reads' HO0.out).2.1);rintro e w' ⟨rfl,⟨nd,rfl⟩⟩))
   go_meet
   case rel=>exact ⟨_,(t234),(by rfl),H',⟨by omega⟩,⟨by (with_reducible repeat (apply Kd.R_drewN));exact HO0.out⟩,⟨by repeat ((with_reducible first|exact HK.out|apply Kept.drewN))⟩,⟨by repeat ((with_reducible first|exact HB.out|apply qav))⟩⟩
  ·replace c5:=Bool.eq_false_iff.mpr c5
   subst c5
   have H1:(qaq.j0 k l0 a1 true)=some r:=by rw [if_neg (show ¬ (false=true) by decide)] at H;exact H
   clear H
   have H:=H1
   clear H1
   have H':=qaa.mk H
   clear H
   go_wp2_with (((with_reducible refine qbb (f:=101) rfl ?_);refine qcv (some 8) rfl rfl Tryd.func101 (by kernel_rfl) rfl #[.int .i64 a1] rfl (by (try simp only [List.map_toArray,List.map_cons,List.map_nil]);rfl) ?_;(with_reducible refine (qdn.calls a1 false _ A4.out).mono ?_);rintro e w' ⟨rfl,⟨nd,rfl⟩⟩;refine ⟨_,rfl,?_⟩))
   go_meet
   case rel=>exact ⟨_,(true),(by rfl),H',⟨by omega⟩,⟨by (with_reducible repeat (apply Kd.R_drewN));exact HO0.out⟩,⟨by repeat ((with_reducible first|exact HK.out|apply Kept.drewN))⟩,⟨by repeat ((with_reducible first|exact HB.out|apply qav))⟩⟩
 case rest=>
  clear HC3
  obtain ⟨kq,x14_2,rfl,HA,HJ2,HO_0,HK,HB⟩:=hcut
  cases kq with
  | zero=>exact absurd HA.out (by simp [qaq.j0])
  | succ kj2=>
   have H:=HA.out
   clear HA
   simp only [qaq.j0] at H
   by_cases c8:x14_2=true
   ·subst c8
    have H1:(some l0)=some r:=by rw [if_pos rfl] at H;exact H
    clear H
    have H:=H1
    clear H1
    obtain rfl:=Option.some.inj H
    go_wp2
    go_ret
    exact ⟨_,by rfl,by (with_reducible repeat (apply Kd.R_drew));exact HO_0.out,by repeat ((with_reducible exact HB.out)),by repeat ((with_reducible exact HK.out))⟩
   ·replace c8:=Bool.eq_false_iff.mpr c8
    subst c8
    have H1:(qaq.l0 kj2 l0 a1 0)=some r:=by rw [if_neg (show ¬ (false=true) by decide)] at H;exact H
    clear H
    have H:=H1
    clear H1
    have H':=qaa.mk H
    clear H
    go_wp2
    go_loopg [5] kj2 (fun kq v5 w'=>∃ (x5_2:Int),v5=.int .i64 x5_2∧qaa (qaq.l0 kq l0 a1 x5_2=some r)∧qaa (kq≤kj2)∧qaa (Kd.R (Kd.int .i64) 3 w' w0.heap.size (fun k_=>(P0_ k_∨w.heap.size≤k_)) u9000_ l0)∧qaa (Kept w w' (fun k_=>P0_ k_))∧qaa (Below w0.heap.size w0 w'))
    case atStart=>exact ⟨(0),(by rfl),H',⟨Nat.le_refl _⟩,⟨by (with_reducible repeat (apply Kd.R_drew));exact HO_0.out⟩,⟨by repeat ((with_reducible exact HK.out))⟩,⟨by repeat ((with_reducible exact HB.out))⟩⟩
    case round=>
     clear H'
     obtain ⟨x5_2,rfl,HA,HK2,HO_0,HK,HB⟩:=hrel
     cases gk with
     | zero=>exact absurd HA.out (by simp [qaq.l0])
     | succ k2=>
      have H:=HA.out
      clear HA
      simp only [qaq.l0] at H
      by_cases c9:x5_2<(l0.length:Int)
      ·rw [if_pos c9] at H
       have c9b0:decide (x5_2<(l0.length:Int))=true:=decide_eq_true c9
       clear c9
       by_cases c10:0≤x5_2
       ·rw [if_pos c10] at H
        have c10b0:decide (0≤x5_2)=true:=decide_eq_true c10
        clear c10
        by_cases c11:(rd l0 x5_2)<a1
        ·rw [if_pos c11] at H
         have c11b0:decide ((rd l0 x5_2)<a1)=true:=decide_eq_true c11
         clear c11
         have H':=qaa.mk H
         clear H
         obtain ⟨Ao12,co12,eo12⟩:=Kd.R_slice HO_0.out
         subst eo12
         have p235:0≤(x5_2:Int):=of_decide_eq_true (by (with_reducible assumption))
         have q235:x5_2<(l0.length:Int):=of_decide_eq_true (by (with_reducible assumption))
         obtain ⟨ad235,e235,hx235_0⟩:=Kd.at_int (Kd.R_reads' HO_0.out).2.2 x5_2 p235 q235
         cases e235
         replace p235:=eq_true p235
         replace q235:=eq_true q235
         go_wp2
         go_roundg k2
         case measure=>have:=HJ2.out;have:=HK2.out;omega
         case rel=>exact ⟨(wrap64 (x5_2+1)),(by rfl),H',⟨by have:=HJ2.out;have:=HK2.out;omega⟩,⟨by (with_reducible repeat (apply Kd.R_drew));exact HO_0.out⟩,⟨by repeat ((with_reducible exact HK.out))⟩,⟨by repeat ((with_reducible exact HB.out))⟩⟩
        ·rw [if_neg c11] at H
         have c11b0:decide ((rd l0 x5_2)<a1)=false:=decide_eq_false c11
         clear c11
         obtain ⟨y236,hy236⟩:∃ y_:List Int,y_=(([]:List Int)):=⟨_,rfl⟩
         replace H:(if x5_2≤(l0.length:Int) then ((some (l0.take (x5_2:Int).toNat:List Int)).bind fun y239=>(if y236.length+y239.length<17592186044416 then ((some (y236++y239:List Int)).bind fun y243=>(if y243.length<17592186044416 then ((some (y243++[a1]:List Int)).bind fun y246=>((some (l0.drop (x5_2:Int).toNat:List Int)).bind fun y249=>(if y246.length+y249.length<17592186044416 then (some (y246++y249)) else (none)))) else (none))) else (none))) else (none))=some r:=by (have H2_:=(Option.bind_some _ _).symm.trans H;rw [hy236];with_reducible exact H2_)
         have Ny236:=qaa.mk hy236
         clear hy236
         have c13b0:=eq_true (of_decide_eq_true (by (with_reducible assumption)):0≤x5_2)
         by_cases c14:x5_2≤(l0.length:Int)
         ·rw [if_pos c14] at H
          have c14b0:=eq_true c14
          have c14b1:decide (x5_2≤(l0.length:Int))=true:=decide_eq_true c14
          clear c14
          obtain ⟨y239,hy239⟩:∃ y_:List Int,y_=(l0.take (x5_2:Int).toNat):=⟨_,rfl⟩
          replace H:(if y236.length+y239.length<17592186044416 then ((some (y236++y239:List Int)).bind fun y243=>(if y243.length<17592186044416 then ((some (y243++[a1]:List Int)).bind fun y246=>((some (l0.drop (x5_2:Int).toNat:List Int)).bind fun y249=>(if y246.length+y249.length<17592186044416 then (some (y246++y249)) else (none)))) else (none))) else (none))=some r:=by (have H2_:=(Option.bind_some _ _).symm.trans H;rw [hy239];with_reducible exact H2_)
          have Ny239:=qaa.mk hy239
          clear hy239
          by_cases c15:y236.length+y239.length<17592186044416
          ·rw [if_pos c15] at H
           have LMc15:=qaa.mk c15
           clear c15
           obtain ⟨y243,hy243⟩:∃ y_:List Int,y_=(y236++y239):=⟨_,rfl⟩
           replace H:(if y243.length<17592186044416 then ((some (y243++[a1]:List Int)).bind fun y246=>((some (l0.drop (x5_2:Int).toNat:List Int)).bind fun y249=>(if y246.length+y249.length<17592186044416 then (some (y246++y249)) else (none)))) else (none))=some r:=by (have H2_:=(Option.bind_some _ _).symm.trans H;rw [hy243];with_reducible exact H2_)
           have Ny243:=qaa.mk hy243
           clear hy243
           by_cases c16:y243.length<17592186044416
           ·rw [if_pos c16] at H
            have LMc16:=qaa.mk c16
            clear c16
            obtain ⟨y246,hy246⟩:∃ y_:List Int,y_=(y243++[a1]):=⟨_,rfl⟩
            replace H:((some (l0.drop (x5_2:Int).toNat:List Int)).bind fun y249=>(if y246.length+y249.length<17592186044416 then (some (y246++y249)) else (none)))=some r:=by (have H2_:=(Option.bind_some _ _).symm.trans H;rw [hy246];with_reducible exact H2_)
            have Ny246:=qaa.mk hy246
            clear hy246
            have c17b0:=eq_true (of_decide_eq_true (by (with_reducible assumption)):0≤x5_2)
            have c18b0:=eq_true (of_decide_eq_true (by (with_reducible assumption)):x5_2≤(l0.length:Int))
            obtain ⟨y249,hy249⟩:∃ y_:List Int,y_=(l0.drop (x5_2:Int).toNat):=⟨_,rfl⟩
            replace H:(if y246.length+y249.length<17592186044416 then (some (y246++y249)) else (none))=some r:=by (have H2_:=(Option.bind_some _ _).symm.trans H;rw [hy249];with_reducible exact H2_)
            have Ny249:=qaa.mk hy249
            clear hy249
            by_cases c19:y246.length+y249.length<17592186044416
            ·rw [if_pos c19] at H
             have LMc19:=qaa.mk c19
             clear c19
             obtain ⟨y253,hy253⟩:∃ y_:List Int,y_=(y246++y249):=⟨_,rfl⟩
             replace H:(some y253)=some r:=by (rw [hy253];with_reducible exact H)
             have Ny253:=qaa.mk hy253
             clear hy253
             obtain rfl:=Option.some.inj H
             obtain ⟨Ao20,co20,eo20⟩:=Kd.R_slice HO_0.out
             subst eo20
             have p235:0≤(x5_2:Int):=of_decide_eq_true (by (with_reducible assumption))
             have q235:x5_2<(l0.length:Int):=of_decide_eq_true (by (with_reducible assumption))
             obtain ⟨ad235,e235,hx235_0⟩:=Kd.at_int (Kd.R_reads' HO_0.out).2.2 x5_2 p235 q235
             cases e235
             replace p235:=eq_true p235
             replace q235:=eq_true q235
             go_wp2_with (first|((with_reducible refine qbf (N:=30) rfl ?_);refine Kd.R_lit (Kd.int .i64) _ 3 ?hg (N:=30) ?hd (xs:=([]:List Int)) (inner:=[]) (ok:=fun _=>True) (okp:=fun _=>True) ?hr ?hp (fun _ hk=>hk) trivial (Below.refl _ _) (Nat.le_refl _) (by simp) ?_;(case hd=>rfl);(case hg=>rfl);(case hr=>(go_simp;done));(case hp=>exact (Reps.none _ _));intro v237 w21 ho22 hb hg_ hnew_;clear hg_ hnew_;(rw [← Ny236.out] at ho22);have HO238:=qaa.mk (Kd.R_lower (Kd.R_new' (Kd.R_newM (M:=fun k_=>(P0_ k_∨w.heap.size≤k_)) ho22 (by exact HK.out.1) (fun k_ h_=>.inr h_)) (Kd.R_lt (by (with_reducible repeat (apply Kd.R_drew));exact HO_0.out))) (qac HB.out));replace HO_0:=qaa.mk (Kd.R_elder' (by (with_reducible repeat (apply Kd.R_drew));exact HO_0.out) (Kd.R_base ho22) hb);replace HK:=qaa.mk (Kept.below (S:=(fun k_=>P0_ k_)) HK.out hb);replace HB:=qaa.mk (qal HB.out hb);clear hb ho22;have q23:(x5_2:Int)≤((l0.length:Int):Int):=of_decide_eq_true (by (with_reducible assumption));obtain ⟨i023,hi023,_,hsz23,_⟩:=info_parts qfe;have hroom23:l0.length≤co20:=(Kd.R_reads' HO_0.out).2.1;have hC23:Kd.C (Kd.int .i64) _ (some ad235) l0.length l0:=(Kd.R_reads' HO_0.out).2.2;have hcut23:=cut_to (P:=Tryd.prog) 31 3 .i64 Tryd.underlying31 hi023 (some ad235) l0.length co20 x5_2 (of_decide_eq_true (by (with_reducible assumption))) q23 hroom23;have hr23:=Kd.C_take (m:=(x5_2:Int).toNat) hC23 (by omega);have hy23:y239.length=(x5_2:Int).toNat:=(by rw [Ny239.out,List.length_take];omega);rw [← Ny239.out] at hr23;rw [← hy23] at hcut23;have HR242:=qaa.mk hr23;have HC242:=qaa.mk (show y239.length≤co20 from by omega);clear hr23 hC23 hroom23 hi023 hsz23;have KY23:=qaa.mk hy23;clear hy23;have KL23:=qaa.mk (show (x5_2:Int).toNat≤l0.length from by omega);replace q23:=eq_true q23)|((with_reducible refine qdf (b:=.append) (xs:=#[.tmp 30,.tmp 33]) rfl ?_);at_builtin;refine Kd.R_append_rows (Kd.int .i64) (w0:=w0) w0.heap.size rfl (.tmp 30) (.tmp 33) 31 3 (.int .i64 0) 8 rfl Tryd.underlying31 qfe rfl (by decide) (by omega) v237 y236 y239 _ _ _ (fun k_=>(P0_ k_∨w.heap.size≤k_)∧some k_≠(.slice (some ad235) l0.length co20:Value).ownBlock) (fun _=>False) rfl rfl ?aO ?aR (fun _ _ h=>h) (fun _ h=>h.elim) ?aF ?aB ?aS ?aL ?_;(case aR=>repeat (exact (by repeat (exact HR242.out))));(case aB=>exact HB.out);(case aF=>exact (fun k_ hk=>⟨(.inr (Nat.le_trans (by exact HK.out.1) hk)),Kd.fresh' (Kd.R_lt (by (with_reducible repeat (apply Kd.R_drew));exact HO_0.out)) k_ hk⟩));(case aO=>exact (by (with_reducible repeat (apply Kd.R_drew));exact Kd.R_mono HO238.out (fun _ hk=>⟨hk.1.1,hk.2⟩)));(case aS=>exact (qac HB.out));(case aL=>have:=LMc15.out;omega);intro v244 w24 ho hb hg hat;rw [← Ny243.out] at ho;have n0_:=qaa.mk (Kd.R_after (ok:=(fun k_=>(P0_ k_∨w.heap.size≤k_))) (by (with_reducible repeat (apply Kd.R_drew));exact HO_0.out) hg hat);have n1_:=qaa.mk (hb);have n2_:=qaa.mk (Kept.of_grown (S:=(fun k_=>P0_ k_)) hg HK.out (fun k_ e_=>(HO238.out.1 k_ e_).1.1));have n3_:=qaa.mk ((show Kd.C (Kd.int .i64) w24 (some ad235) y239.length y239 from by rw [Ny239.out];exact Kd.C_take (m:=(x5_2:Int).toNat) ((Kd.R_reads' (Kd.R_after (ok:=(fun k_=>(P0_ k_∨w.heap.size≤k_))) (by (with_reducible repeat (apply Kd.R_drew));exact HO_0.out) hg hat)).2.2) KL23.out));have n4_:=qaa.mk (ho);clear HO_0;clear HB;clear HK;clear HR242;clear HO238;have HO_0:=n0_;have HB:=n1_;have HK:=n2_;have HR242:=n3_;have HO245:=n4_;clear n0_ n1_ n2_ n3_ n4_;clear ho hb hg hat)|((with_reducible refine qdf (b:=.append) (xs:=#[.tmp 35,.tmp 37]) rfl ?_);at_builtin;refine Kd.R_append (Kd.int .i64) (w0:=w0) w0.heap.size rfl (.tmp 35) (.tmp 37) 31 3 (.int .i64 0) 8 rfl Tryd.underlying31 qfe rfl (by decide) (by omega) v244 y243 a1 [.int .i64 a1] (fun k_=>(P0_ k_∨w.heap.size≤k_)∧some k_≠(.slice (some ad235) l0.length co20:Value).ownBlock) (fun _=>False) rfl rfl ?aP (fun _ hk=>hk.elim) ?aF ?aO ?aB ?aS ?aL ?_;(case aP=>exact rfl);(case aB=>exact HB.out);(case aF=>exact (fun k_ hk=>⟨(.inr (Nat.le_trans (by exact HK.out.1) hk)),Kd.fresh' (Kd.R_lt (by (with_reducible repeat (apply Kd.R_drew));exact HO_0.out)) k_ hk⟩));(case aO=>exact (by (with_reducible repeat (apply Kd.R_drew));exact HO245.out));(case aS=>exact (qac HB.out));(case aL=>have:=LMc16.out;omega);intro v247 w25 ho hb hg hat;rw [← Ny246.out] at ho;have n0_:=qaa.mk (Kd.R_after (ok:=(fun k_=>(P0_ k_∨w.heap.size≤k_))) (by (with_reducible repeat (apply Kd.R_drew));exact HO_0.out) hg hat);have n1_:=qaa.mk (hb);have n2_:=qaa.mk (Kept.of_grown (S:=(fun k_=>P0_ k_)) hg HK.out (fun k_ e_=>(HO245.out.1 k_ e_).1));have n3_:=qaa.mk ((show Kd.C (Kd.int .i64) w25 (some ad235) y239.length y239 from by rw [Ny239.out];exact Kd.C_take (m:=(x5_2:Int).toNat) ((Kd.R_reads' (Kd.R_after (ok:=(fun k_=>(P0_ k_∨w.heap.size≤k_))) (by (with_reducible repeat (apply Kd.R_drew));exact HO_0.out) hg hat)).2.2) KL23.out));have n4_:=qaa.mk (ho);clear HO_0;clear HB;clear HK;clear HR242;clear HO245;have HO_0:=n0_;have HB:=n1_;have HK:=n2_;have HR242:=n3_;have HO248:=n4_;clear n0_ n1_ n2_ n3_ n4_;clear ho hb hg hat;have q26:(x5_2:Int)≤((l0.length:Int):Int):=of_decide_eq_true (by (with_reducible assumption));obtain ⟨i026,hi026,_,hsz26,_⟩:=info_parts qfe;have hroom26:l0.length≤co20:=(Kd.R_reads' HO_0.out).2.1;have hC26:Kd.C (Kd.int .i64) _ (some ad235) l0.length l0:=(Kd.R_reads' HO_0.out).2.2;have q026:(0:Int)≤(x5_2:Int):=of_decide_eq_true (by (with_reducible assumption));have hcut26:=cut_from (P:=Tryd.prog) 31 3 .i64 Tryd.underlying31 hi026 1 hsz26 (some ad235) l0.length co20 x5_2 q026 q26;have hr26:=Kd.C_drop (m:=(x5_2:Int).toNat) (c:=co20) hC26 (by omega) hroom26;obtain ⟨A26,hA26⟩:∃ A1,A1=(if co20=(x5_2:Int).toNat then (some ad235) else ((some ad235):Option Addr).map (·.add ((x5_2:Int).toNat*1))):=⟨_,rfl⟩;obtain ⟨c26,hc26⟩:∃ c1,c1=co20-(x5_2:Int).toNat:=⟨_,rfl⟩;have hy26:y249.length=l0.length-(x5_2:Int).toNat:=(by rw [Ny249.out,List.length_drop] <;> omega);rw [show (l0).drop (x5_2:Int).toNat=y249 from Ny249.out.symm] at hr26;replace hr26:Kd.C (Kd.int .i64) _ A26 y249.length y249:=(by rw [hA26];exact hr26);rw [← hy26,← hA26,← hc26] at hcut26;have HR252:=qaa.mk hr26;have HC252:=qaa.mk (show y249.length≤c26 from by rw [hy26,hc26];exact Nat.sub_le_sub_right hroom26 _);clear hr26 hC26 hroom26 hi026 hsz26 hc26;have KY26:=qaa.mk hy26;have KA26:=qaa.mk hA26;clear hy26 hA26;have KL26:=qaa.mk (show (x5_2:Int).toNat≤l0.length from by omega);replace q26:=eq_true q26)|((with_reducible refine qdf (b:=.append) (xs:=#[.tmp 39,.tmp 42]) rfl ?_);at_builtin;refine Kd.R_append_rows (Kd.int .i64) (w0:=w0) w0.heap.size rfl (.tmp 39) (.tmp 42) 31 3 (.int .i64 0) 8 rfl Tryd.underlying31 qfe rfl (by decide) (by omega) v247 y246 y249 _ _ _ (fun k_=>(P0_ k_∨w.heap.size≤k_)∧some k_≠(.slice (some ad235) l0.length co20:Value).ownBlock) (fun _=>False) rfl rfl ?aO ?aR (fun _ _ h=>h) (fun _ h=>h.elim) ?aF ?aB ?aS ?aL ?_;(case aR=>repeat (exact (by repeat (exact HR252.out))));(case aB=>exact HB.out);(case aF=>exact (fun k_ hk=>⟨(.inr (Nat.le_trans (by exact HK.out.1) hk)),Kd.fresh' (Kd.R_lt (by (with_reducible repeat (apply Kd.R_drew));exact HO_0.out)) k_ hk⟩));(case aO=>exact (by (with_reducible repeat (apply Kd.R_drew));exact HO248.out));(case aS=>exact (qac HB.out));(case aL=>have:=LMc19.out;omega);intro v254 w27 ho hb hg hat;rw [← Ny253.out] at ho;have n0_:=qaa.mk (Kd.R_after (ok:=(fun k_=>(P0_ k_∨w.heap.size≤k_))) (by (with_reducible repeat (apply Kd.R_drew));exact HO_0.out) hg hat);have n1_:=qaa.mk (hb);have n2_:=qaa.mk (Kept.of_grown (S:=(fun k_=>P0_ k_)) hg HK.out (fun k_ e_=>(HO248.out.1 k_ e_).1));have n3_:=qaa.mk ((show Kd.C (Kd.int .i64) w27 (some ad235) y239.length y239 from by rw [Ny239.out];exact Kd.C_take (m:=(x5_2:Int).toNat) ((Kd.R_reads' (Kd.R_after (ok:=(fun k_=>(P0_ k_∨w.heap.size≤k_))) (by (with_reducible repeat (apply Kd.R_drew));exact HO_0.out) hg hat)).2.2) KL23.out));have n4_:=qaa.mk ((show Kd.C (Kd.int .i64) w27 A26 y249.length y249 from by rw [Ny249.out,KA26.out];exact Kd.C_drop (m:=(x5_2:Int).toNat) (c:=co20) ((Kd.R_reads' (Kd.R_after (ok:=(fun k_=>(P0_ k_∨w.heap.size≤k_))) (by (with_reducible repeat (apply Kd.R_drew));exact HO_0.out) hg hat)).2.2) KL26.out ((Kd.R_reads' (Kd.R_after (ok:=(fun k_=>(P0_ k_∨w.heap.size≤k_))) (by (with_reducible repeat (apply Kd.R_drew));exact HO_0.out) hg hat)).2.1)));have n5_:=qaa.mk (ho);clear HO_0;clear HB;clear HK;clear HR242;clear HR252;clear HO248;have HO_0:=n0_;have HB:=n1_;have HK:=n2_;have HR242:=n3_;have HR252:=n4_;have HO255:=n5_;clear n0_ n1_ n2_ n3_ n4_ n5_;clear ho hb hg hat))
             go_ret
             exact ⟨_,by rfl,by (with_reducible repeat (apply Kd.R_drew));exact Kd.R_mono HO255.out (fun _ hk=>hk.1),by repeat ((with_reducible exact HB.out)),by repeat ((with_reducible exact HK.out))⟩
            ·rw [if_neg c19] at H
             exact absurd H (by simp)
           ·rw [if_neg c16] at H
            exact absurd H (by simp)
          ·rw [if_neg c15] at H
           exact absurd H (by simp)
         ·rw [if_neg c14] at H
          exact absurd H (by simp)
       ·rw [if_neg c10] at H
        exact absurd H (by simp)
      ·rw [if_neg c9] at H
       have c9b0:decide (x5_2<(l0.length:Int))=false:=decide_eq_false c9
       clear c9
       obtain ⟨y256,hy256⟩:∃ y_:List Int,y_=(([]:List Int)):=⟨_,rfl⟩
       replace H:(if 0≤x5_2 then (if x5_2≤(l0.length:Int) then ((some (l0.take (x5_2:Int).toNat:List Int)).bind fun y259=>(if y256.length+y259.length<17592186044416 then ((some (y256++y259:List Int)).bind fun y263=>(if y263.length<17592186044416 then ((some (y263++[a1]:List Int)).bind fun y266=>((some (l0.drop (x5_2:Int).toNat:List Int)).bind fun y269=>(if y266.length+y269.length<17592186044416 then (some (y266++y269)) else (none)))) else (none))) else (none))) else (none)) else (none))=some r:=by (have H2_:=(Option.bind_some _ _).symm.trans H;rw [hy256];with_reducible exact H2_)
       have Ny256:=qaa.mk hy256
       clear hy256
       by_cases c28:0≤x5_2
       ·rw [if_pos c28] at H
        have c28b0:=eq_true c28
        have c28b1:decide (0≤x5_2)=true:=decide_eq_true c28
        clear c28
        by_cases c29:x5_2≤(l0.length:Int)
        ·rw [if_pos c29] at H
         have c29b0:=eq_true c29
         have c29b1:decide (x5_2≤(l0.length:Int))=true:=decide_eq_true c29
         clear c29
         obtain ⟨y259,hy259⟩:∃ y_:List Int,y_=(l0.take (x5_2:Int).toNat):=⟨_,rfl⟩
         replace H:(if y256.length+y259.length<17592186044416 then ((some (y256++y259:List Int)).bind fun y263=>(if y263.length<17592186044416 then ((some (y263++[a1]:List Int)).bind fun y266=>((some (l0.drop (x5_2:Int).toNat:List Int)).bind fun y269=>(if y266.length+y269.length<17592186044416 then (some (y266++y269)) else (none)))) else (none))) else (none))=some r:=by (have H2_:=(Option.bind_some _ _).symm.trans H;rw [hy259];with_reducible exact H2_)
         have Ny259:=qaa.mk hy259
         clear hy259
         by_cases c30:y256.length+y259.length<17592186044416
         ·rw [if_pos c30] at H
          have LMc30:=qaa.mk c30
          clear c30
          obtain ⟨y263,hy263⟩:∃ y_:List Int,y_=(y256++y259):=⟨_,rfl⟩
          replace H:(if y263.length<17592186044416 then ((some (y263++[a1]:List Int)).bind fun y266=>((some (l0.drop (x5_2:Int).toNat:List Int)).bind fun y269=>(if y266.length+y269.length<17592186044416 then (some (y266++y269)) else (none)))) else (none))=some r:=by (have H2_:=(Option.bind_some _ _).symm.trans H;rw [hy263];with_reducible exact H2_)
          have Ny263:=qaa.mk hy263
          clear hy263
          by_cases c31:y263.length<17592186044416
          ·rw [if_pos c31] at H
           have LMc31:=qaa.mk c31
           clear c31
           obtain ⟨y266,hy266⟩:∃ y_:List Int,y_=(y263++[a1]):=⟨_,rfl⟩
           replace H:((some (l0.drop (x5_2:Int).toNat:List Int)).bind fun y269=>(if y266.length+y269.length<17592186044416 then (some (y266++y269)) else (none)))=some r:=by (have H2_:=(Option.bind_some _ _).symm.trans H;rw [hy266];with_reducible exact H2_)
           have Ny266:=qaa.mk hy266
           clear hy266
           have c32b0:=eq_true (of_decide_eq_true (by (with_reducible assumption)):0≤x5_2)
           have c33b0:=eq_true (of_decide_eq_true (by (with_reducible assumption)):x5_2≤(l0.length:Int))
           obtain ⟨y269,hy269⟩:∃ y_:List Int,y_=(l0.drop (x5_2:Int).toNat):=⟨_,rfl⟩
           replace H:(if y266.length+y269.length<17592186044416 then (some (y266++y269)) else (none))=some r:=by (have H2_:=(Option.bind_some _ _).symm.trans H;rw [hy269];with_reducible exact H2_)
           have Ny269:=qaa.mk hy269
           clear hy269
           by_cases c34:y266.length+y269.length<17592186044416
           ·rw [if_pos c34] at H
            have LMc34:=qaa.mk c34
            clear c34
            obtain ⟨y273,hy273⟩:∃ y_:List Int,y_=(y266++y269):=⟨_,rfl⟩
            replace H:(some y273)=some r:=by (rw [hy273];with_reducible exact H)
            have Ny273:=qaa.mk hy273
            clear hy273
            obtain rfl:=Option.some.inj H
            obtain ⟨Ao35,co35,eo35⟩:=Kd.R_slice HO_0.out
            subst eo35
            go_wp2_with (first|((with_reducible refine qbf (N:=30) rfl ?_);refine Kd.R_lit (Kd.int .i64) _ 3 ?hg (N:=30) ?hd (xs:=([]:List Int)) (inner:=[]) (ok:=fun _=>True) (okp:=fun _=>True) ?hr ?hp (fun _ hk=>hk) trivial (Below.refl _ _) (Nat.le_refl _) (by simp) ?_;(case hd=>rfl);(case hg=>rfl);(case hr=>(go_simp;done));(case hp=>exact (Reps.none _ _));intro v257 w36 ho37 hb hg_ hnew_;clear hg_ hnew_;(rw [← Ny256.out] at ho37);have HO258:=qaa.mk (Kd.R_lower (Kd.R_new' (Kd.R_newM (M:=fun k_=>(P0_ k_∨w.heap.size≤k_)) ho37 (by exact HK.out.1) (fun k_ h_=>.inr h_)) (Kd.R_lt (by (with_reducible repeat (apply Kd.R_drew));exact HO_0.out))) (qac HB.out));replace HO_0:=qaa.mk (Kd.R_elder' (by (with_reducible repeat (apply Kd.R_drew));exact HO_0.out) (Kd.R_base ho37) hb);replace HK:=qaa.mk (Kept.below (S:=(fun k_=>P0_ k_)) HK.out hb);replace HB:=qaa.mk (qal HB.out hb);clear hb ho37;have q38:(x5_2:Int)≤((l0.length:Int):Int):=of_decide_eq_true (by (with_reducible assumption));obtain ⟨i038,hi038,_,hsz38,_⟩:=info_parts qfe;have hroom38:l0.length≤co35:=(Kd.R_reads' HO_0.out).2.1;have hC38:Kd.C (Kd.int .i64) _ Ao35 l0.length l0:=(Kd.R_reads' HO_0.out).2.2;have hcut38:=cut_to (P:=Tryd.prog) 31 3 .i64 Tryd.underlying31 hi038 Ao35 l0.length co35 x5_2 (of_decide_eq_true (by (with_reducible assumption))) q38 hroom38;have hr38:=Kd.C_take (m:=(x5_2:Int).toNat) hC38 (by omega);have hy38:y259.length=(x5_2:Int).toNat:=(by rw [Ny259.out,List.length_take];omega);rw [← Ny259.out] at hr38;rw [← hy38] at hcut38;have HR262:=qaa.mk hr38;have HC262:=qaa.mk (show y259.length≤co35 from by omega);clear hr38 hC38 hroom38 hi038 hsz38;have KY38:=qaa.mk hy38;clear hy38;have KL38:=qaa.mk (show (x5_2:Int).toNat≤l0.length from by omega);replace q38:=eq_true q38)|((with_reducible refine qdf (b:=.append) (xs:=#[.tmp 30,.tmp 33]) rfl ?_);at_builtin;refine Kd.R_append_rows (Kd.int .i64) (w0:=w0) w0.heap.size rfl (.tmp 30) (.tmp 33) 31 3 (.int .i64 0) 8 rfl Tryd.underlying31 qfe rfl (by decide) (by omega) v257 y256 y259 _ _ _ (fun k_=>(P0_ k_∨w.heap.size≤k_)∧some k_≠(.slice Ao35 l0.length co35:Value).ownBlock) (fun _=>False) rfl rfl ?aO ?aR (fun _ _ h=>h) (fun _ h=>h.elim) ?aF ?aB ?aS ?aL ?_;(case aR=>repeat (exact (by repeat (exact HR262.out))));(case aB=>exact HB.out);(case aF=>exact (fun k_ hk=>⟨(.inr (Nat.le_trans (by exact HK.out.1) hk)),Kd.fresh' (Kd.R_lt (by (with_reducible repeat (apply Kd.R_drew));exact HO_0.out)) k_ hk⟩));(case aO=>exact (by (with_reducible repeat (apply Kd.R_drew));exact Kd.R_mono HO258.out (fun _ hk=>⟨hk.1.1,hk.2⟩)));(case aS=>exact (qac HB.out));(case aL=>have:=LMc30.out;omega);intro v264 w39 ho hb hg hat;rw [← Ny263.out] at ho;have n0_:=qaa.mk (Kd.R_after (ok:=(fun k_=>(P0_ k_∨w.heap.size≤k_))) (by (with_reducible repeat (apply Kd.R_drew));exact HO_0.out) hg hat);have n1_:=qaa.mk (hb);have n2_:=qaa.mk (Kept.of_grown (S:=(fun k_=>P0_ k_)) hg HK.out (fun k_ e_=>(HO258.out.1 k_ e_).1.1));have n3_:=qaa.mk ((show Kd.C (Kd.int .i64) w39 Ao35 y259.length y259 from by rw [Ny259.out];exact Kd.C_take (m:=(x5_2:Int).toNat) ((Kd.R_reads' (Kd.R_after (ok:=(fun k_=>(P0_ k_∨w.heap.size≤k_))) (by (with_reducible repeat (apply Kd.R_drew));exact HO_0.out) hg hat)).2.2) KL38.out));have n4_:=qaa.mk (ho);clear HO_0;clear HB;clear HK;clear HR262;clear HO258;have HO_0:=n0_;have HB:=n1_;have HK:=n2_;have HR262:=n3_;have HO265:=n4_;clear n0_ n1_ n2_ n3_ n4_;clear ho hb hg hat)|((with_reducible refine qdf (b:=.append) (xs:=#[.tmp 35,.tmp 37]) rfl ?_);at_builtin;refine Kd.R_append (Kd.int .i64) (w0:=w0) w0.heap.size rfl (.tmp 35) (.tmp 37) 31 3 (.int .i64 0) 8 rfl Tryd.underlying31 qfe rfl (by decide) (by omega) v264 y263 a1 [.int .i64 a1] (fun k_=>(P0_ k_∨w.heap.size≤k_)∧some k_≠(.slice Ao35 l0.length co35:Value).ownBlock) (fun _=>False) rfl rfl ?aP (fun _ hk=>hk.elim) ?aF ?aO ?aB ?aS ?aL ?_;(case aP=>exact rfl);(case aB=>exact HB.out);(case aF=>exact (fun k_ hk=>⟨(.inr (Nat.le_trans (by exact HK.out.1) hk)),Kd.fresh' (Kd.R_lt (by (with_reducible repeat (apply Kd.R_drew));exact HO_0.out)) k_ hk⟩));(case aO=>exact (by (with_reducible repeat (apply Kd.R_drew));exact HO265.out));(case aS=>exact (qac HB.out));(case aL=>have:=LMc31.out;omega);intro v267 w40 ho hb hg hat;rw [← Ny266.out] at ho;have n0_:=qaa.mk (Kd.R_after (ok:=(fun k_=>(P0_ k_∨w.heap.size≤k_))) (by (with_reducible repeat (apply Kd.R_drew));exact HO_0.out) hg hat);have n1_:=qaa.mk (hb);have n2_:=qaa.mk (Kept.of_grown (S:=(fun k_=>P0_ k_)) hg HK.out (fun k_ e_=>(HO265.out.1 k_ e_).1));have n3_:=qaa.mk ((show Kd.C (Kd.int .i64) w40 Ao35 y259.length y259 from by rw [Ny259.out];exact Kd.C_take (m:=(x5_2:Int).toNat) ((Kd.R_reads' (Kd.R_after (ok:=(fun k_=>(P0_ k_∨w.heap.size≤k_))) (by (with_reducible repeat (apply Kd.R_drew));exact HO_0.out) hg hat)).2.2) KL38.out));have n4_:=qaa.mk (ho);clear HO_0;clear HB;clear HK;clear HR262;clear HO265;have HO_0:=n0_;have HB:=n1_;have HK:=n2_;have HR262:=n3_;have HO268:=n4_;clear n0_ n1_ n2_ n3_ n4_;clear ho hb hg hat;have q41:(x5_2:Int)≤((l0.length:Int):Int):=of_decide_eq_true (by (with_reducible assumption));obtain ⟨i041,hi041,_,hsz41,_⟩:=info_parts qfe;have hroom41:l0.length≤co35:=(Kd.R_reads' HO_0.out).2.1;have hC41:Kd.C (Kd.int .i64) _ Ao35 l0.length l0:=(Kd.R_reads' HO_0.out).2.2;have q041:(0:Int)≤(x5_2:Int):=of_decide_eq_true (by (with_reducible assumption));have hcut41:=cut_from (P:=Tryd.prog) 31 3 .i64 Tryd.underlying31 hi041 1 hsz41 Ao35 l0.length co35 x5_2 q041 q41;have hr41:=Kd.C_drop (m:=(x5_2:Int).toNat) (c:=co35) hC41 (by omega) hroom41;obtain ⟨A41,hA41⟩:∃ A1,A1=(if co35=(x5_2:Int).toNat then Ao35 else (Ao35:Option Addr).map (·.add ((x5_2:Int).toNat*1))):=⟨_,rfl⟩;obtain ⟨c41,hc41⟩:∃ c1,c1=co35-(x5_2:Int).toNat:=⟨_,rfl⟩;have hy41:y269.length=l0.length-(x5_2:Int).toNat:=(by rw [Ny269.out,List.length_drop] <;> omega);rw [show (l0).drop (x5_2:Int).toNat=y269 from Ny269.out.symm] at hr41;replace hr41:Kd.C (Kd.int .i64) _ A41 y269.length y269:=(by rw [hA41];exact hr41);rw [← hy41,← hA41,← hc41] at hcut41;have HR272:=qaa.mk hr41;have HC272:=qaa.mk (show y269.length≤c41 from by rw [hy41,hc41];exact Nat.sub_le_sub_right hroom41 _);clear hr41 hC41 hroom41 hi041 hsz41 hc41;have KY41:=qaa.mk hy41;have KA41:=qaa.mk hA41;clear hy41 hA41;have KL41:=qaa.mk (show (x5_2:Int).toNat≤l0.length from by omega);replace q41:=eq_true q41)|((with_reducible refine qdf (b:=.append) (xs:=#[.tmp 39,.tmp 42]) rfl ?_);at_builtin;refine Kd.R_append_rows (Kd.int .i64) (w0:=w0) w0.heap.size rfl (.tmp 39) (.tmp 42) 31 3 (.int .i64 0) 8 rfl Tryd.underlying31 qfe rfl (by decide) (by omega) v267 y266 y269 _ _ _ (fun k_=>(P0_ k_∨w.heap.size≤k_)∧some k_≠(.slice Ao35 l0.length co35:Value).ownBlock) (fun _=>False) rfl rfl ?aO ?aR (fun _ _ h=>h) (fun _ h=>h.elim) ?aF ?aB ?aS ?aL ?_;(case aR=>repeat (exact (by repeat (exact HR272.out))));(case aB=>exact HB.out);(case aF=>exact (fun k_ hk=>⟨(.inr (Nat.le_trans (by exact HK.out.1) hk)),Kd.fresh' (Kd.R_lt (by (with_reducible repeat (apply Kd.R_drew));exact HO_0.out)) k_ hk⟩));(case aO=>exact (by (with_reducible repeat (apply Kd.R_drew));exact HO268.out));(case aS=>exact (qac HB.out));(case aL=>have:=LMc34.out;omega);intro v274 w42 ho hb hg hat;rw [← Ny273.out] at ho;have n0_:=qaa.mk (Kd.R_after (ok:=(fun k_=>(P0_ k_∨w.heap.size≤k_))) (by (with_reducible repeat (apply Kd.R_drew));exact HO_0.out) hg hat);have n1_:=qaa.mk (hb);have n2_:=qaa.mk (Kept.of_grown (S:=(fun k_=>P0_ k_)) hg HK.out (fun k_ e_=>(HO268.out.1 k_ e_).1));have n3_:=qaa.mk ((show Kd.C (Kd.int .i64) w42 Ao35 y259.length y259 from by rw [Ny259.out];exact Kd.C_take (m:=(x5_2:Int).toNat) ((Kd.R_reads' (Kd.R_after (ok:=(fun k_=>(P0_ k_∨w.heap.size≤k_))) (by (with_reducible repeat (apply Kd.R_drew));exact HO_0.out) hg hat)).2.2) KL38.out));have n4_:=qaa.mk ((show Kd.C (Kd.int .i64) w42 A41 y269.length y269 from by rw [Ny269.out,KA41.out];exact Kd.C_drop (m:=(x5_2:Int).toNat) (c:=co35) ((Kd.R_reads' (Kd.R_after (ok:=(fun k_=>(P0_ k_∨w.heap.size≤k_))) (by (with_reducible repeat (apply Kd.R_drew));exact HO_0.out) hg hat)).2.2) KL41.out ((Kd.R_reads' (Kd.R_after (ok:=(fun k_=>(P0_ k_∨w.heap.size≤k_))) (by (with_reducible repeat (apply Kd.R_drew));exact HO_0.out) hg hat)).2.1)));have n5_:=qaa.mk (ho);clear HO_0;clear HB;clear HK;clear HR262;clear HR272;clear HO268;have HO_0:=n0_;have HB:=n1_;have HK:=n2_;have HR262:=n3_;have HR272:=n4_;have HO275:=n5_;clear n0_ n1_ n2_ n3_ n4_ n5_;clear ho hb hg hat))
            go_ret
            exact ⟨_,by rfl,by (with_reducible repeat (apply Kd.R_drew));exact Kd.R_mono HO275.out (fun _ hk=>hk.1),by repeat ((with_reducible exact HB.out)),by repeat ((with_reducible exact HK.out))⟩
           ·rw [if_neg c34] at H
            exact absurd H (by simp)
          ·rw [if_neg c31] at H
           exact absurd H (by simp)
         ·rw [if_neg c30] at H
          exact absurd H (by simp)
        ·rw [if_neg c29] at H
         exact absurd H (by simp)
       ·rw [if_neg c28] at H
        exact absurd H (by simp)
end Go.Proofs.YtmfjmbcfaamebaaDoor.X
namespace Go.Proofs.YtmfjmbcfaamebaaDoor.X
open Go.RowKit Go.Proofs.YtmfjmbcfaamebaaDoorW.PrintWords Go.Proofs.YtmfjmbcfaamebaaDoorW.PrintLast Go.Proofs.YtmfjmbcfaamebaaDoorW.PrintMore
attribute [local go_sem] qbs qcb
set_option linter.unusedVariables false
set_option linter.unusedSimpArgs false
def qbe.l0:Nat→List Int→List Int→Int→Int→Option (List Int)
 | 0,_,_,_,_=>none
 | k+1,x3,x6,x7,x8=>if x8<x7 then (if 0≤x8 then (if x8<(x6.length:Int) then ((qaq.f k x3 (rd x6 x8)).bind fun t277=>(qbe.l0 k t277 x6 x7 (wrap64 (x8+1)))) else (none)) else (none)) else (some x3)
def qbe.f (k:Nat) (l0:List Int):Option (List Int):=qbe.l0 k ([]:List Int) l0 (l0.length:Int) 0
theorem qbe.mono_l:∀ k,(∀ y0 y1 y2 y3,LeO (qbe.l0 k y0 y1 y2 y3) (qbe.l0 (k+1) y0 y1 y2 y3))
 | 0=>fun _ _ _ _ r h=>by simp [qbe.l0] at h
 | k+1=>by
  have ih0:=qbe.mono_l k
  ·intro y0 y1 y2 y3
   unfold qbe.l0
   repeat' first|(with_reducible exact ih0 _ _ _ _)|(with_reducible exact qaq.mono _ _ _)|(with_reducible exact LeO.refl _)|(with_reducible refine LeO.ite ?_ ?_)|(with_reducible refine LeO.bind ?_ (fun _=>?_))
theorem qbe.mono:∀ a0 k,LeO (qbe.f k a0) (qbe.f (k+1) a0):=by
 intro a0 k
 have ih0:=qbe.mono_l k
 unfold qbe.f
 repeat' (with_reducible exact ih0 _ _ _ _)
set_option maxHeartbeats 8000000 in
set_option maxRecDepth 100000 in
theorem qbe.calls (k:Nat) (A0:Option Addr) (c0:Nat) (l0:List Int) (r:List Int) (w:World) (hr0:Kd.C (Kd.int .i64) w A0 l0.length l0) (hc0:l0.length≤c0) (h:qbe.f k l0=some r) :
  Calls Tryd.prog 46 #[.slice A0 l0.length c0] w fun e w'=>∃ v0_:Value,e=.returned (v0_)∧Kd.R (Kd.int .i64) 3 w' w.heap.size (fun _=>True) v0_ r∧Below w.heap.size w w':=by
 have HR0:=qaa.mk hr0
 have HC0:=qaa.mk hc0
 clear hr0 hc0
 have HB:=qaa.mk (Below.refl w.heap.size w)
 have H:(qbe.l0 k ([]:List Int) l0 (l0.length:Int) 0)=some r:=h
 clear h
 have H':=qaa.mk H
 clear H
 go_enter Tryd.func46,Tryd.ntmps46
 go_wp2
 go_loopg [3,8] k (fun kq v3 v8 w'=>∃ (x3_1:List Int) (x8_1:Int),v8=.int .i64 x8_1∧qaa (qbe.l0 kq x3_1 l0 (l0.length:Int) x8_1=some r)∧qaa (kq≤k)∧qaa (Kd.R (Kd.int .i64) 3 w' w.heap.size (fun _=>True) v3 x3_1)∧qaa (Below w.heap.size w w'))
 case atStart=>exact ⟨(([]:List Int)),(0),(by rfl),H',⟨Nat.le_refl _⟩,⟨by exact Kd.R_nil _ _ _ _ _⟩,⟨by repeat ((with_reducible exact HB.out))⟩⟩
 case round=>
  clear H'
  obtain ⟨x3_1,x8_1,rfl,HA,HK1,HO_3,HB⟩:=hrel
  cases gk with
  | zero=>exact absurd HA.out (by simp [qbe.l0])
  | succ k1=>
   have H:=HA.out
   clear HA
   simp only [qbe.l0] at H
   by_cases c2:x8_1<(l0.length:Int)
   ·rw [if_pos c2] at H
    have c2b0:decide (x8_1<(l0.length:Int))=true:=decide_eq_true c2
    clear c2
    by_cases c3:0≤x8_1
    ·rw [if_pos c3] at H
     have c3b0:decide (0≤x8_1)=true:=decide_eq_true c3
     clear c3
     by_cases c4:x8_1<(l0.length:Int)
     ·rw [if_pos c4] at H
      have c4b0:decide (x8_1<(l0.length:Int))=true:=decide_eq_true c4
      clear c4
      replace H:=Option.bind_eq_some_iff.mp H
      obtain ⟨t277,A50,H⟩:=H
      replace H:(qbe.l0 k1 t277 l0 (l0.length:Int) (wrap64 (x8_1+1)))=some r:=H
      have A5:=qaa.mk A50
      clear A50
      have H':=qaa.mk H
      clear H
      have p276:0≤(x8_1:Int):=of_decide_eq_true (by (with_reducible assumption))
      have q276:x8_1<(l0.length:Int):=of_decide_eq_true (by (with_reducible assumption))
      obtain ⟨ad276,e276,hx276_0⟩:=Kd.at_int HR0.out x8_1 p276 q276
      cases e276
      replace hx276_0:=(HB.out.cell (World.block_lt_of_cell? w _ hx276_0)).trans hx276_0
      replace p276:=eq_true p276
      replace q276:=eq_true q276
      obtain ⟨Ao6,co6,eo6⟩:=Kd.R_slice HO_3.out
      subst eo6
      go_wp2_with (((with_reducible refine qbb (f:=75) rfl ?_);refine qcv (some 14) rfl rfl Tryd.func75 (by kernel_rfl) rfl #[.slice Ao6 x3_1.length co6,.int .i64 (rd l0 x8_1)] rfl (by (try simp only [List.map_toArray,List.map_cons,List.map_nil]);rfl) ?_;(with_reducible refine (qaq.calls k1 (fun k_=>some k_=(.slice Ao6 x3_1.length co6:Value).ownBlock) (.slice Ao6 x3_1.length co6) x3_1 (rd l0 x8_1) t277 w _ ?side1 ?side2 A5.out).mono ?_);(case side1=>repeat ((with_reducible exact HB.out)));(case side2=>exact Kd.R_tight rfl HO_3.out);rintro e w7 ⟨v278,rfl,ho0,hb,hkp⟩;refine ⟨_,rfl,?_⟩;have n0_:=qaa.mk (Kd.R_mono (ok':=fun k_=>True) ho0 (fun k_ hk_=>trivial));have n1_:=qaa.mk (hb);clear HB;clear HO_3;have HO279:=n0_;have HB:=n1_;clear n0_ n1_;(try clear hb);(try clear hkp);(try clear ho0)))
      go_roundg k1
      case measure=>have:=HK1.out;omega
      case rel=>exact ⟨(t277),(wrap64 (x8_1+1)),(by rfl),H',⟨by have:=HK1.out;omega⟩,⟨by (with_reducible repeat (apply Kd.R_drew));exact HO279.out⟩,⟨by repeat ((with_reducible exact HB.out))⟩⟩
     ·rw [if_neg c4] at H
      exact absurd H (by simp)
    ·rw [if_neg c3] at H
     exact absurd H (by simp)
   ·rw [if_neg c2] at H
    have c2b0:decide (x8_1<(l0.length:Int))=false:=decide_eq_false c2
    clear c2
    obtain rfl:=Option.some.inj H
    go_wp2
    go_ret
    exact ⟨_,by rfl,by (with_reducible repeat (apply Kd.R_drew));exact HO_3.out,by repeat ((with_reducible exact HB.out))⟩
end Go.Proofs.YtmfjmbcfaamebaaDoor.X
namespace Go.Proofs.YtmfjmbcfaamebaaDoor.X
open Go.RowKit Go.Proofs.YtmfjmbcfaamebaaDoorW.PrintWords Go.Proofs.YtmfjmbcfaamebaaDoorW.PrintLast Go.Proofs.YtmfjmbcfaamebaaDoorW.PrintMore
attribute [local go_sem] qbs qcb
set_option linter.unusedVariables false
set_option linter.unusedSimpArgs false
mutual
def qag.j0:Nat→List Int→Bool→Bool→Int→List (S60)→List (S85)→Int→Int→Int→Int→Option (List Int)
 | 0,_,_,_,_,_,_,_,_,_,_=>none
 | k+1,x5,x22,x281000,x281001,x281002,x283000,x283001,x283002,x283003,x283004=>if x22=true then (if x5.length<17592186044416 then (qag.j1 k (x5++[x283003]) x281000 x281001 x281002 x283000 x283001 x283002 x283003 x283004) else (none)) else (qag.j1 k x5 x281000 x281001 x281002 x283000 x283001 x283002 x283003 x283004)
def qag.j1:Nat→List Int→Bool→Int→List (S60)→List (S85)→Int→Int→Int→Int→Option (List Int)
 | 0,_,_,_,_,_,_,_,_,_=>none
 | k+1,x5,x281000,x281001,x281002,x283000,x283001,x283002,x283003,x283004=>if x283001=2 then (if x5.length<17592186044416 then (qag.j2 k (x5++[x283004]) x281000 x281001 x281002) else (none)) else (qag.j2 k x5 x281000 x281001 x281002)
def qag.j2:Nat→List Int→Bool→Int→List (S60)→Option (List Int)
 | 0,_,_,_,_=>none
 | k+1,x5,x281000,x281001,x281002=>qag.l0 k ([]:List Int) x5 (x5.length:Int) 0 x281000 x281001 x281002
def qag.l0:Nat→List Int→List Int→Int→Int→Bool→Int→List (S60)→Option (List Int)
 | 0,_,_,_,_,_,_,_=>none
 | k+1,x7,x36,x37,x38,x281000,x281001,x281002=>if x38<x37 then (if 0≤x38 then (if x38<(x36.length:Int) then (if (rd x36 x38)≥0 then (if (rd x36 x38)<(x281002.length:Int) then (if x7.length<17592186044416 then (qag.l0 k (x7++[rd x36 x38]) x36 x37 (wrap64 (x38+1)) x281000 x281001 x281002) else (none)) else (qag.l0 k x7 x36 x37 (wrap64 (x38+1)) x281000 x281001 x281002)) else (qag.l0 k x7 x36 x37 (wrap64 (x38+1)) x281000 x281001 x281002)) else (none)) else (none)) else (some x7)
end
def qag.f (k:Nat) (a0_0:Bool) (a0_1:Int) (l0_2:List (S60)) (a1:Int):Option (List Int):=if 0≤a1 then (if a1<(l0_2.length:Int) then (if ((qar l0_2 a1).f1)=1 then (qag.j0 k ([]:List Int) true a0_0 a0_1 l0_2 ((qar l0_2 a1).f0) ((qar l0_2 a1).f1) ((qar l0_2 a1).f2) ((qar l0_2 a1).f3) ((qar l0_2 a1).f4)) else (qag.j0 k ([]:List Int) (((qar l0_2 a1).f1)==2) a0_0 a0_1 l0_2 ((qar l0_2 a1).f0) ((qar l0_2 a1).f1) ((qar l0_2 a1).f2) ((qar l0_2 a1).f3) ((qar l0_2 a1).f4))) else (none)) else (none)
theorem qag.mono_l:∀ k,(∀ y0 y1 y2 y3 y4 y5 y6 y7 y8 y9,LeO (qag.j0 k y0 y1 y2 y3 y4 y5 y6 y7 y8 y9) (qag.j0 (k+1) y0 y1 y2 y3 y4 y5 y6 y7 y8 y9))∧(∀ y0 y1 y2 y3 y4 y5 y6 y7 y8,LeO (qag.j1 k y0 y1 y2 y3 y4 y5 y6 y7 y8) (qag.j1 (k+1) y0 y1 y2 y3 y4 y5 y6 y7 y8))∧(∀ y0 y1 y2 y3,LeO (qag.j2 k y0 y1 y2 y3) (qag.j2 (k+1) y0 y1 y2 y3))∧(∀ y0 y1 y2 y3 y4 y5 y6,LeO (qag.l0 k y0 y1 y2 y3 y4 y5 y6) (qag.l0 (k+1) y0 y1 y2 y3 y4 y5 y6))
 | 0=>⟨fun _ _ _ _ _ _ _ _ _ _ r h=>by simp [qag.j0] at h,fun _ _ _ _ _ _ _ _ _ r h=>by simp [qag.j1] at h,fun _ _ _ _ r h=>by simp [qag.j2] at h,fun _ _ _ _ _ _ _ r h=>by simp [qag.l0] at h⟩
 | k+1=>by
  obtain ⟨ih0,ih1,ih2,ih3⟩:=qag.mono_l k
  refine ⟨?_,?_,?_,?_⟩
  ·intro y0 y1 y2 y3 y4 y5 y6 y7 y8 y9
   unfold qag.j0
   repeat' first|(with_reducible exact ih1 _ _ _ _ _ _ _ _ _)|(with_reducible exact LeO.refl _)|(with_reducible refine LeO.ite ?_ ?_)
  ·intro y0 y1 y2 y3 y4 y5 y6 y7 y8
   unfold qag.j1
   repeat' first|(with_reducible exact ih2 _ _ _ _)|(with_reducible exact LeO.refl _)|(with_reducible refine LeO.ite ?_ ?_)
  ·intro y0 y1 y2 y3
   unfold qag.j2
   repeat' (with_reducible exact ih3 _ _ _ _ _ _ _)
  ·intro y0 y1 y2 y3 y4 y5 y6
   unfold qag.l0
   repeat' first|(with_reducible exact ih3 _ _ _ _ _ _ _)|(with_reducible exact LeO.refl _)|(with_reducible refine LeO.ite ?_ ?_)
theorem qag.mono:∀ a0 a1 a2 a3 k,LeO (qag.f k a0 a1 a2 a3) (qag.f (k+1) a0 a1 a2 a3):=by
 intro a0 a1 a2 a3 k
 obtain ⟨ih0,ih1,ih2,ih3⟩:=qag.mono_l k
 unfold qag.f
 repeat' first|(with_reducible exact ih0 _ _ _ _ _ _ _ _ _ _)|(with_reducible exact LeO.refl _)|(with_reducible refine LeO.ite ?_ ?_)
set_option maxHeartbeats 8000000 in
set_option maxRecDepth 100000 in
theorem qag.calls (k:Nat) (a0_0:Bool) (a0_1:Int) (A0_2:Option Addr) (c0_2:Nat) (l0_2:List (S60)) (a1:Int) (r:List Int) (w:World) (hr0_2:Kd.C k60 w A0_2 l0_2.length l0_2) (hc0_2:l0_2.length≤c0_2) (h:qag.f k a0_0 a0_1 l0_2 a1=some r) :
  Calls Tryd.prog 47 #[.agg #[.bool a0_0,.int .i64 a0_1,.slice A0_2 l0_2.length c0_2],.int .i64 a1] w fun e w'=>∃ v0_:Value,e=.returned (v0_)∧Kd.R (Kd.int .i64) 3 w' w.heap.size (fun _=>True) v0_ r∧Below w.heap.size w w':=by
 have hu24:=Tryd.underlying24
 have hu60:=Tryd.underlying60
 have HR0_2:=qaa.mk hr0_2
 have HC0_2:=qaa.mk hc0_2
 clear hr0_2 hc0_2
 have HB:=qaa.mk (Below.refl w.heap.size w)
 have H:(if 0≤a1 then (if a1<(l0_2.length:Int) then (if ((qar l0_2 a1).f1)=1 then (qag.j0 k ([]:List Int) true a0_0 a0_1 l0_2 ((qar l0_2 a1).f0) ((qar l0_2 a1).f1) ((qar l0_2 a1).f2) ((qar l0_2 a1).f3) ((qar l0_2 a1).f4)) else (qag.j0 k ([]:List Int) (((qar l0_2 a1).f1)==2) a0_0 a0_1 l0_2 ((qar l0_2 a1).f0) ((qar l0_2 a1).f1) ((qar l0_2 a1).f2) ((qar l0_2 a1).f3) ((qar l0_2 a1).f4))) else (none)) else (none))=some r:=h
 clear h
 by_cases c3:0≤a1
 ·rw [if_pos c3] at H
  have c3b0:decide (0≤a1)=true:=decide_eq_true c3
  clear c3
  by_cases c4:a1<(l0_2.length:Int)
  ·rw [if_pos c4] at H
   have c4b0:decide (a1<(l0_2.length:Int))=true:=decide_eq_true c4
   clear c4
   have HC5:=qaa.mk H
   clear H
   go_enter Tryd.func47,Tryd.ntmps47
   go_upto_region 3 with (first|((with_reducible refine qbf (N:=2) rfl ?_);(try (refine qcl (by rfl) ?_;dsimp only));refine qbr ?hg (N:=2) ?hd (cs:=#[.bool a0_0,.int .i64 a0_1,.slice A0_2 l0_2.length c0_2]) (t:=24) ?hr ?_;(case hd=>rfl);(case hg=>rfl);(case hr=>(go_simp;done));intro gb280 hg w6 hbox hb;have BK280:=qaa.mk (hbox);have GW280:=qaa.mk ((by rw [hg];exact (qac HB.out):w.heap.size≤gb280));have GE280:=qaa.mk ((by rw [hg];exact (qac HB.out):w.heap.size≤gb280));replace HB:=qaa.mk (qal HB.out hb);clear hb hbox hg;have hcz7_0:w6.cell? ⟨gb280,0,none⟩=some (.bool a0_0):=(qad BK280.out 0).trans rfl;have hcz7_1:w6.cell? ⟨gb280,1,none⟩=some (.int .i64 a0_1):=(qad BK280.out 1).trans rfl;have hcz7_2:w6.cell? ⟨gb280,2,none⟩=some (.slice A0_2 l0_2.length c0_2):=(qad BK280.out 2).trans rfl;have hfz7_0:=qaf BK280.out 0;have hfz7_1:=qaf BK280.out 1;have hfz7_2:=qaf BK280.out 2;have p281:0≤(a1:Int):=of_decide_eq_true (by (with_reducible assumption));have q281:a1<(l0_2.length:Int):=of_decide_eq_true (by (with_reducible assumption));obtain ⟨ad281,A281_0,c281_0,e281,hx281_0,hx281_1,hx281_2,hx281_3,hx281_4,hl281_0,hi281_0⟩:=at_T60 HR0_2.out a1 p281 q281;cases e281;replace hx281_0:=(HB.out.cell (World.block_lt_of_cell? w _ hx281_0)).trans hx281_0;replace hx281_1:=(HB.out.cell (World.block_lt_of_cell? w _ hx281_1)).trans hx281_1;replace hx281_2:=(HB.out.cell (World.block_lt_of_cell? w _ hx281_2)).trans hx281_2;replace hx281_3:=(HB.out.cell (World.block_lt_of_cell? w _ hx281_3)).trans hx281_3;replace hx281_4:=(HB.out.cell (World.block_lt_of_cell? w _ hx281_4)).trans hx281_4;have HR281_0:=qaa.mk hi281_0;have HC281_0:=qaa.mk hl281_0;clear hi281_0 hl281_0;replace p281:=eq_true p281;replace q281:=eq_true q281)|((with_reducible refine qbf (N:=6) rfl ?_);(try (refine qcl (by rfl) ?_;dsimp only));refine qbr ?hg (N:=6) ?hd (cs:=#[.slice none 0 0,.int .i64 0,.int .i64 0,.int .i64 0,.int .i64 0]) (t:=60) ?hr ?_;(case hd=>rfl);(case hg=>rfl);(case hr=>(go_simp;done));intro gb282 hg w8 hbox hb;have BK282:=qaa.mk (hbox);have GW282:=qaa.mk ((by rw [hg];exact (qac HB.out):w.heap.size≤gb282));have GE282:=qaa.mk ((by rw [hg];exact (qac HB.out):w.heap.size≤gb282));replace HB:=qaa.mk (qal HB.out hb);have NB280_282:=qaa.mk ((by rw [hg];exact Nat.ne_of_lt (qbn (g:=gb280) (o:=.cells #[.bool a0_0,.int .i64 a0_1,.slice (some ad281) l0_2.length c0_2] 24 (0,0)) (by (with_reducible repeat (refine qab ?_));exact BK280.out)):gb280≠gb282));have NB282_280:=qaa.mk ((by rw [hg];exact Nat.ne_of_gt (qbn (g:=gb280) (o:=.cells #[.bool a0_0,.int .i64 a0_1,.slice (some ad281) l0_2.length c0_2] 24 (0,0)) (by (with_reducible repeat (refine qab ?_));exact BK280.out)):gb282≠gb280));replace BK280:=qaa.mk (qah (g:=gb280) (o:=.cells #[.bool a0_0,.int .i64 a0_1,.slice (some ad281) l0_2.length c0_2] 24 (0,0)) (by (with_reducible repeat (refine qab ?_));exact BK280.out) hb);clear hb hbox hg;have hnb9:=NB282_280.out;have hnc9:=NB280_282.out;have hcz10_0:w8.cell? ⟨gb282,0,none⟩=some (.slice none 0 0):=(qad BK282.out 0).trans rfl;have hcz10_1:w8.cell? ⟨gb282,1,none⟩=some (.int .i64 0):=(qad BK282.out 1).trans rfl;have hcz10_2:w8.cell? ⟨gb282,2,none⟩=some (.int .i64 0):=(qad BK282.out 2).trans rfl;have hcz10_3:w8.cell? ⟨gb282,3,none⟩=some (.int .i64 0):=(qad BK282.out 3).trans rfl;have hcz10_4:w8.cell? ⟨gb282,4,none⟩=some (.int .i64 0):=(qad BK282.out 4).trans rfl;have hfz10_0:=qaf BK282.out 0;have hfz10_1:=qaf BK282.out 1;have hfz10_2:=qaf BK282.out 2;have hfz10_3:=qaf BK282.out 3;have hfz10_4:=qaf BK282.out 4))
   go_cut [22] (fun v22 wc=>∃ (kq:Nat) (x22_4:Bool),v22=.bool x22_4∧qaa (qag.j0 kq ([]:List Int) x22_4 a0_0 a0_1 l0_2 ((qar l0_2 a1).f0) ((qar l0_2 a1).f1) ((qar l0_2 a1).f2) ((qar l0_2 a1).f3) ((qar l0_2 a1).f4)=some r)∧qaa (kq≤k)∧qaa (Kd.R (Kd.int .i64) 3 wc w.heap.size (fun _=>True) (.slice none 0 0) ([]:List Int))∧qaa (wc.heap[gb280]?=some (.cells #[.bool a0_0,.int .i64 a0_1,(.slice (some ad281) l0_2.length c0_2)] 24 (0,0)))∧qaa (wc.heap[gb282]?=some (.cells #[(.slice A281_0 ((qar l0_2 a1).f0).length c281_0),.int .i64 ((qar l0_2 a1).f1),.int .i64 ((qar l0_2 a1).f2),.int .i64 ((qar l0_2 a1).f3),.int .i64 ((qar l0_2 a1).f4)] 60 (0,0)))∧qaa (Below w.heap.size w wc))
   case first=>
    have H:=HC5.out
    clear HC5
    by_cases c11:((qar l0_2 a1).f1)=1
    ·rw [if_pos c11] at H
     have c11b0:(((qar l0_2 a1).f1)==1)=true:=beq_iff_eq.mpr c11
     have c11b1:(((qar l0_2 a1).f1)!=1)=false:=bne_eq_false_iff_eq.mpr c11
     clear c11
     have H':=qaa.mk H
     clear H
     have hnb12:=NB282_280.out
     have hnc12:=NB280_282.out
     have hcz13_0:w8.cell? ⟨gb282,0,none⟩=some (.slice none 0 0):=(qad BK282.out 0).trans rfl
     have hcz13_1:w8.cell? ⟨gb282,1,none⟩=some (.int .i64 0):=(qad BK282.out 1).trans rfl
     have hcz13_2:w8.cell? ⟨gb282,2,none⟩=some (.int .i64 0):=(qad BK282.out 2).trans rfl
     have hcz13_3:w8.cell? ⟨gb282,3,none⟩=some (.int .i64 0):=(qad BK282.out 3).trans rfl
     have hcz13_4:w8.cell? ⟨gb282,4,none⟩=some (.int .i64 0):=(qad BK282.out 4).trans rfl
     have hfz13_0:=qaf BK282.out 0
     have hfz13_1:=qaf BK282.out 1
     have hfz13_2:=qaf BK282.out 2
     have hfz13_3:=qaf BK282.out 3
     have hfz13_4:=qaf BK282.out 4
     go_wp2
     go_meet
     case rel=>exact ⟨_,(true),(by rfl),H',⟨by omega⟩,⟨by exact Kd.R_nil _ _ _ _ _⟩,⟨by (with_reducible repeat (refine qab ?_));refine qcx ?_ NB280_282.out _;(with_reducible repeat (refine qab ?_));refine qcx ?_ NB280_282.out _;(with_reducible repeat (refine qab ?_));refine qcx ?_ NB280_282.out _;(with_reducible repeat (refine qab ?_));refine qcx ?_ NB280_282.out _;(with_reducible repeat (refine qab ?_));refine qcx ?_ NB280_282.out _;(with_reducible repeat (refine qab ?_));exact BK280.out⟩,⟨by (with_reducible repeat (refine qab ?_));refine qcs (cs:=#[.slice A281_0 ((qar l0_2 a1).f0).length c281_0,.int .i64 ((qar l0_2 a1).f1),.int .i64 ((qar l0_2 a1).f2),.int .i64 ((qar l0_2 a1).f3),.int .i64 0]) ?_ 4 _ rfl;(with_reducible repeat (refine qab ?_));refine qcs (cs:=#[.slice A281_0 ((qar l0_2 a1).f0).length c281_0,.int .i64 ((qar l0_2 a1).f1),.int .i64 ((qar l0_2 a1).f2),.int .i64 0,.int .i64 0]) ?_ 3 _ rfl;(with_reducible repeat (refine qab ?_));refine qcs (cs:=#[.slice A281_0 ((qar l0_2 a1).f0).length c281_0,.int .i64 ((qar l0_2 a1).f1),.int .i64 0,.int .i64 0,.int .i64 0]) ?_ 2 _ rfl;(with_reducible repeat (refine qab ?_));refine qcs (cs:=#[.slice A281_0 ((qar l0_2 a1).f0).length c281_0,.int .i64 0,.int .i64 0,.int .i64 0,.int .i64 0]) ?_ 1 _ rfl;(with_reducible repeat (refine qab ?_));refine qcs (cs:=#[.slice none 0 0,.int .i64 0,.int .i64 0,.int .i64 0,.int .i64 0]) ?_ 0 _ rfl;(with_reducible repeat (refine qab ?_));exact BK282.out⟩,⟨by repeat ((with_reducible first|exact HB.out|refine qbx ?_ GE282.out))⟩⟩
    ·rw [if_neg c11] at H
     have c11b0:(((qar l0_2 a1).f1)==1)=false:=beq_eq_false_iff_ne.mpr c11
     have c11b1:(((qar l0_2 a1).f1)!=1)=true:=bne_iff_ne.mpr c11
     have H':=qaa.mk H
     clear H
     have hnb14:=NB282_280.out
     have hnc14:=NB280_282.out
     have hcz15_0:w8.cell? ⟨gb282,0,none⟩=some (.slice none 0 0):=(qad BK282.out 0).trans rfl
     have hcz15_1:w8.cell? ⟨gb282,1,none⟩=some (.int .i64 0):=(qad BK282.out 1).trans rfl
     have hcz15_2:w8.cell? ⟨gb282,2,none⟩=some (.int .i64 0):=(qad BK282.out 2).trans rfl
     have hcz15_3:w8.cell? ⟨gb282,3,none⟩=some (.int .i64 0):=(qad BK282.out 3).trans rfl
     have hcz15_4:w8.cell? ⟨gb282,4,none⟩=some (.int .i64 0):=(qad BK282.out 4).trans rfl
     have hfz15_0:=qaf BK282.out 0
     have hfz15_1:=qaf BK282.out 1
     have hfz15_2:=qaf BK282.out 2
     have hfz15_3:=qaf BK282.out 3
     have hfz15_4:=qaf BK282.out 4
     go_wp2
     go_meet
     case rel=>exact ⟨_,((((qar l0_2 a1).f1)==2)),(by rfl),H',⟨by omega⟩,⟨by exact Kd.R_nil _ _ _ _ _⟩,⟨by (with_reducible repeat (refine qab ?_));refine qcx ?_ NB280_282.out _;(with_reducible repeat (refine qab ?_));refine qcx ?_ NB280_282.out _;(with_reducible repeat (refine qab ?_));refine qcx ?_ NB280_282.out _;(with_reducible repeat (refine qab ?_));refine qcx ?_ NB280_282.out _;(with_reducible repeat (refine qab ?_));refine qcx ?_ NB280_282.out _;(with_reducible repeat (refine qab ?_));exact BK280.out⟩,⟨by (with_reducible repeat (refine qab ?_));refine qcs (cs:=#[.slice A281_0 ((qar l0_2 a1).f0).length c281_0,.int .i64 ((qar l0_2 a1).f1),.int .i64 ((qar l0_2 a1).f2),.int .i64 ((qar l0_2 a1).f3),.int .i64 0]) ?_ 4 _ rfl;(with_reducible repeat (refine qab ?_));refine qcs (cs:=#[.slice A281_0 ((qar l0_2 a1).f0).length c281_0,.int .i64 ((qar l0_2 a1).f1),.int .i64 ((qar l0_2 a1).f2),.int .i64 0,.int .i64 0]) ?_ 3 _ rfl;(with_reducible repeat (refine qab ?_));refine qcs (cs:=#[.slice A281_0 ((qar l0_2 a1).f0).length c281_0,.int .i64 ((qar l0_2 a1).f1),.int .i64 0,.int .i64 0,.int .i64 0]) ?_ 2 _ rfl;(with_reducible repeat (refine qab ?_));refine qcs (cs:=#[.slice A281_0 ((qar l0_2 a1).f0).length c281_0,.int .i64 0,.int .i64 0,.int .i64 0,.int .i64 0]) ?_ 1 _ rfl;(with_reducible repeat (refine qab ?_));refine qcs (cs:=#[.slice none 0 0,.int .i64 0,.int .i64 0,.int .i64 0,.int .i64 0]) ?_ 0 _ rfl;(with_reducible repeat (refine qab ?_));exact BK282.out⟩,⟨by repeat ((with_reducible first|exact HB.out|refine qbx ?_ GE282.out))⟩⟩
   case rest=>
    clear HC5
    try clear c3b0
    try clear c4b0
    try clear hcz10_0
    try clear hcz10_1
    try clear hcz10_2
    try clear hcz10_3
    try clear hcz10_4
    try clear hcz7_0
    try clear hcz7_1
    try clear hcz7_2
    try clear hfz10_0
    try clear hfz10_1
    try clear hfz10_2
    try clear hfz10_3
    try clear hfz10_4
    try clear hfz7_0
    try clear hfz7_1
    try clear hfz7_2
    try clear hx281_0
    try clear hx281_1
    try clear hx281_2
    try clear hx281_3
    try clear hx281_4
    try clear p281
    try clear q281
    obtain ⟨kq,x22_4,rfl,HA,HJ4,HO_5,BK280,BK282,HB⟩:=hcut
    cases kq with
    | zero=>exact absurd HA.out (by simp [qag.j0])
    | succ kj4=>
     have H:=HA.out
     clear HA
     simp only [qag.j0] at H
     have HC16:=qaa.mk H
     clear H
     go_upto_if 22 with (fail)
     go_cut [5] (fun v5 wc=>∃ (kq:Nat) (x5_15:List Int),qaa (qag.j1 kq x5_15 a0_0 a0_1 l0_2 ((qar l0_2 a1).f0) ((qar l0_2 a1).f1) ((qar l0_2 a1).f2) ((qar l0_2 a1).f3) ((qar l0_2 a1).f4)=some r)∧qaa (kq≤kj4)∧qaa (Kd.R (Kd.int .i64) 3 wc w.heap.size (fun _=>True) v5 x5_15)∧qaa (wc.heap[gb280]?=some (.cells #[.bool a0_0,.int .i64 a0_1,(.slice (some ad281) l0_2.length c0_2)] 24 (0,0)))∧qaa (wc.heap[gb282]?=some (.cells #[(.slice A281_0 ((qar l0_2 a1).f0).length c281_0),.int .i64 ((qar l0_2 a1).f1),.int .i64 ((qar l0_2 a1).f2),.int .i64 ((qar l0_2 a1).f3),.int .i64 ((qar l0_2 a1).f4)] 60 (0,0)))∧qaa (Below w.heap.size w wc))
     case first=>
      have H:=HC16.out
      clear HC16
      by_cases c17:x22_4=true
      ·subst c17
       have H1:(if ([]:List Int).length<17592186044416 then (qag.j1 kj4 (([]:List Int)++[((qar l0_2 a1).f3)]) a0_0 a0_1 l0_2 ((qar l0_2 a1).f0) ((qar l0_2 a1).f1) ((qar l0_2 a1).f2) ((qar l0_2 a1).f3) ((qar l0_2 a1).f4)) else (none))=some r:=by rw [if_pos rfl] at H;exact H
       clear H
       have H:=H1
       clear H1
       by_cases c18:([]:List Int).length<17592186044416
       ·rw [if_pos c18] at H
        have LMc18:=qaa.mk c18
        clear c18
        obtain ⟨y283,hy283⟩:∃ y_:List Int,y_=(([]:List Int)++[((qar l0_2 a1).f3)]):=⟨_,rfl⟩
        replace H:(qag.j1 kj4 y283 a0_0 a0_1 l0_2 ((qar l0_2 a1).f0) ((qar l0_2 a1).f1) ((qar l0_2 a1).f2) ((qar l0_2 a1).f3) ((qar l0_2 a1).f4))=some r:=by (rw [hy283];with_reducible exact H)
        have Ny283:=qaa.mk hy283
        clear hy283
        have H':=qaa.mk H
        clear H
        have hnb19:=NB282_280.out
        have hnc19:=NB280_282.out
        have hcz20_0:wc.cell? ⟨gb282,0,none⟩=some (.slice A281_0 ((qar l0_2 a1).f0).length c281_0):=(qad BK282.out 0).trans rfl
        have hcz20_1:wc.cell? ⟨gb282,1,none⟩=some (.int .i64 ((qar l0_2 a1).f1)):=(qad BK282.out 1).trans rfl
        have hcz20_2:wc.cell? ⟨gb282,2,none⟩=some (.int .i64 ((qar l0_2 a1).f2)):=(qad BK282.out 2).trans rfl
        have hcz20_3:wc.cell? ⟨gb282,3,none⟩=some (.int .i64 ((qar l0_2 a1).f3)):=(qad BK282.out 3).trans rfl
        have hcz20_4:wc.cell? ⟨gb282,4,none⟩=some (.int .i64 ((qar l0_2 a1).f4)):=(qad BK282.out 4).trans rfl
        have hfz20_0:=qaf BK282.out 0
        have hfz20_1:=qaf BK282.out 1
        have hfz20_2:=qaf BK282.out 2
        have hfz20_3:=qaf BK282.out 3
        have hfz20_4:=qaf BK282.out 4
        go_wp2_with (((with_reducible refine qdf (b:=.append) (xs:=#[.tmp 23,.tmp 26]) rfl ?_);(try (refine qcl (by rfl) ?_;dsimp only));at_builtin;refine Kd.R_append (Kd.int .i64) (w0:=w) w.heap.size rfl (.tmp 23) (.tmp 26) 31 3 (.int .i64 0) 8 rfl Tryd.underlying31 qfe rfl (by decide) (by omega) (.slice none 0 0) ([]:List Int) ((qar l0_2 a1).f3) [.int .i64 ((qar l0_2 a1).f3)] (fun _=>True) (fun _=>False) rfl rfl ?aP (fun _ hk=>hk.elim) ?aF ?aO ?aB ?aS ?aL ?_;(case aP=>exact rfl);(case aB=>exact HB.out);(case aF=>exact (fun _ _=>trivial));(case aO=>exact (by (with_reducible repeat (apply Kd.R_drew));exact HO_5.out));(case aS=>exact (qac HB.out));(case aL=>have:=LMc18.out;omega);intro v284 w21 ho hb hg hat;rw [← Ny283.out] at ho;have n0_:=qaa.mk (qdp (g:=gb280) (o:=.cells #[.bool a0_0,.int .i64 a0_1,.slice (some ad281) l0_2.length c0_2] 24 (0,0)) (by (with_reducible repeat (refine qab ?_));exact BK280.out) hg (Kd.R_ne HO_5.out BK280.out (by decide)));have n1_:=qaa.mk (qdp (g:=gb282) (o:=.cells #[.slice A281_0 ((qar l0_2 a1).f0).length c281_0,.int .i64 ((qar l0_2 a1).f1),.int .i64 ((qar l0_2 a1).f2),.int .i64 ((qar l0_2 a1).f3),.int .i64 ((qar l0_2 a1).f4)] 60 (0,0)) (by (with_reducible repeat (refine qab ?_));exact BK282.out) hg (Kd.R_ne HO_5.out BK282.out (by decide)));have n2_:=qaa.mk (hb);have n3_:=qaa.mk (ho);clear BK280;clear BK282;clear HB;clear HO_5;have BK280:=n0_;have BK282:=n1_;have HB:=n2_;have HO285:=n3_;clear n0_ n1_ n2_ n3_;clear ho hb hg hat))
        go_meet
        case rel=>exact ⟨_,(y283),H',⟨by have:=HJ4.out;omega⟩,⟨by (with_reducible repeat (apply Kd.R_drew));exact HO285.out⟩,⟨by (with_reducible repeat (refine qab ?_));exact BK280.out⟩,⟨by (with_reducible repeat (refine qab ?_));exact BK282.out⟩,⟨by repeat ((with_reducible exact HB.out))⟩⟩
       ·rw [if_neg c18] at H
        exact absurd H (by simp)
      ·replace c17:=Bool.eq_false_iff.mpr c17
       subst c17
       have H1:(qag.j1 kj4 ([]:List Int) a0_0 a0_1 l0_2 ((qar l0_2 a1).f0) ((qar l0_2 a1).f1) ((qar l0_2 a1).f2) ((qar l0_2 a1).f3) ((qar l0_2 a1).f4))=some r:=by rw [if_neg (show ¬ (false=true) by decide)] at H;exact H
       clear H
       have H:=H1
       clear H1
       have H':=qaa.mk H
       clear H
       go_wp2
       go_meet
       case rel=>exact ⟨_,(([]:List Int)),H',⟨by have:=HJ4.out;omega⟩,⟨by (with_reducible repeat (apply Kd.R_drew));exact HO_5.out⟩,⟨by (with_reducible repeat (refine qab ?_));exact BK280.out⟩,⟨by (with_reducible repeat (refine qab ?_));exact BK282.out⟩,⟨by repeat ((with_reducible exact HB.out))⟩⟩
     case rest=>
      clear HC16
      obtain ⟨kq,x5_15,HA,HJ15,HO_5,BK280,BK282,HB⟩:=hcut
      cases kq with
      | zero=>exact absurd HA.out (by simp [qag.j1])
      | succ kj15=>
       have H:=HA.out
       clear HA
       simp only [qag.j1] at H
       have HC22:=qaa.mk H
       clear H
       have hnb23:=NB282_280.out
       have hnc23:=NB280_282.out
       have hcz24_0:wc.cell? ⟨gb282,0,none⟩=some (.slice A281_0 ((qar l0_2 a1).f0).length c281_0):=(qad BK282.out 0).trans rfl
       have hcz24_1:wc.cell? ⟨gb282,1,none⟩=some (.int .i64 ((qar l0_2 a1).f1)):=(qad BK282.out 1).trans rfl
       have hcz24_2:wc.cell? ⟨gb282,2,none⟩=some (.int .i64 ((qar l0_2 a1).f2)):=(qad BK282.out 2).trans rfl
       have hcz24_3:wc.cell? ⟨gb282,3,none⟩=some (.int .i64 ((qar l0_2 a1).f3)):=(qad BK282.out 3).trans rfl
       have hcz24_4:wc.cell? ⟨gb282,4,none⟩=some (.int .i64 ((qar l0_2 a1).f4)):=(qad BK282.out 4).trans rfl
       have hfz24_0:=qaf BK282.out 0
       have hfz24_1:=qaf BK282.out 1
       have hfz24_2:=qaf BK282.out 2
       have hfz24_3:=qaf BK282.out 3
       have hfz24_4:=qaf BK282.out 4
       go_upto_if 30 with (fail)
       go_cut [5] (fun v5 wc=>∃ (kq:Nat) (x5_21:List Int),qaa (qag.j2 kq x5_21 a0_0 a0_1 l0_2=some r)∧qaa (kq≤kj15)∧qaa (Kd.R (Kd.int .i64) 3 wc w.heap.size (fun _=>True) v5 x5_21)∧qaa (wc.heap[gb280]?=some (.cells #[.bool a0_0,.int .i64 a0_1,(.slice (some ad281) l0_2.length c0_2)] 24 (0,0)))∧qaa (wc.heap[gb282]?=some (.cells #[(.slice A281_0 ((qar l0_2 a1).f0).length c281_0),.int .i64 ((qar l0_2 a1).f1),.int .i64 ((qar l0_2 a1).f2),.int .i64 ((qar l0_2 a1).f3),.int .i64 ((qar l0_2 a1).f4)] 60 (0,0)))∧qaa (Below w.heap.size w wc))
       case first=>
        have H:=HC22.out
        clear HC22
        by_cases c25:((qar l0_2 a1).f1)=2
        ·rw [if_pos c25] at H
         have c25b0:(((qar l0_2 a1).f1)==2)=true:=beq_iff_eq.mpr c25
         have c25b1:(((qar l0_2 a1).f1)!=2)=false:=bne_eq_false_iff_eq.mpr c25
         clear c25
         (rw [c25b0])
         by_cases c26:x5_15.length<17592186044416
         ·rw [if_pos c26] at H
          have LMc26:=qaa.mk c26
          clear c26
          obtain ⟨y286,hy286⟩:∃ y_:List Int,y_=(x5_15++[((qar l0_2 a1).f4)]):=⟨_,rfl⟩
          replace H:(qag.j2 kj15 y286 a0_0 a0_1 l0_2)=some r:=by (rw [hy286];with_reducible exact H)
          have Ny286:=qaa.mk hy286
          clear hy286
          have H':=qaa.mk H
          clear H
          have hnb27:=NB282_280.out
          have hnc27:=NB280_282.out
          have hcz28_0:wc.cell? ⟨gb282,0,none⟩=some (.slice A281_0 ((qar l0_2 a1).f0).length c281_0):=(qad BK282.out 0).trans rfl
          have hcz28_1:wc.cell? ⟨gb282,1,none⟩=some (.int .i64 ((qar l0_2 a1).f1)):=(qad BK282.out 1).trans rfl
          have hcz28_2:wc.cell? ⟨gb282,2,none⟩=some (.int .i64 ((qar l0_2 a1).f2)):=(qad BK282.out 2).trans rfl
          have hcz28_3:wc.cell? ⟨gb282,3,none⟩=some (.int .i64 ((qar l0_2 a1).f3)):=(qad BK282.out 3).trans rfl
          have hcz28_4:wc.cell? ⟨gb282,4,none⟩=some (.int .i64 ((qar l0_2 a1).f4)):=(qad BK282.out 4).trans rfl
          have hfz28_0:=qaf BK282.out 0
          have hfz28_1:=qaf BK282.out 1
          have hfz28_2:=qaf BK282.out 2
          have hfz28_3:=qaf BK282.out 3
          have hfz28_4:=qaf BK282.out 4
          go_wp2_with (((with_reducible refine qdf (b:=.append) (xs:=#[.tmp 31,.tmp 34]) rfl ?_);(try (refine qcl (by rfl) ?_;dsimp only));at_builtin;refine Kd.R_append (Kd.int .i64) (w0:=w) w.heap.size rfl (.tmp 31) (.tmp 34) 31 3 (.int .i64 0) 8 rfl Tryd.underlying31 qfe rfl (by decide) (by omega) u5 x5_15 ((qar l0_2 a1).f4) [.int .i64 ((qar l0_2 a1).f4)] (fun _=>True) (fun _=>False) rfl rfl ?aP (fun _ hk=>hk.elim) ?aF ?aO ?aB ?aS ?aL ?_;(case aP=>exact rfl);(case aB=>exact HB.out);(case aF=>exact (fun _ _=>trivial));(case aO=>exact (by (with_reducible repeat (apply Kd.R_drew));exact HO_5.out));(case aS=>exact (qac HB.out));(case aL=>have:=LMc26.out;omega);intro v287 w29 ho hb hg hat;rw [← Ny286.out] at ho;have n0_:=qaa.mk (qdp (g:=gb280) (o:=.cells #[.bool a0_0,.int .i64 a0_1,.slice (some ad281) l0_2.length c0_2] 24 (0,0)) (by (with_reducible repeat (refine qab ?_));exact BK280.out) hg (Kd.R_ne HO_5.out BK280.out (by decide)));have n1_:=qaa.mk (qdp (g:=gb282) (o:=.cells #[.slice A281_0 ((qar l0_2 a1).f0).length c281_0,.int .i64 ((qar l0_2 a1).f1),.int .i64 ((qar l0_2 a1).f2),.int .i64 ((qar l0_2 a1).f3),.int .i64 ((qar l0_2 a1).f4)] 60 (0,0)) (by (with_reducible repeat (refine qab ?_));exact BK282.out) hg (Kd.R_ne HO_5.out BK282.out (by decide)));have n2_:=qaa.mk (hb);have n3_:=qaa.mk (ho);clear BK280;clear BK282;clear HB;clear HO_5;have BK280:=n0_;have BK282:=n1_;have HB:=n2_;have HO288:=n3_;clear n0_ n1_ n2_ n3_;clear ho hb hg hat))
          go_meet
          case rel=>exact ⟨_,(y286),H',⟨by have:=HJ4.out;have:=HJ15.out;omega⟩,⟨by (with_reducible repeat (apply Kd.R_drew));exact HO288.out⟩,⟨by (with_reducible repeat (refine qab ?_));exact BK280.out⟩,⟨by (with_reducible repeat (refine qab ?_));exact BK282.out⟩,⟨by repeat ((with_reducible exact HB.out))⟩⟩
         ·rw [if_neg c26] at H
          exact absurd H (by simp)
        ·rw [if_neg c25] at H
         have c25b0:(((qar l0_2 a1).f1)==2)=false:=beq_eq_false_iff_ne.mpr c25
         have c25b1:(((qar l0_2 a1).f1)!=2)=true:=bne_iff_ne.mpr c25
         (rw [c25b0])
         have H':=qaa.mk H
         clear H
         go_wp2
         go_meet
         case rel=>exact ⟨_,(x5_15),H',⟨by have:=HJ4.out;have:=HJ15.out;omega⟩,⟨by (with_reducible repeat (apply Kd.R_drew));exact HO_5.out⟩,⟨by (with_reducible repeat (refine qab ?_));exact BK280.out⟩,⟨by (with_reducible repeat (refine qab ?_));exact BK282.out⟩,⟨by repeat ((with_reducible exact HB.out))⟩⟩
       case rest=>
        clear HC22
        try clear hcz24_0
        try clear hcz24_1
        try clear hcz24_2
        try clear hcz24_3
        try clear hcz24_4
        try clear hfz24_0
        try clear hfz24_1
        try clear hfz24_2
        try clear hfz24_3
        try clear hfz24_4
        obtain ⟨kq,x5_21,HA,HJ21,HO_5,BK280,BK282,HB⟩:=hcut
        cases kq with
        | zero=>exact absurd HA.out (by simp [qag.j2])
        | succ kj21=>
         have H:=HA.out
         clear HA
         simp only [qag.j2] at H
         have H':=qaa.mk H
         clear H
         obtain ⟨Ao30,co30,eo30⟩:=Kd.R_slice HO_5.out
         subst eo30
         go_wp2
         go_loopg [7,38] kj21 (fun kq v7 v38 w'=>∃ (x7_4:List Int) (x38_4:Int),v38=.int .i64 x38_4∧qaa (qag.l0 kq x7_4 x5_21 (x5_21.length:Int) x38_4 a0_0 a0_1 l0_2=some r)∧qaa (kq≤kj21)∧qaa (Kd.R (Kd.int .i64) 3 w' w.heap.size (fun k_=>some k_≠((.slice Ao30 x5_21.length co30):Value).ownBlock) v7 x7_4)∧qaa (Kd.R (Kd.int .i64) 3 w' w.heap.size (fun k_=>some k_≠(v7:Value).ownBlock) (.slice Ao30 x5_21.length co30) x5_21)∧qaa (w'.heap[gb280]?=some (.cells #[.bool a0_0,.int .i64 a0_1,(.slice (some ad281) l0_2.length c0_2)] 24 (0,0)))∧qaa (w'.heap[gb282]?=some (.cells #[(.slice A281_0 ((qar l0_2 a1).f0).length c281_0),.int .i64 ((qar l0_2 a1).f1),.int .i64 ((qar l0_2 a1).f2),.int .i64 ((qar l0_2 a1).f3),.int .i64 ((qar l0_2 a1).f4)] 60 (0,0)))∧qaa (Below w.heap.size w w'))
         case atStart=>exact ⟨(([]:List Int)),(0),(by rfl),H',⟨Nat.le_refl _⟩,⟨by exact Kd.R_nil _ _ _ _ _⟩,⟨by (with_reducible repeat (apply Kd.R_drew));exact Kd.R_mono HO_5.out (fun _ hk=>(by simp [Value.ownBlock]))⟩,⟨by (with_reducible repeat (refine qab ?_));exact BK280.out⟩,⟨by (with_reducible repeat (refine qab ?_));exact BK282.out⟩,⟨by repeat ((with_reducible exact HB.out))⟩⟩
         case round=>
          clear H'
          obtain ⟨x7_4,x38_4,rfl,HA,HK4,HO_7,HO_36,BK280,BK282,HB⟩:=hrel
          cases gk with
          | zero=>exact absurd HA.out (by simp [qag.l0])
          | succ k4=>
           have H:=HA.out
           clear HA
           simp only [qag.l0] at H
           by_cases c31:x38_4<(x5_21.length:Int)
           ·rw [if_pos c31] at H
            have c31b0:decide (x38_4<(x5_21.length:Int))=true:=decide_eq_true c31
            clear c31
            by_cases c32:0≤x38_4
            ·rw [if_pos c32] at H
             have c32b0:decide (0≤x38_4)=true:=decide_eq_true c32
             clear c32
             by_cases c33:x38_4<(x5_21.length:Int)
             ·rw [if_pos c33] at H
              have c33b0:decide (x38_4<(x5_21.length:Int))=true:=decide_eq_true c33
              clear c33
              by_cases c34:(rd x5_21 x38_4)≥0
              ·rw [if_pos c34] at H
               have c34b0:decide (0≤(rd x5_21 x38_4))=true:=decide_eq_true c34
               clear c34
               by_cases c35:(rd x5_21 x38_4)<(l0_2.length:Int)
               ·rw [if_pos c35] at H
                have c35b0:decide ((rd x5_21 x38_4)<(l0_2.length:Int))=true:=decide_eq_true c35
                clear c35
                by_cases c36:x7_4.length<17592186044416
                ·rw [if_pos c36] at H
                 have LMc36:=qaa.mk c36
                 clear c36
                 obtain ⟨y290,hy290⟩:∃ y_:List Int,y_=(x7_4++[rd x5_21 x38_4]):=⟨_,rfl⟩
                 replace H:(qag.l0 k4 y290 x5_21 (x5_21.length:Int) (wrap64 (x38_4+1)) a0_0 a0_1 l0_2)=some r:=by (rw [hy290];with_reducible exact H)
                 have Ny290:=qaa.mk hy290
                 clear hy290
                 have H':=qaa.mk H
                 clear H
                 have p289:0≤(x38_4:Int):=of_decide_eq_true (by (with_reducible assumption))
                 have q289:x38_4<(x5_21.length:Int):=of_decide_eq_true (by (with_reducible assumption))
                 obtain ⟨ad289,e289,hx289_0⟩:=Kd.at_int (Kd.R_reads' HO_36.out).2.2 x38_4 p289 q289
                 cases e289
                 replace p289:=eq_true p289
                 replace q289:=eq_true q289
                 have hnb37:=NB280_282.out
                 have hnc37:=NB282_280.out
                 have hcz38_0:wr.cell? ⟨gb280,0,none⟩=some (.bool a0_0):=(qad BK280.out 0).trans rfl
                 have hcz38_1:wr.cell? ⟨gb280,1,none⟩=some (.int .i64 a0_1):=(qad BK280.out 1).trans rfl
                 have hcz38_2:wr.cell? ⟨gb280,2,none⟩=some (.slice (some ad281) l0_2.length c0_2):=(qad BK280.out 2).trans rfl
                 have hfz38_0:=qaf BK280.out 0
                 have hfz38_1:=qaf BK280.out 1
                 have hfz38_2:=qaf BK280.out 2
                 go_wp2_with (((with_reducible refine qdf (b:=.append) (xs:=#[.tmp 51,.tmp 53]) rfl ?_);(try (refine qcl (by rfl) ?_;dsimp only));at_builtin;refine Kd.R_append (Kd.int .i64) (w0:=w) w.heap.size rfl (.tmp 51) (.tmp 53) 31 3 (.int .i64 0) 8 rfl Tryd.underlying31 qfe rfl (by decide) (by omega) u7 x7_4 (rd x5_21 x38_4) [.int .i64 (rd x5_21 x38_4)] (fun k_=>some k_≠(.slice (some ad289) x5_21.length co30:Value).ownBlock) (fun _=>False) rfl rfl ?aP (fun _ hk=>hk.elim) ?aF ?aO ?aB ?aS ?aL ?_;(case aP=>exact rfl);(case aB=>exact HB.out);(case aF=>exact (fun k_ hk=>Kd.fresh' (Kd.R_lt (by (with_reducible repeat (apply Kd.R_drew));exact HO_36.out)) k_ hk));(case aO=>exact (by (with_reducible repeat (apply Kd.R_drew));exact HO_7.out));(case aS=>exact (qac HB.out));(case aL=>have:=LMc36.out;omega);intro v291 w39 ho hb hg hat;rw [← Ny290.out] at ho;have n0_:=qaa.mk (Kd.R_after (ok:=(fun _=>True)) (by (with_reducible repeat (apply Kd.R_drew));exact Kd.R_mono HO_36.out (fun _ hk=>⟨trivial,hk⟩)) hg hat);have n1_:=qaa.mk (qdp (g:=gb280) (o:=.cells #[.bool a0_0,.int .i64 a0_1,.slice (some ad281) l0_2.length c0_2] 24 (0,0)) (by (with_reducible repeat (refine qab ?_));exact BK280.out) hg (Kd.R_ne HO_7.out BK280.out (by decide)));have n2_:=qaa.mk (qdp (g:=gb282) (o:=.cells #[.slice A281_0 ((qar l0_2 a1).f0).length c281_0,.int .i64 ((qar l0_2 a1).f1),.int .i64 ((qar l0_2 a1).f2),.int .i64 ((qar l0_2 a1).f3),.int .i64 ((qar l0_2 a1).f4)] 60 (0,0)) (by (with_reducible repeat (refine qab ?_));exact BK282.out) hg (Kd.R_ne HO_7.out BK282.out (by decide)));have n3_:=qaa.mk (hb);have n4_:=qaa.mk (ho);clear HO_36;clear BK280;clear BK282;clear HB;clear HO_7;have HO_36:=n0_;have BK280:=n1_;have BK282:=n2_;have HB:=n3_;have HO292:=n4_;clear n0_ n1_ n2_ n3_ n4_;clear ho hb hg hat))
                 go_roundg k4
                 case measure=>have:=HJ4.out;have:=HJ15.out;have:=HJ21.out;have:=HK4.out;omega
                 case rel=>exact ⟨(y290),(wrap64 (x38_4+1)),(by rfl),H',⟨by have:=HJ4.out;have:=HJ15.out;have:=HJ21.out;have:=HK4.out;omega⟩,⟨by (with_reducible repeat (apply Kd.R_drew));exact HO292.out⟩,⟨by (with_reducible repeat (apply Kd.R_drew));exact Kd.R_mono HO_36.out (fun _ hk=>hk.2)⟩,⟨by (with_reducible repeat (refine qab ?_));exact BK280.out⟩,⟨by (with_reducible repeat (refine qab ?_));exact BK282.out⟩,⟨by repeat ((with_reducible exact HB.out))⟩⟩
                ·rw [if_neg c36] at H
                 exact absurd H (by simp)
               ·rw [if_neg c35] at H
                have c35b0:decide ((rd x5_21 x38_4)<(l0_2.length:Int))=false:=decide_eq_false c35
                clear c35
                have H':=qaa.mk H
                clear H
                have p289:0≤(x38_4:Int):=of_decide_eq_true (by (with_reducible assumption))
                have q289:x38_4<(x5_21.length:Int):=of_decide_eq_true (by (with_reducible assumption))
                obtain ⟨ad289,e289,hx289_0⟩:=Kd.at_int (Kd.R_reads' HO_36.out).2.2 x38_4 p289 q289
                cases e289
                replace p289:=eq_true p289
                replace q289:=eq_true q289
                have hnb40:=NB280_282.out
                have hnc40:=NB282_280.out
                have hcz41_0:wr.cell? ⟨gb280,0,none⟩=some (.bool a0_0):=(qad BK280.out 0).trans rfl
                have hcz41_1:wr.cell? ⟨gb280,1,none⟩=some (.int .i64 a0_1):=(qad BK280.out 1).trans rfl
                have hcz41_2:wr.cell? ⟨gb280,2,none⟩=some (.slice (some ad281) l0_2.length c0_2):=(qad BK280.out 2).trans rfl
                have hfz41_0:=qaf BK280.out 0
                have hfz41_1:=qaf BK280.out 1
                have hfz41_2:=qaf BK280.out 2
                go_wp2
                go_roundg k4
                case measure=>have:=HJ4.out;have:=HJ15.out;have:=HJ21.out;have:=HK4.out;omega
                case rel=>exact ⟨(x7_4),(wrap64 (x38_4+1)),(by rfl),H',⟨by have:=HJ4.out;have:=HJ15.out;have:=HJ21.out;have:=HK4.out;omega⟩,⟨by (with_reducible repeat (apply Kd.R_drew));exact HO_7.out⟩,⟨by (with_reducible repeat (apply Kd.R_drew));exact HO_36.out⟩,⟨by (with_reducible repeat (refine qab ?_));exact BK280.out⟩,⟨by (with_reducible repeat (refine qab ?_));exact BK282.out⟩,⟨by repeat ((with_reducible exact HB.out))⟩⟩
              ·rw [if_neg c34] at H
               have c34b0:decide (0≤(rd x5_21 x38_4))=false:=decide_eq_false c34
               clear c34
               have H':=qaa.mk H
               clear H
               have p289:0≤(x38_4:Int):=of_decide_eq_true (by (with_reducible assumption))
               have q289:x38_4<(x5_21.length:Int):=of_decide_eq_true (by (with_reducible assumption))
               obtain ⟨ad289,e289,hx289_0⟩:=Kd.at_int (Kd.R_reads' HO_36.out).2.2 x38_4 p289 q289
               cases e289
               replace p289:=eq_true p289
               replace q289:=eq_true q289
               go_wp2
               go_roundg k4
               case measure=>have:=HJ4.out;have:=HJ15.out;have:=HJ21.out;have:=HK4.out;omega
               case rel=>exact ⟨(x7_4),(wrap64 (x38_4+1)),(by rfl),H',⟨by have:=HJ4.out;have:=HJ15.out;have:=HJ21.out;have:=HK4.out;omega⟩,⟨by (with_reducible repeat (apply Kd.R_drew));exact HO_7.out⟩,⟨by (with_reducible repeat (apply Kd.R_drew));exact HO_36.out⟩,⟨by (with_reducible repeat (refine qab ?_));exact BK280.out⟩,⟨by (with_reducible repeat (refine qab ?_));exact BK282.out⟩,⟨by repeat ((with_reducible exact HB.out))⟩⟩
             ·rw [if_neg c33] at H
              exact absurd H (by simp)
            ·rw [if_neg c32] at H
             exact absurd H (by simp)
           ·rw [if_neg c31] at H
            have c31b0:decide (x38_4<(x5_21.length:Int))=false:=decide_eq_false c31
            clear c31
            obtain rfl:=Option.some.inj H
            go_wp2
            go_ret
            exact ⟨_,by rfl,by (with_reducible repeat (apply Kd.R_drew));exact Kd.R_mono HO_7.out (fun _ hk=>trivial),by repeat ((with_reducible exact HB.out))⟩
  ·rw [if_neg c4] at H
   exact absurd H (by simp)
 ·rw [if_neg c3] at H
  exact absurd H (by simp)
end Go.Proofs.YtmfjmbcfaamebaaDoor.X
