/- Parts of the proof of the law CFGDominators: words, walks of single functions and plain laws, joined by a program out of the session's texts. -/
import Derived.Test.YtmfjmbcfaamebaaDoorCFGDominators4
set_option linter.unusedVariables false
set_option linter.unusedSimpArgs false
namespace Go.Proofs.YtmfjmbcfaamebaaDoor.X
open Go.RowKit Go.Proofs.YtmfjmbcfaamebaaDoorW.PrintWords Go.Proofs.YtmfjmbcfaamebaaDoorW.PrintLast Go.Proofs.YtmfjmbcfaamebaaDoorW.PrintMore
attribute [local go_sem] qbs qcb
set_option linter.unusedVariables false
set_option linter.unusedSimpArgs false
open Go.Shelf
attribute [local go_sem] Oper.semAt_some
def qfr (n:Nat) (s:List Bool) (x:Int):List Bool:=if 0≤x∧x<n then s.set x.toNat true else s
def marks (n:Nat) (xs:List Int):List Bool:=xs.foldl (qfr n) (List.replicate n false)
theorem marks_snoc (n:Nat) (xs:List Int) (x:Int):marks n (xs++[x])=qfr n (marks n xs) x:=by simp [marks]
def qcp.f (k:Nat) (a0_0:Bool) (a0_1:Int) (l0_2:List S60) (a1:Int) (l2_0:List Int):Option (List Int):=
 if 0≤a1∧a1<(l0_2.length:Int) then
  (qbz.f l2_0 a1).bind fun t=>if t=true then some [] else
   if setOk l2_0=true∧l0_2.length≤17592186044416 then (qat.f k a0_0 a0_1 l0_2 a1 (marks l0_2.length (els l2_0)) []).bind fun o=>qax.f k o.1 else none
 else some []
theorem qcp.mono:∀ a0 a1 a2 a3 a4 k,LeO (qcp.f k a0 a1 a2 a3 a4) (qcp.f (k+1) a0 a1 a2 a3 a4):=by
 intro a0 a1 a2 a3 a4 k
 unfold qcp.f
 refine LeO.ite ?_ (LeO.refl _)
 refine LeO.bind (LeO.refl _) (fun _=>?_)
 refine LeO.ite (LeO.refl _) (LeO.ite ?_ (LeO.refl _))
 exact LeO.bind (qat.mono _ _ _ _ _ _ _) (fun _=>qax.mono _ _)
set_option maxRecDepth 100000 in
set_option maxHeartbeats 4000000 in
theorem qcp.calls (k:Nat) (a0_0:Bool) (a0_1:Int) (A0_2:Option Addr) (c0_2:Nat) (l0_2:List (S60)) (a1:Int) (A2_0:Option Addr) (c2_0:Nat) (l2_0:List Int) (r:List Int) (w:World) (hT:TabW w) (hr0_2:Kd.C k60 w A0_2 l0_2.length l0_2) (hc0_2:l0_2.length≤c0_2) (hr2_0:Kd.C (Kd.int .u64) w A2_0 l2_0.length l2_0) (hc2_0:l2_0.length≤c2_0) (h:qcp.f k a0_0 a0_1 l0_2 a1 l2_0=some r) :
  Calls Tryd.prog 54 #[.agg #[.bool a0_0,.int .i64 a0_1,.slice A0_2 l0_2.length c0_2],.int .i64 a1,.agg #[.slice A2_0 l2_0.length c2_0]] w fun e w'=>∃ v0_:Value,e=.returned (.agg #[v0_])∧Kd.V (Kd.int .u64) 77 w' w.heap.size (fun k_=>(w.heap.size≤k_)) v0_ r∧Below w.heap.size w w':=by
 have hu24:=Tryd.underlying24
 have hu38:=Tryd.underlying38
 have HR0:=qaa.mk hr0_2
 have HR2:=qaa.mk hr2_0
 have HT:=qaa.mk hT
 have hnode:qaa (∀ (x:Int) (b:Bool),(0≤x∧x<(l0_2.length:Int)↔b=true)→∀ W,Below w.heap.size w W→Calls Tryd.prog 80 #[.agg #[.bool a0_0,.int .i64 a0_1,.slice A0_2 l0_2.length c0_2],.int .i64 x] W fun e w'=>e=.returned (.bool b)∧Below W.heap.size W w'):=⟨fun x b hb W hW=>by
  refine cfg_node.calls a0_0 a0_1 A0_2 c0_2 l0_2 x b W (Kd.C_below hr0_2 hW) hc0_2 ?_
  unfold cfg_node.f
  by_cases h0:0≤x
  ·rw [if_pos h0]
   by_cases h1:x<(l0_2.length:Int)
   ·rw [decide_eq_true h1,hb.1 ⟨h0,h1⟩]
   ·rw [decide_eq_false h1];cases b with
    | false=>rfl
    | true=>exact absurd (hb.2 rfl).2 h1
  ·rw [if_neg h0];cases b with
    | false=>rfl
    | true=>exact absurd (hb.2 rfl).1 h0⟩
 have HX:=qaa.mk h
 clear hr0_2 hr2_0 hT h
 refine (callsIn_wide (n:=6)).1 ?_
 refine callsIn_of_wp_marks Tryd.func54 rfl trivial ?_ rfl
 simp only [Tryd.ntmps54,List.size_toArray,List.length_cons,List.length_nil,Nat.reduceAdd,Nat.reduceSub,Array.replicate_succ,Array.replicate_zero,List.push_toArray,List.append_toArray,List.nil_append,List.cons_append]
 have hx:=HX.out
 unfold qcp.f at hx
 gi_wp2
 obtain ⟨W1,hW1⟩:∃ W1,((w.alloc (Obj.cells #[Value.bool a0_0,Value.int IntKind.i64 a0_1,Value.slice A0_2 l0_2.length c0_2] 24)).alloc (Obj.cells #[Value.slice A2_0 l2_0.length c2_0] 38)).alloc (Obj.cells #[Value.slice none 0 0] 38)=W1:=⟨_,rfl⟩
 have hsz:W1.heap.size=w.heap.size+3:=by rw [← hW1];simp
 have hB1:Below w.heap.size w W1:=by rw [← hW1];exact (((Below.refl _ w).alloc (Nat.le_refl _) _).alloc (by simp) _).alloc (by simp;omega) _
 have b24:W1.heap[w.heap.size]?=some (.cells #[Value.bool a0_0,Value.int IntKind.i64 a0_1,Value.slice A0_2 l0_2.length c0_2] 24 (0,0)):=by rw [← hW1];exact qcy (qcy (World.alloc_heap_new w _) _) _
 have b38:W1.heap[w.heap.size+1]?=some (.cells #[Value.slice A2_0 l2_0.length c2_0] 38 (0,0)):=by rw [← hW1];have:=World.alloc_heap_new (w.alloc (Obj.cells #[Value.bool a0_0,Value.int IntKind.i64 a0_1,Value.slice A0_2 l0_2.length c0_2] 24)) (Obj.cells #[Value.slice A2_0 l2_0.length c2_0] 38);rw [World.size_alloc] at this;exact qcy this _
 have b6:W1.heap[w.heap.size+1+1]?=some (.cells #[Value.slice none 0 0] 38 (0,0)):=by rw [← hW1];have:=World.alloc_heap_new ((w.alloc (Obj.cells #[Value.bool a0_0,Value.int IntKind.i64 a0_1,Value.slice A0_2 l0_2.length c0_2] 24)).alloc (Obj.cells #[Value.slice A2_0 l2_0.length c2_0] 38)) (Obj.cells #[Value.slice none 0 0] 38);rw [World.size_alloc,World.size_alloc] at this;exact this
 rw [hW1]
 clear hW1
 by_cases hn:0≤a1∧a1<(l0_2.length:Int)
 ·rw [if_pos hn] at hx
  refine ⟨trivial,?_⟩
  refine (callsIn_wide.2 (hnode.out a1 true (by simp [hn]) _ hB1)).mono ?_
  rintro e w1 ⟨rfl,hb1⟩
  replace b24:=(hb1.block _ (by omega)).trans b24
  replace b38:=(hb1.block _ (by omega)).trans b38
  replace b6:=(hb1.block _ (by omega)).trans b6
  have hB2:=hB1.trans (hb1.mono (by omega))
  have hsz2:w.heap.size+3≤w1.heap.size:=by have:=hb1.size;omega
  clear hb1 hB1 hsz
  obtain ⟨t,ht,hx⟩:=Option.bind_eq_some_iff.1 hx
  have c6:=qcu b6 0 rfl
  have f6:=qhq b6 0
  have c38:=qcu b38 0 rfl
  gi_wp2
  refine ⟨trivial,?_⟩
  refine (callsIn_wide.2 (qbz.calls A2_0 c2_0 l2_0 a1 t w1 (Kd.C_below HR2.out hB2) hc2_0 ht)).mono ?_
  rintro e w2 ⟨rfl,hb1⟩
  replace b24:=(hb1.block _ (by omega)).trans b24
  replace b38:=(hb1.block _ (by omega)).trans b38
  replace b6:=(hb1.block _ (by omega)).trans b6
  replace hB2:=hB2.trans (hb1.mono (by omega))
  replace hsz2:w.heap.size+3≤w2.heap.size:=by have:=hb1.size;omega
  clear hb1 c6 f6 c38
  cases t with
  | true=>
   obtain rfl:[]=r:=by simpa using hx
   clear hx
   have c6:=qcu b6 0 rfl
   have f6:=qhq b6 0
   gi_wp2
   refine ⟨_,results_cell_row rfl _ _ (w.heap.size+1+1) 38 _ (0,0) _ rfl (setOf (i:=0) b6 (.slice none 0 0)) Tryd.underlying38 rfl rfl,?_⟩
   exact ⟨_,rfl,Kd.V_nil _ _ _ _ _,hB2.setCell (p:=⟨_,0,none⟩) (by simp;omega) _⟩
  | false=>
   simp only [Bool.false_eq_true,if_false] at hx
   by_cases hok:setOk l2_0=true∧l0_2.length≤17592186044416
   case neg=>rw [if_neg hok] at hx;cases hx
   rw [if_pos hok] at hx
   obtain ⟨o,ho,hx⟩:=Option.bind_eq_some_iff.1 hx
   have c24:w2.cell? ⟨w.heap.size,2,none⟩=some (.slice A0_2 l0_2.length c0_2):=qcu b24 2 rfl
   have hmk:=qgr (P:=Tryd.prog) 47 4 (.bool false) 1 Tryd.underlying47 info4 rfl (by decide) l0_2.length (by omega)
   have b38':=qcy (qcy b38 (Obj.cells (madeCells #[Value.bool false] l0_2.length) 4)) (Obj.cells #[Value.slice (some ⟨w2.heap.size,0,none⟩) l0_2.length l0_2.length] 47)
   have c38:((w2.alloc (Obj.cells (madeCells #[Value.bool false] l0_2.length) 4)).alloc (Obj.cells #[Value.slice (some ⟨w2.heap.size,0,none⟩) l0_2.length l0_2.length] 47)).cell? ⟨w.heap.size+1,0,none⟩=some (.slice A2_0 l2_0.length c2_0):=qcu b38' 0 rfl
   gi_wp2
   refine ⟨trivial,?_⟩
   refine (callsIn_wide.2 (qda.calls_in _ _)).mono ?_
   rintro e W2 ⟨rfl,hW2⟩
   gi_wp2
   rw [← hW2]
   have hsW2:W2.heap.size=w2.heap.size+3:=by rw [hW2];simp
   have hBW2:Below w.heap.size w W2:=by rw [hW2];exact ((hB2.alloc (by omega) _).alloc (by simp;omega) _).alloc (by simp;omega) _
   replace b24:W2.heap[w.heap.size]?=some (.cells #[Value.bool a0_0,Value.int IntKind.i64 a0_1,Value.slice A0_2 l0_2.length c0_2] 24 (0,0)):=by rw [hW2];exact qcy (qcy (qcy b24 _) _) _
   replace b6:W2.heap[w.heap.size+1+1]?=some (.cells #[Value.slice none 0 0] 38 (0,0)):=by rw [hW2];exact qcy (qcy (qcy b6 _) _) _
   have b7:W2.heap[w2.heap.size+1]?=some (.cells #[Value.slice (some ⟨w2.heap.size,0,none⟩) l0_2.length l0_2.length] 47 (0,0)):=by
    rw [hW2]
    have:=World.alloc_heap_new (w2.alloc (Obj.cells (madeCells #[Value.bool false] l0_2.length) 4)) (Obj.cells #[Value.slice (some ⟨w2.heap.size,0,none⟩) l0_2.length l0_2.length] 47)
    rw [World.size_alloc] at this
    exact qcy this _
   have b52:W2.heap[w2.heap.size+1+1]?=some (.cells #[Value.slice A2_0 l2_0.length c2_0] 38 (0,0)):=by
    rw [hW2]
    have:=World.alloc_heap_new ((w2.alloc (Obj.cells (madeCells #[Value.bool false] l0_2.length) 4)).alloc (Obj.cells #[Value.slice (some ⟨w2.heap.size,0,none⟩) l0_2.length l0_2.length] 47)) (Obj.cells #[Value.slice A2_0 l2_0.length c2_0] 38)
    rw [World.size_alloc,World.size_alloc] at this
    exact this
   have hR:Kd.R Kd.bool 4 W2 w.heap.size (fun k=>k=w2.heap.size) (.slice (some ⟨w2.heap.size,0,none⟩) l0_2.length l0_2.length) (List.replicate l0_2.length false):=by
    have h1:=own_made_of (enc:=Value.bool) (d:=false) w2 w.heap.size 4 l0_2.length (by omega) (by omega)
    have h2:=Kd.R_of_own (h1:=fun _=>rfl) (ok:=fun k=>k=w2.heap.size) (xs:=List.replicate l0_2.length false) (by simpa using h1) (fun k hk=>by simpa [Value.ownBlock] using hk.symm)
    rw [hW2]
    exact Kd.R_alloc (Kd.R_alloc h2 _) _
   clear hW2 b38 c24 c38 b38' hmk
   refine wpIn_rangeFunc_ownF (w0:=W2) rfl (by decide) (gf:=76) (lb:=#[.pointer (some ⟨w2.heap.size+1+1,0,none⟩)]) rfl trivial (enters_of Tryd.func76 (by kernel_rfl) rfl)
    (qda.stopsB _ (w2.heap.size+1+1) w.heap.size A2_0 c2_0 l2_0 W2 hok.1 (by omega) (by omega) HT.out.2.1 (HT.out.below' hBW2) (qcu b52 0 rfl) (fun W' h=>Kd.C_below HR2.out (hBW2.trans h))) belowK_t (belowK_b (by omega)) (Below.refl _ _) (fun _=>rfl)
    (fun pre W=>(Kd.R Kd.bool 4 W w.heap.size (fun k=>k=w2.heap.size) (.slice (some ⟨w2.heap.size,0,none⟩) l0_2.length l0_2.length) (marks l0_2.length (pre.map (·.1)))∧W.heap[w.heap.size]?=some (.cells #[Value.bool a0_0,Value.int IntKind.i64 a0_1,Value.slice A0_2 l0_2.length c0_2] 24 (0,0))∧W.heap[w.heap.size+1+1]?=some (.cells #[Value.slice none 0 0] 38 (0,0))∧W.heap[w2.heap.size+1]?=some (.cells #[Value.slice (some ⟨w2.heap.size,0,none⟩) l0_2.length l0_2.length] 47 (0,0)))∧Below w.heap.size w W)
    (fun _ _ _=>False)
    (OwnFrom.and (Own.from (fun s A B row hs hg hr=>⟨rowRow hg hr hs.1,qez hg hr hs.2.1,qez hg hr hs.2.2.1,qez hg hr hs.2.2.2⟩) _) (ownFrom_below (Nat.le_refl _) (by omega)))
    (fun _ _ _ _ _ hs _ _=>hs)
    ⟨⟨hR,b24,b6,b7⟩,hBW2⟩
    (fun x=>{ tmps:=#[Value.agg #[Value.bool a0_0,Value.int IntKind.i64 a0_1,Value.slice A0_2 l0_2.length c0_2],
    Value.int IntKind.i64 a1,Value.agg #[Value.slice A2_0 l2_0.length c2_0],
    Value.pointer (some { block:=w.heap.size,off:=0 }),undef,
    Value.pointer (some { block:=w.heap.size+1,off:=0 }),
    Value.pointer (some { block:=w.heap.size+1+1,off:=0 }),
    Value.pointer (some { block:=w2.heap.size+1,off:=0 }),.int .i64 x.1,
    Value.agg #[Value.bool a0_0,Value.int IntKind.i64 a0_1,Value.slice A0_2 l0_2.length c0_2],
    Value.int IntKind.i64 a1,Value.bool true,Value.bool false,Value.bool false,
    Value.agg #[Value.slice A2_0 l2_0.length c2_0],Value.int IntKind.i64 a1,Value.bool false,Value.bool false,
    undef,Value.pointer (some { block:=w.heap.size,off:=2 }),Value.slice A0_2 l0_2.length c0_2,
    Value.int IntKind.i64 l0_2.length,
    Value.slice (some { block:=w2.heap.size,off:=0 }) l0_2.length l0_2.length,
    Value.agg #[Value.slice A2_0 l2_0.length c2_0],
    Value.func (Fn.func 76) #[] #[Value.pointer (some { block:=w2.heap.size+1+1,off:=0 })],.int .i64 x.1,undef,
    undef,undef,undef,undef,undef,undef,undef,undef,undef,undef],defers:=[] }) ?assign ?body ?done ?stop
   case assign=>
    intro l x W K hK
    gi_wp2
    exact hK
   case body=>
    rintro l pre x W ⟨⟨hR,b24,b6,b7⟩,hBW⟩ _
    have c24_0:W.cell? ⟨w.heap.size,0,none⟩=some (.bool a0_0):=qcu b24 0 rfl
    have c24_1:W.cell? ⟨w.heap.size,1,none⟩=some (.int .i64 a0_1):=qcu b24 1 rfl
    have c24_2:W.cell? ⟨w.heap.size,2,none⟩=some (.slice A0_2 l0_2.length c0_2):=qcu b24 2 rfl
    gi_wp2
    by_cases hx:0≤x.1∧x.1<(l0_2.length:Int)
    ·refine ⟨trivial,?_⟩
     refine (CallsIn.inRound l (callsIn_wide.2 (hnode.out x.1 true (by simp [hx]) _ hBW))).mono ?_
     rintro e W3 ⟨rfl,hb3⟩
     have hR3:=Kd.R_below hR hb3
     replace b24:=(hb3.block _ (qbn b24)).trans b24
     replace b6:=(hb3.block _ (qbn b6)).trans b6
     replace b7:=(hb3.block _ (qbn b7)).trans b7
     have hb3':Below w.heap.size W W3:=hb3.mono hBW.size
     have hBW3:=hBW.trans hb3'
     have hx0:=hx.1
     have hx1:=hx.2
     obtain ⟨hcell,hfro⟩:=Kd.R_celln false hR3 x.1 hx.1 hx.2
     have c7:W3.cell? ⟨w2.heap.size+1,0,none⟩=some (.slice (some ⟨w2.heap.size,0,none⟩) l0_2.length l0_2.length):=qcu b7 0 rfl
     have hput:=Kd.R_putn hR3 x.1 true
     have hko:KeepsOthers W W3:=⟨hb3.size,fun k o hk _=>(hb3.block k (Array.getElem?_eq_some_iff.1 hk).1).trans hk⟩
     clear c24_0 c24_1 c24_2 hb3 hR
     gi_wp2
     refine ⟨hko.trans (KeepsOthers.setCell _ _ _),hb3'.trans ((Below.refl _ W3).setCell (p:=⟨w2.heap.size,_,none⟩) (by simp;omega) _),⟨?_,?_,?_,?_⟩,hBW3.setCell (p:=⟨w2.heap.size,_,none⟩) (by simp;omega) _⟩
     ·rw [List.map_append,List.map_cons,List.map_nil,marks_snoc,qfr,if_pos hx];exact hput
     ·exact (Below.heap_setCell _ _ _ _ (by simp;omega)).trans b24
     ·exact (Below.heap_setCell _ _ _ _ (by simp;omega)).trans b6
     ·exact (Below.heap_setCell _ _ _ _ (by simp)).trans b7
    ·refine ⟨trivial,?_⟩
     refine (CallsIn.inRound l (callsIn_wide.2 (hnode.out x.1 false (by simp only [Bool.false_eq_true,iff_false];exact hx) _ hBW))).mono ?_
     rintro e W3 ⟨rfl,hb3⟩
     have hko:KeepsOthers W W3:=⟨hb3.size,fun k o hk _=>(hb3.block k (Array.getElem?_eq_some_iff.1 hk).1).trans hk⟩
     gi_wp2
     refine ⟨hko,hb3.mono hBW.size,⟨?_,(hb3.block _ (qbn b24)).trans b24,(hb3.block _ (qbn b6)).trans b6,(hb3.block _ (qbn b7)).trans b7⟩,hBW.trans (hb3.mono hBW.size)⟩
     rw [List.map_append,List.map_cons,List.map_nil,marks_snoc,qfr,if_neg hx]
     exact Kd.R_below hR hb3
   case done=>
    rintro D ys W hD hS ⟨⟨hR,b24,b6,b7⟩,hBW⟩ hK
    rw [hS] at hR
    have c24_0:W.cell? ⟨w.heap.size,0,none⟩=some (.bool a0_0):=qcu b24 0 rfl
    have c24_1:W.cell? ⟨w.heap.size,1,none⟩=some (.int .i64 a0_1):=qcu b24 1 rfl
    have c24_2:W.cell? ⟨w.heap.size,2,none⟩=some (.slice A0_2 l0_2.length c0_2):=qcu b24 2 rfl
    have c7:W.cell? ⟨w2.heap.size+1,0,none⟩=some (.slice (some ⟨w2.heap.size,0,none⟩) l0_2.length l0_2.length):=qcu b7 0 rfl
    gi_wp2
    refine ⟨trivial,?_⟩
    have hpo:=qat.calls k a0_0 a0_1 A0_2 c0_2 l0_2 a1 (fun k=>k=w2.heap.size) (.slice (some ⟨w2.heap.size,0,none⟩) l0_2.length l0_2.length) (marks l0_2.length (els l2_0)) (fun _=>False) (.slice none 0 0) [] o.1 o.2 w W hBW
     (Kd.C_kept_came k60_heap HR0.out hBW (fun k_ hs_=>by rcases hs_ with e|e;exact (by omega);exact e.elim)) hc0_2 hR (Kd.R_nil _ _ _ _ _) ho
    refine (callsIn_wide.2 hpo).mono ?_
    clear hpo
    rintro e W3 ⟨v0,rfl,hR1,hR2,hB3,hk3⟩
    have hDW:D<W.heap.size:=(Array.getElem?_eq_some_iff.1 hK).1
    have hK3:=(hk3.2 D hDW (fun e=>by rcases e with e|e;exact (by omega);exact e.elim)).trans hK
    have hb6:=(hk3.2 _ (qbn b6) (fun e=>by rcases e with e|e;exact (by omega);exact e.elim)).trans b6
    have hs3:=hk3.1
    clear c24_0 c24_1 c24_2 c7 hR b24 b7 b6 hR2 hk3 hK
    obtain ⟨A',c',rfl,hl',hC'⟩:=Kd.R_reads hR1
    gi_wp2
    refine ⟨trivial,?_⟩
    refine (callsIn_wide.2 (qax.calls k A' c' o.1 r W3 hC' hl' hx)).mono ?_
    rintro e W4 ⟨v4,rfl,hV,hB4⟩
    obtain ⟨A4,c4,rfl⟩:=Kd.V_slice hV
    have hK4:=(hB4.block _ (Array.getElem?_eq_some_iff.1 hK3).1).trans hK3
    have hb64:=(hB4.block _ (qbn hb6)).trans hb6
    have hB34:=hB3.trans (hB4.mono hB3.size)
    have hs4:=hB4.size
    have c64:=qcu hb64 0 rfl
    have f64:=qhq hb64 0
    have hKs:=(Below.heap_setCell W4 ⟨w.heap.size+1+1,0,none⟩ (.slice A4 r.length c4) D (by simp;omega)).trans hK4
    gi_wp2
    refine ⟨by simp,.inl ⟨_,_,rfl,run_takeDeferred hKs,?_⟩⟩
    refine ⟨_,results_cell_row rfl _ _ (w.heap.size+1+1) 38 _ (0,0) _ rfl ((World.putObj_heap_other (by omega)).trans (setOf (i:=0) hb64 (.slice A4 r.length c4))) Tryd.underlying38 rfl rfl,?_⟩
    refine ⟨_,rfl,?_,(hB34.setCell (p:=⟨w.heap.size+1+1,0,none⟩) (show w.heap.size≤w.heap.size+1+1 by omega) _).trans (belowK_b (w:=w) (Nat.le_refl _) _ D _ _ (by omega) hKs rfl rfl)⟩
    refine Kd.V_mono (Kd.V_grown (Kd.V_far hV (p:=⟨w.heap.size+1+1,0,none⟩) (fun k_ (hk_:W3.heap.size≤k_)=>show k_≠w.heap.size+1+1 by omega) _) (grownBy_putObj' _ D _) (fun k_ (hk_:W3.heap.size≤k_) e=>by injection e with e;omega)) (fun k_ (hk_:W3.heap.size≤k_)=>show w.heap.size≤k_ by omega)
   case stop=>
    rintro D c pre W _ _ h _
    exact h.elim
 ·rw [if_neg hn] at hx
  obtain rfl:[]=r:=Option.some.inj hx
  clear hx
  refine ⟨trivial,?_⟩
  refine (callsIn_wide.2 (hnode.out a1 false (by simp only [Bool.false_eq_true,iff_false];exact hn) _ hB1)).mono ?_
  rintro e w1 ⟨rfl,hb1⟩
  replace b24:=(hb1.block _ (by omega)).trans b24
  replace b38:=(hb1.block _ (by omega)).trans b38
  replace b6:=(hb1.block _ (by omega)).trans b6
  have hB2:=hB1.trans (hb1.mono (by omega))
  have hsz2:w.heap.size+3≤w1.heap.size:=by have:=hb1.size;omega
  clear hb1 hB1 hsz
  have c6:=qcu b6 0 rfl
  have f6:=qhq b6 0
  gi_wp2
  refine ⟨trivial,?_⟩
  gi_wp2
  refine ⟨_,results_cell_row rfl _ _ (w.heap.size+1+1) 38 _ (0,0) _ rfl (setOf (i:=0) b6 (.slice none 0 0)) Tryd.underlying38 rfl rfl,?_⟩
  exact ⟨_,rfl,Kd.V_nil _ _ _ _ _,hB2.setCell (p:=⟨_,0,none⟩) (by simp;omega) _⟩
end Go.Proofs.YtmfjmbcfaamebaaDoor.X
namespace Go.Proofs.YtmfjmbcfaamebaaDoor.X
open Go.RowKit Go.Proofs.YtmfjmbcfaamebaaDoorW.PrintWords Go.Proofs.YtmfjmbcfaamebaaDoorW.PrintLast Go.Proofs.YtmfjmbcfaamebaaDoorW.PrintMore
attribute [local go_sem] qbs qcb
set_option linter.unusedVariables false
set_option linter.unusedSimpArgs false
def qcf.f (k:Nat) (a0_0:Bool) (a0_1:Int) (l0_2:List (S60)) (a1:Int):Option (List Int):=(qcp.f k a0_0 a0_1 l0_2 a1 ([]:List Int)).bind fun t162=>(some t162)
theorem qcf.mono:∀ a0 a1 a2 a3 k,LeO (qcf.f k a0 a1 a2 a3) (qcf.f (k+1) a0 a1 a2 a3):=by
 intro a0 a1 a2 a3 k
 unfold qcf.f
 repeat' first|(with_reducible exact qcp.mono _ _ _ _ _ _)|(with_reducible exact LeO.refl _)|(with_reducible refine LeO.bind ?_ (fun _=>?_))
set_option maxHeartbeats 8000000 in
set_option maxRecDepth 100000 in
theorem qcf.calls (k:Nat) (a0_0:Bool) (a0_1:Int) (A0_2:Option Addr) (c0_2:Nat) (l0_2:List (S60)) (a1:Int) (r:List Int) (w:World) (hT:TabW w) (hr0_2:Kd.C k60 w A0_2 l0_2.length l0_2) (hc0_2:l0_2.length≤c0_2) (h:qcf.f k a0_0 a0_1 l0_2 a1=some r) :
  Calls Tryd.prog 30 #[.agg #[.bool a0_0,.int .i64 a0_1,.slice A0_2 l0_2.length c0_2],.int .i64 a1] w fun e w'=>∃ v0_:Value,e=.returned (.agg #[v0_])∧Kd.V (Kd.int .u64) 77 w' w.heap.size (fun k_=>(w.heap.size≤k_)) v0_ r∧Below w.heap.size w w':=by
 have hu24:=Tryd.underlying24
 have hu38:=Tryd.underlying38
 have HR0_2:=qaa.mk hr0_2
 have HC0_2:=qaa.mk hc0_2
 clear hr0_2 hc0_2
 have HTB:=qaa.mk hT
 clear hT
 have HB:=qaa.mk (Below.refl w.heap.size w)
 have H:((qcp.f k a0_0 a0_1 l0_2 a1 ([]:List Int)).bind fun t162=>(some t162))=some r:=h
 clear h
 replace H:=Option.bind_eq_some_iff.mp H
 obtain ⟨t162,A30,H⟩:=H
 replace H:(some t162)=some r:=H
 have A3:=qaa.mk A30
 clear A30
 obtain rfl:=Option.some.inj H
 go_enter Tryd.func30,Tryd.ntmps30
 go_wp2_with (first|((with_reducible refine qbf (N:=2) rfl ?_);refine qbr ?hg (N:=2) ?hd (cs:=#[.bool a0_0,.int .i64 a0_1,.slice A0_2 l0_2.length c0_2]) (t:=24) ?hr ?_;(case hd=>rfl);(case hg=>rfl);(case hr=>(go_simp;done));intro gb160 hg w4 hbox hb;have BK160:=qaa.mk (hbox);have GW160:=qaa.mk ((by rw [hg];exact (qac HB.out):w.heap.size≤gb160));have GE160:=qaa.mk ((by rw [hg];exact (qac HB.out):w.heap.size≤gb160));replace HB:=qaa.mk (qal HB.out hb);clear hb hbox hg)|((with_reducible refine qbf (N:=4) rfl ?_);refine qbr ?hg (N:=4) ?hd (cs:=#[.slice none 0 0]) (t:=38) ?hr ?_;(case hd=>rfl);(case hg=>rfl);(case hr=>(go_simp;done));intro gb161 hg w5 hbox hb;have BK161:=qaa.mk (hbox);have GW161:=qaa.mk ((by rw [hg];exact (qac HB.out):w.heap.size≤gb161));have GE161:=qaa.mk ((by rw [hg];exact (qac HB.out):w.heap.size≤gb161));replace HB:=qaa.mk (qal HB.out hb);have NB160_161:=qaa.mk ((by rw [hg];exact Nat.ne_of_lt (qbn (g:=gb160) (o:=.cells #[.bool a0_0,.int .i64 a0_1,.slice A0_2 l0_2.length c0_2] 24 (0,0)) (by (with_reducible repeat (refine qab ?_));exact BK160.out)):gb160≠gb161));have NB161_160:=qaa.mk ((by rw [hg];exact Nat.ne_of_gt (qbn (g:=gb160) (o:=.cells #[.bool a0_0,.int .i64 a0_1,.slice A0_2 l0_2.length c0_2] 24 (0,0)) (by (with_reducible repeat (refine qab ?_));exact BK160.out)):gb161≠gb160));replace BK160:=qaa.mk (qah (g:=gb160) (o:=.cells #[.bool a0_0,.int .i64 a0_1,.slice A0_2 l0_2.length c0_2] 24 (0,0)) (by (with_reducible repeat (refine qab ?_));exact BK160.out) hb);clear hb hbox hg;have hnb6:=NB160_161.out;have hnc6:=NB161_160.out;have hcz7_0:w5.cell? ⟨gb160,0,none⟩=some (.bool a0_0):=(qad BK160.out 0).trans rfl;have hcz7_1:w5.cell? ⟨gb160,1,none⟩=some (.int .i64 a0_1):=(qad BK160.out 1).trans rfl;have hcz7_2:w5.cell? ⟨gb160,2,none⟩=some (.slice A0_2 l0_2.length c0_2):=(qad BK160.out 2).trans rfl;have hfz7_0:=qaf BK160.out 0;have hfz7_1:=qaf BK160.out 1;have hfz7_2:=qaf BK160.out 2)|((with_reducible refine qbb (f:=54) rfl ?_);refine qcv (some 8) rfl rfl Tryd.func54 (by kernel_rfl) rfl #[.agg #[.bool a0_0,.int .i64 a0_1,.slice A0_2 l0_2.length c0_2],.int .i64 a1,.agg #[.slice none 0 0]] rfl (by (try simp only [List.map_toArray,List.map_cons,List.map_nil]);rfl) ?_;(refine (qcp.calls k a0_0 a0_1 _ _ l0_2 a1 _ _ ([]:List Int) t162 _ ?side1 ?side2 ?side3 ?side4 ?side5 A3.out).mono ?_);(case side1=>exact TabW.below' HTB.out HB.out);(case side2=>repeat (exact (Kd.C_below HR0_2.out HB.out)));(case side3=>exact HC0_2.out);(case side4=>exact Kd.C_nil _ _);(case side5=>exact Nat.le_refl _);rintro e w8 ⟨v163,rfl,ho0,hb⟩;refine ⟨_,rfl,?_⟩;have HO164:=qaa.mk (Kd.V_lower (Kd.V_mono (ok':=fun k_=>(w.heap.size≤k_)∧k_≠gb160∧k_≠gb161) ho0 (fun k_ hk_=>⟨(Nat.le_trans (qac HB.out) hk_),(Kd.freshB (g:=gb160) (o:=.cells #[.bool a0_0,.int .i64 a0_1,.slice A0_2 l0_2.length c0_2] 24 (0,0)) (by (with_reducible repeat (refine qab ?_));exact BK160.out) k_ hk_),(Kd.freshB (g:=gb161) (o:=.cells #[.slice none 0 0] 38 (0,0)) (by (with_reducible repeat (refine qab ?_));exact BK161.out) k_ hk_)⟩)) (qac HB.out));replace BK160:=qaa.mk (qah (g:=gb160) (o:=.cells #[.bool a0_0,.int .i64 a0_1,.slice A0_2 l0_2.length c0_2] 24 (0,0)) (by (with_reducible repeat (refine qab ?_));exact BK160.out) hb);replace BK161:=qaa.mk (qah (g:=gb161) (o:=.cells #[.slice none 0 0] 38 (0,0)) (by (with_reducible repeat (refine qab ?_));exact BK161.out) hb);replace HB:=qaa.mk (qal HB.out hb);(try clear hb);(try clear ho0);obtain ⟨Ao9,co9,eo9⟩:=Kd.V_slice HO164.out;subst eo9;have hcz10_0:w8.cell? ⟨gb161,0,none⟩=some (.slice none 0 0):=(qad BK161.out 0).trans rfl;have hfz10_0:=qaf BK161.out 0))
 refine bodyPost_ret (results_cell_row rfl _ _ gb161 38 #[.slice Ao9 t162.length co9] (0,0) _ rfl (by (with_reducible repeat (refine qab ?_));refine qcs (cs:=#[.slice none 0 0]) ?_ 0 _ rfl;(with_reducible repeat (refine qab ?_));exact BK161.out) Tryd.underlying38 rfl (by kernel_rfl)) rfl ?_
 exact ⟨_,by rfl,by (with_reducible repeat (apply Kd.V_drew));exact Kd.V_mono (Kd.V_far (p:=⟨gb161,0,none⟩) (Kd.V_mono HO164.out (fun k_ hk=>(⟨hk,hk.2.2⟩:_∧k_≠gb161))) (fun _ hk=>hk.2) (.slice Ao9 t162.length co9)) (fun _ hk=>hk.1.1),by repeat ((with_reducible first|exact HB.out|refine qbx ?_ GE161.out))⟩
end Go.Proofs.YtmfjmbcfaamebaaDoor.X
namespace Go.Proofs.YtmfjmbcfaamebaaDoor.X
open Go.RowKit Go.Proofs.YtmfjmbcfaamebaaDoorW.PrintWords Go.Proofs.YtmfjmbcfaamebaaDoorW.PrintLast Go.Proofs.YtmfjmbcfaamebaaDoorW.PrintMore
attribute [local go_sem] qbs qcb
set_option linter.unusedVariables false
set_option linter.unusedSimpArgs false
def qdi.f (a0:Int) (a1:Int):Option (Int):=some (Go.bits .or .u64 a0 a1)
set_option maxHeartbeats 8000000 in
set_option maxRecDepth 100000 in
theorem qdi.calls (a0:Int) (a1:Int) (r:Int) (w:World) (h:qdi.f a0 a1=some r) :
  Calls Tryd.prog 82 #[.int .u64 a0,.int .u64 a1] w fun e w'=>e=.returned (.int .u64 r)∧qdm w w':=by
 have H:(some (Go.bits .or .u64 a0 a1))=some r:=h
 clear h
 obtain rfl:=Option.some.inj H
 go_enter Tryd.func82,Tryd.ntmps82
 go_wp2
 go_ret
 exact ⟨by rfl,by repeat (exact qdm.refl _)⟩
end Go.Proofs.YtmfjmbcfaamebaaDoor.X
namespace Go.Proofs.YtmfjmbcfaamebaaDoor.X
open Go.RowKit Go.Proofs.YtmfjmbcfaamebaaDoorW.PrintWords Go.Proofs.YtmfjmbcfaamebaaDoorW.PrintLast Go.Proofs.YtmfjmbcfaamebaaDoorW.PrintMore
attribute [local go_sem] qbs qcb
set_option linter.unusedVariables false
set_option linter.unusedSimpArgs false
def qaj.l0:Nat→List Int→Int→Int→List Int→List Int→Option (List Int)
 | 0,_,_,_,_,_=>none
 | k+1,x7,x18,x19,x179000,x180000=>if x19<x18 then ((qch.f x179000 x19).bind fun t184=>((qch.f x180000 x19).bind fun t185=>((qdi.f t184 t185).bind fun t186=>(if 0≤x19 then (if x19<(x7.length:Int) then (qaj.l0 k (x7.set (x19:Int).toNat t186) x18 (wrap64 (x19+1)) x179000 x180000) else (none)) else (none))))) else ((qbc.f k x7).bind fun t188=>(some t188))
def qaj.f (k:Nat) (l0_0:List Int) (l1_0:List Int)  : Option (List Int):=if 0≤(mx (l0_0.length:Int) (l1_0.length:Int)) then (if (mx (l0_0.length:Int) (l1_0.length:Int):Int).toNat≤35184372088832 then ((some (List.replicate (mx (l0_0.length:Int) (l1_0.length:Int):Int).toNat 0:List Int)).bind fun y181=>(qaj.l0 k y181 (y181.length:Int) 0 l0_0 l1_0)) else (none)) else (none)
theorem qaj.mono_l:∀ k,(∀ y0 y1 y2 y3 y4,LeO (qaj.l0 k y0 y1 y2 y3 y4) (qaj.l0 (k+1) y0 y1 y2 y3 y4))
 | 0=>fun _ _ _ _ _ r h=>by simp [qaj.l0] at h
 | k+1=>by
  have ih0:=qaj.mono_l k
  ·intro y0 y1 y2 y3 y4
   unfold qaj.l0
   repeat' first|(with_reducible exact ih0 _ _ _ _ _)|(with_reducible exact qbc.mono _ _)|(with_reducible exact LeO.refl _)|(with_reducible refine LeO.ite ?_ ?_)|(with_reducible refine LeO.bind ?_ (fun _=>?_))
theorem qaj.mono:∀ a0 a1 k,LeO (qaj.f k a0 a1) (qaj.f (k+1) a0 a1):=by
 intro a0 a1 k
 have ih0:=qaj.mono_l k
 unfold qaj.f
 repeat' first|(with_reducible exact ih0 _ _ _ _ _)|(with_reducible exact LeO.refl _)|(with_reducible refine LeO.ite ?_ ?_)|(with_reducible refine LeO.bind ?_ (fun _=>?_))
def qaj.T5:Bool×List (List Nat×List Nat):=(true,[([],[]),([],[]),([],[]),([],[]),([],[]),([3,4],[3,4]),([],[]),([],[]),([6,7,5],[6,7]),([2,5,8,8],[2,5,8]),([0,1,0,1,2,3,4,5,6,7,8,9],[0,1]),([10,9,9,0,1,2,3,4,5,6,7,8,9],[9,10])])
def qaj.B5:List Nat:=[0,0,0,0,0,24,0,0,248,508,1023,2047]
theorem qaj.tab5:rtab .any (opsOf Tryd.f78 5)=qaj.T5:=by kernel_rfl
theorem qaj.bits5:qeu qaj.T5.2 qaj.B5=true:=by kernel_rfl
set_option maxHeartbeats 8000000 in
set_option maxRecDepth 100000 in
theorem qaj.calls (k:Nat) (A0_0:Option Addr) (c0_0:Nat) (l0_0:List Int) (A1_0:Option Addr) (c1_0:Nat) (l1_0:List Int)  (r:List Int) (w:World) (hr0_0:Kd.C (Kd.int .u64) w A0_0 l0_0.length l0_0) (hc0_0:l0_0.length≤c0_0) (hr1_0:Kd.C (Kd.int .u64) w A1_0 l1_0.length l1_0) (hc1_0:l1_0.length≤c1_0) (h:qaj.f k l0_0 l1_0=some r) :
  Calls Tryd.prog 78 #[.agg #[.slice A0_0 l0_0.length c0_0],.agg #[.slice A1_0 l1_0.length c1_0],.func (.func 82) #[] #[]] w fun e w'=>∃ v0_:Value,e=.returned (.agg #[v0_])∧Kd.V (Kd.int .u64) 77 w' w.heap.size (fun k_=>(w.heap.size≤k_)) v0_ r∧Below w.heap.size w w':=by
 have hu38:=Tryd.underlying38
 have HR0_0:=qaa.mk hr0_0
 have HC0_0:=qaa.mk hc0_0
 clear hr0_0 hc0_0
 have HR1_0:=qaa.mk hr1_0
 have HC1_0:=qaa.mk hc1_0
 clear hr1_0 hc1_0
 have HB:=qaa.mk (Below.refl w.heap.size w)
 have H:(if 0≤(mx (l0_0.length:Int) (l1_0.length:Int)) then (if (mx (l0_0.length:Int) (l1_0.length:Int):Int).toNat≤35184372088832 then ((some (List.replicate (mx (l0_0.length:Int) (l1_0.length:Int):Int).toNat 0:List Int)).bind fun y181=>(qaj.l0 k y181 (y181.length:Int) 0 l0_0 l1_0)) else (none)) else (none))=some r:=h
 clear h
 obtain ⟨ji4,hji4⟩:∃ j_:Int,(mx (l0_0.length:Int) (l1_0.length:Int))=j_:=⟨_,rfl⟩
 replace H:(if 0≤(ji4) then (if (ji4:Int).toNat≤35184372088832 then ((some (List.replicate (ji4:Int).toNat 0:List Int)).bind fun y181=>(qaj.l0 k y181 (y181.length:Int) 0 l0_0 l1_0)) else (none)) else (none))=some r:=by (rw [hji4] at H;exact H)
 (try (have hji4l:0≤ji4:=by (rw [← hji4];unfold mx;(repeat' split) <;> omega)))
 (try (have hji4m:0≤ji4:=by omega))
 have hji4n:(if l0_0.length<l1_0.length then (l1_0.length:Int) else (l0_0.length:Int))=ji4:=by have h_:(if (l0_0.length:Int)<(l1_0.length:Int) then (l1_0.length:Int) else (l0_0.length:Int))=ji4:=hji4;simp only [Int.ofNat_lt] at h_;exact h_
 have hji4_:(if (l0_0.length:Int)<(l1_0.length:Int) then (l1_0.length:Int) else (l0_0.length:Int))=ji4:=hji4
 by_cases c5:0≤(ji4)
 ·rw [if_pos c5] at H
  have c5b0:=eq_true c5
  have c5b1:decide (0≤(ji4))=true:=decide_eq_true c5
  clear c5
  by_cases c6:(ji4:Int).toNat≤35184372088832
  ·rw [if_pos c6] at H
   have c6b0:=eq_true c6
   have c6b1:decide ((ji4:Int).toNat≤35184372088832)=true:=decide_eq_true c6
   clear c6
   obtain ⟨y181,hy181⟩:∃ y_:List Int,y_=(List.replicate (ji4:Int).toNat 0):=⟨_,rfl⟩
   replace H:(qaj.l0 k y181 (y181.length:Int) 0 l0_0 l1_0)=some r:=by (have H2_:=(Option.bind_some _ _).symm.trans H;rw [hy181];with_reducible exact H2_)
   have Ny181:=qaa.mk hy181
   clear hy181
   have H':=qaa.mk H
   clear H
   go_enter Tryd.func78,Tryd.ntmps78
   go_wp2_with (first|((with_reducible refine qbf (N:=3) rfl ?_);refine qbr ?hg (N:=3) ?hd (cs:=#[.slice A0_0 l0_0.length c0_0]) (t:=38) ?hr ?_;(case hd=>rfl);(case hg=>rfl);(case hr=>(go_simp;done));intro gb178 hg w7 hbox hb;have BK178:=qaa.mk (hbox);have GW178:=qaa.mk ((by rw [hg];exact (qac HB.out):w.heap.size≤gb178));have GE178:=qaa.mk ((by rw [hg];exact (qac HB.out):w.heap.size≤gb178));replace HB:=qaa.mk (qal HB.out hb);clear hb hbox hg)|((with_reducible refine qbf (N:=4) rfl ?_);refine qbr ?hg (N:=4) ?hd (cs:=#[.slice A1_0 l1_0.length c1_0]) (t:=38) ?hr ?_;(case hd=>rfl);(case hg=>rfl);(case hr=>(go_simp;done));intro gb179 hg w8 hbox hb;have BK179:=qaa.mk (hbox);have GW179:=qaa.mk ((by rw [hg];exact (qac HB.out):w.heap.size≤gb179));have GE179:=qaa.mk ((by rw [hg];exact (qac HB.out):w.heap.size≤gb179));replace HB:=qaa.mk (qal HB.out hb);have NB178_179:=qaa.mk ((by rw [hg];exact Nat.ne_of_lt (qbn (g:=gb178) (o:=.cells #[.slice A0_0 l0_0.length c0_0] 38 (0,0)) (by (with_reducible repeat (refine qab ?_));exact BK178.out)):gb178≠gb179));have NB179_178:=qaa.mk ((by rw [hg];exact Nat.ne_of_gt (qbn (g:=gb178) (o:=.cells #[.slice A0_0 l0_0.length c0_0] 38 (0,0)) (by (with_reducible repeat (refine qab ?_));exact BK178.out)):gb179≠gb178));replace BK178:=qaa.mk (qah (g:=gb178) (o:=.cells #[.slice A0_0 l0_0.length c0_0] 38 (0,0)) (by (with_reducible repeat (refine qab ?_));exact BK178.out) hb);clear hb hbox hg)|((with_reducible refine qbf (N:=6) rfl ?_);refine qbr ?hg (N:=6) ?hd (cs:=#[.slice none 0 0]) (t:=38) ?hr ?_;(case hd=>rfl);(case hg=>rfl);(case hr=>(go_simp;done));intro gb180 hg w9 hbox hb;have BK180:=qaa.mk (hbox);have GW180:=qaa.mk ((by rw [hg];exact (qac HB.out):w.heap.size≤gb180));have GE180:=qaa.mk ((by rw [hg];exact (qac HB.out):w.heap.size≤gb180));replace HB:=qaa.mk (qal HB.out hb);have NB178_180:=qaa.mk ((by rw [hg];exact Nat.ne_of_lt (qbn (g:=gb178) (o:=.cells #[.slice A0_0 l0_0.length c0_0] 38 (0,0)) (by (with_reducible repeat (refine qab ?_));exact BK178.out)):gb178≠gb180));have NB180_178:=qaa.mk ((by rw [hg];exact Nat.ne_of_gt (qbn (g:=gb178) (o:=.cells #[.slice A0_0 l0_0.length c0_0] 38 (0,0)) (by (with_reducible repeat (refine qab ?_));exact BK178.out)):gb180≠gb178));replace BK178:=qaa.mk (qah (g:=gb178) (o:=.cells #[.slice A0_0 l0_0.length c0_0] 38 (0,0)) (by (with_reducible repeat (refine qab ?_));exact BK178.out) hb);have NB179_180:=qaa.mk ((by rw [hg];exact Nat.ne_of_lt (qbn (g:=gb179) (o:=.cells #[.slice A1_0 l1_0.length c1_0] 38 (0,0)) (by (with_reducible repeat (refine qab ?_));exact BK179.out)):gb179≠gb180));have NB180_179:=qaa.mk ((by rw [hg];exact Nat.ne_of_gt (qbn (g:=gb179) (o:=.cells #[.slice A1_0 l1_0.length c1_0] 38 (0,0)) (by (with_reducible repeat (refine qab ?_));exact BK179.out)):gb180≠gb179));replace BK179:=qaa.mk (qah (g:=gb179) (o:=.cells #[.slice A1_0 l1_0.length c1_0] 38 (0,0)) (by (with_reducible repeat (refine qab ?_));exact BK179.out) hb);clear hb hbox hg;have hnb10:=NB178_179.out;have hnc10:=NB179_178.out;have hnb11:=NB178_180.out;have hnc11:=NB180_178.out;have hcz12_0:w9.cell? ⟨gb178,0,none⟩=some (.slice A0_0 l0_0.length c0_0):=(qad BK178.out 0).trans rfl;have hfz12_0:=qaf BK178.out 0;have hnb13:=NB179_180.out;have hnc13:=NB180_179.out;have hcz14_0:w9.cell? ⟨gb179,0,none⟩=some (.slice A1_0 l1_0.length c1_0):=(qad BK179.out 0).trans rfl;have hfz14_0:=qaf BK179.out 0)|((with_reducible refine qbf (N:=16) rfl ?_);refine Kd.R_make (Kd.int .u64) _ 77 rfl (N:=16) rfl 36 _ _ rfl ji4 rfl rfl Tryd.underlying36 (.int .u64 0) 8 info77 rfl (by decide) (by omega) 0 (ok:=fun _=>True) (okp:=fun _=>True) rfl (fun _ hk=>hk) trivial (of_decide_eq_true (by (with_reducible assumption))) (Nat.le_trans (Nat.mul_le_mul_right _ (of_decide_eq_true (by (with_reducible assumption)):ji4.toNat≤35184372088832)) (by omega)) (Below.refl _ _) (Nat.le_refl _) ?_;intro v182 w15 ho16 hb hg_ hnew_;clear hg_ hnew_;(rw [← Ny181.out] at ho16);have HO183:=qaa.mk (Kd.R_lower (Kd.R_newM (M:=fun k_=>(w.heap.size≤k_)) ho16 (qac HB.out) (fun k_ h_=>h_)) (qac HB.out));replace BK178:=qaa.mk (qah (g:=gb178) (o:=.cells #[.slice A0_0 l0_0.length c0_0] 38 (0,0)) (by (with_reducible repeat (refine qab ?_));exact BK178.out) hb);replace BK179:=qaa.mk (qah (g:=gb179) (o:=.cells #[.slice A1_0 l1_0.length c1_0] 38 (0,0)) (by (with_reducible repeat (refine qab ?_));exact BK179.out) hb);replace BK180:=qaa.mk (qah (g:=gb180) (o:=.cells #[.slice none 0 0] 38 (0,0)) (by (with_reducible repeat (refine qab ?_));exact BK180.out) hb);replace HB:=qaa.mk (qal HB.out hb);clear hb ho16;obtain ⟨Ao17,co17,eo17⟩:=Kd.R_slice HO183.out;subst eo17))
   go_loopg [19] k (fun kq v19 w'=>∃ (x7_1:List Int) (x19_1:Int),v19=.int .i64 x19_1∧qaa (qaj.l0 kq x7_1 (y181.length:Int) x19_1 l0_0 l1_0=some r)∧qaa (kq≤k)∧qaa (Kd.R (Kd.int .u64) 77 w' w.heap.size (fun k_=>(w.heap.size≤k_)) (.slice Ao17 y181.length co17) x7_1)∧qaa (w'.heap[gb178]?=some (.cells #[(.slice A0_0 l0_0.length c0_0)] 38 (0,0)))∧qaa (w'.heap[gb179]?=some (.cells #[(.slice A1_0 l1_0.length c1_0)] 38 (0,0)))∧qaa (w'.heap[gb180]?=some (.cells #[(.slice none 0 0)] 38 (0,0)))∧qaa (Below w.heap.size w w'))
   case atStart=>exact ⟨(y181),(0),(by rfl),H',⟨Nat.le_refl _⟩,⟨by (with_reducible repeat (apply Kd.R_drew));exact Kd.R_mono HO183.out (fun _ hk=>hk.1)⟩,⟨by (with_reducible repeat (refine qab ?_));exact BK178.out⟩,⟨by (with_reducible repeat (refine qab ?_));exact BK179.out⟩,⟨by (with_reducible repeat (refine qab ?_));exact BK180.out⟩,⟨by repeat ((with_reducible exact HB.out))⟩⟩
   case round=>
    clear H'
    try clear c5b0
    try clear c5b1
    try clear c6b0
    try clear c6b1
    try clear hcz12_0
    try clear hcz14_0
    try clear hfz12_0
    try clear hfz14_0
    obtain ⟨x7_1,x19_1,rfl,HA,HK1,HO_7,BK178,BK179,BK180,HB⟩:=hrel
    have hl7_1:=(Kd.R_reads' HO_7.out).1
    rw [hl7_1] at HO_7
    (try simp only [hl7_1])
    cases gk with
    | zero=>exact absurd HA.out (by simp [qaj.l0])
    | succ k1=>
     have H:=HA.out
     clear HA
     simp only [qaj.l0] at H
     by_cases c18:x19_1<(y181.length:Int)
     ·rw [if_pos c18] at H
      have c18b0:decide (x19_1<(y181.length:Int))=true:=decide_eq_true c18
      (try (have c18b0q:=c18b0;rw [hl7_1] at c18b0q))
      clear c18
      replace H:=Option.bind_eq_some_iff.mp H
      obtain ⟨t184,A190,H⟩:=H
      replace H:((qch.f l1_0 x19_1).bind fun t185=>((qdi.f t184 t185).bind fun t186=>(if 0≤x19_1 then (if x19_1<(x7_1.length:Int) then (qaj.l0 k1 (x7_1.set (x19_1:Int).toNat t186) (y181.length:Int) (wrap64 (x19_1+1)) l0_0 l1_0) else (none)) else (none))))=some r:=H
      have A19:=qaa.mk A190
      clear A190
      replace H:=Option.bind_eq_some_iff.mp H
      obtain ⟨t185,A200,H⟩:=H
      replace H:((qdi.f t184 t185).bind fun t186=>(if 0≤x19_1 then (if x19_1<(x7_1.length:Int) then (qaj.l0 k1 (x7_1.set (x19_1:Int).toNat t186) (y181.length:Int) (wrap64 (x19_1+1)) l0_0 l1_0) else (none)) else (none)))=some r:=H
      have A20:=qaa.mk A200
      clear A200
      replace H:=Option.bind_eq_some_iff.mp H
      obtain ⟨t186,A210,H⟩:=H
      replace H:(if 0≤x19_1 then (if x19_1<(x7_1.length:Int) then (qaj.l0 k1 (x7_1.set (x19_1:Int).toNat t186) (y181.length:Int) (wrap64 (x19_1+1)) l0_0 l1_0) else (none)) else (none))=some r:=H
      have A21:=qaa.mk A210
      clear A210
      by_cases c22:0≤x19_1
      ·rw [if_pos c22] at H
       have c22b0:decide (0≤x19_1)=true:=decide_eq_true c22
       clear c22
       by_cases c23:x19_1<(x7_1.length:Int)
       ·rw [if_pos c23] at H
        have c23b0:decide (x19_1<(x7_1.length:Int))=true:=decide_eq_true c23
        clear c23
        obtain ⟨y187,hy187⟩:∃ y_:List Int,y_=(x7_1.set (x19_1:Int).toNat t186):=⟨_,rfl⟩
        replace H:(qaj.l0 k1 y187 (y181.length:Int) (wrap64 (x19_1+1)) l0_0 l1_0)=some r:=by (rw [hy187];with_reducible exact H)
        have Ny187:=qaa.mk hy187
        clear hy187
        have H':=qaa.mk H
        clear H
        try go_wp2
        have n0_:=qaa.mk (Kd.R_drew HO_7.out)
        have n1_:=qaa.mk (qab BK178.out)
        have n2_:=qaa.mk (qab BK179.out)
        have n3_:=qaa.mk (qab BK180.out)
        have n4_:=qaa.mk (qdb HB.out)
        clear HO_7
        clear BK178
        clear BK179
        clear BK180
        clear HB
        have HO_7:=n0_
        have BK178:=n1_
        have BK179:=n2_
        have BK180:=n3_
        have HB:=n4_
        clear n0_ n1_ n2_ n3_ n4_
        refine qfb (n:=12) (S:=fun w'=>w'.cell? ⟨gb178,0,none⟩=some (.slice A0_0 l0_0.length c0_0)∧w'.cell? ⟨gb179,0,none⟩=some (.slice A1_0 l1_0.length c1_0)) (ds:=[11]) #[false,false,false,false,false,false,false,false,false,false,false,false] (by kernel_rfl) rfl rfl ⟨(qad BK178.out 0).trans rfl,(qad BK179.out 0).trans rfl⟩ (fun hHeld=>?_);refine qee qaj.tab5 qaj.bits5 (fun HT_ HW_=>?_)
        generalize wr.drew=w25 at HO_7 BK178 BK179 BK180 HB hHeld ⊢
        refine qct (i:=0) (N:=some 22) (v:=?_) (a':=?_) #[true,false,false,false,false,false,false,false,false,false,false,false] rfl rfl (qck HT_.out (by kernel_rfl)) (fun _ _ _ h=>h) (Or.inl ⟨by rfl,?_⟩) ?_ ?_
        rotate_left
        ·intro w'
         go_simp
         with_reducible rfl
        rotate_left
        ·simp only [Act.put,List.setIfInBounds_toArray,List.set_cons_zero,List.set_cons_succ,qbk,qbm]
         rfl
        refine qct (i:=1) (N:=some 23) (v:=?_) (a':=?_) #[true,true,false,false,false,false,false,false,false,false,false,false] rfl rfl (qck HT_.out (by kernel_rfl)) (fun _ _ _ h=>h) (Or.inl ⟨by rfl,?_⟩) ?_ ?_
        rotate_left
        ·intro w'
         go_simp
         with_reducible rfl
        rotate_left
        ·simp only [Act.put,List.setIfInBounds_toArray,List.set_cons_zero,List.set_cons_succ,qbk,qbm]
         rfl
        refine qct (i:=2) (N:=some 24) (v:=?_) (a':=?_) #[true,true,true,false,false,false,false,false,false,false,false,false] rfl rfl (qck HT_.out (by kernel_rfl)) (fun _ _ _ h=>h) (Or.inl ⟨by rfl,?_⟩) ?_ ?_
        rotate_left
        ·intro w'
         go_simp
         with_reducible rfl
        rotate_left
        ·simp only [Act.put,List.setIfInBounds_toArray,List.set_cons_zero,List.set_cons_succ,qbk,qbm]
         rfl
        refine qct (i:=4) (N:=some 26) (v:=?_) (a':=?_) #[true,true,true,false,true,false,false,false,false,false,false,false] rfl rfl (qck HT_.out (by kernel_rfl)) (fun _ _ _ h=>h) (Or.inl ⟨by rfl,?_⟩) ?_ ?_
        rotate_left
        ·intro w'
         go_simp
         with_reducible rfl
        rotate_left
        ·simp only [Act.put,List.setIfInBounds_toArray,List.set_cons_zero,List.set_cons_succ,qbk,qbm]
         rfl
        refine qct (i:=7) (N:=some 29) (v:=?_) (a':=?_) #[true,true,true,false,true,false,false,true,false,false,false,false] rfl rfl (qck HT_.out (by kernel_rfl)) (fun _ _ _ h=>h) (Or.inl ⟨by rfl,?_⟩) ?_ ?_
        rotate_left
        ·intro w'
         go_simp
         with_reducible rfl
        rotate_left
        ·simp only [Act.put,List.setIfInBounds_toArray,List.set_cons_zero,List.set_cons_succ,qbk,qbm]
         rfl
        refine take_ (i:=3) (N:=some 25) (v:=?_) (a':=?_) #[true,true,true,true,true,false,false,true,false,false,false,false] rfl rfl (qcw HT_.out HW_.out (by kernel_rfl)) (fun _ _ _ h=>h) (Or.inl ⟨by rfl,?_⟩) hHeld ?_ ?_
        rotate_left
        ·rintro w' ⟨s0,s1⟩
         go_simp
         with_reducible rfl
        rotate_left
        ·simp only [Act.put,List.setIfInBounds_toArray,List.set_cons_zero,List.set_cons_succ,qbk,qbm]
         rfl
        refine take_ (i:=6) (N:=some 28) (v:=?_) (a':=?_) #[true,true,true,true,true,false,true,true,false,false,false,false] rfl rfl (qcw HT_.out HW_.out (by kernel_rfl)) (fun _ _ _ h=>h) (Or.inl ⟨by rfl,?_⟩) hHeld ?_ ?_
        rotate_left
        ·rintro w' ⟨s0,s1⟩
         go_simp
         with_reducible rfl
        rotate_left
        ·simp only [Act.put,List.setIfInBounds_toArray,List.set_cons_zero,List.set_cons_succ,qbk,qbm]
         rfl
        refine one_ (i:=5) (N:=some 27) #[true,true,true,true,true,true,true,true,false,false,false,false] rfl rfl (qdx HT_.out (by kernel_rfl)) (by decide) (fun K hK=>?_)
        refine qej Tryd.func65 (by kernel_rfl) rfl #[.agg #[.slice A0_0 l0_0.length c0_0],.int .i64 x19_1] (by rfl) rfl rfl (by (try simp only [List.map_toArray,List.map_cons,List.map_nil]);rfl) ?_
        with_reducible refine (qch.calls _ _ l0_0 x19_1 t184 _ ?side1 ?side2 A19.out).mono ?_
        (case side1=>repeat (exact (Kd.C_below HR0_0.out HB.out)))
        (case side2=>exact HC0_0.out)
        rintro e w26 ⟨rfl,hb⟩
        refine ⟨_,rfl,?_⟩
        have n0_:=qaa.mk (Kd.R_below (by (with_reducible repeat (apply Kd.R_drew));exact HO_7.out) hb)
        have n1_:=qaa.mk (qah (g:=gb178) (o:=.cells #[.slice A0_0 l0_0.length c0_0] 38 (0,0)) (by (with_reducible repeat (refine qab ?_));exact BK178.out) hb)
        have n2_:=qaa.mk (qah (g:=gb179) (o:=.cells #[.slice A1_0 l1_0.length c1_0] 38 (0,0)) (by (with_reducible repeat (refine qab ?_));exact BK179.out) hb)
        have n3_:=qaa.mk (qah (g:=gb180) (o:=.cells #[.slice none 0 0] 38 (0,0)) (by (with_reducible repeat (refine qab ?_));exact BK180.out) hb)
        have n4_:=qaa.mk (qal HB.out hb)
        clear HO_7
        clear BK178
        clear BK179
        clear BK180
        clear HB
        have HO_7:=n0_
        have BK178:=n1_
        have BK179:=n2_
        have BK180:=n3_
        have HB:=n4_
        clear n0_ n1_ n2_ n3_ n4_
        (try clear hb)
        refine hK.out _ _ ⟨(qad BK178.out 0).trans rfl,(qad BK179.out 0).trans rfl⟩ (fun hHeld=>?_)
        clear hK K
        refine qdt (a':=?_) ?_ ?_
        rotate_left
        ·show Act.put _ (some 27) _=_
         simp only [Act.put,List.setIfInBounds_toArray,List.set_cons_zero,List.set_cons_succ,qbk,qbm]
         rfl
        refine one_ (i:=8) (N:=some 30) #[true,true,true,true,true,true,true,true,true,false,false,false] rfl rfl (qdx HT_.out (by kernel_rfl)) (by decide) (fun K hK=>?_)
        refine qej Tryd.func65 (by kernel_rfl) rfl #[.agg #[.slice A1_0 l1_0.length c1_0],.int .i64 x19_1] (by rfl) rfl rfl (by (try simp only [List.map_toArray,List.map_cons,List.map_nil]);rfl) ?_
        with_reducible refine (qch.calls _ _ l1_0 x19_1 t185 _ ?side1 ?side2 A20.out).mono ?_
        (case side1=>repeat (exact (Kd.C_below HR1_0.out HB.out)))
        (case side2=>exact HC1_0.out)
        rintro e w27 ⟨rfl,hb⟩
        refine ⟨_,rfl,?_⟩
        have n0_:=qaa.mk (Kd.R_below (by (with_reducible repeat (apply Kd.R_drew));exact HO_7.out) hb)
        have n1_:=qaa.mk (qah (g:=gb178) (o:=.cells #[.slice A0_0 l0_0.length c0_0] 38 (0,0)) (by (with_reducible repeat (refine qab ?_));exact BK178.out) hb)
        have n2_:=qaa.mk (qah (g:=gb179) (o:=.cells #[.slice A1_0 l1_0.length c1_0] 38 (0,0)) (by (with_reducible repeat (refine qab ?_));exact BK179.out) hb)
        have n3_:=qaa.mk (qah (g:=gb180) (o:=.cells #[.slice none 0 0] 38 (0,0)) (by (with_reducible repeat (refine qab ?_));exact BK180.out) hb)
        have n4_:=qaa.mk (qal HB.out hb)
        clear HO_7
        clear BK178
        clear BK179
        clear BK180
        clear HB
        have HO_7:=n0_
        have BK178:=n1_
        have BK179:=n2_
        have BK180:=n3_
        have HB:=n4_
        clear n0_ n1_ n2_ n3_ n4_
        (try clear hb)
        refine hK.out _ _ ⟨(qad BK178.out 0).trans rfl,(qad BK179.out 0).trans rfl⟩ (fun hHeld=>?_)
        clear hK K
        refine qdt (a':=?_) ?_ ?_
        rotate_left
        ·show Act.put _ (some 30) _=_
         simp only [Act.put,List.setIfInBounds_toArray,List.set_cons_zero,List.set_cons_succ,qbk,qbm]
         rfl
        refine one_ (i:=9) (N:=some 31) #[true,true,true,true,true,true,true,true,true,true,false,false] rfl rfl (qdx HT_.out (by kernel_rfl)) (by decide) (fun K hK=>?_)
        refine goesT_ Tryd.func82 (by kernel_rfl) rfl #[.int .u64 t184,.int .u64 t185] (by rfl) rfl rfl rfl (by (try simp only [List.map_toArray,List.map_cons,List.map_nil]);rfl) ?_
        with_reducible refine (qdi.calls t184 t185 t186 _ A21.out).mono ?_
        rintro e w' ⟨rfl,⟨nd,rfl⟩⟩
        refine ⟨_,rfl,?_⟩
        have p24:0≤(x19_1:Int):=of_decide_eq_true (by (with_reducible assumption))
        have q24:(x19_1:Int)<((x7_1.length:Int):Int):=of_decide_eq_true (by (with_reducible assumption))
        obtain ⟨go24,co24,eo24,gb24,gl24,cl24,HG24⟩:=Kd.R_form HO_7.out (by omega)
        (cases eo24)
        have GB24:=qaa.mk gb24
        have GG24:=qaa.mk HG24
        clear gb24 gl24 HG24
        obtain ⟨hx24_0,hf24_0⟩:=Kd.R_celln 0 HO_7.out (x19_1:Int) p24 q24
        replace p24:=eq_true p24
        replace q24:=eq_true q24
        have HP28:=Kd.R_putn HO_7.out (x19_1:Int) t186
        rw [← Ny187.out] at HP28
        have HQ28:=qaa.mk HP28
        clear HP28
        refine hK.out _ _ ⟨(qad BK178.out 0).trans rfl,(qad BK179.out 0).trans rfl⟩ (fun hHeld=>?_)
        clear hK K
        refine qdt (a':=?_) ?_ ?_
        rotate_left
        ·show Act.put _ (some 31) _=_
         simp only [Act.put,List.setIfInBounds_toArray,List.set_cons_zero,List.set_cons_succ,qbk,qbm]
         rfl
        refine qct (i:=10) (N:=some 32) (v:=?_) (a':=?_) #[true,true,true,true,true,true,true,true,true,true,true,false] rfl rfl (qck HT_.out (by kernel_rfl)) (fun _ _ _ h=>h) (Or.inl ⟨by rfl,?_⟩) ?_ ?_
        rotate_left
        ·intro w'
         go_simp
         with_reducible rfl
        rotate_left
        ·simp only [Act.put,List.setIfInBounds_toArray,List.set_cons_zero,List.set_cons_succ,qbk,qbm]
         rfl
        refine last_ (i:=11) (N:=none) #[true,true,true,true,true,true,true,true,true,true,true,true] rfl rfl (qdx HT_.out (by kernel_rfl)) (by decide) (fun K hK=>?_)
        refine skip_ (w1:=?_) (by rfl) rfl ?_ ?_
        rotate_left
        ·go_simp
         rfl
        refine hK.out _ _ ?_
        clear hK K
        refine qfq (qfd HT_.out (by kernel_rfl)) ?_
        try go_wp2
        (try simp only [← hl7_1])
        go_roundg k1
        case measure=>have:=HK1.out;omega
        case rel=>exact ⟨(y187),(wrap64 (x19_1+1)),(by rfl),H',⟨by have:=HK1.out;omega⟩,⟨by (try simp only [hl7_1]);(with_reducible repeat (apply Kd.R_drew));exact HQ28.out⟩,⟨by (skip);(with_reducible repeat (refine qab ?_));refine qcx ?_ (by have h_:=Kd.R_ne HO_7.out BK178.out (by decide);intro e_;exact h_ (by rw [e_];rfl)) _;(with_reducible repeat (refine qde ?_ _));exact BK178.out⟩,⟨by (skip);(with_reducible repeat (refine qab ?_));refine qcx ?_ (by have h_:=Kd.R_ne HO_7.out BK179.out (by decide);intro e_;exact h_ (by rw [e_];rfl)) _;(with_reducible repeat (refine qde ?_ _));exact BK179.out⟩,⟨by (skip);(with_reducible repeat (refine qab ?_));refine qcx ?_ (by have h_:=Kd.R_ne HO_7.out BK180.out (by decide);intro e_;exact h_ (by rw [e_];rfl)) _;(with_reducible repeat (refine qde ?_ _));exact BK180.out⟩,⟨by repeat ((with_reducible first|exact HB.out|apply qav|refine qbx ?_ GB24.out))⟩⟩
       ·rw [if_neg c23] at H
        exact absurd H (by simp)
      ·rw [if_neg c22] at H
       exact absurd H (by simp)
     ·rw [if_neg c18] at H
      have c18b0:decide (x19_1<(y181.length:Int))=false:=decide_eq_false c18
      (try (have c18b0q:=c18b0;rw [hl7_1] at c18b0q))
      clear c18
      replace H:=Option.bind_eq_some_iff.mp H
      obtain ⟨t188,A290,H⟩:=H
      replace H:(some t188)=some r:=H
      have A29:=qaa.mk A290
      clear A290
      obtain rfl:=Option.some.inj H
      go_wp2_with (((with_reducible refine qbb (f:=62) rfl ?_);refine qcv (some 35) rfl rfl Tryd.func62 (by kernel_rfl) rfl #[.slice Ao17 x7_1.length co17] rfl (by (try simp only [List.map_toArray,List.map_cons,List.map_nil]);rfl) ?_;(with_reducible refine (qbc.calls k1 (fun k_=>some k_=(.slice Ao17 x7_1.length co17:Value).ownBlock) (.slice Ao17 x7_1.length co17) x7_1 t188 w _ ?side1 ?side2 A29.out).mono ?_);(case side1=>repeat ((with_reducible exact HB.out)));(case side2=>exact Kd.R_tight rfl HO_7.out);rintro e w30 ⟨v189,rfl,ho0,hb,hkp⟩;refine ⟨_,rfl,?_⟩;have n0_:=qaa.mk (qen (by (with_reducible repeat (refine qab ?_));exact BK178.out) hkp (fun hs_=>(fun e_=>(Kd.R_ne HO_7.out BK178.out (by decide)) e_) hs_));have n1_:=qaa.mk (qen (by (with_reducible repeat (refine qab ?_));exact BK179.out) hkp (fun hs_=>(fun e_=>(Kd.R_ne HO_7.out BK179.out (by decide)) e_) hs_));have n2_:=qaa.mk (qen (by (with_reducible repeat (refine qab ?_));exact BK180.out) hkp (fun hs_=>(fun e_=>(Kd.R_ne HO_7.out BK180.out (by decide)) e_) hs_));have n3_:=qaa.mk (Kd.V_mono (ok':=fun k_=>(w.heap.size≤k_)∧k_≠gb178∧k_≠gb179∧k_≠gb180) ho0 (fun k_ hk_=>⟨Or.elim hk_ (fun hs_=>(HO_7.out.1 k_ (hs_).symm)) (fun hn_=>(Nat.le_trans (qac HB.out) hn_)),Or.elim hk_ (fun hs_=>fun e_=>(Kd.R_ne HO_7.out BK178.out (by decide)) (by rw [← e_];exact hs_)) (fun hn_=>(Kd.freshB (g:=gb178) (o:=.cells #[.slice A0_0 l0_0.length c0_0] 38 (0,0)) (by (with_reducible repeat (refine qab ?_));exact BK178.out) k_ hn_)),Or.elim hk_ (fun hs_=>fun e_=>(Kd.R_ne HO_7.out BK179.out (by decide)) (by rw [← e_];exact hs_)) (fun hn_=>(Kd.freshB (g:=gb179) (o:=.cells #[.slice A1_0 l1_0.length c1_0] 38 (0,0)) (by (with_reducible repeat (refine qab ?_));exact BK179.out) k_ hn_)),Or.elim hk_ (fun hs_=>fun e_=>(Kd.R_ne HO_7.out BK180.out (by decide)) (by rw [← e_];exact hs_)) (fun hn_=>(Kd.freshB (g:=gb180) (o:=.cells #[.slice none 0 0] 38 (0,0)) (by (with_reducible repeat (refine qab ?_));exact BK180.out) k_ hn_))⟩));have n4_:=qaa.mk (hb);clear BK178;clear BK179;clear BK180;clear HB;clear HO_7;have BK178:=n0_;have BK179:=n1_;have BK180:=n2_;have HO190:=n3_;have HB:=n4_;clear n0_ n1_ n2_ n3_ n4_;(try clear hb);(try clear hkp);(try clear ho0);obtain ⟨Ao31,co31,eo31⟩:=Kd.V_slice HO190.out;subst eo31;have hnb32:=NB180_178.out;have hnc32:=NB178_180.out;have hnb33:=NB180_179.out;have hnc33:=NB179_180.out;have hcz34_0:w30.cell? ⟨gb180,0,none⟩=some (.slice none 0 0):=(qad BK180.out 0).trans rfl;have hfz34_0:=qaf BK180.out 0))
      refine bodyPost_ret (results_cell_row rfl _ _ gb180 38 #[.slice Ao31 t188.length co31] (0,0) _ rfl (by (with_reducible repeat (refine qab ?_));refine qcs (cs:=#[.slice none 0 0]) ?_ 0 _ rfl;(with_reducible repeat (refine qab ?_));exact BK180.out) Tryd.underlying38 rfl (by kernel_rfl)) rfl ?_
      exact ⟨_,by rfl,by (with_reducible repeat (apply Kd.V_drew));exact Kd.V_mono (Kd.V_far (p:=⟨gb180,0,none⟩) (Kd.V_mono HO190.out (fun k_ hk=>(⟨hk,hk.2.2.2⟩:_∧k_≠gb180))) (fun _ hk=>hk.2) (.slice Ao31 t188.length co31)) (fun _ hk=>hk.1.1),by repeat ((with_reducible first|exact HB.out|refine qbx ?_ GE180.out))⟩
  ·rw [if_neg c6] at H
   exact absurd H (by simp)
 ·rw [if_neg c5] at H
  exact absurd H (by simp)
end Go.Proofs.YtmfjmbcfaamebaaDoor.X
namespace Go.Proofs.YtmfjmbcfaamebaaDoor.X
open Go.RowKit Go.Proofs.YtmfjmbcfaamebaaDoorW.PrintWords Go.Proofs.YtmfjmbcfaamebaaDoorW.PrintLast Go.Proofs.YtmfjmbcfaamebaaDoorW.PrintMore
attribute [local go_sem] qbs qcb
set_option linter.unusedVariables false
set_option linter.unusedSimpArgs false
def qcr.f (k:Nat) (l0_0:List Int) (l1_0:List Int):Option (List Int):=(qaj.f k l0_0 l1_0).bind fun t194=>(some t194)
theorem qcr.mono:∀ a0 a1 k,LeO (qcr.f k a0 a1) (qcr.f (k+1) a0 a1):=by
 intro a0 a1 k
 unfold qcr.f
 repeat' first|(with_reducible exact qaj.mono _ _ _)|(with_reducible exact LeO.refl _)|(with_reducible refine LeO.bind ?_ (fun _=>?_))
set_option maxHeartbeats 8000000 in
set_option maxRecDepth 100000 in
theorem qcr.calls (k:Nat) (A0_0:Option Addr) (c0_0:Nat) (l0_0:List Int) (A1_0:Option Addr) (c1_0:Nat) (l1_0:List Int) (r:List Int) (w:World) (hr0_0:Kd.C (Kd.int .u64) w A0_0 l0_0.length l0_0) (hc0_0:l0_0.length≤c0_0) (hr1_0:Kd.C (Kd.int .u64) w A1_0 l1_0.length l1_0) (hc1_0:l1_0.length≤c1_0) (h:qcr.f k l0_0 l1_0=some r) :
  Calls Tryd.prog 64 #[.agg #[.slice A0_0 l0_0.length c0_0],.agg #[.slice A1_0 l1_0.length c1_0]] w fun e w'=>∃ v0_:Value,e=.returned (.agg #[v0_])∧Kd.V (Kd.int .u64) 77 w' w.heap.size (fun k_=>(w.heap.size≤k_)) v0_ r∧Below w.heap.size w w':=by
 have hu38:=Tryd.underlying38
 have HR0_0:=qaa.mk hr0_0
 have HC0_0:=qaa.mk hc0_0
 clear hr0_0 hc0_0
 have HR1_0:=qaa.mk hr1_0
 have HC1_0:=qaa.mk hc1_0
 clear hr1_0 hc1_0
 have HB:=qaa.mk (Below.refl w.heap.size w)
 have H:((qaj.f k l0_0 l1_0).bind fun t194=>(some t194))=some r:=h
 clear h
 replace H:=Option.bind_eq_some_iff.mp H
 obtain ⟨t194,A30,H⟩:=H
 replace H:(some t194)=some r:=H
 have A3:=qaa.mk A30
 clear A30
 obtain rfl:=Option.some.inj H
 go_enter Tryd.func64,Tryd.ntmps64
 go_wp2_with (first|((with_reducible refine qbf (N:=2) rfl ?_);refine qbr ?hg (N:=2) ?hd (cs:=#[.slice A0_0 l0_0.length c0_0]) (t:=38) ?hr ?_;(case hd=>rfl);(case hg=>rfl);(case hr=>(go_simp;done));intro gb191 hg w4 hbox hb;have BK191:=qaa.mk (hbox);have GW191:=qaa.mk ((by rw [hg];exact (qac HB.out):w.heap.size≤gb191));have GE191:=qaa.mk ((by rw [hg];exact (qac HB.out):w.heap.size≤gb191));replace HB:=qaa.mk (qal HB.out hb);clear hb hbox hg)|((with_reducible refine qbf (N:=3) rfl ?_);refine qbr ?hg (N:=3) ?hd (cs:=#[.slice A1_0 l1_0.length c1_0]) (t:=38) ?hr ?_;(case hd=>rfl);(case hg=>rfl);(case hr=>(go_simp;done));intro gb192 hg w5 hbox hb;have BK192:=qaa.mk (hbox);have GW192:=qaa.mk ((by rw [hg];exact (qac HB.out):w.heap.size≤gb192));have GE192:=qaa.mk ((by rw [hg];exact (qac HB.out):w.heap.size≤gb192));replace HB:=qaa.mk (qal HB.out hb);have NB191_192:=qaa.mk ((by rw [hg];exact Nat.ne_of_lt (qbn (g:=gb191) (o:=.cells #[.slice A0_0 l0_0.length c0_0] 38 (0,0)) (by (with_reducible repeat (refine qab ?_));exact BK191.out)):gb191≠gb192));have NB192_191:=qaa.mk ((by rw [hg];exact Nat.ne_of_gt (qbn (g:=gb191) (o:=.cells #[.slice A0_0 l0_0.length c0_0] 38 (0,0)) (by (with_reducible repeat (refine qab ?_));exact BK191.out)):gb192≠gb191));replace BK191:=qaa.mk (qah (g:=gb191) (o:=.cells #[.slice A0_0 l0_0.length c0_0] 38 (0,0)) (by (with_reducible repeat (refine qab ?_));exact BK191.out) hb);clear hb hbox hg)|((with_reducible refine qbf (N:=4) rfl ?_);refine qbr ?hg (N:=4) ?hd (cs:=#[.slice none 0 0]) (t:=38) ?hr ?_;(case hd=>rfl);(case hg=>rfl);(case hr=>(go_simp;done));intro gb193 hg w6 hbox hb;have BK193:=qaa.mk (hbox);have GW193:=qaa.mk ((by rw [hg];exact (qac HB.out):w.heap.size≤gb193));have GE193:=qaa.mk ((by rw [hg];exact (qac HB.out):w.heap.size≤gb193));replace HB:=qaa.mk (qal HB.out hb);have NB191_193:=qaa.mk ((by rw [hg];exact Nat.ne_of_lt (qbn (g:=gb191) (o:=.cells #[.slice A0_0 l0_0.length c0_0] 38 (0,0)) (by (with_reducible repeat (refine qab ?_));exact BK191.out)):gb191≠gb193));have NB193_191:=qaa.mk ((by rw [hg];exact Nat.ne_of_gt (qbn (g:=gb191) (o:=.cells #[.slice A0_0 l0_0.length c0_0] 38 (0,0)) (by (with_reducible repeat (refine qab ?_));exact BK191.out)):gb193≠gb191));replace BK191:=qaa.mk (qah (g:=gb191) (o:=.cells #[.slice A0_0 l0_0.length c0_0] 38 (0,0)) (by (with_reducible repeat (refine qab ?_));exact BK191.out) hb);have NB192_193:=qaa.mk ((by rw [hg];exact Nat.ne_of_lt (qbn (g:=gb192) (o:=.cells #[.slice A1_0 l1_0.length c1_0] 38 (0,0)) (by (with_reducible repeat (refine qab ?_));exact BK192.out)):gb192≠gb193));have NB193_192:=qaa.mk ((by rw [hg];exact Nat.ne_of_gt (qbn (g:=gb192) (o:=.cells #[.slice A1_0 l1_0.length c1_0] 38 (0,0)) (by (with_reducible repeat (refine qab ?_));exact BK192.out)):gb193≠gb192));replace BK192:=qaa.mk (qah (g:=gb192) (o:=.cells #[.slice A1_0 l1_0.length c1_0] 38 (0,0)) (by (with_reducible repeat (refine qab ?_));exact BK192.out) hb);clear hb hbox hg;have hnb7:=NB191_192.out;have hnc7:=NB192_191.out;have hnb8:=NB191_193.out;have hnc8:=NB193_191.out;have hcz9_0:w6.cell? ⟨gb191,0,none⟩=some (.slice A0_0 l0_0.length c0_0):=(qad BK191.out 0).trans rfl;have hfz9_0:=qaf BK191.out 0;have hnb10:=NB192_193.out;have hnc10:=NB193_192.out;have hcz11_0:w6.cell? ⟨gb192,0,none⟩=some (.slice A1_0 l1_0.length c1_0):=(qad BK192.out 0).trans rfl;have hfz11_0:=qaf BK192.out 0)|((with_reducible refine qbb (f:=78) rfl ?_);refine qcv (some 7) rfl rfl Tryd.func78 (by kernel_rfl) rfl #[.agg #[.slice A0_0 l0_0.length c0_0],.agg #[.slice A1_0 l1_0.length c1_0],.func (.func 82) #[] #[]] rfl (by (try simp only [List.map_toArray,List.map_cons,List.map_nil]);rfl) ?_;(with_reducible refine (qaj.calls k _ _ l0_0 _ _ l1_0  t194 _ ?side1 ?side2 ?side3 ?side4 A3.out).mono ?_);(case side1=>repeat (exact (Kd.C_below HR0_0.out HB.out)));(case side2=>exact HC0_0.out);(case side3=>repeat (exact (Kd.C_below HR1_0.out HB.out)));(case side4=>exact HC1_0.out);rintro e w12 ⟨v195,rfl,ho0,hb⟩;refine ⟨_,rfl,?_⟩;have HO196:=qaa.mk (Kd.V_lower (Kd.V_mono (ok':=fun k_=>(w.heap.size≤k_)∧k_≠gb191∧k_≠gb192∧k_≠gb193) ho0 (fun k_ hk_=>⟨(Nat.le_trans (qac HB.out) hk_),(Kd.freshB (g:=gb191) (o:=.cells #[.slice A0_0 l0_0.length c0_0] 38 (0,0)) (by (with_reducible repeat (refine qab ?_));exact BK191.out) k_ hk_),(Kd.freshB (g:=gb192) (o:=.cells #[.slice A1_0 l1_0.length c1_0] 38 (0,0)) (by (with_reducible repeat (refine qab ?_));exact BK192.out) k_ hk_),(Kd.freshB (g:=gb193) (o:=.cells #[.slice none 0 0] 38 (0,0)) (by (with_reducible repeat (refine qab ?_));exact BK193.out) k_ hk_)⟩)) (qac HB.out));replace BK191:=qaa.mk (qah (g:=gb191) (o:=.cells #[.slice A0_0 l0_0.length c0_0] 38 (0,0)) (by (with_reducible repeat (refine qab ?_));exact BK191.out) hb);replace BK192:=qaa.mk (qah (g:=gb192) (o:=.cells #[.slice A1_0 l1_0.length c1_0] 38 (0,0)) (by (with_reducible repeat (refine qab ?_));exact BK192.out) hb);replace BK193:=qaa.mk (qah (g:=gb193) (o:=.cells #[.slice none 0 0] 38 (0,0)) (by (with_reducible repeat (refine qab ?_));exact BK193.out) hb);replace HB:=qaa.mk (qal HB.out hb);(try clear hb);(try clear ho0);obtain ⟨Ao13,co13,eo13⟩:=Kd.V_slice HO196.out;subst eo13;have hcz14_0:w12.cell? ⟨gb193,0,none⟩=some (.slice none 0 0):=(qad BK193.out 0).trans rfl;have hfz14_0:=qaf BK193.out 0))
 refine bodyPost_ret (results_cell_row rfl _ _ gb193 38 #[.slice Ao13 t194.length co13] (0,0) _ rfl (by (with_reducible repeat (refine qab ?_));refine qcs (cs:=#[.slice none 0 0]) ?_ 0 _ rfl;(with_reducible repeat (refine qab ?_));exact BK193.out) Tryd.underlying38 rfl (by kernel_rfl)) rfl ?_
 exact ⟨_,by rfl,by (with_reducible repeat (apply Kd.V_drew));exact Kd.V_mono (Kd.V_far (p:=⟨gb193,0,none⟩) (Kd.V_mono HO196.out (fun k_ hk=>(⟨hk,hk.2.2.2⟩:_∧k_≠gb193))) (fun _ hk=>hk.2) (.slice Ao13 t194.length co13)) (fun _ hk=>hk.1.1),by repeat ((with_reducible first|exact HB.out|refine qbx ?_ GE193.out))⟩
end Go.Proofs.YtmfjmbcfaamebaaDoor.X
namespace Go.Proofs.YtmfjmbcfaamebaaDoor.X
open Go.RowKit Go.Proofs.YtmfjmbcfaamebaaDoorW.PrintWords Go.Proofs.YtmfjmbcfaamebaaDoorW.PrintLast Go.Proofs.YtmfjmbcfaamebaaDoorW.PrintMore
attribute [local go_sem] qbs qcb
set_option linter.unusedVariables false
set_option linter.unusedSimpArgs false
def qby.f (k:Nat) (l0_0:List Int) (a1:Int):Option (List Int):=(qax.f k (([a1]:List Int))).bind fun t202=>((qcr.f k l0_0 t202).bind fun t205=>(some t205))
theorem qby.mono:∀ a0 a1 k,LeO (qby.f k a0 a1) (qby.f (k+1) a0 a1):=by
 intro a0 a1 k
 unfold qby.f
 repeat' first|(with_reducible exact qax.mono _ _)|(with_reducible exact qcr.mono _ _ _)|(with_reducible exact LeO.refl _)|(with_reducible refine LeO.bind ?_ (fun _=>?_))
set_option maxHeartbeats 8000000 in
set_option maxRecDepth 100000 in
theorem qby.calls (k:Nat) (A0_0:Option Addr) (c0_0:Nat) (l0_0:List Int) (a1:Int) (r:List Int) (w:World) (hr0_0:Kd.C (Kd.int .u64) w A0_0 l0_0.length l0_0) (hc0_0:l0_0.length≤c0_0) (h:qby.f k l0_0 a1=some r) :
  Calls Tryd.prog 37 #[.agg #[.slice A0_0 l0_0.length c0_0],.int .i64 a1] w fun e w'=>∃ v0_:Value,e=.returned (.agg #[v0_])∧Kd.V (Kd.int .u64) 77 w' w.heap.size (fun k_=>(w.heap.size≤k_)) v0_ r∧Below w.heap.size w w':=by
 have hu38:=Tryd.underlying38
 have HR0_0:=qaa.mk hr0_0
 have HC0_0:=qaa.mk hc0_0
 clear hr0_0 hc0_0
 have HB:=qaa.mk (Below.refl w.heap.size w)
 have H:((qax.f k (([a1]:List Int))).bind fun t202=>((qcr.f k l0_0 t202).bind fun t205=>(some t205)))=some r:=h
 clear h
 obtain ⟨y199,hy199⟩:∃ y_:List Int,y_=(([a1]:List Int)):=⟨_,rfl⟩
 replace H:((qax.f k y199).bind fun t202=>((qcr.f k l0_0 t202).bind fun t205=>(some t205)))=some r:=by (rw [hy199];with_reducible exact H)
 have Ny199:=qaa.mk hy199
 clear hy199
 replace H:=Option.bind_eq_some_iff.mp H
 obtain ⟨t202,A30,H⟩:=H
 replace H:((qcr.f k l0_0 t202).bind fun t205=>(some t205))=some r:=H
 have A3:=qaa.mk A30
 clear A30
 replace H:=Option.bind_eq_some_iff.mp H
 obtain ⟨t205,A40,H⟩:=H
 replace H:(some t205)=some r:=H
 have A4:=qaa.mk A40
 clear A40
 obtain rfl:=Option.some.inj H
 go_enter Tryd.func37,Tryd.ntmps37
 try go_wp2_with (first|((with_reducible refine qbf (N:=2) rfl ?_);refine qbr ?hg (N:=2) ?hd (cs:=#[.slice A0_0 l0_0.length c0_0]) (t:=38) ?hr ?_;(case hd=>rfl);(case hg=>rfl);(case hr=>(go_simp;done));intro gb197 hg w5 hbox hb;have BK197:=qaa.mk (hbox);have GW197:=qaa.mk ((by rw [hg];exact (qac HB.out):w.heap.size≤gb197));have GE197:=qaa.mk ((by rw [hg];exact (qac HB.out):w.heap.size≤gb197));replace HB:=qaa.mk (qal HB.out hb);clear hb hbox hg)|((with_reducible refine qbf (N:=4) rfl ?_);refine qbr ?hg (N:=4) ?hd (cs:=#[.slice none 0 0]) (t:=38) ?hr ?_;(case hd=>rfl);(case hg=>rfl);(case hr=>(go_simp;done));intro gb198 hg w6 hbox hb;have BK198:=qaa.mk (hbox);have GW198:=qaa.mk ((by rw [hg];exact (qac HB.out):w.heap.size≤gb198));have GE198:=qaa.mk ((by rw [hg];exact (qac HB.out):w.heap.size≤gb198));replace HB:=qaa.mk (qal HB.out hb);have NB197_198:=qaa.mk ((by rw [hg];exact Nat.ne_of_lt (qbn (g:=gb197) (o:=.cells #[.slice A0_0 l0_0.length c0_0] 38 (0,0)) (by (with_reducible repeat (refine qab ?_));exact BK197.out)):gb197≠gb198));have NB198_197:=qaa.mk ((by rw [hg];exact Nat.ne_of_gt (qbn (g:=gb197) (o:=.cells #[.slice A0_0 l0_0.length c0_0] 38 (0,0)) (by (with_reducible repeat (refine qab ?_));exact BK197.out)):gb198≠gb197));replace BK197:=qaa.mk (qah (g:=gb197) (o:=.cells #[.slice A0_0 l0_0.length c0_0] 38 (0,0)) (by (with_reducible repeat (refine qab ?_));exact BK197.out) hb);clear hb hbox hg))
 have n0_:=qaa.mk (qab BK197.out)
 have n1_:=qaa.mk (qab BK198.out)
 have n2_:=qaa.mk (qdb HB.out)
 clear BK197
 clear BK198
 clear HB
 have BK197:=n0_
 have BK198:=n1_
 have HB:=n2_
 clear n0_ n1_ n2_
 refine qfb (n:=6) (S:=fun w'=>w'.cell? ⟨gb197,0,none⟩=some (.slice A0_0 l0_0.length c0_0)) (ds:=[]) #[false,false,false,false,false,false] (by kernel_rfl) rfl rfl ((qad BK197.out 0).trans rfl) (fun hHeld=>?_)
 generalize w6.drew=w7 at BK197 BK198 HB hHeld ⊢
 refine qct (i:=1) (N:=some 6) (v:=?_) (a':=?_) #[false,true,false,false,false,false] rfl rfl (by kernel_rfl) (fun _ _ _ h=>h) (Or.inl ⟨by rfl,?_⟩) ?_ ?_
 rotate_left
 ·intro w'
  go_simp
  with_reducible rfl
 rotate_left
 ·simp only [Act.put,List.setIfInBounds_toArray,List.set_cons_zero,List.set_cons_succ,qbk,qbm]
  rfl
 refine take_ (i:=0) (N:=some 5) (v:=?_) (a':=?_) #[true,true,false,false,false,false] rfl rfl (by kernel_rfl) (fun _ _ _ h=>h) (Or.inl ⟨by rfl,?_⟩) hHeld ?_ ?_
 rotate_left
 ·intro w' s0
  go_simp
  with_reducible rfl
 rotate_left
 ·simp only [Act.put,List.setIfInBounds_toArray,List.set_cons_zero,List.set_cons_succ,qbk,qbm]
  rfl
 refine one_ (i:=2) (N:=some 7) #[true,true,true,false,false,false] rfl rfl (by kernel_rfl) (by decide) (fun K hK=>?_)
 refine Kd.R_lit_step (Kd.int .i64) _ 3 ?hg (N:=7) ?hd (xs:=([a1]:List Int)) (inner:=[.int .i64 a1]) (ok:=fun _=>True) (okp:=fun _=>True) ?hr ?hp (fun _ hk=>hk) trivial (Below.refl _ _) (Nat.le_refl _) (by simp) ?_;(case hd=>rfl);(case hg=>rfl);(case hr=>(go_simp;done));(case hp=>exact (Reps.one (show Kd.M (Kd.int .i64) _ _ _ a1 [.int .i64 a1] from rfl) (Reps.none _ _)))
 intro v200 w8 ho9 hb hg_ hnew_
 clear hg_ hnew_
 (rw [← Ny199.out] at ho9)
 have n0_:=qaa.mk (Kd.R_lower (Kd.R_newM (M:=fun k_=>(w.heap.size≤k_)) ho9 (qac HB.out) (fun k_ h_=>h_)) (qac HB.out))
 have n1_:=qaa.mk (qah (g:=gb197) (o:=.cells #[.slice A0_0 l0_0.length c0_0] 38 (0,0)) (by (with_reducible repeat (refine qab ?_));exact BK197.out) hb)
 have n2_:=qaa.mk (qah (g:=gb198) (o:=.cells #[.slice none 0 0] 38 (0,0)) (by (with_reducible repeat (refine qab ?_));exact BK198.out) hb)
 have n3_:=qaa.mk (qal HB.out hb)
 clear BK197
 clear BK198
 clear HB
 have HO201:=n0_
 have BK197:=n1_
 have BK198:=n2_
 have HB:=n3_
 clear n0_ n1_ n2_ n3_
 clear hb ho9
 obtain ⟨Ao10,co10,eo10⟩:=Kd.R_slice HO201.out
 (subst eo10)
 refine hK.out _ _ ((qad BK197.out 0).trans rfl) (fun hHeld=>?_)
 clear hK K
 refine qdt (a':=?_) ?_ ?_
 rotate_left
 ·show Act.put _ (some 7) _=_
  simp only [Act.put,List.setIfInBounds_toArray,List.set_cons_zero,List.set_cons_succ,qbk,qbm]
  rfl
 refine one_ (i:=3) (N:=some 8) #[true,true,true,true,false,false] rfl rfl (by kernel_rfl) (by decide) (fun K hK=>?_)
 refine qej Tryd.func34 (by kernel_rfl) rfl #[.slice Ao10 y199.length co10] (by rfl) rfl rfl (by (try simp only [List.map_toArray,List.map_cons,List.map_nil]);rfl) ?_
 with_reducible refine (qax.calls k _ _ y199 t202 _ ?side1 ?side2 A3.out).mono ?_
 (case side1=>repeat (exact (Kd.R_reads' HO201.out).2.2))
 (case side2=>exact (Kd.R_reads' HO201.out).2.1)
 rintro e w11 ⟨v203,rfl,ho0,hb⟩
 refine ⟨_,rfl,?_⟩
 have n0_:=qaa.mk (Kd.R_below (by (with_reducible repeat (apply Kd.R_drew));exact HO201.out) hb)
 have n1_:=qaa.mk (Kd.V_lower (Kd.V_mono (ok':=fun k_=>(w.heap.size≤k_)∧some k_≠(.slice Ao10 y199.length co10:Value).ownBlock∧k_≠gb197∧k_≠gb198) ho0 (fun k_ hk_=>⟨(Nat.le_trans (qac HB.out) hk_),(Kd.fresh' (Kd.R_lt (by (with_reducible repeat (apply Kd.R_drew));exact HO201.out)) k_ hk_),(Kd.freshB (g:=gb197) (o:=.cells #[.slice A0_0 l0_0.length c0_0] 38 (0,0)) (by (with_reducible repeat (refine qab ?_));exact BK197.out) k_ hk_),(Kd.freshB (g:=gb198) (o:=.cells #[.slice none 0 0] 38 (0,0)) (by (with_reducible repeat (refine qab ?_));exact BK198.out) k_ hk_)⟩)) (qac HB.out))
 have n2_:=qaa.mk (qah (g:=gb197) (o:=.cells #[.slice A0_0 l0_0.length c0_0] 38 (0,0)) (by (with_reducible repeat (refine qab ?_));exact BK197.out) hb)
 have n3_:=qaa.mk (qah (g:=gb198) (o:=.cells #[.slice none 0 0] 38 (0,0)) (by (with_reducible repeat (refine qab ?_));exact BK198.out) hb)
 have n4_:=qaa.mk (qal HB.out hb)
 clear HO201
 clear BK197
 clear BK198
 clear HB
 have HO201:=n0_
 have HO204:=n1_
 have BK197:=n2_
 have BK198:=n3_
 have HB:=n4_
 clear n0_ n1_ n2_ n3_ n4_
 (try clear hb)
 (try clear ho0)
 obtain ⟨Ao12,co12,eo12⟩:=Kd.V_slice HO204.out
 (subst eo12)
 refine hK.out _ _ ((qad BK197.out 0).trans rfl) (fun hHeld=>?_)
 clear hK K
 refine qdt (a':=?_) ?_ ?_
 rotate_left
 ·show Act.put _ (some 8) _=_
  simp only [Act.put,List.setIfInBounds_toArray,List.set_cons_zero,List.set_cons_succ,qbk,qbm]
  rfl
 refine one_ (i:=4) (N:=some 9) #[true,true,true,true,true,false] rfl rfl (by kernel_rfl) (by decide) (fun K hK=>?_)
 refine qej Tryd.func64 (by kernel_rfl) rfl #[.agg #[.slice A0_0 l0_0.length c0_0],.agg #[.slice Ao12 t202.length co12]] (by rfl) rfl rfl (by (try simp only [List.map_toArray,List.map_cons,List.map_nil]);rfl) ?_
 with_reducible refine (qcr.calls k _ _ l0_0 _ _ t202 t205 _ ?side1 ?side2 ?side3 ?side4 A4.out).mono ?_
 (case side1=>repeat (exact (Kd.C_below HR0_0.out HB.out)))
 (case side2=>exact HC0_0.out)
 (case side3=>repeat (exact (Kd.V_reads' HO204.out).2.2))
 (case side4=>exact (Kd.V_reads' HO204.out).2.1)
 rintro e w13 ⟨v206,rfl,ho0,hb⟩
 refine ⟨_,rfl,?_⟩
 have n0_:=qaa.mk (Kd.R_below (by (with_reducible repeat (apply Kd.R_drew));exact HO201.out) hb)
 have n1_:=qaa.mk (Kd.V_below (by (with_reducible repeat (apply Kd.V_drew));exact HO204.out) hb)
 have n2_:=qaa.mk (Kd.V_lower (Kd.V_mono (ok':=fun k_=>(w.heap.size≤k_)∧some k_≠(.slice Ao10 y199.length co10:Value).ownBlock∧k_≠gb197∧k_≠gb198) ho0 (fun k_ hk_=>⟨(Nat.le_trans (qac HB.out) hk_),(Kd.fresh' (Kd.R_lt (by (with_reducible repeat (apply Kd.R_drew));exact HO201.out)) k_ hk_),(Kd.freshB (g:=gb197) (o:=.cells #[.slice A0_0 l0_0.length c0_0] 38 (0,0)) (by (with_reducible repeat (refine qab ?_));exact BK197.out) k_ hk_),(Kd.freshB (g:=gb198) (o:=.cells #[.slice none 0 0] 38 (0,0)) (by (with_reducible repeat (refine qab ?_));exact BK198.out) k_ hk_)⟩)) (qac HB.out))
 have n3_:=qaa.mk (qah (g:=gb197) (o:=.cells #[.slice A0_0 l0_0.length c0_0] 38 (0,0)) (by (with_reducible repeat (refine qab ?_));exact BK197.out) hb)
 have n4_:=qaa.mk (qah (g:=gb198) (o:=.cells #[.slice none 0 0] 38 (0,0)) (by (with_reducible repeat (refine qab ?_));exact BK198.out) hb)
 have n5_:=qaa.mk (qal HB.out hb)
 clear HO201
 clear HO204
 clear BK197
 clear BK198
 clear HB
 have HO201:=n0_
 have HO204:=n1_
 have HO207:=n2_
 have BK197:=n3_
 have BK198:=n4_
 have HB:=n5_
 clear n0_ n1_ n2_ n3_ n4_ n5_
 (try clear hb)
 (try clear ho0)
 obtain ⟨Ao14,co14,eo14⟩:=Kd.V_slice HO207.out
 (subst eo14)
 refine hK.out _ _ ((qad BK197.out 0).trans rfl) (fun hHeld=>?_)
 clear hK K
 refine qdt (a':=?_) ?_ ?_
 rotate_left
 ·show Act.put _ (some 9) _=_
  simp only [Act.put,List.setIfInBounds_toArray,List.set_cons_zero,List.set_cons_succ,qbk,qbm]
  rfl
 refine one_ (i:=5) (N:=none) #[true,true,true,true,true,true] rfl rfl (by kernel_rfl) (by decide) (fun K hK=>?_)
 have hs15:w13.cell? ⟨gb198,0,none⟩=some (.slice none 0 0):=(qad BK198.out 0).trans rfl
 have hfs15:=qaf BK198.out 0
 have hns15_0:=NB197_198.out
 have hms15_0:=NB198_197.out
 refine skip_ (w1:=?_) (by rfl) rfl ?_ ?_
 rotate_left
 ·go_simp
  rfl
 refine hK.out _ _ (((cell_far (p:=⟨gb198,_,none⟩) NB197_198.out _).trans (hHeld))) (fun hHeld=>?_)
 clear hK K
 refine qfq (by kernel_rfl) ?_
 try go_wp2
 refine bodyPost_ret (results_cell_row rfl _ _ gb198 38 #[.slice Ao14 t205.length co14] (0,0) _ rfl (by (with_reducible repeat (refine qab ?_));refine qcs (cs:=#[.slice none 0 0]) ?_ 0 _ rfl;(with_reducible repeat (refine qab ?_));exact BK198.out) Tryd.underlying38 rfl (by kernel_rfl)) rfl ?_
 exact ⟨_,by rfl,by (with_reducible repeat (apply Kd.V_drew));exact Kd.V_mono (Kd.V_far (p:=⟨gb198,0,none⟩) (Kd.V_mono HO207.out (fun k_ hk=>(⟨hk,hk.2.2.2⟩:_∧k_≠gb198))) (fun _ hk=>hk.2) (.slice Ao14 t205.length co14)) (fun _ hk=>hk.1.1),by repeat ((with_reducible first|exact HB.out|refine qbx ?_ GE198.out))⟩
end Go.Proofs.YtmfjmbcfaamebaaDoor.X
namespace Go.Proofs.YtmfjmbcfaamebaaDoor.X
open Go.RowKit Go.Proofs.YtmfjmbcfaamebaaDoorW.PrintWords Go.Proofs.YtmfjmbcfaamebaaDoorW.PrintLast Go.Proofs.YtmfjmbcfaamebaaDoorW.PrintMore
attribute [local go_sem] qbs qcb
set_option linter.unusedVariables false
set_option linter.unusedSimpArgs false
def qdo.f (a0:Int) (a1:Int):Option (Int):=some (Go.bits .andNot .u64 a0 a1)
set_option maxHeartbeats 8000000 in
set_option maxRecDepth 100000 in
theorem qdo.calls (a0:Int) (a1:Int) (r:Int) (w:World) (h:qdo.f a0 a1=some r) :
  Calls Tryd.prog 79 #[.int .u64 a0,.int .u64 a1] w fun e w'=>e=.returned (.int .u64 r)∧qdm w w':=by
 have H:(some (Go.bits .andNot .u64 a0 a1))=some r:=h
 clear h
 obtain rfl:=Option.some.inj H
 go_enter Tryd.func79,Tryd.ntmps79
 go_wp2
 go_ret
 exact ⟨by rfl,by repeat (exact qdm.refl _)⟩
end Go.Proofs.YtmfjmbcfaamebaaDoor.X
namespace Go.Proofs.YtmfjmbcfaamebaaDoor.X
open Go.RowKit Go.Proofs.YtmfjmbcfaamebaaDoorW.PrintWords Go.Proofs.YtmfjmbcfaamebaaDoorW.PrintLast Go.Proofs.YtmfjmbcfaamebaaDoorW.PrintMore
attribute [local go_sem] qbs qcb
set_option linter.unusedVariables false
set_option linter.unusedSimpArgs false
def qan.l0:Nat→List Int→Int→Int→List Int→List Int→Option (List Int)
 | 0,_,_,_,_,_=>none
 | k+1,x7,x18,x19,x166000,x167000=>if x19<x18 then ((qch.f x166000 x19).bind fun t171=>((qch.f x167000 x19).bind fun t172=>((qdo.f t171 t172).bind fun t173=>(if 0≤x19 then (if x19<(x7.length:Int) then (qan.l0 k (x7.set (x19:Int).toNat t173) x18 (wrap64 (x19+1)) x166000 x167000) else (none)) else (none))))) else ((qbc.f k x7).bind fun t175=>(some t175))
def qan.f (k:Nat) (l0_0:List Int) (l1_0:List Int)  : Option (List Int):=if 0≤(mx (l0_0.length:Int) (l1_0.length:Int)) then (if (mx (l0_0.length:Int) (l1_0.length:Int):Int).toNat≤35184372088832 then ((some (List.replicate (mx (l0_0.length:Int) (l1_0.length:Int):Int).toNat 0:List Int)).bind fun y168=>(qan.l0 k y168 (y168.length:Int) 0 l0_0 l1_0)) else (none)) else (none)
theorem qan.mono_l:∀ k,(∀ y0 y1 y2 y3 y4,LeO (qan.l0 k y0 y1 y2 y3 y4) (qan.l0 (k+1) y0 y1 y2 y3 y4))
 | 0=>fun _ _ _ _ _ r h=>by simp [qan.l0] at h
 | k+1=>by
  have ih0:=qan.mono_l k
  ·intro y0 y1 y2 y3 y4
   unfold qan.l0
   repeat' first|(with_reducible exact ih0 _ _ _ _ _)|(with_reducible exact qbc.mono _ _)|(with_reducible exact LeO.refl _)|(with_reducible refine LeO.ite ?_ ?_)|(with_reducible refine LeO.bind ?_ (fun _=>?_))
theorem qan.mono:∀ a0 a1 k,LeO (qan.f k a0 a1) (qan.f (k+1) a0 a1):=by
 intro a0 a1 k
 have ih0:=qan.mono_l k
 unfold qan.f
 repeat' first|(with_reducible exact ih0 _ _ _ _ _)|(with_reducible exact LeO.refl _)|(with_reducible refine LeO.ite ?_ ?_)|(with_reducible refine LeO.bind ?_ (fun _=>?_))
def qan.T5:Bool×List (List Nat×List Nat):=(true,[([],[]),([],[]),([],[]),([],[]),([],[]),([3,4],[3,4]),([],[]),([],[]),([6,7,5],[6,7]),([2,5,8,8],[2,5,8]),([0,1,0,1,2,3,4,5,6,7,8,9],[0,1]),([10,9,9,0,1,2,3,4,5,6,7,8,9],[9,10])])
def qan.B5:List Nat:=[0,0,0,0,0,24,0,0,248,508,1023,2047]
theorem qan.tab5:rtab .any (opsOf Tryd.f78 5)=qan.T5:=by kernel_rfl
theorem qan.bits5:qeu qan.T5.2 qan.B5=true:=by kernel_rfl
set_option maxHeartbeats 8000000 in
set_option maxRecDepth 100000 in
theorem qan.calls (k:Nat) (A0_0:Option Addr) (c0_0:Nat) (l0_0:List Int) (A1_0:Option Addr) (c1_0:Nat) (l1_0:List Int)  (r:List Int) (w:World) (hr0_0:Kd.C (Kd.int .u64) w A0_0 l0_0.length l0_0) (hc0_0:l0_0.length≤c0_0) (hr1_0:Kd.C (Kd.int .u64) w A1_0 l1_0.length l1_0) (hc1_0:l1_0.length≤c1_0) (h:qan.f k l0_0 l1_0=some r) :
  Calls Tryd.prog 78 #[.agg #[.slice A0_0 l0_0.length c0_0],.agg #[.slice A1_0 l1_0.length c1_0],.func (.func 79) #[] #[]] w fun e w'=>∃ v0_:Value,e=.returned (.agg #[v0_])∧Kd.V (Kd.int .u64) 77 w' w.heap.size (fun k_=>(w.heap.size≤k_)) v0_ r∧Below w.heap.size w w':=by
 have hu38:=Tryd.underlying38
 have HR0_0:=qaa.mk hr0_0
 have HC0_0:=qaa.mk hc0_0
 clear hr0_0 hc0_0
 have HR1_0:=qaa.mk hr1_0
 have HC1_0:=qaa.mk hc1_0
 clear hr1_0 hc1_0
 have HB:=qaa.mk (Below.refl w.heap.size w)
 have H:(if 0≤(mx (l0_0.length:Int) (l1_0.length:Int)) then (if (mx (l0_0.length:Int) (l1_0.length:Int):Int).toNat≤35184372088832 then ((some (List.replicate (mx (l0_0.length:Int) (l1_0.length:Int):Int).toNat 0:List Int)).bind fun y168=>(qan.l0 k y168 (y168.length:Int) 0 l0_0 l1_0)) else (none)) else (none))=some r:=h
 clear h
 obtain ⟨ji4,hji4⟩:∃ j_:Int,(mx (l0_0.length:Int) (l1_0.length:Int))=j_:=⟨_,rfl⟩
 replace H:(if 0≤(ji4) then (if (ji4:Int).toNat≤35184372088832 then ((some (List.replicate (ji4:Int).toNat 0:List Int)).bind fun y168=>(qan.l0 k y168 (y168.length:Int) 0 l0_0 l1_0)) else (none)) else (none))=some r:=by (rw [hji4] at H;exact H)
 (try (have hji4l:0≤ji4:=by (rw [← hji4];unfold mx;(repeat' split) <;> omega)))
 (try (have hji4m:0≤ji4:=by omega))
 have hji4n:(if l0_0.length<l1_0.length then (l1_0.length:Int) else (l0_0.length:Int))=ji4:=by have h_:(if (l0_0.length:Int)<(l1_0.length:Int) then (l1_0.length:Int) else (l0_0.length:Int))=ji4:=hji4;simp only [Int.ofNat_lt] at h_;exact h_
 have hji4_:(if (l0_0.length:Int)<(l1_0.length:Int) then (l1_0.length:Int) else (l0_0.length:Int))=ji4:=hji4
 by_cases c5:0≤(ji4)
 ·rw [if_pos c5] at H
  have c5b0:=eq_true c5
  have c5b1:decide (0≤(ji4))=true:=decide_eq_true c5
  clear c5
  by_cases c6:(ji4:Int).toNat≤35184372088832
  ·rw [if_pos c6] at H
   have c6b0:=eq_true c6
   have c6b1:decide ((ji4:Int).toNat≤35184372088832)=true:=decide_eq_true c6
   clear c6
   obtain ⟨y168,hy168⟩:∃ y_:List Int,y_=(List.replicate (ji4:Int).toNat 0):=⟨_,rfl⟩
   replace H:(qan.l0 k y168 (y168.length:Int) 0 l0_0 l1_0)=some r:=by (have H2_:=(Option.bind_some _ _).symm.trans H;rw [hy168];with_reducible exact H2_)
   have Ny168:=qaa.mk hy168
   clear hy168
   have H':=qaa.mk H
   clear H
   go_enter Tryd.func78,Tryd.ntmps78
   go_wp2_with (first|((with_reducible refine qbf (N:=3) rfl ?_);refine qbr ?hg (N:=3) ?hd (cs:=#[.slice A0_0 l0_0.length c0_0]) (t:=38) ?hr ?_;(case hd=>rfl);(case hg=>rfl);(case hr=>(go_simp;done));intro gb165 hg w7 hbox hb;have BK165:=qaa.mk (hbox);have GW165:=qaa.mk ((by rw [hg];exact (qac HB.out):w.heap.size≤gb165));have GE165:=qaa.mk ((by rw [hg];exact (qac HB.out):w.heap.size≤gb165));replace HB:=qaa.mk (qal HB.out hb);clear hb hbox hg)|((with_reducible refine qbf (N:=4) rfl ?_);refine qbr ?hg (N:=4) ?hd (cs:=#[.slice A1_0 l1_0.length c1_0]) (t:=38) ?hr ?_;(case hd=>rfl);(case hg=>rfl);(case hr=>(go_simp;done));intro gb166 hg w8 hbox hb;have BK166:=qaa.mk (hbox);have GW166:=qaa.mk ((by rw [hg];exact (qac HB.out):w.heap.size≤gb166));have GE166:=qaa.mk ((by rw [hg];exact (qac HB.out):w.heap.size≤gb166));replace HB:=qaa.mk (qal HB.out hb);have NB165_166:=qaa.mk ((by rw [hg];exact Nat.ne_of_lt (qbn (g:=gb165) (o:=.cells #[.slice A0_0 l0_0.length c0_0] 38 (0,0)) (by (with_reducible repeat (refine qab ?_));exact BK165.out)):gb165≠gb166));have NB166_165:=qaa.mk ((by rw [hg];exact Nat.ne_of_gt (qbn (g:=gb165) (o:=.cells #[.slice A0_0 l0_0.length c0_0] 38 (0,0)) (by (with_reducible repeat (refine qab ?_));exact BK165.out)):gb166≠gb165));replace BK165:=qaa.mk (qah (g:=gb165) (o:=.cells #[.slice A0_0 l0_0.length c0_0] 38 (0,0)) (by (with_reducible repeat (refine qab ?_));exact BK165.out) hb);clear hb hbox hg)|((with_reducible refine qbf (N:=6) rfl ?_);refine qbr ?hg (N:=6) ?hd (cs:=#[.slice none 0 0]) (t:=38) ?hr ?_;(case hd=>rfl);(case hg=>rfl);(case hr=>(go_simp;done));intro gb167 hg w9 hbox hb;have BK167:=qaa.mk (hbox);have GW167:=qaa.mk ((by rw [hg];exact (qac HB.out):w.heap.size≤gb167));have GE167:=qaa.mk ((by rw [hg];exact (qac HB.out):w.heap.size≤gb167));replace HB:=qaa.mk (qal HB.out hb);have NB165_167:=qaa.mk ((by rw [hg];exact Nat.ne_of_lt (qbn (g:=gb165) (o:=.cells #[.slice A0_0 l0_0.length c0_0] 38 (0,0)) (by (with_reducible repeat (refine qab ?_));exact BK165.out)):gb165≠gb167));have NB167_165:=qaa.mk ((by rw [hg];exact Nat.ne_of_gt (qbn (g:=gb165) (o:=.cells #[.slice A0_0 l0_0.length c0_0] 38 (0,0)) (by (with_reducible repeat (refine qab ?_));exact BK165.out)):gb167≠gb165));replace BK165:=qaa.mk (qah (g:=gb165) (o:=.cells #[.slice A0_0 l0_0.length c0_0] 38 (0,0)) (by (with_reducible repeat (refine qab ?_));exact BK165.out) hb);have NB166_167:=qaa.mk ((by rw [hg];exact Nat.ne_of_lt (qbn (g:=gb166) (o:=.cells #[.slice A1_0 l1_0.length c1_0] 38 (0,0)) (by (with_reducible repeat (refine qab ?_));exact BK166.out)):gb166≠gb167));have NB167_166:=qaa.mk ((by rw [hg];exact Nat.ne_of_gt (qbn (g:=gb166) (o:=.cells #[.slice A1_0 l1_0.length c1_0] 38 (0,0)) (by (with_reducible repeat (refine qab ?_));exact BK166.out)):gb167≠gb166));replace BK166:=qaa.mk (qah (g:=gb166) (o:=.cells #[.slice A1_0 l1_0.length c1_0] 38 (0,0)) (by (with_reducible repeat (refine qab ?_));exact BK166.out) hb);clear hb hbox hg;have hnb10:=NB165_166.out;have hnc10:=NB166_165.out;have hnb11:=NB165_167.out;have hnc11:=NB167_165.out;have hcz12_0:w9.cell? ⟨gb165,0,none⟩=some (.slice A0_0 l0_0.length c0_0):=(qad BK165.out 0).trans rfl;have hfz12_0:=qaf BK165.out 0;have hnb13:=NB166_167.out;have hnc13:=NB167_166.out;have hcz14_0:w9.cell? ⟨gb166,0,none⟩=some (.slice A1_0 l1_0.length c1_0):=(qad BK166.out 0).trans rfl;have hfz14_0:=qaf BK166.out 0)|((with_reducible refine qbf (N:=16) rfl ?_);refine Kd.R_make (Kd.int .u64) _ 77 rfl (N:=16) rfl 36 _ _ rfl ji4 rfl rfl Tryd.underlying36 (.int .u64 0) 8 info77 rfl (by decide) (by omega) 0 (ok:=fun _=>True) (okp:=fun _=>True) rfl (fun _ hk=>hk) trivial (of_decide_eq_true (by (with_reducible assumption))) (Nat.le_trans (Nat.mul_le_mul_right _ (of_decide_eq_true (by (with_reducible assumption)):ji4.toNat≤35184372088832)) (by omega)) (Below.refl _ _) (Nat.le_refl _) ?_;intro v169 w15 ho16 hb hg_ hnew_;clear hg_ hnew_;(rw [← Ny168.out] at ho16);have HO170:=qaa.mk (Kd.R_lower (Kd.R_newM (M:=fun k_=>(w.heap.size≤k_)) ho16 (qac HB.out) (fun k_ h_=>h_)) (qac HB.out));replace BK165:=qaa.mk (qah (g:=gb165) (o:=.cells #[.slice A0_0 l0_0.length c0_0] 38 (0,0)) (by (with_reducible repeat (refine qab ?_));exact BK165.out) hb);replace BK166:=qaa.mk (qah (g:=gb166) (o:=.cells #[.slice A1_0 l1_0.length c1_0] 38 (0,0)) (by (with_reducible repeat (refine qab ?_));exact BK166.out) hb);replace BK167:=qaa.mk (qah (g:=gb167) (o:=.cells #[.slice none 0 0] 38 (0,0)) (by (with_reducible repeat (refine qab ?_));exact BK167.out) hb);replace HB:=qaa.mk (qal HB.out hb);clear hb ho16;obtain ⟨Ao17,co17,eo17⟩:=Kd.R_slice HO170.out;subst eo17))
   go_loopg [19] k (fun kq v19 w'=>∃ (x7_1:List Int) (x19_1:Int),v19=.int .i64 x19_1∧qaa (qan.l0 kq x7_1 (y168.length:Int) x19_1 l0_0 l1_0=some r)∧qaa (kq≤k)∧qaa (Kd.R (Kd.int .u64) 77 w' w.heap.size (fun k_=>(w.heap.size≤k_)) (.slice Ao17 y168.length co17) x7_1)∧qaa (w'.heap[gb165]?=some (.cells #[(.slice A0_0 l0_0.length c0_0)] 38 (0,0)))∧qaa (w'.heap[gb166]?=some (.cells #[(.slice A1_0 l1_0.length c1_0)] 38 (0,0)))∧qaa (w'.heap[gb167]?=some (.cells #[(.slice none 0 0)] 38 (0,0)))∧qaa (Below w.heap.size w w'))
   case atStart=>exact ⟨(y168),(0),(by rfl),H',⟨Nat.le_refl _⟩,⟨by (with_reducible repeat (apply Kd.R_drew));exact Kd.R_mono HO170.out (fun _ hk=>hk.1)⟩,⟨by (with_reducible repeat (refine qab ?_));exact BK165.out⟩,⟨by (with_reducible repeat (refine qab ?_));exact BK166.out⟩,⟨by (with_reducible repeat (refine qab ?_));exact BK167.out⟩,⟨by repeat ((with_reducible exact HB.out))⟩⟩
   case round=>
    clear H'
    try clear c5b0
    try clear c5b1
    try clear c6b0
    try clear c6b1
    try clear hcz12_0
    try clear hcz14_0
    try clear hfz12_0
    try clear hfz14_0
    obtain ⟨x7_1,x19_1,rfl,HA,HK1,HO_7,BK165,BK166,BK167,HB⟩:=hrel
    have hl7_1:=(Kd.R_reads' HO_7.out).1
    rw [hl7_1] at HO_7
    (try simp only [hl7_1])
    cases gk with
    | zero=>exact absurd HA.out (by simp [qan.l0])
    | succ k1=>
     have H:=HA.out
     clear HA
     simp only [qan.l0] at H
     by_cases c18:x19_1<(y168.length:Int)
     ·rw [if_pos c18] at H
      have c18b0:decide (x19_1<(y168.length:Int))=true:=decide_eq_true c18
      (try (have c18b0q:=c18b0;rw [hl7_1] at c18b0q))
      clear c18
      replace H:=Option.bind_eq_some_iff.mp H
      obtain ⟨t171,A190,H⟩:=H
      replace H:((qch.f l1_0 x19_1).bind fun t172=>((qdo.f t171 t172).bind fun t173=>(if 0≤x19_1 then (if x19_1<(x7_1.length:Int) then (qan.l0 k1 (x7_1.set (x19_1:Int).toNat t173) (y168.length:Int) (wrap64 (x19_1+1)) l0_0 l1_0) else (none)) else (none))))=some r:=H
      have A19:=qaa.mk A190
      clear A190
      replace H:=Option.bind_eq_some_iff.mp H
      obtain ⟨t172,A200,H⟩:=H
      replace H:((qdo.f t171 t172).bind fun t173=>(if 0≤x19_1 then (if x19_1<(x7_1.length:Int) then (qan.l0 k1 (x7_1.set (x19_1:Int).toNat t173) (y168.length:Int) (wrap64 (x19_1+1)) l0_0 l1_0) else (none)) else (none)))=some r:=H
      have A20:=qaa.mk A200
      clear A200
      replace H:=Option.bind_eq_some_iff.mp H
      obtain ⟨t173,A210,H⟩:=H
      replace H:(if 0≤x19_1 then (if x19_1<(x7_1.length:Int) then (qan.l0 k1 (x7_1.set (x19_1:Int).toNat t173) (y168.length:Int) (wrap64 (x19_1+1)) l0_0 l1_0) else (none)) else (none))=some r:=H
      have A21:=qaa.mk A210
      clear A210
      by_cases c22:0≤x19_1
      ·rw [if_pos c22] at H
       have c22b0:decide (0≤x19_1)=true:=decide_eq_true c22
       clear c22
       by_cases c23:x19_1<(x7_1.length:Int)
       ·rw [if_pos c23] at H
        have c23b0:decide (x19_1<(x7_1.length:Int))=true:=decide_eq_true c23
        clear c23
        obtain ⟨y174,hy174⟩:∃ y_:List Int,y_=(x7_1.set (x19_1:Int).toNat t173):=⟨_,rfl⟩
        replace H:(qan.l0 k1 y174 (y168.length:Int) (wrap64 (x19_1+1)) l0_0 l1_0)=some r:=by (rw [hy174];with_reducible exact H)
        have Ny174:=qaa.mk hy174
        clear hy174
        have H':=qaa.mk H
        clear H
        try go_wp2
        have n0_:=qaa.mk (Kd.R_drew HO_7.out)
        have n1_:=qaa.mk (qab BK165.out)
        have n2_:=qaa.mk (qab BK166.out)
        have n3_:=qaa.mk (qab BK167.out)
        have n4_:=qaa.mk (qdb HB.out)
        clear HO_7
        clear BK165
        clear BK166
        clear BK167
        clear HB
        have HO_7:=n0_
        have BK165:=n1_
        have BK166:=n2_
        have BK167:=n3_
        have HB:=n4_
        clear n0_ n1_ n2_ n3_ n4_
        refine qfb (n:=12) (S:=fun w'=>w'.cell? ⟨gb165,0,none⟩=some (.slice A0_0 l0_0.length c0_0)∧w'.cell? ⟨gb166,0,none⟩=some (.slice A1_0 l1_0.length c1_0)) (ds:=[11]) #[false,false,false,false,false,false,false,false,false,false,false,false] (by kernel_rfl) rfl rfl ⟨(qad BK165.out 0).trans rfl,(qad BK166.out 0).trans rfl⟩ (fun hHeld=>?_);refine qee qan.tab5 qan.bits5 (fun HT_ HW_=>?_)
        generalize wr.drew=w25 at HO_7 BK165 BK166 BK167 HB hHeld ⊢
        refine qct (i:=0) (N:=some 22) (v:=?_) (a':=?_) #[true,false,false,false,false,false,false,false,false,false,false,false] rfl rfl (qck HT_.out (by kernel_rfl)) (fun _ _ _ h=>h) (Or.inl ⟨by rfl,?_⟩) ?_ ?_
        rotate_left
        ·intro w'
         go_simp
         with_reducible rfl
        rotate_left
        ·simp only [Act.put,List.setIfInBounds_toArray,List.set_cons_zero,List.set_cons_succ,qbk,qbm]
         rfl
        refine qct (i:=1) (N:=some 23) (v:=?_) (a':=?_) #[true,true,false,false,false,false,false,false,false,false,false,false] rfl rfl (qck HT_.out (by kernel_rfl)) (fun _ _ _ h=>h) (Or.inl ⟨by rfl,?_⟩) ?_ ?_
        rotate_left
        ·intro w'
         go_simp
         with_reducible rfl
        rotate_left
        ·simp only [Act.put,List.setIfInBounds_toArray,List.set_cons_zero,List.set_cons_succ,qbk,qbm]
         rfl
        refine qct (i:=2) (N:=some 24) (v:=?_) (a':=?_) #[true,true,true,false,false,false,false,false,false,false,false,false] rfl rfl (qck HT_.out (by kernel_rfl)) (fun _ _ _ h=>h) (Or.inl ⟨by rfl,?_⟩) ?_ ?_
        rotate_left
        ·intro w'
         go_simp
         with_reducible rfl
        rotate_left
        ·simp only [Act.put,List.setIfInBounds_toArray,List.set_cons_zero,List.set_cons_succ,qbk,qbm]
         rfl
        refine qct (i:=4) (N:=some 26) (v:=?_) (a':=?_) #[true,true,true,false,true,false,false,false,false,false,false,false] rfl rfl (qck HT_.out (by kernel_rfl)) (fun _ _ _ h=>h) (Or.inl ⟨by rfl,?_⟩) ?_ ?_
        rotate_left
        ·intro w'
         go_simp
         with_reducible rfl
        rotate_left
        ·simp only [Act.put,List.setIfInBounds_toArray,List.set_cons_zero,List.set_cons_succ,qbk,qbm]
         rfl
        refine qct (i:=7) (N:=some 29) (v:=?_) (a':=?_) #[true,true,true,false,true,false,false,true,false,false,false,false] rfl rfl (qck HT_.out (by kernel_rfl)) (fun _ _ _ h=>h) (Or.inl ⟨by rfl,?_⟩) ?_ ?_
        rotate_left
        ·intro w'
         go_simp
         with_reducible rfl
        rotate_left
        ·simp only [Act.put,List.setIfInBounds_toArray,List.set_cons_zero,List.set_cons_succ,qbk,qbm]
         rfl
        refine take_ (i:=3) (N:=some 25) (v:=?_) (a':=?_) #[true,true,true,true,true,false,false,true,false,false,false,false] rfl rfl (qcw HT_.out HW_.out (by kernel_rfl)) (fun _ _ _ h=>h) (Or.inl ⟨by rfl,?_⟩) hHeld ?_ ?_
        rotate_left
        ·rintro w' ⟨s0,s1⟩
         go_simp
         with_reducible rfl
        rotate_left
        ·simp only [Act.put,List.setIfInBounds_toArray,List.set_cons_zero,List.set_cons_succ,qbk,qbm]
         rfl
        refine take_ (i:=6) (N:=some 28) (v:=?_) (a':=?_) #[true,true,true,true,true,false,true,true,false,false,false,false] rfl rfl (qcw HT_.out HW_.out (by kernel_rfl)) (fun _ _ _ h=>h) (Or.inl ⟨by rfl,?_⟩) hHeld ?_ ?_
        rotate_left
        ·rintro w' ⟨s0,s1⟩
         go_simp
         with_reducible rfl
        rotate_left
        ·simp only [Act.put,List.setIfInBounds_toArray,List.set_cons_zero,List.set_cons_succ,qbk,qbm]
         rfl
        refine one_ (i:=5) (N:=some 27) #[true,true,true,true,true,true,true,true,false,false,false,false] rfl rfl (qdx HT_.out (by kernel_rfl)) (by decide) (fun K hK=>?_)
        refine qej Tryd.func65 (by kernel_rfl) rfl #[.agg #[.slice A0_0 l0_0.length c0_0],.int .i64 x19_1] (by rfl) rfl rfl (by (try simp only [List.map_toArray,List.map_cons,List.map_nil]);rfl) ?_
        with_reducible refine (qch.calls _ _ l0_0 x19_1 t171 _ ?side1 ?side2 A19.out).mono ?_
        (case side1=>repeat (exact (Kd.C_below HR0_0.out HB.out)))
        (case side2=>exact HC0_0.out)
        rintro e w26 ⟨rfl,hb⟩
        refine ⟨_,rfl,?_⟩
        have n0_:=qaa.mk (Kd.R_below (by (with_reducible repeat (apply Kd.R_drew));exact HO_7.out) hb)
        have n1_:=qaa.mk (qah (g:=gb165) (o:=.cells #[.slice A0_0 l0_0.length c0_0] 38 (0,0)) (by (with_reducible repeat (refine qab ?_));exact BK165.out) hb)
        have n2_:=qaa.mk (qah (g:=gb166) (o:=.cells #[.slice A1_0 l1_0.length c1_0] 38 (0,0)) (by (with_reducible repeat (refine qab ?_));exact BK166.out) hb)
        have n3_:=qaa.mk (qah (g:=gb167) (o:=.cells #[.slice none 0 0] 38 (0,0)) (by (with_reducible repeat (refine qab ?_));exact BK167.out) hb)
        have n4_:=qaa.mk (qal HB.out hb)
        clear HO_7
        clear BK165
        clear BK166
        clear BK167
        clear HB
        have HO_7:=n0_
        have BK165:=n1_
        have BK166:=n2_
        have BK167:=n3_
        have HB:=n4_
        clear n0_ n1_ n2_ n3_ n4_
        (try clear hb)
        refine hK.out _ _ ⟨(qad BK165.out 0).trans rfl,(qad BK166.out 0).trans rfl⟩ (fun hHeld=>?_)
        clear hK K
        refine qdt (a':=?_) ?_ ?_
        rotate_left
        ·show Act.put _ (some 27) _=_
         simp only [Act.put,List.setIfInBounds_toArray,List.set_cons_zero,List.set_cons_succ,qbk,qbm]
         rfl
        refine one_ (i:=8) (N:=some 30) #[true,true,true,true,true,true,true,true,true,false,false,false] rfl rfl (qdx HT_.out (by kernel_rfl)) (by decide) (fun K hK=>?_)
        refine qej Tryd.func65 (by kernel_rfl) rfl #[.agg #[.slice A1_0 l1_0.length c1_0],.int .i64 x19_1] (by rfl) rfl rfl (by (try simp only [List.map_toArray,List.map_cons,List.map_nil]);rfl) ?_
        with_reducible refine (qch.calls _ _ l1_0 x19_1 t172 _ ?side1 ?side2 A20.out).mono ?_
        (case side1=>repeat (exact (Kd.C_below HR1_0.out HB.out)))
        (case side2=>exact HC1_0.out)
        rintro e w27 ⟨rfl,hb⟩
        refine ⟨_,rfl,?_⟩
        have n0_:=qaa.mk (Kd.R_below (by (with_reducible repeat (apply Kd.R_drew));exact HO_7.out) hb)
        have n1_:=qaa.mk (qah (g:=gb165) (o:=.cells #[.slice A0_0 l0_0.length c0_0] 38 (0,0)) (by (with_reducible repeat (refine qab ?_));exact BK165.out) hb)
        have n2_:=qaa.mk (qah (g:=gb166) (o:=.cells #[.slice A1_0 l1_0.length c1_0] 38 (0,0)) (by (with_reducible repeat (refine qab ?_));exact BK166.out) hb)
        have n3_:=qaa.mk (qah (g:=gb167) (o:=.cells #[.slice none 0 0] 38 (0,0)) (by (with_reducible repeat (refine qab ?_));exact BK167.out) hb)
        have n4_:=qaa.mk (qal HB.out hb)
        clear HO_7
        clear BK165
        clear BK166
        clear BK167
        clear HB
        have HO_7:=n0_
        have BK165:=n1_
        have BK166:=n2_
        have BK167:=n3_
        have HB:=n4_
        clear n0_ n1_ n2_ n3_ n4_
        (try clear hb)
        refine hK.out _ _ ⟨(qad BK165.out 0).trans rfl,(qad BK166.out 0).trans rfl⟩ (fun hHeld=>?_)
        clear hK K
        refine qdt (a':=?_) ?_ ?_
        rotate_left
        ·show Act.put _ (some 30) _=_
         simp only [Act.put,List.setIfInBounds_toArray,List.set_cons_zero,List.set_cons_succ,qbk,qbm]
         rfl
        refine one_ (i:=9) (N:=some 31) #[true,true,true,true,true,true,true,true,true,true,false,false] rfl rfl (qdx HT_.out (by kernel_rfl)) (by decide) (fun K hK=>?_)
        refine goesT_ Tryd.func79 (by kernel_rfl) rfl #[.int .u64 t171,.int .u64 t172] (by rfl) rfl rfl rfl (by (try simp only [List.map_toArray,List.map_cons,List.map_nil]);rfl) ?_
        with_reducible refine (qdo.calls t171 t172 t173 _ A21.out).mono ?_
        rintro e w' ⟨rfl,⟨nd,rfl⟩⟩
        refine ⟨_,rfl,?_⟩
        have p24:0≤(x19_1:Int):=of_decide_eq_true (by (with_reducible assumption))
        have q24:(x19_1:Int)<((x7_1.length:Int):Int):=of_decide_eq_true (by (with_reducible assumption))
        obtain ⟨go24,co24,eo24,gb24,gl24,cl24,HG24⟩:=Kd.R_form HO_7.out (by omega)
        (cases eo24)
        have GB24:=qaa.mk gb24
        have GG24:=qaa.mk HG24
        clear gb24 gl24 HG24
        obtain ⟨hx24_0,hf24_0⟩:=Kd.R_celln 0 HO_7.out (x19_1:Int) p24 q24
        replace p24:=eq_true p24
        replace q24:=eq_true q24
        have HP28:=Kd.R_putn HO_7.out (x19_1:Int) t173
        rw [← Ny174.out] at HP28
        have HQ28:=qaa.mk HP28
        clear HP28
        refine hK.out _ _ ⟨(qad BK165.out 0).trans rfl,(qad BK166.out 0).trans rfl⟩ (fun hHeld=>?_)
        clear hK K
        refine qdt (a':=?_) ?_ ?_
        rotate_left
        ·show Act.put _ (some 31) _=_
         simp only [Act.put,List.setIfInBounds_toArray,List.set_cons_zero,List.set_cons_succ,qbk,qbm]
         rfl
        refine qct (i:=10) (N:=some 32) (v:=?_) (a':=?_) #[true,true,true,true,true,true,true,true,true,true,true,false] rfl rfl (qck HT_.out (by kernel_rfl)) (fun _ _ _ h=>h) (Or.inl ⟨by rfl,?_⟩) ?_ ?_
        rotate_left
        ·intro w'
         go_simp
         with_reducible rfl
        rotate_left
        ·simp only [Act.put,List.setIfInBounds_toArray,List.set_cons_zero,List.set_cons_succ,qbk,qbm]
         rfl
        refine last_ (i:=11) (N:=none) #[true,true,true,true,true,true,true,true,true,true,true,true] rfl rfl (qdx HT_.out (by kernel_rfl)) (by decide) (fun K hK=>?_)
        refine skip_ (w1:=?_) (by rfl) rfl ?_ ?_
        rotate_left
        ·go_simp
         rfl
        refine hK.out _ _ ?_
        clear hK K
        refine qfq (qfd HT_.out (by kernel_rfl)) ?_
        try go_wp2
        (try simp only [← hl7_1])
        go_roundg k1
        case measure=>have:=HK1.out;omega
        case rel=>exact ⟨(y174),(wrap64 (x19_1+1)),(by rfl),H',⟨by have:=HK1.out;omega⟩,⟨by (try simp only [hl7_1]);(with_reducible repeat (apply Kd.R_drew));exact HQ28.out⟩,⟨by (skip);(with_reducible repeat (refine qab ?_));refine qcx ?_ (by have h_:=Kd.R_ne HO_7.out BK165.out (by decide);intro e_;exact h_ (by rw [e_];rfl)) _;(with_reducible repeat (refine qde ?_ _));exact BK165.out⟩,⟨by (skip);(with_reducible repeat (refine qab ?_));refine qcx ?_ (by have h_:=Kd.R_ne HO_7.out BK166.out (by decide);intro e_;exact h_ (by rw [e_];rfl)) _;(with_reducible repeat (refine qde ?_ _));exact BK166.out⟩,⟨by (skip);(with_reducible repeat (refine qab ?_));refine qcx ?_ (by have h_:=Kd.R_ne HO_7.out BK167.out (by decide);intro e_;exact h_ (by rw [e_];rfl)) _;(with_reducible repeat (refine qde ?_ _));exact BK167.out⟩,⟨by repeat ((with_reducible first|exact HB.out|apply qav|refine qbx ?_ GB24.out))⟩⟩
       ·rw [if_neg c23] at H
        exact absurd H (by simp)
      ·rw [if_neg c22] at H
       exact absurd H (by simp)
     ·rw [if_neg c18] at H
      have c18b0:decide (x19_1<(y168.length:Int))=false:=decide_eq_false c18
      (try (have c18b0q:=c18b0;rw [hl7_1] at c18b0q))
      clear c18
      replace H:=Option.bind_eq_some_iff.mp H
      obtain ⟨t175,A290,H⟩:=H
      replace H:(some t175)=some r:=H
      have A29:=qaa.mk A290
      clear A290
      obtain rfl:=Option.some.inj H
      go_wp2_with (((with_reducible refine qbb (f:=62) rfl ?_);refine qcv (some 35) rfl rfl Tryd.func62 (by kernel_rfl) rfl #[.slice Ao17 x7_1.length co17] rfl (by (try simp only [List.map_toArray,List.map_cons,List.map_nil]);rfl) ?_;(with_reducible refine (qbc.calls k1 (fun k_=>some k_=(.slice Ao17 x7_1.length co17:Value).ownBlock) (.slice Ao17 x7_1.length co17) x7_1 t175 w _ ?side1 ?side2 A29.out).mono ?_);(case side1=>repeat ((with_reducible exact HB.out)));(case side2=>exact Kd.R_tight rfl HO_7.out);rintro e w30 ⟨v176,rfl,ho0,hb,hkp⟩;refine ⟨_,rfl,?_⟩;have n0_:=qaa.mk (qen (by (with_reducible repeat (refine qab ?_));exact BK165.out) hkp (fun hs_=>(fun e_=>(Kd.R_ne HO_7.out BK165.out (by decide)) e_) hs_));have n1_:=qaa.mk (qen (by (with_reducible repeat (refine qab ?_));exact BK166.out) hkp (fun hs_=>(fun e_=>(Kd.R_ne HO_7.out BK166.out (by decide)) e_) hs_));have n2_:=qaa.mk (qen (by (with_reducible repeat (refine qab ?_));exact BK167.out) hkp (fun hs_=>(fun e_=>(Kd.R_ne HO_7.out BK167.out (by decide)) e_) hs_));have n3_:=qaa.mk (Kd.V_mono (ok':=fun k_=>(w.heap.size≤k_)∧k_≠gb165∧k_≠gb166∧k_≠gb167) ho0 (fun k_ hk_=>⟨Or.elim hk_ (fun hs_=>(HO_7.out.1 k_ (hs_).symm)) (fun hn_=>(Nat.le_trans (qac HB.out) hn_)),Or.elim hk_ (fun hs_=>fun e_=>(Kd.R_ne HO_7.out BK165.out (by decide)) (by rw [← e_];exact hs_)) (fun hn_=>(Kd.freshB (g:=gb165) (o:=.cells #[.slice A0_0 l0_0.length c0_0] 38 (0,0)) (by (with_reducible repeat (refine qab ?_));exact BK165.out) k_ hn_)),Or.elim hk_ (fun hs_=>fun e_=>(Kd.R_ne HO_7.out BK166.out (by decide)) (by rw [← e_];exact hs_)) (fun hn_=>(Kd.freshB (g:=gb166) (o:=.cells #[.slice A1_0 l1_0.length c1_0] 38 (0,0)) (by (with_reducible repeat (refine qab ?_));exact BK166.out) k_ hn_)),Or.elim hk_ (fun hs_=>fun e_=>(Kd.R_ne HO_7.out BK167.out (by decide)) (by rw [← e_];exact hs_)) (fun hn_=>(Kd.freshB (g:=gb167) (o:=.cells #[.slice none 0 0] 38 (0,0)) (by (with_reducible repeat (refine qab ?_));exact BK167.out) k_ hn_))⟩));have n4_:=qaa.mk (hb);clear BK165;clear BK166;clear BK167;clear HB;clear HO_7;have BK165:=n0_;have BK166:=n1_;have BK167:=n2_;have HO177:=n3_;have HB:=n4_;clear n0_ n1_ n2_ n3_ n4_;(try clear hb);(try clear hkp);(try clear ho0);obtain ⟨Ao31,co31,eo31⟩:=Kd.V_slice HO177.out;subst eo31;have hnb32:=NB167_165.out;have hnc32:=NB165_167.out;have hnb33:=NB167_166.out;have hnc33:=NB166_167.out;have hcz34_0:w30.cell? ⟨gb167,0,none⟩=some (.slice none 0 0):=(qad BK167.out 0).trans rfl;have hfz34_0:=qaf BK167.out 0))
      refine bodyPost_ret (results_cell_row rfl _ _ gb167 38 #[.slice Ao31 t175.length co31] (0,0) _ rfl (by (with_reducible repeat (refine qab ?_));refine qcs (cs:=#[.slice none 0 0]) ?_ 0 _ rfl;(with_reducible repeat (refine qab ?_));exact BK167.out) Tryd.underlying38 rfl (by kernel_rfl)) rfl ?_
      exact ⟨_,by rfl,by (with_reducible repeat (apply Kd.V_drew));exact Kd.V_mono (Kd.V_far (p:=⟨gb167,0,none⟩) (Kd.V_mono HO177.out (fun k_ hk=>(⟨hk,hk.2.2.2⟩:_∧k_≠gb167))) (fun _ hk=>hk.2) (.slice Ao31 t175.length co31)) (fun _ hk=>hk.1.1),by repeat ((with_reducible first|exact HB.out|refine qbx ?_ GE167.out))⟩
  ·rw [if_neg c6] at H
   exact absurd H (by simp)
 ·rw [if_neg c5] at H
  exact absurd H (by simp)
end Go.Proofs.YtmfjmbcfaamebaaDoor.X
namespace Go.Proofs.YtmfjmbcfaamebaaDoor.X
open Go.RowKit Go.Proofs.YtmfjmbcfaamebaaDoorW.PrintWords Go.Proofs.YtmfjmbcfaamebaaDoorW.PrintLast Go.Proofs.YtmfjmbcfaamebaaDoorW.PrintMore
attribute [local go_sem] qbs qcb
set_option linter.unusedVariables false
set_option linter.unusedSimpArgs false
def qca.f (k:Nat) (l0_0:List Int) (l1_0:List Int):Option (List Int):=(qan.f k l0_0 l1_0).bind fun t211=>(some t211)
theorem qca.mono:∀ a0 a1 k,LeO (qca.f k a0 a1) (qca.f (k+1) a0 a1):=by
 intro a0 a1 k
 unfold qca.f
 repeat' first|(with_reducible exact qan.mono _ _ _)|(with_reducible exact LeO.refl _)|(with_reducible refine LeO.bind ?_ (fun _=>?_))
set_option maxHeartbeats 8000000 in
set_option maxRecDepth 100000 in
theorem qca.calls (k:Nat) (A0_0:Option Addr) (c0_0:Nat) (l0_0:List Int) (A1_0:Option Addr) (c1_0:Nat) (l1_0:List Int) (r:List Int) (w:World) (hr0_0:Kd.C (Kd.int .u64) w A0_0 l0_0.length l0_0) (hc0_0:l0_0.length≤c0_0) (hr1_0:Kd.C (Kd.int .u64) w A1_0 l1_0.length l1_0) (hc1_0:l1_0.length≤c1_0) (h:qca.f k l0_0 l1_0=some r) :
  Calls Tryd.prog 53 #[.agg #[.slice A0_0 l0_0.length c0_0],.agg #[.slice A1_0 l1_0.length c1_0]] w fun e w'=>∃ v0_:Value,e=.returned (.agg #[v0_])∧Kd.V (Kd.int .u64) 77 w' w.heap.size (fun k_=>(w.heap.size≤k_)) v0_ r∧Below w.heap.size w w':=by
 have hu38:=Tryd.underlying38
 have HR0_0:=qaa.mk hr0_0
 have HC0_0:=qaa.mk hc0_0
 clear hr0_0 hc0_0
 have HR1_0:=qaa.mk hr1_0
 have HC1_0:=qaa.mk hc1_0
 clear hr1_0 hc1_0
 have HB:=qaa.mk (Below.refl w.heap.size w)
 have H:((qan.f k l0_0 l1_0).bind fun t211=>(some t211))=some r:=h
 clear h
 replace H:=Option.bind_eq_some_iff.mp H
 obtain ⟨t211,A30,H⟩:=H
 replace H:(some t211)=some r:=H
 have A3:=qaa.mk A30
 clear A30
 obtain rfl:=Option.some.inj H
 go_enter Tryd.func53,Tryd.ntmps53
 go_wp2_with (first|((with_reducible refine qbf (N:=2) rfl ?_);refine qbr ?hg (N:=2) ?hd (cs:=#[.slice A0_0 l0_0.length c0_0]) (t:=38) ?hr ?_;(case hd=>rfl);(case hg=>rfl);(case hr=>(go_simp;done));intro gb208 hg w4 hbox hb;have BK208:=qaa.mk (hbox);have GW208:=qaa.mk ((by rw [hg];exact (qac HB.out):w.heap.size≤gb208));have GE208:=qaa.mk ((by rw [hg];exact (qac HB.out):w.heap.size≤gb208));replace HB:=qaa.mk (qal HB.out hb);clear hb hbox hg)|((with_reducible refine qbf (N:=3) rfl ?_);refine qbr ?hg (N:=3) ?hd (cs:=#[.slice A1_0 l1_0.length c1_0]) (t:=38) ?hr ?_;(case hd=>rfl);(case hg=>rfl);(case hr=>(go_simp;done));intro gb209 hg w5 hbox hb;have BK209:=qaa.mk (hbox);have GW209:=qaa.mk ((by rw [hg];exact (qac HB.out):w.heap.size≤gb209));have GE209:=qaa.mk ((by rw [hg];exact (qac HB.out):w.heap.size≤gb209));replace HB:=qaa.mk (qal HB.out hb);have NB208_209:=qaa.mk ((by rw [hg];exact Nat.ne_of_lt (qbn (g:=gb208) (o:=.cells #[.slice A0_0 l0_0.length c0_0] 38 (0,0)) (by (with_reducible repeat (refine qab ?_));exact BK208.out)):gb208≠gb209));have NB209_208:=qaa.mk ((by rw [hg];exact Nat.ne_of_gt (qbn (g:=gb208) (o:=.cells #[.slice A0_0 l0_0.length c0_0] 38 (0,0)) (by (with_reducible repeat (refine qab ?_));exact BK208.out)):gb209≠gb208));replace BK208:=qaa.mk (qah (g:=gb208) (o:=.cells #[.slice A0_0 l0_0.length c0_0] 38 (0,0)) (by (with_reducible repeat (refine qab ?_));exact BK208.out) hb);clear hb hbox hg)|((with_reducible refine qbf (N:=4) rfl ?_);refine qbr ?hg (N:=4) ?hd (cs:=#[.slice none 0 0]) (t:=38) ?hr ?_;(case hd=>rfl);(case hg=>rfl);(case hr=>(go_simp;done));intro gb210 hg w6 hbox hb;have BK210:=qaa.mk (hbox);have GW210:=qaa.mk ((by rw [hg];exact (qac HB.out):w.heap.size≤gb210));have GE210:=qaa.mk ((by rw [hg];exact (qac HB.out):w.heap.size≤gb210));replace HB:=qaa.mk (qal HB.out hb);have NB208_210:=qaa.mk ((by rw [hg];exact Nat.ne_of_lt (qbn (g:=gb208) (o:=.cells #[.slice A0_0 l0_0.length c0_0] 38 (0,0)) (by (with_reducible repeat (refine qab ?_));exact BK208.out)):gb208≠gb210));have NB210_208:=qaa.mk ((by rw [hg];exact Nat.ne_of_gt (qbn (g:=gb208) (o:=.cells #[.slice A0_0 l0_0.length c0_0] 38 (0,0)) (by (with_reducible repeat (refine qab ?_));exact BK208.out)):gb210≠gb208));replace BK208:=qaa.mk (qah (g:=gb208) (o:=.cells #[.slice A0_0 l0_0.length c0_0] 38 (0,0)) (by (with_reducible repeat (refine qab ?_));exact BK208.out) hb);have NB209_210:=qaa.mk ((by rw [hg];exact Nat.ne_of_lt (qbn (g:=gb209) (o:=.cells #[.slice A1_0 l1_0.length c1_0] 38 (0,0)) (by (with_reducible repeat (refine qab ?_));exact BK209.out)):gb209≠gb210));have NB210_209:=qaa.mk ((by rw [hg];exact Nat.ne_of_gt (qbn (g:=gb209) (o:=.cells #[.slice A1_0 l1_0.length c1_0] 38 (0,0)) (by (with_reducible repeat (refine qab ?_));exact BK209.out)):gb210≠gb209));replace BK209:=qaa.mk (qah (g:=gb209) (o:=.cells #[.slice A1_0 l1_0.length c1_0] 38 (0,0)) (by (with_reducible repeat (refine qab ?_));exact BK209.out) hb);clear hb hbox hg;have hnb7:=NB208_209.out;have hnc7:=NB209_208.out;have hnb8:=NB208_210.out;have hnc8:=NB210_208.out;have hcz9_0:w6.cell? ⟨gb208,0,none⟩=some (.slice A0_0 l0_0.length c0_0):=(qad BK208.out 0).trans rfl;have hfz9_0:=qaf BK208.out 0;have hnb10:=NB209_210.out;have hnc10:=NB210_209.out;have hcz11_0:w6.cell? ⟨gb209,0,none⟩=some (.slice A1_0 l1_0.length c1_0):=(qad BK209.out 0).trans rfl;have hfz11_0:=qaf BK209.out 0)|((with_reducible refine qbb (f:=78) rfl ?_);refine qcv (some 7) rfl rfl Tryd.func78 (by kernel_rfl) rfl #[.agg #[.slice A0_0 l0_0.length c0_0],.agg #[.slice A1_0 l1_0.length c1_0],.func (.func 79) #[] #[]] rfl (by (try simp only [List.map_toArray,List.map_cons,List.map_nil]);rfl) ?_;(with_reducible refine (qan.calls k _ _ l0_0 _ _ l1_0  t211 _ ?side1 ?side2 ?side3 ?side4 A3.out).mono ?_);(case side1=>repeat (exact (Kd.C_below HR0_0.out HB.out)));(case side2=>exact HC0_0.out);(case side3=>repeat (exact (Kd.C_below HR1_0.out HB.out)));(case side4=>exact HC1_0.out);rintro e w12 ⟨v212,rfl,ho0,hb⟩;refine ⟨_,rfl,?_⟩;have HO213:=qaa.mk (Kd.V_lower (Kd.V_mono (ok':=fun k_=>(w.heap.size≤k_)∧k_≠gb208∧k_≠gb209∧k_≠gb210) ho0 (fun k_ hk_=>⟨(Nat.le_trans (qac HB.out) hk_),(Kd.freshB (g:=gb208) (o:=.cells #[.slice A0_0 l0_0.length c0_0] 38 (0,0)) (by (with_reducible repeat (refine qab ?_));exact BK208.out) k_ hk_),(Kd.freshB (g:=gb209) (o:=.cells #[.slice A1_0 l1_0.length c1_0] 38 (0,0)) (by (with_reducible repeat (refine qab ?_));exact BK209.out) k_ hk_),(Kd.freshB (g:=gb210) (o:=.cells #[.slice none 0 0] 38 (0,0)) (by (with_reducible repeat (refine qab ?_));exact BK210.out) k_ hk_)⟩)) (qac HB.out));replace BK208:=qaa.mk (qah (g:=gb208) (o:=.cells #[.slice A0_0 l0_0.length c0_0] 38 (0,0)) (by (with_reducible repeat (refine qab ?_));exact BK208.out) hb);replace BK209:=qaa.mk (qah (g:=gb209) (o:=.cells #[.slice A1_0 l1_0.length c1_0] 38 (0,0)) (by (with_reducible repeat (refine qab ?_));exact BK209.out) hb);replace BK210:=qaa.mk (qah (g:=gb210) (o:=.cells #[.slice none 0 0] 38 (0,0)) (by (with_reducible repeat (refine qab ?_));exact BK210.out) hb);replace HB:=qaa.mk (qal HB.out hb);(try clear hb);(try clear ho0);obtain ⟨Ao13,co13,eo13⟩:=Kd.V_slice HO213.out;subst eo13;have hcz14_0:w12.cell? ⟨gb210,0,none⟩=some (.slice none 0 0):=(qad BK210.out 0).trans rfl;have hfz14_0:=qaf BK210.out 0))
 refine bodyPost_ret (results_cell_row rfl _ _ gb210 38 #[.slice Ao13 t211.length co13] (0,0) _ rfl (by (with_reducible repeat (refine qab ?_));refine qcs (cs:=#[.slice none 0 0]) ?_ 0 _ rfl;(with_reducible repeat (refine qab ?_));exact BK210.out) Tryd.underlying38 rfl (by kernel_rfl)) rfl ?_
 exact ⟨_,by rfl,by (with_reducible repeat (apply Kd.V_drew));exact Kd.V_mono (Kd.V_far (p:=⟨gb210,0,none⟩) (Kd.V_mono HO213.out (fun k_ hk=>(⟨hk,hk.2.2.2⟩:_∧k_≠gb210))) (fun _ hk=>hk.2) (.slice Ao13 t211.length co13)) (fun _ hk=>hk.1.1),by repeat ((with_reducible first|exact HB.out|refine qbx ?_ GE210.out))⟩
end Go.Proofs.YtmfjmbcfaamebaaDoor.X
