/- Parts of the proof of the law CFGEdges: words, walks of single functions and plain laws, joined by a program out of the session's texts. -/
import Derived.Test.YtmfjmbcfaamebaaDoorCFGEdges6
import Derived.Lib.OwnBridge
import Derived.Sort.OwnSortedInts
namespace Go.Proofs.YtmfjmbcfaamebaaDoor.X
noncomputable section
open Go.RowKit Go.Proofs.YtmfjmbcfaamebaaDoorW.PrintWords Go.Proofs.YtmfjmbcfaamebaaDoorW.PrintLast Go.Proofs.YtmfjmbcfaamebaaDoorW.PrintMore
attribute [local go_sem] qbo qbu
set_option linter.unusedVariables false
set_option linter.unusedSimpArgs false
def qbi.T7 : Bool × List (List Nat × List Nat):=(true,[([],[]),([],[]),([0,1],[0,1]),([2],[2]),([],[]),([3,4],[3,4]),([5,5],[5])])
def qbi.B7 : List Nat:=[0,0,3,7,0,31,63]
theorem qbi.tab7 : rtab .any (opsOf Tryd.f24 7) = qbi.T7:=by kernel_rfl
theorem qbi.bits7 : qea qbi.T7.2 qbi.B7 = true:=by kernel_rfl
def qbi.T9 : Bool × List (List Nat × List Nat):=(true,[([],[]),([],[]),([0,1],[0,1]),([2],[2]),([3],[3]),([],[]),([],[]),([5,6],[5,6]),([7],[7]),([8,4],[8]),([9],[9]),([4,10],[4,10])])
def qbi.B9 : List Nat:=[0,0,3,7,15,0,0,96,224,511,1023,2047]
theorem qbi.tab9 : rtab .any (opsOf Tryd.f24 9) = qbi.T9:=by kernel_rfl
theorem qbi.bits9 : qea qbi.T9.2 qbi.B9 = true:=by kernel_rfl
open Go.Shelf
attribute [local go_sem] Oper.semAt_some
def lenT (k : Nat) (ws : List Int) : Int:=(qbe.f k ws).getD 0
def immSet (k : Nat) (dom : List S38) (n : Int) : List Int:=(qbw.f k (rd_T38 dom n).f0 n).getD []
def immStep (k : Nat) (dom : List S38) (n o d : Int) : Int:=if lenT k (rd_T38 dom d).f0 = wrap64 (lenT k (rd_T38 dom n).f0 - 1) then d else o
def immAt (k : Nat) (dom : List S38) (n : Nat) : Int:=(els (immSet k dom n)).foldl (immStep k dom n) (-1)
def Imm (a : Bool) (b : Int) (l : List S60) (r : List Int) : Prop:=
  ∃ k dom,qbm.f a b l = some dom∧dom.length = l.length∧l.length≤4398046511104∧(∀ n : Nat,n < l.length→qbw.f k (rd_T38 dom n).f0 n = some (immSet k dom n)∧setOk (immSet k dom n) = true∧∀ d ∈ els (immSet k dom n),0≤d∧d < (l.length : Int))∧
    (∀ d : Int,0≤d→d < (l.length : Int)→qbe.f k (rd_T38 dom d).f0 = some (lenT k (rd_T38 dom d).f0))∧r = (List.range l.length).map (immAt k dom)
open Classical in
noncomputable def qbi.f (a : Bool) (b : Int) (l : List S60) : Option (List Int):=if h : ∃ r,Imm a b l r then some h.choose else none
theorem qbi.spec {a : Bool} {b : Int} {l : List S60} {r : List Int} (h : qbi.f a b l = some r) : Imm a b l r:=by
  unfold qbi.f at h
  split at h
  · rename_i hx
    injection h with h
    rw [← h]
    exact hx.choose_spec
  · cases h
def immRow (k : Nat) (dom : List S38) (n i : Nat) : List Int:=(List.range i).map (immAt k dom) ++ List.replicate (n - i) 0
theorem immRow_step {k n i : Nat} {dom : List S38} (h : i < n) : (immRow k dom n i).set i (immAt k dom i) = immRow k dom n (i + 1):=by
  unfold immRow
  rw [List.set_append_right _ _ (by simp),List.length_map,List.length_range,Nat.sub_self,List.range_succ,List.map_append,List.append_assoc]
  congr 1
  obtain ⟨m,hm⟩ : ∃ m,n - i = m + 1:=⟨n - i - 1,by omega⟩
  rw [hm,show n - (i + 1) = m by omega]
  rfl
set_option maxRecDepth 100000 in
set_option maxHeartbeats 8000000 in
theorem qbi.calls (a0_0 : Bool) (a0_1 : Int) (A0_2 : Option Addr) (c0_2 : Nat) (l0_2 : List (S60)) (r : List Int) (w : World) (hT : TabW w) (hr0_2 : Kd.C k60 w A0_2 l0_2.length l0_2) (hc0_2 : l0_2.length≤c0_2) (h : qbi.f a0_0 a0_1 l0_2 = some r) :
    Calls Tryd.prog 24 #[.agg #[.bool a0_0,.int .i64 a0_1,.slice A0_2 l0_2.length c0_2]] w fun e w'=>∃ v0_ : Value,e = .returned v0_∧Kd.R (Kd.int .i64) 3 w' w.heap.size (fun _=>True) v0_ r∧Below w.heap.size w w':=by
  have hu24:=Tryd.underlying24
  have hu38:=Tryd.underlying38
  obtain ⟨k,dom,hdom,hdl,hlen,hW,hL,rfl⟩:=qbi.spec h
  clear h
  have HT:=Aside0.mk hT
  have HW:=Aside0.mk hW
  have HLn:=Aside0.mk hL
  have HCD:=Aside0.mk (fun W (hW : Below w.heap.size w W)=>qbm.calls a0_0 a0_1 A0_2 c0_2 l0_2 dom W (hT.below' hW) (Kd.C_below hr0_2 hW) hc0_2 hdom)
  have HDL:=Aside0.mk hdl
  clear hr0_2 hT hW hL hdom hdl
  have hmk:=print_make_of (P:=Tryd.prog) 31 3 (.int .i64 0) 8 Tryd.underlying31 info3 rfl (by decide) l0_2.length (by omega)
  refine (callsIn_wide (n:=9)).1 ?_
  refine callsIn_of_wp_marks Tryd.func24 rfl trivial ?_ rfl
  simp only [Tryd.ntmps24,List.size_toArray,List.length_cons,List.length_nil,Nat.reduceAdd,Nat.reduceSub,Array.replicate_succ,Array.replicate_zero,List.push_toArray,List.append_toArray,List.nil_append,List.cons_append]
  gi_wp2
  refine ⟨trivial,?_⟩
  obtain ⟨W1,hW1⟩ : ∃ W1,((w.alloc (Obj.cells #[Value.bool a0_0,Value.int IntKind.i64 a0_1,Value.slice A0_2 l0_2.length c0_2] 24)).alloc (Obj.cells (madeCells #[Value.int IntKind.i64 0] l0_2.length) 3)).alloc (Obj.cells #[Value.slice (some ⟨w.heap.size + 1,0,none⟩) l0_2.length l0_2.length] 31) = W1:=⟨_,rfl⟩
  have hsz1 : W1.heap.size = w.heap.size + 3:=by rw [← hW1];simp
  have hB1 : Below w.heap.size w W1:=by rw [← hW1];exact (((Below.refl _ w).alloc (Nat.le_refl _) _).alloc (by simp) _).alloc (by simp;omega) _
  have b31 : W1.heap[w.heap.size + 1 + 1]? = some (.cells #[.slice (some ⟨w.heap.size + 1,0,none⟩) l0_2.length l0_2.length] 31 (0,0)):=by rw [← hW1];have:=World.alloc_heap_new ((w.alloc (Obj.cells #[Value.bool a0_0,Value.int IntKind.i64 a0_1,Value.slice A0_2 l0_2.length c0_2] 24)).alloc (Obj.cells (madeCells #[Value.int IntKind.i64 0] l0_2.length) 3)) (Obj.cells #[Value.slice (some ⟨w.heap.size + 1,0,none⟩) l0_2.length l0_2.length] 31);rw [World.size_alloc,World.size_alloc] at this;exact this
  have hR : Kd.R (Kd.int .i64) 3 W1 w.heap.size (fun k=>k = w.heap.size + 1) (.slice (some ⟨w.heap.size + 1,0,none⟩) l0_2.length l0_2.length) (immRow k dom l0_2.length 0):=by
    have h1:=own_made_of (enc:=Value.int .i64) (d:=(0 : Int)) (w.alloc (Obj.cells #[Value.bool a0_0,Value.int IntKind.i64 a0_1,Value.slice A0_2 l0_2.length c0_2] 24)) w.heap.size 3 l0_2.length (by simp) (by omega)
    rw [World.size_alloc] at h1
    have h2:=Kd.R_of_own (h1:=fun _=>rfl) (ok:=fun k=>k = w.heap.size + 1) (xs:=List.replicate l0_2.length (0 : Int)) (by simpa using h1) (fun k hk=>by simpa [Value.ownBlock] using hk.symm)
    have h3:=Kd.R_alloc h2 (Obj.cells #[Value.slice (some ⟨w.heap.size + 1,0,none⟩) l0_2.length l0_2.length] 31)
    rw [hW1] at h3
    rw [show immRow k dom l0_2.length 0 = List.replicate l0_2.length 0 by simp [immRow]]
    exact h3
  rw [hW1]
  replace hsz1:=Nat.le_antisymm_iff.1 hsz1
  refine (callsIn_wide.2 (HCD.out W1 hB1)).mono ?_
  rintro e W2 ⟨v2,rfl,hV,hB2⟩
  obtain ⟨Ad,cd,rfl⟩:=Kd.V_slice hV
  have hF2:=Kd.F_bound (Kd.V_F hV)
  have hs12:=hB2.size
  replace hR:=Kd.R_below hR hB2
  replace b31:=(hB2.block _ (by omega)).trans b31
  have hBw2:=hB1.trans (hB2.mono (by omega))
  clear hW1 hV HCD hmk hB1 hB2
  have hx31 : (W2.alloc (Obj.cells #[Value.slice Ad dom.length cd] 33)).cell? ⟨w.heap.size + 1 + 1,0,none⟩ = some (.slice (some ⟨w.heap.size + 1,0,none⟩) l0_2.length l0_2.length):=cellOf (qcm b31 _) 0 rfl
  gi_wp2
  have hs3 : (W2.alloc (Obj.cells #[Value.slice Ad dom.length cd] 33)).heap.size = W2.heap.size + 1:=by simp
  refine wpIn_loop_inv (fun m a W=>∃ (i : Nat) (Ds : List Nat) (u5 u6 u16 u17 u18 u19 u20 u21 u22 u23 u24 u25 u26 u27 u28 u29 u30 u31 u32 u33 u34 u35 u36 u37 u38 u39 u40 u41 u42 u43 u44 u45 : Value),i + m = l0_2.length∧a = { tmps:=#[Value.agg #[Value.bool a0_0,Value.int IntKind.i64 a0_1,Value.slice A0_2 l0_2.length c0_2],.pointer (some ⟨w.heap.size,0,none⟩),.slice none 0 0,.pointer (some ⟨w.heap.size + 1 + 1,0,none⟩),.pointer (some ⟨W2.heap.size,0,none⟩),u5,u6,.pointer (some ⟨w.heap.size,2,none⟩),.slice A0_2 l0_2.length c0_2,.int .i64 l0_2.length,.slice (some ⟨w.heap.size + 1,0,none⟩) l0_2.length l0_2.length,Value.agg #[Value.bool a0_0,Value.int IntKind.i64 a0_1,Value.slice A0_2 l0_2.length c0_2],.slice Ad dom.length cd,.slice (some ⟨w.heap.size + 1,0,none⟩) l0_2.length l0_2.length,.int .i64 l0_2.length,.int .i64 (i : Int),u16,u17,u18,u19,u20,u21,u22,u23,u24,u25,u26,u27,u28,u29,u30,u31,u32,u33,u34,u35,u36,u37,u38,u39,u40,u41,u42,u43,u44,u45,undef],defers:=Ds.map fun D=>{ target:=.collected D,args:=#[] } }∧Kd.R (Kd.int .i64) 3 W w.heap.size (fun k=>k = w.heap.size + 1) (.slice (some ⟨w.heap.size + 1,0,none⟩) l0_2.length l0_2.length) (immRow k dom l0_2.length i)∧W.heap[w.heap.size + 1 + 1]? = some (.cells #[.slice (some ⟨w.heap.size + 1,0,none⟩) l0_2.length l0_2.length] 31 (0,0))∧W.heap[W2.heap.size]? = some (.cells #[.slice Ad dom.length cd] 33 (0,0))∧Kd.F k38 W (fun k=>W1.heap.size≤k∧k < W2.heap.size) Ad dom.length dom∧Below w.heap.size w W∧W2.heap.size < W.heap.size∧(Ds.Nodup∧∀ D ∈ Ds,W2.heap.size < D∧D < W.heap.size∧W.heap[D]? = some (.deferred (some [])))) ?_ l0_2.length _ _ ?_
  case refine_2=>
    refine ⟨0,[],_,_,_,_,_,_,_,_,_,_,_,_,_,_,_,_,_,_,_,_,_,_,_,_,_,_,_,_,_,_,_,_,by omega,rfl,Kd.R_alloc hR _,qcm b31 _,World.alloc_heap_new W2 _,Kd.F_alloc hF2 _,hBw2.alloc hBw2.size _,by simp,by simp,by simp⟩
  case refine_1=>
    clear hR b31 hF2 hx31 hs3 hBw2
    rintro m a W ⟨i,Ds,u5,u6,u16,u17,u18,u19,u20,u21,u22,u23,u24,u25,u26,u27,u28,u29,u30,u31,u32,u33,u34,u35,u36,u37,u38,u39,u40,u41,u42,u43,u44,u45,him,rfl,hR,b31,b33,hF2,hBW,hsW,hnd,hDs⟩ K hK
    have HKK:=Aside0.mk hK
    clear hK
    by_cases hlt : i < l0_2.length
    · have c31 : W.cell? ⟨w.heap.size + 1 + 1,0,none⟩ = some (.slice (some ⟨w.heap.size + 1,0,none⟩) l0_2.length l0_2.length):=cellOf b31 0 rfl
      have hil : (i : Int) < (l0_2.length : Int):=by omega
      refine wpIn_seq_k (fun K1 hK1=>?_)
      have HK1:=Aside0.mk hK1
      clear hK1
      gi_wp2
      refine HK1.out _ _ ?_
      clear HK1 K1
      refine wpIn_seq_k (fun K1 hK1=>?_)
      have HK1:=Aside0.mk hK1
      clear hK1
      gi_wp2
      refine HK1.out _ _ ?_
      clear HK1 K1
      refine wpIn_seq_k (fun K1 hK1=>?_)
      have HK1:=Aside0.mk hK1
      clear hK1
      refine wpIn_block ?_
      refine wpIn_seq_k (fun K2 hK2=>?_)
      have HK2:=Aside0.mk hK2
      clear hK2
      gi_wp2
      refine HK2.out _ _ ?_
      clear HK2 K2
      obtain ⟨X0,hX0⟩ : ∃ X0,W.alloc (.cells #[.int .i64 (i : Int)] 3) = X0:=⟨_,rfl⟩
      have hb0 : Below W.heap.size W X0:=by rw [← hX0];exact (Below.refl _ W).alloc (Nat.le_refl _) _
      have hsx0 : X0.heap.size = W.heap.size + 1:=by rw [← hX0];simp
      have b3 : X0.heap[W.heap.size]? = some (.cells #[.int .i64 (i : Int)] 3 (0,0)):=by rw [← hX0];exact World.alloc_heap_new W _
      rw [hX0]
      clear hX0
      replace hR:=Kd.R_below hR hb0
      replace b31:=(hb0.block _ (blk_lt b31)).trans b31
      replace b33:=(hb0.block _ (blk_lt b33)).trans b33
      replace hF2:=Kd.F_below hF2 hb0
      replace hBW:=hBW.trans (hb0.mono hBW.size)
      have hDs0 : ∀ D ∈ Ds,W2.heap.size < D∧D < W.heap.size∧X0.heap[D]? = some (.deferred (some [])):=fun D hD=>⟨(hDs D hD).1,(hDs D hD).2.1,(hb0.block _ (hDs D hD).2.1).trans (hDs D hD).2.2⟩
      have c31' : X0.cell? ⟨w.heap.size + 1 + 1,0,none⟩ = some (.slice (some ⟨w.heap.size + 1,0,none⟩) l0_2.length l0_2.length):=cellOf b31 0 rfl
      have c3' : X0.cell? ⟨W.heap.size,0,none⟩ = some (.int .i64 (i : Int)):=cellOf b3 0 rfl
      obtain ⟨hxo,hfo⟩:=Kd.R_celln (0 : Int) hR (i : Int) (by omega) (by omega)
      rw [Int.toNat_natCast] at hxo hfo
      have hRp:=Kd.R_putn hR (i : Int) (-1)
      rw [Int.toNat_natCast] at hRp
      clear hDs c31 hb0
      refine wpIn_seq_k (fun K2 hK2=>?_)
      have HK2:=Aside0.mk hK2
      clear hK2
      gi_wp2
      refine HK2.out _ _ ?_
      clear HK2 K2
      obtain ⟨X1,hX1⟩ : ∃ X1,X0.setCell ⟨w.heap.size + 1,i,none⟩ (.int .i64 (-1)) = X1:=⟨_,rfl⟩
      have hsx1 : X1.heap.size = X0.heap.size:=by rw [← hX1];simp
      have hof : ∀ q,q≠w.heap.size + 1→X1.heap[q]? = X0.heap[q]?:=fun q hq=>by rw [← hX1];exact Below.heap_setCell _ _ _ _ hq
      rw [hX1] at hRp ⊢
      replace b31:=(hof _ (by omega)).trans b31
      replace b33:=(hof _ (by omega)).trans b33
      replace b3:=(hof _ (by omega)).trans b3
      replace hF2 : Kd.F k38 X1 (fun k=>W1.heap.size≤k∧k < W2.heap.size) Ad dom.length dom:=Kd.F_step hF2 (fun q hq _=>hof q (by omega))
      replace hBW : Below w.heap.size w X1:=by rw [← hX1];exact hBW.setCell (p:=⟨w.heap.size + 1,i,none⟩) (show w.heap.size≤w.heap.size + 1 by omega) _
      have hDs1 : ∀ D ∈ Ds,W2.heap.size < D∧D < W.heap.size∧X1.heap[D]? = some (.deferred (some [])):=fun D hD=>⟨(hDs0 D hD).1,(hDs0 D hD).2.1,(hof _ (by have:=(hDs0 D hD).1;omega)).trans (hDs0 D hD).2.2⟩
      clear hX1 hof hR hxo hfo c31' c3' hDs0
      obtain ⟨hw1,hw2,hw3⟩:=HW.out i hlt
      obtain ⟨wn,hwn⟩ : ∃ wn,immSet k dom i = wn:=⟨_,rfl⟩
      rw [hwn] at hw1 hw2 hw3
      have hid : (i : Int) < (dom.length : Int):=by have:=HDL.out;omega
      obtain ⟨add,ce,rfl,_,hFKd,hccd,_⟩:=Kd.F_get hF2 (⟨[]⟩ : S38) (i : Int) (by omega) hid
      obtain ⟨Ai,ci,rfl,hci,hFi⟩:=k38_openF hFKd
      have hxd:=hccd 0 _ rfl
      simp only [show k38.sz = 1 from rfl,Nat.mul_one,Nat.add_zero] at hxd
      obtain ⟨wd,hwd⟩ : ∃ wd,(rd_T38 dom (i : Int)).f0 = wd:=⟨_,rfl⟩
      have hwd'' : (dom.getD ((i : Int)).toNat (⟨[]⟩ : S38)).f0 = wd:=hwd
      rw [hwd''] at hci hFi hxd
      rw [hwd] at hw1
      rw [Int.toNat_natCast] at hxd
      have hdl:=Kd.F_max hF2
      clear hFKd hccd
      have hSt : ∀ Y,Below X1.heap.size X1 Y→(Y.cell? ⟨W2.heap.size,0,none⟩ = some (.slice (some add) dom.length cd)∧Y.cell? ⟨W.heap.size,0,none⟩ = some (.int .i64 (i : Int))∧Y.cell? (add.add i) = some (.slice Ai wd.length ci)):=fun Y hb=>
        ⟨cellOf ((hb.block _ (blk_lt b33)).trans b33) 0 rfl,cellOf ((hb.block _ (blk_lt b3)).trans b3) 0 rfl,(World.cell?_of_block (w:=X1) (hb.block _ (World.block_lt_of_cell? _ _ hxd))).trans hxd⟩
      refine wpIn_seq_k (fun K2 hK2=>?_)
      have HK2:=Aside0.mk hK2
      clear hK2
      refine wpIn_wide.2 ?_
      refine wp_mono (Q:=Exit.then K2 (fun _ _ _=>False)) ?_ (fun e a w h=>by cases e <;> first|exact h|exact h.elim)
      refine start_ (n:=7) (S:=fun Y=>Y.cell? ⟨W2.heap.size,0,none⟩ = some (.slice (some add) dom.length cd)∧Y.cell? ⟨W.heap.size,0,none⟩ = some (.int .i64 (i : Int))∧Y.cell? (add.add i) = some (.slice Ai wd.length ci)) (ds:=[]) #[false,false,false,false,false,false,false] (by kernel_rfl) rfl rfl (hSt _ (qdb (Below.refl _ _))) (fun hHeld=>?_);refine qdl qbi.tab7 qbi.bits7 (fun HT_ HW_=>?_)
      obtain ⟨Y0,hY0⟩ : ∃ Y0,X1.drew = Y0:=⟨_,rfl⟩
      have hb0 : Below X1.heap.size X1 Y0:=by rw [← hY0];exact qdb (Below.refl _ _)
      rw [hY0] at hHeld ⊢
      refine take_ (i:=0) (N:=some 21) (v:=?_) (a':=?_) #[true,false,false,false,false,false,false] rfl rfl (qcf HT_.out HW_.out (by kernel_rfl)) (fun _ _ _ h=>h) (Or.inl ⟨by rfl,?_⟩) hHeld ?_ ?_
      rotate_left
      · rintro w' ⟨s0,s1,s2⟩
        go_simp
        with_reducible rfl
      rotate_left
      · simp only [Act.put,List.setIfInBounds_toArray,List.set_cons_zero,List.set_cons_succ,i64_w,i32_w]
        rfl
      refine take_ (i:=1) (N:=some 22) (v:=?_) (a':=?_) #[true,true,false,false,false,false,false] rfl rfl (qcf HT_.out HW_.out (by kernel_rfl)) (fun _ _ _ h=>h) (Or.inl ⟨by rfl,?_⟩) hHeld ?_ ?_
      rotate_left
      · rintro w' ⟨s0,s1,s2⟩
        go_simp
        with_reducible rfl
      rotate_left
      · simp only [Act.put,List.setIfInBounds_toArray,List.set_cons_zero,List.set_cons_succ,i64_w,i32_w]
        rfl
      refine pure_ (i:=2) (N:=some 23) (v:=?_) (a':=?_) #[true,true,true,false,false,false,false] rfl rfl (any_of HT_.out (by kernel_rfl)) (fun _ _ _ h=>h) (Or.inl ⟨by rfl,?_⟩) ?_ ?_
      rotate_left
      · intro w'
        go_simp
        with_reducible rfl
      rotate_left
      · simp only [Act.put,List.setIfInBounds_toArray,List.set_cons_zero,List.set_cons_succ,i64_w,i32_w]
        rfl
      refine take_ (i:=3) (N:=some 24) (v:=?_) (a':=?_) #[true,true,true,true,false,false,false] rfl rfl (qcf HT_.out HW_.out (by kernel_rfl)) (fun _ _ _ h=>h) (Or.inl ⟨by rfl,?_⟩) hHeld ?_ ?_
      rotate_left
      · rintro w' ⟨s0,s1,s2⟩
        go_simp
        with_reducible rfl
      rotate_left
      · simp only [Act.put,List.setIfInBounds_toArray,List.set_cons_zero,List.set_cons_succ,i64_w,i32_w]
        rfl
      refine take_ (i:=4) (N:=some 25) (v:=?_) (a':=?_) #[true,true,true,true,true,false,false] rfl rfl (qcf HT_.out HW_.out (by kernel_rfl)) (fun _ _ _ h=>h) (Or.inl ⟨by rfl,?_⟩) hHeld ?_ ?_
      rotate_left
      · rintro w' ⟨s0,s1,s2⟩
        go_simp
        with_reducible rfl
      rotate_left
      · simp only [Act.put,List.setIfInBounds_toArray,List.set_cons_zero,List.set_cons_succ,i64_w,i32_w]
        rfl
      refine one_ (i:=5) (N:=some 26) #[true,true,true,true,true,true,false] rfl rfl (one_of HT_.out (by kernel_rfl)) (by decide) (fun K hK=>?_)
      refine goes_ Tryd.func57 (by kernel_rfl) rfl #[.agg #[.slice Ai wd.length ci],.int .i64 (i : Int)] (by rfl) rfl rfl (by (try simp only [List.map_toArray,List.map_cons,List.map_nil]);rfl) ?_
      refine (qbw.calls k Ai ci wd (i : Int) wn Y0 (Kd.C_below (Kd.F_now hFi) hb0) hci hw1).mono ?_
      rintro e Y1 ⟨v1,rfl,hV1,hb1⟩
      refine ⟨_,rfl,?_⟩
      obtain ⟨A1,c1,rfl⟩:=Kd.V_slice hV1
      have hF1' : Kd.F (Kd.int .u64) Y1 (fun k=>Y0.heap.size≤k) A1 wn.length wn:=Kd.V_F hV1
      have hb1':=hb0.trans (hb1.mono hb0.size)
      have hs0:=hb0.size
      clear hV1 hb1 hb0
      refine hK.out _ _ (hSt _ hb1') (fun hHeld=>?_)
      clear hK K
      refine norm_ (a':=?_) ?_ ?_
      rotate_left
      · show Act.put _ (some 26) _ = _
        simp only [Act.put,List.setIfInBounds_toArray,List.set_cons_zero,List.set_cons_succ,i64_w,i32_w]
        rfl
      refine one_ (i:=6) (N:=some 27) #[true,true,true,true,true,true,true] rfl rfl (one_of HT_.out (by kernel_rfl)) (by decide) (fun K hK=>?_)
      refine goes_ Tryd.func52 (by kernel_rfl) rfl #[.agg #[.slice A1 wn.length c1]] (by rfl) rfl rfl (by (try simp only [List.map_toArray,List.map_cons,List.map_nil]);rfl) ?_
      refine (qcp.calls_in (.slice A1 wn.length c1) Y1).mono ?_
      rintro e Y2 ⟨rfl,hY2⟩
      refine ⟨_,rfl,?_⟩
      have hb2 : Below Y1.heap.size Y1 Y2:=by rw [hY2];exact (Below.refl _ _).alloc (Nat.le_refl _) _
      have hsy2 : Y2.heap.size = Y1.heap.size + 1:=by rw [hY2];simp
      have b7 : Y2.heap[Y1.heap.size]? = some (.cells #[.slice A1 wn.length c1] 38 (0,0)):=by rw [hY2];exact World.alloc_heap_new Y1 _
      have hb2':=hb1'.trans (hb2.mono hb1'.size)
      replace hF1':=Kd.F_below hF1' hb2
      have hsy1:=hb1'.size
      clear hY2 hb2 hb1' hY0
      refine hK.out _ _ (hSt _ hb2') (fun hHeld=>?_)
      clear hK K
      refine norm_ (a':=?_) ?_ ?_
      rotate_left
      · show Act.put _ (some 27) _ = _
        simp only [Act.put,List.setIfInBounds_toArray,List.set_cons_zero,List.set_cons_succ,i64_w,i32_w]
        rfl
      refine done_ (done_of HT_.out (by kernel_rfl)) ?_
      refine HK2.out _ _ ?_
      clear HK2 K2 HT_ HW_ hHeld hSt
      refine wpIn_block ?_
      replace hRp:=Kd.R_below hRp hb2'
      replace b31:=(hb2'.block _ (blk_lt b31)).trans b31
      replace b33:=(hb2'.block _ (blk_lt b33)).trans b33
      replace b3:=(hb2'.block _ (blk_lt b3)).trans b3
      replace hF2:=Kd.F_below hF2 hb2'
      replace hBW:=hBW.trans (hb2'.mono hBW.size)
      have hDs2 : ∀ D ∈ Ds,W2.heap.size < D∧D < W.heap.size∧Y2.heap[D]? = some (.deferred (some [])):=fun D hD=>⟨(hDs1 D hD).1,(hDs1 D hD).2.1,(hb2'.block _ (by have:=(hDs1 D hD).2.1;omega)).trans (hDs1 D hD).2.2⟩
      have hT2:=HT.out.below' hBW
      have hT0:=HT.out.2.1
      clear hDs1 hb2' hFi hxd hw1
      have hs12' : W2.heap.size < Y2.heap.size:=by omega
      replace hsy2:=Nat.le_antisymm_iff.1 hsy2
      refine wpIn_rangeFunc_ownF (w0:=Y2) rfl (by decide) (gf:=76) (lb:=#[.pointer (some ⟨Y1.heap.size,0,none⟩)]) rfl trivial (enters_of Tryd.func76 (by kernel_rfl) rfl)
        (qcp.stops _ Y1.heap.size (But Y2.heap.size (w.heap.size + 1)) (But.refl _ _) But.trans A1 c1 wn Y2 (fun hb h=>(But.of_below hb (Nat.le_refl _)).trans h) hw2 (by omega) (fun W' h=>But.tab hT2 (by omega) (by omega) h) (cellOf b7 0 rfl) (fun W' h=>Kd.F_now (Kd.F_step hF1' (fun k hk hlt=>h.2 k hlt (by omega))))) But.trans (fun W l o o' hl _ _ _=>But.putObj W _ hl) (Below.refl _ _) (fun _=>rfl)
        (fun pre Y=>(((Kd.R (Kd.int .i64) 3 Y w.heap.size (fun k=>k = w.heap.size + 1) (.slice (some ⟨w.heap.size + 1,0,none⟩) l0_2.length l0_2.length) ((immRow k dom l0_2.length i).set i ((vals pre).foldl (immStep k dom i) (-1)))∧Y.heap[w.heap.size + 1 + 1]? = some (.cells #[.slice (some ⟨w.heap.size + 1,0,none⟩) l0_2.length l0_2.length] 31 (0,0))∧Y.heap[W2.heap.size]? = some (.cells #[.slice (some add) dom.length cd] 33 (0,0))∧Y.heap[W.heap.size]? = some (.cells #[.int .i64 (i : Int)] 3 (0,0)))∧Kd.F k38 Y (fun k=>W1.heap.size≤k∧k < W2.heap.size) (some add) dom.length dom∧∀ D ∈ Ds,W2.heap.size < D∧D < W.heap.size∧Y.heap[D]? = some (.deferred (some [])))∧(Below w.heap.size w Y∧Y2.heap.size≤Y.heap.size)))
        (fun _ _ _=>False)
        (fun s X Z row hs hg hr=>⟨⟨⟨rowRow hg (fun r e=>(hr r e).2) hs.1.1.1,qeb hg (fun r e=>(hr r e).2) hs.1.1.2.1,qeb hg (fun r e=>(hr r e).2) hs.1.1.2.2.1,qeb hg (fun r e=>(hr r e).2) hs.1.1.2.2.2⟩,Kd.F_grown hs.1.2.1 hg (fun k hk e=>by have:=(hr k e.symm).1;omega),fun D hD=>⟨(hs.1.2.2 D hD).1,(hs.1.2.2 D hD).2.1,(hg.block D (Array.getElem?_eq_some_iff.1 (hs.1.2.2 D hD).2.2).1 (fun e=>by have:=(hr D e.symm).1;have:=(hs.1.2.2 D hD).2.1;omega)).trans (hs.1.2.2 D hD).2.2⟩⟩,ownFrom_below (β:=Unit) (Nat.le_refl _) (by omega) () X Z row hs.2.1 hg hr,Nat.le_trans hs.2.2 hg.size⟩)
        (fun _ _ _ _ _ hs _ _=>hs)
        ⟨⟨⟨hRp,b31,b33,b3⟩,hF2,hDs2⟩,hBW,Nat.le_refl _⟩
        (fun x=>{ tmps:=#[Value.agg #[Value.bool a0_0,Value.int IntKind.i64 a0_1,Value.slice A0_2 l0_2.length c0_2],.pointer (some ⟨w.heap.size,0,none⟩),.slice none 0 0,.pointer (some ⟨w.heap.size + 1 + 1,0,none⟩),.pointer (some ⟨W2.heap.size,0,none⟩),.pointer (some ⟨W.heap.size,0,none⟩),.int .i64 x.1,.pointer (some ⟨w.heap.size,2,none⟩),.slice A0_2 l0_2.length c0_2,.int .i64 l0_2.length,.slice (some ⟨w.heap.size + 1,0,none⟩) l0_2.length l0_2.length,Value.agg #[Value.bool a0_0,Value.int IntKind.i64 a0_1,Value.slice A0_2 l0_2.length c0_2],.slice (some add) dom.length cd,.slice (some ⟨w.heap.size + 1,0,none⟩) l0_2.length l0_2.length,.int .i64 l0_2.length,.int .i64 (i : Int),.bool true,.int .i64 (i : Int),.slice (some ⟨w.heap.size + 1,0,none⟩) l0_2.length l0_2.length,.int .i64 (i : Int),.pointer (some ⟨w.heap.size + 1,i,none⟩),.slice (some add) dom.length cd,.int .i64 (i : Int),.pointer (some (add.add i)),.agg #[.slice Ai wd.length ci],.int .i64 (i : Int),.agg #[.slice A1 wn.length c1],.func (.func 76) #[] #[.pointer (some ⟨Y1.heap.size,0,none⟩)],.int .i64 x.1,u29,u30,u31,u32,u33,u34,u35,u36,u37,u38,u39,u40,u41,u42,u43,u44,u45,undef],defers:=[] }) ?assign ?body ?done ?stop
      case assign=>
        intro l x W' K4 hK4
        gi_wp2
        exact hK4
      case body=>
        rintro l pre x Y ⟨⟨⟨hR3,b31,b33,b3⟩,hF3,hDs3⟩,hBY,hsY⟩ hpl
        obtain ⟨hx0,hx1⟩:=hw3 x.1 x.2
        have hxdl : x.1 < (dom.length : Int):=by have:=HDL.out;omega
        have hlx:=HLn.out x.1 hx0 hx1
        have hln:=HLn.out (i : Int) (by omega) (by omega)
        obtain ⟨adx,cex,hex,_,hFKx,hccx,_⟩:=Kd.F_get hF3 (⟨[]⟩ : S38) x.1 hx0 hxdl
        injection hex with hex
        subst hex
        obtain ⟨Ax,cx,rfl,hcx,hFx⟩:=k38_openF hFKx
        have hxx:=hccx 0 _ rfl
        obtain ⟨adn,cen,hen,_,hFKn,hccn,_⟩:=Kd.F_get hF3 (⟨[]⟩ : S38) (i : Int) (by omega) hid
        injection hen with hen
        subst hen
        obtain ⟨Ai',ci',rfl,hci',hFi⟩:=k38_openF hFKn
        have hxn:=hccn 0 _ rfl
        simp only [show k38.sz = 1 from rfl,Nat.mul_one,Nat.add_zero] at hxx hxn
        obtain ⟨wx,hwx⟩ : ∃ wx,(rd_T38 dom x.1).f0 = wx:=⟨_,rfl⟩
        have hwx' : (dom.getD x.1.toNat (⟨[]⟩ : S38)).f0 = wx:=hwx
        rw [hwx'] at hcx hFx hxx
        rw [hwx] at hlx
        have hwd' : (dom.getD ((i : Int)).toNat (⟨[]⟩ : S38)).f0 = wd:=hwd
        rw [hwd'] at hci' hFi hxn
        rw [hwd] at hln
        rw [Int.toNat_natCast] at hxn
        obtain ⟨lx,hlxe⟩ : ∃ lx,lenT k wx = lx:=⟨_,rfl⟩
        obtain ⟨ln,hlne⟩ : ∃ ln,lenT k wd = ln:=⟨_,rfl⟩
        rw [hlxe] at hlx
        rw [hlne] at hln
        clear hFKx hFKn hccx hccn
        have hSt : ∀ Y',Below Y.heap.size Y Y'→(Y'.cell? ⟨W2.heap.size,0,none⟩ = some (.slice (some add) dom.length cd)∧Y'.cell? ⟨W.heap.size,0,none⟩ = some (.int .i64 (i : Int))∧Y'.cell? (add.add x.1.toNat) = some (.slice Ax wx.length cx)∧Y'.cell? (add.add i) = some (.slice Ai' wd.length ci')):=fun Y' hb=>
          ⟨cellOf ((hb.block _ (blk_lt b33)).trans b33) 0 rfl,cellOf ((hb.block _ (blk_lt b3)).trans b3) 0 rfl,(World.cell?_of_block (w:=Y) (hb.block _ (World.block_lt_of_cell? _ _ hxx))).trans hxx,(World.cell?_of_block (w:=Y) (hb.block _ (World.block_lt_of_cell? _ _ hxn))).trans hxn⟩
        refine wpIn_block ?_
        refine wpIn_seq_k (fun K3 hK3=>?_)
        have HK3:=Aside0.mk hK3
        clear hK3
        refine startIn_ (m:=12) (S:=fun Y'=>Y'.cell? ⟨W2.heap.size,0,none⟩ = some (.slice (some add) dom.length cd)∧Y'.cell? ⟨W.heap.size,0,none⟩ = some (.int .i64 (i : Int))∧Y'.cell? (add.add x.1.toNat) = some (.slice Ax wx.length cx)∧Y'.cell? (add.add i) = some (.slice Ai' wd.length ci')) (ds:=[]) #[false,false,false,false,false,false,false,false,false,false,false,false] (by kernel_rfl) rfl rfl rfl (fun hh=>by obtain ⟨_,_,hh⟩:=hh;exact hh) (hSt _ (qdb (Below.refl _ _))) (fun hHeld=>?_);refine qdl qbi.tab9 qbi.bits9 (fun HT_ HW_=>?_)
        obtain ⟨Y0,hY0⟩ : ∃ Y0,Y.drew = Y0:=⟨_,rfl⟩
        have hb0 : Below Y.heap.size Y Y0:=by rw [← hY0];exact qdb (Below.refl _ _)
        rw [hY0] at hHeld ⊢
        clear hY0
        refine take_ (i:=0) (N:=some 29) (v:=?_) (a':=?_) #[true,false,false,false,false,false,false,false,false,false,false,false] rfl rfl (qcf HT_.out HW_.out (by kernel_rfl)) (fun _ _ _ h=>h) (Or.inl ⟨by rfl,?_⟩) hHeld ?_ ?_
        rotate_left
        · rintro w' ⟨s0,s1,s2,s3⟩
          go_simp
          with_reducible rfl
        rotate_left
        · simp only [Act.put,List.setIfInBounds_toArray,List.set_cons_zero,List.set_cons_succ,i64_w,i32_w]
          rfl
        refine pure_ (i:=1) (N:=some 30) (v:=?_) (a':=?_) #[true,true,false,false,false,false,false,false,false,false,false,false] rfl rfl (any_of HT_.out (by kernel_rfl)) (fun _ _ _ h=>h) (Or.inl ⟨by rfl,?_⟩) ?_ ?_
        rotate_left
        · intro w'
          go_simp
          with_reducible rfl
        rotate_left
        · simp only [Act.put,List.setIfInBounds_toArray,List.set_cons_zero,List.set_cons_succ,i64_w,i32_w]
          rfl
        refine pure_ (i:=2) (N:=some 31) (v:=?_) (a':=?_) #[true,true,true,false,false,false,false,false,false,false,false,false] rfl rfl (any_of HT_.out (by kernel_rfl)) (fun _ _ _ h=>h) (Or.inl ⟨by rfl,?_⟩) ?_ ?_
        rotate_left
        · intro w'
          go_simp
          with_reducible rfl
        rotate_left
        · simp only [Act.put,List.setIfInBounds_toArray,List.set_cons_zero,List.set_cons_succ,i64_w,i32_w]
          rfl
        refine take_ (i:=3) (N:=some 32) (v:=?_) (a':=?_) #[true,true,true,true,false,false,false,false,false,false,false,false] rfl rfl (qcf HT_.out HW_.out (by kernel_rfl)) (fun _ _ _ h=>h) (Or.inl ⟨by rfl,?_⟩) hHeld ?_ ?_
        rotate_left
        · rintro w' ⟨s0,s1,s2,s3⟩
          go_simp
          with_reducible rfl
        rotate_left
        · simp only [Act.put,List.setIfInBounds_toArray,List.set_cons_zero,List.set_cons_succ,i64_w,i32_w]
          rfl
        refine take_ (i:=5) (N:=some 34) (v:=?_) (a':=?_) #[true,true,true,true,false,true,false,false,false,false,false,false] rfl rfl (qcf HT_.out HW_.out (by kernel_rfl)) (fun _ _ _ h=>h) (Or.inl ⟨by rfl,?_⟩) hHeld ?_ ?_
        rotate_left
        · rintro w' ⟨s0,s1,s2,s3⟩
          go_simp
          with_reducible rfl
        rotate_left
        · simp only [Act.put,List.setIfInBounds_toArray,List.set_cons_zero,List.set_cons_succ,i64_w,i32_w]
          rfl
        refine take_ (i:=6) (N:=some 35) (v:=?_) (a':=?_) #[true,true,true,true,false,true,true,false,false,false,false,false] rfl rfl (qcf HT_.out HW_.out (by kernel_rfl)) (fun _ _ _ h=>h) (Or.inl ⟨by rfl,?_⟩) hHeld ?_ ?_
        rotate_left
        · rintro w' ⟨s0,s1,s2,s3⟩
          go_simp
          with_reducible rfl
        rotate_left
        · simp only [Act.put,List.setIfInBounds_toArray,List.set_cons_zero,List.set_cons_succ,i64_w,i32_w]
          rfl
        refine pure_ (i:=7) (N:=some 36) (v:=?_) (a':=?_) #[true,true,true,true,false,true,true,true,false,false,false,false] rfl rfl (any_of HT_.out (by kernel_rfl)) (fun _ _ _ h=>h) (Or.inl ⟨by rfl,?_⟩) ?_ ?_
        rotate_left
        · intro w'
          go_simp
          with_reducible rfl
        rotate_left
        · simp only [Act.put,List.setIfInBounds_toArray,List.set_cons_zero,List.set_cons_succ,i64_w,i32_w]
          rfl
        refine take_ (i:=8) (N:=some 37) (v:=?_) (a':=?_) #[true,true,true,true,false,true,true,true,true,false,false,false] rfl rfl (qcf HT_.out HW_.out (by kernel_rfl)) (fun _ _ _ h=>h) (Or.inl ⟨by rfl,?_⟩) hHeld ?_ ?_
        rotate_left
        · rintro w' ⟨s0,s1,s2,s3⟩
          go_simp
          with_reducible rfl
        rotate_left
        · simp only [Act.put,List.setIfInBounds_toArray,List.set_cons_zero,List.set_cons_succ,i64_w,i32_w]
          rfl
        refine one_ (i:=4) (N:=some 33) #[true,true,true,true,true,true,true,true,true,false,false,false] rfl rfl (one_of HT_.out (by kernel_rfl)) (by decide) (fun K hK=>?_)
        refine goes_ Tryd.func31 (by kernel_rfl) rfl #[.agg #[.slice Ax wx.length cx]] (by rfl) rfl rfl (by (try simp only [List.map_toArray,List.map_cons,List.map_nil]);rfl) ?_
        refine (qbe.calls k Ax cx wx lx Y0 (Kd.C_below (Kd.F_now hFx) hb0) hcx hlx).mono ?_
        rintro e Z1 ⟨rfl,hz1⟩
        refine ⟨_,rfl,?_⟩
        have hz1':=hb0.trans (hz1.mono hb0.size)
        refine hK.out _ _ (hSt _ hz1') (fun hHeld=>?_)
        clear hK K
        refine norm_ (a':=?_) ?_ ?_
        rotate_left
        · show Act.put _ (some 33) _ = _
          simp only [Act.put,List.setIfInBounds_toArray,List.set_cons_zero,List.set_cons_succ,i64_w,i32_w]
          rfl
        refine one_ (i:=9) (N:=some 38) #[true,true,true,true,true,true,true,true,true,true,false,false] rfl rfl (one_of HT_.out (by kernel_rfl)) (by decide) (fun K hK=>?_)
        refine goes_ Tryd.func31 (by kernel_rfl) rfl #[.agg #[.slice Ai' wd.length ci']] (by rfl) rfl rfl (by (try simp only [List.map_toArray,List.map_cons,List.map_nil]);rfl) ?_
        refine (qbe.calls k Ai' ci' wd ln Z1 (Kd.C_below (Kd.F_now hFi) hz1') hci' hln).mono ?_
        rintro e Z2 ⟨rfl,hz2⟩
        refine ⟨_,rfl,?_⟩
        have hz2':=hz1'.trans (hz2.mono hz1'.size)
        clear hz1 hz2 hz1'
        refine hK.out _ _ (hSt _ hz2') (fun hHeld=>?_)
        clear hK K
        refine norm_ (a':=?_) ?_ ?_
        rotate_left
        · show Act.put _ (some 38) _ = _
          simp only [Act.put,List.setIfInBounds_toArray,List.set_cons_zero,List.set_cons_succ,i64_w,i32_w]
          rfl
        refine pure_ (i:=10) (N:=some 39) (v:=?_) (a':=?_) #[true,true,true,true,true,true,true,true,true,true,true,false] rfl rfl (any_of HT_.out (by kernel_rfl)) (fun _ _ _ h=>h) (Or.inl ⟨by rfl,?_⟩) ?_ ?_
        rotate_left
        · intro w'
          go_simp
          with_reducible rfl
        rotate_left
        · simp only [Act.put,List.setIfInBounds_toArray,List.set_cons_zero,List.set_cons_succ,i64_w,i32_w]
          rfl
        refine pure_ (i:=11) (N:=some 40) (v:=?_) (a':=?_) #[true,true,true,true,true,true,true,true,true,true,true,true] rfl rfl (any_of HT_.out (by kernel_rfl)) (fun _ _ _ h=>h) (Or.inl ⟨by rfl,?_⟩) ?_ ?_
        rotate_left
        · intro w'
          go_simp
          with_reducible rfl
        rotate_left
        · simp only [Act.put,List.setIfInBounds_toArray,List.set_cons_zero,List.set_cons_succ,i64_w,i32_w]
          rfl
        refine done_ (done_of HT_.out (by kernel_rfl)) ?_
        refine HK3.out _ _ ?_
        clear HK3 K3 HT_ HW_ hHeld hSt
        have hkeep:=keeps_below hz2'
        replace hR3:=Kd.R_below hR3 hz2'
        replace b31:=(hz2'.block _ (blk_lt b31)).trans b31
        replace b33:=(hz2'.block _ (blk_lt b33)).trans b33
        replace b3:=(hz2'.block _ (blk_lt b3)).trans b3
        replace hF3:=Kd.F_below hF3 hz2'
        have hDs4 : ∀ D ∈ Ds,W2.heap.size < D∧D < W.heap.size∧Z2.heap[D]? = some (.deferred (some [])):=fun D hD=>⟨(hDs3 D hD).1,(hDs3 D hD).2.1,(hz2'.block _ (by have:=(hDs3 D hD).2.1;omega)).trans (hDs3 D hD).2.2⟩
        replace hBY:=hBY.trans (hz2'.mono hBY.size)
        have hBt : But Y2.heap.size (w.heap.size + 1) Y Z2:=But.of_below hz2' hsY
        have hsf:=hz2'.size
        have c31 : Z2.cell? ⟨w.heap.size + 1 + 1,0,none⟩ = some (.slice (some ⟨w.heap.size + 1,0,none⟩) l0_2.length l0_2.length):=cellOf b31 0 rfl
        have c3 : Z2.cell? ⟨W.heap.size,0,none⟩ = some (.int .i64 (i : Int)):=cellOf b3 0 rfl
        obtain ⟨hxo,hfo⟩:=Kd.R_celln (0 : Int) hR3 (i : Int) (by omega) (by omega)
        rw [Int.toNat_natCast] at hxo hfo
        have hRp:=Kd.R_putn hR3 (i : Int) x.1
        rw [Int.toNat_natCast,List.set_set] at hRp
        have e1 : (vals (pre ++ [x])).foldl (immStep k dom i) (-1) = immStep k dom i ((vals pre).foldl (immStep k dom i) (-1)) x.1:=by rw [vals_snoc,List.foldl_append];rfl
        have e2 : ∀ o,immStep k dom i o x.1 = if lx = wrap64 (ln - 1) then x.1 else o:=fun o=>by rw [immStep,hwx,hwd,hlxe,hlne]
        clear hz2'
        by_cases hc : lx = wrap64 (ln - 1)
        · have hcb : (lx == wrap64 (ln - 1)) = true:=by simp [hc]
          gi_wp2
          have hof : ∀ q,q≠w.heap.size + 1→(Z2.setCell ⟨w.heap.size + 1,i,none⟩ (.int .i64 x.1)).heap[q]? = Z2.heap[q]?:=fun q hq=>Below.heap_setCell _ _ _ _ hq
          refine ⟨hkeep.trans (KeepsOthers.setCell _ _ _),hBt.trans (But.setCell _ _ _),⟨⟨?_,(hof _ (by omega)).trans b31,(hof _ (by omega)).trans b33,(hof _ (by omega)).trans b3⟩,Kd.F_step hF3 (fun q hq _=>hof q (by omega)),fun D hD=>⟨(hDs4 D hD).1,(hDs4 D hD).2.1,(hof _ (by have:=(hDs4 D hD).1;omega)).trans (hDs4 D hD).2.2⟩⟩,hBY.setCell (p:=⟨w.heap.size + 1,i,none⟩) (show w.heap.size≤w.heap.size + 1 by omega) _,by simp;omega⟩
          rw [e1,e2,if_pos hc]
          exact hRp
        · have hcb : (lx == wrap64 (ln - 1)) = false:=by simp [hc]
          gi_wp2
          refine ⟨hkeep,hBt,⟨⟨?_,b31,b33,b3⟩,hF3,hDs4⟩,hBY,by omega⟩
          rw [e1,e2,if_neg hc]
          exact hR3
      case done=>
        rintro D ys Y hD hS ⟨⟨⟨hR3,b31,b33,b3⟩,hF3,hDs3⟩,hBY,hsY⟩ hKD
        rw [show vals ys = els wn from hS] at hR3
        have e1 : (immRow k dom l0_2.length i).set i ((els wn).foldl (immStep k dom i) (-1)) = immRow k dom l0_2.length (i + 1):=by
          rw [← immRow_step hlt,immAt,hwn]
        rw [e1] at hR3
        gi_wp2
        refine HK1.out _ _ ?_
        clear HK1 K1
        gi_wp2
        refine HKK.out (m - 1) _ _ (by omega) ⟨i + 1,D :: Ds,_,_,_,_,_,_,_,_,_,_,_,_,_,_,_,_,_,_,_,_,_,_,_,_,_,_,_,_,_,_,_,_,by omega,by go_num,hR3,b31,b33,hF3,hBY,by omega,List.nodup_cons.2 ⟨fun hm=>by have:=(hDs3 D hm).2.1;omega,hnd⟩,fun E hE=>?_⟩
        rcases List.mem_cons.1 hE with rfl|hE
        · exact ⟨by omega,(Array.getElem?_eq_some_iff.1 hKD).1,hKD⟩
        · exact ⟨(hDs3 E hE).1,by have:=(hDs3 E hE).2.1;omega,(hDs3 E hE).2.2⟩
      case stop=>
        rintro D c pre W' _ _ h _
        exact h.elim
    · obtain rfl : i = l0_2.length:=by omega
      have hnl : ¬ ((l0_2.length : Int) < (l0_2.length : Int)):=by omega
      have c31 : W.cell? ⟨w.heap.size + 1 + 1,0,none⟩ = some (.slice (some ⟨w.heap.size + 1,0,none⟩) l0_2.length l0_2.length):=cellOf b31 0 rfl
      gi_wp2
      refine leaves_collected Ds W hnd (fun D hD=>(hDs D hD).2.2) (fun W' hW'=>?_)
      have hd : ∀ D ∈ Ds,w.heap.size≤D:=fun D hD=>by have:=(hDs D hD).1;omega
      refine ⟨_,results_tmp rfl _ _ _,_,rfl,?_,hW'.below hBW hd⟩
      have e1 : (List.range l0_2.length).map (fun n=>immAt k dom n) = immRow k dom l0_2.length l0_2.length:=by simp [immRow]
      rw [show (List.range l0_2.length).map (immAt k dom) = immRow k dom l0_2.length l0_2.length by simp [immRow]]
      exact Kd.R_mono (Kd.R_step hR (fun k hk _=>hW'.2.2.2.2 k (fun hx=>by have:=(hDs k hx).1;omega))) (fun _ _=>trivial)
end
end Go.Proofs.YtmfjmbcfaamebaaDoor.X
namespace Go.Proofs.YtmfjmbcfaamebaaDoor.X
open Go.RowKit Go.Proofs.YtmfjmbcfaamebaaDoorW.PrintWords Go.Proofs.YtmfjmbcfaamebaaDoorW.PrintLast Go.Proofs.YtmfjmbcfaamebaaDoorW.PrintMore
attribute [local go_sem] qbo qbu
set_option linter.unusedVariables false
set_option linter.unusedSimpArgs false
open Go.Lib Go.Sort
def sorted (l : List Int) : List Int:=l.mergeSort fun x y=>decide (x≤y)
def qcn.f (l0 : List Int) : Option (List Int):=if l0.length≤17592186044416 then some (sorted l0) else none
theorem sorted_length (l : List Int) : (sorted l).length = l.length:=by simp [sorted]
theorem qcn.calls (P0_ : Nat→Prop) (u9000_ : Value) (l0 : List Int) (r : List Int) (w0 w : World) (hB : Below w0.heap.size w0 w) (ho0 : Kd.R (Kd.int .i64) 3 w w0.heap.size P0_ u9000_ l0) (h : qcn.f l0 = some r) :
    Calls Tryd.prog 44 #[u9000_] w fun e w'=>e = .returned (.tuple #[])∧Kd.R (Kd.int .i64) 3 w' w0.heap.size (fun k_=>(P0_ k_∨w.heap.size≤k_)) u9000_ r∧Below w0.heap.size w0 w'∧Kept w w' (fun k_=>P0_ k_):=by
  unfold qcn.f at h
  by_cases hl : l0.length≤17592186044416
  case neg=>rw [if_neg hl] at h;cases h
  rw [if_pos hl] at h
  obtain rfl:=Option.some.inj h
  by_cases hv : u9000_ = .slice none 0 0
  · subst hv
    obtain rfl : l0 = []:=by
      obtain ⟨A,c,e,_⟩:=Kd.R_reads ho0
      injection e with _ e2
      exact List.eq_nil_of_length_eq_zero e2.symm
    refine (Tryd.slices_Sort_int_none none 0 w).mono ?_
    rintro e w' ⟨rfl,rfl⟩
    exact ⟨rfl,Kd.R_mono (by simpa [sorted] using ho0) (fun k hk=>.inl hk),hB,Kept.refl _ _⟩
  · have hown:=Kd.own_of_R ho0
    obtain ⟨gb,cap,rfl,hb,hlt,hn,hm,hl,hH⟩:=holds_of_ownsRow hown hv
    have hlen : l0.length < 4611686018427387904:=by omega
    refine (Tryd.slices_Sort_int gb 0 cap l0 w hH hlt hlen).mono ?_
    rintro e w' ⟨rfl,n,os,rfl⟩
    rcases hown.2 with ⟨e,_⟩|⟨g',cap',cur,e,hb',hcur,h1,h2,h3,h4⟩
    · cases e
    · injection e with e1 _ e3
      injection e1 with e1
      injection e1 with e1
      subst e1 e3
      have hR:=ownsRow_sortedI (n:=n) (os:=os) (ss:=l0) (ts:=sorted l0) (sorted_length l0) hb hcur h1 h2 h3
      rw [← sorted_length l0] at hR
      have hok:=ho0.1 gb rfl
      have hg : w.grownBy (grow (putRow (Value.int .i64) (Sort.ahead w n) gb 0 (sorted l0).toArray) os) (some gb):=grownBy_sortedI _
      refine ⟨rfl,?_,hB.grown hg hB.size (fun k hk=>by cases hk;exact hb),Kept.of_grown hg (Kept.refl _ _) (fun k hk=>by cases hk;exact .inl hok)⟩
      have:=Kd.R_of_own (h1:=fun _=>rfl) (ok:=fun k_=>(P0_ k_∨w.heap.size≤k_)) hR (fun k hk=>by simp [Value.ownBlock] at hk;subst hk;exact .inl hok)
      rw [sorted_length] at this
      exact this
end Go.Proofs.YtmfjmbcfaamebaaDoor.X
namespace Go.Proofs.YtmfjmbcfaamebaaDoor.X
open Go.RowKit Go.Proofs.YtmfjmbcfaamebaaDoorW.PrintWords Go.Proofs.YtmfjmbcfaamebaaDoorW.PrintLast Go.Proofs.YtmfjmbcfaamebaaDoorW.PrintMore
attribute [local go_sem] qbo qbu
set_option linter.unusedVariables false
set_option linter.unusedSimpArgs false
open Go.Lib Go.Sort
def qcl.f (l0 : List Int) : Option (List Int):=some (Lib.compact l0)
theorem qcl.calls (P0_ : Nat→Prop) (u9000_ : Value) (l0 : List Int) (r : List Int) (w0 w : World) (hB : Below w0.heap.size w0 w) (ho0 : Kd.R (Kd.int .i64) 3 w w0.heap.size P0_ u9000_ l0) (h : qcl.f l0 = some r) :
    Calls Tryd.prog 45 #[u9000_] w fun e w'=>∃ v0_ : Value,e = .returned (v0_)∧Kd.R (Kd.int .i64) 3 w' w0.heap.size (fun k_=>(P0_ k_∨w.heap.size≤k_)) v0_ r∧Below w0.heap.size w0 w'∧Kept w w' (fun k_=>P0_ k_):=by
  obtain rfl:=Option.some.inj h
  by_cases hv : u9000_ = .slice none 0 0
  · subst hv
    obtain rfl : l0 = []:=by
      obtain ⟨A,c,e,_⟩:=Kd.R_reads ho0
      injection e with _ e2
      exact List.eq_nil_of_length_eq_zero e2.symm
    refine (Tryd.slices_Compact_int_empty none 0 w).mono ?_
    rintro e w' ⟨rfl,rfl⟩
    exact ⟨_,rfl,Kd.R_mono (by simpa [Lib.compact,compactUpTo] using ho0) (fun k hk=>.inl hk),hB,Kept.refl _ _⟩
  · have hown:=Kd.own_of_R ho0
    obtain ⟨gb,cap,rfl,hb,hlt,hn,hm,hl,hH⟩:=holds_of_ownsRow hown hv
    have hmx : cap≤9223372036854775807:=by simpa [maxLen] using hm
    refine (Tryd.slices_Compact_int gb 0 cap l0 w hH (by omega) hn).mono ?_
    rintro e w' ⟨rfl,q,rfl⟩
    have hle : (Lib.compact l0).length≤l0.length:=compact_length_le l0
    have hR:=ownsRow_putRow (q:=q) (k:=(Lib.compact l0).length) (ys:=Lib.compact l0 ++ List.replicate (l0.length - (Lib.compact l0).length) 0) hown (by simp;omega) hle
    rw [List.take_left' rfl] at hR
    have hok:=ho0.1 gb rfl
    have hg : w.grownBy (putRow (Value.int .i64) (Sort.ahead w q) gb 0 (Lib.compact l0 ++ List.replicate (l0.length - (Lib.compact l0).length) 0).toArray) (some gb):=grownBy_putRow _
    exact ⟨_,rfl,Kd.R_of_own hR (fun k hk=>by simp [Value.ownBlock] at hk;subst hk;exact .inl hok),hB.grown hg hB.size (fun k hk=>by cases hk;exact hb),Kept.of_grown hg (Kept.refl _ _) (fun k hk=>by cases hk;exact .inl hok)⟩
end Go.Proofs.YtmfjmbcfaamebaaDoor.X
namespace Go.Proofs.YtmfjmbcfaamebaaDoor.X
open Go.RowKit Go.Proofs.YtmfjmbcfaamebaaDoorW.PrintWords Go.Proofs.YtmfjmbcfaamebaaDoorW.PrintLast Go.Proofs.YtmfjmbcfaamebaaDoorW.PrintMore
attribute [local go_sem] qbo qbu
set_option linter.unusedVariables false
set_option linter.unusedSimpArgs false
def qaz.l0 : Nat→List (List Int)→List (S60)→Int→Int→Bool→Int→List (S60)→Option ((List (List Int)))
  | 0,_,_,_,_,_,_,_=>none
  | k + 1,x3,x8,x9,x10,x102000,x102001,x102002=>if x10 < x9 then (if 0≤x10 then (if x10 < (x8.length : Int) then ((qdh.f x102000 x102001 x102002 ((rd_T60 x8 x10).f0) ((rd_T60 x8 x10).f1) ((rd_T60 x8 x10).f2) ((rd_T60 x8 x10).f3) ((rd_T60 x8 x10).f4)).bind fun t104=>((qcn.f t104).bind fun t107=>((qcl.f t107).bind fun t108=>(if x3.length < 5864062014805 then (qaz.l0 k (x3 ++ [t108]) x8 x9 (wrap64 (x10 + 1)) x102000 x102001 x102002) else (none))))) else (none)) else (none)) else (some x3)
def qaz.f (k : Nat) (a0_0 : Bool) (a0_1 : Int) (l0_2 : List (S60)) : Option ((List (List Int))):=qaz.l0 k ([] : List (List Int)) l0_2 (l0_2.length : Int) 0 a0_0 a0_1 l0_2
theorem qaz.mono_l : ∀ k,(∀ y0 y1 y2 y3 y4 y5 y6,LeO (qaz.l0 k y0 y1 y2 y3 y4 y5 y6) (qaz.l0 (k + 1) y0 y1 y2 y3 y4 y5 y6))
  | 0=>fun _ _ _ _ _ _ _ r h=>by simp [qaz.l0] at h
  | k + 1=>by
    have ih0:=qaz.mono_l k
    · intro y0 y1 y2 y3 y4 y5 y6
      unfold qaz.l0
      repeat' first|(with_reducible exact ih0 _ _ _ _ _ _ _)|(with_reducible exact LeO.refl _)|(with_reducible refine LeO.ite ?_ ?_)|(with_reducible refine LeO.bind ?_ (fun _=>?_))
theorem qaz.mono : ∀ a0 a1 a2 k,LeO (qaz.f k a0 a1 a2) (qaz.f (k + 1) a0 a1 a2):=by
  intro a0 a1 a2 k
  have ih0:=qaz.mono_l k
  unfold qaz.f
  repeat' (with_reducible exact ih0 _ _ _ _ _ _ _)
set_option maxHeartbeats 8000000 in
set_option maxRecDepth 100000 in
theorem qaz.calls (k : Nat) (a0_0 : Bool) (a0_1 : Int) (A0_2 : Option Addr) (c0_2 : Nat) (l0_2 : List (S60)) (r : List (List Int)) (w : World) (hr0_2 : Kd.C k60 w A0_2 l0_2.length l0_2) (hc0_2 : l0_2.length≤c0_2) (h : qaz.f k a0_0 a0_1 l0_2 = some r) :
    Calls Tryd.prog 14 #[.agg #[.bool a0_0,.int .i64 a0_1,.slice A0_2 l0_2.length c0_2]] w fun e w'=>∃ v0_ : Value,e = .returned (v0_)∧Kd.V (Kd.slice 3 (Kd.int .i64)) 31 w' w.heap.size (fun k_=>(w.heap.size≤k_)) v0_ r∧Below w.heap.size w w':=by
  have hu24:=Tryd.underlying24
  have hu60:=Tryd.underlying60
  have HR0_2:=Aside0.mk hr0_2
  have HC0_2:=Aside0.mk hc0_2
  clear hr0_2 hc0_2
  have HB:=Aside0.mk (Below.refl w.heap.size w)
  have H : (qaz.l0 k ([] : List (List Int)) l0_2 (l0_2.length : Int) 0 a0_0 a0_1 l0_2) = some r:=h
  clear h
  have H':=Aside0.mk H
  clear H
  go_enter Tryd.func14,Tryd.ntmps14
  go_wp2_with (((with_reducible refine qbg (N:=1) rfl ?_);refine qbl ?hg (N:=1) ?hd (cs:=#[.bool a0_0,.int .i64 a0_1,.slice A0_2 l0_2.length c0_2]) (t:=24) ?hr ?_;(case hd=>rfl);(case hg=>rfl);(case hr=>(go_simp;done));intro gb101 hg w2 hbox hb;have n0_:=Aside0.mk (qai HB.out hb);have n1_:=Aside0.mk (hbox);have n2_:=Aside0.mk ((by rw [hg];exact (qac HB.out) : w.heap.size≤gb101));have n3_:=Aside0.mk ((by rw [hg];exact (qac HB.out) : w.heap.size≤gb101));clear HB;have HB:=n0_;have BK101:=n1_;have GW101:=n2_;have GE101:=n3_;clear n0_ n1_ n2_ n3_;clear hb hbox hg;have hcz3_0 : w2.cell? ⟨gb101,0,none⟩ = some (.bool a0_0):=(qab BK101.out 0).trans rfl;have hcz3_1 : w2.cell? ⟨gb101,1,none⟩ = some (.int .i64 a0_1):=(qab BK101.out 1).trans rfl;have hcz3_2 : w2.cell? ⟨gb101,2,none⟩ = some (.slice A0_2 l0_2.length c0_2):=(qab BK101.out 2).trans rfl;have hfz3_0:=qaf BK101.out 0;have hfz3_1:=qaf BK101.out 1;have hfz3_2:=qaf BK101.out 2))
  go_loopg [3,10] k (fun kq v3 v10 w'=>∃ (x3_1 : List (List Int)) (x10_1 : Int),v10 = .int .i64 x10_1∧Aside0 (qaz.l0 kq x3_1 l0_2 (l0_2.length : Int) x10_1 a0_0 a0_1 l0_2 = some r)∧Aside0 (kq≤k)∧Aside0 (Kd.S (Kd.slice 3 (Kd.int .i64)) 31 w' w.heap.size (fun k_=>(w.heap.size≤k_)) v3 x3_1)∧Aside0 (w'.heap[gb101]? = some (.cells #[.bool a0_0,.int .i64 a0_1,(.slice A0_2 l0_2.length c0_2)] 24 (0,0)))∧Aside0 (Below w.heap.size w w'))
  case atStart=>exact ⟨(([] : List (List Int))),(0),(by rfl),H',⟨Nat.le_refl _⟩,⟨by exact Kd.S_nil _ _ _ _ _⟩,⟨by (with_reducible repeat (refine qaa ?_));exact BK101.out⟩,⟨by repeat ((with_reducible exact HB.out))⟩⟩
  case round=>
    clear H'
    try clear hcz3_0
    try clear hcz3_1
    try clear hcz3_2
    try clear hfz3_0
    try clear hfz3_1
    try clear hfz3_2
    obtain ⟨x3_1,x10_1,rfl,HA,HK1,HO_3,BK101,HB⟩:=hrel
    cases gk with
    | zero=>exact absurd HA.out (by simp [qaz.l0])
    | succ k1=>
      have H:=HA.out
      clear HA
      simp only [qaz.l0] at H
      by_cases c4 : x10_1 < (l0_2.length : Int)
      · rw [if_pos c4] at H
        have c4b0 : decide (x10_1 < (l0_2.length : Int)) = true:=decide_eq_true c4
        clear c4
        by_cases c5 : 0≤x10_1
        · rw [if_pos c5] at H
          have c5b0 : decide (0≤x10_1) = true:=decide_eq_true c5
          clear c5
          by_cases c6 : x10_1 < (l0_2.length : Int)
          · rw [if_pos c6] at H
            have c6b0 : decide (x10_1 < (l0_2.length : Int)) = true:=decide_eq_true c6
            clear c6
            replace H:=Option.bind_eq_some_iff.mp H
            obtain ⟨t104,A70,H⟩:=H
            replace H : ((qcn.f t104).bind fun t107=>((qcl.f t107).bind fun t108=>(if x3_1.length < 5864062014805 then (qaz.l0 k1 (x3_1 ++ [t108]) l0_2 (l0_2.length : Int) (wrap64 (x10_1 + 1)) a0_0 a0_1 l0_2) else (none)))) = some r:=H
            have A7:=Aside0.mk A70
            clear A70
            replace H:=Option.bind_eq_some_iff.mp H
            obtain ⟨t107,A80,H⟩:=H
            replace H : ((qcl.f t107).bind fun t108=>(if x3_1.length < 5864062014805 then (qaz.l0 k1 (x3_1 ++ [t108]) l0_2 (l0_2.length : Int) (wrap64 (x10_1 + 1)) a0_0 a0_1 l0_2) else (none))) = some r:=H
            have A8:=Aside0.mk A80
            clear A80
            replace H:=Option.bind_eq_some_iff.mp H
            obtain ⟨t108,A90,H⟩:=H
            replace H : (if x3_1.length < 5864062014805 then (qaz.l0 k1 (x3_1 ++ [t108]) l0_2 (l0_2.length : Int) (wrap64 (x10_1 + 1)) a0_0 a0_1 l0_2) else (none)) = some r:=H
            have A9:=Aside0.mk A90
            clear A90
            by_cases c10 : x3_1.length < 5864062014805
            · rw [if_pos c10] at H
              have LMc10:=Aside0.mk c10
              clear c10
              obtain ⟨y111,hy111⟩ : ∃ y_ : List (List Int),y_ = (x3_1 ++ [t108]):=⟨_,rfl⟩
              replace H : (qaz.l0 k1 y111 l0_2 (l0_2.length : Int) (wrap64 (x10_1 + 1)) a0_0 a0_1 l0_2) = some r:=by (rw [hy111];with_reducible exact H)
              have Ny111:=Aside0.mk hy111
              clear hy111
              have H':=Aside0.mk H
              clear H
              have p102 : 0≤(x10_1 : Int):=of_decide_eq_true (by (with_reducible assumption))
              have q102 : x10_1 < (l0_2.length : Int):=of_decide_eq_true (by (with_reducible assumption))
              obtain ⟨ad102,A102_0,c102_0,e102,hx102_0,hx102_1,hx102_2,hx102_3,hx102_4,hl102_0,hi102_0⟩:=at_T60 HR0_2.out x10_1 p102 q102
              cases e102
              replace hx102_0:=(HB.out.cell (World.block_lt_of_cell? w _ hx102_0)).trans hx102_0
              replace hx102_1:=(HB.out.cell (World.block_lt_of_cell? w _ hx102_1)).trans hx102_1
              replace hx102_2:=(HB.out.cell (World.block_lt_of_cell? w _ hx102_2)).trans hx102_2
              replace hx102_3:=(HB.out.cell (World.block_lt_of_cell? w _ hx102_3)).trans hx102_3
              replace hx102_4:=(HB.out.cell (World.block_lt_of_cell? w _ hx102_4)).trans hx102_4
              have HR102_0:=Aside0.mk hi102_0
              have HC102_0:=Aside0.mk hl102_0
              clear hi102_0 hl102_0
              replace p102:=eq_true p102
              replace q102:=eq_true q102
              go_wp2_with (first|((with_reducible refine qbg (N:=5) rfl ?_);refine qbl ?hg (N:=5) ?hd (cs:=#[.slice none 0 0,.int .i64 0,.int .i64 0,.int .i64 0,.int .i64 0]) (t:=60) ?hr ?_;(case hd=>rfl);(case hg=>rfl);(case hr=>(go_simp;done));intro gb103 hg w11 hbox hb;have n0_:=Aside0.mk (Kd.S_below (by (with_reducible repeat (apply Kd.S_drew));exact HO_3.out) hb);have n1_:=Aside0.mk (qag (g:=gb101) (o:=.cells #[.bool a0_0,.int .i64 a0_1,.slice (some ad102) l0_2.length c0_2] 24 (0,0)) (by (with_reducible repeat (refine qaa ?_));exact BK101.out) hb);have n2_:=Aside0.mk (qai HB.out hb);have n3_:=Aside0.mk (hbox);have n4_:=Aside0.mk ((by rw [hg];exact (qac HB.out) : w.heap.size≤gb103));have n5_:=Aside0.mk ((by rw [hg];exact (qac HB.out) : w.heap.size≤gb103));have n6_:=Aside0.mk ((by rw [hg];exact Nat.ne_of_lt (blk_lt (g:=gb101) (o:=.cells #[.bool a0_0,.int .i64 a0_1,.slice (some ad102) l0_2.length c0_2] 24 (0,0)) (by (with_reducible repeat (refine qaa ?_));exact BK101.out)) : gb101≠gb103));have n7_:=Aside0.mk ((by rw [hg];exact Nat.ne_of_gt (blk_lt (g:=gb101) (o:=.cells #[.bool a0_0,.int .i64 a0_1,.slice (some ad102) l0_2.length c0_2] 24 (0,0)) (by (with_reducible repeat (refine qaa ?_));exact BK101.out)) : gb103≠gb101));clear HO_3;clear BK101;clear HB;have HO_3:=n0_;have BK101:=n1_;have HB:=n2_;have BK103:=n3_;have GW103:=n4_;have GE103:=n5_;have NB101_103:=n6_;have NB103_101:=n7_;clear n0_ n1_ n2_ n3_ n4_ n5_ n6_ n7_;clear hb hbox hg;have hnb12:=NB103_101.out;have hnc12:=NB101_103.out;have hcz13_0 : w11.cell? ⟨gb103,0,none⟩ = some (.slice none 0 0):=(qab BK103.out 0).trans rfl;have hcz13_1 : w11.cell? ⟨gb103,1,none⟩ = some (.int .i64 0):=(qab BK103.out 1).trans rfl;have hcz13_2 : w11.cell? ⟨gb103,2,none⟩ = some (.int .i64 0):=(qab BK103.out 2).trans rfl;have hcz13_3 : w11.cell? ⟨gb103,3,none⟩ = some (.int .i64 0):=(qab BK103.out 3).trans rfl;have hcz13_4 : w11.cell? ⟨gb103,4,none⟩ = some (.int .i64 0):=(qab BK103.out 4).trans rfl;have hfz13_0:=qaf BK103.out 0;have hfz13_1:=qaf BK103.out 1;have hfz13_2:=qaf BK103.out 2;have hfz13_3:=qaf BK103.out 3;have hfz13_4:=qaf BK103.out 4;have hcz14_0 : w11.cell? ⟨gb101,0,none⟩ = some (.bool a0_0):=(qab BK101.out 0).trans rfl;have hcz14_1 : w11.cell? ⟨gb101,1,none⟩ = some (.int .i64 a0_1):=(qab BK101.out 1).trans rfl;have hcz14_2 : w11.cell? ⟨gb101,2,none⟩ = some (.slice (some ad102) l0_2.length c0_2):=(qab BK101.out 2).trans rfl;have hfz14_0:=qaf BK101.out 0;have hfz14_1:=qaf BK101.out 1;have hfz14_2:=qaf BK101.out 2)|((with_reducible refine qbb (f:=43) rfl ?_);refine goesL_ (some 16) rfl rfl Tryd.func43 (by kernel_rfl) rfl #[.agg #[.bool a0_0,.int .i64 a0_1,.slice (some ad102) l0_2.length c0_2],.agg #[.slice A102_0 ((rd_T60 l0_2 x10_1).f0).length c102_0,.int .i64 ((rd_T60 l0_2 x10_1).f1),.int .i64 ((rd_T60 l0_2 x10_1).f2),.int .i64 ((rd_T60 l0_2 x10_1).f3),.int .i64 ((rd_T60 l0_2 x10_1).f4)]] rfl (by (try simp only [List.map_toArray,List.map_cons,List.map_nil]);rfl) ?_;(with_reducible refine (qdh.calls a0_0 a0_1 _ _ l0_2 _ _ ((rd_T60 l0_2 x10_1).f0) ((rd_T60 l0_2 x10_1).f1) ((rd_T60 l0_2 x10_1).f2) ((rd_T60 l0_2 x10_1).f3) ((rd_T60 l0_2 x10_1).f4) t104 _ ?side1 ?side2 ?side3 ?side4 A7.out).mono ?_);(case side1=>exact Kd.C_below HR0_2.out (by repeat ((with_reducible first|exact HB.out|refine qbq ?_ GE103.out))));(case side2=>exact HC0_2.out);(case side3=>exact Kd.C_below HR102_0.out (by repeat ((with_reducible first|exact HB.out|refine qbq ?_ GE103.out))));(case side4=>exact HC102_0.out);rintro e w15 ⟨v105,rfl,ho0,hb⟩;refine ⟨_,rfl,?_⟩;have n0_:=Aside0.mk (Kd.S_elder' (by (with_reducible repeat (apply Kd.S_drew));exact (Kd.S_mono (Kd.S_far (p:=⟨gb103,4,none⟩) (Kd.S_far (p:=⟨gb103,3,none⟩) (Kd.S_far (p:=⟨gb103,2,none⟩) (Kd.S_far (p:=⟨gb103,1,none⟩) (Kd.S_far (p:=⟨gb103,0,none⟩) (Kd.S_types HO_3.out BK103.out (by decide)) (fun _ hk=>hk.2) (.slice A102_0 ((rd_T60 l0_2 x10_1).f0).length c102_0)) (fun _ hk=>hk.2) (.int .i64 ((rd_T60 l0_2 x10_1).f1))) (fun _ hk=>hk.2) (.int .i64 ((rd_T60 l0_2 x10_1).f2))) (fun _ hk=>hk.2) (.int .i64 ((rd_T60 l0_2 x10_1).f3))) (fun _ hk=>hk.2) (.int .i64 ((rd_T60 l0_2 x10_1).f4))) (fun _ h_=>h_.1))) (Kd.R_base ho0) hb);have n1_:=Aside0.mk (Kd.R_lower (Kd.R_newM (M:=fun k_=>(w.heap.size≤k_)) ho0 (qac (by repeat ((with_reducible first|exact HB.out|refine qbq ?_ GE103.out)))) (fun k_ h_=>h_)) (qac (by repeat ((with_reducible first|exact HB.out|refine qbq ?_ GE103.out)))));have n2_:=Aside0.mk (qag (g:=gb101) (o:=.cells #[.bool a0_0,.int .i64 a0_1,.slice (some ad102) l0_2.length c0_2] 24 (0,0)) (by (with_reducible repeat (refine qaa ?_));refine qci ?_ NB101_103.out _;(with_reducible repeat (refine qaa ?_));refine qci ?_ NB101_103.out _;(with_reducible repeat (refine qaa ?_));refine qci ?_ NB101_103.out _;(with_reducible repeat (refine qaa ?_));refine qci ?_ NB101_103.out _;(with_reducible repeat (refine qaa ?_));refine qci ?_ NB101_103.out _;(with_reducible repeat (refine qaa ?_));exact BK101.out) hb);have n3_:=Aside0.mk (qag (g:=gb103) (o:=.cells #[.slice A102_0 ((rd_T60 l0_2 x10_1).f0).length c102_0,.int .i64 ((rd_T60 l0_2 x10_1).f1),.int .i64 ((rd_T60 l0_2 x10_1).f2),.int .i64 ((rd_T60 l0_2 x10_1).f3),.int .i64 ((rd_T60 l0_2 x10_1).f4)] 60 (0,0)) (by (with_reducible repeat (refine qaa ?_));refine qce (cs:=#[.slice A102_0 ((rd_T60 l0_2 x10_1).f0).length c102_0,.int .i64 ((rd_T60 l0_2 x10_1).f1),.int .i64 ((rd_T60 l0_2 x10_1).f2),.int .i64 ((rd_T60 l0_2 x10_1).f3),.int .i64 0]) ?_ 4 _ rfl;(with_reducible repeat (refine qaa ?_));refine qce (cs:=#[.slice A102_0 ((rd_T60 l0_2 x10_1).f0).length c102_0,.int .i64 ((rd_T60 l0_2 x10_1).f1),.int .i64 ((rd_T60 l0_2 x10_1).f2),.int .i64 0,.int .i64 0]) ?_ 3 _ rfl;(with_reducible repeat (refine qaa ?_));refine qce (cs:=#[.slice A102_0 ((rd_T60 l0_2 x10_1).f0).length c102_0,.int .i64 ((rd_T60 l0_2 x10_1).f1),.int .i64 0,.int .i64 0,.int .i64 0]) ?_ 2 _ rfl;(with_reducible repeat (refine qaa ?_));refine qce (cs:=#[.slice A102_0 ((rd_T60 l0_2 x10_1).f0).length c102_0,.int .i64 0,.int .i64 0,.int .i64 0,.int .i64 0]) ?_ 1 _ rfl;(with_reducible repeat (refine qaa ?_));refine qce (cs:=#[.slice none 0 0,.int .i64 0,.int .i64 0,.int .i64 0,.int .i64 0]) ?_ 0 _ rfl;(with_reducible repeat (refine qaa ?_));exact BK103.out) hb);have n4_:=Aside0.mk (qai (by repeat ((with_reducible first|exact HB.out|refine qbq ?_ GE103.out))) hb);clear HO_3;clear BK101;clear BK103;clear HB;have HO_3:=n0_;have HO106:=n1_;have BK101:=n2_;have BK103:=n3_;have HB:=n4_;clear n0_ n1_ n2_ n3_ n4_;(try clear hb);(try clear ho0);obtain ⟨Ao16,co16,eo16⟩:=Kd.R_slice HO106.out;subst eo16)|((with_reducible refine qbb (f:=44) rfl ?_);refine goesL_ (some 18) rfl rfl Tryd.func44 (by kernel_rfl) rfl #[.slice Ao16 t104.length co16] rfl (by (try simp only [List.map_toArray,List.map_cons,List.map_nil]);rfl) ?_;(with_reducible refine (qcn.calls (fun k_=>some k_ = (.slice Ao16 t104.length co16 : Value).ownBlock) (.slice Ao16 t104.length co16) t104 t107 w _ ?side1 ?side2 A8.out).mono ?_);(case side1=>repeat ((with_reducible exact HB.out)));(case side2=>exact Kd.R_tight rfl HO106.out);rintro e w17 ⟨rfl,hy0,hb,hkp⟩;refine ⟨_,rfl,?_⟩;have n0_:=Aside0.mk (Kd.S_mono (ok':=fun k_=>(w.heap.size≤k_)∧some k_≠(.slice Ao16 t104.length co16 : Value).ownBlock) (Kd.S_keptB (HO_3.out) hkp (fun k_ hk_ hs_=>(hk_.2) hs_)) (fun k_ hk_=>⟨hk_.1.1,hk_.1.2⟩));have n1_:=Aside0.mk (qdq (by (with_reducible repeat (refine qaa ?_));exact BK101.out) hkp (fun hs_=>(fun e_=>(Kd.R_ne HO106.out BK101.out (by decide)) e_) hs_));have n2_:=Aside0.mk (qdq (by (with_reducible repeat (refine qaa ?_));exact BK103.out) hkp (fun hs_=>(fun e_=>(Kd.R_ne HO106.out BK103.out (by decide)) e_) hs_));have n3_:=Aside0.mk (Kd.R_reok rfl hy0 (fun k_ e_=>HO106.out.1 k_ e_));have n4_:=Aside0.mk (hb);clear HO_3;clear BK101;clear BK103;clear HO106;clear HB;have HO_3:=n0_;have BK101:=n1_;have BK103:=n2_;have HO106:=n3_;have HB:=n4_;clear n0_ n1_ n2_ n3_ n4_;(try clear hb);(try clear hkp);(try clear hy0))|((with_reducible refine qbb (f:=45) rfl ?_);refine goesL_ (some 21) rfl rfl Tryd.func45 (by kernel_rfl) rfl #[.slice Ao16 t104.length co16] rfl (by (try simp only [List.map_toArray,List.map_cons,List.map_nil]);rfl) ?_;(with_reducible refine (qcl.calls (fun k_=>some k_ = (.slice Ao16 t104.length co16 : Value).ownBlock) (.slice Ao16 t104.length co16) t107 t108 w _ ?side1 ?side2 A9.out).mono ?_);(case side1=>repeat ((with_reducible exact HB.out)));(case side2=>exact Kd.R_tight rfl HO106.out);rintro e w18 ⟨v109,rfl,ho0,hb,hkp⟩;refine ⟨_,rfl,?_⟩;have n0_:=Aside0.mk (Kd.S_mono (ok':=fun k_=>(w.heap.size≤k_)∧some k_≠(v109 : Value).ownBlock) (Kd.S_keptB (HO_3.out) hkp (fun k_ hk_ hs_=>(hk_.2) hs_)) (fun k_ hk_=>⟨hk_.1.1,fun e_=>Or.elim (ho0.1 k_ e_.symm) (fun hs_=>hk_.2.1 hs_) (fun hn_=>Nat.not_le.2 hk_.2.2 hn_)⟩));have n1_:=Aside0.mk (qdq (by (with_reducible repeat (refine qaa ?_));exact BK101.out) hkp (fun hs_=>(fun e_=>(Kd.R_ne HO106.out BK101.out (by decide)) e_) hs_));have n2_:=Aside0.mk (qdq (by (with_reducible repeat (refine qaa ?_));exact BK103.out) hkp (fun hs_=>(fun e_=>(Kd.R_ne HO106.out BK103.out (by decide)) e_) hs_));have n3_:=Aside0.mk (Kd.R_mono (ok':=fun k_=>(w.heap.size≤k_)) ho0 (fun k_ hk_=>Or.elim hk_ (fun hs_=>(HO106.out.1 k_ (hs_).symm).1) (fun hn_=>(Nat.le_trans (qac HB.out) hn_))));have n4_:=Aside0.mk (hb);clear HO_3;clear BK101;clear BK103;clear HB;clear HO106;have HO_3:=n0_;have BK101:=n1_;have BK103:=n2_;have HO110:=n3_;have HB:=n4_;clear n0_ n1_ n2_ n3_ n4_;(try clear hb);(try clear hkp);(try clear ho0);obtain ⟨Ao20,co20,eo20⟩:=Kd.R_slice HO110.out;subst eo20)|((with_reducible refine qco (b:=.append) (xs:=#[.tmp 19,.tmp 22]) rfl ?_);at_builtin;refine Kd.S_append (Kd.slice 3 (Kd.int .i64)) (w0:=w) w.heap.size rfl (.tmp 19) (.tmp 22) 28 31 (.slice none 0 0) 24 rfl Tryd.underlying28 info31 rfl (by decide) (by omega) u3 x3_1 t108 [.slice Ao20 t108.length co20] (fun k_=>(w.heap.size≤k_)) (fun k_=>some k_ = (.slice Ao20 t108.length co20 : Value).ownBlock) rfl rfl ?aP (fun k_ hk_=>((Kd.R_mono (ok':=fun k_=>((fun k_=>(w.heap.size≤k_))) k_∧some k_≠(u3 : Value).ownBlock) (Kd.R_apart' (HO110.out) (Kd.S_typed HO_3.out) (by decide)) (fun k_ hk=>⟨hk.1,hk.2⟩))).1 k_ hk_.symm) ?aF ?aO ?aB ?aS ?aL ?_;(case aP=>exact Kd.M_row (Kd.R_mono (Kd.R_tight rfl (Kd.R_mono (ok':=fun k_=>((fun k_=>(w.heap.size≤k_))) k_∧some k_≠(u3 : Value).ownBlock) (Kd.R_apart' (HO110.out) (Kd.S_typed HO_3.out) (by decide)) (fun k_ hk=>⟨hk.1,hk.2⟩))) (fun _ h_=>h_)));(case aB=>exact HB.out);(case aF=>exact (fun k_ hk=>(Nat.le_trans (qac HB.out) hk)));(case aO=>exact (by (with_reducible repeat (apply Kd.S_drew));exact Kd.S_mono HO_3.out (fun k_ hk=>⟨hk.1,fun e_=>hk.2 e_⟩)));(case aS=>exact (qac HB.out));(case aL=>have:=LMc10.out;omega);intro v112 w19 ho hb hg hat;rw [← Ny111.out] at ho;have n0_:=Aside0.mk (qcx (g:=gb101) (o:=.cells #[.bool a0_0,.int .i64 a0_1,.slice (some ad102) l0_2.length c0_2] 24 (0,0)) (by (with_reducible repeat (refine qaa ?_));exact BK101.out) hg (Kd.S_ne HO_3.out BK101.out (by decide)));have n1_:=Aside0.mk (qcx (g:=gb103) (o:=.cells #[.slice A102_0 ((rd_T60 l0_2 x10_1).f0).length c102_0,.int .i64 ((rd_T60 l0_2 x10_1).f1),.int .i64 ((rd_T60 l0_2 x10_1).f2),.int .i64 ((rd_T60 l0_2 x10_1).f3),.int .i64 ((rd_T60 l0_2 x10_1).f4)] 60 (0,0)) (by (with_reducible repeat (refine qaa ?_));exact BK103.out) hg (Kd.S_ne HO_3.out BK103.out (by decide)));have n2_:=Aside0.mk (hb);have n3_:=Aside0.mk (ho);clear BK101;clear BK103;clear HB;clear HO_3;clear HO110;have BK101:=n0_;have BK103:=n1_;have HB:=n2_;have HO113:=n3_;clear n0_ n1_ n2_ n3_;clear ho hb hg hat))
              go_roundg k1
              case measure=>have:=HK1.out;omega
              case rel=>exact ⟨(y111),(wrap64 (x10_1 + 1)),(by rfl),H',⟨by have:=HK1.out;omega⟩,⟨by (with_reducible repeat (apply Kd.S_drew));exact HO113.out⟩,⟨by (with_reducible repeat (refine qaa ?_));exact BK101.out⟩,⟨by repeat ((with_reducible exact HB.out))⟩⟩
            · rw [if_neg c10] at H
              exact absurd H (by simp)
          · rw [if_neg c6] at H
            exact absurd H (by simp)
        · rw [if_neg c5] at H
          exact absurd H (by simp)
      · rw [if_neg c4] at H
        have c4b0 : decide (x10_1 < (l0_2.length : Int)) = false:=decide_eq_false c4
        clear c4
        obtain rfl:=Option.some.inj H
        go_wp2
        go_ret
        exact ⟨_,by rfl,Kd.S_V (by (with_reducible repeat (apply Kd.S_drew));exact HO_3.out),by repeat ((with_reducible exact HB.out))⟩
end Go.Proofs.YtmfjmbcfaamebaaDoor.X
namespace Go.Proofs.YtmfjmbcfaamebaaDoor.X
noncomputable section
open Go.RowKit Go.Proofs.YtmfjmbcfaamebaaDoorW.PrintWords Go.Proofs.YtmfjmbcfaamebaaDoorW.PrintLast Go.Proofs.YtmfjmbcfaamebaaDoorW.PrintMore
attribute [local go_sem] qbo qbu
set_option linter.unusedVariables false
set_option linter.unusedSimpArgs false
def backIn (dom : List S38) (a : Int) : List Int→List S39→Option (List S39)
  | [],out=>some out
  | b :: t,out=>if a < (dom.length : Int)∧out.length < 1099511627776 then (qbt.f (rd_T38 dom a).f0 b).bind fun h=>backIn dom a t (if h = true then out ++ [⟨a,b⟩] else out) else none
def backOut (dom : List S38) : Nat→List (List Int)→List S39→Option (List S39)
  | _,[],out=>some out
  | a,l :: t,out=>(backIn dom (a : Int) l out).bind (backOut dom (a + 1) t)
def qbx.f (k : Nat) (a0_0 : Bool) (a0_1 : Int) (l0_2 : List S60) : Option (List S39):=
  (qbm.f a0_0 a0_1 l0_2).bind fun dom=>(qaz.f k a0_0 a0_1 l0_2).bind fun s=>backOut dom 0 s []
theorem qbx.mono : ∀ a0 a1 a2 k,LeO (qbx.f k a0 a1 a2) (qbx.f (k + 1) a0 a1 a2):=by
  intro a0 a1 a2 k
  unfold qbx.f
  exact LeO.bind (LeO.refl _) (fun _=>LeO.bind (qaz.mono _ _ _ _) (fun _=>LeO.refl _))
set_option maxRecDepth 100000 in
set_option maxHeartbeats 4000000 in
theorem qbx.calls (k : Nat) (a0_0 : Bool) (a0_1 : Int) (A0_2 : Option Addr) (c0_2 : Nat) (l0_2 : List (S60)) (r : List S39) (w : World) (hT : TabW w) (hr0_2 : Kd.C k60 w A0_2 l0_2.length l0_2) (hc0_2 : l0_2.length≤c0_2) (h : qbx.f k a0_0 a0_1 l0_2 = some r) :
    Calls Tryd.prog 26 #[.agg #[.bool a0_0,.int .i64 a0_1,.slice A0_2 l0_2.length c0_2]] w fun e w'=>∃ v0_ : Value,e = .returned v0_∧Kd.R k39 39 w' w.heap.size (fun _=>True) v0_ r∧Below w.heap.size w w':=by
  have hu24:=Tryd.underlying24
  have hu38:=Tryd.underlying38
  have hu39:=Tryd.underlying39
  unfold qbx.f at h
  obtain ⟨dom,hd,h⟩:=Option.bind_eq_some_iff.1 h
  obtain ⟨s,hs,h⟩:=Option.bind_eq_some_iff.1 h
  have HP:=Aside0.mk h
  have HCD:=Aside0.mk (fun W (hW : Below w.heap.size w W)=>qbm.calls a0_0 a0_1 A0_2 c0_2 l0_2 dom W (hT.below' hW) (Kd.C_below hr0_2 hW) hc0_2 hd)
  have HCS:=Aside0.mk (fun W (hW : Below w.heap.size w W)=>qaz.calls k a0_0 a0_1 A0_2 c0_2 l0_2 s W (Kd.C_below hr0_2 hW) hc0_2 hs)
  clear hr0_2 hs hd h hT
  go_enter Tryd.func26,Tryd.ntmps26
  obtain ⟨W0,hW0⟩ : ∃ W0,w.alloc (Obj.cells #[Value.bool a0_0,Value.int .i64 a0_1,.slice A0_2 l0_2.length c0_2] 24) = W0:=⟨_,rfl⟩
  have hB0 : Below w.heap.size w W0:=by rw [← hW0];exact (Below.refl _ w).alloc (Nat.le_refl _) _
  have b24 : W0.heap[w.heap.size]? = some (.cells #[Value.bool a0_0,Value.int .i64 a0_1,.slice A0_2 l0_2.length c0_2] 24 (0,0)):=by rw [← hW0];exact World.alloc_heap_new w _
  have c24_0 : W0.cell? ⟨w.heap.size,0,none⟩ = some (.bool a0_0):=cellOf b24 0 rfl
  have c24_1 : W0.cell? ⟨w.heap.size,1,none⟩ = some (.int .i64 a0_1):=cellOf b24 1 rfl
  have c24_2 : W0.cell? ⟨w.heap.size,2,none⟩ = some (.slice A0_2 l0_2.length c0_2):=cellOf b24 2 rfl
  go_wp2_with (first|(go_at_call 21;refine (HCD.out W0 hB0).mono ?_;rintro e W1 ⟨v1,rfl,hV1,hB1⟩;obtain ⟨A1,c1,rfl⟩:=Kd.V_slice hV1;have HV1:=Aside0.mk hV1;have hB01:=hB0.trans (hB1.mono hB0.size);have b24':=(hB1.block _ (blk_lt b24)).trans b24;have hs01:=hB1.size;have c24_0' : W1.cell? ⟨w.heap.size,0,none⟩ = some (.bool a0_0):=cellOf b24' 0 rfl;have c24_1' : W1.cell? ⟨w.heap.size,1,none⟩ = some (.int .i64 a0_1):=cellOf b24' 1 rfl;have c24_2' : W1.cell? ⟨w.heap.size,2,none⟩ = some (.slice A0_2 l0_2.length c0_2):=cellOf b24' 2 rfl;clear hV1 hB1)|(go_at_call 14;refine (HCS.out _ hB01).mono ?_;rintro e W2 ⟨v2,rfl,hV2,hB2⟩;obtain ⟨A2,c2,rfl⟩:=Kd.V_slice hV2;have HV2:=Aside0.mk hV2;have hB02:=hB01.trans (hB2.mono hB01.size);have hF1:=Kd.F_bound (Kd.F_below (Kd.V_F HV1.out) hB2);have hs12:=hB2.size;clear hV2 hB2))
  have hF2:=Kd.F_bound (Kd.V_F HV2.out)
  have hFD : Kd.F k38 W2 (fun k=>k < W2.heap.size) A1 dom.length dom:=Kd.F_mono hF1 (fun k hk=>hk.2)
  have hFS : Kd.F (Kd.slice 3 (Kd.int .i64)) W2 (fun k=>k < W2.heap.size) A2 s.length s:=Kd.F_mono hF2 (fun k hk=>hk.2)
  have hsl : s.length≤9223372036854775807:=Kd.F_max hFS
  have hdl : dom.length≤9223372036854775807:=Kd.F_max hFD
  have hlw : w.heap.size≤W2.heap.size:=hB02.size
  clear hF1 hF2 HCD HCS b24 b24' c24_0 c24_1 c24_2 c24_0' c24_1' c24_2' hW0
  go_loopw [3,14] (fun v3 v wr=>∃ i : Nat,i≤s.length∧v = .int .i64 i∧∃ outi : List S39,Aside0 (backOut dom i (s.drop i) outi = some r)∧Aside0 (Kd.R k39 39 wr w.heap.size (fun k=>W2.heap.size≤k) v3 outi)∧Aside0 (Kd.F k38 wr (fun k=>k < W2.heap.size) A1 dom.length dom)∧Aside0 (Kd.F (Kd.slice 3 (Kd.int .i64)) wr (fun k=>k < W2.heap.size) A2 s.length s)∧Aside0 (Below w.heap.size w wr)∧W2.heap.size≤wr.heap.size)
    (fun _ v _=>s.length - (intOf v).toNat)
  case atStart=>exact ⟨0,Nat.zero_le _,rfl,[],by simpa using HP,⟨Kd.R_nil _ _ _ _ _⟩,⟨hFD⟩,⟨hFS⟩,⟨hB02⟩,Nat.le_refl _⟩
  case round=>
    clear HP hFD hFS hB02
    obtain ⟨i,hi,rfl,outi,HP,HO,HD,HF,HB,hw2⟩:=hrel
    by_cases hlt : i < s.length
    · obtain ⟨ad,c,rfl,_,hFK,hcc,_⟩:=Kd.F_get HF.out [] (i : Int) (by omega) (by omega)
      obtain ⟨Ai,ci,rfl,hci,hFi⟩:=Kd.FK_slice_open hFK
      have hx:=hcc 0 _ rfl
      have hgi : s.getD ((i : Int)).toNat [] = s[i]:=by simp [hlt]
      rw [hgi] at hx hFi hci
      have HHP:=HP.out
      rw [List.drop_eq_getElem_cons hlt,backOut] at HHP
      obtain ⟨li,hli⟩ : ∃ li,s[i] = li:=⟨_,rfl⟩
      rw [hli] at hx hFi hci HHP
      obtain ⟨out',hin,hrest⟩:=Option.bind_eq_some_iff.1 HHP
      have HIN:=Aside0.mk hin
      have HRE:=Aside0.mk hrest
      have HFI:=Aside0.mk hFi
      have hll:=Kd.F_max hFi
      clear HHP hin hrest hFi hFK hgi hcc
      simp only [Int.toNat_natCast,show (Kd.slice 3 (Kd.int .i64)).sz = 1 from rfl,Nat.mul_one,Nat.add_zero] at hx
      go_wp2
      go_loopw [3,21] (fun v3 v wr=>∃ j : Nat,j≤li.length∧v = .int .i64 j∧∃ outj : List S39,Aside0 (backIn dom (i : Int) (li.drop j) outj = some out')∧Aside0 (Kd.R k39 39 wr w.heap.size (fun k=>W2.heap.size≤k) v3 outj)∧Aside0 (Kd.F k38 wr (fun k=>k < W2.heap.size) A1 dom.length dom)∧Aside0 (Kd.F (Kd.slice 3 (Kd.int .i64)) wr (fun k=>k < W2.heap.size) (some ad) s.length s)∧Aside0 (Kd.F (Kd.int .i64) wr (fun k=>k < W2.heap.size) Ai li.length li)∧Aside0 (Below w.heap.size w wr)∧W2.heap.size≤wr.heap.size)
        (fun _ v _=>li.length - (intOf v).toNat)
      case atStart=>exact ⟨0,Nat.zero_le _,rfl,outi,HIN,HO,HD,HF,HFI,HB,hw2⟩
      case round=>
        clear HIN HO HD HF HFI HB hw2 hx HP
        obtain ⟨j,hj,rfl,outj,HIN,HO,HD,HF,HFI,HB,hw2⟩:=hrel
        by_cases hltj : j < li.length
        · obtain ⟨adi,rfl,hx⟩:=Kd.at_int (Kd.F_now HFI.out) (j : Int) (by omega) (by omega)
          have hgj : rd li (j : Int) = li[j]:=by simp [rd,hltj]
          rw [hgj] at hx
          have hHIN:=HIN.out
          rw [List.drop_eq_getElem_cons hltj,backIn] at hHIN
          obtain ⟨b,hb⟩ : ∃ b,li[j] = b:=⟨_,rfl⟩
          rw [hb] at hx hHIN
          by_cases hbb : (i : Int) < (dom.length : Int)∧outj.length < 1099511627776
          case neg=>rw [if_neg hbb] at hHIN;cases hHIN
          rw [if_pos hbb] at hHIN
          obtain ⟨hb1,hb2⟩:=hbb
          obtain ⟨t,ht,hHIN⟩:=Option.bind_eq_some_iff.1 hHIN
          have HIN2:=Aside0.mk hHIN
          clear hHIN HIN
          obtain ⟨add,cd,rfl,_,hFKd,hccd,_⟩:=Kd.F_get HD.out (⟨[]⟩ : S38) (i : Int) (by omega) hb1
          obtain ⟨Ad,cd',rfl,hcd,hFd⟩:=k38_openF hFKd
          have hxd:=hccd 0 _ rfl
          simp only [Int.toNat_natCast,show k38.sz = 1 from rfl,Nat.mul_one,Nat.add_zero] at hxd
          obtain ⟨wd,hwd⟩ : ∃ wd,(rd_T38 dom (i : Int)).f0 = wd:=⟨_,rfl⟩
          have hwd' : (dom.getD i (⟨[]⟩ : S38)).f0 = wd:=hwd
          have hwd'' : (dom.getD ((i : Int)).toNat (⟨[]⟩ : S38)).f0 = wd:=hwd
          rw [hwd'] at hxd
          rw [hwd''] at hcd hFd
          rw [hwd] at ht
          have HHas:=Aside0.mk (qbt.calls Ad cd' wd b t wr (Kd.F_now hFd) hcd ht)
          obtain ⟨A3,c3,rfl⟩:=Kd.R_slice HO.out
          clear hFKd hccd hFd hgj ht
          rw [Int.toNat_natCast] at hx
          have hbi : (i : Int) < (dom.length : Int):=hb1
          cases t with
          | true=>
            go_wp2_with (first|(go_at_call 38;refine HHas.out.mono ?_;rintro e w1 ⟨rfl,hb1⟩;have HO1:=Aside0.mk (Kd.R_below HO.out hb1);have HD1:=Aside0.mk (Kd.F_below HD.out hb1);have HF1:=Aside0.mk (Kd.F_below HF.out hb1);have HFI1:=Aside0.mk (Kd.F_below HFI.out hb1);have HB1:=Aside0.mk (HB.out.trans (hb1.mono HB.out.size));have hsw1:=hb1.size;clear hb1 HO HD HF HFI HB HHas)|(at_builtin;refine Kd.R_append k39 (w0:=w) w.heap.size rfl (.tmp 31) (.tmp 35) 40 39 (.agg #[(.int .i64 0),(.int .i64 0)]) 16 rfl Tryd.underlying40 info39 rfl (by decide) (by omega) (.slice A3 outj.length c3) outj (⟨(i : Int),b⟩ : S39) [.int .i64 (i : Int),.int .i64 b] (fun k=>W2.heap.size≤k) (fun _=>False) rfl (by simp [Act.eval]) (k39_mkM _ _ _ (⟨(i : Int),b⟩ : S39)) (fun _ hk=>hk.elim) (fun k hk=>by omega) HO1.out HB1.out (HB1.out.size) (by omega) ?_;intro v1 w2 ho1 hb1 hg1 hat1;have hF1:=Kd.F_grown HD1.out hg1 (fun k hk e=>by have:=HO1.out.1 _ e.symm;omega);have hF2:=Kd.F_grown HF1.out hg1 (fun k hk e=>by have:=HO1.out.1 _ e.symm;omega);have hF3:=Kd.F_grown HFI1.out hg1 (fun k hk e=>by have:=HO1.out.1 _ e.symm;omega);have hsz1':=hg1.size;obtain ⟨A4,c4,rfl⟩:=Kd.R_slice ho1;have HO2:=Aside0.mk ho1;have HB2:=Aside0.mk hb1;have HF2:=Aside0.mk hF1;have HF3:=Aside0.mk hF2;have HF4:=Aside0.mk hF3;clear ho1 hb1 hg1 hat1 hF1 hF2 hF3))
            go_roundw
            case rel=>
              have e1 : (outj ++ [(⟨(i : Int),b⟩ : S39)]).length = outj.length + 1:=by simp
              rw [e1] at HO2
              exact ⟨j + 1,by omega,by go_num,outj ++ [⟨(i : Int),b⟩],HIN2,HO2,HF2,HF3,HF4,HB2,by omega⟩
            case measure=>simp [intOf];omega
          | false=>
            go_wp2_with (go_at_call 38;refine HHas.out.mono ?_;rintro e w1 ⟨rfl,hb1⟩;have HO1:=Aside0.mk (Kd.R_below HO.out hb1);have HD1:=Aside0.mk (Kd.F_below HD.out hb1);have HF1:=Aside0.mk (Kd.F_below HF.out hb1);have HFI1:=Aside0.mk (Kd.F_below HFI.out hb1);have HB1:=Aside0.mk (HB.out.trans (hb1.mono HB.out.size));have hsw1:=hb1.size;clear hb1 HO HD HF HFI HB HHas)
            go_roundw
            case rel=>exact ⟨j + 1,by omega,by go_num,outj,HIN2,HO1,HD1,HF1,HFI1,HB1,by omega⟩
            case measure=>simp [intOf];omega
        · obtain rfl : j = li.length:=by omega
          obtain rfl : outj = out':=by simpa [backIn] using HIN.out
          go_wp2
          go_roundw
          case rel=>exact ⟨i + 1,by omega,by go_num,outj,HRE,HO,HD,HF,HB,hw2⟩
          case measure=>simp [intOf];omega
    · obtain rfl : i = s.length:=by omega
      obtain rfl : outi = r:=by simpa [backOut] using HP.out
      obtain ⟨A3,c3,rfl⟩:=Kd.R_slice HO.out
      go_wp2
      go_ret
      exact ⟨_,rfl,Kd.R_mono HO.out (fun _ _=>trivial),HB.out⟩
end
end Go.Proofs.YtmfjmbcfaamebaaDoor.X
namespace Go.Proofs.YtmfjmbcfaamebaaDoor.X
open Go.RowKit Go.Proofs.YtmfjmbcfaamebaaDoorW.PrintWords Go.Proofs.YtmfjmbcfaamebaaDoorW.PrintLast Go.Proofs.YtmfjmbcfaamebaaDoorW.PrintMore
attribute [local go_sem] qbo qbu
set_option linter.unusedVariables false
set_option linter.unusedSimpArgs false
def predsIn (a : Int) : List Int→List (List Int)→Option (List (List Int))
  | [],out=>some out
  | b :: t,out=>if 0≤b∧b < (out.length : Int)∧(out.getD b.toNat []).length < 1099511627776 then predsIn a t (out.set b.toNat (out.getD b.toNat [] ++ [a])) else none
def predsOut : Nat→List (List Int)→List (List Int)→Option (List (List Int))
  | _,[],out=>some out
  | a,l :: t,out=>(predsIn (a : Int) l out).bind (predsOut (a + 1) t)
def qbd.f (k : Nat) (a0_0 : Bool) (a0_1 : Int) (l0_2 : List S60) : Option (List (List Int)):=
  if l0_2.length≤4398046511104 then (qaz.f k a0_0 a0_1 l0_2).bind fun s=>predsOut 0 s (List.replicate l0_2.length []) else none
theorem qbd.mono : ∀ a0 a1 a2 k,LeO (qbd.f k a0 a1 a2) (qbd.f (k + 1) a0 a1 a2):=by
  intro a0 a1 a2 k
  unfold qbd.f
  exact LeO.ite (LeO.bind (qaz.mono _ _ _ _) (fun _=>LeO.refl _)) (LeO.refl _)
set_option maxRecDepth 100000 in
set_option maxHeartbeats 4000000 in
theorem qbd.calls (k : Nat) (a0_0 : Bool) (a0_1 : Int) (A0_2 : Option Addr) (c0_2 : Nat) (l0_2 : List (S60)) (r : List (List Int)) (w : World) (hr0_2 : Kd.C k60 w A0_2 l0_2.length l0_2) (hc0_2 : l0_2.length≤c0_2) (h : qbd.f k a0_0 a0_1 l0_2 = some r) :
    Calls Tryd.prog 16 #[.agg #[.bool a0_0,.int .i64 a0_1,.slice A0_2 l0_2.length c0_2]] w fun e w'=>∃ v0_ : Value,e = .returned v0_∧Kd.V (Kd.slice 3 (Kd.int .i64)) 31 w' w.heap.size (fun k_=>(w.heap.size≤k_)) v0_ r∧Below w.heap.size w w':=by
  have hu24:=Tryd.underlying24
  unfold qbd.f at h
  by_cases hlen : l0_2.length≤4398046511104
  case neg=>rw [if_neg hlen] at h;cases h
  rw [if_pos hlen] at h
  obtain ⟨s,hs,h⟩:=Option.bind_eq_some_iff.1 h
  have HR0:=Aside0.mk hr0_2
  have HS:=Aside0.mk hs
  have HP:=Aside0.mk h
  have HCK:=Aside0.mk (fun W (hW : Below w.heap.size w W)=>qaz.calls k a0_0 a0_1 A0_2 c0_2 l0_2 s W (Kd.C_below hr0_2 hW) hc0_2 hs)
  clear hr0_2 hs h
  go_enter Tryd.func16,Tryd.ntmps16
  have hmk:=print_make_of (P:=Tryd.prog) 28 31 (.slice none 0 0) 24 Tryd.underlying28 info31 rfl (by decide) l0_2.length (by omega)
  obtain ⟨W1,hW1⟩ : ∃ W1,(w.alloc (Obj.cells #[Value.bool a0_0,Value.int .i64 a0_1,.slice A0_2 l0_2.length c0_2] 24)).alloc (Obj.cells (madeCells #[.slice none 0 0] l0_2.length) 31) = W1:=⟨_,rfl⟩
  have hB1 : Below w.heap.size w W1:=by rw [← hW1];exact ((Below.refl _ w).alloc (Nat.le_refl _) _).alloc (by simp) _
  have hC1:=HCK.out W1 hB1
  have HC1:=Aside0.mk hC1
  clear hC1
  have b24 : W1.heap[w.heap.size]? = some (.cells #[Value.bool a0_0,Value.int .i64 a0_1,.slice A0_2 l0_2.length c0_2] 24 (0,0)):=by rw [← hW1];exact qcm (World.alloc_heap_new w _) _
  have c24_0 : W1.cell? ⟨w.heap.size,0,none⟩ = some (.bool a0_0):=cellOf b24 0 rfl
  have c24_1 : W1.cell? ⟨w.heap.size,1,none⟩ = some (.int .i64 a0_1):=cellOf b24 1 rfl
  have c24_2 : W1.cell? ⟨w.heap.size,2,none⟩ = some (.slice A0_2 l0_2.length c0_2):=cellOf b24 2 rfl
  go_wp2_with (go_at_call 14;refine HC1.out.mono ?_;rintro e W2 ⟨v2,rfl,hS2,hB2⟩;obtain ⟨A2,c2,rfl⟩:=Kd.V_slice hS2;have HS2:=Aside0.mk hS2;have HB2:=Aside0.mk hB2;clear hS2 hB2)
  have hS1 : Kd.S (Kd.slice 3 (Kd.int .i64)) 31 W1 w.heap.size (fun k=>w.heap.size≤k) (.slice (some ⟨w.heap.size + 1,0,none⟩) l0_2.length l0_2.length) (List.replicate l0_2.length []):=by
    have h1:=World.ownsRow_lit (base:=w.heap.size) (e:=31) (size:=1) (w.alloc (Obj.cells #[Value.bool a0_0,Value.int .i64 a0_1,.slice A0_2 l0_2.length c0_2] 24)) (madeCells #[.slice none 0 0] l0_2.length) l0_2.length (by simp) (by simp [maxLen];omega) (by simp [size_madeCells])
    have h2:=Kd.reps_made (R:=(Kd.bare (Kd.slice 3 (Kd.int .i64))).M W1 w.heap.size (fun k=>w.heap.size≤k∧some k≠(Value.slice (some ⟨w.heap.size + 1,0,none⟩) l0_2.length l0_2.length).ownBlock)) (z:=.slice none 0 0) (size:=1) (z0:=([] : List Int)) rfl (by decide) ⟨.slice none 0 0,rfl,Kd.R_nil _ _ _ _ _⟩ l0_2.length
    rw [World.size_alloc] at h1
    rw [Nat.mul_one] at h2
    rw [hW1] at h1
    exact Kd.S_bare ⟨fun k hk=>by simp [Value.ownBlock] at hk;omega,_,by rw [List.length_replicate];exact h1,h2⟩
  have hsz1 : W1.heap.size = w.heap.size + 2:=by rw [← hW1];simp
  have hSz:=(HB2.out).size
  have hS1':=Kd.S_below (Kd.S_mono (ok':=fun k=>w.heap.size≤k∧(k < W1.heap.size∨W2.heap.size≤k)) (Kd.S_bound hS1) (fun k hk=>⟨hk.1,.inl hk.2.2.1⟩)) HB2.out
  have hF:=Kd.F_bound (Kd.V_F HS2.out)
  have hB:=hB1.trans (HB2.out.mono hB1.size)
  clear b24 c24_0 c24_1 c24_2 hmk hW1 hS1
  have hSO : Kd.S (Kd.slice 3 (Kd.int .i64)) 31 W2 w.heap.size (fun k=>w.heap.size≤k∧(k < W1.heap.size∨W2.heap.size≤k)) (.slice (some ⟨w.heap.size + 1,0,none⟩) l0_2.length l0_2.length) (List.replicate l0_2.length []):=hS1'
  have hFS : Kd.F (Kd.slice 3 (Kd.int .i64)) W2 (fun k=>W1.heap.size≤k∧k < W2.heap.size) A2 s.length s:=Kd.F_mono hF (fun k hk=>hk)
  have hsl : s.length≤9223372036854775807:=Kd.F_max hFS
  clear hS1' hF HS2 HB2 HC1 HCK HS HR0
  go_loopw [15] (fun v wr=>∃ i : Nat,i≤s.length∧v = .int .i64 i∧∃ outi : List (List Int),Aside0 (predsOut i (s.drop i) outi = some r)∧outi.length = l0_2.length∧Aside0 (Kd.S (Kd.slice 3 (Kd.int .i64)) 31 wr w.heap.size (fun k=>w.heap.size≤k∧(k < W1.heap.size∨W2.heap.size≤k)) (.slice (some ⟨w.heap.size + 1,0,none⟩) l0_2.length l0_2.length) outi)∧Aside0 (Kd.F (Kd.slice 3 (Kd.int .i64)) wr (fun k=>W1.heap.size≤k∧k < W2.heap.size) A2 s.length s)∧Aside0 (Below w.heap.size w wr)∧W2.heap.size≤wr.heap.size)
    (fun v _=>s.length - (intOf v).toNat)
  case atStart=>exact ⟨0,Nat.zero_le _,rfl,_,by simpa using HP,by simp,⟨hSO⟩,⟨hFS⟩,⟨hB⟩,Nat.le_refl _⟩
  case round=>
    clear HP hSO hFS hB
    obtain ⟨i,hi,rfl,outi,HP,hlo,HO,HF,HB,hw2⟩:=hrel
    by_cases hlt : i < s.length
    · obtain ⟨ad,c,rfl,_,hFK,hcc,_⟩:=Kd.F_get HF.out [] (i : Int) (by omega) (by omega)
      obtain ⟨Ai,ci,rfl,hci,hFi⟩:=Kd.FK_slice_open hFK
      have hx:=hcc 0 _ rfl
      have hgi : s.getD ((i : Int)).toNat [] = s[i]:=by simp [hlt]
      rw [hgi] at hx hFi hci
      have HHP:=HP.out
      rw [List.drop_eq_getElem_cons hlt,predsOut] at HHP
      obtain ⟨li,hli⟩ : ∃ li,s[i] = li:=⟨_,rfl⟩
      rw [hli] at hx hFi hci HHP
      obtain ⟨out',hin,hrest⟩:=Option.bind_eq_some_iff.1 HHP
      have HIN:=Aside0.mk hin
      have HRE:=Aside0.mk hrest
      have HFI:=Aside0.mk hFi
      have hll:=Kd.F_max hFi
      clear HHP hin hrest hFi hFK hgi hcc
      simp only [Int.toNat_natCast,show (Kd.slice 3 (Kd.int .i64)).sz = 1 from rfl,Nat.mul_one,Nat.add_zero] at hx
      go_wp2
      go_loopw [22] (fun v wr=>∃ j : Nat,j≤li.length∧v = .int .i64 j∧∃ outj : List (List Int),Aside0 (predsIn (i : Int) (li.drop j) outj = some out')∧outj.length = l0_2.length∧Aside0 (Kd.S (Kd.slice 3 (Kd.int .i64)) 31 wr w.heap.size (fun k=>w.heap.size≤k∧(k < W1.heap.size∨W2.heap.size≤k)) (.slice (some ⟨w.heap.size + 1,0,none⟩) l0_2.length l0_2.length) outj)∧Aside0 (Kd.F (Kd.slice 3 (Kd.int .i64)) wr (fun k=>W1.heap.size≤k∧k < W2.heap.size) (some ad) s.length s)∧Aside0 (Kd.F (Kd.int .i64) wr (fun k=>W1.heap.size≤k∧k < W2.heap.size) Ai li.length li)∧Aside0 (Below w.heap.size w wr)∧W2.heap.size≤wr.heap.size)
        (fun v _=>li.length - (intOf v).toNat)
      case atStart=>exact ⟨0,Nat.zero_le _,rfl,outi,HIN,hlo,HO,HF,HFI,HB,hw2⟩
      case round=>
        clear HIN hlo HO HF HFI HB hw2 hx HP
        obtain ⟨j,hj,rfl,outj,HIN,hlo,HO,HF,HFI,HB,hw2⟩:=hrel
        by_cases hltj : j < li.length
        · obtain ⟨adi,rfl,hx⟩:=Kd.at_int (Kd.F_now HFI.out) (j : Int) (by omega) (by omega)
          have hgj : rd li (j : Int) = li[j]:=by simp [rd,hltj]
          rw [hgj] at hx
          have hHIN:=HIN.out
          rw [List.drop_eq_getElem_cons hltj,predsIn] at hHIN
          obtain ⟨b,hb⟩ : ∃ b,li[j] = b:=⟨_,rfl⟩
          rw [hb] at hx hHIN
          by_cases hbb : 0≤b∧b < (outj.length : Int)∧(outj.getD b.toNat []).length < 1099511627776
          case neg=>rw [if_neg hbb] at hHIN;cases hHIN
          rw [if_pos hbb] at hHIN
          obtain ⟨hb0,hb1,hb2⟩:=hbb
          rw [hlo] at hb1
          have HIN2:=Aside0.mk hHIN
          clear hHIN HIN
          obtain ⟨oki,cc,hcl,hM,hcc,hfr,hoki,hH⟩:=Kd.S_elem HO.out ([] : List Int) b hb0 hb1
          obtain ⟨vb,rfl,hRb⟩:=hM
          have hxb:=hcc 0 _ rfl
          have hfb:=hfr 0
          simp only [show (Kd.slice 3 (Kd.int .i64)).sz = 1 from rfl,Nat.mul_one,Nat.add_zero] at hxb hfb
          obtain ⟨xb,hxbe⟩ : ∃ xb,outj.getD b.toNat [] = xb:=⟨_,rfl⟩
          rw [hxbe] at hb2 hRb
          obtain ⟨Ab,cb,rfl,hcb,_⟩:=Kd.R_reads hRb
          have HRB:=Aside0.mk hRb
          have HH:=Aside0.mk hH
          have HOKI:=Aside0.mk hoki
          clear hRb hH hoki hcc hfr hgj HO
          rw [Int.toNat_natCast] at hx
          have hsz0:=HB.out.size
          have hne0 : some (w.heap.size + 1)≠(Value.slice Ab xb.length cb).ownBlock:=fun e=>(HOKI.out _ (HRB.out.1 _ e.symm)).2 rfl
          have hblk0:=World.block_lt_of_cell? wr _ hxb
          go_wp2_with (at_builtin;refine Kd.R_append (Kd.int .i64) (w0:=w) w.heap.size rfl (.tmp 31) (.tmp 33) 31 3 (.int .i64 0) 8 rfl Tryd.underlying31 info3 rfl (by decide) (by omega) (.slice Ab xb.length cb) xb (i : Int) [.int .i64 (i : Int)] (fun k=>oki k∨(w.heap.size≤k∧(k < W1.heap.size∨W2.heap.size≤k))∧wr.heap.size≤k) (fun _=>False) rfl (by simp [Act.eval]) rfl (fun _ hk=>hk.elim) (fun k hk=>.inr ⟨⟨by omega,.inr (by omega)⟩,hk⟩) (Kd.R_mono HRB.out (fun k hk=>.inl hk)) HB.out hsz0 (by omega) ?_;intro v1 w1 ho1 hb1 hg1 hat1;have hH1:=Kd.H_grown (Kd.H_widen HH.out) hg1 (fun k hk=>.inl (HRB.out.1 k hk));have hF1:=Kd.F_grown HF.out hg1 (fun k hk e=>by have:=(HOKI.out _ (HRB.out.1 _ e.symm)).1.2;omega);have hF2:=Kd.F_grown HFI.out hg1 (fun k hk e=>by have:=(HOKI.out _ (HRB.out.1 _ e.symm)).1.2;omega);have hkb:=hg1.block (w.heap.size + 1) hblk0 hne0;have hxb1:=(World.cell?_of_block (w:=wr) hkb).trans hxb;have hfb1:=(World.frozen?_of_block (w:=wr) hkb).trans hfb;obtain ⟨A1,c1,rfl,_,_⟩:=Kd.R_reads ho1;have hsz1':=hg1.size;have HO1:=Aside0.mk ho1;have HB1:=Aside0.mk hb1;have HH1:=Aside0.mk hH1;have HF1:=Aside0.mk hF1;have HF2:=Aside0.mk hF2;clear ho1 hb1 hg1 hat1 hH1 hF1 hF2 hkb hxb hfb)
          go_roundw
          case rel=>
            have hseg:=(Kd.H_seg (seg:=[.slice A1 (xb ++ [(i : Int)]).length c1]) (j:=0) HH1.out hb0 hb1 (Nat.le_refl 1) (by simp [Value.oneCell'])).1
            simp only [show (Kd.slice 3 (Kd.int .i64)).sz = 1 from rfl,Nat.mul_one,Nat.add_zero,World.setCells,List.take_zero,List.nil_append,List.length_singleton,Nat.zero_add,List.drop_one,List.tail_cons,List.append_nil] at hseg
            have hR2:=Kd.R_far HO1.out (p:=⟨w.heap.size + 1,b.toNat,none⟩) (fun k hk=>by
              show k≠w.heap.size + 1
              rcases hk with hk|hk
              · exact (HOKI.out k hk).2
              · omega) (.slice A1 (xb ++ [(i : Int)]).length c1)
            have hS:=Kd.H_back hseg (x':=xb ++ [(i : Int)]) (okp:=fun k=>oki k∨(w.heap.size≤k∧(k < W1.heap.size∨W2.heap.size≤k))∧wr.heap.size≤k) ⟨_,rfl,hR2⟩ (fun k hk=>hk)
            have e1 : (xb ++ [(i : Int)]).length = xb.length + 1:=by simp
            rw [e1] at hS
            refine ⟨j + 1,by omega,by go_num,outj.set b.toNat (xb ++ [(i : Int)]),⟨by rw [← hxbe];exact HIN2.out⟩,by simp [hlo],⟨hS⟩,⟨?_⟩,⟨?_⟩,⟨HB1.out.setCell (p:=⟨w.heap.size + 1,b.toNat,none⟩) (show w.heap.size≤w.heap.size + 1 by omega) _⟩,by simp;omega⟩
            · exact Kd.F_far HF1.out (fun k hk=>show k≠w.heap.size + 1 by omega) _
            · exact Kd.F_far HF2.out (fun k hk=>show k≠w.heap.size + 1 by omega) _
          case measure=>simp [intOf];omega
        · obtain rfl : j = li.length:=by omega
          obtain rfl : outj = out':=by simpa [predsIn] using HIN.out
          go_wp2
          go_roundw
          case rel=>exact ⟨i + 1,by omega,by go_num,outj,HRE,hlo,HO,HF,HB,hw2⟩
          case measure=>simp [intOf];omega
    · obtain rfl : i = s.length:=by omega
      obtain rfl : outi = r:=by simpa [predsOut] using HP.out
      go_wp2
      go_ret
      exact ⟨_,rfl,Kd.V_mono (Kd.S_V HO.out) (fun k hk=>hk.1),HB.out⟩
end Go.Proofs.YtmfjmbcfaamebaaDoor.X
namespace Go.Proofs.YtmfjmbcfaamebaaDoor.X
open Go.RowKit Go.Proofs.YtmfjmbcfaamebaaDoorW.PrintWords Go.Proofs.YtmfjmbcfaamebaaDoorW.PrintLast Go.Proofs.YtmfjmbcfaamebaaDoorW.PrintMore
attribute [local go_sem] qbo qbu
set_option linter.unusedVariables false
set_option linter.unusedSimpArgs false
attribute [local go_sem high] eqA39
def qat.l0 : Nat→List (S39)→Int→Int→Int→Int→Option (Int)
  | 0,_,_,_,_,_=>none
  | k + 1,x0,x7,x8,x229000,x229001=>if x8 < x7 then (if 0≤x8 then (if x8 < (x0.length : Int) then (if (x229000 == ((rd_T39 x0 x8).f0) && (x229001 == ((rd_T39 x0 x8).f1))) = true then (some x8) else (qat.l0 k x0 x7 (wrap64 (x8 + 1)) x229000 x229001)) else (none)) else (none)) else (some (-1))
def qat.f (k : Nat) (l0 : List (S39)) (a1_0 : Int) (a1_1 : Int) : Option (Int):=qat.l0 k l0 (l0.length : Int) 0 a1_0 a1_1
theorem qat.mono_l : ∀ k,(∀ y0 y1 y2 y3 y4,LeO (qat.l0 k y0 y1 y2 y3 y4) (qat.l0 (k + 1) y0 y1 y2 y3 y4))
  | 0=>fun _ _ _ _ _ r h=>by simp [qat.l0] at h
  | k + 1=>by
    have ih0:=qat.mono_l k
    · intro y0 y1 y2 y3 y4
      unfold qat.l0
      repeat' first|(with_reducible exact ih0 _ _ _ _ _)|(with_reducible exact LeO.refl _)|(with_reducible refine LeO.ite ?_ ?_)
theorem qat.mono : ∀ a0 a1 a2 k,LeO (qat.f k a0 a1 a2) (qat.f (k + 1) a0 a1 a2):=by
  intro a0 a1 a2 k
  have ih0:=qat.mono_l k
  unfold qat.f
  repeat' (with_reducible exact ih0 _ _ _ _ _)
set_option maxHeartbeats 8000000 in
set_option maxRecDepth 100000 in
theorem qat.calls (k : Nat) (A0 : Option Addr) (c0 : Nat) (l0 : List (S39)) (a1_0 : Int) (a1_1 : Int) (r : Int) (w : World) (hr0 : Kd.C k39 w A0 l0.length l0) (hc0 : l0.length≤c0) (h : qat.f k l0 a1_0 a1_1 = some r) :
    Calls Tryd.prog 81 #[.slice A0 l0.length c0,.agg #[.int .i64 a1_0,.int .i64 a1_1]] w fun e w'=>e = .returned (.int .i64 r)∧Below w.heap.size w w':=by
  have hu39:=Tryd.underlying39
  have HR0:=Aside0.mk hr0
  have HC0:=Aside0.mk hc0
  clear hr0 hc0
  have HB:=Aside0.mk (Below.refl w.heap.size w)
  have H : (qat.l0 k l0 (l0.length : Int) 0 a1_0 a1_1) = some r:=h
  clear h
  have H':=Aside0.mk H
  clear H
  go_enter Tryd.func81,Tryd.ntmps81
  go_wp2_with (((with_reducible refine qbg (N:=3) rfl ?_);refine qbl ?hg (N:=3) ?hd (cs:=#[.int .i64 a1_0,.int .i64 a1_1]) (t:=39) ?hr ?_;(case hd=>rfl);(case hg=>rfl);(case hr=>(go_simp;done));intro gb228 hg w3 hbox hb;have n0_:=Aside0.mk (qai HB.out hb);have n1_:=Aside0.mk (hbox);have n2_:=Aside0.mk ((by rw [hg];exact (qac HB.out) : w.heap.size≤gb228));have n3_:=Aside0.mk ((by rw [hg];exact (qac HB.out) : w.heap.size≤gb228));clear HB;have HB:=n0_;have BK228:=n1_;have GW228:=n2_;have GE228:=n3_;clear n0_ n1_ n2_ n3_;clear hb hbox hg))
  repeat (go_quiet (((with_reducible refine qbg (N:=3) rfl ?_);refine qbl ?hg (N:=3) ?hd (cs:=#[.int .i64 a1_0,.int .i64 a1_1]) (t:=39) ?hr ?_;(case hd=>rfl);(case hg=>rfl);(case hr=>(go_simp;rfl));intro gb228 hg w3 hbox hb;have n0_:=Aside0.mk (qai (by repeat (exact HB.out)) hb);have n1_:=Aside0.mk (hbox);have n2_:=Aside0.mk ((by rw [hg];exact (qac (by repeat (exact HB.out))) : w.heap.size≤gb228));have n3_:=Aside0.mk ((by rw [hg];exact (qac (by repeat (exact HB.out))) : w.heap.size≤gb228));clear HB;have HB:=n0_;have BK228:=n1_;have GW228:=n2_;have GE228:=n3_;clear n0_ n1_ n2_ n3_;clear hb hbox hg)))
  go_loopg [8] k (fun kq v8 w'=>∃ (x8_1 : Int),v8 = .int .i64 x8_1∧Aside0 (qat.l0 kq l0 (l0.length : Int) x8_1 a1_0 a1_1 = some r)∧Aside0 (kq≤k)∧Aside0 (w'.heap[gb228]? = some (.cells #[.int .i64 a1_0,.int .i64 a1_1] 39 (0,0)))∧Aside0 (Below w.heap.size w w'))
  case atStart=>exact ⟨(0),(by rfl),H',⟨Nat.le_refl _⟩,⟨by (with_reducible repeat (refine qaa ?_));exact BK228.out⟩,⟨by repeat ((with_reducible exact HB.out))⟩⟩
  case round=>
    clear H'
    obtain ⟨x8_1,rfl,HA,HK1,BK228,HB⟩:=hrel
    cases gk with
    | zero=>exact absurd HA.out (by simp [qat.l0])
    | succ k1=>
      have H:=HA.out
      clear HA
      simp only [qat.l0] at H
      by_cases c4 : x8_1 < (l0.length : Int)
      · rw [if_pos c4] at H
        have c4b0 : decide (x8_1 < (l0.length : Int)) = true:=decide_eq_true c4
        clear c4
        by_cases c5 : 0≤x8_1
        · rw [if_pos c5] at H
          have c5b0 : decide (0≤x8_1) = true:=decide_eq_true c5
          clear c5
          by_cases c6 : x8_1 < (l0.length : Int)
          · rw [if_pos c6] at H
            have c6b0 : decide (x8_1 < (l0.length : Int)) = true:=decide_eq_true c6
            clear c6
            by_cases c7 : (a1_0 == ((rd_T39 l0 x8_1).f0) && (a1_1 == ((rd_T39 l0 x8_1).f1))) = true
            · rw [if_pos c7] at H
              have c7b0 : (a1_0 == ((rd_T39 l0 x8_1).f0) && (a1_1 == ((rd_T39 l0 x8_1).f1))) = true:=c7
              (try (have c7b1 : decide (a1_0 = ((rd_T39 l0 x8_1).f0) && (a1_1 == ((rd_T39 l0 x8_1).f1))) = true:=by simpa using c7))
              (try (have c7b2 : (a1_0 == ((rd_T39 l0 x8_1).f0) && (a1_1 == ((rd_T39 l0 x8_1).f1))) = true:=by simpa using c7))
              clear c7
              obtain rfl:=Option.some.inj H
              have hcz8_0 : wr.cell? ⟨gb228,0,none⟩ = some (.int .i64 a1_0):=(qab BK228.out 0).trans rfl
              have hcz8_1 : wr.cell? ⟨gb228,1,none⟩ = some (.int .i64 a1_1):=(qab BK228.out 1).trans rfl
              have hfz8_0:=qaf BK228.out 0
              have hfz8_1:=qaf BK228.out 1
              have p229 : 0≤(x8_1 : Int):=of_decide_eq_true (by (with_reducible assumption))
              have q229 : x8_1 < (l0.length : Int):=of_decide_eq_true (by (with_reducible assumption))
              obtain ⟨ad229,e229,hx229_0,hx229_1⟩:=at_T39 HR0.out x8_1 p229 q229
              cases e229
              replace hx229_0:=(HB.out.cell (World.block_lt_of_cell? w _ hx229_0)).trans hx229_0
              replace hx229_1:=(HB.out.cell (World.block_lt_of_cell? w _ hx229_1)).trans hx229_1
              replace p229:=eq_true p229
              replace q229:=eq_true q229
              go_wp2
              repeat (go_quiet (fail);try go_wp2)
              go_ret
              exact ⟨by rfl,by repeat ((with_reducible first|exact HB.out|apply qay))⟩
            · rw [if_neg c7] at H
              have c7b0 : (a1_0 == ((rd_T39 l0 x8_1).f0) && (a1_1 == ((rd_T39 l0 x8_1).f1))) = false:=by simpa using c7
              (try (have c7b1 : decide (a1_0 = ((rd_T39 l0 x8_1).f0) && (a1_1 == ((rd_T39 l0 x8_1).f1))) = false:=by simpa using c7))
              (try (have c7b2 : (a1_0 == ((rd_T39 l0 x8_1).f0) && (a1_1 == ((rd_T39 l0 x8_1).f1))) = false:=by simpa using c7))
              (try (have c7b3 : ¬ (a1_0 = ((rd_T39 l0 x8_1).f0) && (a1_1 == ((rd_T39 l0 x8_1).f1))):=by simpa using c7))
              clear c7
              have H':=Aside0.mk H
              clear H
              have hcz9_0 : wr.cell? ⟨gb228,0,none⟩ = some (.int .i64 a1_0):=(qab BK228.out 0).trans rfl
              have hcz9_1 : wr.cell? ⟨gb228,1,none⟩ = some (.int .i64 a1_1):=(qab BK228.out 1).trans rfl
              have hfz9_0:=qaf BK228.out 0
              have hfz9_1:=qaf BK228.out 1
              have p229 : 0≤(x8_1 : Int):=of_decide_eq_true (by (with_reducible assumption))
              have q229 : x8_1 < (l0.length : Int):=of_decide_eq_true (by (with_reducible assumption))
              obtain ⟨ad229,e229,hx229_0,hx229_1⟩:=at_T39 HR0.out x8_1 p229 q229
              cases e229
              replace hx229_0:=(HB.out.cell (World.block_lt_of_cell? w _ hx229_0)).trans hx229_0
              replace hx229_1:=(HB.out.cell (World.block_lt_of_cell? w _ hx229_1)).trans hx229_1
              replace p229:=eq_true p229
              replace q229:=eq_true q229
              go_wp2
              repeat (go_quiet (fail);try go_wp2)
              go_roundg k1
              case measure=>have:=HK1.out;omega
              case rel=>exact ⟨(wrap64 (x8_1 + 1)),(by rfl),H',⟨by have:=HK1.out;omega⟩,⟨by (with_reducible repeat (refine qcr ?_ _));exact BK228.out⟩,⟨by repeat ((with_reducible first|exact HB.out|apply qay))⟩⟩
          · rw [if_neg c6] at H
            exact absurd H (by simp)
        · rw [if_neg c5] at H
          exact absurd H (by simp)
      · rw [if_neg c4] at H
        have c4b0 : decide (x8_1 < (l0.length : Int)) = false:=decide_eq_false c4
        clear c4
        obtain rfl:=Option.some.inj H
        go_wp2
        repeat (go_quiet (fail))
        go_ret
        exact ⟨by rfl,by repeat ((with_reducible exact HB.out))⟩
end Go.Proofs.YtmfjmbcfaamebaaDoor.X
namespace Go.Proofs.YtmfjmbcfaamebaaDoor.X
open Go.RowKit Go.Proofs.YtmfjmbcfaamebaaDoorW.PrintWords Go.Proofs.YtmfjmbcfaamebaaDoorW.PrintLast Go.Proofs.YtmfjmbcfaamebaaDoorW.PrintMore
attribute [local go_sem] qbo qbu
set_option linter.unusedVariables false
set_option linter.unusedSimpArgs false
def qbn.f (k : Nat) (l0 : List (S39)) (a1_0 : Int) (a1_1 : Int) : Option (Bool):=(qat.f k l0 a1_0 a1_1).bind fun t231=>(some (decide (t231 ≥ 0)))
theorem qbn.mono : ∀ a0 a1 a2 k,LeO (qbn.f k a0 a1 a2) (qbn.f (k + 1) a0 a1 a2):=by
  intro a0 a1 a2 k
  unfold qbn.f
  repeat' first|(with_reducible exact qat.mono _ _ _ _)|(with_reducible exact LeO.refl _)|(with_reducible refine LeO.bind ?_ (fun _=>?_))
set_option maxHeartbeats 8000000 in
set_option maxRecDepth 100000 in
theorem qbn.calls (k : Nat) (A0 : Option Addr) (c0 : Nat) (l0 : List (S39)) (a1_0 : Int) (a1_1 : Int) (r : Bool) (w : World) (hr0 : Kd.C k39 w A0 l0.length l0) (hc0 : l0.length≤c0) (h : qbn.f k l0 a1_0 a1_1 = some r) :
    Calls Tryd.prog 58 #[.slice A0 l0.length c0,.agg #[.int .i64 a1_0,.int .i64 a1_1]] w fun e w'=>e = .returned (.bool r)∧Below w.heap.size w w':=by
  have hu39:=Tryd.underlying39
  have HR0:=Aside0.mk hr0
  have HC0:=Aside0.mk hc0
  clear hr0 hc0
  have HB:=Aside0.mk (Below.refl w.heap.size w)
  have H : ((qat.f k l0 a1_0 a1_1).bind fun t231=>(some (decide (t231 ≥ 0)))) = some r:=h
  clear h
  replace H:=Option.bind_eq_some_iff.mp H
  obtain ⟨t231,A30,H⟩:=H
  replace H : (some (decide (t231 ≥ 0))) = some r:=H
  have A3:=Aside0.mk A30
  clear A30
  obtain rfl:=Option.some.inj H
  go_enter Tryd.func58,Tryd.ntmps58
  go_wp2_with (first|((with_reducible refine qbg (N:=3) rfl ?_);refine qbl ?hg (N:=3) ?hd (cs:=#[.int .i64 a1_0,.int .i64 a1_1]) (t:=39) ?hr ?_;(case hd=>rfl);(case hg=>rfl);(case hr=>(go_simp;done));intro gb230 hg w4 hbox hb;have n0_:=Aside0.mk (qai HB.out hb);have n1_:=Aside0.mk (hbox);have n2_:=Aside0.mk ((by rw [hg];exact (qac HB.out) : w.heap.size≤gb230));have n3_:=Aside0.mk ((by rw [hg];exact (qac HB.out) : w.heap.size≤gb230));clear HB;have HB:=n0_;have BK230:=n1_;have GW230:=n2_;have GE230:=n3_;clear n0_ n1_ n2_ n3_;clear hb hbox hg;have hcz5_0 : w4.cell? ⟨gb230,0,none⟩ = some (.int .i64 a1_0):=(qab BK230.out 0).trans rfl;have hcz5_1 : w4.cell? ⟨gb230,1,none⟩ = some (.int .i64 a1_1):=(qab BK230.out 1).trans rfl;have hfz5_0:=qaf BK230.out 0;have hfz5_1:=qaf BK230.out 1)|((with_reducible refine qbb (f:=81) rfl ?_);refine goesL_ (some 7) rfl rfl Tryd.func81 (by kernel_rfl) rfl #[.slice A0 l0.length c0,.agg #[.int .i64 a1_0,.int .i64 a1_1]] rfl (by (try simp only [List.map_toArray,List.map_cons,List.map_nil]);rfl) ?_;(with_reducible refine (qat.calls k _ _ l0 a1_0 a1_1 t231 _ ?side1 ?side2 A3.out).mono ?_);(case side1=>repeat (exact (Kd.C_below HR0.out HB.out)));(case side2=>exact HC0.out);rintro e w6 ⟨rfl,hb⟩;refine ⟨_,rfl,?_⟩;have n0_:=Aside0.mk (qag (g:=gb230) (o:=.cells #[.int .i64 a1_0,.int .i64 a1_1] 39 (0,0)) (by (with_reducible repeat (refine qaa ?_));exact BK230.out) hb);have n1_:=Aside0.mk (qai HB.out hb);clear BK230;clear HB;have BK230:=n0_;have HB:=n1_;clear n0_ n1_;(try clear hb)))
  go_ret
  exact ⟨by rfl,by repeat ((with_reducible exact HB.out))⟩
end Go.Proofs.YtmfjmbcfaamebaaDoor.X
