/- Parts of the proof of the law CFGDominators: words, walks of single functions and plain laws, joined by a program out of the session's texts. -/
import Derived.Test.YtmfjmbcfaamebaaDoorCFGDominators5
import Derived.Lib.OwnBridge
import Derived.Sort.OwnSortedInts
set_option linter.unusedVariables false
set_option linter.unusedSimpArgs false
namespace Go.Proofs.YtmfjmbcfaamebaaDoor.X
noncomputable section
open Go.RowKit Go.Proofs.YtmfjmbcfaamebaaDoorW.PrintWords Go.Proofs.YtmfjmbcfaamebaaDoorW.PrintLast Go.Proofs.YtmfjmbcfaamebaaDoorW.PrintMore
attribute [local go_sem] qbs qcb
set_option linter.unusedVariables false
set_option linter.unusedSimpArgs false
def qbd.T5:Bool×List (List Nat×List Nat):=(true,[([],[]),([],[]),([],[]),([2],[2]),([3],[3]),([1,4,4],[1,4]),([0,5,5],[0,5]),([6,6],[6])])
def qbd.B5:List Nat:=[0,0,0,4,12,30,63,127]
theorem qbd.tab5:rtab .any (opsOf Tryd.f21 5)=qbd.T5:=by kernel_rfl
theorem qbd.bits5:qeu qbd.T5.2 qbd.B5=true:=by kernel_rfl
def qbd.T7:Bool×List (List Nat×List Nat):=(true,[([],[]),([],[]),([],[]),([],[]),([2,3],[2,3]),([4],[4]),([],[]),([5,6],[5,6]),([0,1,0,1,2,3,4,5,6,7],[0,1]),([8,7,7,0,1,2,3,4,5,6,7],[7,8])])
def qbd.B7:List Nat:=[0,0,0,0,12,28,0,124,255,511]
theorem qbd.tab7:rtab .any (opsOf Tryd.f21 7)=qbd.T7:=by kernel_rfl
theorem qbd.bits7:qeu qbd.T7.2 qbd.B7=true:=by kernel_rfl
open Go.Shelf
attribute [local go_sem] Oper.semAt_some
def withT (k:Nat) (ws:List Int) (d:Int):List Int:=(qby.f k ws d).getD []
def qeq (k:Nat) (d:Int) (out:List S38) (n:Int):List S38:=out.set n.toNat ⟨withT k (qco out n).f0 d⟩
def qgw (k:Nat) (a:Bool) (b:Int) (l:List S60) (all:List Int) (d:Int):List Int:=(((qax.f k [d]).bind fun av=>(qcp.f k a b l 0 av).bind fun x=>qca.f k all x)).getD []
def qgy (k:Nat) (a:Bool) (b:Int) (l:List S60) (all:List Int) (out:List S38) (d:Int):List S38:=(els (qgw k a b l all d)).foldl (qeq k d) out
def WithOk (k:Nat) (d:Int):Prop:=∀ ws,setOk ws=true→∃ y,qby.f k ws d=some y∧setOk y=true
theorem withT_ok {k:Nat} {d:Int} (h:WithOk k d) {ws:List Int} (hw:setOk ws=true):qby.f k ws d=some (withT k ws d)∧setOk (withT k ws d)=true:=by
 obtain ⟨y,h1,h2⟩:=h ws hw
 simp [withT,h1,h2]
def DomAt (k:Nat) (a:Bool) (b:Int) (l:List S60) (all:List Int) (d:Int):Prop:=
 (∃ av x,qax.f k [d]=some av∧qcp.f k a b l 0 av=some x∧qca.f k all x=some (qgw k a b l all d))∧setOk (qgw k a b l all d)=true∧(∀ n∈els (qgw k a b l all d),0≤n∧n<(l.length:Int))∧WithOk k d
def Dom (a:Bool) (b:Int) (l:List S60) (r:List S38):Prop:=
 ∃ k all,qcf.f k a b l 0=some all∧setOk all=true∧l.length≤4398046511104∧(∀ d∈els all,DomAt k a b l all d)∧r=(els all).foldl (qgy k a b l all) (List.replicate l.length ⟨[]⟩)
open Classical in
noncomputable def qbd.f (a:Bool) (b:Int) (l:List S60):Option (List S38):=if h:∃ r,Dom a b l r then some h.choose else none
theorem qbd.spec {a:Bool} {b:Int} {l:List S60} {r:List S38} (h:qbd.f a b l=some r):Dom a b l r:=by
 unfold qbd.f at h
 split at h
 ·rename_i hx
  injection h with h
  rw [← h]
  exact hx.choose_spec
 ·cases h
def AllOk (n:Nat) (out:List S38):Prop:=out.length=n∧∀ s∈out,setOk s.f0=true
theorem rdOk {n:Nat} {out:List S38} (h:AllOk n out) {i:Int} (h0:0≤i) (h1:i<(n:Int)):setOk (qco out i).f0=true:=by
 have hl:i.toNat<out.length:=by have:=h.1;omega
 have:qco out i=out[i.toNat]:=by simp [qco,hl]
 rw [this]
 exact h.2 _ (List.getElem_mem hl)
theorem domStep_ok {k n:Nat} {d:Int} {out:List S38} {i:Int} (hw:WithOk k d) (h:AllOk n out) (h0:0≤i) (h1:i<(n:Int)):AllOk n (qeq k d out i):=by
 refine ⟨by simp [qeq,h.1],fun s hs=>?_⟩
 rcases List.mem_or_eq_of_mem_set hs with hs|rfl
 ·exact h.2 s hs
 ·exact (withT_ok hw (rdOk h h0 h1)).2
theorem info38_:(Tryd.prog.info? 38).map (fun i=>(i.zero,i.size,i.bytes))=some (some (.agg #[.slice none 0 0]),1,24):=by kernel_rfl
theorem makeSets (m:Nat) (hm:m*24≤281474976710656):∀ W:World,(Instr.makeSlice 33 (.int .i64 (m:Int)) (.int .i64 (m:Int))).run Tryd.prog W=.ok (.slice (some ⟨W.heap.size,0,none⟩) m m) (W.alloc (.cells (madeCells #[.slice none 0 0] (m*1)) 38)):=by
 intro W
 obtain ⟨i0,hi,hzz⟩:=Option.map_eq_some_iff.1 info38_
 simp only [Prod.mk.injEq] at hzz
 obtain ⟨hz0,hz1,hz2⟩:=hzz
 have hr:=run_make (P:=Tryd.prog) W 33 38 i0 (.agg #[.slice none 0 0]) Tryd.underlying33 hi hz0 .i64 .i64 (m:Int) (m:Int) (by omega) (by omega)
  (by
   have h3:((i0.bytes*m:Nat):Int)≤281474976710656:=by rw [hz2,Nat.mul_comm];omega
   rwa [Int.natCast_mul] at h3) (by omega)
 simp only [Int.toNat_natCast] at hr
 rw [hz1] at hr
 exact hr
set_option maxRecDepth 100000 in
set_option maxHeartbeats 4000000 in
theorem qbd.calls (a0_0:Bool) (a0_1:Int) (A0_2:Option Addr) (c0_2:Nat) (l0_2:List (S60)) (r:List S38) (w:World) (hT:TabW w) (hr0_2:Kd.C k60 w A0_2 l0_2.length l0_2) (hc0_2:l0_2.length≤c0_2) (h:qbd.f a0_0 a0_1 l0_2=some r) :
  Calls Tryd.prog 21 #[.agg #[.bool a0_0,.int .i64 a0_1,.slice A0_2 l0_2.length c0_2]] w fun e w'=>∃ v0_:Value,e=.returned v0_∧Kd.V k38 38 w' w.heap.size (fun k_=>(w.heap.size≤k_)) v0_ r∧Below w.heap.size w w':=by
 have hu24:=Tryd.underlying24
 have hu38:=Tryd.underlying38
 obtain ⟨k,all,hre,hok,hlen,hD,rfl⟩:=qbd.spec h
 clear h
 have HR0:=qaa.mk hr0_2
 have HT:=qaa.mk hT
 have HD:=qaa.mk hD
 have HCR:=qaa.mk (fun W (hW:Below w.heap.size w W)=>qcf.calls k a0_0 a0_1 A0_2 c0_2 l0_2 0 all W (hT.below' hW) (Kd.C_below hr0_2 hW) hc0_2 hre)
 clear hr0_2 hT hD hre
 have hmk:=makeSets l0_2.length (by omega)
 rw [Nat.mul_one] at hmk
 refine (callsIn_wide (n:=9)).1 ?_
 refine callsIn_of_wp_marks Tryd.func21 rfl trivial ?_ rfl
 simp only [Tryd.ntmps21,List.size_toArray,List.length_cons,List.length_nil,Nat.reduceAdd,Nat.reduceSub,Array.replicate_succ,Array.replicate_zero,List.push_toArray,List.append_toArray,List.nil_append,List.cons_append]
 gi_wp2
 refine ⟨trivial,?_⟩
 obtain ⟨W1,hW1⟩:∃ W1,((w.alloc (Obj.cells #[Value.bool a0_0,Value.int IntKind.i64 a0_1,Value.slice A0_2 l0_2.length c0_2] 24)).alloc (Obj.cells (madeCells #[Value.slice none 0 0] l0_2.length) 38)).alloc (Obj.cells #[Value.slice (some ⟨w.heap.size+1,0,none⟩) l0_2.length l0_2.length] 33)=W1:=⟨_,rfl⟩
 have hsz1:W1.heap.size=w.heap.size+3:=by rw [← hW1];simp
 have hB1:Below w.heap.size w W1:=by rw [← hW1];exact (((Below.refl _ w).alloc (Nat.le_refl _) _).alloc (by simp) _).alloc (by simp;omega) _
 have b24:W1.heap[w.heap.size]?=some (.cells #[Value.bool a0_0,Value.int IntKind.i64 a0_1,Value.slice A0_2 l0_2.length c0_2] 24 (0,0)):=by rw [← hW1];exact qcy (qcy (World.alloc_heap_new w _) _) _
 have bO:W1.heap[w.heap.size+1]?=some (.cells (madeCells #[Value.slice none 0 0] l0_2.length) 38 (0,0)):=by rw [← hW1];have:=World.alloc_heap_new (w.alloc (Obj.cells #[Value.bool a0_0,Value.int IntKind.i64 a0_1,Value.slice A0_2 l0_2.length c0_2] 24)) (Obj.cells (madeCells #[Value.slice none 0 0] l0_2.length) 38);rw [World.size_alloc] at this;exact qcy this _
 have b33:W1.heap[w.heap.size+1+1]?=some (.cells #[Value.slice (some ⟨w.heap.size+1,0,none⟩) l0_2.length l0_2.length] 33 (0,0)):=by rw [← hW1];have:=World.alloc_heap_new ((w.alloc (Obj.cells #[Value.bool a0_0,Value.int IntKind.i64 a0_1,Value.slice A0_2 l0_2.length c0_2] 24)).alloc (Obj.cells (madeCells #[Value.slice none 0 0] l0_2.length) 38)) (Obj.cells #[Value.slice (some ⟨w.heap.size+1,0,none⟩) l0_2.length l0_2.length] 33);rw [World.size_alloc,World.size_alloc] at this;exact this
 have hN:Kd.N k38 38 W1 w.heap.size (fun k=>w.heap.size≤k∧IsC W1 k) (.slice (some ⟨w.heap.size+1,0,none⟩) l0_2.length l0_2.length) (List.replicate l0_2.length ⟨[]⟩):=by
  have h1:=World.ownsRow_lit (base:=w.heap.size) (e:=38) (size:=1) (w.alloc (Obj.cells #[Value.bool a0_0,Value.int .i64 a0_1,.slice A0_2 l0_2.length c0_2] 24)) (madeCells #[.slice none 0 0] l0_2.length) l0_2.length (by simp) (by simp [maxLen];omega) (by simp [size_madeCells])
  have h2:=Kd.reps_made (R:=k38.M ((w.alloc (Obj.cells #[Value.bool a0_0,Value.int .i64 a0_1,.slice A0_2 l0_2.length c0_2] 24)).alloc (Obj.cells (madeCells #[Value.slice none 0 0] l0_2.length) 38)) w.heap.size (fun k=>w.heap.size≤k∧some k≠(Value.slice (some ⟨w.heap.size+1,0,none⟩) l0_2.length l0_2.length).ownBlock)) (z:=.slice none 0 0) (size:=1) (z0:=(⟨[]⟩:S38)) rfl (by decide) (k38_mkM _ _ _ _ (Kd.R_nil _ _ _ _ _)) l0_2.length
  rw [World.size_alloc] at h1
  rw [Nat.mul_one] at h2
  have h3:Kd.R k38 38 _ w.heap.size (fun k=>w.heap.size≤k) (.slice (some ⟨w.heap.size+1,0,none⟩) l0_2.length l0_2.length) (List.replicate l0_2.length ⟨[]⟩):=⟨fun k hk=>by simp [Value.ownBlock] at hk;omega,_,by rw [List.length_replicate];exact h1,h2⟩
  have h4:=Kd.N_alloc (Kd.R_N (Kd.R_bound h3)) (Obj.cells #[Value.slice (some ⟨w.heap.size+1,0,none⟩) l0_2.length l0_2.length] 33)
  rw [hW1] at h4
  refine Kd.N_mono h4 (fun k hk=>⟨hk.1,?_⟩)
  obtain ⟨_,_,hlt,q,_,cells,hc⟩:=hk
  exact ⟨cells,q,(0,0),by rw [← hW1];exact qcy hc _⟩
 rw [hW1]
 refine (callsIn_wide.2 (HCR.out W1 hB1)).mono ?_
 rintro e W2 ⟨v2,rfl,hV,hB2⟩
 obtain ⟨Aa,ca,rfl⟩:=Kd.V_slice hV
 have hca:=(Kd.V_reads' hV).2.1
 have hFA:Kd.F (Kd.int .u64) W2 (fun k=>(W1.heap.size≤k∧k<W2.heap.size)∧IsC W2 k) Aa all.length all:=Kd.F_mono (qhz (Kd.F_bound (Kd.V_F hV))) (fun k hk=>hk)
 have hs12:=hB2.size
 replace hN:=N_belowC hN hB2
 replace b24:=(hB2.block _ (by omega)).trans b24
 replace b33:=(hB2.block _ (by omega)).trans b33
 have hBw2:=hB1.trans (hB2.mono (by omega))
 clear hW1 bO hV HCR hmk hB1 hB2
 gi_wp2
 refine ⟨trivial,?_⟩
 refine (callsIn_wide.2 (qda.calls_in _ _)).mono ?_
 rintro e W3 ⟨rfl,hW3⟩
 gi_wp2
 rw [← hW3]
 have hs3:W3.heap.size=W2.heap.size+2:=by rw [hW3];simp
 have hB23:Below W2.heap.size W2 W3:=by rw [hW3];exact ((Below.refl _ W2).alloc (Nat.le_refl _) _).alloc (by simp) _
 have b38:W3.heap[W2.heap.size]?=some (.cells #[Value.slice Aa all.length ca] 38 (0,0)):=by rw [hW3];exact qcy (World.alloc_heap_new W2 _) _
 have b52:W3.heap[W2.heap.size+1]?=some (.cells #[Value.slice Aa all.length ca] 38 (0,0)):=by
  rw [hW3]
  have:=World.alloc_heap_new (W2.alloc (Obj.cells #[Value.slice Aa all.length ca] 38)) (Obj.cells #[Value.slice Aa all.length ca] 38)
  rwa [World.size_alloc] at this
 replace hN:=N_belowC hN hB23
 replace b24:=(hB23.block _ (by omega)).trans b24
 replace b33:=(hB23.block _ (by omega)).trans b33
 have hBw3:=hBw2.trans (hB23.mono (by omega))
 have hFA3:Kd.F (Kd.int .u64) W3 (fun k=>(W1.heap.size≤k∧k<W2.heap.size)∧IsC W3 k) Aa all.length all:=F_belowC hFA hB23
 have hT0:=HT.out.2.1
 clear hW3 hB23 hFA hBw2
 refine wpIn_rangeFunc_ownH (w0:=W3) rfl (by decide) (gf:=76) (lb:=#[.pointer (some ⟨W2.heap.size+1,0,none⟩)]) rfl trivial (enters_of Tryd.func76 (by kernel_rfl) rfl)
  (qda.stops _ (W2.heap.size+1) (But W3.heap.size (w.heap.size+1)) (But.refl _ _) But.trans Aa ca all W3 (fun hb h=>(But.of_below hb (Nat.le_refl _)).trans h) hok (by omega) (fun W' h=>But.tab (HT.out.below' hBw3) (by omega) (by omega) h) (qcu b52 0 rfl) (fun W' h=>Kd.F_now (Kd.F_step hFA3 (fun k hk hlt=>h.2 k hlt (by omega))))) But.trans (fun W l o o' hl _ _ _=>But.putObj W _ hl) (Below.refl _ _) (fun _=>rfl)
  (fun pre W=>((Kd.N k38 38 W w.heap.size (fun k=>w.heap.size≤k∧IsC W k) (.slice (some ⟨w.heap.size+1,0,none⟩) l0_2.length l0_2.length) ((pre.map (·.1)).foldl (qgy k a0_0 a0_1 l0_2 all) (List.replicate l0_2.length ⟨[]⟩))∧W.heap[w.heap.size]?=some (.cells #[Value.bool a0_0,Value.int IntKind.i64 a0_1,Value.slice A0_2 l0_2.length c0_2] 24 (0,0))∧W.heap[w.heap.size+1+1]?=some (.cells #[Value.slice (some ⟨w.heap.size+1,0,none⟩) l0_2.length l0_2.length] 33 (0,0))∧W.heap[W2.heap.size]?=some (.cells #[Value.slice Aa all.length ca] 38 (0,0))∧Kd.F (Kd.int .u64) W (fun k=>(W1.heap.size≤k∧k<W2.heap.size)∧IsC W k) Aa all.length all)∧AllOk l0_2.length ((pre.map (·.1)).foldl (qgy k a0_0 a0_1 l0_2 all) (List.replicate l0_2.length ⟨[]⟩)))∧(Below w.heap.size w W∧W3.heap.size≤W.heap.size))
  (fun _ _ _=>False)
  (OwnFrom.and (Own.from (fun s A B row hs hg hr=>⟨⟨N_rowC hg hr hs.1.1,qez hg hr hs.1.2.1,qez hg hr hs.1.2.2.1,qez hg hr hs.1.2.2.2.1,F_rowC hg hr hs.1.2.2.2.2⟩,hs.2⟩) _) (OwnFrom.and (ownFrom_below (Nat.le_refl _) (by omega)) (fun _ _ _ _ hs hg _=>Nat.le_trans hs hg.size)))
  (fun _ _ _ _ _ hs _ _=>hs)
  ⟨⟨⟨hN,b24,b33,b38,hFA3⟩,by simp,fun s hs=>by obtain rfl:=(List.mem_replicate.1 hs).2;rfl⟩,hBw3,Nat.le_refl _⟩
  (fun x a' W=>∃ Bx,W3.heap.size≤Bx∧W.heap[Bx]?=some (.cells #[.int .i64 x.1] 3 (0,0))∧a'={ tmps:=#[Value.agg #[Value.bool a0_0,Value.int IntKind.i64 a0_1,Value.slice A0_2 l0_2.length c0_2],.pointer (some ⟨w.heap.size,0,none⟩),.slice none 0 0,.pointer (some ⟨w.heap.size+1+1,0,none⟩),.pointer (some ⟨W2.heap.size,0,none⟩),.pointer (some ⟨Bx,0,none⟩),undef,.pointer (some ⟨w.heap.size,2,none⟩),.slice A0_2 l0_2.length c0_2,.int .i64 l0_2.length,.slice (some ⟨w.heap.size+1,0,none⟩) l0_2.length l0_2.length,Value.agg #[Value.bool a0_0,Value.int IntKind.i64 a0_1,Value.slice A0_2 l0_2.length c0_2],.agg #[.slice Aa all.length ca],.agg #[.slice Aa all.length ca],.func (.func 76) #[] #[.pointer (some ⟨W2.heap.size+1,0,none⟩)],.int .i64 x.1,undef,undef,undef,undef,undef,undef,undef,undef,undef,undef,undef,undef,undef,undef,undef,undef,undef,undef,undef],defers:=[] })
  (fun x a' _ X Y row hs hg hr=>by obtain ⟨Bx,h1,h2,h3⟩:=hs;exact ⟨Bx,h1,qez hg (fun r e=>(hr r e).2) h2,h3⟩)
  ?assign ?body ?done ?stop
 case assign=>
  rintro l pre x W K ⟨⟨⟨hN1,b24,b33,b38,hF1⟩,hAO⟩,hB,hsW⟩ hK
  gi_wp2
  have hbl:Below W.heap.size W (W.alloc (.cells #[.int .i64 x.1] 3)):=(Below.refl _ W).alloc (Nat.le_refl _) _
  exact hK _ _ ((KeepsOthers.alloc _ _).from _) (But.of_below hbl hsW) ⟨⟨⟨N_belowC hN1 hbl,qcy b24 _,qcy b33 _,qcy b38 _,F_belowC hF1 hbl⟩,hAO⟩,hB.alloc hB.size _,by simp;omega⟩ ⟨W.heap.size,hsW,World.alloc_heap_new W _,rfl⟩
 case body=>
  rintro l pre x a' W hl ⟨r,hr⟩ ⟨⟨⟨hN1,b24,b33,b38,hF1⟩,hAO⟩,hB,hsW⟩ ⟨Bx,hBx,bX,rfl⟩ hlt
  obtain ⟨⟨av,xv,hav,hxv,hmv⟩,hmok,hmn,hWO⟩:=HD.out x.1 x.2
  obtain ⟨m,hm⟩:∃ m,qgw k a0_0 a0_1 l0_2 all x.1=m:=⟨_,rfl⟩
  rw [hm] at hmv hmok hmn
  have hSt:∀ W',Below W.heap.size W W'→(W'.cell? ⟨W2.heap.size,0,none⟩=some (.slice Aa all.length ca)∧W'.cell? ⟨w.heap.size,0,none⟩=some (.bool a0_0)∧W'.cell? ⟨w.heap.size,1,none⟩=some (.int .i64 a0_1)∧W'.cell? ⟨w.heap.size,2,none⟩=some (.slice A0_2 l0_2.length c0_2)∧W'.cell? ⟨Bx,0,none⟩=some (.int .i64 x.1)):=fun W' hb=>
   ⟨qcu ((hb.block _ (qbn b38)).trans b38) 0 rfl,qcu ((hb.block _ (qbn b24)).trans b24) 0 rfl,qcu ((hb.block _ (qbn b24)).trans b24) 1 rfl,qcu ((hb.block _ (qbn b24)).trans b24) 2 rfl,qcu ((hb.block _ (qbn bX)).trans bX) 0 rfl⟩
  refine wpIn_block ?_
  refine wpIn_seq_k (fun K hKs=>?_)
  refine startIn_ (m:=8) (S:=fun W'=>W'.cell? ⟨W2.heap.size,0,none⟩=some (.slice Aa all.length ca)∧W'.cell? ⟨w.heap.size,0,none⟩=some (.bool a0_0)∧W'.cell? ⟨w.heap.size,1,none⟩=some (.int .i64 a0_1)∧W'.cell? ⟨w.heap.size,2,none⟩=some (.slice A0_2 l0_2.length c0_2)∧W'.cell? ⟨Bx,0,none⟩=some (.int .i64 x.1)) (ds:=[]) #[false,false,false,false,false,false,false,false] (by kernel_rfl) rfl rfl rfl (fun hh=>by obtain ⟨_,_,hh⟩:=hh;exact hh) (hSt _ (qea (Below.refl _ _))) (fun hHeld=>?_);refine qee qbd.tab5 qbd.bits5 (fun HT_ HW_=>?_)
  obtain ⟨Wd,hWd⟩:∃ Wd,W.drew=Wd:=⟨_,rfl⟩
  have hbd:Below W.heap.size W Wd:=by rw [← hWd];exact qea (Below.refl _ _)
  have hsd:Wd.heap.size=W.heap.size:=by rw [← hWd];rfl
  rw [hWd] at hHeld ⊢
  refine take_ (i:=0) (N:=some 16) (v:=?_) (a':=?_) #[true,false,false,false,false,false,false,false] rfl rfl (qcw HT_.out HW_.out (by kernel_rfl)) (fun _ _ _ h=>h) (Or.inl ⟨by rfl,?_⟩) hHeld ?_ ?_
  rotate_left
  ·rintro w' ⟨s0,s1,s2,s3,s4⟩
   go_simp
   with_reducible rfl
  rotate_left
  ·simp only [Act.put,List.setIfInBounds_toArray,List.set_cons_zero,List.set_cons_succ,qbk,qbm]
   rfl
  refine take_ (i:=1) (N:=some 17) (v:=?_) (a':=?_) #[true,true,false,false,false,false,false,false] rfl rfl (qcw HT_.out HW_.out (by kernel_rfl)) (fun _ _ _ h=>h) (Or.inl ⟨by rfl,?_⟩) hHeld ?_ ?_
  rotate_left
  ·rintro w' ⟨s0,s1,s2,s3,s4⟩
   go_simp
   with_reducible rfl
  rotate_left
  ·simp only [Act.put,List.setIfInBounds_toArray,List.set_cons_zero,List.set_cons_succ,qbk,qbm]
   rfl
  refine take_ (i:=2) (N:=some 18) (v:=?_) (a':=?_) #[true,true,true,false,false,false,false,false] rfl rfl (qcw HT_.out HW_.out (by kernel_rfl)) (fun _ _ _ h=>h) (Or.inl ⟨by rfl,?_⟩) hHeld ?_ ?_
  rotate_left
  ·rintro w' ⟨s0,s1,s2,s3,s4⟩
   go_simp
   with_reducible rfl
  rotate_left
  ·simp only [Act.put,List.setIfInBounds_toArray,List.set_cons_zero,List.set_cons_succ,qbk,qbm]
   rfl
  refine one_ (i:=3) (N:=some 19) #[true,true,true,true,false,false,false,false] rfl rfl (qdx HT_.out (by kernel_rfl)) (by decide) (fun K hK=>?_)
  refine value_ (v:=.slice (some ⟨Wd.heap.size,0,none⟩) 1 1) (w1:=Wd.alloc (.cells #[.int .i64 x.1] 3)) (by rfl) rfl ?_ ?_
  ·go_simp
  obtain ⟨X3,hX3⟩:∃ X3,Wd.alloc (.cells #[.int .i64 x.1] 3)=X3:=⟨_,rfl⟩
  have hC3:=C_one Wd x.1 3
  have hb3:Below W.heap.size W X3:=by rw [← hX3];exact hbd.alloc (by omega) _
  rw [hX3] at hC3 ⊢
  refine hK.out _ _ (hSt _ hb3) (fun hHeld=>?_)
  clear hK K
  refine qdt (a':=?_) ?_ ?_
  rotate_left
  ·show Act.put _ (some 19) _=_
   simp only [Act.put,List.setIfInBounds_toArray,List.set_cons_zero,List.set_cons_succ,qbk,qbm]
   rfl
  refine one_ (i:=4) (N:=some 20) #[true,true,true,true,true,false,false,false] rfl rfl (qdx HT_.out (by kernel_rfl)) (by decide) (fun K hK=>?_)
  refine qej Tryd.func34 (by kernel_rfl) rfl #[.slice (some ⟨Wd.heap.size,0,none⟩) 1 1] (by rfl) rfl rfl (by (try simp only [List.map_toArray,List.map_cons,List.map_nil]);rfl) ?_
  refine (qax.calls k (some ⟨Wd.heap.size,0,none⟩) 1 [x.1] av X3 hC3 (Nat.le_refl _) hav).mono ?_
  rintro e X4 ⟨v4,rfl,hV4,hb4⟩
  refine ⟨_,rfl,?_⟩
  obtain ⟨A4,c4,rfl⟩:=Kd.V_slice hV4
  have hC4:=Kd.V_reads' hV4
  have hb4':=hb3.trans (hb4.mono hb3.size)
  clear hX3 hC3 hV4 hb4
  refine hK.out _ _ (hSt _ hb4') (fun hHeld=>?_)
  clear hK K
  refine qdt (a':=?_) ?_ ?_
  rotate_left
  ·show Act.put _ (some 20) _=_
   simp only [Act.put,List.setIfInBounds_toArray,List.set_cons_zero,List.set_cons_succ,qbk,qbm]
   rfl
  refine one_ (i:=5) (N:=some 21) #[true,true,true,true,true,true,false,false] rfl rfl (qdx HT_.out (by kernel_rfl)) (by decide) (fun K hK=>?_)
  refine qej Tryd.func54 (by kernel_rfl) rfl #[Value.agg #[Value.bool a0_0,Value.int IntKind.i64 a0_1,Value.slice A0_2 l0_2.length c0_2],.int .i64 0,.agg #[.slice A4 av.length c4]] (by rfl) rfl rfl (by (try simp only [List.map_toArray,List.map_cons,List.map_nil]);rfl) ?_
  refine (qcp.calls k a0_0 a0_1 A0_2 c0_2 l0_2 0 A4 c4 av xv X4 (HT.out.below' (hB.trans (hb4'.mono hB.size))) (Kd.C_below HR0.out (hB.trans (hb4'.mono hB.size))) hc0_2 hC4.2.2 hC4.2.1 hxv).mono ?_
  rintro e X5 ⟨v5,rfl,hV5,hb5⟩
  refine ⟨_,rfl,?_⟩
  obtain ⟨A5,c5,rfl⟩:=Kd.V_slice hV5
  have hC5:=Kd.V_reads' hV5
  have hb5':=hb4'.trans (hb5.mono hb4'.size)
  clear hC4 hV5 hb5 hb4'
  refine hK.out _ _ (hSt _ hb5') (fun hHeld=>?_)
  clear hK K
  refine qdt (a':=?_) ?_ ?_
  rotate_left
  ·show Act.put _ (some 21) _=_
   simp only [Act.put,List.setIfInBounds_toArray,List.set_cons_zero,List.set_cons_succ,qbk,qbm]
   rfl
  refine one_ (i:=6) (N:=some 22) #[true,true,true,true,true,true,true,false] rfl rfl (qdx HT_.out (by kernel_rfl)) (by decide) (fun K hK=>?_)
  refine qej Tryd.func53 (by kernel_rfl) rfl #[.agg #[.slice Aa all.length ca],.agg #[.slice A5 xv.length c5]] (by rfl) rfl rfl (by (try simp only [List.map_toArray,List.map_cons,List.map_nil]);rfl) ?_
  refine (qca.calls k Aa ca all A5 c5 xv m X5 (Kd.C_below (Kd.F_now hF1) hb5') hca hC5.2.2 hC5.2.1 hmv).mono ?_
  rintro e X6 ⟨v6,rfl,hV6,hb6⟩
  refine ⟨_,rfl,?_⟩
  obtain ⟨A6,c6,rfl⟩:=Kd.V_slice hV6
  have hF6:Kd.F (Kd.int .u64) X6 (fun k=>X5.heap.size≤k∧IsC X6 k) A6 m.length m:=qhz (Kd.V_F hV6)
  have hs5:=hb5'.size
  have hb6':=hb5'.trans (hb6.mono hb5'.size)
  clear hC5 hV6 hb6 hb5'
  refine hK.out _ _ (hSt _ hb6') (fun hHeld=>?_)
  clear hK K
  refine qdt (a':=?_) ?_ ?_
  rotate_left
  ·show Act.put _ (some 22) _=_
   simp only [Act.put,List.setIfInBounds_toArray,List.set_cons_zero,List.set_cons_succ,qbk,qbm]
   rfl
  refine one_ (i:=7) (N:=some 23) #[true,true,true,true,true,true,true,true] rfl rfl (qdx HT_.out (by kernel_rfl)) (by decide) (fun K hK=>?_)
  refine qej Tryd.func52 (by kernel_rfl) rfl #[.agg #[.slice A6 m.length c6]] (by rfl) rfl rfl (by (try simp only [List.map_toArray,List.map_cons,List.map_nil]);rfl) ?_
  refine (qda.calls_in (.slice A6 m.length c6) X6).mono ?_
  rintro e X7 ⟨rfl,hX7⟩
  refine ⟨_,rfl,?_⟩
  have hb7:Below X6.heap.size X6 X7:=by rw [hX7];exact (Below.refl _ _).alloc (Nat.le_refl _) _
  have hs7:X7.heap.size=X6.heap.size+1:=by rw [hX7];simp
  have b7:X7.heap[X6.heap.size]?=some (.cells #[.slice A6 m.length c6] 38 (0,0)):=by rw [hX7];exact World.alloc_heap_new X6 _
  have hb7':=hb6'.trans (hb7.mono hb6'.size)
  replace hF6:=F_belowC hF6 hb7
  have hs6:=hb6'.size
  clear hX7 hb7 hb6'
  refine hK.out _ _ (hSt _ hb7') (fun hHeld=>?_)
  clear hK K
  refine qdt (a':=?_) ?_ ?_
  rotate_left
  ·show Act.put _ (some 23) _=_
   simp only [Act.put,List.setIfInBounds_toArray,List.set_cons_zero,List.set_cons_succ,qbk,qbm]
   rfl
  refine qfq (qfd HT_.out (by kernel_rfl)) ?_
  refine hKs _ _ ?_
  clear hKs K HT_ HW_ hHeld
  have hs07:=hb7'.size
  have hNx:=N_belowC hN1 hb7'
  have hFx:=F_belowC hF1 hb7'
  have b24x:=(hb7'.block _ (qbn b24)).trans b24
  have b33x:=(hb7'.block _ (qbn b33)).trans b33
  have b38x:=(hb7'.block _ (qbn b38)).trans b38
  have bXx:=(hb7'.block _ (qbn bX)).trans bX
  have hr':=(hb7'.block l (Array.getElem?_eq_some_iff.1 hr).1).trans hr
  have hT7:=HT.out.below' (hB.trans (hb7'.mono hB.size))
  have hB7:=hB.trans (hb7'.mono hB.size)
  have hBt:But W3.heap.size (w.heap.size+1) W X7:=But.of_below hb7' hsW
  have hKo:KeepsFrom W3.heap.size W X7:=(qfs hb7').from _
  have hF6n:=hF6
  obtain ⟨out,hout⟩:∃ out,(pre.map (·.1)).foldl (qgy k a0_0 a0_1 l0_2 all) (List.replicate l0_2.length ⟨[]⟩)=out:=⟨_,rfl⟩
  rw [hout] at hNx hAO
  clear hN1 hF1 b24 b33 b38 bX hr hb7' hSt hav hxv hmv hF6
  refine wpIn_block ?_
  refine wpIn_rangeFunc_ownN (w0:=X7) (l₀:=l) (r₀:=r) rfl hr' (by decide) (gf:=76) (lb:=#[.pointer (some ⟨X6.heap.size,0,none⟩)]) rfl trivial (enters_of Tryd.func76 (by kernel_rfl) rfl)
   ((qda.stops _ X6.heap.size (But X7.heap.size (w.heap.size+1)) (But.refl _ _) But.trans A6 c6 m X7 (fun hb h=>(But.of_below hb (Nat.le_refl _)).trans h) hmok (by omega) (fun W' h=>But.tab hT7 (by omega) (by omega) h) (qcu b7 0 rfl) (fun W' h=>Kd.F_now (Kd.F_step hF6n (fun k hk hlt=>h.2 k hlt (by omega))))).inRound l) But.trans (fun W l o o' hl _ _ _=>But.putObj W _ hl) (Below.refl _ _) (fun _=>rfl)
   (fun pre' W'=>((Kd.N k38 38 W' w.heap.size (fun k=>w.heap.size≤k∧IsC W' k) (.slice (some ⟨w.heap.size+1,0,none⟩) l0_2.length l0_2.length) ((pre'.map (·.1)).foldl (qeq k x.1) out)∧W'.heap[w.heap.size]?=some (.cells #[Value.bool a0_0,Value.int IntKind.i64 a0_1,Value.slice A0_2 l0_2.length c0_2] 24 (0,0))∧W'.heap[w.heap.size+1+1]?=some (.cells #[Value.slice (some ⟨w.heap.size+1,0,none⟩) l0_2.length l0_2.length] 33 (0,0))∧W'.heap[W2.heap.size]?=some (.cells #[Value.slice Aa all.length ca] 38 (0,0))∧W'.heap[Bx]?=some (.cells #[.int .i64 x.1] 3 (0,0))∧Kd.F (Kd.int .u64) W' (fun k=>(W1.heap.size≤k∧k<W2.heap.size)∧IsC W' k) Aa all.length all)∧AllOk l0_2.length ((pre'.map (·.1)).foldl (qeq k x.1) out))∧(((Below w.heap.size w W'∧X7.heap.size≤W'.heap.size)∧But W3.heap.size (w.heap.size+1) W W')∧KeepsFrom W3.heap.size W W'))
   (fun _ _ _=>False)
   (OwnFrom.and (Own.from (fun s A B row hs hg hr=>⟨⟨N_rowC hg hr hs.1.1,qez hg hr hs.1.2.1,qez hg hr hs.1.2.2.1,qez hg hr hs.1.2.2.2.1,qez hg hr hs.1.2.2.2.2.1,F_rowC hg hr hs.1.2.2.2.2.2⟩,hs.2⟩) _) (OwnFrom.and (OwnFrom.and (OwnFrom.and (ownFrom_below (Nat.le_refl _) (by omega)) (fun _ _ _ _ hs hg _=>Nat.le_trans hs hg.size)) (ownFrom_but hsW (by omega))) (ownFrom_keepsFrom (by omega))))
   (fun _ _ _ _ _ hs _ _=>hs)
   ⟨⟨⟨hNx,b24x,b33x,b38x,bXx,hFx⟩,hAO⟩,⟨⟨hB7,Nat.le_refl _⟩,hBt⟩,hKo⟩
   (fun y a'' _=>a''={ tmps:=#[Value.agg #[Value.bool a0_0,Value.int IntKind.i64 a0_1,Value.slice A0_2 l0_2.length c0_2],.pointer (some ⟨w.heap.size,0,none⟩),.slice none 0 0,.pointer (some ⟨w.heap.size+1+1,0,none⟩),.pointer (some ⟨W2.heap.size,0,none⟩),.pointer (some ⟨Bx,0,none⟩),.int .i64 y.1,.pointer (some ⟨w.heap.size,2,none⟩),.slice A0_2 l0_2.length c0_2,.int .i64 l0_2.length,.slice (some ⟨w.heap.size+1,0,none⟩) l0_2.length l0_2.length,Value.agg #[Value.bool a0_0,Value.int IntKind.i64 a0_1,Value.slice A0_2 l0_2.length c0_2],.agg #[.slice Aa all.length ca],.agg #[.slice Aa all.length ca],.func (.func 76) #[] #[.pointer (some ⟨W2.heap.size+1,0,none⟩)],.int .i64 x.1,.agg #[.slice Aa all.length ca],Value.agg #[Value.bool a0_0,Value.int IntKind.i64 a0_1,Value.slice A0_2 l0_2.length c0_2],.int .i64 x.1,.slice (some ⟨Wd.heap.size,0,none⟩) 1 1,.agg #[.slice A4 av.length c4],.agg #[.slice A5 xv.length c5],.agg #[.slice A6 m.length c6],.func (.func 76) #[] #[.pointer (some ⟨X6.heap.size,0,none⟩)],.int .i64 y.1,undef,undef,undef,undef,undef,undef,undef,undef,undef,undef],defers:=[] })
   (fun _ _ _ _ _ _ hs _ _=>hs)
   ?assign2 ?body2 ?done2 ?stop2
  case assign2=>
   rintro l2 pre' y W' K hi hK
   gi_wp2
   exact hK _ _ (KeepsFrom.refl _ _) (But.refl _ _ _) hi (by rw [hsd])
  case body2=>
   rintro l2 pre' y a'' W' _ _ ⟨⟨⟨hN2,b24,b33,b38,bX,hF2⟩,hAO2⟩,⟨⟨hB2,hs2⟩,hBt2⟩,hKF2⟩ rfl _
   obtain ⟨hy0,hy1⟩:=hmn y.1 y.2
   obtain ⟨outj,houtj⟩:∃ outj,(pre'.map (·.1)).foldl (qeq k x.1) out=outj:=⟨_,rfl⟩
   rw [houtj] at hN2 hAO2
   obtain ⟨hw1,hw2⟩:=withT_ok hWO (rdOk hAO2 hy0 hy1)
   obtain ⟨cc,hcl,hFK,hcc,hfr⟩:=Kd.N_elem hN2 (⟨[]⟩:S38) y.1 hy0 hy1
   obtain ⟨An,cn,rfl,hcn,hFn⟩:=qfo hFK
   have hxc:=hcc 0 _ rfl
   have hxf:=hfr 0
   obtain ⟨wn,hwn⟩:∃ wn,(qco outj y.1).f0=wn:=⟨_,rfl⟩
   have hwn':(outj.getD y.1.toNat (⟨[]⟩:S38)).f0=wn:=hwn
   rw [hwn'] at hcn hFn hxc hcc
   rw [hwn] at hw1 hw2
   obtain ⟨wx,hwx⟩:∃ wx,withT k wn x.1=wx:=⟨_,rfl⟩
   rw [hwx] at hw1 hw2
   simp only [show k38.sz=1 from rfl,Nat.mul_one,Nat.add_zero] at hxc hxf hcc
   have hSt:∀ Y,Below W'.heap.size W' Y→(Y.cell? ⟨w.heap.size+1+1,0,none⟩=some (.slice (some ⟨w.heap.size+1,0,none⟩) l0_2.length l0_2.length)∧Y.cell? ⟨w.heap.size+1,y.1.toNat,none⟩=some (.slice An wn.length cn)∧Y.cell? ⟨Bx,0,none⟩=some (.int .i64 x.1)):=fun Y hb=>
    ⟨qcu ((hb.block _ (qbn b33)).trans b33) 0 rfl,(World.cell?_of_block (w:=W') (hb.block _ (World.block_lt_of_cell? _ _ hxc))).trans hxc,qcu ((hb.block _ (qbn bX)).trans bX) 0 rfl⟩
   refine wpIn_block ?_
   refine startIn_ (m:=10) (S:=fun Y=>Y.cell? ⟨w.heap.size+1+1,0,none⟩=some (.slice (some ⟨w.heap.size+1,0,none⟩) l0_2.length l0_2.length)∧Y.cell? ⟨w.heap.size+1,y.1.toNat,none⟩=some (.slice An wn.length cn)∧Y.cell? ⟨Bx,0,none⟩=some (.int .i64 x.1)) (ds:=[9]) #[false,false,false,false,false,false,false,false,false,false] (by kernel_rfl) rfl rfl rfl (fun hh=>by obtain ⟨_,_,hh⟩:=hh;exact hh) (hSt _ (qea (Below.refl _ _))) (fun hHeld=>?_);refine qee qbd.tab7 qbd.bits7 (fun HT_ HW_=>?_)
   obtain ⟨Y0,hY0⟩:∃ Y0,W'.drew=Y0:=⟨_,rfl⟩
   have hb0:Below W'.heap.size W' Y0:=by rw [← hY0];exact qea (Below.refl _ _)
   rw [hY0] at hHeld ⊢
   refine take_ (i:=0) (N:=some 25) (v:=?_) (a':=?_) #[true,false,false,false,false,false,false,false,false,false] rfl rfl (qcw HT_.out HW_.out (by kernel_rfl)) (fun _ _ _ h=>h) (Or.inl ⟨by rfl,?_⟩) hHeld ?_ ?_
   rotate_left
   ·rintro w' ⟨s0,s1,s2⟩
    go_simp
    with_reducible rfl
   rotate_left
   ·simp only [Act.put,List.setIfInBounds_toArray,List.set_cons_zero,List.set_cons_succ,qbk,qbm]
    rfl
   refine qct (i:=1) (N:=some 26) (v:=?_) (a':=?_) #[true,true,false,false,false,false,false,false,false,false] rfl rfl (qck HT_.out (by kernel_rfl)) (fun _ _ _ h=>h) (Or.inl ⟨by rfl,?_⟩) ?_ ?_
   rotate_left
   ·intro w'
    go_simp
    with_reducible rfl
   rotate_left
   ·simp only [Act.put,List.setIfInBounds_toArray,List.set_cons_zero,List.set_cons_succ,qbk,qbm]
    rfl
   refine take_ (i:=2) (N:=some 27) (v:=?_) (a':=?_) #[true,true,true,false,false,false,false,false,false,false] rfl rfl (qcw HT_.out HW_.out (by kernel_rfl)) (fun _ _ _ h=>h) (Or.inl ⟨by rfl,?_⟩) hHeld ?_ ?_
   rotate_left
   ·rintro w' ⟨s0,s1,s2⟩
    go_simp
    with_reducible rfl
   rotate_left
   ·simp only [Act.put,List.setIfInBounds_toArray,List.set_cons_zero,List.set_cons_succ,qbk,qbm]
    rfl
   refine qct (i:=3) (N:=some 28) (v:=?_) (a':=?_) #[true,true,true,true,false,false,false,false,false,false] rfl rfl (qck HT_.out (by kernel_rfl)) (fun _ _ _ h=>h) (Or.inl ⟨by rfl,?_⟩) ?_ ?_
   rotate_left
   ·intro w'
    go_simp
    with_reducible rfl
   rotate_left
   ·simp only [Act.put,List.setIfInBounds_toArray,List.set_cons_zero,List.set_cons_succ,qbk,qbm]
    rfl
   refine qct (i:=4) (N:=some 29) (v:=?_) (a':=?_) #[true,true,true,true,true,false,false,false,false,false] rfl rfl (qck HT_.out (by kernel_rfl)) (fun _ _ _ h=>h) (Or.inl ⟨by rfl,?_⟩) ?_ ?_
   rotate_left
   ·intro w'
    go_simp
    with_reducible rfl
   rotate_left
   ·simp only [Act.put,List.setIfInBounds_toArray,List.set_cons_zero,List.set_cons_succ,qbk,qbm]
    rfl
   refine take_ (i:=5) (N:=some 30) (v:=?_) (a':=?_) #[true,true,true,true,true,true,false,false,false,false] rfl rfl (qcw HT_.out HW_.out (by kernel_rfl)) (fun _ _ _ h=>h) (Or.inl ⟨by rfl,?_⟩) hHeld ?_ ?_
   rotate_left
   ·rintro w' ⟨s0,s1,s2⟩
    go_simp
    with_reducible rfl
   rotate_left
   ·simp only [Act.put,List.setIfInBounds_toArray,List.set_cons_zero,List.set_cons_succ,qbk,qbm]
    rfl
   refine take_ (i:=6) (N:=some 31) (v:=?_) (a':=?_) #[true,true,true,true,true,true,true,false,false,false] rfl rfl (qcw HT_.out HW_.out (by kernel_rfl)) (fun _ _ _ h=>h) (Or.inl ⟨by rfl,?_⟩) hHeld ?_ ?_
   rotate_left
   ·rintro w' ⟨s0,s1,s2⟩
    go_simp
    with_reducible rfl
   rotate_left
   ·simp only [Act.put,List.setIfInBounds_toArray,List.set_cons_zero,List.set_cons_succ,qbk,qbm]
    rfl
   refine one_ (i:=7) (N:=some 32) #[true,true,true,true,true,true,true,true,false,false] rfl rfl (qdx HT_.out (by kernel_rfl)) (by decide) (fun K hK=>?_)
   refine qej Tryd.func37 (by kernel_rfl) rfl #[.agg #[.slice An wn.length cn],.int .i64 x.1] (by rfl) rfl rfl (by (try simp only [List.map_toArray,List.map_cons,List.map_nil]);rfl) ?_
   refine (qby.calls k An cn wn x.1 wx Y0 (Kd.C_below (Kd.F_now hFn) hb0) hcn hw1).mono ?_
   rintro e Y1 ⟨v1,rfl,hV1,hb1⟩
   refine ⟨_,rfl,?_⟩
   obtain ⟨A1,c1,rfl⟩:=Kd.V_slice hV1
   have hF1':Kd.F (Kd.int .u64) Y1 (fun k=>Y0.heap.size≤k∧IsC Y1 k) A1 wx.length wx:=qhz (Kd.V_F hV1)
   have hc1:=(Kd.V_reads' hV1).2.1
   have hb1':=hb0.trans (hb1.mono hb0.size)
   have hs0:=hb0.size
   have hsz1':=hb1.size
   clear hV1 hb1 hb0
   refine hK.out _ _ (hSt _ hb1') (fun hHeld=>?_)
   clear hK K
   refine qdt (a':=?_) ?_ ?_
   rotate_left
   ·show Act.put _ (some 32) _=_
    simp only [Act.put,List.setIfInBounds_toArray,List.set_cons_zero,List.set_cons_succ,qbk,qbm]
    rfl
   refine qct (i:=8) (N:=some 33) (v:=?_) (a':=?_) #[true,true,true,true,true,true,true,true,true,false] rfl rfl (qck HT_.out (by kernel_rfl)) (fun _ _ _ h=>h) (Or.inl ⟨by rfl,?_⟩) ?_ ?_
   rotate_left
   ·intro w'
    go_simp
    with_reducible rfl
   rotate_left
   ·simp only [Act.put,List.setIfInBounds_toArray,List.set_cons_zero,List.set_cons_succ,qbk,qbm]
    rfl
   have hcx:=hHeld.2.1
   have hblk:=hb1'.block (w.heap.size+1) (World.block_lt_of_cell? _ _ hxc)
   have hfx:Y1.frozen? ⟨w.heap.size+1,y.1.toNat,none⟩=false:=(World.frozen?_of_block (w:=W') hblk).trans hxf
   refine last_ (i:=9) (N:=none) #[true,true,true,true,true,true,true,true,true,true] rfl rfl (qdx HT_.out (by kernel_rfl)) (by decide) (fun K hK=>?_)
   refine skip_ (w1:=Y1.setCell ⟨w.heap.size+1,y.1.toNat,none⟩ (.slice A1 wx.length c1)) (by rfl) rfl ?_ ?_
   ·go_simp
   refine hK.out _ _ ?_
   clear hK K
   refine qfq (qfd HT_.out (by kernel_rfl)) ?_
   have hNy:=N_belowC hN2 hb1'
   have hFy:=F_belowC hF2 hb1'
   have hcc1:∀ (j:Nat) (u:Value),[Value.slice An wn.length cn][j]?=some u→Y1.cell? ⟨w.heap.size+1,y.1.toNat*k38.sz+j,none⟩=some u:=fun j u hu=>(World.cell?_of_block (w:=W') hblk).trans (by rw [show k38.sz=1 from rfl,Nat.mul_one];exact hcc j u hu)
   have hseg:=Kd.N_seg (seg:=[.slice A1 wx.length c1]) (j:=0) (c:=[.slice An wn.length cn]) (x':=(⟨wx⟩:S38)) (okp:=fun k=>Y0.heap.size≤k∧IsC Y1 k) hNy y.1 hy0 hy1 rfl hcc1 (Nat.le_refl 1) (k38_mkF Y1 _ ⟨wx⟩ hc1 hF1') (fun k hk=>⟨⟨by have:=hB2.size;omega,hk.2⟩,by omega⟩)
   simp only [show k38.sz=1 from rfl,Nat.mul_one,Nat.add_zero,World.setCells] at hseg
   have hne:∀ k,k<w.heap.size+1∨w.heap.size+1<k→(Y1.setCell ⟨w.heap.size+1,y.1.toNat,none⟩ (.slice A1 wx.length c1)).heap[k]?=Y1.heap[k]?:=fun k hk=>Below.heap_setCell _ _ _ _ (by show k≠w.heap.size+1;omega)
   have e2:((pre'++[y]).map (·.1)).foldl (qeq k x.1) out=outj.set y.1.toNat ⟨wx⟩:=by
    rw [List.map_append,List.foldl_append,houtj]
    show qeq k x.1 outj y.1=_
    rw [qeq,hwn,hwx]
   have hBx2:w.heap.size+1<Bx:=by omega
   refine ⟨((qfs hb1').trans (KeepsOthers.setCell _ _ _)).from _,(But.of_below hb1' hs2).trans (But.setCell _ _ _),⟨⟨?_,(hne _ (by omega)).trans ((hb1'.block _ (qbn b24)).trans b24),(hne _ (by omega)).trans ((hb1'.block _ (qbn b33)).trans b33),(hne _ (by omega)).trans ((hb1'.block _ (qbn b38)).trans b38),(hne _ (by omega)).trans ((hb1'.block _ (qbn bX)).trans bX),?_⟩,?_⟩,⟨⟨(hB2.trans (hb1'.mono hB2.size)).setCell (p:=⟨w.heap.size+1,y.1.toNat,none⟩) (show w.heap.size≤w.heap.size+1 by omega) _,by simp;have:=hb1'.size;omega⟩,(hBt2.trans (But.of_below hb1' (by omega))).trans (But.setCell _ _ _)⟩,hKF2.trans (((qfs hb1').trans (KeepsOthers.setCell _ _ _)).from _)⟩
   ·rw [e2]
    exact Kd.N_mono hseg.1 (fun k hk=>⟨hk.1,hk.2.setCell _ _⟩)
   ·exact Kd.F_mono (Kd.F_far hFy (p:=⟨w.heap.size+1,y.1.toNat,none⟩) (fun k hk=>show k≠w.heap.size+1 by omega) _) (fun k hk=>⟨hk.1,hk.2.setCell _ _⟩)
   ·rw [e2]
    have:=domStep_ok hWO hAO2 hy0 hy1
    rwa [qeq,hwn,hwx] at this
  case done2=>
   rintro ys' W' hys ⟨⟨⟨hN2,b24,b33,b38,bX,hF2⟩,hAO2⟩,⟨⟨hB2,hs2⟩,hBt2⟩,hKF2⟩
   gi_wp2
   rw [hys] at hN2 hAO2
   have e1:((pre++[x]).map (·.1)).foldl (qgy k a0_0 a0_1 l0_2 all) (List.replicate l0_2.length ⟨[]⟩)=(els m).foldl (qeq k x.1) out:=by
    rw [List.map_append,List.foldl_append,hout]
    show qgy k a0_0 a0_1 l0_2 all out x.1=_
    rw [qgy,hm]
   refine ⟨hKF2,hBt2,⟨⟨?_,b24,b33,b38,hF2⟩,?_⟩,hB2,by omega⟩
   ·rw [e1];exact hN2
   ·rw [e1];exact hAO2
  case stop2=>
   rintro c pre' W' _ h
   exact h.elim
 case done=>
  rintro D ys W hD hS ⟨⟨⟨hN1,b24,b33,b38,hF1⟩,hAO⟩,hB,hsW⟩ hK
  rw [hS] at hN1
  have c33:W.cell? ⟨w.heap.size+1+1,0,none⟩=some (.slice (some ⟨w.heap.size+1,0,none⟩) l0_2.length l0_2.length):=qcu b33 0 rfl
  gi_wp2
  refine ⟨by simp,.inl ⟨_,_,rfl,run_takeDeferred hK,?_⟩⟩
  have hV:=Kd.N_V (base':=w.heap.size) hN1
  have hgp:=grownBy_putObj' W D (.deferred none)
  refine ⟨_,results_tmp rfl _ _ _,_,rfl,?_,hB.trans (belowK_b (w:=w) (Nat.le_refl _) W D _ _ (by omega) hK rfl rfl)⟩
  exact Kd.V_mono (Kd.V_grown hV hgp (fun k hk e=>by injection e with e;subst e;obtain ⟨c,t,f,hc⟩:=hk.2;rw [hK] at hc;cases hc)) (fun k hk=>hk.1)
 case stop=>
  rintro D c pre W _ _ h _
  exact h.elim
end
end Go.Proofs.YtmfjmbcfaamebaaDoor.X
namespace Go.Proofs.YtmfjmbcfaamebaaDoor.X
open Go.RowKit Go.Proofs.YtmfjmbcfaamebaaDoorW.PrintWords Go.Proofs.YtmfjmbcfaamebaaDoorW.PrintLast Go.Proofs.YtmfjmbcfaamebaaDoorW.PrintMore
attribute [local go_sem] qbs qcb
set_option linter.unusedVariables false
set_option linter.unusedSimpArgs false
def qdw.f (a0:Int):Option (Int):=some (Go.bits .and .i64 (wrap64 (IntKind.u64.wrap ((IntKind.u64.wrap ((IntKind.u64.wrap ((Go.bits .and .u64 (IntKind.u64.wrap (((IntKind.u64.wrap ((Go.bits .and .u64 ((IntKind.u64.wrap ((Go.bits .and .u64 (a0/2) 6148914691236517205)+(Go.bits .and .u64 a0 6148914691236517205)))/4) 3689348814741910323)+(Go.bits .and .u64 (IntKind.u64.wrap ((Go.bits .and .u64 (a0/2) 6148914691236517205)+(Go.bits .and .u64 a0 6148914691236517205))) 3689348814741910323)))/16)+(IntKind.u64.wrap ((Go.bits .and .u64 ((IntKind.u64.wrap ((Go.bits .and .u64 (a0/2) 6148914691236517205)+(Go.bits .and .u64 a0 6148914691236517205)))/4) 3689348814741910323)+(Go.bits .and .u64 (IntKind.u64.wrap ((Go.bits .and .u64 (a0/2) 6148914691236517205)+(Go.bits .and .u64 a0 6148914691236517205))) 3689348814741910323))))) 1085102592571150095)+((Go.bits .and .u64 (IntKind.u64.wrap (((IntKind.u64.wrap ((Go.bits .and .u64 ((IntKind.u64.wrap ((Go.bits .and .u64 (a0/2) 6148914691236517205)+(Go.bits .and .u64 a0 6148914691236517205)))/4) 3689348814741910323)+(Go.bits .and .u64 (IntKind.u64.wrap ((Go.bits .and .u64 (a0/2) 6148914691236517205)+(Go.bits .and .u64 a0 6148914691236517205))) 3689348814741910323)))/16)+(IntKind.u64.wrap ((Go.bits .and .u64 ((IntKind.u64.wrap ((Go.bits .and .u64 (a0/2) 6148914691236517205)+(Go.bits .and .u64 a0 6148914691236517205)))/4) 3689348814741910323)+(Go.bits .and .u64 (IntKind.u64.wrap ((Go.bits .and .u64 (a0/2) 6148914691236517205)+(Go.bits .and .u64 a0 6148914691236517205))) 3689348814741910323))))) 1085102592571150095)/256)))+((IntKind.u64.wrap ((Go.bits .and .u64 (IntKind.u64.wrap (((IntKind.u64.wrap ((Go.bits .and .u64 ((IntKind.u64.wrap ((Go.bits .and .u64 (a0/2) 6148914691236517205)+(Go.bits .and .u64 a0 6148914691236517205)))/4) 3689348814741910323)+(Go.bits .and .u64 (IntKind.u64.wrap ((Go.bits .and .u64 (a0/2) 6148914691236517205)+(Go.bits .and .u64 a0 6148914691236517205))) 3689348814741910323)))/16)+(IntKind.u64.wrap ((Go.bits .and .u64 ((IntKind.u64.wrap ((Go.bits .and .u64 (a0/2) 6148914691236517205)+(Go.bits .and .u64 a0 6148914691236517205)))/4) 3689348814741910323)+(Go.bits .and .u64 (IntKind.u64.wrap ((Go.bits .and .u64 (a0/2) 6148914691236517205)+(Go.bits .and .u64 a0 6148914691236517205))) 3689348814741910323))))) 1085102592571150095)+((Go.bits .and .u64 (IntKind.u64.wrap (((IntKind.u64.wrap ((Go.bits .and .u64 ((IntKind.u64.wrap ((Go.bits .and .u64 (a0/2) 6148914691236517205)+(Go.bits .and .u64 a0 6148914691236517205)))/4) 3689348814741910323)+(Go.bits .and .u64 (IntKind.u64.wrap ((Go.bits .and .u64 (a0/2) 6148914691236517205)+(Go.bits .and .u64 a0 6148914691236517205))) 3689348814741910323)))/16)+(IntKind.u64.wrap ((Go.bits .and .u64 ((IntKind.u64.wrap ((Go.bits .and .u64 (a0/2) 6148914691236517205)+(Go.bits .and .u64 a0 6148914691236517205)))/4) 3689348814741910323)+(Go.bits .and .u64 (IntKind.u64.wrap ((Go.bits .and .u64 (a0/2) 6148914691236517205)+(Go.bits .and .u64 a0 6148914691236517205))) 3689348814741910323))))) 1085102592571150095)/256)))/65536)))+((IntKind.u64.wrap ((IntKind.u64.wrap ((Go.bits .and .u64 (IntKind.u64.wrap (((IntKind.u64.wrap ((Go.bits .and .u64 ((IntKind.u64.wrap ((Go.bits .and .u64 (a0/2) 6148914691236517205)+(Go.bits .and .u64 a0 6148914691236517205)))/4) 3689348814741910323)+(Go.bits .and .u64 (IntKind.u64.wrap ((Go.bits .and .u64 (a0/2) 6148914691236517205)+(Go.bits .and .u64 a0 6148914691236517205))) 3689348814741910323)))/16)+(IntKind.u64.wrap ((Go.bits .and .u64 ((IntKind.u64.wrap ((Go.bits .and .u64 (a0/2) 6148914691236517205)+(Go.bits .and .u64 a0 6148914691236517205)))/4) 3689348814741910323)+(Go.bits .and .u64 (IntKind.u64.wrap ((Go.bits .and .u64 (a0/2) 6148914691236517205)+(Go.bits .and .u64 a0 6148914691236517205))) 3689348814741910323))))) 1085102592571150095)+((Go.bits .and .u64 (IntKind.u64.wrap (((IntKind.u64.wrap ((Go.bits .and .u64 ((IntKind.u64.wrap ((Go.bits .and .u64 (a0/2) 6148914691236517205)+(Go.bits .and .u64 a0 6148914691236517205)))/4) 3689348814741910323)+(Go.bits .and .u64 (IntKind.u64.wrap ((Go.bits .and .u64 (a0/2) 6148914691236517205)+(Go.bits .and .u64 a0 6148914691236517205))) 3689348814741910323)))/16)+(IntKind.u64.wrap ((Go.bits .and .u64 ((IntKind.u64.wrap ((Go.bits .and .u64 (a0/2) 6148914691236517205)+(Go.bits .and .u64 a0 6148914691236517205)))/4) 3689348814741910323)+(Go.bits .and .u64 (IntKind.u64.wrap ((Go.bits .and .u64 (a0/2) 6148914691236517205)+(Go.bits .and .u64 a0 6148914691236517205))) 3689348814741910323))))) 1085102592571150095)/256)))+((IntKind.u64.wrap ((Go.bits .and .u64 (IntKind.u64.wrap (((IntKind.u64.wrap ((Go.bits .and .u64 ((IntKind.u64.wrap ((Go.bits .and .u64 (a0/2) 6148914691236517205)+(Go.bits .and .u64 a0 6148914691236517205)))/4) 3689348814741910323)+(Go.bits .and .u64 (IntKind.u64.wrap ((Go.bits .and .u64 (a0/2) 6148914691236517205)+(Go.bits .and .u64 a0 6148914691236517205))) 3689348814741910323)))/16)+(IntKind.u64.wrap ((Go.bits .and .u64 ((IntKind.u64.wrap ((Go.bits .and .u64 (a0/2) 6148914691236517205)+(Go.bits .and .u64 a0 6148914691236517205)))/4) 3689348814741910323)+(Go.bits .and .u64 (IntKind.u64.wrap ((Go.bits .and .u64 (a0/2) 6148914691236517205)+(Go.bits .and .u64 a0 6148914691236517205))) 3689348814741910323))))) 1085102592571150095)+((Go.bits .and .u64 (IntKind.u64.wrap (((IntKind.u64.wrap ((Go.bits .and .u64 ((IntKind.u64.wrap ((Go.bits .and .u64 (a0/2) 6148914691236517205)+(Go.bits .and .u64 a0 6148914691236517205)))/4) 3689348814741910323)+(Go.bits .and .u64 (IntKind.u64.wrap ((Go.bits .and .u64 (a0/2) 6148914691236517205)+(Go.bits .and .u64 a0 6148914691236517205))) 3689348814741910323)))/16)+(IntKind.u64.wrap ((Go.bits .and .u64 ((IntKind.u64.wrap ((Go.bits .and .u64 (a0/2) 6148914691236517205)+(Go.bits .and .u64 a0 6148914691236517205)))/4) 3689348814741910323)+(Go.bits .and .u64 (IntKind.u64.wrap ((Go.bits .and .u64 (a0/2) 6148914691236517205)+(Go.bits .and .u64 a0 6148914691236517205))) 3689348814741910323))))) 1085102592571150095)/256)))/65536)))/4294967296)))) 127)
set_option maxHeartbeats 8000000 in
set_option maxRecDepth 100000 in
theorem qdw.calls (a0:Int) (r:Int) (w:World) (h:qdw.f a0=some r) :
  Calls Tryd.prog 60 #[.int .u64 a0] w fun e w'=>e=.returned (.int .i64 r)∧qdm w w':=by
 have H:(some (Go.bits .and .i64 (wrap64 (IntKind.u64.wrap ((IntKind.u64.wrap ((IntKind.u64.wrap ((Go.bits .and .u64 (IntKind.u64.wrap (((IntKind.u64.wrap ((Go.bits .and .u64 ((IntKind.u64.wrap ((Go.bits .and .u64 (a0/2) 6148914691236517205)+(Go.bits .and .u64 a0 6148914691236517205)))/4) 3689348814741910323)+(Go.bits .and .u64 (IntKind.u64.wrap ((Go.bits .and .u64 (a0/2) 6148914691236517205)+(Go.bits .and .u64 a0 6148914691236517205))) 3689348814741910323)))/16)+(IntKind.u64.wrap ((Go.bits .and .u64 ((IntKind.u64.wrap ((Go.bits .and .u64 (a0/2) 6148914691236517205)+(Go.bits .and .u64 a0 6148914691236517205)))/4) 3689348814741910323)+(Go.bits .and .u64 (IntKind.u64.wrap ((Go.bits .and .u64 (a0/2) 6148914691236517205)+(Go.bits .and .u64 a0 6148914691236517205))) 3689348814741910323))))) 1085102592571150095)+((Go.bits .and .u64 (IntKind.u64.wrap (((IntKind.u64.wrap ((Go.bits .and .u64 ((IntKind.u64.wrap ((Go.bits .and .u64 (a0/2) 6148914691236517205)+(Go.bits .and .u64 a0 6148914691236517205)))/4) 3689348814741910323)+(Go.bits .and .u64 (IntKind.u64.wrap ((Go.bits .and .u64 (a0/2) 6148914691236517205)+(Go.bits .and .u64 a0 6148914691236517205))) 3689348814741910323)))/16)+(IntKind.u64.wrap ((Go.bits .and .u64 ((IntKind.u64.wrap ((Go.bits .and .u64 (a0/2) 6148914691236517205)+(Go.bits .and .u64 a0 6148914691236517205)))/4) 3689348814741910323)+(Go.bits .and .u64 (IntKind.u64.wrap ((Go.bits .and .u64 (a0/2) 6148914691236517205)+(Go.bits .and .u64 a0 6148914691236517205))) 3689348814741910323))))) 1085102592571150095)/256)))+((IntKind.u64.wrap ((Go.bits .and .u64 (IntKind.u64.wrap (((IntKind.u64.wrap ((Go.bits .and .u64 ((IntKind.u64.wrap ((Go.bits .and .u64 (a0/2) 6148914691236517205)+(Go.bits .and .u64 a0 6148914691236517205)))/4) 3689348814741910323)+(Go.bits .and .u64 (IntKind.u64.wrap ((Go.bits .and .u64 (a0/2) 6148914691236517205)+(Go.bits .and .u64 a0 6148914691236517205))) 3689348814741910323)))/16)+(IntKind.u64.wrap ((Go.bits .and .u64 ((IntKind.u64.wrap ((Go.bits .and .u64 (a0/2) 6148914691236517205)+(Go.bits .and .u64 a0 6148914691236517205)))/4) 3689348814741910323)+(Go.bits .and .u64 (IntKind.u64.wrap ((Go.bits .and .u64 (a0/2) 6148914691236517205)+(Go.bits .and .u64 a0 6148914691236517205))) 3689348814741910323))))) 1085102592571150095)+((Go.bits .and .u64 (IntKind.u64.wrap (((IntKind.u64.wrap ((Go.bits .and .u64 ((IntKind.u64.wrap ((Go.bits .and .u64 (a0/2) 6148914691236517205)+(Go.bits .and .u64 a0 6148914691236517205)))/4) 3689348814741910323)+(Go.bits .and .u64 (IntKind.u64.wrap ((Go.bits .and .u64 (a0/2) 6148914691236517205)+(Go.bits .and .u64 a0 6148914691236517205))) 3689348814741910323)))/16)+(IntKind.u64.wrap ((Go.bits .and .u64 ((IntKind.u64.wrap ((Go.bits .and .u64 (a0/2) 6148914691236517205)+(Go.bits .and .u64 a0 6148914691236517205)))/4) 3689348814741910323)+(Go.bits .and .u64 (IntKind.u64.wrap ((Go.bits .and .u64 (a0/2) 6148914691236517205)+(Go.bits .and .u64 a0 6148914691236517205))) 3689348814741910323))))) 1085102592571150095)/256)))/65536)))+((IntKind.u64.wrap ((IntKind.u64.wrap ((Go.bits .and .u64 (IntKind.u64.wrap (((IntKind.u64.wrap ((Go.bits .and .u64 ((IntKind.u64.wrap ((Go.bits .and .u64 (a0/2) 6148914691236517205)+(Go.bits .and .u64 a0 6148914691236517205)))/4) 3689348814741910323)+(Go.bits .and .u64 (IntKind.u64.wrap ((Go.bits .and .u64 (a0/2) 6148914691236517205)+(Go.bits .and .u64 a0 6148914691236517205))) 3689348814741910323)))/16)+(IntKind.u64.wrap ((Go.bits .and .u64 ((IntKind.u64.wrap ((Go.bits .and .u64 (a0/2) 6148914691236517205)+(Go.bits .and .u64 a0 6148914691236517205)))/4) 3689348814741910323)+(Go.bits .and .u64 (IntKind.u64.wrap ((Go.bits .and .u64 (a0/2) 6148914691236517205)+(Go.bits .and .u64 a0 6148914691236517205))) 3689348814741910323))))) 1085102592571150095)+((Go.bits .and .u64 (IntKind.u64.wrap (((IntKind.u64.wrap ((Go.bits .and .u64 ((IntKind.u64.wrap ((Go.bits .and .u64 (a0/2) 6148914691236517205)+(Go.bits .and .u64 a0 6148914691236517205)))/4) 3689348814741910323)+(Go.bits .and .u64 (IntKind.u64.wrap ((Go.bits .and .u64 (a0/2) 6148914691236517205)+(Go.bits .and .u64 a0 6148914691236517205))) 3689348814741910323)))/16)+(IntKind.u64.wrap ((Go.bits .and .u64 ((IntKind.u64.wrap ((Go.bits .and .u64 (a0/2) 6148914691236517205)+(Go.bits .and .u64 a0 6148914691236517205)))/4) 3689348814741910323)+(Go.bits .and .u64 (IntKind.u64.wrap ((Go.bits .and .u64 (a0/2) 6148914691236517205)+(Go.bits .and .u64 a0 6148914691236517205))) 3689348814741910323))))) 1085102592571150095)/256)))+((IntKind.u64.wrap ((Go.bits .and .u64 (IntKind.u64.wrap (((IntKind.u64.wrap ((Go.bits .and .u64 ((IntKind.u64.wrap ((Go.bits .and .u64 (a0/2) 6148914691236517205)+(Go.bits .and .u64 a0 6148914691236517205)))/4) 3689348814741910323)+(Go.bits .and .u64 (IntKind.u64.wrap ((Go.bits .and .u64 (a0/2) 6148914691236517205)+(Go.bits .and .u64 a0 6148914691236517205))) 3689348814741910323)))/16)+(IntKind.u64.wrap ((Go.bits .and .u64 ((IntKind.u64.wrap ((Go.bits .and .u64 (a0/2) 6148914691236517205)+(Go.bits .and .u64 a0 6148914691236517205)))/4) 3689348814741910323)+(Go.bits .and .u64 (IntKind.u64.wrap ((Go.bits .and .u64 (a0/2) 6148914691236517205)+(Go.bits .and .u64 a0 6148914691236517205))) 3689348814741910323))))) 1085102592571150095)+((Go.bits .and .u64 (IntKind.u64.wrap (((IntKind.u64.wrap ((Go.bits .and .u64 ((IntKind.u64.wrap ((Go.bits .and .u64 (a0/2) 6148914691236517205)+(Go.bits .and .u64 a0 6148914691236517205)))/4) 3689348814741910323)+(Go.bits .and .u64 (IntKind.u64.wrap ((Go.bits .and .u64 (a0/2) 6148914691236517205)+(Go.bits .and .u64 a0 6148914691236517205))) 3689348814741910323)))/16)+(IntKind.u64.wrap ((Go.bits .and .u64 ((IntKind.u64.wrap ((Go.bits .and .u64 (a0/2) 6148914691236517205)+(Go.bits .and .u64 a0 6148914691236517205)))/4) 3689348814741910323)+(Go.bits .and .u64 (IntKind.u64.wrap ((Go.bits .and .u64 (a0/2) 6148914691236517205)+(Go.bits .and .u64 a0 6148914691236517205))) 3689348814741910323))))) 1085102592571150095)/256)))/65536)))/4294967296)))) 127))=some r:=h
 clear h
 obtain rfl:=Option.some.inj H
 go_enter Tryd.func60,Tryd.ntmps60
 go_wp2
 go_ret
 exact ⟨by rfl,by repeat (exact qdm.refl _)⟩
end Go.Proofs.YtmfjmbcfaamebaaDoor.X
namespace Go.Proofs.YtmfjmbcfaamebaaDoor.X
open Go.RowKit Go.Proofs.YtmfjmbcfaamebaaDoorW.PrintWords Go.Proofs.YtmfjmbcfaamebaaDoorW.PrintLast Go.Proofs.YtmfjmbcfaamebaaDoorW.PrintMore
attribute [local go_sem] qbs qcb
set_option linter.unusedVariables false
set_option linter.unusedSimpArgs false
def qbh.l0:Nat→Int→List Int→Int→Int→Option (Int)
 | 0,_,_,_,_=>none
 | k+1,x3,x7,x8,x9=>if x9<x8 then (if 0≤x9 then (if x9<(x7.length:Int) then ((qdw.f (rd x7 x9)).bind fun t216=>(qbh.l0 k (wrap64 (x3+t216)) x7 x8 (wrap64 (x9+1)))) else (none)) else (none)) else (some x3)
def qbh.f (k:Nat) (l0_0:List Int):Option (Int):=qbh.l0 k 0 l0_0 (l0_0.length:Int) 0
theorem qbh.mono_l:∀ k,(∀ y0 y1 y2 y3,LeO (qbh.l0 k y0 y1 y2 y3) (qbh.l0 (k+1) y0 y1 y2 y3))
 | 0=>fun _ _ _ _ r h=>by simp [qbh.l0] at h
 | k+1=>by
  have ih0:=qbh.mono_l k
  ·intro y0 y1 y2 y3
   unfold qbh.l0
   repeat' first|(with_reducible exact ih0 _ _ _ _)|(with_reducible exact LeO.refl _)|(with_reducible refine LeO.ite ?_ ?_)|(with_reducible refine LeO.bind ?_ (fun _=>?_))
theorem qbh.mono:∀ a0 k,LeO (qbh.f k a0) (qbh.f (k+1) a0):=by
 intro a0 k
 have ih0:=qbh.mono_l k
 unfold qbh.f
 repeat' (with_reducible exact ih0 _ _ _ _)
set_option maxHeartbeats 8000000 in
set_option maxRecDepth 100000 in
theorem qbh.calls (k:Nat) (A0_0:Option Addr) (c0_0:Nat) (l0_0:List Int) (r:Int) (w:World) (hr0_0:Kd.C (Kd.int .u64) w A0_0 l0_0.length l0_0) (hc0_0:l0_0.length≤c0_0) (h:qbh.f k l0_0=some r) :
  Calls Tryd.prog 31 #[.agg #[.slice A0_0 l0_0.length c0_0]] w fun e w'=>e=.returned (.int .i64 r)∧Below w.heap.size w w':=by
 have hu38:=Tryd.underlying38
 have HR0_0:=qaa.mk hr0_0
 have HC0_0:=qaa.mk hc0_0
 clear hr0_0 hc0_0
 have HB:=qaa.mk (Below.refl w.heap.size w)
 have H:(qbh.l0 k 0 l0_0 (l0_0.length:Int) 0)=some r:=h
 clear h
 have H':=qaa.mk H
 clear H
 go_enter Tryd.func31,Tryd.ntmps31
 go_wp2_with (((with_reducible refine qbf (N:=1) rfl ?_);refine qbr ?hg (N:=1) ?hd (cs:=#[.slice A0_0 l0_0.length c0_0]) (t:=38) ?hr ?_;(case hd=>rfl);(case hg=>rfl);(case hr=>(go_simp;done));intro gb214 hg w2 hbox hb;have BK214:=qaa.mk (hbox);have GW214:=qaa.mk ((by rw [hg];exact (qac HB.out):w.heap.size≤gb214));have GE214:=qaa.mk ((by rw [hg];exact (qac HB.out):w.heap.size≤gb214));replace HB:=qaa.mk (qal HB.out hb);clear hb hbox hg;have hcz3_0:w2.cell? ⟨gb214,0,none⟩=some (.slice A0_0 l0_0.length c0_0):=(qad BK214.out 0).trans rfl;have hfz3_0:=qaf BK214.out 0))
 go_loopg [3,9] k (fun kq v3 v9 w'=>∃ (x3_1:Int) (x9_1:Int),v3=.int .i64 x3_1∧v9=.int .i64 x9_1∧qaa (qbh.l0 kq x3_1 l0_0 (l0_0.length:Int) x9_1=some r)∧qaa (kq≤k)∧qaa (w'.heap[gb214]?=some (.cells #[(.slice A0_0 l0_0.length c0_0)] 38 (0,0)))∧qaa (Below w.heap.size w w'))
 case atStart=>exact ⟨(0),(0),(by rfl),(by rfl),H',⟨Nat.le_refl _⟩,⟨by (with_reducible repeat (refine qab ?_));exact BK214.out⟩,⟨by repeat ((with_reducible exact HB.out))⟩⟩
 case round=>
  clear H'
  try clear hcz3_0
  try clear hfz3_0
  obtain ⟨x3_1,x9_1,rfl,rfl,HA,HK1,BK214,HB⟩:=hrel
  cases gk with
  | zero=>exact absurd HA.out (by simp [qbh.l0])
  | succ k1=>
   have H:=HA.out
   clear HA
   simp only [qbh.l0] at H
   by_cases c4:x9_1<(l0_0.length:Int)
   ·rw [if_pos c4] at H
    have c4b0:decide (x9_1<(l0_0.length:Int))=true:=decide_eq_true c4
    clear c4
    by_cases c5:0≤x9_1
    ·rw [if_pos c5] at H
     have c5b0:decide (0≤x9_1)=true:=decide_eq_true c5
     clear c5
     by_cases c6:x9_1<(l0_0.length:Int)
     ·rw [if_pos c6] at H
      have c6b0:decide (x9_1<(l0_0.length:Int))=true:=decide_eq_true c6
      clear c6
      replace H:=Option.bind_eq_some_iff.mp H
      obtain ⟨t216,A70,H⟩:=H
      replace H:(qbh.l0 k1 (wrap64 (x3_1+t216)) l0_0 (l0_0.length:Int) (wrap64 (x9_1+1)))=some r:=H
      have A7:=qaa.mk A70
      clear A70
      have H':=qaa.mk H
      clear H
      have p215:0≤(x9_1:Int):=of_decide_eq_true (by (with_reducible assumption))
      have q215:x9_1<(l0_0.length:Int):=of_decide_eq_true (by (with_reducible assumption))
      obtain ⟨ad215,e215,hx215_0⟩:=Kd.at_int HR0_0.out x9_1 p215 q215
      cases e215
      replace hx215_0:=(HB.out.cell (World.block_lt_of_cell? w _ hx215_0)).trans hx215_0
      replace p215:=eq_true p215
      replace q215:=eq_true q215
      go_wp2_with (((with_reducible refine qbb (f:=60) rfl ?_);refine qcv (some 15) rfl rfl Tryd.func60 (by kernel_rfl) rfl #[.int .u64 (rd l0_0 x9_1)] rfl (by (try simp only [List.map_toArray,List.map_cons,List.map_nil]);rfl) ?_;(with_reducible refine (qdw.calls (rd l0_0 x9_1) t216 _ A7.out).mono ?_);rintro e w' ⟨rfl,⟨nd,rfl⟩⟩;refine ⟨_,rfl,?_⟩))
      go_roundg k1
      case measure=>have:=HK1.out;omega
      case rel=>exact ⟨(wrap64 (x3_1+t216)),(wrap64 (x9_1+1)),(by rfl),(by rfl),H',⟨by have:=HK1.out;omega⟩,⟨by (with_reducible repeat (refine qde ?_ _));exact BK214.out⟩,⟨by repeat ((with_reducible first|exact HB.out|apply qav))⟩⟩
     ·rw [if_neg c6] at H
      exact absurd H (by simp)
    ·rw [if_neg c5] at H
     exact absurd H (by simp)
   ·rw [if_neg c4] at H
    have c4b0:decide (x9_1<(l0_0.length:Int))=false:=decide_eq_false c4
    clear c4
    obtain rfl:=Option.some.inj H
    go_wp2
    go_ret
    exact ⟨by rfl,by repeat ((with_reducible exact HB.out))⟩
end Go.Proofs.YtmfjmbcfaamebaaDoor.X
namespace Go.Proofs.YtmfjmbcfaamebaaDoor.X
open Go.RowKit Go.Proofs.YtmfjmbcfaamebaaDoorW.PrintWords Go.Proofs.YtmfjmbcfaamebaaDoorW.PrintLast Go.Proofs.YtmfjmbcfaamebaaDoorW.PrintMore
attribute [local go_sem] qbs qcb
set_option linter.unusedVariables false
set_option linter.unusedSimpArgs false
def qci.f (k:Nat) (l0_0:List Int) (a1:Int):Option (List Int):=(qax.f k (([a1]:List Int))).bind fun t222=>((qca.f k l0_0 t222).bind fun t225=>(some t225))
theorem qci.mono:∀ a0 a1 k,LeO (qci.f k a0 a1) (qci.f (k+1) a0 a1):=by
 intro a0 a1 k
 unfold qci.f
 repeat' first|(with_reducible exact qax.mono _ _)|(with_reducible exact qca.mono _ _ _)|(with_reducible exact LeO.refl _)|(with_reducible refine LeO.bind ?_ (fun _=>?_))
set_option maxHeartbeats 8000000 in
set_option maxRecDepth 100000 in
theorem qci.calls (k:Nat) (A0_0:Option Addr) (c0_0:Nat) (l0_0:List Int) (a1:Int) (r:List Int) (w:World) (hr0_0:Kd.C (Kd.int .u64) w A0_0 l0_0.length l0_0) (hc0_0:l0_0.length≤c0_0) (h:qci.f k l0_0 a1=some r) :
  Calls Tryd.prog 57 #[.agg #[.slice A0_0 l0_0.length c0_0],.int .i64 a1] w fun e w'=>∃ v0_:Value,e=.returned (.agg #[v0_])∧Kd.V (Kd.int .u64) 77 w' w.heap.size (fun k_=>(w.heap.size≤k_)) v0_ r∧Below w.heap.size w w':=by
 have hu38:=Tryd.underlying38
 have HR0_0:=qaa.mk hr0_0
 have HC0_0:=qaa.mk hc0_0
 clear hr0_0 hc0_0
 have HB:=qaa.mk (Below.refl w.heap.size w)
 have H:((qax.f k (([a1]:List Int))).bind fun t222=>((qca.f k l0_0 t222).bind fun t225=>(some t225)))=some r:=h
 clear h
 obtain ⟨y219,hy219⟩:∃ y_:List Int,y_=(([a1]:List Int)):=⟨_,rfl⟩
 replace H:((qax.f k y219).bind fun t222=>((qca.f k l0_0 t222).bind fun t225=>(some t225)))=some r:=by (rw [hy219];with_reducible exact H)
 have Ny219:=qaa.mk hy219
 clear hy219
 replace H:=Option.bind_eq_some_iff.mp H
 obtain ⟨t222,A30,H⟩:=H
 replace H:((qca.f k l0_0 t222).bind fun t225=>(some t225))=some r:=H
 have A3:=qaa.mk A30
 clear A30
 replace H:=Option.bind_eq_some_iff.mp H
 obtain ⟨t225,A40,H⟩:=H
 replace H:(some t225)=some r:=H
 have A4:=qaa.mk A40
 clear A40
 obtain rfl:=Option.some.inj H
 go_enter Tryd.func57,Tryd.ntmps57
 try go_wp2_with (first|((with_reducible refine qbf (N:=2) rfl ?_);refine qbr ?hg (N:=2) ?hd (cs:=#[.slice A0_0 l0_0.length c0_0]) (t:=38) ?hr ?_;(case hd=>rfl);(case hg=>rfl);(case hr=>(go_simp;done));intro gb217 hg w5 hbox hb;have BK217:=qaa.mk (hbox);have GW217:=qaa.mk ((by rw [hg];exact (qac HB.out):w.heap.size≤gb217));have GE217:=qaa.mk ((by rw [hg];exact (qac HB.out):w.heap.size≤gb217));replace HB:=qaa.mk (qal HB.out hb);clear hb hbox hg)|((with_reducible refine qbf (N:=4) rfl ?_);refine qbr ?hg (N:=4) ?hd (cs:=#[.slice none 0 0]) (t:=38) ?hr ?_;(case hd=>rfl);(case hg=>rfl);(case hr=>(go_simp;done));intro gb218 hg w6 hbox hb;have BK218:=qaa.mk (hbox);have GW218:=qaa.mk ((by rw [hg];exact (qac HB.out):w.heap.size≤gb218));have GE218:=qaa.mk ((by rw [hg];exact (qac HB.out):w.heap.size≤gb218));replace HB:=qaa.mk (qal HB.out hb);have NB217_218:=qaa.mk ((by rw [hg];exact Nat.ne_of_lt (qbn (g:=gb217) (o:=.cells #[.slice A0_0 l0_0.length c0_0] 38 (0,0)) (by (with_reducible repeat (refine qab ?_));exact BK217.out)):gb217≠gb218));have NB218_217:=qaa.mk ((by rw [hg];exact Nat.ne_of_gt (qbn (g:=gb217) (o:=.cells #[.slice A0_0 l0_0.length c0_0] 38 (0,0)) (by (with_reducible repeat (refine qab ?_));exact BK217.out)):gb218≠gb217));replace BK217:=qaa.mk (qah (g:=gb217) (o:=.cells #[.slice A0_0 l0_0.length c0_0] 38 (0,0)) (by (with_reducible repeat (refine qab ?_));exact BK217.out) hb);clear hb hbox hg))
 have n0_:=qaa.mk (qab BK217.out)
 have n1_:=qaa.mk (qab BK218.out)
 have n2_:=qaa.mk (qdb HB.out)
 clear BK217
 clear BK218
 clear HB
 have BK217:=n0_
 have BK218:=n1_
 have HB:=n2_
 clear n0_ n1_ n2_
 refine qfb (n:=6) (S:=fun w'=>w'.cell? ⟨gb217,0,none⟩=some (.slice A0_0 l0_0.length c0_0)) (ds:=[]) #[false,false,false,false,false,false] (by kernel_rfl) rfl rfl ((qad BK217.out 0).trans rfl) (fun hHeld=>?_)
 generalize w6.drew=w7 at BK217 BK218 HB hHeld ⊢
 refine qct (i:=1) (N:=some 6) (v:=?_) (a':=?_) #[false,true,false,false,false,false] rfl rfl (by kernel_rfl) (fun _ _ _ h=>h) (Or.inl ⟨by rfl,?_⟩) ?_ ?_
 rotate_left
 ·intro w'
  go_simp
  with_reducible rfl
 rotate_left
 ·simp only [Act.put,List.setIfInBounds_toArray,List.set_cons_zero,List.set_cons_succ,qbk,qbm]
  rfl
 refine take_ (i:=0) (N:=some 5) (v:=?_) (a':=?_) #[true,true,false,false,false,false] rfl rfl (by kernel_rfl) (fun _ _ _ h=>h) (Or.inl ⟨by rfl,?_⟩) hHeld ?_ ?_
 rotate_left
 ·intro w' s0
  go_simp
  with_reducible rfl
 rotate_left
 ·simp only [Act.put,List.setIfInBounds_toArray,List.set_cons_zero,List.set_cons_succ,qbk,qbm]
  rfl
 refine one_ (i:=2) (N:=some 7) #[true,true,true,false,false,false] rfl rfl (by kernel_rfl) (by decide) (fun K hK=>?_)
 refine Kd.R_lit_step (Kd.int .i64) _ 3 ?hg (N:=7) ?hd (xs:=([a1]:List Int)) (inner:=[.int .i64 a1]) (ok:=fun _=>True) (okp:=fun _=>True) ?hr ?hp (fun _ hk=>hk) trivial (Below.refl _ _) (Nat.le_refl _) (by simp) ?_;(case hd=>rfl);(case hg=>rfl);(case hr=>(go_simp;done));(case hp=>exact (Reps.one (show Kd.M (Kd.int .i64) _ _ _ a1 [.int .i64 a1] from rfl) (Reps.none _ _)))
 intro v220 w8 ho9 hb hg_ hnew_
 clear hg_ hnew_
 (rw [← Ny219.out] at ho9)
 have n0_:=qaa.mk (Kd.R_lower (Kd.R_newM (M:=fun k_=>(w.heap.size≤k_)) ho9 (qac HB.out) (fun k_ h_=>h_)) (qac HB.out))
 have n1_:=qaa.mk (qah (g:=gb217) (o:=.cells #[.slice A0_0 l0_0.length c0_0] 38 (0,0)) (by (with_reducible repeat (refine qab ?_));exact BK217.out) hb)
 have n2_:=qaa.mk (qah (g:=gb218) (o:=.cells #[.slice none 0 0] 38 (0,0)) (by (with_reducible repeat (refine qab ?_));exact BK218.out) hb)
 have n3_:=qaa.mk (qal HB.out hb)
 clear BK217
 clear BK218
 clear HB
 have HO221:=n0_
 have BK217:=n1_
 have BK218:=n2_
 have HB:=n3_
 clear n0_ n1_ n2_ n3_
 clear hb ho9
 obtain ⟨Ao10,co10,eo10⟩:=Kd.R_slice HO221.out
 (subst eo10)
 refine hK.out _ _ ((qad BK217.out 0).trans rfl) (fun hHeld=>?_)
 clear hK K
 refine qdt (a':=?_) ?_ ?_
 rotate_left
 ·show Act.put _ (some 7) _=_
  simp only [Act.put,List.setIfInBounds_toArray,List.set_cons_zero,List.set_cons_succ,qbk,qbm]
  rfl
 refine one_ (i:=3) (N:=some 8) #[true,true,true,true,false,false] rfl rfl (by kernel_rfl) (by decide) (fun K hK=>?_)
 refine qej Tryd.func34 (by kernel_rfl) rfl #[.slice Ao10 y219.length co10] (by rfl) rfl rfl (by (try simp only [List.map_toArray,List.map_cons,List.map_nil]);rfl) ?_
 with_reducible refine (qax.calls k _ _ y219 t222 _ ?side1 ?side2 A3.out).mono ?_
 (case side1=>repeat (exact (Kd.R_reads' HO221.out).2.2))
 (case side2=>exact (Kd.R_reads' HO221.out).2.1)
 rintro e w11 ⟨v223,rfl,ho0,hb⟩
 refine ⟨_,rfl,?_⟩
 have n0_:=qaa.mk (Kd.R_below (by (with_reducible repeat (apply Kd.R_drew));exact HO221.out) hb)
 have n1_:=qaa.mk (Kd.V_lower (Kd.V_mono (ok':=fun k_=>(w.heap.size≤k_)∧some k_≠(.slice Ao10 y219.length co10:Value).ownBlock∧k_≠gb217∧k_≠gb218) ho0 (fun k_ hk_=>⟨(Nat.le_trans (qac HB.out) hk_),(Kd.fresh' (Kd.R_lt (by (with_reducible repeat (apply Kd.R_drew));exact HO221.out)) k_ hk_),(Kd.freshB (g:=gb217) (o:=.cells #[.slice A0_0 l0_0.length c0_0] 38 (0,0)) (by (with_reducible repeat (refine qab ?_));exact BK217.out) k_ hk_),(Kd.freshB (g:=gb218) (o:=.cells #[.slice none 0 0] 38 (0,0)) (by (with_reducible repeat (refine qab ?_));exact BK218.out) k_ hk_)⟩)) (qac HB.out))
 have n2_:=qaa.mk (qah (g:=gb217) (o:=.cells #[.slice A0_0 l0_0.length c0_0] 38 (0,0)) (by (with_reducible repeat (refine qab ?_));exact BK217.out) hb)
 have n3_:=qaa.mk (qah (g:=gb218) (o:=.cells #[.slice none 0 0] 38 (0,0)) (by (with_reducible repeat (refine qab ?_));exact BK218.out) hb)
 have n4_:=qaa.mk (qal HB.out hb)
 clear HO221
 clear BK217
 clear BK218
 clear HB
 have HO221:=n0_
 have HO224:=n1_
 have BK217:=n2_
 have BK218:=n3_
 have HB:=n4_
 clear n0_ n1_ n2_ n3_ n4_
 (try clear hb)
 (try clear ho0)
 obtain ⟨Ao12,co12,eo12⟩:=Kd.V_slice HO224.out
 (subst eo12)
 refine hK.out _ _ ((qad BK217.out 0).trans rfl) (fun hHeld=>?_)
 clear hK K
 refine qdt (a':=?_) ?_ ?_
 rotate_left
 ·show Act.put _ (some 8) _=_
  simp only [Act.put,List.setIfInBounds_toArray,List.set_cons_zero,List.set_cons_succ,qbk,qbm]
  rfl
 refine one_ (i:=4) (N:=some 9) #[true,true,true,true,true,false] rfl rfl (by kernel_rfl) (by decide) (fun K hK=>?_)
 refine qej Tryd.func53 (by kernel_rfl) rfl #[.agg #[.slice A0_0 l0_0.length c0_0],.agg #[.slice Ao12 t222.length co12]] (by rfl) rfl rfl (by (try simp only [List.map_toArray,List.map_cons,List.map_nil]);rfl) ?_
 with_reducible refine (qca.calls k _ _ l0_0 _ _ t222 t225 _ ?side1 ?side2 ?side3 ?side4 A4.out).mono ?_
 (case side1=>repeat (exact (Kd.C_below HR0_0.out HB.out)))
 (case side2=>exact HC0_0.out)
 (case side3=>repeat (exact (Kd.V_reads' HO224.out).2.2))
 (case side4=>exact (Kd.V_reads' HO224.out).2.1)
 rintro e w13 ⟨v226,rfl,ho0,hb⟩
 refine ⟨_,rfl,?_⟩
 have n0_:=qaa.mk (Kd.R_below (by (with_reducible repeat (apply Kd.R_drew));exact HO221.out) hb)
 have n1_:=qaa.mk (Kd.V_below (by (with_reducible repeat (apply Kd.V_drew));exact HO224.out) hb)
 have n2_:=qaa.mk (Kd.V_lower (Kd.V_mono (ok':=fun k_=>(w.heap.size≤k_)∧some k_≠(.slice Ao10 y219.length co10:Value).ownBlock∧k_≠gb217∧k_≠gb218) ho0 (fun k_ hk_=>⟨(Nat.le_trans (qac HB.out) hk_),(Kd.fresh' (Kd.R_lt (by (with_reducible repeat (apply Kd.R_drew));exact HO221.out)) k_ hk_),(Kd.freshB (g:=gb217) (o:=.cells #[.slice A0_0 l0_0.length c0_0] 38 (0,0)) (by (with_reducible repeat (refine qab ?_));exact BK217.out) k_ hk_),(Kd.freshB (g:=gb218) (o:=.cells #[.slice none 0 0] 38 (0,0)) (by (with_reducible repeat (refine qab ?_));exact BK218.out) k_ hk_)⟩)) (qac HB.out))
 have n3_:=qaa.mk (qah (g:=gb217) (o:=.cells #[.slice A0_0 l0_0.length c0_0] 38 (0,0)) (by (with_reducible repeat (refine qab ?_));exact BK217.out) hb)
 have n4_:=qaa.mk (qah (g:=gb218) (o:=.cells #[.slice none 0 0] 38 (0,0)) (by (with_reducible repeat (refine qab ?_));exact BK218.out) hb)
 have n5_:=qaa.mk (qal HB.out hb)
 clear HO221
 clear HO224
 clear BK217
 clear BK218
 clear HB
 have HO221:=n0_
 have HO224:=n1_
 have HO227:=n2_
 have BK217:=n3_
 have BK218:=n4_
 have HB:=n5_
 clear n0_ n1_ n2_ n3_ n4_ n5_
 (try clear hb)
 (try clear ho0)
 obtain ⟨Ao14,co14,eo14⟩:=Kd.V_slice HO227.out
 (subst eo14)
 refine hK.out _ _ ((qad BK217.out 0).trans rfl) (fun hHeld=>?_)
 clear hK K
 refine qdt (a':=?_) ?_ ?_
 rotate_left
 ·show Act.put _ (some 9) _=_
  simp only [Act.put,List.setIfInBounds_toArray,List.set_cons_zero,List.set_cons_succ,qbk,qbm]
  rfl
 refine one_ (i:=5) (N:=none) #[true,true,true,true,true,true] rfl rfl (by kernel_rfl) (by decide) (fun K hK=>?_)
 have hs15:w13.cell? ⟨gb218,0,none⟩=some (.slice none 0 0):=(qad BK218.out 0).trans rfl
 have hfs15:=qaf BK218.out 0
 have hns15_0:=NB217_218.out
 have hms15_0:=NB218_217.out
 refine skip_ (w1:=?_) (by rfl) rfl ?_ ?_
 rotate_left
 ·go_simp
  rfl
 refine hK.out _ _ (((cell_far (p:=⟨gb218,_,none⟩) NB217_218.out _).trans (hHeld))) (fun hHeld=>?_)
 clear hK K
 refine qfq (by kernel_rfl) ?_
 try go_wp2
 refine bodyPost_ret (results_cell_row rfl _ _ gb218 38 #[.slice Ao14 t225.length co14] (0,0) _ rfl (by (with_reducible repeat (refine qab ?_));refine qcs (cs:=#[.slice none 0 0]) ?_ 0 _ rfl;(with_reducible repeat (refine qab ?_));exact BK218.out) Tryd.underlying38 rfl (by kernel_rfl)) rfl ?_
 exact ⟨_,by rfl,by (with_reducible repeat (apply Kd.V_drew));exact Kd.V_mono (Kd.V_far (p:=⟨gb218,0,none⟩) (Kd.V_mono HO227.out (fun k_ hk=>(⟨hk,hk.2.2.2⟩:_∧k_≠gb218))) (fun _ hk=>hk.2) (.slice Ao14 t225.length co14)) (fun _ hk=>hk.1.1),by repeat ((with_reducible first|exact HB.out|refine qbx ?_ GE218.out))⟩
end Go.Proofs.YtmfjmbcfaamebaaDoor.X
namespace Go.Proofs.YtmfjmbcfaamebaaDoor.X
noncomputable section
open Go.RowKit Go.Proofs.YtmfjmbcfaamebaaDoorW.PrintWords Go.Proofs.YtmfjmbcfaamebaaDoorW.PrintLast Go.Proofs.YtmfjmbcfaamebaaDoorW.PrintMore
attribute [local go_sem] qbs qcb
set_option linter.unusedVariables false
set_option linter.unusedSimpArgs false
def qbg.T7:Bool×List (List Nat×List Nat):=(true,[([],[]),([],[]),([0,1],[0,1]),([2],[2]),([],[]),([3,4],[3,4]),([5,5],[5])])
def qbg.B7:List Nat:=[0,0,3,7,0,31,63]
theorem qbg.tab7:rtab .any (opsOf Tryd.f24 7)=qbg.T7:=by kernel_rfl
theorem qbg.bits7:qeu qbg.T7.2 qbg.B7=true:=by kernel_rfl
def qbg.T9:Bool×List (List Nat×List Nat):=(true,[([],[]),([],[]),([0,1],[0,1]),([2],[2]),([3],[3]),([],[]),([],[]),([5,6],[5,6]),([7],[7]),([8,4],[8]),([9],[9]),([4,10],[4,10])])
def qbg.B9:List Nat:=[0,0,3,7,15,0,0,96,224,511,1023,2047]
theorem qbg.tab9:rtab .any (opsOf Tryd.f24 9)=qbg.T9:=by kernel_rfl
theorem qbg.bits9:qeu qbg.T9.2 qbg.B9=true:=by kernel_rfl
open Go.Shelf
attribute [local go_sem] Oper.semAt_some
def lenT (k:Nat) (ws:List Int):Int:=(qbh.f k ws).getD 0
def qgx (k:Nat) (dom:List S38) (n:Int):List Int:=(qci.f k (qco dom n).f0 n).getD []
def qgq (k:Nat) (dom:List S38) (n o d:Int):Int:=if lenT k (qco dom d).f0=wrap64 (lenT k (qco dom n).f0-1) then d else o
def immAt (k:Nat) (dom:List S38) (n:Nat):Int:=(els (qgx k dom n)).foldl (qgq k dom n) (-1)
def Imm (a:Bool) (b:Int) (l:List S60) (r:List Int):Prop:=
 ∃ k dom,qbd.f a b l=some dom∧dom.length=l.length∧l.length≤4398046511104∧(∀ n:Nat,n<l.length→qci.f k (qco dom n).f0 n=some (qgx k dom n)∧setOk (qgx k dom n)=true∧∀ d∈els (qgx k dom n),0≤d∧d<(l.length:Int))∧
  (∀ d:Int,0≤d→d<(l.length:Int)→qbh.f k (qco dom d).f0=some (lenT k (qco dom d).f0))∧r=(List.range l.length).map (immAt k dom)
open Classical in
noncomputable def qbg.f (a:Bool) (b:Int) (l:List S60):Option (List Int):=if h:∃ r,Imm a b l r then some h.choose else none
theorem qbg.spec {a:Bool} {b:Int} {l:List S60} {r:List Int} (h:qbg.f a b l=some r):Imm a b l r:=by
 unfold qbg.f at h
 split at h
 ·rename_i hx
  injection h with h
  rw [← h]
  exact hx.choose_spec
 ·cases h
def qfw (k:Nat) (dom:List S38) (n i:Nat):List Int:=(List.range i).map (immAt k dom)++List.replicate (n-i) 0
theorem immRow_step {k n i:Nat} {dom:List S38} (h:i<n):(qfw k dom n i).set i (immAt k dom i)=qfw k dom n (i+1):=by
 unfold qfw
 rw [List.set_append_right _ _ (by simp),List.length_map,List.length_range,Nat.sub_self,List.range_succ,List.map_append,List.append_assoc]
 congr 1
 obtain ⟨m,hm⟩:∃ m,n-i=m+1:=⟨n-i-1,by omega⟩
 rw [hm,show n-(i+1)=m by omega]
 rfl
set_option maxRecDepth 100000 in
set_option maxHeartbeats 8000000 in
theorem qbg.calls (a0_0:Bool) (a0_1:Int) (A0_2:Option Addr) (c0_2:Nat) (l0_2:List (S60)) (r:List Int) (w:World) (hT:TabW w) (hr0_2:Kd.C k60 w A0_2 l0_2.length l0_2) (hc0_2:l0_2.length≤c0_2) (h:qbg.f a0_0 a0_1 l0_2=some r) :
  Calls Tryd.prog 24 #[.agg #[.bool a0_0,.int .i64 a0_1,.slice A0_2 l0_2.length c0_2]] w fun e w'=>∃ v0_:Value,e=.returned v0_∧Kd.R (Kd.int .i64) 3 w' w.heap.size (fun _=>True) v0_ r∧Below w.heap.size w w':=by
 have hu24:=Tryd.underlying24
 have hu38:=Tryd.underlying38
 obtain ⟨k,dom,hdom,hdl,hlen,hW,hL,rfl⟩:=qbg.spec h
 clear h
 have HT:=qaa.mk hT
 have HW:=qaa.mk hW
 have HLn:=qaa.mk hL
 have HCD:=qaa.mk (fun W (hW:Below w.heap.size w W)=>qbd.calls a0_0 a0_1 A0_2 c0_2 l0_2 dom W (hT.below' hW) (Kd.C_below hr0_2 hW) hc0_2 hdom)
 have HDL:=qaa.mk hdl
 clear hr0_2 hT hW hL hdom hdl
 have hmk:=qgr (P:=Tryd.prog) 31 3 (.int .i64 0) 8 Tryd.underlying31 qfe rfl (by decide) l0_2.length (by omega)
 refine (callsIn_wide (n:=9)).1 ?_
 refine callsIn_of_wp_marks Tryd.func24 rfl trivial ?_ rfl
 simp only [Tryd.ntmps24,List.size_toArray,List.length_cons,List.length_nil,Nat.reduceAdd,Nat.reduceSub,Array.replicate_succ,Array.replicate_zero,List.push_toArray,List.append_toArray,List.nil_append,List.cons_append]
 gi_wp2
 refine ⟨trivial,?_⟩
 obtain ⟨W1,hW1⟩:∃ W1,((w.alloc (Obj.cells #[Value.bool a0_0,Value.int IntKind.i64 a0_1,Value.slice A0_2 l0_2.length c0_2] 24)).alloc (Obj.cells (madeCells #[Value.int IntKind.i64 0] l0_2.length) 3)).alloc (Obj.cells #[Value.slice (some ⟨w.heap.size+1,0,none⟩) l0_2.length l0_2.length] 31)=W1:=⟨_,rfl⟩
 have hsz1:W1.heap.size=w.heap.size+3:=by rw [← hW1];simp
 have hB1:Below w.heap.size w W1:=by rw [← hW1];exact (((Below.refl _ w).alloc (Nat.le_refl _) _).alloc (by simp) _).alloc (by simp;omega) _
 have b31:W1.heap[w.heap.size+1+1]?=some (.cells #[.slice (some ⟨w.heap.size+1,0,none⟩) l0_2.length l0_2.length] 31 (0,0)):=by rw [← hW1];have:=World.alloc_heap_new ((w.alloc (Obj.cells #[Value.bool a0_0,Value.int IntKind.i64 a0_1,Value.slice A0_2 l0_2.length c0_2] 24)).alloc (Obj.cells (madeCells #[Value.int IntKind.i64 0] l0_2.length) 3)) (Obj.cells #[Value.slice (some ⟨w.heap.size+1,0,none⟩) l0_2.length l0_2.length] 31);rw [World.size_alloc,World.size_alloc] at this;exact this
 have hR:Kd.R (Kd.int .i64) 3 W1 w.heap.size (fun k=>k=w.heap.size+1) (.slice (some ⟨w.heap.size+1,0,none⟩) l0_2.length l0_2.length) (qfw k dom l0_2.length 0):=by
  have h1:=own_made_of (enc:=Value.int .i64) (d:=(0:Int)) (w.alloc (Obj.cells #[Value.bool a0_0,Value.int IntKind.i64 a0_1,Value.slice A0_2 l0_2.length c0_2] 24)) w.heap.size 3 l0_2.length (by simp) (by omega)
  rw [World.size_alloc] at h1
  have h2:=Kd.R_of_own (h1:=fun _=>rfl) (ok:=fun k=>k=w.heap.size+1) (xs:=List.replicate l0_2.length (0:Int)) (by simpa using h1) (fun k hk=>by simpa [Value.ownBlock] using hk.symm)
  have h3:=Kd.R_alloc h2 (Obj.cells #[Value.slice (some ⟨w.heap.size+1,0,none⟩) l0_2.length l0_2.length] 31)
  rw [hW1] at h3
  rw [show qfw k dom l0_2.length 0=List.replicate l0_2.length 0 by simp [qfw]]
  exact h3
 rw [hW1]
 replace hsz1:=Nat.le_antisymm_iff.1 hsz1
 refine (callsIn_wide.2 (HCD.out W1 hB1)).mono ?_
 rintro e W2 ⟨v2,rfl,hV,hB2⟩
 obtain ⟨Ad,cd,rfl⟩:=Kd.V_slice hV
 have hF2:=Kd.F_bound (Kd.V_F hV)
 have hs12:=hB2.size
 replace hR:=Kd.R_below hR hB2
 replace b31:=(hB2.block _ (by omega)).trans b31
 have hBw2:=hB1.trans (hB2.mono (by omega))
 clear hW1 hV HCD hmk hB1 hB2
 have hx31:(W2.alloc (Obj.cells #[Value.slice Ad dom.length cd] 33)).cell? ⟨w.heap.size+1+1,0,none⟩=some (.slice (some ⟨w.heap.size+1,0,none⟩) l0_2.length l0_2.length):=qcu (qcy b31 _) 0 rfl
 gi_wp2
 have hs3:(W2.alloc (Obj.cells #[Value.slice Ad dom.length cd] 33)).heap.size=W2.heap.size+1:=by simp
 refine wpIn_loop_inv (fun m a W=>∃ (i:Nat) (Ds:List Nat) (u5 u6 u16 u17 u18 u19 u20 u21 u22 u23 u24 u25 u26 u27 u28 u29 u30 u31 u32 u33 u34 u35 u36 u37 u38 u39 u40 u41 u42 u43 u44 u45:Value),i+m=l0_2.length∧a={ tmps:=#[Value.agg #[Value.bool a0_0,Value.int IntKind.i64 a0_1,Value.slice A0_2 l0_2.length c0_2],.pointer (some ⟨w.heap.size,0,none⟩),.slice none 0 0,.pointer (some ⟨w.heap.size+1+1,0,none⟩),.pointer (some ⟨W2.heap.size,0,none⟩),u5,u6,.pointer (some ⟨w.heap.size,2,none⟩),.slice A0_2 l0_2.length c0_2,.int .i64 l0_2.length,.slice (some ⟨w.heap.size+1,0,none⟩) l0_2.length l0_2.length,Value.agg #[Value.bool a0_0,Value.int IntKind.i64 a0_1,Value.slice A0_2 l0_2.length c0_2],.slice Ad dom.length cd,.slice (some ⟨w.heap.size+1,0,none⟩) l0_2.length l0_2.length,.int .i64 l0_2.length,.int .i64 (i:Int),u16,u17,u18,u19,u20,u21,u22,u23,u24,u25,u26,u27,u28,u29,u30,u31,u32,u33,u34,u35,u36,u37,u38,u39,u40,u41,u42,u43,u44,u45,undef],defers:=Ds.map fun D=>{ target:=.collected D,args:=#[] } }∧Kd.R (Kd.int .i64) 3 W w.heap.size (fun k=>k=w.heap.size+1) (.slice (some ⟨w.heap.size+1,0,none⟩) l0_2.length l0_2.length) (qfw k dom l0_2.length i)∧W.heap[w.heap.size+1+1]?=some (.cells #[.slice (some ⟨w.heap.size+1,0,none⟩) l0_2.length l0_2.length] 31 (0,0))∧W.heap[W2.heap.size]?=some (.cells #[.slice Ad dom.length cd] 33 (0,0))∧Kd.F k38 W (fun k=>W1.heap.size≤k∧k<W2.heap.size) Ad dom.length dom∧Below w.heap.size w W∧W2.heap.size<W.heap.size∧(Ds.Nodup∧∀ D∈Ds,W2.heap.size<D∧D<W.heap.size∧W.heap[D]?=some (.deferred (some [])))) ?_ l0_2.length _ _ ?_
 case refine_2=>
  refine ⟨0,[],_,_,_,_,_,_,_,_,_,_,_,_,_,_,_,_,_,_,_,_,_,_,_,_,_,_,_,_,_,_,_,_,by omega,rfl,Kd.R_alloc hR _,qcy b31 _,World.alloc_heap_new W2 _,Kd.F_alloc hF2 _,hBw2.alloc hBw2.size _,by simp,by simp,by simp⟩
 case refine_1=>
  clear hR b31 hF2 hx31 hs3 hBw2
  rintro m a W ⟨i,Ds,u5,u6,u16,u17,u18,u19,u20,u21,u22,u23,u24,u25,u26,u27,u28,u29,u30,u31,u32,u33,u34,u35,u36,u37,u38,u39,u40,u41,u42,u43,u44,u45,him,rfl,hR,b31,b33,hF2,hBW,hsW,hnd,hDs⟩ K hK
  have HKK:=qaa.mk hK
  clear hK
  by_cases hlt:i<l0_2.length
  ·have c31:W.cell? ⟨w.heap.size+1+1,0,none⟩=some (.slice (some ⟨w.heap.size+1,0,none⟩) l0_2.length l0_2.length):=qcu b31 0 rfl
   have hil:(i:Int)<(l0_2.length:Int):=by omega
   refine wpIn_seq_k (fun K1 hK1=>?_)
   have HK1:=qaa.mk hK1
   clear hK1
   gi_wp2
   refine HK1.out _ _ ?_
   clear HK1 K1
   refine wpIn_seq_k (fun K1 hK1=>?_)
   have HK1:=qaa.mk hK1
   clear hK1
   gi_wp2
   refine HK1.out _ _ ?_
   clear HK1 K1
   refine wpIn_seq_k (fun K1 hK1=>?_)
   have HK1:=qaa.mk hK1
   clear hK1
   refine wpIn_block ?_
   refine wpIn_seq_k (fun K2 hK2=>?_)
   have HK2:=qaa.mk hK2
   clear hK2
   gi_wp2
   refine HK2.out _ _ ?_
   clear HK2 K2
   obtain ⟨X0,hX0⟩:∃ X0,W.alloc (.cells #[.int .i64 (i:Int)] 3)=X0:=⟨_,rfl⟩
   have hb0:Below W.heap.size W X0:=by rw [← hX0];exact (Below.refl _ W).alloc (Nat.le_refl _) _
   have hsx0:X0.heap.size=W.heap.size+1:=by rw [← hX0];simp
   have b3:X0.heap[W.heap.size]?=some (.cells #[.int .i64 (i:Int)] 3 (0,0)):=by rw [← hX0];exact World.alloc_heap_new W _
   rw [hX0]
   clear hX0
   replace hR:=Kd.R_below hR hb0
   replace b31:=(hb0.block _ (qbn b31)).trans b31
   replace b33:=(hb0.block _ (qbn b33)).trans b33
   replace hF2:=Kd.F_below hF2 hb0
   replace hBW:=hBW.trans (hb0.mono hBW.size)
   have hDs0:∀ D∈Ds,W2.heap.size<D∧D<W.heap.size∧X0.heap[D]?=some (.deferred (some [])):=fun D hD=>⟨(hDs D hD).1,(hDs D hD).2.1,(hb0.block _ (hDs D hD).2.1).trans (hDs D hD).2.2⟩
   have c31':X0.cell? ⟨w.heap.size+1+1,0,none⟩=some (.slice (some ⟨w.heap.size+1,0,none⟩) l0_2.length l0_2.length):=qcu b31 0 rfl
   have c3':X0.cell? ⟨W.heap.size,0,none⟩=some (.int .i64 (i:Int)):=qcu b3 0 rfl
   obtain ⟨hxo,hfo⟩:=Kd.R_celln (0:Int) hR (i:Int) (by omega) (by omega)
   rw [Int.toNat_natCast] at hxo hfo
   have hRp:=Kd.R_putn hR (i:Int) (-1)
   rw [Int.toNat_natCast] at hRp
   clear hDs c31 hb0
   refine wpIn_seq_k (fun K2 hK2=>?_)
   have HK2:=qaa.mk hK2
   clear hK2
   gi_wp2
   refine HK2.out _ _ ?_
   clear HK2 K2
   obtain ⟨X1,hX1⟩:∃ X1,X0.setCell ⟨w.heap.size+1,i,none⟩ (.int .i64 (-1))=X1:=⟨_,rfl⟩
   have hsx1:X1.heap.size=X0.heap.size:=by rw [← hX1];simp
   have hof:∀ q,q≠w.heap.size+1→X1.heap[q]?=X0.heap[q]?:=fun q hq=>by rw [← hX1];exact Below.heap_setCell _ _ _ _ hq
   rw [hX1] at hRp ⊢
   replace b31:=(hof _ (by omega)).trans b31
   replace b33:=(hof _ (by omega)).trans b33
   replace b3:=(hof _ (by omega)).trans b3
   replace hF2:Kd.F k38 X1 (fun k=>W1.heap.size≤k∧k<W2.heap.size) Ad dom.length dom:=Kd.F_step hF2 (fun q hq _=>hof q (by omega))
   replace hBW:Below w.heap.size w X1:=by rw [← hX1];exact hBW.setCell (p:=⟨w.heap.size+1,i,none⟩) (show w.heap.size≤w.heap.size+1 by omega) _
   have hDs1:∀ D∈Ds,W2.heap.size<D∧D<W.heap.size∧X1.heap[D]?=some (.deferred (some [])):=fun D hD=>⟨(hDs0 D hD).1,(hDs0 D hD).2.1,(hof _ (by have:=(hDs0 D hD).1;omega)).trans (hDs0 D hD).2.2⟩
   clear hX1 hof hR hxo hfo c31' c3' hDs0
   obtain ⟨hw1,hw2,hw3⟩:=HW.out i hlt
   obtain ⟨wn,hwn⟩:∃ wn,qgx k dom i=wn:=⟨_,rfl⟩
   rw [hwn] at hw1 hw2 hw3
   have hid:(i:Int)<(dom.length:Int):=by have:=HDL.out;omega
   obtain ⟨add,ce,rfl,_,hFKd,hccd,_⟩:=Kd.F_get hF2 (⟨[]⟩:S38) (i:Int) (by omega) hid
   obtain ⟨Ai,ci,rfl,hci,hFi⟩:=qfo hFKd
   have hxd:=hccd 0 _ rfl
   simp only [show k38.sz=1 from rfl,Nat.mul_one,Nat.add_zero] at hxd
   obtain ⟨wd,hwd⟩:∃ wd,(qco dom (i:Int)).f0=wd:=⟨_,rfl⟩
   have hwd'':(dom.getD ((i:Int)).toNat (⟨[]⟩:S38)).f0=wd:=hwd
   rw [hwd''] at hci hFi hxd
   rw [hwd] at hw1
   rw [Int.toNat_natCast] at hxd
   have hdl:=Kd.F_max hF2
   clear hFKd hccd
   have hSt:∀ Y,Below X1.heap.size X1 Y→(Y.cell? ⟨W2.heap.size,0,none⟩=some (.slice (some add) dom.length cd)∧Y.cell? ⟨W.heap.size,0,none⟩=some (.int .i64 (i:Int))∧Y.cell? (add.add i)=some (.slice Ai wd.length ci)):=fun Y hb=>
    ⟨qcu ((hb.block _ (qbn b33)).trans b33) 0 rfl,qcu ((hb.block _ (qbn b3)).trans b3) 0 rfl,(World.cell?_of_block (w:=X1) (hb.block _ (World.block_lt_of_cell? _ _ hxd))).trans hxd⟩
   refine wpIn_seq_k (fun K2 hK2=>?_)
   have HK2:=qaa.mk hK2
   clear hK2
   refine wpIn_wide.2 ?_
   refine wp_mono (Q:=Exit.then K2 (fun _ _ _=>False)) ?_ (fun e a w h=>by cases e <;> first|exact h|exact h.elim)
   refine qfb (n:=7) (S:=fun Y=>Y.cell? ⟨W2.heap.size,0,none⟩=some (.slice (some add) dom.length cd)∧Y.cell? ⟨W.heap.size,0,none⟩=some (.int .i64 (i:Int))∧Y.cell? (add.add i)=some (.slice Ai wd.length ci)) (ds:=[]) #[false,false,false,false,false,false,false] (by kernel_rfl) rfl rfl (hSt _ (qea (Below.refl _ _))) (fun hHeld=>?_);refine qee qbg.tab7 qbg.bits7 (fun HT_ HW_=>?_)
   obtain ⟨Y0,hY0⟩:∃ Y0,X1.drew=Y0:=⟨_,rfl⟩
   have hb0:Below X1.heap.size X1 Y0:=by rw [← hY0];exact qea (Below.refl _ _)
   rw [hY0] at hHeld ⊢
   refine take_ (i:=0) (N:=some 21) (v:=?_) (a':=?_) #[true,false,false,false,false,false,false] rfl rfl (qcw HT_.out HW_.out (by kernel_rfl)) (fun _ _ _ h=>h) (Or.inl ⟨by rfl,?_⟩) hHeld ?_ ?_
   rotate_left
   ·rintro w' ⟨s0,s1,s2⟩
    go_simp
    with_reducible rfl
   rotate_left
   ·simp only [Act.put,List.setIfInBounds_toArray,List.set_cons_zero,List.set_cons_succ,qbk,qbm]
    rfl
   refine take_ (i:=1) (N:=some 22) (v:=?_) (a':=?_) #[true,true,false,false,false,false,false] rfl rfl (qcw HT_.out HW_.out (by kernel_rfl)) (fun _ _ _ h=>h) (Or.inl ⟨by rfl,?_⟩) hHeld ?_ ?_
   rotate_left
   ·rintro w' ⟨s0,s1,s2⟩
    go_simp
    with_reducible rfl
   rotate_left
   ·simp only [Act.put,List.setIfInBounds_toArray,List.set_cons_zero,List.set_cons_succ,qbk,qbm]
    rfl
   refine qct (i:=2) (N:=some 23) (v:=?_) (a':=?_) #[true,true,true,false,false,false,false] rfl rfl (qck HT_.out (by kernel_rfl)) (fun _ _ _ h=>h) (Or.inl ⟨by rfl,?_⟩) ?_ ?_
   rotate_left
   ·intro w'
    go_simp
    with_reducible rfl
   rotate_left
   ·simp only [Act.put,List.setIfInBounds_toArray,List.set_cons_zero,List.set_cons_succ,qbk,qbm]
    rfl
   refine take_ (i:=3) (N:=some 24) (v:=?_) (a':=?_) #[true,true,true,true,false,false,false] rfl rfl (qcw HT_.out HW_.out (by kernel_rfl)) (fun _ _ _ h=>h) (Or.inl ⟨by rfl,?_⟩) hHeld ?_ ?_
   rotate_left
   ·rintro w' ⟨s0,s1,s2⟩
    go_simp
    with_reducible rfl
   rotate_left
   ·simp only [Act.put,List.setIfInBounds_toArray,List.set_cons_zero,List.set_cons_succ,qbk,qbm]
    rfl
   refine take_ (i:=4) (N:=some 25) (v:=?_) (a':=?_) #[true,true,true,true,true,false,false] rfl rfl (qcw HT_.out HW_.out (by kernel_rfl)) (fun _ _ _ h=>h) (Or.inl ⟨by rfl,?_⟩) hHeld ?_ ?_
   rotate_left
   ·rintro w' ⟨s0,s1,s2⟩
    go_simp
    with_reducible rfl
   rotate_left
   ·simp only [Act.put,List.setIfInBounds_toArray,List.set_cons_zero,List.set_cons_succ,qbk,qbm]
    rfl
   refine one_ (i:=5) (N:=some 26) #[true,true,true,true,true,true,false] rfl rfl (qdx HT_.out (by kernel_rfl)) (by decide) (fun K hK=>?_)
   refine qej Tryd.func57 (by kernel_rfl) rfl #[.agg #[.slice Ai wd.length ci],.int .i64 (i:Int)] (by rfl) rfl rfl (by (try simp only [List.map_toArray,List.map_cons,List.map_nil]);rfl) ?_
   refine (qci.calls k Ai ci wd (i:Int) wn Y0 (Kd.C_below (Kd.F_now hFi) hb0) hci hw1).mono ?_
   rintro e Y1 ⟨v1,rfl,hV1,hb1⟩
   refine ⟨_,rfl,?_⟩
   obtain ⟨A1,c1,rfl⟩:=Kd.V_slice hV1
   have hF1':Kd.F (Kd.int .u64) Y1 (fun k=>Y0.heap.size≤k) A1 wn.length wn:=Kd.V_F hV1
   have hb1':=hb0.trans (hb1.mono hb0.size)
   have hs0:=hb0.size
   clear hV1 hb1 hb0
   refine hK.out _ _ (hSt _ hb1') (fun hHeld=>?_)
   clear hK K
   refine qdt (a':=?_) ?_ ?_
   rotate_left
   ·show Act.put _ (some 26) _=_
    simp only [Act.put,List.setIfInBounds_toArray,List.set_cons_zero,List.set_cons_succ,qbk,qbm]
    rfl
   refine one_ (i:=6) (N:=some 27) #[true,true,true,true,true,true,true] rfl rfl (qdx HT_.out (by kernel_rfl)) (by decide) (fun K hK=>?_)
   refine qej Tryd.func52 (by kernel_rfl) rfl #[.agg #[.slice A1 wn.length c1]] (by rfl) rfl rfl (by (try simp only [List.map_toArray,List.map_cons,List.map_nil]);rfl) ?_
   refine (qda.calls_in (.slice A1 wn.length c1) Y1).mono ?_
   rintro e Y2 ⟨rfl,hY2⟩
   refine ⟨_,rfl,?_⟩
   have hb2:Below Y1.heap.size Y1 Y2:=by rw [hY2];exact (Below.refl _ _).alloc (Nat.le_refl _) _
   have hsy2:Y2.heap.size=Y1.heap.size+1:=by rw [hY2];simp
   have b7:Y2.heap[Y1.heap.size]?=some (.cells #[.slice A1 wn.length c1] 38 (0,0)):=by rw [hY2];exact World.alloc_heap_new Y1 _
   have hb2':=hb1'.trans (hb2.mono hb1'.size)
   replace hF1':=Kd.F_below hF1' hb2
   have hsy1:=hb1'.size
   clear hY2 hb2 hb1' hY0
   refine hK.out _ _ (hSt _ hb2') (fun hHeld=>?_)
   clear hK K
   refine qdt (a':=?_) ?_ ?_
   rotate_left
   ·show Act.put _ (some 27) _=_
    simp only [Act.put,List.setIfInBounds_toArray,List.set_cons_zero,List.set_cons_succ,qbk,qbm]
    rfl
   refine qfq (qfd HT_.out (by kernel_rfl)) ?_
   refine HK2.out _ _ ?_
   clear HK2 K2 HT_ HW_ hHeld hSt
   refine wpIn_block ?_
   replace hRp:=Kd.R_below hRp hb2'
   replace b31:=(hb2'.block _ (qbn b31)).trans b31
   replace b33:=(hb2'.block _ (qbn b33)).trans b33
   replace b3:=(hb2'.block _ (qbn b3)).trans b3
   replace hF2:=Kd.F_below hF2 hb2'
   replace hBW:=hBW.trans (hb2'.mono hBW.size)
   have hDs2:∀ D∈Ds,W2.heap.size<D∧D<W.heap.size∧Y2.heap[D]?=some (.deferred (some [])):=fun D hD=>⟨(hDs1 D hD).1,(hDs1 D hD).2.1,(hb2'.block _ (by have:=(hDs1 D hD).2.1;omega)).trans (hDs1 D hD).2.2⟩
   have hT2:=HT.out.below' hBW
   have hT0:=HT.out.2.1
   clear hDs1 hb2' hFi hxd hw1
   have hs12':W2.heap.size<Y2.heap.size:=by omega
   replace hsy2:=Nat.le_antisymm_iff.1 hsy2
   refine wpIn_rangeFunc_ownF (w0:=Y2) rfl (by decide) (gf:=76) (lb:=#[.pointer (some ⟨Y1.heap.size,0,none⟩)]) rfl trivial (enters_of Tryd.func76 (by kernel_rfl) rfl)
    (qda.stops _ Y1.heap.size (But Y2.heap.size (w.heap.size+1)) (But.refl _ _) But.trans A1 c1 wn Y2 (fun hb h=>(But.of_below hb (Nat.le_refl _)).trans h) hw2 (by omega) (fun W' h=>But.tab hT2 (by omega) (by omega) h) (qcu b7 0 rfl) (fun W' h=>Kd.F_now (Kd.F_step hF1' (fun k hk hlt=>h.2 k hlt (by omega))))) But.trans (fun W l o o' hl _ _ _=>But.putObj W _ hl) (Below.refl _ _) (fun _=>rfl)
    (fun pre Y=>(((Kd.R (Kd.int .i64) 3 Y w.heap.size (fun k=>k=w.heap.size+1) (.slice (some ⟨w.heap.size+1,0,none⟩) l0_2.length l0_2.length) ((qfw k dom l0_2.length i).set i ((vals pre).foldl (qgq k dom i) (-1)))∧Y.heap[w.heap.size+1+1]?=some (.cells #[.slice (some ⟨w.heap.size+1,0,none⟩) l0_2.length l0_2.length] 31 (0,0))∧Y.heap[W2.heap.size]?=some (.cells #[.slice (some add) dom.length cd] 33 (0,0))∧Y.heap[W.heap.size]?=some (.cells #[.int .i64 (i:Int)] 3 (0,0)))∧Kd.F k38 Y (fun k=>W1.heap.size≤k∧k<W2.heap.size) (some add) dom.length dom∧∀ D∈Ds,W2.heap.size<D∧D<W.heap.size∧Y.heap[D]?=some (.deferred (some [])))∧(Below w.heap.size w Y∧Y2.heap.size≤Y.heap.size)))
    (fun _ _ _=>False)
    (fun s X Z row hs hg hr=>⟨⟨⟨rowRow hg (fun r e=>(hr r e).2) hs.1.1.1,qez hg (fun r e=>(hr r e).2) hs.1.1.2.1,qez hg (fun r e=>(hr r e).2) hs.1.1.2.2.1,qez hg (fun r e=>(hr r e).2) hs.1.1.2.2.2⟩,Kd.F_grown hs.1.2.1 hg (fun k hk e=>by have:=(hr k e.symm).1;omega),fun D hD=>⟨(hs.1.2.2 D hD).1,(hs.1.2.2 D hD).2.1,(hg.block D (Array.getElem?_eq_some_iff.1 (hs.1.2.2 D hD).2.2).1 (fun e=>by have:=(hr D e.symm).1;have:=(hs.1.2.2 D hD).2.1;omega)).trans (hs.1.2.2 D hD).2.2⟩⟩,ownFrom_below (β:=Unit) (Nat.le_refl _) (by omega) () X Z row hs.2.1 hg hr,Nat.le_trans hs.2.2 hg.size⟩)
    (fun _ _ _ _ _ hs _ _=>hs)
    ⟨⟨⟨hRp,b31,b33,b3⟩,hF2,hDs2⟩,hBW,Nat.le_refl _⟩
    (fun x=>{ tmps:=#[Value.agg #[Value.bool a0_0,Value.int IntKind.i64 a0_1,Value.slice A0_2 l0_2.length c0_2],.pointer (some ⟨w.heap.size,0,none⟩),.slice none 0 0,.pointer (some ⟨w.heap.size+1+1,0,none⟩),.pointer (some ⟨W2.heap.size,0,none⟩),.pointer (some ⟨W.heap.size,0,none⟩),.int .i64 x.1,.pointer (some ⟨w.heap.size,2,none⟩),.slice A0_2 l0_2.length c0_2,.int .i64 l0_2.length,.slice (some ⟨w.heap.size+1,0,none⟩) l0_2.length l0_2.length,Value.agg #[Value.bool a0_0,Value.int IntKind.i64 a0_1,Value.slice A0_2 l0_2.length c0_2],.slice (some add) dom.length cd,.slice (some ⟨w.heap.size+1,0,none⟩) l0_2.length l0_2.length,.int .i64 l0_2.length,.int .i64 (i:Int),.bool true,.int .i64 (i:Int),.slice (some ⟨w.heap.size+1,0,none⟩) l0_2.length l0_2.length,.int .i64 (i:Int),.pointer (some ⟨w.heap.size+1,i,none⟩),.slice (some add) dom.length cd,.int .i64 (i:Int),.pointer (some (add.add i)),.agg #[.slice Ai wd.length ci],.int .i64 (i:Int),.agg #[.slice A1 wn.length c1],.func (.func 76) #[] #[.pointer (some ⟨Y1.heap.size,0,none⟩)],.int .i64 x.1,u29,u30,u31,u32,u33,u34,u35,u36,u37,u38,u39,u40,u41,u42,u43,u44,u45,undef],defers:=[] }) ?assign ?body ?done ?stop
   case assign=>
    intro l x W' K4 hK4
    gi_wp2
    exact hK4
   case body=>
    rintro l pre x Y ⟨⟨⟨hR3,b31,b33,b3⟩,hF3,hDs3⟩,hBY,hsY⟩ hpl
    obtain ⟨hx0,hx1⟩:=hw3 x.1 x.2
    have hxdl:x.1<(dom.length:Int):=by have:=HDL.out;omega
    have hlx:=HLn.out x.1 hx0 hx1
    have hln:=HLn.out (i:Int) (by omega) (by omega)
    obtain ⟨adx,cex,hex,_,hFKx,hccx,_⟩:=Kd.F_get hF3 (⟨[]⟩:S38) x.1 hx0 hxdl
    injection hex with hex
    subst hex
    obtain ⟨Ax,cx,rfl,hcx,hFx⟩:=qfo hFKx
    have hxx:=hccx 0 _ rfl
    obtain ⟨adn,cen,hen,_,hFKn,hccn,_⟩:=Kd.F_get hF3 (⟨[]⟩:S38) (i:Int) (by omega) hid
    injection hen with hen
    subst hen
    obtain ⟨Ai',ci',rfl,hci',hFi⟩:=qfo hFKn
    have hxn:=hccn 0 _ rfl
    simp only [show k38.sz=1 from rfl,Nat.mul_one,Nat.add_zero] at hxx hxn
    obtain ⟨wx,hwx⟩:∃ wx,(qco dom x.1).f0=wx:=⟨_,rfl⟩
    have hwx':(dom.getD x.1.toNat (⟨[]⟩:S38)).f0=wx:=hwx
    rw [hwx'] at hcx hFx hxx
    rw [hwx] at hlx
    have hwd':(dom.getD ((i:Int)).toNat (⟨[]⟩:S38)).f0=wd:=hwd
    rw [hwd'] at hci' hFi hxn
    rw [hwd] at hln
    rw [Int.toNat_natCast] at hxn
    obtain ⟨lx,hlxe⟩:∃ lx,lenT k wx=lx:=⟨_,rfl⟩
    obtain ⟨ln,hlne⟩:∃ ln,lenT k wd=ln:=⟨_,rfl⟩
    rw [hlxe] at hlx
    rw [hlne] at hln
    clear hFKx hFKn hccx hccn
    have hSt:∀ Y',Below Y.heap.size Y Y'→(Y'.cell? ⟨W2.heap.size,0,none⟩=some (.slice (some add) dom.length cd)∧Y'.cell? ⟨W.heap.size,0,none⟩=some (.int .i64 (i:Int))∧Y'.cell? (add.add x.1.toNat)=some (.slice Ax wx.length cx)∧Y'.cell? (add.add i)=some (.slice Ai' wd.length ci')):=fun Y' hb=>
     ⟨qcu ((hb.block _ (qbn b33)).trans b33) 0 rfl,qcu ((hb.block _ (qbn b3)).trans b3) 0 rfl,(World.cell?_of_block (w:=Y) (hb.block _ (World.block_lt_of_cell? _ _ hxx))).trans hxx,(World.cell?_of_block (w:=Y) (hb.block _ (World.block_lt_of_cell? _ _ hxn))).trans hxn⟩
    refine wpIn_block ?_
    refine wpIn_seq_k (fun K3 hK3=>?_)
    have HK3:=qaa.mk hK3
    clear hK3
    refine startIn_ (m:=12) (S:=fun Y'=>Y'.cell? ⟨W2.heap.size,0,none⟩=some (.slice (some add) dom.length cd)∧Y'.cell? ⟨W.heap.size,0,none⟩=some (.int .i64 (i:Int))∧Y'.cell? (add.add x.1.toNat)=some (.slice Ax wx.length cx)∧Y'.cell? (add.add i)=some (.slice Ai' wd.length ci')) (ds:=[]) #[false,false,false,false,false,false,false,false,false,false,false,false] (by kernel_rfl) rfl rfl rfl (fun hh=>by obtain ⟨_,_,hh⟩:=hh;exact hh) (hSt _ (qea (Below.refl _ _))) (fun hHeld=>?_);refine qee qbg.tab9 qbg.bits9 (fun HT_ HW_=>?_)
    obtain ⟨Y0,hY0⟩:∃ Y0,Y.drew=Y0:=⟨_,rfl⟩
    have hb0:Below Y.heap.size Y Y0:=by rw [← hY0];exact qea (Below.refl _ _)
    rw [hY0] at hHeld ⊢
    clear hY0
    refine take_ (i:=0) (N:=some 29) (v:=?_) (a':=?_) #[true,false,false,false,false,false,false,false,false,false,false,false] rfl rfl (qcw HT_.out HW_.out (by kernel_rfl)) (fun _ _ _ h=>h) (Or.inl ⟨by rfl,?_⟩) hHeld ?_ ?_
    rotate_left
    ·rintro w' ⟨s0,s1,s2,s3⟩
     go_simp
     with_reducible rfl
    rotate_left
    ·simp only [Act.put,List.setIfInBounds_toArray,List.set_cons_zero,List.set_cons_succ,qbk,qbm]
     rfl
    refine qct (i:=1) (N:=some 30) (v:=?_) (a':=?_) #[true,true,false,false,false,false,false,false,false,false,false,false] rfl rfl (qck HT_.out (by kernel_rfl)) (fun _ _ _ h=>h) (Or.inl ⟨by rfl,?_⟩) ?_ ?_
    rotate_left
    ·intro w'
     go_simp
     with_reducible rfl
    rotate_left
    ·simp only [Act.put,List.setIfInBounds_toArray,List.set_cons_zero,List.set_cons_succ,qbk,qbm]
     rfl
    refine qct (i:=2) (N:=some 31) (v:=?_) (a':=?_) #[true,true,true,false,false,false,false,false,false,false,false,false] rfl rfl (qck HT_.out (by kernel_rfl)) (fun _ _ _ h=>h) (Or.inl ⟨by rfl,?_⟩) ?_ ?_
    rotate_left
    ·intro w'
     go_simp
     with_reducible rfl
    rotate_left
    ·simp only [Act.put,List.setIfInBounds_toArray,List.set_cons_zero,List.set_cons_succ,qbk,qbm]
     rfl
    refine take_ (i:=3) (N:=some 32) (v:=?_) (a':=?_) #[true,true,true,true,false,false,false,false,false,false,false,false] rfl rfl (qcw HT_.out HW_.out (by kernel_rfl)) (fun _ _ _ h=>h) (Or.inl ⟨by rfl,?_⟩) hHeld ?_ ?_
    rotate_left
    ·rintro w' ⟨s0,s1,s2,s3⟩
     go_simp
     with_reducible rfl
    rotate_left
    ·simp only [Act.put,List.setIfInBounds_toArray,List.set_cons_zero,List.set_cons_succ,qbk,qbm]
     rfl
    refine take_ (i:=5) (N:=some 34) (v:=?_) (a':=?_) #[true,true,true,true,false,true,false,false,false,false,false,false] rfl rfl (qcw HT_.out HW_.out (by kernel_rfl)) (fun _ _ _ h=>h) (Or.inl ⟨by rfl,?_⟩) hHeld ?_ ?_
    rotate_left
    ·rintro w' ⟨s0,s1,s2,s3⟩
     go_simp
     with_reducible rfl
    rotate_left
    ·simp only [Act.put,List.setIfInBounds_toArray,List.set_cons_zero,List.set_cons_succ,qbk,qbm]
     rfl
    refine take_ (i:=6) (N:=some 35) (v:=?_) (a':=?_) #[true,true,true,true,false,true,true,false,false,false,false,false] rfl rfl (qcw HT_.out HW_.out (by kernel_rfl)) (fun _ _ _ h=>h) (Or.inl ⟨by rfl,?_⟩) hHeld ?_ ?_
    rotate_left
    ·rintro w' ⟨s0,s1,s2,s3⟩
     go_simp
     with_reducible rfl
    rotate_left
    ·simp only [Act.put,List.setIfInBounds_toArray,List.set_cons_zero,List.set_cons_succ,qbk,qbm]
     rfl
    refine qct (i:=7) (N:=some 36) (v:=?_) (a':=?_) #[true,true,true,true,false,true,true,true,false,false,false,false] rfl rfl (qck HT_.out (by kernel_rfl)) (fun _ _ _ h=>h) (Or.inl ⟨by rfl,?_⟩) ?_ ?_
    rotate_left
    ·intro w'
     go_simp
     with_reducible rfl
    rotate_left
    ·simp only [Act.put,List.setIfInBounds_toArray,List.set_cons_zero,List.set_cons_succ,qbk,qbm]
     rfl
    refine take_ (i:=8) (N:=some 37) (v:=?_) (a':=?_) #[true,true,true,true,false,true,true,true,true,false,false,false] rfl rfl (qcw HT_.out HW_.out (by kernel_rfl)) (fun _ _ _ h=>h) (Or.inl ⟨by rfl,?_⟩) hHeld ?_ ?_
    rotate_left
    ·rintro w' ⟨s0,s1,s2,s3⟩
     go_simp
     with_reducible rfl
    rotate_left
    ·simp only [Act.put,List.setIfInBounds_toArray,List.set_cons_zero,List.set_cons_succ,qbk,qbm]
     rfl
    refine one_ (i:=4) (N:=some 33) #[true,true,true,true,true,true,true,true,true,false,false,false] rfl rfl (qdx HT_.out (by kernel_rfl)) (by decide) (fun K hK=>?_)
    refine qej Tryd.func31 (by kernel_rfl) rfl #[.agg #[.slice Ax wx.length cx]] (by rfl) rfl rfl (by (try simp only [List.map_toArray,List.map_cons,List.map_nil]);rfl) ?_
    refine (qbh.calls k Ax cx wx lx Y0 (Kd.C_below (Kd.F_now hFx) hb0) hcx hlx).mono ?_
    rintro e Z1 ⟨rfl,hz1⟩
    refine ⟨_,rfl,?_⟩
    have hz1':=hb0.trans (hz1.mono hb0.size)
    refine hK.out _ _ (hSt _ hz1') (fun hHeld=>?_)
    clear hK K
    refine qdt (a':=?_) ?_ ?_
    rotate_left
    ·show Act.put _ (some 33) _=_
     simp only [Act.put,List.setIfInBounds_toArray,List.set_cons_zero,List.set_cons_succ,qbk,qbm]
     rfl
    refine one_ (i:=9) (N:=some 38) #[true,true,true,true,true,true,true,true,true,true,false,false] rfl rfl (qdx HT_.out (by kernel_rfl)) (by decide) (fun K hK=>?_)
    refine qej Tryd.func31 (by kernel_rfl) rfl #[.agg #[.slice Ai' wd.length ci']] (by rfl) rfl rfl (by (try simp only [List.map_toArray,List.map_cons,List.map_nil]);rfl) ?_
    refine (qbh.calls k Ai' ci' wd ln Z1 (Kd.C_below (Kd.F_now hFi) hz1') hci' hln).mono ?_
    rintro e Z2 ⟨rfl,hz2⟩
    refine ⟨_,rfl,?_⟩
    have hz2':=hz1'.trans (hz2.mono hz1'.size)
    clear hz1 hz2 hz1'
    refine hK.out _ _ (hSt _ hz2') (fun hHeld=>?_)
    clear hK K
    refine qdt (a':=?_) ?_ ?_
    rotate_left
    ·show Act.put _ (some 38) _=_
     simp only [Act.put,List.setIfInBounds_toArray,List.set_cons_zero,List.set_cons_succ,qbk,qbm]
     rfl
    refine qct (i:=10) (N:=some 39) (v:=?_) (a':=?_) #[true,true,true,true,true,true,true,true,true,true,true,false] rfl rfl (qck HT_.out (by kernel_rfl)) (fun _ _ _ h=>h) (Or.inl ⟨by rfl,?_⟩) ?_ ?_
    rotate_left
    ·intro w'
     go_simp
     with_reducible rfl
    rotate_left
    ·simp only [Act.put,List.setIfInBounds_toArray,List.set_cons_zero,List.set_cons_succ,qbk,qbm]
     rfl
    refine qct (i:=11) (N:=some 40) (v:=?_) (a':=?_) #[true,true,true,true,true,true,true,true,true,true,true,true] rfl rfl (qck HT_.out (by kernel_rfl)) (fun _ _ _ h=>h) (Or.inl ⟨by rfl,?_⟩) ?_ ?_
    rotate_left
    ·intro w'
     go_simp
     with_reducible rfl
    rotate_left
    ·simp only [Act.put,List.setIfInBounds_toArray,List.set_cons_zero,List.set_cons_succ,qbk,qbm]
     rfl
    refine qfq (qfd HT_.out (by kernel_rfl)) ?_
    refine HK3.out _ _ ?_
    clear HK3 K3 HT_ HW_ hHeld hSt
    have hkeep:=qfs hz2'
    replace hR3:=Kd.R_below hR3 hz2'
    replace b31:=(hz2'.block _ (qbn b31)).trans b31
    replace b33:=(hz2'.block _ (qbn b33)).trans b33
    replace b3:=(hz2'.block _ (qbn b3)).trans b3
    replace hF3:=Kd.F_below hF3 hz2'
    have hDs4:∀ D∈Ds,W2.heap.size<D∧D<W.heap.size∧Z2.heap[D]?=some (.deferred (some [])):=fun D hD=>⟨(hDs3 D hD).1,(hDs3 D hD).2.1,(hz2'.block _ (by have:=(hDs3 D hD).2.1;omega)).trans (hDs3 D hD).2.2⟩
    replace hBY:=hBY.trans (hz2'.mono hBY.size)
    have hBt:But Y2.heap.size (w.heap.size+1) Y Z2:=But.of_below hz2' hsY
    have hsf:=hz2'.size
    have c31:Z2.cell? ⟨w.heap.size+1+1,0,none⟩=some (.slice (some ⟨w.heap.size+1,0,none⟩) l0_2.length l0_2.length):=qcu b31 0 rfl
    have c3:Z2.cell? ⟨W.heap.size,0,none⟩=some (.int .i64 (i:Int)):=qcu b3 0 rfl
    obtain ⟨hxo,hfo⟩:=Kd.R_celln (0:Int) hR3 (i:Int) (by omega) (by omega)
    rw [Int.toNat_natCast] at hxo hfo
    have hRp:=Kd.R_putn hR3 (i:Int) x.1
    rw [Int.toNat_natCast,List.set_set] at hRp
    have e1:(vals (pre++[x])).foldl (qgq k dom i) (-1)=qgq k dom i ((vals pre).foldl (qgq k dom i) (-1)) x.1:=by rw [vals_snoc,List.foldl_append];rfl
    have e2:∀ o,qgq k dom i o x.1=if lx=wrap64 (ln-1) then x.1 else o:=fun o=>by rw [qgq,hwx,hwd,hlxe,hlne]
    clear hz2'
    by_cases hc:lx=wrap64 (ln-1)
    ·have hcb:(lx==wrap64 (ln-1))=true:=by simp [hc]
     gi_wp2
     have hof:∀ q,q≠w.heap.size+1→(Z2.setCell ⟨w.heap.size+1,i,none⟩ (.int .i64 x.1)).heap[q]?=Z2.heap[q]?:=fun q hq=>Below.heap_setCell _ _ _ _ hq
     refine ⟨hkeep.trans (KeepsOthers.setCell _ _ _),hBt.trans (But.setCell _ _ _),⟨⟨?_,(hof _ (by omega)).trans b31,(hof _ (by omega)).trans b33,(hof _ (by omega)).trans b3⟩,Kd.F_step hF3 (fun q hq _=>hof q (by omega)),fun D hD=>⟨(hDs4 D hD).1,(hDs4 D hD).2.1,(hof _ (by have:=(hDs4 D hD).1;omega)).trans (hDs4 D hD).2.2⟩⟩,hBY.setCell (p:=⟨w.heap.size+1,i,none⟩) (show w.heap.size≤w.heap.size+1 by omega) _,by simp;omega⟩
     rw [e1,e2,if_pos hc]
     exact hRp
    ·have hcb:(lx==wrap64 (ln-1))=false:=by simp [hc]
     gi_wp2
     refine ⟨hkeep,hBt,⟨⟨?_,b31,b33,b3⟩,hF3,hDs4⟩,hBY,by omega⟩
     rw [e1,e2,if_neg hc]
     exact hR3
   case done=>
    rintro D ys Y hD hS ⟨⟨⟨hR3,b31,b33,b3⟩,hF3,hDs3⟩,hBY,hsY⟩ hKD
    rw [show vals ys=els wn from hS] at hR3
    have e1:(qfw k dom l0_2.length i).set i ((els wn).foldl (qgq k dom i) (-1))=qfw k dom l0_2.length (i+1):=by
     rw [← immRow_step hlt,immAt,hwn]
    rw [e1] at hR3
    gi_wp2
    refine HK1.out _ _ ?_
    clear HK1 K1
    gi_wp2
    refine HKK.out (m-1) _ _ (by omega) ⟨i+1,D::Ds,_,_,_,_,_,_,_,_,_,_,_,_,_,_,_,_,_,_,_,_,_,_,_,_,_,_,_,_,_,_,_,_,by omega,by go_num,hR3,b31,b33,hF3,hBY,by omega,List.nodup_cons.2 ⟨fun hm=>by have:=(hDs3 D hm).2.1;omega,hnd⟩,fun E hE=>?_⟩
    rcases List.mem_cons.1 hE with rfl|hE
    ·exact ⟨by omega,(Array.getElem?_eq_some_iff.1 hKD).1,hKD⟩
    ·exact ⟨(hDs3 E hE).1,by have:=(hDs3 E hE).2.1;omega,(hDs3 E hE).2.2⟩
   case stop=>
    rintro D c pre W' _ _ h _
    exact h.elim
  ·obtain rfl:i=l0_2.length:=by omega
   have hnl:¬ ((l0_2.length:Int)<(l0_2.length:Int)):=by omega
   have c31:W.cell? ⟨w.heap.size+1+1,0,none⟩=some (.slice (some ⟨w.heap.size+1,0,none⟩) l0_2.length l0_2.length):=qcu b31 0 rfl
   gi_wp2
   refine qgv Ds W hnd (fun D hD=>(hDs D hD).2.2) (fun W' hW'=>?_)
   have hd:∀ D∈Ds,w.heap.size≤D:=fun D hD=>by have:=(hDs D hD).1;omega
   refine ⟨_,results_tmp rfl _ _ _,_,rfl,?_,hW'.below hBW hd⟩
   have e1:(List.range l0_2.length).map (fun n=>immAt k dom n)=qfw k dom l0_2.length l0_2.length:=by simp [qfw]
   rw [show (List.range l0_2.length).map (immAt k dom)=qfw k dom l0_2.length l0_2.length by simp [qfw]]
   exact Kd.R_mono (Kd.R_step hR (fun k hk _=>hW'.2.2.2.2 k (fun hx=>by have:=(hDs k hx).1;omega))) (fun _ _=>trivial)
end
end Go.Proofs.YtmfjmbcfaamebaaDoor.X
namespace Go.Proofs.YtmfjmbcfaamebaaDoor.X
open Go.RowKit Go.Proofs.YtmfjmbcfaamebaaDoorW.PrintWords Go.Proofs.YtmfjmbcfaamebaaDoorW.PrintLast Go.Proofs.YtmfjmbcfaamebaaDoorW.PrintMore
attribute [local go_sem] qbs qcb
set_option linter.unusedVariables false
set_option linter.unusedSimpArgs false
open Go.Lib Go.Sort
def qfl (l:List Int):List Int:=l.mergeSort fun x y=>decide (x≤y)
def qdg.f (l0:List Int):Option (List Int):=if l0.length≤17592186044416 then some (qfl l0) else none
theorem qgi (l:List Int):(qfl l).length=l.length:=by simp [qfl]
theorem qdg.calls (P0_:Nat→Prop) (u9000_:Value) (l0:List Int) (r:List Int) (w0 w:World) (hB:Below w0.heap.size w0 w) (ho0:Kd.R (Kd.int .i64) 3 w w0.heap.size P0_ u9000_ l0) (h:qdg.f l0=some r) :
  Calls Tryd.prog 44 #[u9000_] w fun e w'=>e=.returned (.tuple #[])∧Kd.R (Kd.int .i64) 3 w' w0.heap.size (fun k_=>(P0_ k_∨w.heap.size≤k_)) u9000_ r∧Below w0.heap.size w0 w'∧Kept w w' (fun k_=>P0_ k_):=by
 unfold qdg.f at h
 by_cases hl:l0.length≤17592186044416
 case neg=>rw [if_neg hl] at h;cases h
 rw [if_pos hl] at h
 obtain rfl:=Option.some.inj h
 by_cases hv:u9000_=.slice none 0 0
 ·subst hv
  obtain rfl:l0=[]:=by
   obtain ⟨A,c,e,_⟩:=Kd.R_reads ho0
   injection e with _ e2
   exact List.eq_nil_of_length_eq_zero e2.symm
  refine (Tryd.slices_Sort_int_none none 0 w).mono ?_
  rintro e w' ⟨rfl,rfl⟩
  exact ⟨rfl,Kd.R_mono (by simpa [qfl] using ho0) (fun k hk=>.inl hk),hB,Kept.refl _ _⟩
 ·have hown:=Kd.own_of_R ho0
  obtain ⟨gb,cap,rfl,hb,hlt,hn,hm,hl,hH⟩:=holds_of_ownsRow hown hv
  have hlen:l0.length<4611686018427387904:=by omega
  refine (Tryd.slices_Sort_int gb 0 cap l0 w hH hlt hlen).mono ?_
  rintro e w' ⟨rfl,n,os,rfl⟩
  rcases hown.2 with ⟨e,_⟩|⟨g',cap',cur,e,hb',hcur,h1,h2,h3,h4⟩
  ·cases e
  ·injection e with e1 _ e3
   injection e1 with e1
   injection e1 with e1
   subst e1 e3
   have hR:=ownsRow_sortedI (n:=n) (os:=os) (ss:=l0) (ts:=qfl l0) (qgi l0) hb hcur h1 h2 h3
   rw [← qgi l0] at hR
   have hok:=ho0.1 gb rfl
   have hg:w.grownBy (grow (putRow (Value.int .i64) (Sort.ahead w n) gb 0 (qfl l0).toArray) os) (some gb):=grownBy_sortedI _
   refine ⟨rfl,?_,hB.grown hg hB.size (fun k hk=>by cases hk;exact hb),Kept.of_grown hg (Kept.refl _ _) (fun k hk=>by cases hk;exact .inl hok)⟩
   have:=Kd.R_of_own (h1:=fun _=>rfl) (ok:=fun k_=>(P0_ k_∨w.heap.size≤k_)) hR (fun k hk=>by simp [Value.ownBlock] at hk;subst hk;exact .inl hok)
   rw [qgi] at this
   exact this
end Go.Proofs.YtmfjmbcfaamebaaDoor.X
namespace Go.Proofs.YtmfjmbcfaamebaaDoor.X
open Go.RowKit Go.Proofs.YtmfjmbcfaamebaaDoorW.PrintWords Go.Proofs.YtmfjmbcfaamebaaDoorW.PrintLast Go.Proofs.YtmfjmbcfaamebaaDoorW.PrintMore
attribute [local go_sem] qbs qcb
set_option linter.unusedVariables false
set_option linter.unusedSimpArgs false
open Go.Lib Go.Sort
def qdc.f (l0:List Int):Option (List Int):=some (Lib.compact l0)
theorem qdc.calls (P0_:Nat→Prop) (u9000_:Value) (l0:List Int) (r:List Int) (w0 w:World) (hB:Below w0.heap.size w0 w) (ho0:Kd.R (Kd.int .i64) 3 w w0.heap.size P0_ u9000_ l0) (h:qdc.f l0=some r) :
  Calls Tryd.prog 45 #[u9000_] w fun e w'=>∃ v0_:Value,e=.returned (v0_)∧Kd.R (Kd.int .i64) 3 w' w0.heap.size (fun k_=>(P0_ k_∨w.heap.size≤k_)) v0_ r∧Below w0.heap.size w0 w'∧Kept w w' (fun k_=>P0_ k_):=by
 obtain rfl:=Option.some.inj h
 by_cases hv:u9000_=.slice none 0 0
 ·subst hv
  obtain rfl:l0=[]:=by
   obtain ⟨A,c,e,_⟩:=Kd.R_reads ho0
   injection e with _ e2
   exact List.eq_nil_of_length_eq_zero e2.symm
  refine (Tryd.slices_Compact_int_empty none 0 w).mono ?_
  rintro e w' ⟨rfl,rfl⟩
  exact ⟨_,rfl,Kd.R_mono (by simpa [Lib.compact,compactUpTo] using ho0) (fun k hk=>.inl hk),hB,Kept.refl _ _⟩
 ·have hown:=Kd.own_of_R ho0
  obtain ⟨gb,cap,rfl,hb,hlt,hn,hm,hl,hH⟩:=holds_of_ownsRow hown hv
  have hmx:cap≤9223372036854775807:=by simpa [maxLen] using hm
  refine (Tryd.slices_Compact_int gb 0 cap l0 w hH (by omega) hn).mono ?_
  rintro e w' ⟨rfl,q,rfl⟩
  have hle:(Lib.compact l0).length≤l0.length:=compact_length_le l0
  have hR:=ownsRow_putRow (q:=q) (k:=(Lib.compact l0).length) (ys:=Lib.compact l0++List.replicate (l0.length-(Lib.compact l0).length) 0) hown (by simp;omega) hle
  rw [List.take_left' rfl] at hR
  have hok:=ho0.1 gb rfl
  have hg:w.grownBy (putRow (Value.int .i64) (Sort.ahead w q) gb 0 (Lib.compact l0++List.replicate (l0.length-(Lib.compact l0).length) 0).toArray) (some gb):=qhu _
  exact ⟨_,rfl,Kd.R_of_own hR (fun k hk=>by simp [Value.ownBlock] at hk;subst hk;exact .inl hok),hB.grown hg hB.size (fun k hk=>by cases hk;exact hb),Kept.of_grown hg (Kept.refl _ _) (fun k hk=>by cases hk;exact .inl hok)⟩
end Go.Proofs.YtmfjmbcfaamebaaDoor.X
