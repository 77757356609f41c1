/- Parts of the proof of the law CFGOrder: words, walks of single functions and plain laws, joined by a program out of the session's texts. -/
import Derived.Test.YtmfjmbcfaamebaaDoorCFGOrder11
import Derived.BigQuiet
import Derived.Laws.BitsAllLaws
set_option linter.unusedVariables false
set_option linter.unusedSimpArgs false
namespace Go.Proofs.YtmfjmbcfaamebaaDoor.X
open Go.RowKit Go.Proofs.YtmfjmbcfaamebaaDoorW.PrintWords Go.Proofs.YtmfjmbcfaamebaaDoorW.PrintLast Go.Proofs.YtmfjmbcfaamebaaDoorW.PrintMore
attribute [local go_sem] qbp qbz
set_option linter.unusedVariables false
set_option linter.unusedSimpArgs false
mutual
def qap.l0:Nat→List (List Int)→Int→Int→Bool→Int→List (S60)→Option ((List (List Int)))
 | 0,_,_,_,_,_,_=>none
 | k+1,x3,x9,x10,x334000,x334001,x334002=>if x10<x9 then (qap.l1 k x3 x10 ([]:List Int) x9 x10 (x334002.length:Int) 0 x334000 x334001 x334002) else (some x3)
def qap.l1:Nat→List (List Int)→Int→List Int→Int→Int→Int→Int→Bool→Int→List (S60)→Option ((List (List Int)))
 | 0,_,_,_,_,_,_,_,_,_,_=>none
 | k+1,x3,x4,x5,x9,x10,x15,x16,x334000,x334001,x334002=>if x16<x15 then ((qcn.f k x334000 x334001 x334002 x16 x4).bind fun t334=>(if t334=true then (if x5.length<17592186044416 then (qap.l1 k x3 x4 (x5++[x16]) x9 x10 x15 (wrap64 (x16+1)) x334000 x334001 x334002) else (none)) else (qap.l1 k x3 x4 x5 x9 x10 x15 (wrap64 (x16+1)) x334000 x334001 x334002))) else (if x3.length<5864062014805 then (qap.l0 k (x3++[x5]) x9 (wrap64 (x10+1)) x334000 x334001 x334002) else (none))
end
def qap.f (k:Nat) (a0_0:Bool) (a0_1:Int) (l0_2:List (S60)):Option ((List (List Int))):=qap.l0 k ([]:List (List Int)) (l0_2.length:Int) 0 a0_0 a0_1 l0_2
theorem qap.mono_l:∀ k,(∀ y0 y1 y2 y3 y4 y5,LeO (qap.l0 k y0 y1 y2 y3 y4 y5) (qap.l0 (k+1) y0 y1 y2 y3 y4 y5))∧(∀ y0 y1 y2 y3 y4 y5 y6 y7 y8 y9,LeO (qap.l1 k y0 y1 y2 y3 y4 y5 y6 y7 y8 y9) (qap.l1 (k+1) y0 y1 y2 y3 y4 y5 y6 y7 y8 y9))
 | 0=>⟨fun _ _ _ _ _ _ r h=>by simp [qap.l0] at h,fun _ _ _ _ _ _ _ _ _ _ r h=>by simp [qap.l1] at h⟩
 | k+1=>by
  obtain ⟨ih0,ih1⟩:=qap.mono_l k
  refine ⟨?_,?_⟩
  ·intro y0 y1 y2 y3 y4 y5
   unfold qap.l0
   repeat' first|(with_reducible exact ih1 _ _ _ _ _ _ _ _ _ _)|(with_reducible exact LeO.refl _)|(with_reducible refine LeO.ite ?_ ?_)
  ·intro y0 y1 y2 y3 y4 y5 y6 y7 y8 y9
   unfold qap.l1
   repeat' first|(with_reducible exact ih0 _ _ _ _ _ _)|(with_reducible exact ih1 _ _ _ _ _ _ _ _ _ _)|(with_reducible exact qcn.mono _ _ _ _ _ _)|(with_reducible exact LeO.refl _)|(with_reducible refine LeO.ite ?_ ?_)|(with_reducible refine LeO.bind ?_ (fun _=>?_))
theorem qap.mono:∀ a0 a1 a2 k,LeO (qap.f k a0 a1 a2) (qap.f (k+1) a0 a1 a2):=by
 intro a0 a1 a2 k
 obtain ⟨ih0,ih1⟩:=qap.mono_l k
 unfold qap.f
 repeat' (with_reducible exact ih0 _ _ _ _ _ _)
end Go.Proofs.YtmfjmbcfaamebaaDoor.X
namespace Go.Proofs.YtmfjmbcfaamebaaDoor.X
open Go.RowKit Go.Proofs.YtmfjmbcfaamebaaDoorW.PrintWords Go.Proofs.YtmfjmbcfaamebaaDoorW.PrintLast Go.Proofs.YtmfjmbcfaamebaaDoorW.PrintMore
attribute [local go_sem] qbp qbz
set_option linter.unusedVariables false
set_option linter.unusedSimpArgs false
def qhj (dom:List (List Int)) (n:Int):List Int→Int→Option Int
 | [],best=>some best
 | d::t,best=>if d=n then qhj dom n t best else if best<0 then qhj dom n t d else if 0≤d∧d<(dom.length:Int)∧best<(dom.length:Int) then (if (dom.getD best.toNat []).length<(dom.getD d.toNat []).length then qhj dom n t d else qhj dom n t best) else none
def rimmOut (dom:List (List Int)):Nat→Nat→List Int→Option (List Int)
 | 0,_,out=>some out
 | m+1,i,out=>if i<dom.length∧out.length<1099511627776 then (qhj dom (i:Int) (dom.getD i []) (-1)).bind fun b=>rimmOut dom m (i+1) (out++[b]) else none
def qcs.f (k:Nat) (a0_0:Bool) (a0_1:Int) (l0_2:List S60):Option (List Int):=(qap.f k a0_0 a0_1 l0_2).bind fun dom=>rimmOut dom l0_2.length 0 []
theorem qcs.mono:∀ a0 a1 a2 k,LeO (qcs.f k a0 a1 a2) (qcs.f (k+1) a0 a1 a2):=by
 intro a0 a1 a2 k
 unfold qcs.f
 exact LeO.bind (qap.mono _ _ _ _) (fun _=>LeO.refl _)
end Go.Proofs.YtmfjmbcfaamebaaDoor.X
namespace Go.Proofs.YtmfjmbcfaamebaaDoor.X
open Go.RowKit Go.Proofs.YtmfjmbcfaamebaaDoorW.PrintWords Go.Proofs.YtmfjmbcfaamebaaDoorW.PrintLast Go.Proofs.YtmfjmbcfaamebaaDoorW.PrintMore
attribute [local go_sem] qbp qbz
set_option linter.unusedVariables false
set_option linter.unusedSimpArgs false
def qaz.l0:Nat→List (List Int)→Int→Int→Bool→Int→List (S60)→Option ((List (List Int)))
 | 0,_,_,_,_,_,_=>none
 | k+1,x3,x7,x8,x294000,x294001,x294002=>if x8<x7 then ((qad.f k x294000 x294001 x294002 x8).bind fun t294=>((qbn.f k t294).bind fun t297=>(if x3.length<5864062014805 then (qaz.l0 k (x3++[t297]) x7 (wrap64 (x8+1)) x294000 x294001 x294002) else (none)))) else (some x3)
def qaz.f (k:Nat) (a0_0:Bool) (a0_1:Int) (l0_2:List (S60)):Option ((List (List Int))):=qaz.l0 k ([]:List (List Int)) (l0_2.length:Int) 0 a0_0 a0_1 l0_2
theorem qaz.mono_l:∀ k,(∀ y0 y1 y2 y3 y4 y5,LeO (qaz.l0 k y0 y1 y2 y3 y4 y5) (qaz.l0 (k+1) y0 y1 y2 y3 y4 y5))
 | 0=>fun _ _ _ _ _ _ r h=>by simp [qaz.l0] at h
 | k+1=>by
  have ih0:=qaz.mono_l k
  ·intro y0 y1 y2 y3 y4 y5
   unfold qaz.l0
   repeat' first|(with_reducible exact ih0 _ _ _ _ _ _)|(with_reducible exact qbn.mono _ _)|(with_reducible exact qad.mono _ _ _ _ _)|(with_reducible exact LeO.refl _)|(with_reducible refine LeO.ite ?_ ?_)|(with_reducible refine LeO.bind ?_ (fun _=>?_))
theorem qaz.mono:∀ a0 a1 a2 k,LeO (qaz.f k a0 a1 a2) (qaz.f (k+1) a0 a1 a2):=by
 intro a0 a1 a2 k
 have ih0:=qaz.mono_l k
 unfold qaz.f
 repeat' (with_reducible exact ih0 _ _ _ _ _ _)
end Go.Proofs.YtmfjmbcfaamebaaDoor.X
namespace Go.Proofs.YtmfjmbcfaamebaaDoor.X
open Go.RowKit Go.Proofs.YtmfjmbcfaamebaaDoorW.PrintWords Go.Proofs.YtmfjmbcfaamebaaDoorW.PrintLast Go.Proofs.YtmfjmbcfaamebaaDoorW.PrintMore
attribute [local go_sem] qbp qbz
set_option linter.unusedVariables false
set_option linter.unusedSimpArgs false
def qfn (k:Nat) (dom:List (List Int)) (a:Int):List Int→List S39→Option (List S39)
 | [],out=>some out
 | b::t,out=>if a<(dom.length:Int)∧out.length<1099511627776 then (qar.f k (dom.getD a.toNat []) b).bind fun h=>qfn k dom a t (if h=true then out++[⟨a,b⟩] else out) else none
def qeu (k:Nat) (dom:List (List Int)):Nat→List (List Int)→List S39→Option (List S39)
 | _,[],out=>some out
 | a,l::t,out=>(qfn k dom (a:Int) l out).bind (qeu k dom (a+1) t)
def qci.f (k:Nat) (a0_0:Bool) (a0_1:Int) (l0_2:List S60):Option (List S39):=
 (qap.f k a0_0 a0_1 l0_2).bind fun dom=>(qaz.f k a0_0 a0_1 l0_2).bind fun s=>qeu k dom 0 s []
theorem qfn.mono (k:Nat) (dom:List (List Int)) (a:Int):∀ (l:List Int) (out:List S39),LeO (qfn k dom a l out) (qfn (k+1) dom a l out)
 | [],_=>LeO.refl _
 | b::t,out=>by
  unfold qfn
  exact LeO.ite (LeO.bind (qar.mono _ _ _) (fun _=>qfn.mono k dom a t _)) (LeO.refl _)
theorem qeu.mono (k:Nat) (dom:List (List Int)):∀ (a:Nat) (l:List (List Int)) (out:List S39),LeO (qeu k dom a l out) (qeu (k+1) dom a l out)
 | _,[],_=>LeO.refl _
 | a,l::t,out=>by
  unfold qeu
  exact LeO.bind (qfn.mono k dom _ l out) (fun _=>qeu.mono k dom _ t _)
theorem qci.mono:∀ a0 a1 a2 k,LeO (qci.f k a0 a1 a2) (qci.f (k+1) a0 a1 a2):=by
 intro a0 a1 a2 k
 unfold qci.f
 exact LeO.bind (qap.mono _ _ _ _) (fun _=>LeO.bind (qaz.mono _ _ _ _) (fun _=>qeu.mono _ _ _ _ _))
end Go.Proofs.YtmfjmbcfaamebaaDoor.X
namespace Go.Proofs.YtmfjmbcfaamebaaDoor.X
open Go.RowKit Go.Proofs.YtmfjmbcfaamebaaDoorW.PrintWords Go.Proofs.YtmfjmbcfaamebaaDoorW.PrintLast Go.Proofs.YtmfjmbcfaamebaaDoorW.PrintMore
attribute [local go_sem] qbp qbz
set_option linter.unusedVariables false
set_option linter.unusedSimpArgs false
attribute [local go_sem high] eqA39
mutual
def qay.l0:Nat→Bool→List (S39)→Int→Int→Bool→Int→List (S60)→Int→Int→Option (List Int)
 | 0,_,_,_,_,_,_,_,_,_=>none
 | k+1,x5,x12,x13,x14,x487000,x487001,x487002,x488000,x488001=>if x14<x13 then (if 0≤x14 then (if x14<(x12.length:Int) then (if x5=true then (qay.l0 k true x12 x13 (wrap64 (x14+1)) x487000 x487001 x487002 x488000 x488001) else (qay.l0 k (((qch x12 x14).f0)==x488000&&(((qch x12 x14).f1)==x488001)) x12 x13 (wrap64 (x14+1)) x487000 x487001 x487002 x488000 x488001)) else (none)) else (none)) else (if x5=true then ((qal.f k x487000 x487001 x487002 0 ([]:List Int)).bind fun t496=>(qay.l1 k (([x488001]:List Int)) t496 (t496.length:Int) 0 x487000 x487001 x487002 x488000 x488001)) else (some ([]:List Int)))
def qay.l1:Nat→List Int→List Int→Int→Int→Bool→Int→List (S60)→Int→Int→Option (List Int)
 | 0,_,_,_,_,_,_,_,_,_=>none
 | k+1,x8,x31,x32,x33,x487000,x487001,x487002,x488000,x488001=>if x33<x32 then (if 0≤x33 then (if x33<(x31.length:Int) then ((qal.f k x487000 x487001 x487002 (rd x31 x33) (([x488001]:List Int))).bind fun t506=>((qar.f k t506 x488000).bind fun t509=>(if t509=true then (if x8.length<17592186044416 then (qay.l1 k (x8++[rd x31 x33]) x31 x32 (wrap64 (x33+1)) x487000 x487001 x487002 x488000 x488001) else (none)) else (qay.l1 k x8 x31 x32 (wrap64 (x33+1)) x487000 x487001 x487002 x488000 x488001)))) else (none)) else (none)) else ((qbn.f k x8).bind fun t499=>(some t499))
end
def qay.f (k:Nat) (a0_0:Bool) (a0_1:Int) (l0_2:List (S60)) (a1_0:Int) (a1_1:Int):Option (List Int):=(qci.f k a0_0 a0_1 l0_2).bind fun t488=>(qay.l0 k false t488 (t488.length:Int) 0 a0_0 a0_1 l0_2 a1_0 a1_1)
theorem qay.mono_l:∀ k,(∀ y0 y1 y2 y3 y4 y5 y6 y7 y8,LeO (qay.l0 k y0 y1 y2 y3 y4 y5 y6 y7 y8) (qay.l0 (k+1) y0 y1 y2 y3 y4 y5 y6 y7 y8))∧(∀ y0 y1 y2 y3 y4 y5 y6 y7 y8,LeO (qay.l1 k y0 y1 y2 y3 y4 y5 y6 y7 y8) (qay.l1 (k+1) y0 y1 y2 y3 y4 y5 y6 y7 y8))
 | 0=>⟨fun _ _ _ _ _ _ _ _ _ r h=>by simp [qay.l0] at h,fun _ _ _ _ _ _ _ _ _ r h=>by simp [qay.l1] at h⟩
 | k+1=>by
  obtain ⟨ih0,ih1⟩:=qay.mono_l k
  refine ⟨?_,?_⟩
  ·intro y0 y1 y2 y3 y4 y5 y6 y7 y8
   unfold qay.l0
   repeat' first|(with_reducible exact ih0 _ _ _ _ _ _ _ _ _)|(with_reducible exact ih1 _ _ _ _ _ _ _ _ _)|(with_reducible exact qal.mono _ _ _ _ _ _)|(with_reducible exact LeO.refl _)|(with_reducible refine LeO.ite ?_ ?_)|(with_reducible refine LeO.bind ?_ (fun _=>?_))
  ·intro y0 y1 y2 y3 y4 y5 y6 y7 y8
   unfold qay.l1
   repeat' first|(with_reducible exact ih1 _ _ _ _ _ _ _ _ _)|(with_reducible exact qar.mono _ _ _)|(with_reducible exact qbn.mono _ _)|(with_reducible exact qal.mono _ _ _ _ _ _)|(with_reducible exact LeO.refl _)|(with_reducible refine LeO.ite ?_ ?_)|(with_reducible refine LeO.bind ?_ (fun _=>?_))
theorem qay.mono:∀ a0 a1 a2 a3 a4 k,LeO (qay.f k a0 a1 a2 a3 a4) (qay.f (k+1) a0 a1 a2 a3 a4):=by
 intro a0 a1 a2 a3 a4 k
 obtain ⟨ih0,ih1⟩:=qay.mono_l k
 unfold qay.f
 repeat' first|(with_reducible exact ih0 _ _ _ _ _ _ _ _ _)|(with_reducible exact qci.mono _ _ _ _)|(with_reducible refine LeO.bind ?_ (fun _=>?_))
end Go.Proofs.YtmfjmbcfaamebaaDoor.X
namespace Go.Proofs.YtmfjmbcfaamebaaDoor.X
open Go.RowKit Go.Proofs.YtmfjmbcfaamebaaDoorW.PrintWords Go.Proofs.YtmfjmbcfaamebaaDoorW.PrintLast Go.Proofs.YtmfjmbcfaamebaaDoorW.PrintMore
attribute [local go_sem] qbp qbz
set_option linter.unusedVariables false
set_option linter.unusedSimpArgs false
mutual
def qau.l0:Nat→List (List Int)→Int→Int→Bool→Int→List (S60)→Option ((List (List Int)))
 | 0,_,_,_,_,_,_=>none
 | k+1,x3,x9,x10,x389000,x389001,x389002=>if x10<x9 then (qau.l1 k x3 x10 ([]:List Int) x9 x10 (x389002.length:Int) 0 x389000 x389001 x389002) else (some x3)
def qau.l1:Nat→List (List Int)→Int→List Int→Int→Int→Int→Int→Bool→Int→List (S60)→Option ((List (List Int)))
 | 0,_,_,_,_,_,_,_,_,_,_=>none
 | k+1,x3,x4,x5,x9,x10,x15,x16,x389000,x389001,x389002=>if x16<x15 then ((qad.f k x389000 x389001 x389002 x16).bind fun t392=>((qar.f k t392 x4).bind fun t395=>(if t395=true then (if x5.length<17592186044416 then (qau.l1 k x3 x4 (x5++[x16]) x9 x10 x15 (wrap64 (x16+1)) x389000 x389001 x389002) else (none)) else (qau.l1 k x3 x4 x5 x9 x10 x15 (wrap64 (x16+1)) x389000 x389001 x389002)))) else (if x3.length<5864062014805 then (qau.l0 k (x3++[x5]) x9 (wrap64 (x10+1)) x389000 x389001 x389002) else (none))
end
def qau.f (k:Nat) (a0_0:Bool) (a0_1:Int) (l0_2:List (S60)):Option ((List (List Int))):=qau.l0 k ([]:List (List Int)) (l0_2.length:Int) 0 a0_0 a0_1 l0_2
theorem qau.mono_l:∀ k,(∀ y0 y1 y2 y3 y4 y5,LeO (qau.l0 k y0 y1 y2 y3 y4 y5) (qau.l0 (k+1) y0 y1 y2 y3 y4 y5))∧(∀ y0 y1 y2 y3 y4 y5 y6 y7 y8 y9,LeO (qau.l1 k y0 y1 y2 y3 y4 y5 y6 y7 y8 y9) (qau.l1 (k+1) y0 y1 y2 y3 y4 y5 y6 y7 y8 y9))
 | 0=>⟨fun _ _ _ _ _ _ r h=>by simp [qau.l0] at h,fun _ _ _ _ _ _ _ _ _ _ r h=>by simp [qau.l1] at h⟩
 | k+1=>by
  obtain ⟨ih0,ih1⟩:=qau.mono_l k
  refine ⟨?_,?_⟩
  ·intro y0 y1 y2 y3 y4 y5
   unfold qau.l0
   repeat' first|(with_reducible exact ih1 _ _ _ _ _ _ _ _ _ _)|(with_reducible exact LeO.refl _)|(with_reducible refine LeO.ite ?_ ?_)
  ·intro y0 y1 y2 y3 y4 y5 y6 y7 y8 y9
   unfold qau.l1
   repeat' first|(with_reducible exact ih0 _ _ _ _ _ _)|(with_reducible exact ih1 _ _ _ _ _ _ _ _ _ _)|(with_reducible exact qar.mono _ _ _)|(with_reducible exact qad.mono _ _ _ _ _)|(with_reducible exact LeO.refl _)|(with_reducible refine LeO.ite ?_ ?_)|(with_reducible refine LeO.bind ?_ (fun _=>?_))
theorem qau.mono:∀ a0 a1 a2 k,LeO (qau.f k a0 a1 a2) (qau.f (k+1) a0 a1 a2):=by
 intro a0 a1 a2 k
 obtain ⟨ih0,ih1⟩:=qau.mono_l k
 unfold qau.f
 repeat' (with_reducible exact ih0 _ _ _ _ _ _)
end Go.Proofs.YtmfjmbcfaamebaaDoor.X
namespace Go.Proofs.YtmfjmbcfaamebaaDoor.X
noncomputable section
open Go.RowKit Go.Proofs.YtmfjmbcfaamebaaDoorW.PrintWords Go.Proofs.YtmfjmbcfaamebaaDoorW.PrintLast Go.Proofs.YtmfjmbcfaamebaaDoorW.PrintMore
attribute [local go_sem] qbp qbz
set_option linter.unusedVariables false
set_option linter.unusedSimpArgs false
def qdu.f (k:Nat) (a0_0:Bool) (a0_1:Int) (l0_2:List (S60)):Option (Bool):=(qbw.f k).bind fun t400=>(if t400=true then ((qaw.f k a0_0 a0_1 l0_2).bind fun t401=>(if t401=true then ((qbc.f k a0_0 a0_1 l0_2).bind fun t402=>((qaz.f k a0_0 a0_1 l0_2).bind fun t405=>((qby.f k t402 t405).bind fun t408=>(if t408=true then ((qbs.f k a0_0 a0_1 l0_2).bind fun t409=>((qau.f k a0_0 a0_1 l0_2).bind fun t412=>((qby.f k t409 t412).bind fun t415=>(some t415)))) else (some false))))) else (some true))) else (some false))
theorem qdu.mono:∀ a0 a1 a2 k,LeO (qdu.f k a0 a1 a2) (qdu.f (k+1) a0 a1 a2):=by
 intro a0 a1 a2 k
 unfold qdu.f
 repeat' first|(with_reducible exact qbs.mono _ _ _ _)|(with_reducible exact qbc.mono _ _ _ _)|(with_reducible exact qbw.mono _)|(with_reducible exact qby.mono _ _ _)|(with_reducible exact qau.mono _ _ _ _)|(with_reducible exact qaw.mono _ _ _ _)|(with_reducible exact qaz.mono _ _ _ _)|(with_reducible exact LeO.refl _)|(with_reducible refine LeO.ite ?_ ?_)|(with_reducible refine LeO.bind ?_ (fun _=>?_))
end
end Go.Proofs.YtmfjmbcfaamebaaDoor.X
namespace Go.Proofs.YtmfjmbcfaamebaaDoor.X
open Go.RowKit Go.Proofs.YtmfjmbcfaamebaaDoorW.PrintWords Go.Proofs.YtmfjmbcfaamebaaDoorW.PrintLast Go.Proofs.YtmfjmbcfaamebaaDoorW.PrintMore
inductive Rch (T:Int→List Int) (av:Int→Prop):Int→Int→Prop
 | refl {a:Int}:¬ av a→Rch T av a a
 | step {a b c:Int}:Rch T av a b→c∈T b→¬ av c→Rch T av a c
section
variable {T:Int→List Int} {av av':Int→Prop} {a b c:Int}
theorem Rch.first (h:Rch T av a b):¬ av a:=by
 induction h with
 | refl h=>exact h
 | step _ _ _ ih=>exact ih
theorem Rch.last (h:Rch T av a b):¬ av b:=by
 cases h with
 | refl h=>exact h
 | step _ _ h=>exact h
theorem Rch.mono (hm:∀ x,av' x→av x) (h:Rch T av a b):Rch T av' a b:=by
 induction h with
 | refl h=>exact .refl (fun e=>h (hm _ e))
 | step _ h1 h2 ih=>exact .step ih h1 (fun e=>h2 (hm _ e))
theorem Rch.trans (h:Rch T av a b) (h':Rch T av b c):Rch T av a c:=by
 induction h' with
 | refl _=>exact h
 | step _ h1 h2 ih=>exact .step ih h1 h2
theorem Rch.split (h:Rch T av a c) (b:Int):Rch T (fun x=>av x∨x=b) a c∨Rch T av a b:=by
 induction h with
 | @refl h=>
  by_cases e:a=b
  ·subst e;exact .inr (.refl h)
  ·exact .inl (.refl (fun hh=>hh.elim h e))
 | @step x y h0 h1 h2 ih=>
  rcases ih with ih|ih
  ·by_cases e:y=b
   ·subst e;exact .inr (.step h0 h1 h2)
   ·exact .inl (.step ih h1 (fun hh=>hh.elim h2 e))
  ·exact .inr ih
theorem Rch.congr (hm:∀ x,av x↔av' x):Rch T av a b↔Rch T av' a b:=⟨mono (fun x h=>(hm x).2 h),mono (fun x h=>(hm x).1 h)⟩
theorem Rch.closed {P:Int→Prop} (h:Rch T av a b) (h0:P a) (hc:∀ x,P x→∀ y∈T x,¬ av y→P y):P b:=by
 induction h with
 | refl _=>exact h0
 | step _ h1 h2 ih=>exact hc _ (ih) _ h1 h2
end
def noN:Int→Prop:=fun _=>False
def Dm (T:Int→List Int) (r d n:Int):Prop:=Rch T noN r n∧¬ Rch T (fun x=>x=d) r n
section
variable {T:Int→List Int} {r a b c n:Int}
theorem Dm.self (h:Rch T noN r n):Dm T r n n:=⟨h,fun h'=>h'.last rfl⟩
theorem Dm.rch (h:Dm T r a n):Rch T noN r a:=by
 rcases h.1.split a with h'|h'
 ·exact absurd (h'.mono (fun x e=>.inr e)) h.2
 ·exact h'
theorem Dm.trans (h1:Dm T r a b) (h2:Dm T r b c):Dm T r a c:=by
 refine ⟨h2.1,fun h=>?_⟩
 rcases h.split b with h'|h'
 ·exact h2.2 (h'.mono (fun x e=>.inr e))
 ·exact h1.2 h'
theorem Dm.antisymm (h1:Dm T r a b) (h2:Dm T r b a):a=b:=by
 by_cases hab:a=b
 ·exact hab
 ·exfalso
  have key:∀ x,Rch T noN r x→Rch T (fun x=>x=a∨x=b) r x∨Rch T (fun x=>x=b) r a∨Rch T (fun x=>x=a) r b:=by
   intro x hx
   induction hx with
   | refl _=>
    by_cases e:r=a
    ·subst e;exact .inr (.inl (.refl hab))
    ·by_cases e':r=b
     ·subst e';exact .inr (.inr (.refl (fun h=>hab h.symm)))
     ·exact .inl (.refl (fun hh=>hh.elim e e'))
   | @step x y _ hE _ ih=>
    rcases ih with ih|ih
    ·by_cases e:y=a
     ·subst e;exact .inr (.inl (.step (ih.mono (fun x e=>.inr e)) hE hab))
     ·by_cases e':y=b
      ·subst e';exact .inr (.inr (.step (ih.mono (fun x e=>.inl e)) hE (fun h=>hab h.symm)))
      ·exact .inl (.step ih hE (fun hh=>hh.elim e e'))
    ·exact .inr ih
  rcases key a h2.1 with h|h|h
  ·exact h.last (.inl rfl)
  ·exact h2.2 h
  ·exact h1.2 h
theorem Dm.chain (h1:Dm T r a n) (h2:Dm T r b n):Dm T r a b∨Dm T r b a:=by
 by_cases hab:a=b
 ·subst hab;exact .inl (Dm.self h1.rch)
 ·by_cases ha:Dm T r a b
  ·exact .inl ha
  ·by_cases hb:Dm T r b a
   ·exact .inr hb
   ·exfalso
    have e1:Rch T (fun x=>x=a) r b:=Classical.byContradiction fun h=>ha ⟨h2.rch,h⟩
    have e2:Rch T (fun x=>x=b) r a:=Classical.byContradiction fun h=>hb ⟨h1.rch,h⟩
    have key:∀ x,Rch T noN r x→Rch T (fun x=>x=a) r x∨Rch T (fun x=>x=b) r x:=by
     intro x hx
     induction hx with
     | refl _=>
      by_cases e:r=a
      ·subst e;exact .inr (.refl hab)
      ·exact .inl (.refl e)
     | @step x y _ h1 _ ih=>
      rcases ih with ih|ih
      ·by_cases e:y=a
       ·subst e;exact .inr e2
       ·exact .inl (.step ih h1 e)
      ·by_cases e:y=b
       ·subst e;exact .inl e1
       ·exact .inr (.step ih h1 e)
    rcases key n h1.1 with h|h
    ·exact h1.2 h
    ·exact h2.2 h
end
inductive Dfs (T:Int→List Int):List Int→List Int→List Int→List Int→Prop
 | nil {s:List Int}:Dfs T s [] [] s
 | skip {s:List Int} {n:Int} {ts p s':List Int}:n∈s→Dfs T s ts p s'→Dfs T s (n::ts) p s'
 | go {s:List Int} {n:Int} {ts p1 s1 p2 s2:List Int}:n∉s→Dfs T (s++[n]) (T n) p1 s1→Dfs T s1 ts p2 s2→Dfs T s (n::ts) (p1++n::p2) s2
def qfi (U s:List Int):Nat:=(U.filter (fun x=>decide (x∉s))).length
theorem leftIn_le {U s s':List Int} (h:∀ x∈s,x∈s'):qfi U s'≤qfi U s:=by
 unfold qfi
 induction U with
 | nil=>simp
 | cons a t ih=>
  simp only [List.filter_cons]
  by_cases h1:a∈s'
  ·by_cases h2:a∈s
   ·simpa [h1,h2] using ih
   ·simp [h1,h2];simp at ih;omega
  ·have h2:a∉s:=fun e=>h1 (h _ e)
   simpa [h1,h2] using ih
theorem leftIn_lt {U s:List Int} {n:Int} (hU:n∈U) (hs:n∉s):qfi U (s++[n])<qfi U s:=by
 induction U with
 | nil=>simp at hU
 | cons a t ih=>
  have hle:qfi t (s++[n])≤qfi t s:=leftIn_le (fun x h=>List.mem_append_left _ h)
  unfold qfi at *
  simp only [List.filter_cons]
  by_cases e:a=n
  ·subst e
   simp [hs];simp at hle;omega
  ·have:=ih (by simpa [Ne.symm e] using hU)
   by_cases h2:a∈s
   ·simp [h2];simpa using this
   ·simp [h2,e];simpa using this
theorem Dfs.exists {T:Int→List Int} {U:List Int} (hT:∀ x∈U,∀ y∈T x,y∈U):∀ (m:Nat) (s ts:List Int),qfi U s≤m→(∀ t∈ts,t∈U)→∃ p s',Dfs T s ts p s'∧∀ x∈s,x∈s':=by
 intro m
 induction m with
 | zero=>
  intro s ts
  induction ts with
  | nil=>intro _ _;exact ⟨[],s,.nil,fun _ h=>h⟩
  | cons t ts ih=>
   intro hm ht
   have hts:t∈s:=Classical.byContradiction fun h=>by have:=leftIn_lt (ht t (List.mem_cons_self ..)) h;omega
   obtain ⟨p,s',h1,h2⟩:=ih hm (fun x h=>ht x (List.mem_cons_of_mem _ h))
   exact ⟨p,s',.skip hts h1,h2⟩
 | succ m ihm=>
  intro s ts
  induction ts generalizing s with
  | nil=>intro _ _;exact ⟨[],s,.nil,fun _ h=>h⟩
  | cons t ts ih=>
   intro hm ht
   by_cases hts:t∈s
   ·obtain ⟨p,s',h1,h2⟩:=ih s hm (fun x h=>ht x (List.mem_cons_of_mem _ h))
    exact ⟨p,s',.skip hts h1,h2⟩
   ·have hU:=ht t (List.mem_cons_self ..)
    have hlt:=leftIn_lt hU hts
    obtain ⟨p1,s1,h1,h2⟩:=ihm (s++[t]) (T t) (by omega) (hT t hU)
    have hs1:∀ x∈s,x∈s1:=fun x h=>h2 x (List.mem_append_left _ h)
    obtain ⟨p2,s2,h3,h4⟩:=ih s1 (Nat.le_trans (leftIn_le hs1) hm) (fun x h=>ht x (List.mem_cons_of_mem _ h))
    exact ⟨_,s2,.go hts h1 h3,fun x h=>h4 x (hs1 x h)⟩
section
variable {T:Int→List Int} {s ts p s':List Int}
theorem Dfs.mem (h:Dfs T s ts p s'):∀ x,x∈s'↔x∈s∨x∈p:=by
 induction h with
 | nil=>simp
 | skip _ _ ih=>exact ih
 | go h0 _ _ ih1 ih2=>
  intro x
  rw [ih2,ih1]
  simp only [List.mem_append,List.mem_cons,List.not_mem_nil,or_false]
  constructor
  ·rintro (((h|h)|h)|h)
   ·exact .inl h
   ·exact .inr (.inr (.inl h))
   ·exact .inr (.inl h)
   ·exact .inr (.inr (.inr h))
  ·rintro (h|h|h|h)
   ·exact .inl (.inl (.inl h))
   ·exact .inl (.inr h)
   ·exact .inl (.inl (.inr h))
   ·exact .inr h
theorem Dfs.len (h:Dfs T s ts p s'):s'.length=s.length+p.length:=by
 induction h with
 | nil=>simp
 | skip _ _ ih=>exact ih
 | go _ _ _ ih1 ih2=>simp at ih1 ih2 ⊢;omega
theorem Dfs.fresh (h:Dfs T s ts p s'):∀ x∈p,x∉s:=by
 induction h with
 | nil=>simp
 | skip _ _ ih=>exact ih
 | @go s n ts p1 s1 p2 s2 h0 h1 _ ih1 ih2=>
  intro x hx hs
  rcases List.mem_append.1 hx with h|h
  ·exact ih1 x h (List.mem_append_left _ hs)
  ·rcases List.mem_cons.1 h with rfl|h
   ·exact h0 hs
   ·exact ih2 x h ((h1.mem x).2 (.inl (List.mem_append_left _ hs)))
theorem Dfs.nodup (h:Dfs T s ts p s'):p.Nodup:=by
 induction h with
 | nil=>simp
 | skip _ _ ih=>exact ih
 | @go s n ts p1 s1 p2 s2 h0 h1 h2 ih1 ih2=>
  rw [List.nodup_append]
  refine ⟨ih1,?_,?_⟩
  ·rw [List.nodup_cons]
   exact ⟨fun h=>h2.fresh n h ((h1.mem n).2 (.inl (by simp))),ih2⟩
  ·intro a ha b hb e
   subst e
   rcases List.mem_cons.1 hb with rfl|hb
   ·exact h1.fresh a ha (by simp)
   ·exact h2.fresh a hb ((h1.mem a).2 (.inr ha))
theorem Dfs.reach (h:Dfs T s ts p s'):∀ x∈p,∃ t∈ts,Rch T (fun y=>y∈s) t x:=by
 induction h with
 | nil=>simp
 | skip _ _ ih=>
  intro x hx
  obtain ⟨t,ht,hr⟩:=ih x hx
  exact ⟨t,List.mem_cons_of_mem _ ht,hr⟩
 | @go s n ts p1 s1 p2 s2 h0 h1 _ ih1 ih2=>
  intro x hx
  rcases List.mem_append.1 hx with h|h
  ·obtain ⟨t,ht,hr⟩:=ih1 x h
   have hr':=hr.mono (av':=fun y=>y∈s) (fun y hy=>List.mem_append_left _ hy)
   exact ⟨n,List.mem_cons_self ..,(Rch.step (.refl h0) ht hr'.first).trans hr'⟩
  ·rcases List.mem_cons.1 h with rfl|h
   ·exact ⟨x,List.mem_cons_self ..,.refl h0⟩
   ·obtain ⟨t,ht,hr⟩:=ih2 x h
    exact ⟨t,List.mem_cons_of_mem _ ht,hr.mono (fun y hy=>(h1.mem y).2 (.inl (List.mem_append_left _ hy)))⟩
theorem Dfs.done (h:Dfs T s ts p s'):(∀ t∈ts,t∈s')∧∀ x∈p,∀ y∈T x,y∈s':=by
 induction h with
 | nil=>simp
 | skip h0 h1 ih=>
  refine ⟨fun t ht=>?_,ih.2⟩
  rcases List.mem_cons.1 ht with rfl|ht
  ·exact (h1.mem _).2 (.inl h0)
  ·exact ih.1 t ht
 | @go s n ts p1 s1 p2 s2 h0 h1 h2 ih1 ih2=>
  have up:∀ x,x∈s1→x∈s2:=fun x h=>(h2.mem x).2 (.inl h)
  refine ⟨fun t ht=>?_,fun x hx y hy=>?_⟩
  ·rcases List.mem_cons.1 ht with rfl|ht
   ·exact up _ ((h1.mem _).2 (.inl (by simp)))
   ·exact ih2.1 t ht
  ·rcases List.mem_append.1 hx with h|h
   ·exact up _ (ih1.2 x h y hy)
   ·rcases List.mem_cons.1 h with rfl|h
    ·exact up _ (ih1.1 y hy)
    ·exact ih2.2 x h y hy
theorem Dfs.found {n:Int} (h:Dfs T s [n] p s'):∀ x,x∈p↔Rch T (fun y=>y∈s) n x:=by
 intro x
 constructor
 ·intro hx
  obtain ⟨t,ht,hr⟩:=h.reach x hx
  rw [List.mem_singleton.1 ht] at hr
  exact hr
 ·intro hr
  have in':∀ y,y∈s'→y∉s→y∈p:=fun y h1 h2=>((h.mem y).1 h1).resolve_left h2
  exact hr.closed (in' n (h.done.1 n (by simp)) hr.first) (fun y hy z hz hn=>in' z (h.done.2 y hy z hz) hn)
end
end Go.Proofs.YtmfjmbcfaamebaaDoor.X
namespace Go.Proofs.YtmfjmbcfaamebaaDoor.X
open Go.RowKit Go.Proofs.YtmfjmbcfaamebaaDoorW.PrintWords Go.Proofs.YtmfjmbcfaamebaaDoorW.PrintLast Go.Proofs.YtmfjmbcfaamebaaDoorW.PrintMore
theorem word_f (ws:List Int) (j:Nat):qca.f ws (j:Int)=some (ws.getD j 0):=by
 unfold qca.f
 by_cases h:j<ws.length
 ·rw [if_pos (by omega),if_pos (by omega),qhr]
 ·rw [if_neg (by omega),List.getD_eq_getElem?_getD,List.getElem?_eq_none (by omega)];rfl
theorem shr_u64 (v b:Nat) (hb:b<64):shr .u64 (v:Int) (b:Int)=((v/2 ^ b:Nat):Int):=by
 unfold shr
 rw [Int.toNat_natCast,show min b IntKind.u64.bits=b from Nat.min_eq_left (Nat.le_of_lt hb)]
 simp
theorem Has_f {ws:List Int} (hw:qcu ws) (x:Int):qbx.f ws x=some (decide (0≤x∧x≤65535)&&tb ws x.toNat):=by
 unfold qbx.f
 rw [valid_f,Option.bind_some]
 by_cases hv:0≤x∧x≤65535
 ·obtain ⟨n,rfl⟩:=Int.eq_ofNat_of_zero_le hv.1
  obtain ⟨q,b,hb64,hnq⟩:∃ q b:Nat,b<64∧n=q*64+b:=⟨n/64,n % 64,Nat.mod_lt _ (by decide),by omega⟩
  obtain ⟨h0,h1⟩:=hw.getD q
  obtain ⟨v,hv'⟩:=Int.eq_ofNat_of_zero_le h0
  have hvb:v<18446744073709551616:=by omega
  have e1:n/64=q:=by omega
  have e2:n % 64=b:=by omega
  have hd:v/2 ^ b<18446744073709551616:=Nat.lt_of_le_of_lt (Nat.div_le_self _ _) hvb
  have e3:bits .and .u64 ((v/2 ^ b:Nat):Int) 1=((v/2 ^ b &&& 1:Nat):Int):=bits_and_u64_nat _ 1 hd (by omega)
  rw [decide_eq_true hv,if_pos rfl,quo64 (by omega) hnq hb64,rem64 hnq hb64,word_f,Option.bind_some,if_pos (by omega),hv',shr_u64 _ _ hb64,e3,Bool.true_and,tb,Int.toNat_natCast,e1,e2,hv',Int.toNat_natCast,Nat.testBit_eq_decide_div_mod_eq,Nat.and_one_is_mod]
  congr 1
  rw [Bool.eq_iff_iff,beq_iff_eq,decide_eq_true_eq]
  omega
 ·rw [decide_eq_false hv,if_neg (by decide)]
  rfl
theorem tb_set {ws:List Int} {i:Nat} (hi:i<ws.length) (v:Int) (x:Nat):tb (ws.set i v) x=if x/64=i then v.toNat.testBit (x % 64) else tb ws x:=by
 unfold tb
 by_cases h:x/64=i
 ·rw [if_pos h,h,List.getD_eq_getElem?_getD,List.getElem?_set_self hi];rfl
 ·rw [if_neg h,List.getD_eq_getElem?_getD,List.getElem?_set_ne (fun e=>h e.symm),← List.getD_eq_getElem?_getD]
theorem qcu.set' {ws:List Int} (hw:qcu ws) {i:Nat} {v:Int} (h0:0≤v) (h1:v<18446744073709551616):qcu (ws.set i v):=by
 intro w h
 rcases List.mem_or_eq_of_mem_set h with h|rfl
 ·exact hw w h
 ·exact ⟨h0,h1⟩
theorem bits_or_ok {a b:Int} (ha:0≤a∧a<18446744073709551616) (hb:0≤b∧b<18446744073709551616):0≤Go.bits .or .u64 a b∧Go.bits .or .u64 a b<18446744073709551616∧∀ j,(Go.bits .or .u64 a b).toNat.testBit j=(a.toNat.testBit j||b.toNat.testBit j):=by
 obtain ⟨m,rfl⟩:=Int.eq_ofNat_of_zero_le ha.1
 obtain ⟨n,rfl⟩:=Int.eq_ofNat_of_zero_le hb.1
 have h1:m<2 ^ 64:=by omega
 have h2:n<2 ^ 64:=by omega
 have:=Nat.or_lt_two_pow h1 h2
 rw [bits_or_u64_nat m n (by omega) (by omega)]
 refine ⟨by omega,by omega,fun j=>?_⟩
 rw [Int.toNat_natCast,Int.toNat_natCast,Int.toNat_natCast,Nat.testBit_or]
theorem bits_andNot_ok {a b:Int} (ha:0≤a∧a<18446744073709551616) (hb:0≤b∧b<18446744073709551616):0≤Go.bits .andNot .u64 a b∧Go.bits .andNot .u64 a b<18446744073709551616∧∀ j,j<64→(Go.bits .andNot .u64 a b).toNat.testBit j=(a.toNat.testBit j&&!b.toNat.testBit j):=by
 obtain ⟨m,rfl⟩:=Int.eq_ofNat_of_zero_le ha.1
 obtain ⟨n,rfl⟩:=Int.eq_ofNat_of_zero_le hb.1
 have h2:n<2 ^ 64:=by omega
 have h3:m &&& (18446744073709551615-n)<2 ^ 64:=Nat.and_lt_two_pow _ (by omega)
 rw [u64_andNot_nat m n (by omega) (by omega)]
 refine ⟨by omega,by omega,fun j hj=>?_⟩
 have:=Nat.testBit_two_pow_sub_succ h2 j
 rw [show 2 ^ 64-(n+1)=18446744073709551615-n by omega] at this
 rw [Int.toNat_natCast,Int.toNat_natCast,Int.toNat_natCast,Nat.testBit_and,this,decide_eq_true hj,Bool.true_and]
theorem Union_from {s t:List Int} (hs:qcu s) (ht:qcu t) (n:Nat) (hn:n≤1024):∀ (m i:Nat) (ws:List Int),i+m=n→ws.length=n→qcu ws→
  ∃ r,Ev (fun k=>qah.l0 k ws (n:Int) (i:Int) s t) r∧GS r∧∀ x,tb r x=if x/64<i∨n≤x/64 then tb ws x else (tb s x||tb t x)
 | 0,i,ws,hi,hl,hw=>by
  obtain ⟨r,h1,h2,h3⟩:=trimmed_ev hw (by omega)
  refine ⟨r,Ev.next (Ev.bind h1 (Ev.const r)) (fun k=>?_),h3,fun x=>?_⟩
  ·rw [qah.l0,if_neg (by omega)]
  ·rw [h2,if_pos (by omega)]
 | m+1,i,ws,hi,hl,hw=>by
  obtain ⟨h0,h1,h2⟩:=bits_or_ok (hs.getD i) (ht.getD i)
  have hil:i<ws.length:=by omega
  obtain ⟨r,h3,h4,h5⟩:=Union_from hs ht n hn m (i+1) (ws.set i (Go.bits .or .u64 (s.getD i 0) (t.getD i 0))) (by omega) (by rw [List.length_set,hl]) (hw.set' h0 h1)
  refine ⟨r,Ev.next h3 (fun k=>?_),h4,fun x=>?_⟩
  ·have c1:((i:Int)<(n:Int))=True:=eq_true (by omega)
   have c2:(0≤(i:Int))=True:=eq_true (by omega)
   have c3:((i:Int)<(ws.length:Int))=True:=eq_true (by omega)
   have hw':=qcv (show i<9223372036854775807 by omega)
   rw [qah.l0]
   simp only [c1,c2,c3,word_f,qdd.f,hw',if_true,Option.bind_some,Int.toNat_natCast]
  ·rw [h5]
   by_cases e:x/64=i
   ·rw [if_pos (by omega),if_neg (by omega),tb_set hil,if_pos e,h2]
    unfold tb
    rw [e]
   ·rw [tb_set hil,if_neg e]
    by_cases e2:x/64<i∨n≤x/64
    ·rw [if_pos e2,if_pos (by omega)]
    ·rw [if_neg e2,if_neg (by omega)]
theorem Minus_from {s t:List Int} (hs:qcu s) (ht:qcu t) (n:Nat) (hn:n≤1024):∀ (m i:Nat) (ws:List Int),i+m=n→ws.length=n→qcu ws→
  ∃ r,Ev (fun k=>qai.l0 k ws (n:Int) (i:Int) s t) r∧GS r∧∀ x,tb r x=if x/64<i∨n≤x/64 then tb ws x else (tb s x&&!tb t x)
 | 0,i,ws,hi,hl,hw=>by
  obtain ⟨r,h1,h2,h3⟩:=trimmed_ev hw (by omega)
  refine ⟨r,Ev.next (Ev.bind h1 (Ev.const r)) (fun k=>?_),h3,fun x=>?_⟩
  ·rw [qai.l0,if_neg (by omega)]
  ·rw [h2,if_pos (by omega)]
 | m+1,i,ws,hi,hl,hw=>by
  obtain ⟨h0,h1,h2⟩:=bits_andNot_ok (hs.getD i) (ht.getD i)
  have hil:i<ws.length:=by omega
  obtain ⟨r,h3,h4,h5⟩:=Minus_from hs ht n hn m (i+1) (ws.set i (Go.bits .andNot .u64 (s.getD i 0) (t.getD i 0))) (by omega) (by rw [List.length_set,hl]) (hw.set' h0 h1)
  refine ⟨r,Ev.next h3 (fun k=>?_),h4,fun x=>?_⟩
  ·have c1:((i:Int)<(n:Int))=True:=eq_true (by omega)
   have c2:(0≤(i:Int))=True:=eq_true (by omega)
   have c3:((i:Int)<(ws.length:Int))=True:=eq_true (by omega)
   have hw':=qcv (show i<9223372036854775807 by omega)
   rw [qai.l0]
   simp only [c1,c2,c3,word_f,qdg.f,hw',if_true,Option.bind_some,Int.toNat_natCast]
  ·rw [h5]
   by_cases e:x/64=i
   ·rw [if_pos (by omega),if_neg (by omega),tb_set hil,if_pos e,h2 _ (Nat.mod_lt _ (by decide))]
    unfold tb
    rw [e]
   ·rw [tb_set hil,if_neg e]
    by_cases e2:x/64<i∨n≤x/64
    ·rw [if_pos e2,if_pos (by omega)]
    ·rw [if_neg e2,if_neg (by omega)]
theorem mx_nat (a b:Nat):mx (a:Int) (b:Int)=((max a b:Nat):Int):=by unfold mx;omega
theorem tb_zeros (n x:Nat):tb (List.replicate n 0) x=false:=by
 unfold tb
 rw [List.getD_eq_getElem?_getD,List.getElem?_replicate]
 split <;> simp
theorem qcu.zeros (n:Nat):qcu (List.replicate n 0):=by
 intro w h
 obtain ⟨_,rfl⟩:=List.mem_replicate.1 h
 omega
theorem tb_out {ws:List Int} {x:Nat} (h:ws.length≤x/64):tb ws x=false:=by
 cases e:tb ws x with
 | false=>rfl
 | true=>have:=tb_len e;omega
theorem Union_ev {s t:List Int} (hs:GS s) (ht:GS t):∃ r,Ev (fun k=>qcf.f k s t) r∧GS r∧∀ x,tb r x=(tb s x||tb t x):=by
 obtain ⟨n,hn⟩:∃ n,max s.length t.length=n:=⟨_,rfl⟩
 have hn2:n≤1024:=by have:=hs.len;have:=ht.len;omega
 obtain ⟨r,h1,h2,h3⟩:=Union_from hs.wd ht.wd n hn2 n 0 (List.replicate n 0) (by omega) (by simp) (.zeros n)
 refine ⟨r,(Ev.bind h1 (Ev.const r)).congr (fun k=>?_),h2,fun x=>?_⟩
 ·unfold qcf.f qah.f
  have c1:(0≤(n:Int))=True:=eq_true (by omega)
  have c2:(n≤35184372088832)=True:=eq_true (by omega)
  simp only [mx_nat,hn,Int.toNat_natCast,c1,c2,if_true,Option.bind_some,List.length_replicate]
  rfl
 ·rw [h3]
  by_cases h:n≤x/64
  ·rw [if_pos (.inr h),tb_zeros,tb_out (by omega),tb_out (by omega)];rfl
  ·rw [if_neg (by omega)]
theorem Minus_ev {s t:List Int} (hs:GS s) (ht:GS t):∃ r,Ev (fun k=>qbv.f k s t) r∧GS r∧∀ x,tb r x=(tb s x&&!tb t x):=by
 obtain ⟨n,hn⟩:∃ n,max s.length t.length=n:=⟨_,rfl⟩
 have hn2:n≤1024:=by have:=hs.len;have:=ht.len;omega
 obtain ⟨r,h1,h2,h3⟩:=Minus_from hs.wd ht.wd n hn2 n 0 (List.replicate n 0) (by omega) (by simp) (.zeros n)
 refine ⟨r,(Ev.bind h1 (Ev.const r)).congr (fun k=>?_),h2,fun x=>?_⟩
 ·unfold qbv.f qai.f
  have c1:(0≤(n:Int))=True:=eq_true (by omega)
  have c2:(n≤35184372088832)=True:=eq_true (by omega)
  simp only [mx_nat,hn,Int.toNat_natCast,c1,c2,if_true,Option.bind_some,List.length_replicate]
  rfl
 ·rw [h3]
  by_cases h:n≤x/64
  ·rw [if_pos (.inr h),tb_zeros,tb_out (by omega),tb_out (by omega)];rfl
  ·rw [if_neg (by omega)]
theorem With_ev {s:List Int} (hs:GS s) (n:Nat) (hn:n≤65535):∃ r,Ev (fun k=>qbu.f k s (n:Int)) r∧GS r∧∀ x,tb r x=(tb s x||decide (x=n)):=by
 obtain ⟨o,h1,h2,h3⟩:=Of_ev [(n:Int)] (by simp)
 obtain ⟨r,h4,h5,h6⟩:=Union_ev hs h2
 refine ⟨r,Ev.bind h1 (Ev.bind h4 (Ev.const r)),h5,fun x=>?_⟩
 rw [h6,Bool.eq_iff_iff,Bool.or_eq_true,Bool.or_eq_true,h3,within,List.mem_singleton,decide_eq_true_eq]
 exact ⟨fun h=>h.imp_right (fun h=>by omega),fun h=>h.imp_right (fun h=>by subst h;exact ⟨rfl,hn⟩)⟩
theorem Without_ev {s:List Int} (hs:GS s) (n:Nat) (hn:n≤65535):∃ r,Ev (fun k=>qcc.f k s (n:Int)) r∧GS r∧∀ x,tb r x=(tb s x&&!decide (x=n)):=by
 obtain ⟨o,h1,h2,h3⟩:=Of_ev [(n:Int)] (by simp)
 obtain ⟨r,h4,h5,h6⟩:=Minus_ev hs h2
 refine ⟨r,Ev.bind h1 (Ev.bind h4 (Ev.const r)),h5,fun x=>?_⟩
 have:tb o x=decide (x=n):=by
  rw [Bool.eq_iff_iff,h3,within,List.mem_singleton,decide_eq_true_eq]
  exact ⟨fun h=>by omega,fun h=>by subst h;exact ⟨rfl,hn⟩⟩
 rw [h6,this]
end Go.Proofs.YtmfjmbcfaamebaaDoor.X
namespace Go.Proofs.YtmfjmbcfaamebaaDoor.X
open Go.RowKit Go.Proofs.YtmfjmbcfaamebaaDoorW.PrintWords Go.Proofs.YtmfjmbcfaamebaaDoorW.PrintLast Go.Proofs.YtmfjmbcfaamebaaDoorW.PrintMore
def IsOf (r l:List Int):Prop:=r.Pairwise (·<·)∧∀ x,x∈r↔x∈l∧0≤x∧x≤65535
theorem IsOf.uniq {r r' l:List Int} (h:IsOf r l) (h':IsOf r' l):r=r':=qfs h.1 h'.1 (fun x=>(h.2 x).trans (h'.2 x).symm)
theorem rvalid_f (x:Int):qfk.f x=some (decide (0≤x∧x≤65535)):=valid_f x
theorem insert_sorted {l:List Int} {x:Int} {i:Nat} (hs:l.Pairwise (·<·)) (hlt:∀ y∈l.take i,y<x) (hgt:∀ y∈l.drop i,x<y):(l.take i++[x]++l.drop i).Pairwise (·<·):=by
 have hs':(l.take i++l.drop i).Pairwise (·<·):=by rw [List.take_append_drop];exact hs
 obtain ⟨h1,h2,h3⟩:=List.pairwise_append.1 hs'
 rw [List.append_assoc,List.pairwise_append]
 refine ⟨h1,?_,?_⟩
 ·rw [List.singleton_append,List.pairwise_cons];exact ⟨hgt,h2⟩
 ·intro a ha b hb
  rcases List.mem_append.1 hb with hb|hb
  ·rw [List.mem_singleton.1 hb];exact hlt a ha
  ·exact h3 a ha b hb
theorem insert_mem {l:List Int} {x y:Int} {i:Nat}:y∈l.take i++[x]++l.drop i↔y∈l∨y=x:=by
 rw [List.mem_append,List.mem_append,List.mem_singleton]
 have:y∈l↔y∈l.take i∨y∈l.drop i:=by rw [← List.mem_append,List.take_append_drop]
 rw [this]
 constructor
 ·rintro ((h|h)|h)
  ·exact .inl (.inl h)
  ·exact .inr h
  ·exact .inl (.inr h)
 ·rintro ((h|h)|h)
  ·exact .inl (.inl h)
  ·exact .inr h
  ·exact .inl (.inr h)
theorem With_out {l:List Int} {x:Int} {i:Nat} (k:Nat) (hi:i≤l.length) (hb:l.length<1000000) (hx:i=l.length∨¬ rd l (i:Int)<x) :
  qax.l0 (k+1) l x (i:Int)=some (l.take i++[x]++l.drop i):=by
 have c2:(0≤(i:Int))=True:=eq_true (by omega)
 have c3:((i:Int)≤(l.length:Int))=True:=eq_true (by omega)
 have c4:(0+(l.take i).length<17592186044416)=True:=eq_true (by rw [List.length_take];omega)
 have c5:((l.take i).length<17592186044416)=True:=eq_true (by rw [List.length_take];omega)
 have c6:((l.take i++[x]).length+(l.drop i).length<17592186044416)=True:=eq_true (by rw [List.length_append,List.length_take,List.length_drop,List.length_singleton];omega)
 rw [qax.l0]
 by_cases h:i<l.length
 ·have c1:((i:Int)<(l.length:Int))=True:=eq_true (by omega)
  have c7:=eq_false (hx.resolve_left (by omega))
  simp only [c1,c2,c3,c4,c5,c6,c7,if_true,if_false,Option.bind_some,Int.toNat_natCast,List.length_nil,List.nil_append]
 ·have c1:((i:Int)<(l.length:Int))=False:=eq_false (by omega)
  simp only [c1,c2,c3,c4,c5,c6,if_true,if_false,Option.bind_some,Int.toNat_natCast,List.length_nil,List.nil_append]
theorem With_from {l:List Int} {x:Int} (hs:l.Pairwise (·<·)) (hx:x∉l) (hb:l.length<1000000):∀ (m i:Nat),i+m=l.length→(∀ y∈l.take i,y<x)→
  ∃ r,Ev (fun k=>qax.l0 k l x (i:Int)) r∧r.Pairwise (·<·)∧(∀ y,y∈r↔y∈l∨y=x)∧r.length=l.length+1
 | 0,i,hi,hlt=>by
  refine ⟨_,Ev.next (Ev.const _) (fun k=>With_out k (by omega) hb (.inl (by omega))),insert_sorted hs hlt (by rw [List.drop_eq_nil_of_le (by omega)];simp),fun y=>insert_mem,?_⟩
  simp;omega
 | m+1,i,hi,hlt=>by
  have h1:i<l.length:=by omega
  have hrd:rd l (i:Int)=l[i]:=qgf h1
  by_cases h:l[i]<x
  ·obtain ⟨r,h2,h3⟩:=With_from hs hx hb m (i+1) (by omega) (fun y hy=>by
    rw [List.take_succ_eq_append_getElem h1,List.mem_append,List.mem_singleton] at hy
    rcases hy with hy|rfl
    ·exact hlt y hy
    ·exact h)
   refine ⟨r,h2.next (fun k=>?_),h3⟩
   have c1:((i:Int)<(l.length:Int))=True:=eq_true (by omega)
   have c2:(0≤(i:Int))=True:=eq_true (by omega)
   have hw:=qcv (show i<9223372036854775807 by omega)
   rw [qax.l0]
   simp only [c1,c2,hrd,h,hw,if_true]
  ·refine ⟨_,Ev.next (Ev.const _) (fun k=>With_out k (by omega) hb (.inr (by rw [hrd];exact h))),insert_sorted hs hlt (fun y hy=>?_),fun y=>insert_mem,?_⟩
   ·have hne:l[i]≠x:=fun e=>hx (by rw [← e];exact List.getElem_mem h1)
    have hs':(l.drop i).Pairwise (·<·):=hs.sublist (List.drop_sublist i l)
    rw [List.drop_eq_getElem_cons h1] at hs' hy
    rcases List.mem_cons.1 hy with rfl|hy
    ·omega
    ·have:=(List.pairwise_cons.1 hs').1 y hy;omega
   ·simp;omega
theorem rWith_ev {l:List Int} (x:Int) (hs:l.Pairwise (·<·)) (hb:l.length<1000000) :
  ∃ r,Ev (fun k=>qax.f k l x) r∧r.Pairwise (·<·)∧(∀ y,y∈r↔y∈l∨(y=x∧0≤x∧x≤65535))∧r.length≤l.length+1:=by
 by_cases hv:0≤x∧x≤65535
 ·by_cases hx:x∈l
  ·refine ⟨l,(Ev.bind (qfp l x (by omega)) (g:=fun k t=>qax.j0 k l x t) (Ev.next (Ev.const l) (fun k=>?_))).congr (fun k=>?_),hs,fun y=>?_,by omega⟩
   ·rw [decide_eq_true hx,qax.j0,if_pos rfl]
   ·rw [qax.f,rvalid_f,decide_eq_true hv,Option.bind_some,if_pos rfl]
   ·exact ⟨.inl,fun h=>h.elim id (fun h=>by rw [h.1];exact hx)⟩
  ·obtain ⟨r,h1,h2,h3,h4⟩:=With_from hs hx hb l.length 0 (by omega) (by simp)
   refine ⟨r,(Ev.bind (qfp l x (by omega)) (g:=fun k t=>qax.j0 k l x t) (Ev.next h1 (fun k=>?_))).congr (fun k=>?_),h2,fun y=>?_,by omega⟩
   ·rw [decide_eq_false hx,qax.j0,if_neg (by decide)];rfl
   ·rw [qax.f,rvalid_f,decide_eq_true hv,Option.bind_some,if_pos rfl]
   ·rw [h3];exact ⟨fun h=>h.imp_right (fun e=>⟨e,hv⟩),fun h=>h.imp_right (fun e=>e.1)⟩
 ·refine ⟨l,Ev.next (f:=fun k=>qax.f k l x) (Ev.const l) (fun k=>?_),hs,fun y=>?_,by omega⟩
  ·rw [qax.f,rvalid_f,decide_eq_false hv,Option.bind_some,if_neg (by decide),qax.j0,if_pos rfl]
  ·exact ⟨.inl,fun h=>h.elim id (fun h=>absurd h.2 hv)⟩
theorem rOf_from {l:List Int} (hb:l.length<100000):∀ (m i:Nat) (o:List Int),i+m=l.length→IsOf o (l.take i)→o.length≤i→∃ r,Ev (fun k=>qbn.l0 k o l (l.length:Int) (i:Int)) r∧IsOf r l∧r.length≤l.length
 | 0,i,o,hi,ho,hl=>by
  refine ⟨o,Ev.next (Ev.const o) (fun k=>?_),by rwa [List.take_of_length_le (by omega)] at ho,by omega⟩
  rw [qbn.l0,if_neg (by omega)]
 | m+1,i,o,hi,ho,hl=>by
  have h1:i<l.length:=by omega
  have hrd:rd l (i:Int)=l[i]:=qgf h1
  obtain ⟨o',h2,h3,h4,h5⟩:=rWith_ev l[i] ho.1 (by omega)
  obtain ⟨r,h6,h7⟩:=rOf_from hb m (i+1) o' (by omega) ⟨h3,fun y=>by
   rw [h4,ho.2,List.take_succ_eq_append_getElem h1,List.mem_append,List.mem_singleton]
   constructor
   ·rintro (⟨h,h'⟩|⟨h,h'⟩)
    ·exact ⟨.inl h,h'⟩
    ·rw [h];exact ⟨.inr rfl,h'⟩
   ·rintro ⟨h|h,h'⟩
    ·exact .inl ⟨h,h'⟩
    ·exact .inr ⟨h,h▸h'⟩⟩ (by omega)
  refine ⟨r,Ev.next (Ev.bind h2 (g:=fun k t=>qbn.l0 k t l (l.length:Int) ((i+1:Nat):Int)) h6) (fun k=>?_),h7⟩
  have c1:((i:Int)<(l.length:Int))=True:=eq_true (by omega)
  have c2:(0≤(i:Int))=True:=eq_true (by omega)
  have hw:=qcv (show i<9223372036854775807 by omega)
  rw [qbn.l0]
  simp only [c1,c2,hrd,hw,if_true]
theorem rOf_ev (l:List Int) (hb:l.length<100000):∃ r,Ev (fun k=>qbn.f k l) r∧IsOf r l∧r.length≤l.length:=rOf_from hb l.length 0 [] (by omega) ⟨List.Pairwise.nil,fun x=>by simp⟩ (by simp)
def Tg (l:List S60) (x:Int):List Int:=(qej (qao l x).f1 (qao l x).f3 (qao l x).f4).filter (qgb l.length)
theorem qhl {n:Nat} {x:Int}:qgb n x=true↔0≤x∧x<n:=by
 unfold qgb
 rw [Bool.not_eq_true',Bool.or_eq_false_iff,decide_eq_false_iff_not,decide_eq_false_iff_not]
 omega
theorem qdx {l:List S60} {x y:Int} (h:y∈Tg l x):0≤y∧y<l.length:=qhl.1 (List.mem_filter.1 h).2
theorem qgt (e t u:Int):(qej e t u).length≤2:=by
 unfold qej
 split <;> split <;> simp
theorem qeo (l:List S60) (x:Int):(Tg l x).length≤2:=Nat.le_trans (List.length_filter_le _ _) (qgt ..)
theorem qha (a:Bool) (b:Int) (l:List S60) (ts:List Int) (hb:ts.length≤2):∀ (m i:Nat) (o:List Int),i+m=ts.length→o.length≤i→Ev (fun k=>qad.l0 k o ts (ts.length:Int) (i:Int) a b l) (o++(ts.drop i).filter (qgb l.length))
 | 0,i,o,hi,_=>by
  rw [List.drop_eq_nil_of_le (by omega),List.filter_nil,List.append_nil]
  refine Ev.next (Ev.const o) (fun k=>?_)
  rw [qad.l0,if_neg (by omega)]
 | m+1,i,o,hi,ho=>by
  have h1:i<ts.length:=by omega
  have hrd:rd ts (i:Int)=ts[i]:=qgf h1
  have c1:((i:Int)<(ts.length:Int))=True:=eq_true (by omega)
  have c2:(0≤(i:Int))=True:=eq_true (by omega)
  have c3:(o.length<17592186044416)=True:=eq_true (by omega)
  have hw:=qcv (show i<9223372036854775807 by omega)
  rw [List.drop_eq_getElem_cons h1,List.filter_cons]
  by_cases h:0≤ts[i]∧ts[i]<(l.length:Int)
  ·have c4:(ts[i]≥0)=True:=eq_true h.1
   rw [if_pos (qhl.2 h)]
   have:=qha a b l ts hb m (i+1) (o++[ts[i]]) (by omega) (by simp;omega)
   rw [List.append_assoc,List.singleton_append] at this
   refine this.next (fun k=>?_)
   rw [qad.l0]
   simp only [c1,c2,c3,hrd,hw,c4,eq_true h.2,if_true]
  ·rw [if_neg (fun e=>h (qhl.1 e))]
   refine (qha a b l ts hb m (i+1) o (by omega) (by omega)).next (fun k=>?_)
   rw [qad.l0]
   by_cases h0:0≤ts[i]
   ·have c4:(ts[i]≥0)=True:=eq_true h0
    simp only [c1,c2,hrd,hw,c4,eq_false (fun e=>h ⟨h0,e⟩),if_true,if_false]
   ·have c4:(ts[i]≥0)=False:=eq_false h0
    simp only [c1,c2,hrd,hw,c4,if_true,if_false]
theorem qhe (a:Bool) (b:Int) {l:List S60} {x:Int} (h0:0≤x) (h1:x<l.length):Ev (fun k=>qad.f k a b l x) (Tg l x):=by
 have key:∀ e t u:Int,∀ bb:Bool,bb=(decide (e=1)||decide (e=2))→∀ (l0:List S85) (c:Int),Ev (fun k=>qad.j0 k [] bb a b l l0 e c t u) ((qej e t u).filter (qgb l.length)):=by
  intro e t u bb hbb l0 c
  have hend:=qha a b l (qej e t u) (qgt ..) (qej e t u).length 0 [] (by omega) (by simp)
  have h2:Ev (fun k=>qad.j2 k (qej e t u) a b l) ((qej e t u).filter (qgb l.length)):=by
   refine Ev.next hend (fun k=>?_)
   rw [qad.j2]
   rfl
  have h3:Ev (fun k=>qad.j1 k (if e=1∨e=2 then [t] else []) a b l l0 e c t u) ((qej e t u).filter (qgb l.length)):=by
   refine Ev.next h2 (fun k=>?_)
   rw [qad.j1]
   unfold qej
   by_cases h:e=2
   ·rw [if_pos h,if_pos (by split <;> simp),if_pos h]
   ·rw [if_neg h,if_neg h,List.append_nil]
  refine Ev.next h3 (fun k=>?_)
  rw [qad.j0,hbb]
  by_cases h:e=1∨e=2
  ·rw [if_pos (by simpa using h),if_pos (by simp),if_pos h];rfl
  ·rw [if_neg (by simpa using h),if_neg h]
 by_cases h:(qao l x).f1=1
 ·refine (key (qao l x).f1 (qao l x).f3 (qao l x).f4 true (by simp [h]) (qao l x).f0 (qao l x).f2).congr (fun k=>?_)
  rw [qad.f,if_pos h0,if_pos h1,if_pos h]
 ·refine (key (qao l x).f1 (qao l x).f3 (qao l x).f4 ((qao l x).f1==2) (by rw [decide_eq_false h,Bool.false_or];rfl) (qao l x).f0 (qao l x).f2).congr (fun k=>?_)
  rw [qad.f,if_pos h0,if_pos h1,if_neg h]
theorem ctargets_f (a:Bool) (b:Int) (l:List S60) (x:Int):qdr.f a b l (qao l x).f0 (qao l x).f1 (qao l x).f2 (qao l x).f3 (qao l x).f4=some (Tg l x):=rfl
end Go.Proofs.YtmfjmbcfaamebaaDoor.X
namespace Go.Proofs.YtmfjmbcfaamebaaDoor.X
open Go.RowKit Go.Proofs.YtmfjmbcfaamebaaDoorW.PrintWords Go.Proofs.YtmfjmbcfaamebaaDoorW.PrintLast Go.Proofs.YtmfjmbcfaamebaaDoorW.PrintMore
theorem drop_cons {ts t0:List Int} {t:Int} {i:Nat} (h:ts.drop i=t::t0):i<ts.length∧rd ts (i:Int)=t∧ts.drop (i+1)=t0:=by
 have hi:i<ts.length:=by
  by_cases hi:i<ts.length
  ·exact hi
  ·rw [List.drop_eq_nil_of_le (by omega)] at h;cases h
 rw [List.drop_eq_getElem_cons hi] at h
 injection h with h1 h2
 exact ⟨hi,by rw [qgf hi,h1],h2⟩
theorem drop_nil {ts:List Int} {i:Nat} (h:ts.drop i=[]):ts.length≤i:=List.drop_eq_nil_iff.1 h
theorem rvisit_step (a:Bool) (b:Int) (l:List S60) {s ts:List Int} {t n:Int} {i:Nat} {out:List Int} {r1:List Int} {s1:List Int} {r:List Int×List Int}
  (h1:i<ts.length) (h2:rd ts (i:Int)=t) (hl:ts.length<100000) (ho:out.length+r1.length<100000) (hv:Ev (fun k=>qan.f k a b l t s) (r1,s1))
  (h:Ev (fun k=>qan.l0 k n s1 (out++r1) ts (ts.length:Int) ((i+1:Nat):Int) a b l) r):Ev (fun k=>qan.l0 k n s out ts (ts.length:Int) (i:Int) a b l) r:=by
 refine Ev.succ ?_
 have c1:((i:Int)<(ts.length:Int))=True:=eq_true (by omega)
 have c2:(0≤(i:Int))=True:=eq_true (by omega)
 have c3:out.length+r1.length<17592186044416:=by omega
 have hw:=qcv (show i<9223372036854775807 by omega)
 simp only [qan.l0,c1,c2,if_true,h2,hw]
 refine Ev.bind hv ?_
 exact Ev.ifp c3 h
theorem rvisit_from (a:Bool) (b:Int) (l:List S60) {s t0 p s':List Int} (hd:Dfs (Tg l) s t0 p s'):∀ (ts:List Int) (i:Nat) (n:Int) (out:List Int),ts.drop i=t0→ts.length<100000→(∀ t∈t0,0≤t∧t<(l.length:Int))→out.length+p.length<100000→s.length+p.length<100000→
  Ev (fun k=>qan.l0 k n s out ts (ts.length:Int) (i:Int) a b l) (out++p++[n],s'):=by
 induction hd with
 | @nil s=>
  intro ts i n out ht _ _ ho _
  have:=drop_nil ht
  refine Ev.next (Ev.const _) (fun k=>?_)
  rw [qan.l0,if_neg (by omega),if_pos (by simp at ho;omega),List.append_nil]
 | @skip s t t0 p s' hs _ ih=>
  intro ts i n out ht hl hr ho hsl
  obtain ⟨h1,h2,h3⟩:=drop_cons ht
  have h:=ih ts (i+1) n out h3 hl (fun t h=>hr t (List.mem_cons_of_mem _ h)) ho hsl
  have hh:=qfp s t (by omega)
  rw [decide_eq_true hs] at hh
  have hv:Ev (fun k=>qan.f k a b l t s) (([]:List Int),s):=by
   refine Ev.succ ?_
   simp only [qan.f]
   refine Ev.bind hh ?_
   exact Ev.ifp rfl (Ev.const _)
  refine rvisit_step a b l h1 h2 hl (by simp;omega) hv ?_
  rw [List.append_nil]
  exact h
 | @go s t t0 p1 s1 p2 s2 hs hd1 _ ih1 ih2=>
  intro ts i n out ht hl hr ho hsl
  obtain ⟨h1,h2,h3⟩:=drop_cons ht
  obtain ⟨hr0,hr1⟩:=hr t (List.mem_cons_self ..)
  rw [List.length_append,List.length_cons] at ho hsl
  have hlen:=hd1.len
  rw [List.length_append,List.length_singleton] at hlen
  have h4:=ih1 (Tg l t) 0 t [] rfl (by have:=qeo l t;omega) (fun t h=>qdx h) (by simp;omega) (by simp;omega)
  have h5:=ih2 ts (i+1) n (out++(p1++[t])) h3 hl (fun t h=>hr t (List.mem_cons_of_mem _ h)) (by simp;omega) (by omega)
  have hh:=qfp s t (by omega)
  rw [decide_eq_false hs] at hh
  have hv:Ev (fun k=>qan.f k a b l t s) (p1++[t],s1):=by
   refine Ev.succ ?_
   simp only [qan.f,Option.bind_some,List.nil_append,List.length_nil,Nat.zero_add]
   refine Ev.bind hh ?_
   refine Ev.ifn (by decide) (Ev.ifp (by omega) (Ev.ifp (by omega) ?_))
   refine Ev.bind (qhe a b hr0 hr1) ?_
   exact h4
  refine rvisit_step a b l h1 h2 hl (by simp;omega) hv ?_
  rw [show out++(p1++t::p2)++[n]=out++(p1++[t])++p2++[n] by simp]
  exact h5
theorem rvisit_ev (a:Bool) (b:Int) (l:List S60) {s p s':List Int} {t:Int} (hd:Dfs (Tg l) s [t] p s') (h0:0≤t) (h1:t<l.length) (hsl:s.length+p.length<100000):Ev (fun k=>qan.f k a b l t s) (p,s'):=by
 cases hd with
 | skip hs h=>
  cases h
  have hh:=qfp s t (by omega)
  rw [decide_eq_true hs] at hh
  refine Ev.succ ?_
  simp only [qan.f]
  refine Ev.bind hh ?_
  exact Ev.ifp rfl (Ev.const _)
 | @go _ _ _ p1 s1 p2 s2 hs h h'=>
  cases h'
  rw [List.length_append,List.length_cons] at hsl
  have h4:=rvisit_from a b l h (Tg l t) 0 t [] rfl (by have:=qeo l t;omega) (fun t h=>qdx h) (by simp;omega) (by simp;omega)
  have hh:=qfp s t (by omega)
  rw [decide_eq_false hs] at hh
  refine Ev.succ ?_
  simp only [qan.f,Option.bind_some,List.nil_append,List.length_nil,Nat.zero_add]
  refine Ev.bind hh ?_
  refine Ev.ifn (by decide) (Ev.ifp (by omega) (Ev.ifp (by omega) ?_))
  refine Ev.bind (qhe a b h0 h1) ?_
  exact h4
def Mk (N:Nat) (bs:List Bool) (s:List Int):Prop:=bs.length=N∧∀ x:Nat,x<N→(bs.getD x false=true↔(x:Int)∈s)
theorem Mk.set {N:Nat} {bs:List Bool} {s:List Int} (h:Mk N bs s) {x:Nat} (hx:x<N):Mk N (bs.set x true) (s++[(x:Int)]):=by
 refine ⟨by rw [List.length_set,h.1],fun y hy=>?_⟩
 by_cases e:y=x
 ·subst e
  rw [List.getD_eq_getElem?_getD,List.getElem?_set_self (by rw [h.1];exact hx)]
  simp
 ·rw [List.getD_eq_getElem?_getD,List.getElem?_set_ne (fun h=>e h.symm),← List.getD_eq_getElem?_getD,h.2 y hy,List.mem_append,List.mem_singleton]
  exact ⟨.inl,fun h=>h.resolve_right (by omega)⟩
theorem rdOf_nat (bs:List Bool) (x:Nat):rdOf false bs (x:Int)=bs.getD x false:=by unfold rdOf;rw [Int.toNat_natCast]
theorem cpost_step (a:Bool) (b:Int) (l:List S60) {bs bs1:List Bool} {ts:List Int} {t n:Int} {i:Nat} {out out1:List Int} {r:List Int×List Bool}
  (h1:i<ts.length) (h2:rd ts (i:Int)=t) (hl:ts.length<100000) (hv:Ev (fun k=>qas.f k a b l t bs out) (out1,bs1))
  (h:Ev (fun k=>qas.l0 k n bs1 out1 ts (ts.length:Int) ((i+1:Nat):Int) a b l) r):Ev (fun k=>qas.l0 k n bs out ts (ts.length:Int) (i:Int) a b l) r:=by
 refine Ev.succ ?_
 have c1:((i:Int)<(ts.length:Int))=True:=eq_true (by omega)
 have c2:(0≤(i:Int))=True:=eq_true (by omega)
 have hw:=qcv (show i<9223372036854775807 by omega)
 simp only [qas.l0,c1,c2,if_true,h2,hw]
 refine Ev.bind hv ?_
 exact h
theorem cpost_skip (a:Bool) (b:Int) (l:List S60) {bs:List Bool} {s out:List Int} {x:Nat} (hm:Mk l.length bs s) (hx:x<l.length) (hs:(x:Int)∈s):Ev (fun k=>qas.f k a b l (x:Int) bs out) (out,bs):=by
 refine Ev.next (Ev.const _) (fun k=>?_)
 have c1:((x:Int)<(bs.length:Int)):=by rw [hm.1];omega
 rw [qas.f,if_pos (by omega),if_pos c1,rdOf_nat,if_pos ((hm.2 x hx).2 hs)]
theorem cpost_go (a:Bool) (b:Int) (l:List S60) {bs:List Bool} {s out:List Int} {x:Nat} {r:List Int×List Bool} (hm:Mk l.length bs s) (hx:x<l.length) (hs:(x:Int)∉s)
  (h:Ev (fun k=>qas.l0 k (x:Int) (bs.set x true) out (Tg l (x:Int)) ((Tg l (x:Int)).length:Int) 0 a b l) r):Ev (fun k=>qas.f k a b l (x:Int) bs out) r:=by
 refine Ev.next h (fun k=>?_)
 have c1:((x:Int)<(bs.length:Int)):=by rw [hm.1];omega
 rw [qas.f,if_pos (by omega),if_pos c1,rdOf_nat,if_neg (fun e=>hs ((hm.2 x hx).1 e)),if_pos (by omega),ctargets_f,Option.bind_some,Int.toNat_natCast]
theorem cpost_from (a:Bool) (b:Int) (l:List S60) {s t0 p s':List Int} (hd:Dfs (Tg l) s t0 p s'):∀ (ts:List Int) (i:Nat) (n:Int) (out:List Int) (bs:List Bool),ts.drop i=t0→ts.length<100000→(∀ t∈t0,0≤t∧t<(l.length:Int))→out.length+p.length<100000→Mk l.length bs s→
  ∃ bs',Ev (fun k=>qas.l0 k n bs out ts (ts.length:Int) (i:Int) a b l) (out++p++[n],bs')∧Mk l.length bs' s':=by
 induction hd with
 | @nil s=>
  intro ts i n out bs ht _ _ ho hm
  have:=drop_nil ht
  refine ⟨bs,Ev.next (Ev.const _) (fun k=>?_),hm⟩
  rw [qas.l0,if_neg (by omega),if_pos (by simp at ho;omega),List.append_nil]
 | @skip s t t0 p s' hs _ ih=>
  intro ts i n out bs ht hl hr ho hm
  obtain ⟨h1,h2,h3⟩:=drop_cons ht
  obtain ⟨hr0,hr1⟩:=hr t (List.mem_cons_self ..)
  obtain ⟨x,rfl⟩:=Int.eq_ofNat_of_zero_le hr0
  obtain ⟨bs',h,hm'⟩:=ih ts (i+1) n out bs h3 hl (fun t h=>hr t (List.mem_cons_of_mem _ h)) ho hm
  exact ⟨bs',cpost_step a b l h1 h2 hl (cpost_skip a b l hm (by omega) hs) h,hm'⟩
 | @go s t t0 p1 s1 p2 s2 hs hd1 _ ih1 ih2=>
  intro ts i n out bs ht hl hr ho hm
  obtain ⟨h1,h2,h3⟩:=drop_cons ht
  obtain ⟨hr0,hr1⟩:=hr t (List.mem_cons_self ..)
  obtain ⟨x,rfl⟩:=Int.eq_ofNat_of_zero_le hr0
  have hx:x<l.length:=by omega
  rw [List.length_append,List.length_cons] at ho
  obtain ⟨bs1,h4,hm1⟩:=ih1 (Tg l (x:Int)) 0 (x:Int) out (bs.set x true) rfl (by have:=qeo l (x:Int);omega) (fun t h=>qdx h) (by omega) (hm.set hx)
  obtain ⟨bs2,h5,hm2⟩:=ih2 ts (i+1) n (out++p1++[(x:Int)]) bs1 h3 hl (fun t h=>hr t (List.mem_cons_of_mem _ h)) (by simp;omega) hm1
  refine ⟨bs2,cpost_step a b l h1 h2 hl (cpost_go a b l hm hx hs h4) ?_,hm2⟩
  rw [show out++(p1++(x:Int)::p2)++[n]=out++p1++[(x:Int)]++p2++[n] by simp]
  exact h5
theorem cpost_ev (a:Bool) (b:Int) (l:List S60) {s p s':List Int} {x:Nat} {bs:List Bool} (hd:Dfs (Tg l) s [(x:Int)] p s') (hx:x<l.length) (hm:Mk l.length bs s) (out:List Int) (hl:out.length+p.length<100000):∃ bs',Ev (fun k=>qas.f k a b l (x:Int) bs out) (out++p,bs')∧Mk l.length bs' s':=by
 cases hd with
 | skip hs h=>
  cases h
  rw [List.append_nil]
  exact ⟨bs,cpost_skip a b l hm hx hs,hm⟩
 | @go _ _ _ p1 s1 p2 s2 hs h h'=>
  cases h'
  rw [List.length_append,List.length_cons] at hl
  obtain ⟨bs',h4,h5⟩:=cpost_from a b l h (Tg l (x:Int)) 0 (x:Int) out (bs.set x true) rfl (by have:=qeo l (x:Int);omega) (fun t h=>qdx h) (by omega) (hm.set hx)
  refine ⟨bs',cpost_go a b l hm hx hs ?_,h5⟩
  rw [List.append_assoc] at h4
  exact h4
def qdj (N:Nat):List Int:=(List.range N).map (fun (i:Nat)=>(i:Int))
theorem qea {N:Nat} {x:Int}:x∈qdj N↔0≤x∧x<N:=by
 unfold qdj
 rw [List.mem_map]
 constructor
 ·rintro ⟨i,hi,rfl⟩
  have:=List.mem_range.1 hi
  omega
 ·intro h
  exact ⟨x.toNat,List.mem_range.2 (by omega),by omega⟩
theorem dfs_exists (l:List S60) (s ts:List Int) (ht:∀ t∈ts,0≤t∧t<(l.length:Int)):∃ p s',Dfs (Tg l) s ts p s'∧p.length≤l.length:=by
 obtain ⟨p,s',h1,_⟩:=Dfs.exists (T:=Tg l) (U:=qdj l.length) (fun x _ y hy=>qea.2 (qdx hy)) _ s ts (Nat.le_refl _) (fun t h=>qea.2 (ht t h))
 refine ⟨p,s',h1,?_⟩
 have hsub:∀ x∈p,x∈qdj l.length:=by
  intro x hx
  obtain ⟨t,ht',hr⟩:=h1.reach x hx
  cases hr with
  | refl _=>exact qea.2 (ht _ ht')
  | step _ h _=>exact qea.2 (qdx h)
 have:=h1.nodup.length_le_of_subset hsub
 simpa [qdj] using this
end Go.Proofs.YtmfjmbcfaamebaaDoor.X
namespace Go.Proofs.YtmfjmbcfaamebaaDoor.X
open Go.RowKit Go.Proofs.YtmfjmbcfaamebaaDoorW.PrintWords Go.Proofs.YtmfjmbcfaamebaaDoorW.PrintLast Go.Proofs.YtmfjmbcfaamebaaDoorW.PrintMore
def qgp (av out ts:List Int):List Int:=ts.foldl (fun o t=>if t∈o∨t∈av then o else o++[t]) out
theorem qga (av out ts:List Int) (t:Int):qgp av out (t::ts)=qgp av (if t∈out∨t∈av then out else out++[t]) ts:=rfl
theorem qgc (av:List Int):∀ (ts out:List Int),∃ e,qgp av out ts=out++e
 | [],out=>⟨[],by simp [qgp]⟩
 | t::ts,out=>by
  rw [qga]
  split
  ·exact qgc av ts out
  ·obtain ⟨e,h⟩:=qgc av ts (out++[t])
   exact ⟨t::e,by rw [h];simp⟩
theorem qfb (av:List Int):∀ (ts out:List Int) (x:Int),x∈qgp av out ts↔x∈out∨(x∈ts∧x∉av)
 | [],out,x=>by simp [qgp]
 | t::ts,out,x=>by
  rw [qga,qfb av ts]
  by_cases h:t∈out∨t∈av
  ·rw [if_pos h]
   constructor
   ·rintro (h'|h')
    ·exact .inl h'
    ·exact .inr ⟨List.mem_cons_of_mem _ h'.1,h'.2⟩
   ·rintro (h'|⟨h',h''⟩)
    ·exact .inl h'
    ·rcases List.mem_cons.1 h' with rfl|h'
     ·exact .inl (h.resolve_right h'')
     ·exact .inr ⟨h',h''⟩
  ·rw [if_neg h,List.mem_append,List.mem_singleton]
   constructor
   ·rintro ((h'|rfl)|h')
    ·exact .inl h'
    ·exact .inr ⟨List.mem_cons_self ..,fun e=>h (.inr e)⟩
    ·exact .inr ⟨List.mem_cons_of_mem _ h'.1,h'.2⟩
   ·rintro (h'|⟨h',h''⟩)
    ·exact .inl (.inl h')
    ·rcases List.mem_cons.1 h' with rfl|h'
     ·exact .inl (.inr rfl)
     ·exact .inr ⟨h',h''⟩
theorem qgr (av:List Int):∀ (ts out:List Int),out.Nodup→(qgp av out ts).Nodup
 | [],out,h=>h
 | t::ts,out,h=>by
  rw [qga]
  split
  ·exact qgr av ts out h
  ·rename_i h'
   refine qgr av ts _ ?_
   rw [List.nodup_append]
   exact ⟨h,by simp,fun a ha b hb e=>h' (.inl (by rw [List.mem_singleton] at hb;rw [← hb,← e];exact ha))⟩
theorem qfu (a:Bool) (b:Int) (l:List S60) {av:List Int} (hav:av.length<1000000) (i:Int) {ts:List Int} (hts:ts.length≤2) {r:List Int}:∀ (m j:Nat) (out:List Int),j+m=ts.length→out.length+m<1000→
  Ev (fun k=>qal.l0 k av (qgp av out (ts.drop j)) (wrap64 (i+1)) a b l) r→Ev (fun k=>qal.l1 k av out i ts (ts.length:Int) (j:Int) a b l) r
 | 0,j,out,hj,ho,h=>by
  rw [List.drop_eq_nil_of_le (by omega)] at h
  refine Ev.next h (fun k=>?_)
  rw [qal.l1,if_neg (by omega)]
  rfl
 | m+1,j,out,hj,ho,h=>by
  have h1:j<ts.length:=by omega
  have hrd:rd ts (j:Int)=ts[j]:=qgf h1
  rw [List.drop_eq_getElem_cons h1,qga] at h
  have hh1:=qfp out ts[j] (by omega)
  have hh2:=qfp av ts[j] (by omega)
  have c1:((j:Int)<(ts.length:Int))=True:=eq_true (by omega)
  have c2:(0≤(j:Int))=True:=eq_true (by omega)
  have c3:out.length<17592186044416:=by omega
  have hw:=qcv (show j<9223372036854775807 by omega)
  refine Ev.succ ?_
  simp only [qal.l1,c1,c2,if_true,hrd,hw]
  refine Ev.bind hh1 ?_
  by_cases e1:ts[j]∈out
  ·rw [if_pos (.inl e1)] at h
   exact Ev.ifp (decide_eq_true e1) (qfu a b l hav i hts m (j+1) out (by omega) (by omega) h)
  ·refine Ev.ifn (by simpa using e1) ?_
   refine Ev.bind hh2 ?_
   by_cases e2:ts[j]∈av
   ·rw [if_pos (.inr e2)] at h
    exact Ev.ifp (decide_eq_true e2) (qfu a b l hav i hts m (j+1) out (by omega) (by omega) h)
   ·rw [if_neg (by rintro (e|e);exact e1 e;exact e2 e)] at h
    exact Ev.ifn (by simpa using e2) (Ev.ifp c3 (qfu a b l hav i hts m (j+1) (out++[ts[j]]) (by omega) (by simp;omega) h))
structure RInv (l:List S60) (av:List Int) (src:Int) (out:List Int) (i:Nat):Prop where
 nd:out.Nodup
 le:i≤out.length
 rch:∀ x∈out,Rch (Tg l) (fun y=>y∈av) src x
 st:src∈out
 cl:∀ j,j<i→∀ y∈Tg l (out.getD j 0),y∈out∨y∈av
 rg:∀ x∈out,0≤x∧x<(l.length:Int)
theorem RInv.len {l:List S60} {av:List Int} {src:Int} {out:List Int} {i:Nat} (h:RInv l av src out i):out.length≤l.length:=by
 have:=h.nd.length_le_of_subset (l₂:=qdj l.length) (fun x hx=>qea.2 (h.rg x hx))
 simpa [qdj] using this
theorem RInv.step {l:List S60} {av:List Int} {src:Int} {out:List Int} {i:Nat} (h:RInv l av src out i) (hi:i<out.length):RInv l av src (qgp av out (Tg l (out.getD i 0))) (i+1):=by
 obtain ⟨e,he⟩:=qgc av (Tg l (out.getD i 0)) out
 have hin:out.getD i 0∈out:=by rw [List.getD_eq_getElem?_getD,List.getElem?_eq_getElem hi];exact List.getElem_mem hi
 have hg:∀ j,j<out.length→(qgp av out (Tg l (out.getD i 0))).getD j 0=out.getD j 0:=by
  intro j hj
  rw [he,List.getD_eq_getElem?_getD,List.getElem?_append_left hj,← List.getD_eq_getElem?_getD]
 refine ⟨qgr _ _ _ h.nd,by rw [he,List.length_append];omega,fun x hx=>?_,(qfb ..).2 (.inl h.st),fun j hj y hy=>?_,fun x hx=>?_⟩
 ·rcases (qfb ..).1 hx with hx|⟨hx,hx'⟩
  ·exact h.rch x hx
  ·exact .step (h.rch _ hin) hx hx'
 ·rw [hg j (by omega)] at hy
  by_cases ej:j=i
  ·subst ej
   by_cases ey:y∈av
   ·exact .inr ey
   ·exact .inl ((qfb ..).2 (.inr ⟨hy,ey⟩))
  ·exact (h.cl j (by omega) y hy).imp_left (fun h'=>(qfb ..).2 (.inl h'))
 ·rcases (qfb ..).1 hx with hx|⟨hx,_⟩
  ·exact h.rg x hx
  ·exact qdx hx
def qgo (l:List S60) (av:Int→Prop) (src:Int) (r:List Int):Prop:=r.Pairwise (·<·)∧∀ x,x∈r↔(0≤src∧src<(l.length:Int))∧Rch (Tg l) av src x
theorem qgo.uniq {l:List S60} {av:Int→Prop} {src:Int} {r r':List Int} (h:qgo l av src r) (h':qgo l av src r'):r=r':=qfs h.1 h'.1 (fun x=>(h.2 x).trans (h'.2 x).symm)
theorem qgo.range {l:List S60} {av:Int→Prop} {src x:Int} {r:List Int} (h:qgo l av src r) (hx:x∈r):0≤x∧x<(l.length:Int):=by
 obtain ⟨h1,h2⟩:=(h.2 x).1 hx
 cases h2 with
 | refl _=>exact h1
 | step _ h3 _=>exact qdx h3
theorem Rch.range {l:List S60} {av:Int→Prop} {src x:Int} (h1:0≤src∧src<(l.length:Int)) (h:Rch (Tg l) av src x):0≤x∧x<(l.length:Int):=by
 cases h with
 | refl _=>exact h1
 | step _ h3 _=>exact qdx h3
theorem reach_from (a:Bool) (b:Int) {l:List S60} (hN:l.length≤14) {av:List Int} (hav:av.length<1000000) {src:Int} (hs:0≤src∧src<(l.length:Int)):∀ (m i:Nat) (out:List Int),l.length-i≤m→RInv l av src out i→
  ∃ r,Ev (fun k=>qal.l0 k av out (i:Int) a b l) r∧qgo l (fun y=>y∈av) src r
 | m,i,out,hm,h=>by
  have hlen:=h.len
  have hle:=h.le
  by_cases hi:i<out.length
  ·cases m with
   | zero=>omega
   | succ m=>
    obtain ⟨r,h1,h2⟩:=reach_from a b hN hav hs m (i+1) (qgp av out (Tg l (out.getD i 0))) (by omega) (h.step hi)
    refine ⟨r,?_,h2⟩
    have hin:out.getD i 0∈out:=by rw [List.getD_eq_getElem?_getD,List.getElem?_eq_getElem hi];exact List.getElem_mem hi
    obtain ⟨h3,h4⟩:=h.rg _ hin
    have hT:=qeo l (out.getD i 0)
    have hw:=qcv (show i<9223372036854775807 by omega)
    have h5:=qfu a b l hav (i:Int) hT (r:=r) (Tg l (out.getD i 0)).length 0 out (by omega) (by omega) (by rw [hw];exact h1)
    have c1:((i:Int)<(out.length:Int))=True:=eq_true (by omega)
    have c2:(0≤(i:Int))=True:=eq_true (by omega)
    refine Ev.succ ?_
    simp only [qal.l0,c1,c2,if_true,qhr]
    refine Ev.bind (qhe a b h3 h4) ?_
    exact h5
  ·have ei:i=out.length:=by omega
   obtain ⟨r,h1,h2,_⟩:=rOf_ev out (by omega)
   refine ⟨r,?_,h2.1,fun x=>?_⟩
   ·refine Ev.succ ?_
    have c1:((i:Int)<(out.length:Int))=False:=eq_false (by omega)
    simp only [qal.l0,c1,if_false]
    exact Ev.bind h1 (Ev.const _)
   ·rw [h2.2]
    constructor
    ·intro hx
     exact ⟨hs,h.rch x hx.1⟩
    ·rintro ⟨_,hx⟩
     have hmem:x∈out:=hx.closed (P:=fun x=>x∈out) h.st (fun y hy z hz hn=>by
      obtain ⟨j,hj,e⟩:=List.getElem_of_mem hy
      have:=h.cl j (by omega) z (by rw [List.getD_eq_getElem?_getD,List.getElem?_eq_getElem hj,Option.getD_some,e];exact hz)
      exact this.resolve_right hn)
     have:=h.rg x hmem
     exact ⟨hmem,by omega,by omega⟩
theorem reach_ev (a:Bool) (b:Int) {l:List S60} (hN:l.length≤14) (src:Int) (av:List Int) (hav:av.length<1000000):∃ r,Ev (fun k=>qal.f k a b l src av) r∧qgo l (fun y=>y∈av) src r:=by
 have hno:(¬ (0≤src∧src<(l.length:Int))∨src∈av)→qgo l (fun y=>y∈av) src []:=fun h=>⟨List.Pairwise.nil,fun x=>⟨fun hx=>absurd hx (by simp),fun hx=>by
  rcases h with h|h
  ·exact absurd hx.1 h
  ·exact absurd h hx.2.first⟩⟩
 have hj:Ev (fun k=>qal.j0 k src av true a b l) []:=by
  refine Ev.next (Ev.const []) (fun k=>?_)
  rw [qal.j0,if_pos rfl]
 by_cases h0:0≤src
 ·by_cases h1:src<(l.length:Int)
  ·have hh:=qfp av src (by omega)
   by_cases h2:src∈av
   ·rw [decide_eq_true h2] at hh
    refine ⟨[],?_,hno (.inr h2)⟩
    refine (Ev.bind hh (g:=fun k t=>qal.j0 k src av t a b l) hj).congr (fun k=>?_)
    rw [qal.f,if_neg (by omega),if_neg (by omega)]
   ·rw [decide_eq_false h2] at hh
    obtain ⟨r,h3,h4⟩:=reach_from a b hN hav ⟨h0,h1⟩ l.length 0 [src] (by omega) ⟨by simp,by simp,fun x hx=>by rw [List.mem_singleton.1 hx];exact .refl h2,by simp,fun j hj=>absurd hj (by omega),fun x hx=>by rw [List.mem_singleton.1 hx];exact ⟨h0,h1⟩⟩
    refine ⟨r,?_,h4⟩
    refine (Ev.bind hh (g:=fun k t=>qal.j0 k src av t a b l) (Ev.next h3 (fun k=>?_))).congr (fun k=>?_)
    ·rw [qal.j0,if_neg (by decide)];rfl
    ·rw [qal.f,if_neg (by omega),if_neg (by omega)]
  ·refine ⟨[],?_,hno (.inl (fun h=>h1 h.2))⟩
   refine hj.congr (fun k=>?_)
   rw [qal.f,if_neg (by omega),if_pos (by omega)]
 ·refine ⟨[],?_,hno (.inl (fun h=>h0 h.1))⟩
  refine hj.congr (fun k=>?_)
  rw [qal.f,if_pos (by omega)]
theorem qgo.congr {l:List S60} {av av':Int→Prop} {src:Int} {r:List Int} (h:qgo l av src r) (e:∀ x,0≤x→x<(l.length:Int)→(av x↔av' x)):qgo l av' src r:=by
 have key:∀ {p q:Int→Prop} {x:Int},(∀ x,0≤x→x<(l.length:Int)→(p x→q x))→(0≤src∧src<(l.length:Int))→Rch (Tg l) q src x→Rch (Tg l) p src x:=by
  intro p q x hpq hs hr
  induction hr with
  | refl h=>exact .refl (fun h'=>h (hpq _ hs.1 hs.2 h'))
  | step _ h1 h2 ih=>exact .step ih h1 (fun h'=>h2 (hpq _ (qdx h1).1 (qdx h1).2 h'))
 refine ⟨h.1,fun x=>(h.2 x).trans ⟨fun hx=>⟨hx.1,key (fun y h1 h2=>(e y h1 h2).2) hx.1 hx.2⟩,fun hx=>⟨hx.1,key (fun y h1 h2=>(e y h1 h2).1) hx.1 hx.2⟩⟩⟩
theorem marks_mem (N:Nat):∀ (xs:List Int) (bs:List Bool),bs.length=N→(∀ x:Nat,x<N→((xs.foldl (qfe N) bs).getD x false=true↔bs.getD x false=true∨(x:Int)∈xs))∧(xs.foldl (qfe N) bs).length=N
 | [],bs,h=>⟨fun x _=>by simp,h⟩
 | y::t,bs,h=>by
  have hl:(qfe N bs y).length=N:=by unfold qfe;split <;> simp [h]
  obtain ⟨h1,h2⟩:=marks_mem N t (qfe N bs y) hl
  refine ⟨fun x hx=>?_,h2⟩
  rw [List.foldl_cons,h1 x hx,List.mem_cons]
  have hone:(qfe N bs y).getD x false=true↔bs.getD x false=true∨(x:Int)=y:=by
   unfold qfe
   by_cases hy:0≤y∧y<(N:Int)
   ·rw [if_pos hy]
    by_cases e:x=y.toNat
    ·subst e
     rw [List.getD_eq_getElem?_getD,List.getElem?_set_self (by omega)]
     simp
     right;omega
    ·rw [List.getD_eq_getElem?_getD,List.getElem?_set_ne (fun h=>e h.symm),← List.getD_eq_getElem?_getD]
     exact ⟨.inl,fun h=>h.resolve_right (fun h'=>e (by omega))⟩
   ·rw [if_neg hy]
    exact ⟨.inl,fun h=>h.resolve_right (fun h'=>hy (by omega))⟩
  rw [hone,or_assoc]
theorem marks_Mk (N:Nat) (s:List Int):Mk N (marks N s) s:=by
 obtain ⟨h1,h2⟩:=marks_mem N s (List.replicate N false) (by simp)
 refine ⟨h2,fun x hx=>?_⟩
 unfold marks
 rw [h1 x hx,List.getD_eq_getElem?_getD,List.getElem?_replicate,if_pos hx]
 simp
theorem GS.els_len {ws:List Int} (h:GS ws) {x:Int} (hx:x∈els ws):0≤x∧x≤65535:=by
 have:=els_bound hx
 have:=h.len
 omega
theorem cavoid_ev (a:Bool) (b:Int) {l:List S60} (hN:l.length≤14) (src:Int) {ws:List Int} (hw:GS ws):∃ r,Ev (fun k=>qcg.f k a b l src ws) r∧GS r∧qgo l (fun y=>y∈els ws) src (els r):=by
 by_cases hs:0≤src∧src<(l.length:Int)
 ·obtain ⟨x,rfl⟩:=Int.eq_ofNat_of_zero_le hs.1
  have hx:x<l.length:=by omega
  have hin:tb ws x=true↔(x:Int)∈els ws:=qdt.symm
  by_cases ht:tb ws x=true
  ·refine ⟨[],(Ev.const []).congr (fun k=>?_),GS.nil,List.Pairwise.nil,fun y=>⟨fun h=>absurd h (by simp [els,qdz]),fun h=>absurd (hin.1 ht) h.2.first⟩⟩
   rw [qcg.f,if_pos hs,Has_f hw.wd,decide_eq_true (by omega),Int.toNat_natCast,ht,Option.bind_some,if_pos (by rfl)]
  ·obtain ⟨p,s',h1,h2⟩:=dfs_exists l (els ws) [(x:Int)] (fun t h=>by rw [List.mem_singleton.1 h];exact hs)
   obtain ⟨bs',h3,_⟩:=cpost_ev a b l h1 hx (marks_Mk l.length (els ws)) [] (by simp;omega)
   obtain ⟨r,h4,h5,h6⟩:=Of_ev p (by omega)
   refine ⟨r,(Ev.bind h3 (g:=fun k o=>qav.f k o.1) h4).congr (fun k=>?_),h5,qhd r,fun y=>?_⟩
   ·rw [qcg.f,if_pos hs,Has_f hw.wd,Option.bind_some,if_neg (by rw [Int.toNat_natCast];simp [ht]),if_pos ⟨hw.ok,by omega⟩]
   ·constructor
    ·intro hy
     obtain ⟨z,rfl,hz⟩:=qek hy
     exact ⟨hs,(h1.found _).1 ((h6 z).1 hz).1⟩
    ·rintro ⟨_,hr⟩
     have hrg:=hr.range hs
     obtain ⟨z,rfl⟩:=Int.eq_ofNat_of_zero_le hrg.1
     exact qdt.2 ((h6 z).2 ⟨(h1.found _).2 hr,by omega⟩)
 ·refine ⟨[],(Ev.const []).congr (fun k=>?_),GS.nil,List.Pairwise.nil,fun y=>⟨fun h=>absurd h (by simp [els,qdz]),fun h=>absurd h.1 hs⟩⟩
  rw [qcg.f,if_neg hs]
theorem els_nil:els []=[]:=rfl
theorem cReach_ev (a:Bool) (b:Int) {l:List S60} (hN:l.length≤14) (src:Int):∃ r,Ev (fun k=>qce.f k a b l src) r∧GS r∧qgo l noN src (els r):=by
 obtain ⟨r,h1,h2,h3⟩:=cavoid_ev a b hN src GS.nil
 exact ⟨r,Ev.bind h1 (Ev.const r),h2,h3.congr (fun x _ _=>by simp [els_nil,noN])⟩
theorem rReach_ev (a:Bool) (b:Int) {l:List S60} (hN:l.length≤14) (src:Int):∃ r,Ev (fun k=>qal.f k a b l src []) r∧qgo l noN src r:=by
 obtain ⟨r,h1,h2⟩:=reach_ev a b hN src [] (by simp)
 exact ⟨r,h1,h2.congr (fun x _ _=>by simp [noN])⟩
theorem rReachOne_ev (a:Bool) (b:Int) {l:List S60} (hN:l.length≤14) (src d:Int):∃ r,Ev (fun k=>qal.f k a b l src [d]) r∧qgo l (fun x=>x=d) src r:=by
 obtain ⟨r,h1,h2⟩:=reach_ev a b hN src [d] (by simp)
 exact ⟨r,h1,h2.congr (fun x _ _=>by simp)⟩
theorem cavoidOne_ev (a:Bool) (b:Int) {l:List S60} (hN:l.length≤14) (src:Int) (d:Nat) (hd:d≤65535):∃ av r,Ev (fun k=>qav.f k [(d:Int)]) av∧Ev (fun k=>qcg.f k a b l src av) r∧GS r∧qgo l (fun x=>x=d) src (els r):=by
 obtain ⟨av,h1,h2,h3⟩:=Of_ev [(d:Int)] (by simp)
 obtain ⟨r,h4,h5,h6⟩:=cavoid_ev a b hN src h2
 refine ⟨av,r,h1,h4,h5,h6.congr (fun x h0 h1=>?_)⟩
 obtain ⟨z,rfl⟩:=Int.eq_ofNat_of_zero_le h0
 rw [qdt,h3,within,List.mem_singleton]
 exact ⟨fun h=>h.1,fun h=>⟨h,by omega⟩⟩
end Go.Proofs.YtmfjmbcfaamebaaDoor.X
namespace Go.Proofs.YtmfjmbcfaamebaaDoor.X
open Go.RowKit Go.Proofs.YtmfjmbcfaamebaaDoorW.PrintWords Go.Proofs.YtmfjmbcfaamebaaDoorW.PrintLast Go.Proofs.YtmfjmbcfaamebaaDoorW.PrintMore
def Sc (l:List S60) (x:Int):List Int:=Lib.compact (qez (Tg l x))
theorem compact_one (a:Int):Lib.compact [a]=[a]:=by
 simp [Lib.compact,Lib.compactUpTo,Lib.keeps,List.range_succ]
theorem compact_two (a b:Int):Lib.compact [a,b]=if b=a then [a] else [a,b]:=by
 by_cases h:b=a
 ·subst h;simp [Lib.compact,Lib.compactUpTo,Lib.keeps,List.range_succ]
 ·rw [if_neg h];simp [Lib.compact,Lib.compactUpTo,Lib.keeps,List.range_succ,h]
theorem sorted_two (a b:Int):qez [a,b]=if a≤b then [a,b] else [b,a]:=by
 by_cases h:a≤b <;> simp [qez,List.mergeSort,List.MergeSort.Internal.splitInTwo,h]
theorem qhh {ts:List Int} (h:ts.length≤2):(Lib.compact (qez ts)).Pairwise (·<·)∧∀ x,x∈Lib.compact (qez ts)↔x∈ts:=by
 match ts,h with
 | [],_=>exact ⟨by simp [qez,Lib.compact,Lib.compactUpTo],by simp [qez,Lib.compact,Lib.compactUpTo]⟩
 | [a],_=>
  have:qez [a]=[a]:=by simp [qez]
  rw [this,compact_one]
  exact ⟨by simp,by simp⟩
 | [a,b],_=>
  rw [sorted_two]
  by_cases hab:a≤b
  ·rw [if_pos hab,compact_two]
   by_cases e:b=a
   ·subst e;rw [if_pos rfl];exact ⟨by simp,by simp⟩
   ·rw [if_neg e];exact ⟨by simp;omega,by simp⟩
  ·rw [if_neg hab,compact_two,if_neg (by omega)]
   exact ⟨by simp;omega,fun x=>by simp [or_comm]⟩
theorem Sc_isOf {l:List S60} (hN:l.length≤14) (x:Int):IsOf (Sc l x) (Tg l x):=by
 obtain ⟨h1,h2⟩:=qhh (qeo l x)
 refine ⟨h1,fun y=>(h2 y).trans ⟨fun h=>⟨h,?_⟩,fun h=>h.1⟩⟩
 have:=qdx h
 omega
theorem Sc_mem {l:List S60} {x y:Int}:y∈Sc l x↔y∈Tg l x:=(qhh (qeo l x)).2 y
def Succ (l:List S60):List (List Int):=(List.range l.length).map (fun (i:Nat)=>Sc l (i:Int))
theorem qeb (l:List S60):(Succ l).length=l.length:=by simp [Succ]
theorem qel {α:Type} (f:Nat→α) (i:Nat):(List.range (i+1)).map f=(List.range i).map f++[f i]:=by rw [List.range_succ,List.map_append];rfl
theorem cSucc_from (a:Bool) (b:Int) {l:List S60} (hN:l.length≤14):∀ (m i:Nat),i+m=l.length→Ev (fun k=>qbc.l0 k ((List.range i).map (fun (i:Nat)=>Sc l (i:Int))) l (l.length:Int) (i:Int) a b l) (Succ l)
 | 0,i,hi=>by
  have e:i=l.length:=by omega
  subst e
  refine Ev.next (Ev.const _) (fun k=>?_)
  rw [qbc.l0,if_neg (by omega)]
  rfl
 | m+1,i,hi=>by
  have h:=cSucc_from a b hN m (i+1) (by omega)
  rw [qel] at h
  refine Ev.next h (fun k=>?_)
  have c1:((i:Int)<(l.length:Int))=True:=eq_true (by omega)
  have c2:(0≤(i:Int))=True:=eq_true (by omega)
  have c3:(((List.range i).map (fun (i:Nat)=>Sc l (i:Int))).length<5864062014805)=True:=eq_true (by simp;omega)
  have c4:qcz.f (Tg l (i:Int))=some (qez (Tg l (i:Int))):=by
   rw [qcz.f,if_pos (by have:=qeo l (i:Int);omega)]
  have hw:=qcv (show i<9223372036854775807 by omega)
  rw [qbc.l0]
  simp only [c1,c2,if_true,ctargets_f,Option.bind_some,c4,qct.f,hw]
  rw [if_pos (of_eq_true c3)]
  rfl
theorem cSucc_ev (a:Bool) (b:Int) {l:List S60} (hN:l.length≤14):Ev (fun k=>qbc.f k a b l) (Succ l):=cSucc_from a b hN l.length 0 (by omega)
theorem rSucc_from (a:Bool) (b:Int) {l:List S60} (hN:l.length≤14):∀ (m i:Nat),i+m=l.length→Ev (fun k=>qaz.l0 k ((List.range i).map (fun (i:Nat)=>Sc l (i:Int))) (l.length:Int) (i:Int) a b l) (Succ l)
 | 0,i,hi=>by
  have e:i=l.length:=by omega
  subst e
  refine Ev.next (Ev.const _) (fun k=>?_)
  rw [qaz.l0,if_neg (by omega)]
  rfl
 | m+1,i,hi=>by
  have h:=rSucc_from a b hN m (i+1) (by omega)
  rw [qel] at h
  have ht:=qhe a b (l:=l) (x:=(i:Int)) (by omega) (by omega)
  obtain ⟨r,h1,h2,h3⟩:=rOf_ev (Tg l (i:Int)) (by have:=qeo l (i:Int);omega)
  have e:r=Sc l (i:Int):=h2.uniq (Sc_isOf hN _)
  subst e
  have c1:((i:Int)<(l.length:Int))=True:=eq_true (by omega)
  have c3:((List.range i).map (fun (i:Nat)=>Sc l (i:Int))).length<5864062014805:=by simp;omega
  have hw:=qcv (show i<9223372036854775807 by omega)
  refine Ev.next (Ev.bind ht (g:=fun k t=>(qbn.f k t).bind fun t'=>qaz.l0 k ((List.range i).map (fun (i:Nat)=>Sc l (i:Int))++[t']) (l.length:Int) ((i+1:Nat):Int) a b l) (Ev.bind h1 h)) (fun k=>?_)
  rw [qaz.l0]
  simp only [c1,hw,if_true,if_pos c3]
theorem rSucc_ev (a:Bool) (b:Int) {l:List S60} (hN:l.length≤14):Ev (fun k=>qaz.f k a b l) (Succ l):=rSucc_from a b hN l.length 0 (by omega)
def qev:Nat→List (List Int)→Int→List Int
 | _,[],_=>[]
 | a,r::t,b=>(if b∈r then [(a:Int)] else [])++qev (a+1) t b
theorem predsF_length:∀ (a:Nat) (t:List (List Int)) (b:Int),(qev a t b).length≤t.length
 | _,[],_=>by simp [qev]
 | a,r::t,b=>by
  have:=predsF_length (a+1) t b
  rw [qev,List.length_append]
  split <;> simp <;> omega
theorem predsF_mem:∀ (a:Nat) (t:List (List Int)) (b x:Int),x∈qev a t b↔∃ j,j<t.length∧x=((a+j:Nat):Int)∧b∈t.getD j []
 | _,[],_,_=>by simp [qev]
 | a,r::t,b,x=>by
  rw [qev,List.mem_append,predsF_mem (a+1) t b x]
  constructor
  ·rintro (h|⟨j,h1,h2,h3⟩)
   ·split at h
    ·rw [List.mem_singleton] at h;exact ⟨0,by simp,by simpa using h,by simpa⟩
    ·simp at h
   ·exact ⟨j+1,by simpa using h1,by rw [h2];congr 1;omega,by simpa using h3⟩
  ·rintro ⟨j,h1,h2,h3⟩
   cases j with
   | zero=>exact .inl (by rw [if_pos (by simpa using h3)];simpa using h2)
   | succ j=>exact .inr ⟨j,by simpa using h1,by rw [h2];congr 1;omega,by simpa using h3⟩
theorem predsIn_f (a:Int):∀ (row:List Int) (out:List (List Int)),row.Nodup→(∀ b∈row,0≤b∧b<(out.length:Int))→(∀ r∈out,r.length+row.length<1000000)→
  ∃ out',qhq a row out=some out'∧out'.length=out.length∧∀ b:Nat,b<out.length→out'.getD b []=out.getD b []++(if (b:Int)∈row then [a] else [])
 | [],out,_,_,_=>⟨out,rfl,rfl,fun b _=>by simp⟩
 | c::t,out,hn,hr,hl=>by
  obtain ⟨h1,h2⟩:=List.nodup_cons.1 hn
  obtain ⟨h3,h4⟩:=hr c (List.mem_cons_self ..)
  obtain ⟨n,rfl⟩:=Int.eq_ofNat_of_zero_le h3
  have hn':n<out.length:=by omega
  have hmem:out.getD n []∈out:=by
   rw [List.getD_eq_getElem?_getD,List.getElem?_eq_getElem hn'];exact List.getElem_mem hn'
  have hlen:=hl _ hmem
  rw [List.length_cons] at hlen
  obtain ⟨out',h5,h6,h7⟩:=predsIn_f a t (out.set n (out.getD n []++[a])) h2 (fun b hb=>by rw [List.length_set];exact hr b (List.mem_cons_of_mem _ hb)) (fun r hr=>by
   rcases List.mem_or_eq_of_mem_set hr with hr|rfl
   ·have:=hl r hr;rw [List.length_cons] at this;omega
   ·rw [List.length_append,List.length_singleton];omega)
  rw [List.length_set] at h6 h7
  refine ⟨out',?_,h6,fun b hb=>?_⟩
  ·rw [qhq,if_pos ⟨h3,h4,by simp only [Int.toNat_natCast];omega⟩]
   exact h5
  ·rw [h7 b hb]
   by_cases e:b=n
   ·subst e
    rw [if_neg h1,if_pos (List.mem_cons_self ..),List.getD_eq_getElem?_getD,List.getElem?_set_self hn']
    simp
   ·rw [List.getD_eq_getElem?_getD,List.getElem?_set_ne (fun h=>e h.symm),← List.getD_eq_getElem?_getD]
    by_cases hm:(b:Int)∈t
    ·rw [if_pos hm,if_pos (List.mem_cons_of_mem _ hm)]
    ·rw [if_neg hm,if_neg (fun h=>(List.mem_cons.1 h).elim (fun h=>e (by omega)) hm)]
theorem predsOut_f (N:Nat):∀ (rows:List (List Int)) (a:Nat) (out:List (List Int)),(∀ row∈rows,row.Nodup∧row.length≤1000∧∀ b∈row,0≤b∧b<(N:Int))→out.length=N→(∀ r∈out,r.length≤a)→a+rows.length≤1000→
  ∃ out',qfa a rows out=some out'∧out'.length=N∧∀ b:Nat,b<N→out'.getD b []=out.getD b []++qev a rows b
 | [],a,out,_,hl,_,_=>⟨out,rfl,hl,fun b _=>by simp [qev]⟩
 | row::t,a,out,hr,hl,ho,ha=>by
  obtain ⟨h1,h2,h3⟩:=hr row (List.mem_cons_self ..)
  obtain ⟨o,h4,h5,h6⟩:=predsIn_f (a:Int) row out h1 (by rw [hl];exact h3) (fun r h=>by have:=ho r h;rw [List.length_cons] at ha;omega)
  have hlen:∀ r∈o,r.length≤a+1:=by
   intro r h
   obtain ⟨j,hj,rfl⟩:=List.getElem_of_mem h
   have h7:=h6 j (by omega)
   have h7':o.getD j []=o[j]:=by rw [List.getD_eq_getElem?_getD,List.getElem?_eq_getElem hj,Option.getD_some]
   rw [h7'] at h7
   rw [h7,List.length_append]
   have h8:(out.getD j []).length≤a:=by
    rw [List.getD_eq_getElem?_getD,List.getElem?_eq_getElem (by omega:j<out.length)];exact ho _ (List.getElem_mem _)
   have h9:(if (j:Int)∈row then [(a:Int)] else []).length≤1:=by split <;> simp
   omega
  obtain ⟨o',h7,h8,h9⟩:=predsOut_f N t (a+1) o (fun row h=>hr row (List.mem_cons_of_mem _ h)) (by omega) hlen (by rw [List.length_cons] at ha;omega)
  refine ⟨o',?_,h8,fun b hb=>?_⟩
  ·rw [qfa,h4,Option.bind_some];exact h7
  ·rw [h9 b hb,h6 b (by omega),qev,List.append_assoc]
def Pred (l:List S60):List (List Int):=(List.range l.length).map (fun (i:Nat)=>qev 0 (Succ l) (i:Int))
theorem Succ_rows {l:List S60} (hN:l.length≤14):∀ row∈Succ l,row.Nodup∧row.length≤1000∧∀ b∈row,0≤b∧b<(l.length:Int):=by
 intro row h
 obtain ⟨i,hi,rfl⟩:=List.mem_map.1 h
 have h1:=Sc_isOf hN (i:Int)
 have hnd:(Sc l (i:Int)).Nodup:=h1.1.imp (fun h=>by omega)
 have hlen:(Sc l (i:Int)).length≤2:=Nat.le_trans (hnd.length_le_of_subset (fun y hy=>Sc_mem.1 hy)) (qeo l (i:Int))
 exact ⟨hnd,by omega,fun b hb=>qdx (Sc_mem.1 hb)⟩
theorem cPred_f {l:List S60} (hN:l.length≤14):qfa 0 (Succ l) (List.replicate l.length [])=some (Pred l):=by
 obtain ⟨o,h1,h2,h3⟩:=predsOut_f l.length (Succ l) 0 (List.replicate l.length []) (Succ_rows hN) (by simp) (fun r h=>by rw [(List.mem_replicate.1 h).2];simp) (by rw [qeb];omega)
 rw [h1]
 congr 1
 refine List.ext_getElem (by simp [h2,Pred]) (fun j hj hj'=>?_)
 have:=h3 j (by omega)
 rw [List.getD_eq_getElem?_getD,List.getElem?_eq_getElem hj,Option.getD_some] at this
 rw [this]
 simp [Pred,h2▸hj]
theorem cPred_ev (a:Bool) (b:Int) {l:List S60} (hN:l.length≤14):Ev (fun k=>qbs.f k a b l) (Pred l):=by
 refine (Ev.bind (cSucc_ev a b hN) (g:=fun _ s=>qfa 0 s (List.replicate l.length [])) (Ev.fix (cPred_f hN))).congr (fun k=>?_)
 rw [qbs.f,if_pos (by omega)]
end Go.Proofs.YtmfjmbcfaamebaaDoor.X
namespace Go.Proofs.YtmfjmbcfaamebaaDoor.X
noncomputable section
open Go.RowKit Go.Proofs.YtmfjmbcfaamebaaDoorW.PrintWords Go.Proofs.YtmfjmbcfaamebaaDoorW.PrintLast Go.Proofs.YtmfjmbcfaamebaaDoorW.PrintMore
theorem Ev.det {α:Type} {f:Nat→Option α} {a b:α} {k:Nat} (hm:∀ k,LeO (f k) (f (k+1))) (h:Ev f a) (h':f k=some b):b=a:=by
 obtain ⟨K,h⟩:=h
 have h1:=LeO.up hm h' K
 rw [h (k+K) (by omega)] at h1
 exact (Option.some.inj h1).symm
theorem Ev.all {α:Type} (P:α→Nat→Prop):∀ l:List α,(∀ x∈l,∃ K,∀ k,K≤k→P x k)→∃ K,∀ k,K≤k→∀ x∈l,P x k
 | [],_=>⟨0,fun _ _ x hx=>absurd hx (by simp)⟩
 | y::t,h=>by
  obtain ⟨K1,h1⟩:=h y (List.mem_cons_self ..)
  obtain ⟨K2,h2⟩:=Ev.all P t (fun x hx=>h x (List.mem_cons_of_mem _ hx))
  exact ⟨K1+K2,fun k hk x hx=>by
   rcases List.mem_cons.1 hx with rfl|hx
   ·exact h1 k (by omega)
   ·exact h2 k (by omega) x hx⟩
theorem trimmed_tot {ws:List Int} (hw:qcu ws) (hb:ws.length≤1099511627776):∀ (n k:Nat),n≤ws.length→n<k→∃ r,qba.l0 k ws (n:Int)=some r∧r.length≤n∧qcu r
 | 0,k,hn,hk=>by
  obtain ⟨j,rfl⟩:∃ j,k=j+1:=⟨k-1,by omega⟩
  refine ⟨[],?_,by simp,fun w h=>by simp at h⟩
  rw [qba.l0,if_neg (by omega),if_pos (by omega),if_pos (by omega)]
  rfl
 | n+1,k,hn,hk=>by
  obtain ⟨j,rfl⟩:∃ j,k=j+1:=⟨k-1,by omega⟩
  have hl:n<ws.length:=by omega
  have hlo:(-9223372036854775808:Int)≤((n+1:Nat):Int)-1:=by omega
  have hhi:((n+1:Nat):Int)-1<9223372036854775808:=by omega
  have c1:(((n+1:Nat):Int)>0)=True:=eq_true (by omega)
  have c2:(0≤(n:Int))=True:=eq_true (by omega)
  have c3:((n:Int)<(ws.length:Int))=True:=eq_true (by omega)
  have c4:(0≤((n+1:Nat):Int))=True:=eq_true (by omega)
  have c5:(((n+1:Nat):Int)≤(ws.length:Int))=True:=eq_true (by omega)
  have e:((n+1:Nat):Int)-1=(n:Int):=by omega
  have hlen:(ws.take (n+1)).length≤n+1:=by rw [List.length_take];omega
  obtain ⟨r,h1,h2,h3⟩:=trimmed_tot hw hb n j (by omega) (by omega)
  have hw1:wrap64 (((n+1:Nat):Int)-1)=(n:Int):=(qew hlo hhi).trans e
  by_cases h0:rd ws (n:Int)=0
  ·refine ⟨r,?_,Nat.le_succ_of_le h2,h3⟩
   rw [qba.l0]
   simp only [c1,hw1,c2,c3,h0,if_true]
   exact h1
  ·refine ⟨ws.take (n+1),?_,hlen,fun w h=>hw w (List.mem_of_mem_take h)⟩
   rw [qba.l0]
   simp only [c1,hw1,c2,c3,h0,c4,c5,if_true,if_false,Int.toNat_natCast]
theorem Union_tot {s t:List Int} (hs:qcu s) (ht:qcu t) (n:Nat) (hn:n≤1099511627776):∀ (m i k:Nat) (ws:List Int),i+m=n→ws.length=n→qcu ws→m+n+1<k→
  ∃ r,qah.l0 k ws (n:Int) (i:Int) s t=some r∧r.length≤n∧qcu r
 | 0,i,k,ws,hi,hl,hw,hk=>by
  obtain ⟨j,rfl⟩:∃ j,k=j+1:=⟨k-1,by omega⟩
  obtain ⟨r,h1,h2,h3⟩:=trimmed_tot hw (by omega) ws.length j (Nat.le_refl _) (by omega)
  refine ⟨r,?_,by omega,h3⟩
  rw [qah.l0,if_neg (by omega),qba.f,h1]
  rfl
 | m+1,i,k,ws,hi,hl,hw,hk=>by
  obtain ⟨j,rfl⟩:∃ j,k=j+1:=⟨k-1,by omega⟩
  obtain ⟨h0,h1,_⟩:=bits_or_ok (hs.getD i) (ht.getD i)
  obtain ⟨r,h3,h4,h5⟩:=Union_tot hs ht n hn m (i+1) j (ws.set i (Go.bits .or .u64 (s.getD i 0) (t.getD i 0))) (by omega) (by rw [List.length_set,hl]) (hw.set' h0 h1) (by omega)
  refine ⟨r,?_,h4,h5⟩
  have c1:((i:Int)<(n:Int))=True:=eq_true (by omega)
  have c2:(0≤(i:Int))=True:=eq_true (by omega)
  have c3:((i:Int)<(ws.length:Int))=True:=eq_true (by omega)
  have hw':=qcv (show i<9223372036854775807 by omega)
  rw [qah.l0]
  simp only [c1,c2,c3,word_f,qdd.f,hw',if_true,Option.bind_some,Int.toNat_natCast]
  exact h3
theorem setOk_wd {ws:List Int} (h:setOk ws=true):qcu ws:=fun _ hx=>setOk_word h hx
theorem qcu.setOk {ws:List Int} (h:qcu ws) (hl:ws.length≤1099511627776):setOk ws=true:=by
 simp only [X.setOk,Bool.and_eq_true,decide_eq_true_eq,List.all_eq_true]
 exact ⟨hl,fun x hx=>⟨(h x hx).1,(h x hx).2⟩⟩
theorem WithOk_ev (d:Nat):∃ K,∀ k,K≤k→WithOk k (d:Int):=by
 obtain ⟨o,⟨K,h1⟩,h2,_⟩:=Of_ev [(d:Int)] (by simp)
 refine ⟨K+3000000000000,fun k hk ws hws=>?_⟩
 have hwl:=setOk_len hws
 have hol:=h2.len
 obtain ⟨n,hn⟩:∃ n,max ws.length o.length=n:=⟨_,rfl⟩
 have hn2:n≤1099511627776:=by omega
 obtain ⟨r,h3,h4,h5⟩:=Union_tot (setOk_wd hws) h2.wd n hn2 n 0 k (List.replicate n 0) (by omega) (by simp) (.zeros n) (by omega)
 refine ⟨r,?_,h5.setOk (by omega)⟩
 have c1:(0≤(n:Int))=True:=eq_true (by omega)
 have c2:(n≤35184372088832)=True:=eq_true (by omega)
 have hf:qah.f k ws o=some r:=by
  unfold qah.f
  simp only [mx_nat,hn,Int.toNat_natCast,c1,c2,if_true,Option.bind_some,List.length_replicate]
  exact h3
 have h1':qav.f k [(d:Int)]=some o:=h1 k (by omega)
 rw [qbu.f,h1',Option.bind_some,qcf.f,hf]
 rfl
theorem qfq {N:Nat} {r:List Int} (hs:r.Pairwise (·<·)) (hr:∀ x∈r,0≤x∧x<(N:Int)):r.length≤N:=by
 have hnd:r.Nodup:=hs.imp (fun h=>by omega)
 have:=hnd.length_le_of_subset (l₂:=qdj N) (fun x hx=>qea.2 (hr x hx))
 simpa [qdj] using this
open Classical in
noncomputable def qbq (l:List S60) (n:Int):List Int:=(qdj l.length).filter (fun d=>decide (Dm (Tg l) 0 d n))
theorem allNodes_sorted (N:Nat):(qdj N).Pairwise (·<·):=by
 unfold qdj
 rw [List.pairwise_map]
 exact List.pairwise_lt_range.imp (fun h=>by omega)
theorem qdb {l:List S60} {n x:Int}:x∈qbq l n↔(0≤x∧x<(l.length:Int))∧Dm (Tg l) 0 x n:=by
 classical
 rw [qbq,List.mem_filter,qea,decide_eq_true_eq]
theorem domRow_sorted (l:List S60) (n:Int):(qbq l n).Pairwise (·<·):=(allNodes_sorted _).filter _
theorem domRow_length (l:List S60) (n:Int):(qbq l n).length≤l.length:=by
 have:=List.length_filter_le (p:=fun d=>@decide (Dm (Tg l) 0 d n) (Classical.propDecidable _)) (l:=qdj l.length)
 unfold qbq
 simpa [qdj] using this
open Classical in
theorem Dominates_ev (a:Bool) (b:Int) {l:List S60} (hN:l.length≤14) (h0:0<l.length) (d n:Int):Ev (fun k=>qcn.f k a b l d n) (decide (Dm (Tg l) 0 d n)):=by
 obtain ⟨r,h1,h2⟩:=rReach_ev a b hN 0
 obtain ⟨q,h3,h4⟩:=rReachOne_ev a b hN 0 d
 have hl1:=qfq h2.1 (fun x hx=>h2.range hx)
 have hl2:=qfq h4.1 (fun x hx=>h4.range hx)
 have h5:=qfp r n (by omega)
 have h6:=qfp q n (by omega)
 have hz:(0:Int)≤0∧(0:Int)<(l.length:Int):=by omega
 have e1:n∈r↔Rch (Tg l) noN 0 n:=(h2.2 n).trans ⟨fun h=>h.2,fun h=>⟨hz,h⟩⟩
 have e2:n∈q↔Rch (Tg l) (fun x=>x=d) 0 n:=(h4.2 n).trans ⟨fun h=>h.2,fun h=>⟨hz,h⟩⟩
 unfold qcn.f
 refine Ev.bind h1 (Ev.bind h5 ?_)
 by_cases hr:n∈r
 ·refine Ev.ifp (decide_eq_true hr) (Ev.bind h3 (Ev.bind h6 ?_))
  have:(!decide (n∈q))=decide (Dm (Tg l) 0 d n):=by
   rw [Bool.eq_iff_iff,Bool.not_eq_true',decide_eq_false_iff_not,decide_eq_true_eq,e2]
   exact ⟨fun h=>⟨e1.1 hr,h⟩,fun h=>h.2⟩
  rw [this]
  exact Ev.const _
 ·refine Ev.ifn (by simpa using hr) ?_
  rw [decide_eq_false (fun h:Dm (Tg l) 0 d n=>hr (e1.2 h.1))]
  exact Ev.const _
noncomputable def qec (l:List S60):List (List Int):=(List.range l.length).map (fun (i:Nat)=>qbq l (i:Int))
theorem allNodes_snoc (i:Nat):qdj (i+1)=qdj i++[(i:Int)]:=qel (fun (i:Nat)=>(i:Int)) i
theorem rdom_in (a:Bool) (b:Int) {l:List S60} (hN:l.length≤14) (acc:List (List Int)) (n:Nat) (hacc:acc.length<1000) {r:List (List Int)} (hn:n<l.length)
  (hnext:Ev (fun k=>qap.l0 k (acc++[qbq l (n:Int)]) (l.length:Int) ((n+1:Nat):Int) a b l) r) :
  ∀ (m i:Nat) (o:List Int),i+m=l.length→o.length≤i→(∀ z:List Int,z=(qdj i).filter (fun d=>@decide (Dm (Tg l) 0 d (n:Int)) (Classical.propDecidable _))→o=z)→Ev (fun k=>qap.l1 k acc (n:Int) o (l.length:Int) (n:Int) (l.length:Int) (i:Int) a b l) r
 | 0,i,o,hi,ho,he=>by
  have ei:i=l.length:=by omega
  have e:o=qbq l (n:Int):=by rw [he _ rfl,ei];rfl
  subst e
  refine Ev.next hnext (fun k=>?_)
  have hw:=qcv (show n<9223372036854775807 by omega)
  rw [qap.l1,if_neg (by omega),if_pos (by omega),hw]
 | m+1,i,o,hi,ho,he=>by
  classical
  have hD:=Dominates_ev a b hN (by omega) (i:Int) (n:Int)
  have hw:=qcv (show i<9223372036854775807 by omega)
  have c1:((i:Int)<(l.length:Int))=True:=eq_true (by omega)
  have c3:o.length<17592186044416:=by omega
  refine Ev.succ ?_
  simp only [qap.l1,c1,if_true,hw]
  refine Ev.bind hD ?_
  by_cases h:Dm (Tg l) 0 (i:Int) (n:Int)
  ·refine Ev.ifp (decide_eq_true h) (Ev.ifp c3 ?_)
   refine rdom_in a b hN acc n hacc hn hnext m (i+1) (o++[(i:Int)]) (by omega) (by simp;omega) (fun z hz=>?_)
   rw [hz,allNodes_snoc,List.filter_append,he _ rfl]
   simp [h]
  ·refine Ev.ifn (by simpa using h) ?_
   refine rdom_in a b hN acc n hacc hn hnext m (i+1) o (by omega) (by omega) (fun z hz=>?_)
   rw [hz,allNodes_snoc,List.filter_append,he _ rfl]
   simp [h]
theorem rdom_from (a:Bool) (b:Int) {l:List S60} (hN:l.length≤14):∀ (m i:Nat),i+m=l.length→Ev (fun k=>qap.l0 k ((List.range i).map (fun (i:Nat)=>qbq l (i:Int))) (l.length:Int) (i:Int) a b l) (qec l)
 | 0,i,hi=>by
  have e:i=l.length:=by omega
  subst e
  refine Ev.next (Ev.const _) (fun k=>?_)
  rw [qap.l0,if_neg (by omega)]
  rfl
 | m+1,i,hi=>by
  have h:=rdom_from a b hN m (i+1) (by omega)
  rw [qel] at h
  refine Ev.next (rdom_in a b hN _ i (by simp;omega) (by omega) h l.length 0 [] (by omega) (by simp) (fun z hz=>by rw [hz];rfl)) (fun k=>?_)
  rw [qap.l0,if_pos (by omega)]
  rfl
theorem rdom_ev (a:Bool) (b:Int) {l:List S60} (hN:l.length≤14):Ev (fun k=>qap.f k a b l) (qec l):=rdom_from a b hN l.length 0 (by omega)
end
end Go.Proofs.YtmfjmbcfaamebaaDoor.X
namespace Go.Proofs.YtmfjmbcfaamebaaDoor.X
noncomputable section
open Go.RowKit Go.Proofs.YtmfjmbcfaamebaaDoorW.PrintWords Go.Proofs.YtmfjmbcfaamebaaDoorW.PrintLast Go.Proofs.YtmfjmbcfaamebaaDoorW.PrintMore
theorem rd38_set {out:List S38} {n m:Nat} (v:S38) (hn:n<out.length):qcm (out.set n v) (m:Int)=if m=n then v else qcm out (m:Int):=by
 unfold qcm
 rw [Int.toNat_natCast]
 by_cases e:m=n
 ·subst e;rw [if_pos rfl,List.getD_eq_getElem?_getD,List.getElem?_set_self hn];rfl
 ·rw [if_neg e,List.getD_eq_getElem?_getD,List.getElem?_set_ne (fun h=>e h.symm),← List.getD_eq_getElem?_getD]
def AddsTo (k:Nat) (d:Nat):Prop:=∀ ws,GS ws→GS (withT k ws (d:Int))∧∀ x,tb (withT k ws (d:Int)) x=(tb ws x||decide (x=d))
theorem WithOk.adds {k d:Nat} (h:WithOk k (d:Int)) (hd:d≤65535):AddsTo k d:=by
 intro ws hw
 obtain ⟨y,h1,_⟩:=h ws hw.ok
 obtain ⟨r,h2,h3,h4⟩:=With_ev hw d hd
 have e:y=r:=h2.det (qbu.mono ws (d:Int)) h1
 subst e
 have:withT k ws (d:Int)=y:=by unfold withT;rw [h1];rfl
 rw [this]
 exact ⟨h3,h4⟩
theorem dom_inner {N k d:Nat} (hW:AddsTo k d):∀ (ns:List Int) (out:List S38),out.length=N→(∀ n∈ns,0≤n∧n<(N:Int))→(∀ n:Nat,n<N→GS (qcm out (n:Int)).f0)→
  (ns.foldl (qei k (d:Int)) out).length=N∧∀ n:Nat,n<N→GS (qcm (ns.foldl (qei k (d:Int)) out) (n:Int)).f0∧∀ x,tb (qcm (ns.foldl (qei k (d:Int)) out) (n:Int)).f0 x=true↔tb (qcm out (n:Int)).f0 x=true∨(x=d∧(n:Int)∈ns)
 | [],out,hl,_,hg=>⟨hl,fun n hn=>⟨hg n hn,fun x=>by simp⟩⟩
 | m::t,out,hl,hr,hg=>by
  obtain ⟨h0,h1⟩:=hr m (List.mem_cons_self ..)
  obtain ⟨i,rfl⟩:=Int.eq_ofNat_of_zero_le h0
  have hi:i<out.length:=by omega
  have hiN:i<N:=by omega
  obtain ⟨hw1,hw2⟩:=hW _ (hg i hiN)
  have hstep:qei k (d:Int) out (i:Int)=out.set i ⟨withT k (qcm out (i:Int)).f0 (d:Int)⟩:=by unfold qei;rw [Int.toNat_natCast]
  obtain ⟨h2,h3⟩:=dom_inner (N:=N) hW t (qei k (d:Int) out (i:Int)) (by rw [hstep,List.length_set,hl]) (fun n h=>hr n (List.mem_cons_of_mem _ h)) (fun n hn=>by
   rw [hstep,rd38_set _ hi]
   split
   ·exact hw1
   ·exact hg n hn)
  rw [List.foldl_cons]
  refine ⟨h2,fun n hn=>⟨(h3 n hn).1,fun x=>?_⟩⟩
  rw [(h3 n hn).2,hstep,rd38_set _ hi,List.mem_cons]
  by_cases e:n=i
  ·subst e
   rw [if_pos rfl]
   show tb (withT k (qcm out (n:Int)).f0 (d:Int)) x=true∨_↔_
   rw [hw2,Bool.or_eq_true,decide_eq_true_eq]
   constructor
   ·rintro ((h|h)|h)
    ·exact .inl h
    ·exact .inr ⟨h,.inl rfl⟩
    ·exact .inr ⟨h.1,.inr h.2⟩
   ·rintro (h|⟨h,_⟩)
    ·exact .inl (.inl h)
    ·exact .inl (.inr h)
  ·rw [if_neg e]
   constructor
   ·rintro (h|h)
    ·exact .inl h
    ·exact .inr ⟨h.1,.inr h.2⟩
   ·rintro (h|⟨h,h'|h'⟩)
    ·exact .inl h
    ·exact absurd h' (by omega)
    ·exact .inr ⟨h,h'⟩
theorem dom_outer {l:List S60} {a:Bool} {b:Int} {k:Nat} {all:List Int} {D:Nat→Nat→Prop}:∀ (ds:List Int) (out:List S38),(∀ d∈ds,0≤d∧d≤65535)→(∀ d:Nat,(d:Int)∈ds→AddsTo k d)→(∀ d:Nat,(d:Int)∈ds→(∀ n∈els (qgk k a b l all (d:Int)),0≤n∧n<(l.length:Int))∧∀ n:Nat,n<l.length→((n:Int)∈els (qgk k a b l all (d:Int))↔D d n))→
  out.length=l.length→(∀ n:Nat,n<l.length→GS (qcm out (n:Int)).f0)→
  (ds.foldl (qgg k a b l all) out).length=l.length∧∀ n:Nat,n<l.length→GS (qcm (ds.foldl (qgg k a b l all) out) (n:Int)).f0∧∀ x:Nat,tb (qcm (ds.foldl (qgg k a b l all) out) (n:Int)).f0 x=true↔tb (qcm out (n:Int)).f0 x=true∨((x:Int)∈ds∧D x n)
 | [],out,_,_,_,hl,hg=>⟨hl,fun n hn=>⟨hg n hn,fun x=>by simp⟩⟩
 | d::t,out,hr,hW,hD,hl,hg=>by
  obtain ⟨i,rfl⟩:=Int.eq_ofNat_of_zero_le (hr d (List.mem_cons_self ..)).1
  obtain ⟨hD1,hD2⟩:=hD i (List.mem_cons_self ..)
  obtain ⟨h1,h2⟩:=dom_inner (hW i (List.mem_cons_self ..)) _ out hl hD1 hg
  obtain ⟨h3,h4⟩:=dom_outer t (qgg k a b l all out (i:Int)) (fun d h=>hr d (List.mem_cons_of_mem _ h)) (fun d h=>hW d (List.mem_cons_of_mem _ h)) (fun d h=>hD d (List.mem_cons_of_mem _ h)) h1 (fun n hn=>(h2 n hn).1)
  rw [List.foldl_cons]
  refine ⟨h3,fun n hn=>⟨(h4 n hn).1,fun x=>?_⟩⟩
  have h5:tb (qcm (qgg k a b l all out (i:Int)) (n:Int)).f0 x=true↔tb (qcm out (n:Int)).f0 x=true∨(x=i∧(n:Int)∈els (qgk k a b l all (i:Int))):=(h2 n hn).2 x
  rw [(h4 n hn).2,h5,hD2 n hn,List.mem_cons]
  constructor
  ·rintro ((h|⟨h,h'⟩)|h)
   ·exact .inl h
   ·subst h;exact .inr ⟨.inl rfl,h'⟩
   ·exact .inr ⟨.inr h.1,h.2⟩
  ·rintro (h|⟨h|h,h'⟩)
   ·exact .inl (.inl h)
   ·have:x=i:=by omega
    subst this
    exact .inl (.inr ⟨rfl,h'⟩)
   ·exact .inr ⟨h,h'⟩
structure DParts (a:Bool) (b:Int) (l:List S60) (all:List Int) (d:Nat) (av x s:List Int):Prop where
 hav:Ev (fun k=>qav.f k [(d:Int)]) av
 hx:Ev (fun k=>qcg.f k a b l 0 av) x
 hs:Ev (fun k=>qbv.f k all x) s
 gs:GS s
 mem:∀ n:Int,n∈els s↔(0≤n∧n<(l.length:Int))∧Dm (Tg l) 0 (d:Int) n
theorem dparts {a:Bool} {b:Int} {l:List S60} (hN:l.length≤14) (h0:0<l.length) {all:List Int} (hg:GS all) (hall:qgo l noN 0 (els all)) (d:Nat) (hd:d≤65535):∃ av x s,DParts a b l all d av x s:=by
 obtain ⟨av,x,h1,h2,h3,h4⟩:=cavoidOne_ev a b hN 0 d hd
 obtain ⟨s,h5,h6,h7⟩:=Minus_ev hg h3
 refine ⟨av,x,s,h1,h2,h5,h6,fun n=>?_⟩
 have hz:(0:Int)≤0∧(0:Int)<(l.length:Int):=by omega
 constructor
 ·intro hn
  obtain ⟨m,rfl,hm⟩:=qek hn
  rw [h7,Bool.and_eq_true,Bool.not_eq_true'] at hm
  have e1:=qdt.2 hm.1
  refine ⟨hall.range e1,((hall.2 _).1 e1).2,fun hr=>?_⟩
  have:=qdt.1 ((h4.2 _).2 ⟨hz,hr⟩)
  rw [hm.2] at this
  cases this
 ·rintro ⟨hr,h⟩
  obtain ⟨m,rfl⟩:=Int.eq_ofNat_of_zero_le hr.1
  rw [qdt,h7,Bool.and_eq_true,Bool.not_eq_true']
  refine ⟨qdt.1 ((hall.2 _).2 ⟨hz,h.1⟩),?_⟩
  cases e:tb x m with
  | false=>rfl
  | true=>exact absurd ((h4.2 _).1 (qdt.2 e)).2 h.2
theorem dom_spec {a:Bool} {b:Int} {l:List S60} (hN:l.length≤14) {r:List S38} (h:Dom a b l r):r.length=l.length∧∀ n:Nat,n<l.length→GS (qcm r (n:Int)).f0∧els (qcm r (n:Int)).f0=qbq l (n:Int):=by
 obtain ⟨k,all,h1,_,_,h4,h5⟩:=h
 obtain ⟨all',e1,e2,e3⟩:=cReach_ev a b hN 0
 have ea:all=all':=e1.det (qce.mono a b l 0) h1
 subst ea
 by_cases h0:0<l.length
 ·have hds:∀ d:Nat,(d:Int)∈els all→AddsTo k d∧(∀ n∈els (qgk k a b l all (d:Int)),0≤n∧n<(l.length:Int))∧∀ n:Nat,n<l.length→((n:Int)∈els (qgk k a b l all (d:Int))↔Dm (Tg l) 0 (d:Int) (n:Int)):=by
   intro d hd
   obtain ⟨⟨av,x,p1,p2,p3⟩,_,p5,p6⟩:=h4 d hd
   have hd':d≤65535:=by have:=e2.els_len hd;omega
   obtain ⟨av',x',s',hp⟩:=dparts (a:=a) (b:=b) hN h0 e2 e3 d hd'
   have q1:av=av':=hp.hav.det (qav.mono [(d:Int)]) p1
   subst q1
   have q2:x=x':=hp.hx.det (qcg.mono a b l 0 av) p2
   subst q2
   have q3:=hp.hs.det (qbv.mono all x) p3
   refine ⟨p6.adds hd',p5,fun n hn=>?_⟩
   rw [q3,hp.mem]
   exact ⟨fun h=>h.2,fun h=>⟨by omega,h⟩⟩
  obtain ⟨g1,g2⟩:=dom_outer (a:=a) (b:=b) (k:=k) (all:=all) (D:=fun d n=>Dm (Tg l) 0 (d:Int) (n:Int)) (els all) (List.replicate l.length ⟨[]⟩) (fun d h=>e2.els_len h) (fun d h=>(hds d h).1) (fun d h=>(hds d h).2) (by simp) (fun n hn=>by
   unfold qcm
   rw [Int.toNat_natCast,List.getD_eq_getElem?_getD,List.getElem?_replicate,if_pos hn]
   exact GS.nil)
  rw [← h5] at g1 g2
  refine ⟨g1,fun n hn=>⟨(g2 n hn).1,?_⟩⟩
  refine qfs (qhd _) (domRow_sorted _ _) (fun y=>?_)
  have hrep:∀ x:Nat,tb (qcm (List.replicate l.length (⟨[]⟩:S38)) (n:Int)).f0 x=true↔False:=fun x=>by
   unfold qcm
   rw [Int.toNat_natCast,List.getD_eq_getElem?_getD,List.getElem?_replicate,if_pos hn]
   simp [tb]
  rw [qdb]
  constructor
  ·intro hy
   obtain ⟨z,rfl,hz⟩:=qek hy
   have:=((g2 n hn).2 z).1 hz
   rw [hrep] at this
   have h':=this.resolve_left id
   exact ⟨e3.range h'.1,h'.2⟩
  ·rintro ⟨hr,hy⟩
   obtain ⟨z,rfl⟩:=Int.eq_ofNat_of_zero_le hr.1
   refine qdt.2 (((g2 n hn).2 z).2 (.inr ⟨(e3.2 _).2 ⟨by omega,hy.rch⟩,hy⟩))
 ·have hl:els all=[]:=by
   rcases List.eq_nil_or_concat (els all) with h|⟨t,x,h⟩
   ·exact h
   ·have:=((e3.2 x).1 (by rw [h];simp)).1;omega
  rw [hl,List.foldl_nil] at h5
  exact ⟨by rw [h5];simp,fun n hn=>absurd hn (by omega)⟩
theorem dom_exists {a:Bool} {b:Int} {l:List S60} (hN:l.length≤14):∃ r,Dom a b l r:=by
 obtain ⟨all,e1,e2,e3⟩:=cReach_ev a b hN 0
 have key:∀ d∈els all,∃ K,∀ k,K≤k→DomAt k a b l all d:=by
  intro d hd
  obtain ⟨i,rfl⟩:=Int.eq_ofNat_of_zero_le (e2.els_len hd).1
  have h0:0<l.length:=by have:=((e3.2 _).1 hd).1;omega
  obtain ⟨av,x,s,⟨K1,q1⟩,⟨K2,q2⟩,⟨K3,q3⟩,q4,q5⟩:=dparts (a:=a) (b:=b) hN h0 e2 e3 i (by have:=e2.els_len hd;omega)
  obtain ⟨K4,q6⟩:=WithOk_ev i
  refine ⟨K1+K2+K3+K4,fun k hk=>?_⟩
  have r1:qav.f k [(i:Int)]=some av:=q1 k (by omega)
  have r2:qcg.f k a b l 0 av=some x:=q2 k (by omega)
  have r3:qbv.f k all x=some s:=q3 k (by omega)
  have r4:qgk k a b l all (i:Int)=s:=by
   unfold qgk
   rw [r1,Option.bind_some,r2,Option.bind_some,r3]
   rfl
  refine ⟨⟨av,x,r1,r2,by rw [r4];exact r3⟩,by rw [r4];exact q4.ok,fun n hn=>?_,q6 k (by omega)⟩
  rw [r4] at hn
  exact ((q5 n).1 hn).1
 obtain ⟨K,hK⟩:=Ev.all (fun d k=>DomAt k a b l all d) (els all) key
 obtain ⟨K',e1⟩:=e1
 exact ⟨_,K+K',all,e1 _ (by omega),e2.ok,by omega,hK _ (by omega),rfl⟩
theorem cdom_f (a:Bool) (b:Int) {l:List S60} (hN:l.length≤14):∃ r,qbl.f a b l=some r∧r.length=l.length∧∀ n:Nat,n<l.length→GS (qcm r (n:Int)).f0∧els (qcm r (n:Int)).f0=qbq l (n:Int):=by
 have h:=dom_exists (a:=a) (b:=b) hN
 refine ⟨h.choose,?_,dom_spec hN h.choose_spec⟩
 unfold qbl.f
 rw [dif_pos h]
end
end Go.Proofs.YtmfjmbcfaamebaaDoor.X
namespace Go.Proofs.YtmfjmbcfaamebaaDoor.X
open Go.RowKit Go.Proofs.YtmfjmbcfaamebaaDoorW.PrintWords Go.Proofs.YtmfjmbcfaamebaaDoorW.PrintLast Go.Proofs.YtmfjmbcfaamebaaDoorW.PrintMore
def popN:Nat→Nat→Nat
 | 0,_=>0
 | k+1,w=>w % 2+popN k (w/2)
theorem popN_zero:∀ k,popN k 0=0
 | 0=>rfl
 | k+1=>by rw [popN,Nat.zero_mod,Nat.zero_div,popN_zero k]
theorem popN_more:∀ (j m w:Nat),w<2 ^ j→popN (j+m) w=popN j w
 | 0,m,w,h=>by
  have:w=0:=by simpa using h
  subst this
  rw [popN_zero,popN_zero]
 | j+1,m,w,h=>by
  rw [show j+1+m=(j+m)+1 by omega,popN,popN,popN_more j m (w/2) (by rw [Nat.pow_succ] at h;omega)]
theorem popN_range:∀ (k w:Nat),((List.range k).filter (fun i=>w.testBit i)).length=popN k w
 | 0,w=>by simp [popN]
 | k+1,w=>by
  rw [List.range_succ_eq_map,List.filter_cons,List.filter_map,popN,← popN_range k (w/2)]
  have e:(fun i=>w.testBit i)∘Nat.succ=fun i=>(w/2).testBit i:=by
   funext i
   simp [Nat.testBit_succ]
  rw [e]
  have h0:w.testBit 0=decide (w % 2=1):=by simp [Nat.testBit_zero]
  rw [h0]
  by_cases h:w % 2=1
  ·rw [if_pos (by simpa using h)];simp;omega
  ·rw [if_neg (by simpa using h)];simp;omega
theorem bitsW_length {w:Nat} (h:w<2 ^ 14):(qft w).length=popN 14 w:=by
 unfold qft
 rw [popN_range,popN_more 14 50 w h]
def popUpto:Nat→Nat→Bool
 | 0,w=>qdn.f (w:Int)==some ((popN 14 w:Nat):Int)
 | k+1,w=>popUpto k w&&popUpto k (w+2 ^ k)
theorem popUpto_of:∀ (k b w:Nat),popUpto k b=true→b≤w→w<b+2 ^ k→qdn.f (w:Int)=some ((popN 14 w:Nat):Int)
 | 0,b,w,h,h1,h2=>by
  have:w=b:=by rw [Nat.pow_zero] at h2;omega
  subst this
  exact eq_of_beq h
 | k+1,b,w,h,h1,h2=>by
  rw [popUpto,Bool.and_eq_true] at h
  rw [Nat.pow_succ] at h2
  by_cases hw:w<b+2 ^ k
  ·exact popUpto_of k b w h.1 h1 hw
  ·exact popUpto_of k (b+2 ^ k) w h.2 (by omega) (by omega)
set_option maxRecDepth 100000 in
theorem pop_all:popUpto 14 0=true:=by decide +kernel
theorem ones_f {w:Nat} (h:w<2 ^ 14):qdn.f (w:Int)=some ((qft w).length:Int):=by
 rw [bitsW_length h]
 exact popUpto_of 14 0 w pop_all (by omega) (by omega)
end Go.Proofs.YtmfjmbcfaamebaaDoor.X
