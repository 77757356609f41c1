/- Parts of the proof of the law CFGDominators: words, walks of single functions and plain laws, joined by a program out of the session's texts. -/
import Derived.Test.YtmfjmbcfaamebaaDoorCFGDominators2
import Derived.Test.YtmfjmbcfaamebaaDoorProg
import Derived.Below
import Derived.Deep.Draws
import Derived.Deep.AppendLies
import Derived.Maps.AppendAt
import Derived.OwnWalk
import Derived.Laws.BytesArg
import Derived.Laws.MakeOwn
import Derived.Laws.OwnMore
import Derived.Deep.OwnRows
import Derived.Tactics
import Derived.Lib.ConvBytes
import Derived.Laws.Slices
import Derived.WalkKit
import Derived.KernelRfl
import Derived.RowKit3
import Derived.Deep.LoopGhost
import Derived.Deep.QuietTactic
import Derived.BigQuiet
import Derived.WideLaws
import Derived.Deep.DeepCutAuto
import Derived.Deep.CutBlock
import Derived.Deep.RegionHeld3
import Derived.Laws.Rows
import Derived.Lib.AppendStr
import Derived.ArgAppend
import Derived.Laws.IdiomCopy
import Derived.OrdersHeld
import Derived.Laws.BitsLemmas
import Derived.RowKit
import Derived.Lib.TrailingZeros
import Derived.Laws.Bits64b
import Derived.ProofKit
import Derived.LaidMore
import Derived.OpenShut
import Derived.ChangeArms
import Derived.Carry
import Derived.DataElems
import Derived.Stop.Joined
import Derived.Handed
import Derived.SizedLaws
import Derived.ChangeOld
import Derived.ShutString
import Derived.Test.YtmfjmbcfaamebaaDoorRows
import Derived.Shelf.SlicesE.DeleteFunc
import Derived.Shelf.Strings.Builder1
import Derived.Shelf.Strings.Builder2
import Derived.Shelf.Strings.OnBuilder
import Derived.Shelf.Small.Bits
import Derived.Shelf.Small.Wraps
import Derived.Shelf.Strings.BuilderF
import Derived.Shelf.Strings.BuilderK
import Derived.Shelf.Strings.Builder2Cap
import Derived.Shelf.Strconv.Itoa0
import Derived.Shelf.Strconv.Itoa1
import Derived.Shelf.LaysM
import Derived.Shelf.Strconv.Itoa2
import Derived.Shelf.Strconv.Itoa3
import Derived.Shelf.Sort.Plain
import Derived.Shelf.Strings.BuilderCap
import Derived.Shelf.Slices.Reverse
import Derived.Ground.Names2Prog
import Derived.Shelf.Slices.Clone
import Derived.Shelf.Slices.CompactI
import Derived.Shelf.Slices.SearchI
import Derived.Shelf.Slices.Cells
import Derived.Shelf.Slices.In.SortNone
import Derived.Ground.SlgnProg
import Derived.Shelf.SlicesE.Equal
import Derived.Shelf.SlicesE.Compact
import Derived.Ground.SlgfProg
import Derived.Shelf.SlicesE.IndexFunc
import Derived.Lib.OwnBridge
import Derived.Lib.Hide
set_option linter.unusedVariables false
set_option linter.unusedSimpArgs false
namespace Go.Proofs.YtmfjmbcfaamebaaDoor.X
open Go.RowKit Go.Proofs.YtmfjmbcfaamebaaDoorW.PrintWords Go.Proofs.YtmfjmbcfaamebaaDoorW.PrintLast Go.Proofs.YtmfjmbcfaamebaaDoorW.PrintMore
attribute [local go_sem] qbs qcb
set_option linter.unusedVariables false
set_option linter.unusedSimpArgs false
theorem qfe:(Tryd.prog.info? 3).map (fun i=>(i.zero,i.size,i.bytes))=some (some (.int .i64 0),1,8):=by kernel_rfl
theorem info4:(Tryd.prog.info? 4).map (fun i=>(i.zero,i.size,i.bytes))=some (some (.bool false),1,1):=by kernel_rfl
theorem info31:(Tryd.prog.info? 31).map (fun i=>(i.zero,i.size,i.bytes))=some (some (.slice none 0 0),1,24):=by kernel_rfl
theorem info39:(Tryd.prog.info? 39).map (fun i=>(i.zero,i.size,i.bytes))=some (some (.agg #[(.int .i64 0),(.int .i64 0)]),2,16):=by kernel_rfl
theorem info77:(Tryd.prog.info? 77).map (fun i=>(i.zero,i.size,i.bytes))=some (some (.int .u64 0),1,8):=by kernel_rfl
structure S38 where
 f0:(List Int)
def z38:S38:=⟨([]:List Int)⟩
def k38:Kd S38:=Kd.iso (Kd.slice 77 (Kd.int .u64)) (fun x:S38=>x.f0)
theorem k38_open {w:World} {x:S38} {cs:List Value} (h:k38.K w x cs):∃ A0 c0,cs=[.slice A0 x.f0.length c0]∧x.f0.length≤c0∧(Kd.int .u64).C w A0 x.f0.length x.f0:=by
 obtain ⟨A0,c0,rfl,l0,g0⟩:=h
 exact ⟨A0,c0,rfl,l0,g0⟩
theorem k38_mk (w:World) (x:S38) {A0:Option Addr} {c0:Nat} (l0:x.f0.length≤c0) (g0:(Kd.int .u64).C w A0 x.f0.length x.f0):k38.K w x [.slice A0 x.f0.length c0]:=⟨A0,c0,rfl,l0,g0⟩
theorem k38_mkM (w:World) (base:Nat) (ok:Nat→Prop) (x:S38) {v0:Value} (g0:(Kd.int .u64).R 77 w base ok v0 x.f0):k38.M w base ok x [v0]:=⟨v0,rfl,g0⟩
theorem qfo {W:World} {ok:Nat→Prop} {x:S38} {cs:List Value} (h:Kd.FK k38 W ok x cs):∃ A0 c0,cs=[.slice A0 x.f0.length c0]∧x.f0.length≤c0∧Kd.F (Kd.int .u64) W ok A0 x.f0.length x.f0:=by
 obtain ⟨A0,c0,rfl,l0,_⟩:=k38_open (Kd.FK_now h)
 exact ⟨A0,c0,rfl,l0,(fun W' hW=>by obtain ⟨A0_,c0_,he,l0_,g0_⟩:=k38_open (h W' hW);injection (Option.some.inj (show some (Value.slice A0 x.f0.length c0)=some (Value.slice A0_ x.f0.length c0_) from congrArg (fun l=>l[0]?) he)) with ha_ _ _;rw [ha_];exact g0_)⟩
theorem k38_mkF (W:World) (ok:Nat→Prop) (x:S38) {A0:Option Addr} {c0:Nat} (l0:x.f0.length≤c0) (g0:Kd.F (Kd.int .u64) W ok A0 x.f0.length x.f0):Kd.FK k38 W ok x [.slice A0 x.f0.length c0]:=fun W2 hW=>k38_mk W2 x l0 (g0 W2 hW)
def qco (xs:List S38) (i:Int):S38:=xs.getD i.toNat z38
theorem at_T38 {w:World} {A:Option Addr} {n:Nat} {xs:List S38} (h:Kd.C k38 w A n xs) (i:Int) (h0:0≤i) (h1:i<n):∃ ad A0 c0,A=some ad∧w.cell? (ad.add i.toNat)=some (.slice A0 (qco xs i).f0.length c0)∧(qco xs i).f0.length≤c0∧(Kd.int .u64).C w A0 (qco xs i).f0.length (qco xs i).f0:=by
 obtain ⟨ad,c,e,_,hK,hc0⟩:=Kd.C_get h z38 i h0 h1
 have hc:∀ j u,c[j]?=some u→w.cell? (ad.add (i.toNat*1+j))=some u:=hc0
 obtain ⟨A0,c0,rfl,l0,g0⟩:=k38_open hK
 exact ⟨ad,A0,c0,e,by have hq:=hc 0 _ rfl;rwa [Nat.mul_one,Nat.add_zero] at hq,l0,g0⟩
def qeh (xs:List (List Int)) (i:Int):(List Int):=xs.getD i.toNat ([]:List Int)
theorem at_L6 {w:World} {A:Option Addr} {n:Nat} {xs:List (List Int)} (h:Kd.C (Kd.slice 3 (Kd.int .i64)) w A n xs) (i:Int) (h0:0≤i) (h1:i<n):∃ ad A0 c0,A=some ad∧w.cell? (ad.add i.toNat)=some (.slice A0 (qeh xs i).length c0)∧(qeh xs i).length≤c0∧(Kd.int .i64).C w A0 (qeh xs i).length (qeh xs i):=by
 obtain ⟨ad,c,e,_,hK,hc0⟩:=Kd.C_get h ([]:List Int) i h0 h1
 have hc:∀ j u,c[j]?=some u→w.cell? (ad.add (i.toNat*1+j))=some u:=hc0
 obtain ⟨A0,c0,rfl,l0,g0⟩:=hK
 exact ⟨ad,A0,c0,e,by have hq:=hc 0 _ rfl;rwa [Nat.mul_one,Nat.add_zero] at hq,l0,g0⟩
structure S85 where
 f0:Int
 f1:Int
 f2:Int
 f3:Int
 f4:Int
 f5:Int
 f6:Int
 f7:(List Int)
def k85:Kd S85:=Kd.iso (Kd.pair (Kd.int .i64) (Kd.pair (Kd.int .i64) (Kd.pair (Kd.int .i64) (Kd.pair (Kd.int .i64) (Kd.pair (Kd.int .i64) (Kd.pair (Kd.int .i16) (Kd.pair (Kd.int .i64) (Kd.slice 3 (Kd.int .i64))))))))) (fun x:S85=>(x.f0,x.f1,x.f2,x.f3,x.f4,x.f5,x.f6,x.f7))
theorem k85_heap:Kd.Heap k85:=Kd.heap_iso _ (Kd.heap_pair (Kd.heap_int .i64) (Kd.heap_pair (Kd.heap_int .i64) (Kd.heap_pair (Kd.heap_int .i64) (Kd.heap_pair (Kd.heap_int .i64) (Kd.heap_pair (Kd.heap_int .i64) (Kd.heap_pair (Kd.heap_int .i16) (Kd.heap_pair (Kd.heap_int .i64) (Kd.heap_slice 3 (Kd.heap_int .i64)))))))))
structure S60 where
 f0:(List S85)
 f1:Int
 f2:Int
 f3:Int
 f4:Int
def z60:S60:=⟨([]:List S85),(0:Int),(0:Int),(0:Int),(0:Int)⟩
def k60:Kd S60:=Kd.iso (Kd.pair (Kd.slice 85 k85) (Kd.pair (Kd.int .i64) (Kd.pair (Kd.int .i64) (Kd.pair (Kd.int .i64) (Kd.int .i64))))) (fun x:S60=>(x.f0,x.f1,x.f2,x.f3,x.f4))
theorem k60_heap:Kd.Heap k60:=Kd.heap_iso _ (Kd.heap_pair (Kd.heap_slice 85 k85_heap) (Kd.heap_pair (Kd.heap_int .i64) (Kd.heap_pair (Kd.heap_int .i64) (Kd.heap_pair (Kd.heap_int .i64) (Kd.heap_int .i64)))))
theorem k60_open {w:World} {x:S60} {cs:List Value} (h:k60.K w x cs):∃ A0 c0,cs=[.slice A0 x.f0.length c0,.int .i64 x.f1,.int .i64 x.f2,.int .i64 x.f3,.int .i64 x.f4]∧x.f0.length≤c0∧k85.C w A0 x.f0.length x.f0:=by
 obtain ⟨_,_,rfl,⟨A0,c0,rfl,l0,g0⟩,⟨_,_,rfl,rfl,⟨_,_,rfl,rfl,⟨_,_,rfl,rfl,rfl⟩⟩⟩⟩:=h
 exact ⟨A0,c0,rfl,l0,g0⟩
theorem qfa (w:World) (base:Nat) (ok:Nat→Prop) (x:S60) {v0:Value} (g0:k85.R 85 w base ok v0 x.f0):k60.M w base ok x [v0,.int .i64 x.f1,.int .i64 x.f2,.int .i64 x.f3,.int .i64 x.f4]:=⟨[v0],[.int .i64 x.f1,.int .i64 x.f2,.int .i64 x.f3,.int .i64 x.f4],rfl,⟨v0,rfl,g0⟩,⟨[.int .i64 x.f1],[.int .i64 x.f2,.int .i64 x.f3,.int .i64 x.f4],rfl,rfl,⟨[.int .i64 x.f2],[.int .i64 x.f3,.int .i64 x.f4],rfl,rfl,⟨[.int .i64 x.f3],[.int .i64 x.f4],rfl,rfl,rfl⟩⟩⟩⟩
def qar (xs:List S60) (i:Int):S60:=xs.getD i.toNat z60
theorem at_T60 {w:World} {A:Option Addr} {n:Nat} {xs:List S60} (h:Kd.C k60 w A n xs) (i:Int) (h0:0≤i) (h1:i<n):∃ ad A0 c0,A=some ad∧w.cell? (ad.add (i.toNat*5))=some (.slice A0 (qar xs i).f0.length c0)∧w.cell? ⟨(ad.add (i.toNat*5)).block,(ad.add (i.toNat*5)).off+1,none⟩=some (.int .i64 (qar xs i).f1)∧w.cell? ⟨(ad.add (i.toNat*5)).block,(ad.add (i.toNat*5)).off+2,none⟩=some (.int .i64 (qar xs i).f2)∧w.cell? ⟨(ad.add (i.toNat*5)).block,(ad.add (i.toNat*5)).off+3,none⟩=some (.int .i64 (qar xs i).f3)∧w.cell? ⟨(ad.add (i.toNat*5)).block,(ad.add (i.toNat*5)).off+4,none⟩=some (.int .i64 (qar xs i).f4)∧(qar xs i).f0.length≤c0∧k85.C w A0 (qar xs i).f0.length (qar xs i).f0:=by
 obtain ⟨ad,c,e,_,hK,hc0⟩:=Kd.C_get h z60 i h0 h1
 have hc:∀ j u,c[j]?=some u→w.cell? (ad.add (i.toNat*5+j))=some u:=hc0
 obtain ⟨A0,c0,rfl,l0,g0⟩:=k60_open hK
 exact ⟨ad,A0,c0,e,hc 0 _ rfl,by rw [← qhf _ _ 1 (by omega)];exact hc 1 _ rfl,by rw [← qhf _ _ 2 (by omega)];exact hc 2 _ rfl,by rw [← qhf _ _ 3 (by omega)];exact hc 3 _ rfl,by rw [← qhf _ _ 4 (by omega)];exact hc 4 _ rfl,l0,g0⟩
structure S39 where
 f0:Int
 f1:Int
def z39:S39:=⟨(0:Int),(0:Int)⟩
def k39:Kd S39:=Kd.iso (Kd.pair (Kd.int .i64) (Kd.int .i64)) (fun x:S39=>(x.f0,x.f1))
theorem k39_open {w:World} {x:S39} {cs:List Value} (h:k39.K w x cs):cs=[.int .i64 x.f0,.int .i64 x.f1]:=by
 obtain ⟨_,_,rfl,rfl,rfl⟩:=h
 exact rfl
theorem k39_mkM (w:World) (base:Nat) (ok:Nat→Prop) (x:S39)  : k39.M w base ok x [.int .i64 x.f0,.int .i64 x.f1]:=⟨[.int .i64 x.f0],[.int .i64 x.f1],rfl,rfl,rfl⟩
def qcn (xs:List S39) (i:Int):S39:=xs.getD i.toNat z39
theorem at_T39 {w:World} {A:Option Addr} {n:Nat} {xs:List S39} (h:Kd.C k39 w A n xs) (i:Int) (h0:0≤i) (h1:i<n):∃ ad,A=some ad∧w.cell? (ad.add (i.toNat*2))=some (.int .i64 (qcn xs i).f0)∧w.cell? ⟨(ad.add (i.toNat*2)).block,(ad.add (i.toNat*2)).off+1,none⟩=some (.int .i64 (qcn xs i).f1):=by
 obtain ⟨ad,c,e,_,hK,hc0⟩:=Kd.C_get h z39 i h0 h1
 have hc:∀ j u,c[j]?=some u→w.cell? (ad.add (i.toNat*2+j))=some u:=hc0
 obtain rfl:=k39_open hK
 exact ⟨ad,e,hc 0 _ rfl,by rw [← qhf _ _ 1 (by omega)];exact hc 1 _ rfl⟩
end Go.Proofs.YtmfjmbcfaamebaaDoor.X
namespace Go.Proofs.YtmfjmbcfaamebaaDoor.X
open Go.RowKit Go.Proofs.YtmfjmbcfaamebaaDoorW.PrintWords Go.Proofs.YtmfjmbcfaamebaaDoorW.PrintLast Go.Proofs.YtmfjmbcfaamebaaDoorW.PrintMore
def TabW (w:World):Prop:=64≤Lib.deBruijn64tab.length∧0<w.heap.size∧∀ j,j<Lib.deBruijn64tab.length→w.cell? ⟨0,j,none⟩=some (.int .u8 (Lib.deBruijn64tab.getD j 0))
theorem TabW.below {n:Nat} {w W:World} (h:TabW w) (hn:w.heap.size≤n) (hb:Below n w W):TabW W:=
 ⟨h.1,Nat.lt_of_lt_of_le h.2.1 hb.size,fun j hj=>(hb.cell (p:=⟨_,j,none⟩) (Nat.lt_of_lt_of_le h.2.1 hn)).trans (h.2.2 j hj)⟩
theorem TabW.below' {w W:World} (h:TabW w) (hb:Below w.heap.size w W):TabW W:=h.below (Nat.le_refl _) hb
theorem TabW.below0 {n:Nat} {w W:World} (h:TabW w) (hn:0<n) (hb:Below n w W):TabW W:=
 ⟨h.1,Nat.lt_of_lt_of_le h.2.1 hb.size,fun j hj=>(hb.cell (p:=⟨_,j,none⟩) hn).trans (h.2.2 j hj)⟩
end Go.Proofs.YtmfjmbcfaamebaaDoor.X
namespace Go.Proofs.YtmfjmbcfaamebaaDoor.X
open Go.RowKit Go.Proofs.YtmfjmbcfaamebaaDoorW.PrintWords Go.Proofs.YtmfjmbcfaamebaaDoorW.PrintLast Go.Proofs.YtmfjmbcfaamebaaDoorW.PrintMore
open Go.ChangeShapes Go.WideShapes Go.ChangeAt
theorem list_choose {α:Type} (Q:Nat→α→Prop):∀ n:Nat,(∀ i,i<n→∃ y,Q i y)→∃ ys:List α,ys.length=n∧∀ i y,ys[i]?=some y→Q i y
 | 0,_=>⟨[],rfl,fun i y h=>by simp at h⟩
 | n+1,h=>by
  obtain ⟨ys,h1,h2⟩:=list_choose Q n (fun i hi=>h i (by omega))
  obtain ⟨y,hy⟩:=h n (by omega)
  refine ⟨ys++[y],by simp [h1],fun i z hz=>?_⟩
  by_cases hi:i<n
  ·rw [List.getElem?_append_left (by omega)] at hz
   exact h2 i z hz
  ·have hi':i<(ys++[y]).length:=(List.getElem?_eq_some_iff.1 hz).1
   have e:i=n:=by simp [h1] at hi';omega
   subst e
   rw [List.getElem?_append_right (by omega),h1,Nat.sub_self] at hz
   simp at hz
   rw [← hz]
   exact hy
def Opens (P:Program) (w:World) (t:TypeId) {α:Type} (d:Kd α):Prop:=∀ {H:Type} (enc:TypeId×Value→H) (fuel:Nat) (cs:List Value) (x:DataW H×List MemPlace),DataW.trod enc P w 0 (fun _=>true) true fuel t cs=some x→∃ y,d.K w y cs
theorem opens_int {P:Program} {w:World} {t:TypeId} {k:IntKind} (ht:P.underlying t=some (.int k)):Opens P w t (Kd.int k):=by
 intro H enc fuel cs x h
 obtain ⟨n,rfl,_,_⟩:=DataW.trod_int ht h
 exact ⟨n,rfl⟩
theorem opens_bool {P:Program} {w:World} {t:TypeId} (ht:P.underlying t=some .bool):Opens P w t Kd.bool:=by
 intro H enc fuel cs x h
 obtain ⟨n,rfl,_⟩:=DataW.trod_bool ht h
 exact ⟨n,rfl⟩
theorem open_row {P:Program} {w:World} {t e:TypeId} {α:Type} {d:Kd α} (ht:P.underlying t=some (.slice e)) (hsz:P.cellsOf e=d.sz) (he:Opens P w e d) {H:Type} {enc:TypeId×Value→H} {fuel:Nat} {cs:List Value} {x:DataW H×List MemPlace}
  (h:DataW.trod enc P w 0 (fun _=>true) true fuel t cs=some x):∃ A c ys,cs=[.slice A (List.length ys) c]∧ys.length≤c∧d.C w A ys.length ys:=by
 rcases DataW.trod_slice ht h with ⟨rfl,_⟩|⟨a,len,cap,elems,rest,n,_,rfl,_,_,hl,hc,hel,hi,_⟩
 ·exact ⟨none,0,[],rfl,Nat.le_refl _,rfl,by simp,fun h=>absurd h (Nat.lt_irrefl 0)⟩
 ·obtain ⟨ys,h1,h2⟩:=list_choose (fun i y=>∃ c:List Value,c.length=d.sz∧d.K w y c∧∀ j u,c[j]?=some u→w.cell? (a.add (i*d.sz+j))=some u) len (fun i hlt=>by
   have h3:=hi i hlt
   rw [hsz,List.getElem?_eq_getElem (by omega:i<elems.length),Option.bind_eq_some_iff] at h3
   obtain ⟨c,h4,h5⟩:=h3
   obtain ⟨_,h6,h7⟩:=World.cells?_some h4
   obtain ⟨y,hy⟩:=he enc n c _ h5
   refine ⟨y,c,h6,hy,fun j u hj=>?_⟩
   have hjl:=(List.getElem?_eq_some_iff.1 hj).1
   have h8:=h7 j (by omega)
   rw [Addr.add_add] at h8
   rw [h8,hj])
  subst h1
  exact ⟨some a,cap,ys,rfl,hl,rfl,by unfold maxLen at hc;omega,fun _=>⟨a,rfl,h2⟩⟩
theorem qid {P:Program} {w:World} {t e:TypeId} {α:Type} {d:Kd α} (ht:P.underlying t=some (.slice e)) (hsz:P.cellsOf e=d.sz) (he:Opens P w e d):Opens P w t (Kd.slice e d):=by
 intro H enc fuel cs x h
 obtain ⟨A,c,ys,h1,h2,h3⟩:=open_row ht hsz he h
 exact ⟨ys,A,c,h1,h2,h3⟩
theorem qdr {P:Program} {w:World} {H:Type} {enc:TypeId×Value→H} {n:Nat} {fs:Array Field} {cs:List Value} {xs:List (DataW H×List MemPlace)} (hxl:xs.length=fs.size)
  (hf:∀ (i:Nat) (f:Field),fs[i]?=some f→DataW.trod enc P w 0 (fun _=>true) true n f.type ((cs.drop f.offset).take (P.cellsOf f.type))=xs[i]?)
  (i:Nat) {f:Field} (hi:fs[i]?=some f) {α:Type} {d:Kd α} (hc:P.cellsOf f.type=1) (hd:Opens P w f.type d):∃ y,d.K w y ((cs.drop f.offset).take 1):=by
 have h:=hf i f hi
 have hlt:i<xs.length:=by rw [hxl];exact (Array.getElem?_eq_some_iff.1 hi).1
 rw [List.getElem?_eq_getElem hlt,hc] at h
 exact hd enc n _ _ h
theorem qgz (w:World):Opens Tryd.prog w 3 (Kd.int .i64):=opens_int Tryd.underlying3
theorem opens31 (w:World):Opens Tryd.prog w 31 (Kd.slice 3 (Kd.int .i64)):=qid Tryd.underlying31 (by kernel_rfl) (qgz w)
theorem opens83 (w:World):Opens Tryd.prog w 83 (Kd.int .i16):=opens_int Tryd.underlying83
set_option maxRecDepth 100000 in
theorem opens85 (w:World):Opens Tryd.prog w 85 k85:=by
 intro H enc fuel cs x h
 obtain ⟨xs,n,rfl,_,hl,hxl,hf⟩:=DataW.trod_struct Tryd.underlying85 h
 have hc:Tryd.prog.cellsOf 85=8:=by kernel_rfl
 rw [hc] at hl
 obtain ⟨y0,h0⟩:=qdr hxl hf 0 rfl (by kernel_rfl) (qgz w)
 obtain ⟨y1,h1⟩:=qdr hxl hf 1 rfl (by kernel_rfl) (qgz w)
 obtain ⟨y2,h2⟩:=qdr hxl hf 2 rfl (by kernel_rfl) (qgz w)
 obtain ⟨y3,h3⟩:=qdr hxl hf 3 rfl (by kernel_rfl) (qgz w)
 obtain ⟨y4,h4⟩:=qdr hxl hf 4 rfl (by kernel_rfl) (qgz w)
 obtain ⟨y5,h5⟩:=qdr hxl hf 5 rfl (by kernel_rfl) (opens83 w)
 obtain ⟨y6,h6⟩:=qdr hxl hf 6 rfl (by kernel_rfl) (qgz w)
 obtain ⟨y7,h7⟩:=qdr hxl hf 7 rfl (by kernel_rfl) (opens31 w)
 match cs,hl,h0,h1,h2,h3,h4,h5,h6,h7 with
 | [c0,c1,c2,c3,c4,c5,c6,c7],_,h0,h1,h2,h3,h4,h5,h6,h7=>
  exact ⟨⟨y0,y1,y2,y3,y4,y5,y6,y7⟩,[c0],[c1,c2,c3,c4,c5,c6,c7],rfl,h0,[c1],[c2,c3,c4,c5,c6,c7],rfl,h1,[c2],[c3,c4,c5,c6,c7],rfl,h2,[c3],[c4,c5,c6,c7],rfl,h3,[c4],[c5,c6,c7],rfl,h4,[c5],[c6,c7],rfl,h5,[c6],[c7],rfl,h6,h7⟩
theorem opens58 (w:World):Opens Tryd.prog w 58 (Kd.slice 85 k85):=qid Tryd.underlying58 (by kernel_rfl) (opens85 w)
set_option maxRecDepth 100000 in
theorem opens60 (w:World):Opens Tryd.prog w 60 k60:=by
 intro H enc fuel cs x h
 obtain ⟨xs,n,rfl,_,hl,hxl,hf⟩:=DataW.trod_struct Tryd.underlying60 h
 have hc:Tryd.prog.cellsOf 60=5:=by kernel_rfl
 rw [hc] at hl
 obtain ⟨y0,h0⟩:=qdr hxl hf 0 rfl (by kernel_rfl) (opens58 w)
 obtain ⟨y1,h1⟩:=qdr hxl hf 1 rfl (by kernel_rfl) (qgz w)
 obtain ⟨y2,h2⟩:=qdr hxl hf 2 rfl (by kernel_rfl) (qgz w)
 obtain ⟨y3,h3⟩:=qdr hxl hf 3 rfl (by kernel_rfl) (qgz w)
 obtain ⟨y4,h4⟩:=qdr hxl hf 4 rfl (by kernel_rfl) (qgz w)
 match cs,hl,h0,h1,h2,h3,h4 with
 | [c0,c1,c2,c3,c4],_,h0,h1,h2,h3,h4=>
  exact ⟨⟨y0,y1,y2,y3,y4⟩,[c0],[c1,c2,c3,c4],rfl,h0,[c1],[c2,c3,c4],rfl,h1,[c2],[c3,c4],rfl,h2,[c3],[c4],rfl,h3,h4⟩
set_option maxRecDepth 100000 in
theorem open_func {w:World} {r:Reach} {base:Nat} {v:Value} {H:Type} {enc:TypeId×Value→H} {d:DataW H} {p:List MemPlace} (hv:Value.okWide Tryd.prog w r base 24 v) (h:DataW.Trod enc Tryd.prog w 0 (fun _=>true) true 24 v d p) :
  ∃ (a:Bool) (b:Int) (A:Option Addr) (c:Nat) (l:List S60),v=.agg #[.bool a,.int .i64 b,.slice A l.length c]∧l.length≤c∧Kd.C k60 w A l.length l:=by
 obtain ⟨cs,rfl,hsz⟩:=okWide_struct Tryd.underlying24 hv
 obtain ⟨fuel,h⟩:=h
 obtain ⟨xs,n,rfl,_,hl,hxl,hf⟩:=DataW.trod_struct Tryd.underlying24 h
 have hc:Tryd.prog.cellsOf 24=3:=by kernel_rfl
 rw [hc] at hl
 obtain ⟨y0,h0⟩:=qdr hxl hf 0 rfl (by kernel_rfl) (opens_bool (w:=w) Tryd.underlying4)
 obtain ⟨y1,h1⟩:=qdr hxl hf 1 rfl (by kernel_rfl) (qgz w)
 obtain ⟨y2,h2⟩:=qdr hxl hf 2 rfl (by kernel_rfl) (qid (w:=w) Tryd.underlying22 (by kernel_rfl) (opens60 w))
 obtain ⟨cs⟩:=cs
 have hcells:(Value.agg ⟨cs⟩).cells.toList=cs:=rfl
 rw [hcells] at hl h0 h1 h2
 match cs,hl,h0,h1,h2 with
 | [c0,c1,c2],_,h0,h1,⟨A,c,h2,h3,h4⟩=>
  have e0:[c0]=[Value.bool y0]:=h0
  have e1:[c1]=[Value.int .i64 y1]:=h1
  have e2:[c2]=[Value.slice A y2.length c]:=h2
  injection e0 with e0
  injection e1 with e1
  injection e2 with e2
  subst e0 e1 e2
  exact ⟨y0,y1,A,c,y2,rfl,h3,h4⟩
abbrev laid3 {H:Type}:List (String×DataW H):=[("math/bits.deBruijn32tab",Rows.laid_math_bits_deBruijn32tab),("math/bits.deBruijn64tab",Rows.laid_math_bits_deBruijn64tab),("internal/strconv.uint64pow10",Rows.laid_internal_strconv_uint64pow10)]
theorem own:ownKnob Tryd.prog.godebug=none:=by kernel_rfl
theorem laidOut:laidOutB Tryd.prog=true:=by kernel_rfl
theorem gTab:Tryd.prog.globalNamed "math/bits.deBruijn64tab" = some 0:=by kernel_rfl
theorem tTab:(Tryd.prog.globals[0]?).map (·.type)=some 124:=by kernel_rfl
theorem tab_datum:(Rows.laid_math_bits_deBruijn64tab:DataW Unit)=.agg (Lib.deBruijn64tab.map fun (n:Nat)=>.lit (.int .u8 (n:Int))):=by kernel_rfl
theorem door_met (os:Os) (args:Array Value):laidMetH Tryd.prog laid3 ((World.doorLaid Tryd.prog 400 os).forCall (fun _ _=>0) ⟨#[],args,[]⟩).memory:=
 laidMetH_of_parts3 (fuel:=8) (laidMet_of_run' 8 (by kernel_rfl) (by kernel_rfl)) (by kernel_rfl) (by kernel_rfl)
set_option maxRecDepth 100000 in
theorem tab_of_laid {W:World} (h:laidMetH Tryd.prog laid3 W):TabW W:=by
 rw [MakeChecks.laidMetH_plain _ _ _ (by kernel_rfl)] at h
 obtain ⟨ps,⟨g0,t0,cs0,f0,p0,q0,hg0,ht0,hv0,hd0,⟨g1,t1,cs1,f1,p1,q1,hg1,ht1,hv1,hd1,_⟩,_⟩,_,_⟩:=h
 obtain rfl:=Option.some.inj (gTab.symm.trans hg1)
 obtain rfl:=Option.some.inj (tTab.symm.trans ht1)
 rw [tab_datum] at hd1
 obtain ⟨xs,m,rfl,hx,hlen,hn,hel⟩:=DataW.trod_array Tryd.underlying124 hd1
 have hc:Tryd.prog.cellsOf 124=64:=by kernel_rfl
 have hc5:Tryd.prog.cellsOf 5=1:=by kernel_rfl
 have hl64:Lib.deBruijn64tab.length=64:=by decide +kernel
 rw [hc] at hlen
 have hx':Lib.deBruijn64tab.map (fun (n:Nat)=>(DataW.lit (.int .u8 (n:Int)):DataW Unit))=xs.map (·.1):=by
  injection hx with h1 _
  injection h1 with h1
 have hcell:∀ j,j<64→W.cell? ⟨0,j,none⟩=some (.int .u8 ((Lib.deBruijn64tab.getD j 0:Nat):Int)):=by
  intro j hj
  rw [World.var?_cell hg1 hv1 j]
  have h1:=hel j hj
  rw [hc5,Nat.mul_one,List.getElem?_eq_getElem (by omega:j<xs.length)] at h1
  obtain ⟨k,h2,h3,_⟩:=DataW.trod_int Tryd.underlying5 h1
  have h4:(xs.map (·.1))[j]?=some (.lit (.int .u8 k)):=by
   rw [List.getElem?_map,List.getElem?_eq_getElem (by omega:j<xs.length),Option.map_some,h3]
  rw [← hx',List.getElem?_map,List.getElem?_eq_getElem (by omega:j<Lib.deBruijn64tab.length),Option.map_some] at h4
  injection h4 with h4
  injection h4 with h4
  injection h4 with _ h4
  have h5:cs1.toList[j]?=some (.int .u8 k):=by
   have h6:((cs1.toList.drop j).take 1)[0]?=some (Value.int .u8 k):=by rw [h2];rfl
   rw [List.getElem?_take_of_lt (by omega),List.getElem?_drop] at h6
   simpa using h6
  rw [← Array.getElem?_toList,h5,← h4,List.getD_eq_getElem?_getD,List.getElem?_eq_getElem (by omega:j<Lib.deBruijn64tab.length)]
  rfl
 refine ⟨by omega,?_,fun j hj=>hcell j (by omega)⟩
 exact World.block_lt_of_cell? _ _ (hcell 0 (by omega))
end Go.Proofs.YtmfjmbcfaamebaaDoor.X
namespace Go.Proofs.YtmfjmbcfaamebaaDoor.X
open Go.RowKit Go.Proofs.YtmfjmbcfaamebaaDoorW.PrintWords Go.Proofs.YtmfjmbcfaamebaaDoorW.PrintLast Go.Proofs.YtmfjmbcfaamebaaDoorW.PrintMore
section
variable {P:Program}
theorem cut_to3 (t e:TypeId) (kh km:IntKind) {i:TypeInfo} (ht:P.underlying t=some (.slice e)) (hi:P.info? e=some i) (A:Option Addr) (n c:Nat) (j:Int) (h0:0≤j) (hm:j≤n) (hc:n≤c) :
  ∀ W:World,(Instr.slice t (.slice A n c) none (some (.int kh j)) (some (.int km j))).run P W=.ok (.slice A j.toNat j.toNat) W:=by
 intro W
 have hel:P.elem t=e:=by simp [Program.elem,ht]
 have hu:P.underlying t=some (.slice (P.elem t)):=by rw [hel];exact ht
 have ha:(A.map fun x=>x.add 0)=A:=by cases A <;> simp [Addr.add]
 rw [run_slice_hm W t A n c hu kh km j j h0 (by omega) (by omega),hel]
 simp [sizeOf,typeInfo,hi,sliced,Result.andThen,ha]
end
section
variable {P:Program} {ops:Array Oper} {Q:Exit→Act→World→Prop}
theorem goesT_ {oi:Oper} {N:Option Tmp} {a:Act} {w:World} {K:Act→World→Prop} {f:FuncId} {fn:Func} {c:Operand} {ag:Array Operand} {ts:Array TypeId} (hf:P.funcs[f]?=some fn) (hname:(fn.name == "runtime.NumGoroutine")=false) (hb:fn.body.isSome=true) (args:Array Value)
  (hw:Region.wanted oi (yielded ops a.tmps)=true) (hN:oi.dst=N) (hop:oi.op=.call { callee:=.value c,args:=ag,argTypes:=ts }) (hc:a.eval c=.func (.func f) #[] #[]) (hargs:ag.map a.eval=args)
  (h:Calls P f args w fun e w'=>∃ v,e=.returned v∧K (a.put N v) w'):if Region.wanted oi (yielded ops a.tmps)=true then Oper.wp P oi a w K Q else K (a.put N undef) w:=by
 refine call_ f args hw hN ?_ h
 have he:=enters_ hf hname hb args w
 unfold execOp
 simp [hop,resolve,Deferred.ofValue,invoke,hc,hargs,he]
end
section
variable {P:Program}
theorem eqarr2 {t e:TypeId} {k k':IntKind} (hu:P.underlying t=some (.array 2 e)) (he:P.underlying e=some (.int k')) (hinfo:(P.info? e).map (fun i=>i.size)=some 1) (d:Nat) (w:World) (x0 x1 y0 y1:Int) :
  (Op.equalIn (d+2) t (.agg #[.int k x0,.int k x1]) (.agg #[.int k y0,.int k y1])).run P w=.ok (x0==y0&&(x1==y1)) w:=by
 obtain ⟨i,hi,hs⟩:=Option.map_eq_some_iff.1 hinfo
 have h:∀ a b w,(Op.equalIn (d+1) e (.int k a) (.int k b)).run P w=.ok (a==b) w:=fun a b w=>run_equalIn_int w d e k k' a b he
 have ha:∀ w,(isAgg e).run P w=.ok false w:=fun w=>by simp [isAgg,run_underlying he,Sem.run_bind,Result.andThen]
 have p0:∀ (x y:Int) w,(part e #[.int k x,.int k y] 0).run P w=.ok (.int k x) w:=fun x y w=>by simp [part,ha,Sem.run_bind,Result.andThen]
 have p1:∀ (x y:Int) w,(part e #[.int k x,.int k y] 1).run P w=.ok (.int k y) w:=fun x y w=>by simp [part,ha,Sem.run_bind,Result.andThen]
 unfold Op.equalIn
 simp only [Sem.run_bind,run_underlying hu,Result.andThen_ok]
 simp only [sizeOf,typeInfo,hi,Sem.run_bind,run_program,Result.andThen_ok,Sem.run_pure,hs]
 rw [Std.Legacy.Range.forIn_eq_forIn_range']
 cases hx:x0==y0 <;> cases hy:x1==y1 <;>
  simp [Std.Legacy.Range.size,List.range',p0,p1,h,hx,hy,Sem.run_bind,Result.andThen]
end
end Go.Proofs.YtmfjmbcfaamebaaDoor.X
namespace Go.Proofs.YtmfjmbcfaamebaaDoor.X
open Go.RowKit Go.Proofs.YtmfjmbcfaamebaaDoorW.PrintWords Go.Proofs.YtmfjmbcfaamebaaDoorW.PrintLast Go.Proofs.YtmfjmbcfaamebaaDoorW.PrintMore
attribute [local go_sem] qbs qcb
set_option linter.unusedVariables false
set_option linter.unusedSimpArgs false
theorem eqA39 (d:Nat) (w:World) (x0 x1 y0 y1:Int) :
  (Op.equalIn (d+2) 39 (.agg #[.int .i64 x0,.int .i64 x1]) (.agg #[.int .i64 y0,.int .i64 y1])).run Tryd.prog w=.ok (x0==y0&&(x1==y1)) w:=eqarr2 Tryd.underlying39 Tryd.underlying3 (by kernel_rfl) d w x0 x1 y0 y1
end Go.Proofs.YtmfjmbcfaamebaaDoor.X
namespace Go.Proofs.YtmfjmbcfaamebaaDoor.X
open Go.RowKit Go.Proofs.YtmfjmbcfaamebaaDoorW.PrintWords Go.Proofs.YtmfjmbcfaamebaaDoorW.PrintLast Go.Proofs.YtmfjmbcfaamebaaDoorW.PrintMore
attribute [local go_sem] qbs qcb
set_option linter.unusedVariables false
set_option linter.unusedSimpArgs false
def qak.l0:Nat→List Int→List Int→Int→Int→Option (Bool)
 | 0,_,_,_,_=>none
 | k+1,x0,x1,x12,x13=>if x13<x12 then (if 0≤x13 then (if x13<(x0.length:Int) then (if x13<(x1.length:Int) then (if (rd x0 x13)=(rd x1 x13) then (qak.l0 k x0 x1 x12 (wrap64 (x13+1))) else (some false)) else (none)) else (none)) else (none)) else (some true)
def qak.f (k:Nat) (l0:List Int) (l1:List Int):Option (Bool):=if (l0.length:Int)=(l1.length:Int) then (qak.l0 k l0 l1 (l0.length:Int) 0) else (some false)
theorem qak.mono_l:∀ k,(∀ y0 y1 y2 y3,LeO (qak.l0 k y0 y1 y2 y3) (qak.l0 (k+1) y0 y1 y2 y3))
 | 0=>fun _ _ _ _ r h=>by simp [qak.l0] at h
 | k+1=>by
  have ih0:=qak.mono_l k
  ·intro y0 y1 y2 y3
   unfold qak.l0
   repeat' first|(with_reducible exact ih0 _ _ _ _)|(with_reducible exact LeO.refl _)|(with_reducible refine LeO.ite ?_ ?_)
theorem qak.mono:∀ a0 a1 k,LeO (qak.f k a0 a1) (qak.f (k+1) a0 a1):=by
 intro a0 a1 k
 have ih0:=qak.mono_l k
 unfold qak.f
 repeat' first|(with_reducible exact ih0 _ _ _ _)|(with_reducible exact LeO.refl _)|(with_reducible refine LeO.ite ?_ ?_)
set_option maxHeartbeats 8000000 in
set_option maxRecDepth 100000 in
theorem qak.calls (k:Nat) (A0:Option Addr) (c0:Nat) (l0:List Int) (A1:Option Addr) (c1:Nat) (l1:List Int) (r:Bool) (w:World) (hr0:Kd.C (Kd.int .i64) w A0 l0.length l0) (hc0:l0.length≤c0) (hr1:Kd.C (Kd.int .i64) w A1 l1.length l1) (hc1:l1.length≤c1) (h:qak.f k l0 l1=some r) :
  Calls Tryd.prog 18 #[.slice A0 l0.length c0,.slice A1 l1.length c1] w fun e w'=>e=.returned (.bool r)∧qdm w w':=by
 have HR0:=qaa.mk hr0
 have HC0:=qaa.mk hc0
 clear hr0 hc0
 have HR1:=qaa.mk hr1
 have HC1:=qaa.mk hc1
 clear hr1 hc1
 have H:(if (l0.length:Int)=(l1.length:Int) then (qak.l0 k l0 l1 (l0.length:Int) 0) else (some false))=some r:=h
 clear h
 by_cases c3:(l0.length:Int)=(l1.length:Int)
 ·rw [if_pos c3] at H
  have c3b0:((l0.length:Int)==(l1.length:Int))=true:=beq_iff_eq.mpr c3
  have c3b1:((l0.length:Int)!=(l1.length:Int))=false:=bne_eq_false_iff_eq.mpr c3
  have c3b2:(l0.length==l1.length)=true:=by (simp at c3 ⊢;omega)
  clear c3
  have H':=qaa.mk H
  clear H
  go_enter Tryd.func18,Tryd.ntmps18
  go_wp2
  repeat (go_quiet (fail))
  go_loopg [13] k (fun kq v13 w'=>∃ (x13_1:Int),v13=.int .i64 x13_1∧qaa (qak.l0 kq l0 l1 (l0.length:Int) x13_1=some r)∧qaa (kq≤k)∧qdm w w')
  case atStart=>exact ⟨(0),(by rfl),H',⟨Nat.le_refl _⟩,by repeat (exact qdm.refl _)⟩
  case round=>
   clear H'
   try clear c3b0
   try clear c3b1
   try clear c3b2
   obtain ⟨x13_1,rfl,HA,HK1,⟨m1,rfl⟩⟩:=hrel
   cases gk with
   | zero=>exact absurd HA.out (by simp [qak.l0])
   | succ k1=>
    have H:=HA.out
    clear HA
    simp only [qak.l0] at H
    by_cases c4:x13_1<(l0.length:Int)
    ·rw [if_pos c4] at H
     have c4b0:decide (x13_1<(l0.length:Int))=true:=decide_eq_true c4
     clear c4
     by_cases c5:0≤x13_1
     ·rw [if_pos c5] at H
      have c5b0:decide (0≤x13_1)=true:=decide_eq_true c5
      clear c5
      by_cases c6:x13_1<(l0.length:Int)
      ·rw [if_pos c6] at H
       have c6b0:decide (x13_1<(l0.length:Int))=true:=decide_eq_true c6
       clear c6
       by_cases c7:x13_1<(l1.length:Int)
       ·rw [if_pos c7] at H
        have c7b0:decide (x13_1<(l1.length:Int))=true:=decide_eq_true c7
        clear c7
        by_cases c8:(rd l0 x13_1)=(rd l1 x13_1)
        ·rw [if_pos c8] at H
         have c8b0:((rd l0 x13_1)==(rd l1 x13_1))=true:=beq_iff_eq.mpr c8
         have c8b1:((rd l0 x13_1)!=(rd l1 x13_1))=false:=bne_eq_false_iff_eq.mpr c8
         clear c8
         have H':=qaa.mk H
         clear H
         have p341:0≤(x13_1:Int):=of_decide_eq_true (by (with_reducible assumption))
         have q341:x13_1<(l0.length:Int):=of_decide_eq_true (by (with_reducible assumption))
         obtain ⟨ad341,e341,hx341_0⟩:=Kd.at_int HR0.out x13_1 p341 q341
         cases e341
         replace p341:=eq_true p341
         replace q341:=eq_true q341
         have p342:0≤(x13_1:Int):=of_decide_eq_true (by (with_reducible assumption))
         have q342:x13_1<(l1.length:Int):=of_decide_eq_true (by (with_reducible assumption))
         obtain ⟨ad342,e342,hx342_0⟩:=Kd.at_int HR1.out x13_1 p342 q342
         cases e342
         replace p342:=eq_true p342
         replace q342:=eq_true q342
         go_wp2
         repeat (go_quiet (fail);try go_wp2)
         go_roundg k1
         case measure=>have:=HK1.out;omega
         case rel=>exact ⟨(wrap64 (x13_1+1)),(by rfl),H',⟨by have:=HK1.out;omega⟩,by repeat (first|exact qdm.refl _|apply qdm.step)⟩
        ·rw [if_neg c8] at H
         have c8b0:((rd l0 x13_1)==(rd l1 x13_1))=false:=beq_eq_false_iff_ne.mpr c8
         have c8b1:((rd l0 x13_1)!=(rd l1 x13_1))=true:=bne_iff_ne.mpr c8
         obtain rfl:=Option.some.inj H
         have p341:0≤(x13_1:Int):=of_decide_eq_true (by (with_reducible assumption))
         have q341:x13_1<(l0.length:Int):=of_decide_eq_true (by (with_reducible assumption))
         obtain ⟨ad341,e341,hx341_0⟩:=Kd.at_int HR0.out x13_1 p341 q341
         cases e341
         replace p341:=eq_true p341
         replace q341:=eq_true q341
         have p342:0≤(x13_1:Int):=of_decide_eq_true (by (with_reducible assumption))
         have q342:x13_1<(l1.length:Int):=of_decide_eq_true (by (with_reducible assumption))
         obtain ⟨ad342,e342,hx342_0⟩:=Kd.at_int HR1.out x13_1 p342 q342
         cases e342
         replace p342:=eq_true p342
         replace q342:=eq_true q342
         go_wp2
         repeat (go_quiet (fail);try go_wp2)
         go_ret
         exact ⟨by rfl,by repeat (first|exact qdm.refl _|apply qdm.step)⟩
       ·rw [if_neg c7] at H
        exact absurd H (by simp)
      ·rw [if_neg c6] at H
       exact absurd H (by simp)
     ·rw [if_neg c5] at H
      exact absurd H (by simp)
    ·rw [if_neg c4] at H
     have c4b0:decide (x13_1<(l0.length:Int))=false:=decide_eq_false c4
     clear c4
     obtain rfl:=Option.some.inj H
     go_wp2
     repeat (go_quiet (fail))
     go_ret
     exact ⟨by rfl,by repeat (first|exact qdm.refl _|apply qdm.step)⟩
 ·rw [if_neg c3] at H
  have c3b0:((l0.length:Int)==(l1.length:Int))=false:=beq_eq_false_iff_ne.mpr c3
  have c3b1:((l0.length:Int)!=(l1.length:Int))=true:=bne_iff_ne.mpr c3
  have c3b2:(l0.length==l1.length)=false:=by (simp at c3 ⊢;omega)
  obtain rfl:=Option.some.inj H
  go_enter Tryd.func18,Tryd.ntmps18
  go_wp2
  repeat (go_quiet (fail))
  go_ret
  exact ⟨by rfl,by repeat (exact qdm.refl _)⟩
end Go.Proofs.YtmfjmbcfaamebaaDoor.X
namespace Go.Proofs.YtmfjmbcfaamebaaDoor.X
open Go.RowKit Go.Proofs.YtmfjmbcfaamebaaDoorW.PrintWords Go.Proofs.YtmfjmbcfaamebaaDoorW.PrintLast Go.Proofs.YtmfjmbcfaamebaaDoorW.PrintMore
def qfy (w:Nat):List Nat:=(List.range 64).filter (fun i=>w.testBit i)
theorem bitsW_zero:qfy 0=[]:=by simp [qfy]
theorem bitsW_lt {w i:Nat} (h:i∈qfy w):i<64:=by
 simp only [qfy,List.mem_filter,List.mem_range] at h
 exact h.1
theorem qfj (c m j:Nat):((2 ^ c*(2*m+1)) &&& (2 ^ c*(2*m+1)-1)).testBit j=(decide (c<j)&&(2 ^ c*(2*m+1)).testBit j):=by
 have hp:0<2 ^ c:=Nat.two_pow_pos c
 have e:2 ^ c*(2*m+1)-1=2 ^ c*(2*m)+(2 ^ c-1):=by rw [Nat.mul_add];omega
 have e2:=Nat.testBit_two_pow_mul_add (i:=c) (b:=2 ^ c-1) (2*m) (by omega) j
 rw [Nat.testBit_and,e,e2,Nat.testBit_two_pow_mul]
 by_cases h1:j<c
 ·simp [h1,Nat.not_le.2 h1,Nat.not_lt.2 (Nat.le_of_lt h1)]
 ·by_cases h2:j=c
  ·subst h2;simp
  ·obtain ⟨d,rfl⟩:∃ d,j=c+d+1:=⟨j-c-1,by omega⟩
   have e1:c+d+1-c=d+1:=by omega
   rw [e1,if_neg (by omega),Nat.testBit_succ,Nat.testBit_succ,show (2*m+1)/2=m by omega,show 2*m/2=m by omega]
   simp [show c≤c+d+1 by omega,show c<c+d+1 by omega]
theorem bitsW_step {w:Nat} (h0:w≠0) (h:w<2 ^ 64):qfy w=Lib.ctz 64 w::qfy (w &&& (w-1)):=by
 obtain ⟨m,hm,hk⟩:=Lib.ctzFrom_spec 64 w (by omega) h
 have e:Lib.ctz 64 w=Lib.ctzFrom 64 w:=by simp [Lib.ctz,h0]
 rw [e]
 generalize Lib.ctzFrom 64 w=c at hm hk ⊢
 subst hm
 have hr:List.range 64=List.range c++c::(List.range (63-c)).map (fun i=>c+1+i):=by
  have:64=c+(1+(63-c)):=by omega
  rw [this,List.range_add,List.range_add]
  simp [Nat.add_assoc]
 have f1:∀ x:Nat,(∀ i,i<c→x.testBit i=false)→(List.range c).filter (fun i=>x.testBit i)=[]:=fun x hx=>by
  rw [List.filter_eq_nil_iff]
  intro a ha
  simp [hx a (by simpa using ha)]
 unfold qfy
 rw [hr,List.filter_append,List.filter_append,f1 _ (fun i hi=>by rw [Nat.testBit_two_pow_mul];simp [Nat.not_le.2 hi]),f1 _ (fun i hi=>by rw [qfj];simp [Nat.not_lt.2 (Nat.le_of_lt hi)])]
 have hc:(2 ^ c*(2*m+1)).testBit c=true:=by rw [Nat.testBit_two_pow_mul];simp
 have hc':((2 ^ c*(2*m+1)) &&& (2 ^ c*(2*m+1)-1)).testBit c=false:=by rw [qfj];simp
 rw [List.nil_append,List.nil_append,List.filter_cons,List.filter_cons,hc,hc']
 simp only [if_true,Bool.false_eq_true,if_false]
 congr 1
 apply List.filter_congr
 intro x hx
 obtain ⟨i,_,rfl⟩:=List.mem_map.1 hx
 rw [qfj]
 simp [show c<c+1+i by omega]
def qdz:Nat→List Int→List Int
 | _,[]=>[]
 | i,w::t=>(qfy w.toNat).map (fun j=>((i*64+j:Nat):Int))++qdz (i+1) t
def els (l:List Int):List Int:=qdz 0 l
theorem elsFrom_bound:∀ (l:List Int) (i:Nat) (x:Int),x∈qdz i l→0≤x∧x<((i+l.length)*64:Nat)
 | [],_,_,h=>by simp [qdz] at h
 | w::t,i,x,h=>by
  simp only [qdz,List.mem_append,List.mem_map] at h
  rcases h with ⟨j,hj,rfl⟩|h
  ·have:=bitsW_lt hj
   simp only [List.length_cons]
   omega
  ·have:=elsFrom_bound t (i+1) x h
   simp only [List.length_cons]
   omega
theorem els_bound {l:List Int} {x:Int} (h:x∈els l):0≤x∧x<(l.length*64:Nat):=by simpa using elsFrom_bound l 0 x h
end Go.Proofs.YtmfjmbcfaamebaaDoor.X
namespace Go.Proofs.YtmfjmbcfaamebaaDoor.X
open Go.RowKit Go.Proofs.YtmfjmbcfaamebaaDoorW.PrintWords Go.Proofs.YtmfjmbcfaamebaaDoorW.PrintLast Go.Proofs.YtmfjmbcfaamebaaDoorW.PrintMore
attribute [local go_sem] qbs qcb
set_option linter.unusedVariables false
set_option linter.unusedSimpArgs false
open Go.Shelf
set_option maxHeartbeats 1000000 in
theorem cfg_targets_1.gives (B:Nat) (A:Option Addr) (c n:Nat) (x:Int) (W:World) (hn:n≤9223372036854775807) (hc:W.cell? ⟨B,2,none⟩=some (.slice A n c)) :
  FnGives Tryd.prog 72 #[.pointer (some ⟨B,0,none⟩)] #[.int .i64 x] (.bool (decide (x<0)||decide ((n:Int)≤x))) W:=by
 show Calls Tryd.prog 72 #[.int .i64 x,.pointer (some ⟨B,0,none⟩)] W _
 by_cases h0:x<0
 ·have h0b:decide (x<0)=true:=decide_eq_true h0
  have HG:=qaa.mk (show (decide (x<0)||decide ((n:Int)≤x))=true by simp [h0])
  go_enter Tryd.func72,Tryd.ntmps72
  go_wp2
  all_goals (go_ret;exact ⟨by rw [HG.out];rfl,0,rfl⟩)
 ·have h0b:decide (x<0)=false:=decide_eq_false h0
  rw [show (decide (x<0)||decide ((n:Int)≤x))=decide ((n:Int)≤x) by simp [h0]]
  go_enter Tryd.func72,Tryd.ntmps72
  go_wp2
  all_goals (go_ret;exact ⟨rfl,0,rfl⟩)
end Go.Proofs.YtmfjmbcfaamebaaDoor.X
namespace Go.Proofs
open Go.Shelf
def Tryd.lays156_ren:Go.Shelf.Ren:=⟨fun|156=>70|165=>86|166=>87|169=>88|240=>103|241=>104|276=>115|277=>116|n=>n,fun|31=>91|9=>9|3=>3|4=>4|0=>0|20=>20|72=>107|76=>111|70=>104|37=>105|75=>110|127=>126|164=>137|5=>5|80=>61|n=>n,fun|n=>n⟩
theorem Tryd.lays156:Go.Proofs.Lays.n156 Tryd.prog Tryd.lays156_ren:={
 mixed:=by kernel_rfl
 f156:=Tryd.func70.trans (congrArg some (by kernel_rfl))
 f165:=Tryd.func86.trans (congrArg some (by kernel_rfl))
 f166:=Tryd.func87.trans (congrArg some (by kernel_rfl))
 f169:=Tryd.func88.trans (congrArg some (by kernel_rfl))
 f240:=Tryd.func103.trans (congrArg some (by kernel_rfl))
 f241:=Tryd.func104.trans (congrArg some (by kernel_rfl))
 f276:=Tryd.func115.trans (congrArg some (by kernel_rfl))
 f277:=Tryd.func116.trans (congrArg some (by kernel_rfl))
 t0:=Tryd.underlying0
 a0:=Tryd.isAgg0
 z0:=Tryd.sizeOf0
 v0:=Tryd.zeroValue0
 t3:=Tryd.underlying3
 a3:=Tryd.isAgg3
 z3:=Tryd.sizeOf3
 v3:=Tryd.zeroValue3
 t4:=Tryd.underlying4
 a4:=Tryd.isAgg4
 z4:=Tryd.sizeOf4
 v4:=Tryd.zeroValue4
 t9:=Tryd.underlying9
 a9:=Tryd.isAgg9
 z9:=Tryd.sizeOf9
 v9:=Tryd.zeroValue9
 t20:=Tryd.underlying20
 a20:=Tryd.isAgg20
 z20:=Tryd.sizeOf20
 v20:=Tryd.zeroValue20
 t31:=Tryd.underlying91
 a31:=Tryd.isAgg91
 z31:=Tryd.sizeOf91
 v31:=Tryd.zeroValue91
 t37:=Tryd.underlying105
 a37:=Tryd.isAgg105
 z37:=Tryd.sizeOf105
 v37:=Tryd.zeroValue105
 t70:=Tryd.underlying104
 a70:=Tryd.isAgg104
 z70:=Tryd.sizeOf104
 v70:=Tryd.zeroValue104
 t72:=Tryd.underlying107
 a72:=Tryd.isAgg107
 z72:=Tryd.sizeOf107
 v72:=Tryd.zeroValue107
 t75:=Tryd.underlying110
 a75:=Tryd.isAgg110
 z75:=Tryd.sizeOf110
 v75:=Tryd.zeroValue110
 t76:=Tryd.underlying111
 a76:=Tryd.isAgg111
 z76:=Tryd.sizeOf111
 v76:=Tryd.zeroValue111
 t127:=Tryd.underlying126
 a127:=Tryd.isAgg126
 z127:=Tryd.sizeOf126
 v127:=Tryd.zeroValue126
 t164:=Tryd.underlying137
 a164:=Tryd.isAgg137
 z164:=Tryd.sizeOf137
 v164:=Tryd.zeroValue137 }
theorem Tryd.Builder_Extra_156:Builder.Extra Tryd.prog Tryd.lays156_ren:={
 sizeBuilder:=by kernel_rfl
 liesBuilder:=by kernel_rfl
 t5:=Tryd.underlying5
 a5:=Tryd.isAgg5
 z5:=Tryd.sizeOf5
 v5:=Tryd.zeroValue5
 infoByte:=by kernel_rfl
 cellsByte:=by kernel_rfl
 sizeByte:=by kernel_rfl
 neB5:=by decide }
open Go.RowKit in
theorem Tryd.strings_Join (bk o c:Nat) (xs:List ByteArray) (sep:ByteArray) (w:World) (hcells:∀ (j:Nat) x,xs[j]?=some x→w.cell? ⟨bk,o+j,none⟩=some (.string x)) (hbk:bk<w.heap.size) (hN:xs.length≤140737488355328) (hcap:xs.length≤c) (hlen:(Lib.join (xs.map (·.data.toList)) sep.data.toList).length≤140737488355328) :
  Calls Tryd.prog 70 #[.slice (some ⟨bk,o,none⟩) xs.length c,.string sep] w fun e w'=>e=.returned (.string ⟨(Lib.join (xs.map (·.data.toList)) sep.data.toList).toArray⟩)∧Below w.heap.size w w':=Any.strings_Join Tryd.lays156 Tryd.Builder_Extra_156 bk o c xs sep w hcells hbk hN hcap hlen
def Tryd.laysM246_ren:Go.Shelf.Ren:=⟨fun|246=>102|283=>111|284=>112|285=>113|286=>114|129=>100|317=>118|318=>119|319=>120|320=>121|337=>122|338=>77|n=>n,fun|2=>2|3=>3|9=>9|4=>4|171=>133|0=>0|53=>77|37=>105|5=>5|173=>135|212=>145|51=>123|20=>20|213=>146|46=>97|232=>147|233=>124|n=>n,fun|17=>1|18=>3|19=>0|n=>n⟩
def Tryd.laysM243_ren:Go.Shelf.Ren:=⟨fun|243=>85|246=>102|283=>111|284=>112|285=>113|286=>114|129=>100|317=>118|318=>119|319=>120|320=>121|337=>122|338=>77|n=>n,fun|3=>3|9=>9|2=>2|4=>4|171=>133|0=>0|53=>77|37=>105|5=>5|173=>135|212=>145|51=>123|20=>20|213=>146|46=>97|232=>147|233=>124|n=>n,fun|17=>1|18=>3|19=>0|n=>n⟩
def Tryd.laysM171_ren:Go.Shelf.Ren:=⟨fun|171=>69|243=>85|246=>102|283=>111|284=>112|285=>113|286=>114|129=>100|317=>118|318=>119|319=>120|320=>121|337=>122|338=>77|n=>n,fun|3=>3|9=>9|2=>2|4=>4|171=>133|0=>0|53=>77|37=>105|5=>5|173=>135|212=>145|51=>123|20=>20|213=>146|46=>97|232=>147|233=>124|n=>n,fun|17=>1|18=>3|19=>0|n=>n⟩
def Tryd.lays171_ren:Go.Shelf.Ren:=⟨fun|171=>69|243=>85|246=>102|283=>111|284=>112|285=>113|286=>114|129=>100|317=>118|318=>119|319=>120|320=>121|337=>122|338=>77|n=>n,fun|3=>3|9=>9|2=>2|4=>4|171=>133|0=>0|53=>77|37=>105|5=>5|173=>135|212=>145|51=>123|20=>20|213=>146|46=>97|232=>147|233=>124|n=>n,fun|17=>1|18=>3|19=>0|n=>n⟩
theorem Tryd.lays171:Go.Proofs.Lays.n171 Tryd.prog Tryd.lays171_ren:={
 mixed:=by kernel_rfl
 f129:=Tryd.func100.trans (congrArg some (by kernel_rfl))
 f171:=Tryd.func69.trans (congrArg some (by kernel_rfl))
 f243:=Tryd.func85.trans (congrArg some (by kernel_rfl))
 f246:=Tryd.func102.trans (congrArg some (by kernel_rfl))
 f283:=Tryd.func111.trans (congrArg some (by kernel_rfl))
 f284:=Tryd.func112.trans (congrArg some (by kernel_rfl))
 f285:=Tryd.func113.trans (congrArg some (by kernel_rfl))
 f286:=Tryd.func114.trans (congrArg some (by kernel_rfl))
 f317:=Tryd.func118.trans (congrArg some (by kernel_rfl))
 f318:=Tryd.func119.trans (congrArg some (by kernel_rfl))
 f319:=Tryd.func120.trans (congrArg some (by kernel_rfl))
 f320:=Tryd.func121.trans (congrArg some (by kernel_rfl))
 f337:=Tryd.func122.trans (congrArg some (by kernel_rfl))
 f338:=Tryd.func77.trans (congrArg some (by kernel_rfl))
 t0:=Tryd.underlying0
 a0:=Tryd.isAgg0
 z0:=Tryd.sizeOf0
 v0:=Tryd.zeroValue0
 t2:=Tryd.underlying2
 a2:=Tryd.isAgg2
 z2:=Tryd.sizeOf2
 v2:=Tryd.zeroValue2
 t3:=Tryd.underlying3
 a3:=Tryd.isAgg3
 z3:=Tryd.sizeOf3
 v3:=Tryd.zeroValue3
 t4:=Tryd.underlying4
 a4:=Tryd.isAgg4
 z4:=Tryd.sizeOf4
 v4:=Tryd.zeroValue4
 t5:=Tryd.underlying5
 a5:=Tryd.isAgg5
 z5:=Tryd.sizeOf5
 v5:=Tryd.zeroValue5
 t9:=Tryd.underlying9
 a9:=Tryd.isAgg9
 z9:=Tryd.sizeOf9
 v9:=Tryd.zeroValue9
 t20:=Tryd.underlying20
 a20:=Tryd.isAgg20
 z20:=Tryd.sizeOf20
 v20:=Tryd.zeroValue20
 t37:=Tryd.underlying105
 a37:=Tryd.isAgg105
 z37:=Tryd.sizeOf105
 v37:=Tryd.zeroValue105
 t46:=Tryd.underlying97
 a46:=Tryd.isAgg97
 z46:=Tryd.sizeOf97
 v46:=Tryd.zeroValue97
 t51:=Tryd.underlying123
 a51:=Tryd.isAgg123
 z51:=Tryd.sizeOf123
 v51:=Tryd.zeroValue123
 t53:=Tryd.underlying77
 a53:=Tryd.isAgg77
 z53:=Tryd.sizeOf77
 v53:=Tryd.zeroValue77
 t171:=Tryd.underlying133
 a171:=Tryd.isAgg133
 z171:=Tryd.sizeOf133
 v171:=Tryd.zeroValue133
 t173:=Tryd.underlying135
 a173:=Tryd.isAgg135
 z173:=Tryd.sizeOf135
 v173:=Tryd.zeroValue135
 t212:=Tryd.underlying145
 a212:=Tryd.isAgg145
 z212:=Tryd.sizeOf145
 v212:=Tryd.zeroValue145
 t213:=Tryd.underlying146
 a213:=Tryd.isAgg146
 z213:=Tryd.sizeOf146
 t232:=Tryd.underlying147
 a232:=Tryd.isAgg147
 z232:=Tryd.sizeOf147
 v232:=Tryd.zeroValue147
 t233:=Tryd.underlying124
 a233:=Tryd.isAgg124
 z233:=Tryd.sizeOf124
 v233:=Tryd.zeroValue124
 g17:=by kernel_rfl
 g18:=by kernel_rfl
 g19:=by kernel_rfl }
open Go.RowKit Go.Sort Go.Lib in
theorem Tryd.strconv_Itoa_small (i:Nat) (hi:i<100) (w:World) :
  Calls Tryd.prog 69 #[.int .i64 i] w fun e w'=>e=.returned (.string ⟨(Lib.decDigits i).toArray⟩)∧w'=w:=Any.strconv_Itoa_small Tryd.lays171 i hi w
def Tryd.lays189_ren:Go.Shelf.Ren:=⟨fun|189=>44|125=>74|257=>73|128=>99|129=>100|294=>90|295=>91|296=>92|297=>93|298=>94|299=>95|216=>96|300=>97|301=>98|328=>105|329=>106|330=>107|331=>108|332=>109|215=>110|343=>117|n=>n,fun|28=>31|3=>3|46=>97|0=>0|51=>123|53=>77|4=>4|183=>116|182=>115|131=>89|5=>5|9=>9|218=>127|222=>131|228=>140|229=>141|n=>n,fun|n=>n⟩
theorem Tryd.lays189:Go.Proofs.Lays.n189 Tryd.prog Tryd.lays189_ren:={
 mixed:=by kernel_rfl
 f125:=Tryd.func74.trans (congrArg some (by kernel_rfl))
 f128:=Tryd.func99.trans (congrArg some (by kernel_rfl))
 f129:=Tryd.func100.trans (congrArg some (by kernel_rfl))
 f189:=Tryd.func44.trans (congrArg some (by kernel_rfl))
 f215:=Tryd.func110.trans (congrArg some (by kernel_rfl))
 f216:=Tryd.func96.trans (congrArg some (by kernel_rfl))
 f257:=Tryd.func73.trans (congrArg some (by kernel_rfl))
 f294:=Tryd.func90.trans (congrArg some (by kernel_rfl))
 f295:=Tryd.func91.trans (congrArg some (by kernel_rfl))
 f296:=Tryd.func92.trans (congrArg some (by kernel_rfl))
 f297:=Tryd.func93.trans (congrArg some (by kernel_rfl))
 f298:=Tryd.func94.trans (congrArg some (by kernel_rfl))
 f299:=Tryd.func95.trans (congrArg some (by kernel_rfl))
 f300:=Tryd.func97.trans (congrArg some (by kernel_rfl))
 f301:=Tryd.func98.trans (congrArg some (by kernel_rfl))
 f328:=Tryd.func105.trans (congrArg some (by kernel_rfl))
 f329:=Tryd.func106.trans (congrArg some (by kernel_rfl))
 f330:=Tryd.func107.trans (congrArg some (by kernel_rfl))
 f331:=Tryd.func108.trans (congrArg some (by kernel_rfl))
 f332:=Tryd.func109.trans (congrArg some (by kernel_rfl))
 f343:=Tryd.func117.trans (congrArg some (by kernel_rfl))
 t0:=Tryd.underlying0
 a0:=Tryd.isAgg0
 z0:=Tryd.sizeOf0
 v0:=Tryd.zeroValue0
 t3:=Tryd.underlying3
 a3:=Tryd.isAgg3
 z3:=Tryd.sizeOf3
 v3:=Tryd.zeroValue3
 t4:=Tryd.underlying4
 a4:=Tryd.isAgg4
 z4:=Tryd.sizeOf4
 v4:=Tryd.zeroValue4
 t5:=Tryd.underlying5
 a5:=Tryd.isAgg5
 z5:=Tryd.sizeOf5
 v5:=Tryd.zeroValue5
 t9:=Tryd.underlying9
 a9:=Tryd.isAgg9
 z9:=Tryd.sizeOf9
 v9:=Tryd.zeroValue9
 t28:=Tryd.underlying31
 a28:=Tryd.isAgg31
 z28:=Tryd.sizeOf31
 v28:=Tryd.zeroValue31
 t46:=Tryd.underlying97
 a46:=Tryd.isAgg97
 z46:=Tryd.sizeOf97
 v46:=Tryd.zeroValue97
 t51:=Tryd.underlying123
 a51:=Tryd.isAgg123
 z51:=Tryd.sizeOf123
 v51:=Tryd.zeroValue123
 t53:=Tryd.underlying77
 a53:=Tryd.isAgg77
 z53:=Tryd.sizeOf77
 v53:=Tryd.zeroValue77
 t131:=Tryd.underlying89
 a131:=Tryd.isAgg89
 z131:=Tryd.sizeOf89
 v131:=Tryd.zeroValue89
 t182:=Tryd.underlying115
 a182:=Tryd.isAgg115
 z182:=Tryd.sizeOf115
 v182:=Tryd.zeroValue115
 t183:=Tryd.underlying116
 a183:=Tryd.isAgg116
 z183:=Tryd.sizeOf116
 v183:=Tryd.zeroValue116
 t218:=Tryd.underlying127
 a218:=Tryd.isAgg127
 z218:=Tryd.sizeOf127
 v218:=Tryd.zeroValue127
 t222:=Tryd.underlying131
 a222:=Tryd.isAgg131
 z222:=Tryd.sizeOf131
 v222:=Tryd.zeroValue131
 t228:=Tryd.underlying140
 a228:=Tryd.isAgg140
 z228:=Tryd.sizeOf140
 v228:=Tryd.zeroValue140
 t229:=Tryd.underlying141
 a229:=Tryd.isAgg141
 z229:=Tryd.sizeOf141
 v229:=Tryd.zeroValue141 }
open Go.Sort Go.RowKit in
theorem Tryd.slices_Sort_int (blk off cap:Nat) (zs:List Int) (w:World) (hH:Holds (Value.int .i64) w blk off zs.toArray) (hblk:blk<w.heap.size) (hsz:zs.length<4611686018427387904) :
  Calls Tryd.prog 44 #[.slice (some ⟨blk,off,none⟩) zs.length cap] w fun e w'=>
   e=.returned (.tuple #[])∧∃ n os,w'=grow (putRow (Value.int .i64) (Sort.ahead w n) blk off (zs.mergeSort fun x y=>decide (x≤y)).toArray) os:=Any.slices_Sort_int Tryd.lays189 blk off cap zs w hH hblk hsz
def Tryd.laysNm220_ren:Go.Shelf.Ren:=⟨fun|20=>45|n=>n,fun|22=>31|3=>3|4=>4|0=>0|n=>n,fun|n=>n⟩
theorem Tryd.laysNm220:Go.Proofs.Lays2.n20 Tryd.prog Tryd.laysNm220_ren:={
 mixed:=by kernel_rfl
 f20:=Tryd.func45.trans (congrArg some (by kernel_rfl))
 t0:=Tryd.underlying0
 a0:=Tryd.isAgg0
 z0:=Tryd.sizeOf0
 v0:=Tryd.zeroValue0
 t3:=Tryd.underlying3
 a3:=Tryd.isAgg3
 z3:=Tryd.sizeOf3
 v3:=Tryd.zeroValue3
 t4:=Tryd.underlying4
 a4:=Tryd.isAgg4
 z4:=Tryd.sizeOf4
 v4:=Tryd.zeroValue4
 t22:=Tryd.underlying31
 a22:=Tryd.isAgg31
 z22:=Tryd.sizeOf31
 v22:=Tryd.zeroValue31
 i3:=by kernel_rfl }
open Go.RowKit Go.Lib Go.Sort in
theorem Tryd.slices_Compact_int (blk off cap:Nat) (zs:List Int) (w:World) (hH:Holds (Value.int .i64) w blk off zs.toArray) (hsz:zs.length≤9223372036854775807) (hcap:zs.length≤cap) :
  Calls Tryd.prog 45 #[.slice (some ⟨blk,off,none⟩) zs.length cap] w fun e w'=>e=.returned (.slice (some ⟨blk,off,none⟩) (Lib.compact zs).length cap)∧∃ q,w'=putRow (Value.int .i64) (Sort.ahead w q) blk off (Lib.compact zs++List.replicate (zs.length-(Lib.compact zs).length) 0).toArray:=Any.slices_Compact_int Tryd.laysNm220 blk off cap zs w hH hsz hcap
open Go.RowKit Go.Lib Go.Sort in
theorem Tryd.slices_Compact_int_empty (a:Option Addr) (cap:Nat) (w:World) :
  Calls Tryd.prog 45 #[.slice a 0 cap] w fun e w'=>e=.returned (.slice a 0 cap)∧w'=w:=Any.slices_Compact_int_empty Tryd.laysNm220 a cap w
open Go.RowKit Go.Sort in
theorem Tryd.slices_Sort_int_none (p:Option Addr) (cap:Nat) (w:World) :
  Calls Tryd.prog 44 #[.slice p 0 cap] w fun e w'=>e=.returned (.tuple #[])∧w'=w:=Any.slices_Sort_int_none Tryd.lays189 p cap w
def Tryd.laysSlH6_f89_ren:Go.Shelf.Ren:=⟨fun|6=>89|n=>n,fun|22=>31|23=>3|25=>55|3=>3|0=>0|4=>4|n=>n,fun|n=>n⟩
theorem Tryd.laysSlH6_f89:Go.Proofs.SlLaysH.n6 Tryd.prog Tryd.laysSlH6_f89_ren:={
 mixed:=by kernel_rfl
 f6:=⟨Tryd.f89.name,by decide,Tryd.func89.trans (congrArg some (by kernel_rfl))⟩
 t0:=Tryd.underlying0
 a0:=Tryd.isAgg0
 z0:=Tryd.sizeOf0
 v0:=Tryd.zeroValue0
 t3:=Tryd.underlying3
 a3:=Tryd.isAgg3
 z3:=Tryd.sizeOf3
 v3:=Tryd.zeroValue3
 t4:=Tryd.underlying4
 a4:=Tryd.isAgg4
 z4:=Tryd.sizeOf4
 v4:=Tryd.zeroValue4
 t22:=Tryd.underlying31
 a22:=Tryd.isAgg31
 z22:=Tryd.sizeOf31
 v22:=Tryd.zeroValue31
 a23:=Tryd.isAgg3
 z23:=Tryd.sizeOf3
 t25:=Tryd.underlying55
 a25:=Tryd.isAgg55
 z25:=Tryd.sizeOf55
 v25:=Tryd.zeroValue55 }
open Go.RowKit Go.Lib in
theorem Tryd.slices_IndexFunc_empty {α:Type} [Inhabited α] (a:Option Addr) (c:Nat) (fv:Value) (w:World) :
  Calls Tryd.prog 89 #[.slice a 0 c,fv] w fun e w'=>e=.returned (.int .i64 (-1))∧w'=w:=AnyE.slices_IndexFunc_empty Tryd.laysSlH6_f89 a c fv w
def Tryd.laysSlH10_f71_ren:Go.Shelf.Ren:=⟨fun|10=>71|6=>89|n=>n,fun|22=>31|23=>3|25=>55|3=>3|4=>4|0=>0|n=>n,fun|n=>n⟩
theorem Tryd.laysSlH10_f71:Go.Proofs.SlLaysH.n10 Tryd.prog Tryd.laysSlH10_f71_ren:={
 mixed:=by kernel_rfl
 f6:=⟨Tryd.f89.name,by decide,Tryd.func89.trans (congrArg some (by kernel_rfl))⟩
 f10:=⟨Tryd.f71.name,by decide,Tryd.func71.trans (congrArg some (by kernel_rfl))⟩
 t0:=Tryd.underlying0
 a0:=Tryd.isAgg0
 z0:=Tryd.sizeOf0
 v0:=Tryd.zeroValue0
 t3:=Tryd.underlying3
 a3:=Tryd.isAgg3
 z3:=Tryd.sizeOf3
 v3:=Tryd.zeroValue3
 t4:=Tryd.underlying4
 a4:=Tryd.isAgg4
 z4:=Tryd.sizeOf4
 v4:=Tryd.zeroValue4
 t22:=Tryd.underlying31
 a22:=Tryd.isAgg31
 z22:=Tryd.sizeOf31
 v22:=Tryd.zeroValue31
 a23:=Tryd.isAgg3
 z23:=Tryd.sizeOf3
 t25:=Tryd.underlying55
 a25:=Tryd.isAgg55
 z25:=Tryd.sizeOf55
 v25:=Tryd.zeroValue55 }
open Go.RowKit Go.Lib Go.Sort in
theorem Tryd.slices_DeleteFunc {α:Type} [Inhabited α] (enc:α→Value) (hO:OneCell enc) (p:α→Bool) (g:Nat) (lb:Array Value) (eg:∀ args w,(callFunc g args).run Tryd.prog w=.ok (.enter g args) w) (zr:α) (v23:∀ w,(zeroValue 3).run Tryd.prog w=.ok (enc zr) w) (blk off cap:Nat) (d:Array α) (w:World) (hp:PredAt Tryd.prog g lb enc p w) (hpo:PredOver Tryd.prog g lb enc p blk off d.size w) (hH:Holds enc w blk off d) (hsz:d.size≤9223372036854775807) (hcap:d.size≤cap) :
  Calls Tryd.prog 71 #[.slice (some ⟨blk,off,none⟩) d.size cap,.func (.func g) #[] lb] w fun e w'=>e=.returned (.slice (some ⟨blk,off,none⟩) (d.toList.filter fun x=>!p x).length cap)∧∃ q,w'=putRow enc (Sort.ahead w q) blk off ((d.toList.filter fun x=>!p x)++List.replicate (d.size-(d.toList.filter fun x=>!p x).length) zr).toArray:=AnyE.slices_DeleteFunc Tryd.laysSlH10_f71 enc hO p g lb eg zr v23 blk off cap d w hp hpo hH hsz hcap
end Go.Proofs
namespace Go.Proofs.YtmfjmbcfaamebaaDoor.X
open Go.RowKit Go.Proofs.YtmfjmbcfaamebaaDoorW.PrintWords Go.Proofs.YtmfjmbcfaamebaaDoorW.PrintLast Go.Proofs.YtmfjmbcfaamebaaDoorW.PrintMore
open Go.Lib Go.Sort Go.Shelf
theorem qhu {α:Type} [Inhabited α] {enc:α→Value} {w:World} {g q:Nat} (d:Array α):w.grownBy (putRow enc (Sort.ahead w q) g 0 d) (some g):=by
 refine ⟨rfl,rfl,rfl,by simp [putRow,mapBlock,Sort.ahead],fun k hk hne=>?_⟩
 have:g≠k:=fun e=>hne (by rw [e])
 simp [putRow,mapBlock,Sort.ahead,Array.getElem?_modify,this]
set_option maxHeartbeats 1000000 in
theorem delfunc_own (p:Int→Bool) (g:Nat) (lb:Array Value) (eg:∀ args w,(callFunc g args).run Tryd.prog w=.ok (.enter g args) w) {w:World} {base:Nat} {ok:Nat→Prop} {v:Value} {xs:List Int}
  (ho:Kd.R (Kd.int .i64) 3 w base ok v xs) (hp:PredAt Tryd.prog g lb (Value.int .i64) p w) (hpo:∀ blk,v.ownBlock=some blk→PredOver Tryd.prog g lb (Value.int .i64) p blk 0 xs.length w) :
  Calls Tryd.prog 71 #[v,.func (.func g) #[] lb] w fun e w'=>∃ v',e=.returned v'∧Kd.R (Kd.int .i64) 3 w' base ok v' (xs.filter fun x=>!p x)∧v'.ownBlock=v.ownBlock∧w.grownBy w' v.ownBlock:=by
 by_cases hv:v=.slice none 0 0
 ·subst hv
  obtain rfl:xs=[]:=by
   obtain ⟨A,c,e,_⟩:=Kd.R_reads ho
   injection e with _ e2
   exact List.eq_nil_of_length_eq_zero e2.symm
  have H1:=Tryd.slices_IndexFunc_empty (α:=Int) none 0 (.func (.func g) #[] lb) w
  have HO:=qaa.mk ho
  clear ho hp hpo
  go_enter Tryd.func71,Tryd.ntmps71
  go_wp2_with (go_at_call 89;refine H1.mono ?_;rintro e w' ⟨rfl,rfl⟩)
  go_ret
  exact ⟨_,rfl,by simpa using HO.out,rfl,World.grownBy.refl _ _⟩
 ·have hown:=Kd.own_of_R ho
  obtain ⟨gb,cap,rfl,hb,hlt,hn,hm,hl,hH⟩:=holds_of_ownsRow hown hv
  have hmx:cap≤9223372036854775807:=by simpa [maxLen] using hm
  have hc:=Tryd.slices_DeleteFunc (Value.int .i64) (fun _=>rfl) p g lb eg 0 (Tryd.zeroValue3) gb 0 cap xs.toArray w hp (hpo gb rfl) hH (by simp;omega) (by simpa using hn)
  refine hc.mono ?_
  rintro e w' ⟨rfl,q,rfl⟩
  simp only [List.toList_toArray,List.size_toArray]
  have hfl:(xs.filter fun x=>!p x).length≤xs.length:=List.length_filter_le _ _
  have hrow:=ownsRow_putRow (q:=q) (k:=(xs.filter fun x=>!p x).length) (ys:=(xs.filter fun x=>!p x)++List.replicate (xs.length-(xs.filter fun x=>!p x).length) 0) hown (by simp;omega) hfl
  rw [List.take_left'  rfl] at hrow
  exact ⟨_,rfl,Kd.R_of_own hrow (fun k hk=>ho.1 k (by simpa [Value.ownBlock] using hk)),by simp [Value.ownBlock],by simpa [Value.ownBlock] using qhu _⟩
end Go.Proofs.YtmfjmbcfaamebaaDoor.X
namespace Go.Proofs.YtmfjmbcfaamebaaDoor.X
open Go.RowKit Go.Proofs.YtmfjmbcfaamebaaDoorW.PrintWords Go.Proofs.YtmfjmbcfaamebaaDoorW.PrintLast Go.Proofs.YtmfjmbcfaamebaaDoorW.PrintMore
attribute [local go_sem] qbs qcb
set_option linter.unusedVariables false
set_option linter.unusedSimpArgs false
open Go.Shelf Go.Sort
def qet (e tt els:Int):List Int:=(if e=1∨e=2 then [tt] else [])++(if e=2 then [els] else [])
def qgm (n:Nat) (x:Int):Bool:=!(decide (x<0)||decide ((n:Int)≤x))
def qeb.f (a0_0:Bool) (a0_1:Int) (l0_2:List S60) (l1_0:List S85) (a1_1 a1_2 a1_3 a1_4:Int):Option (List Int):=some ((qet a1_1 a1_3 a1_4).filter (qgm l0_2.length))
set_option maxHeartbeats 2000000 in
set_option maxRecDepth 100000 in
theorem qeb.calls (a0_0:Bool) (a0_1:Int) (A0_2:Option Addr) (c0_2:Nat) (l0_2:List S60) (A1_0:Option Addr) (c1_0:Nat) (l1_0:List S85) (a1_1 a1_2 a1_3 a1_4:Int) (r:List Int) (w:World) (hr0_2:Kd.C k60 w A0_2 l0_2.length l0_2) (hc0_2:l0_2.length≤c0_2) (hr1_0:Kd.C k85 w A1_0 l1_0.length l1_0) (hc1_0:l1_0.length≤c1_0) (h:qeb.f a0_0 a0_1 l0_2 l1_0 a1_1 a1_2 a1_3 a1_4=some r) :
  Calls Tryd.prog 43 #[.agg #[.bool a0_0,.int .i64 a0_1,.slice A0_2 l0_2.length c0_2],.agg #[.slice A1_0 l1_0.length c1_0,.int .i64 a1_1,.int .i64 a1_2,.int .i64 a1_3,.int .i64 a1_4]] w fun e w'=>∃ v0_:Value,e=.returned (v0_)∧Kd.R (Kd.int .i64) 3 w' w.heap.size (fun _=>True) v0_ r∧Below w.heap.size w w':=by
 have hlen:l0_2.length≤9223372036854775807:=hr0_2.2.1
 obtain rfl:=Option.some.inj h
 clear h hr0_2 hr1_0 hc0_2 hc1_0
 have hu24:=Tryd.underlying24
 have hu60:=Tryd.underlying60
 have tail:∀ (v:Value) (xs:List Int) (W:World),Kd.R (Kd.int .i64) 3 W (w.heap.size+2) (fun _=>True) v xs→Below (w.heap.size+2) ((w.alloc (.cells #[.bool a0_0,.int .i64 a0_1,.slice A0_2 l0_2.length c0_2] 24)).alloc (.cells #[.slice A1_0 l1_0.length c1_0,.int .i64 a1_1,.int .i64 a1_2,.int .i64 a1_3,.int .i64 a1_4] 60)) W→
   Calls Tryd.prog 71 #[v,.func (.func 72) #[] #[.pointer (some ⟨w.heap.size,0,none⟩)]] W fun e w'=>∃ v',e=.returned v'∧Kd.R (Kd.int .i64) 3 w' w.heap.size (fun _=>True) v' (xs.filter (qgm l0_2.length))∧Below w.heap.size w w':=by
  intro v xs W hv hb
  have hsz:w.heap.size+2≤W.heap.size:=by simpa using hb.size
  have hcell:W.cell? ⟨w.heap.size,2,none⟩=some (.slice A0_2 l0_2.length c0_2):=by
   rw [hb.cell (p:=⟨w.heap.size,2,none⟩) (by show w.heap.size<_;omega)]
   simp [go_sem]
  have eg:∀ args w,(callFunc 72 args).run Tryd.prog w=.ok (.enter 72 args) w:=enters_of Tryd.func72 (by kernel_rfl) rfl
  refine (delfunc_own (fun x=>decide (x<0)||decide ((l0_2.length:Int)≤x)) 72 _ eg hv (fun W' x hb'=>cfg_targets_1.gives _ _ _ _ x W' hlen ((hb'.cell (p:=⟨w.heap.size,2,none⟩) (by show w.heap.size<_;omega)).trans hcell)) (fun blk hblk n os dk x _=>cfg_targets_1.gives _ A0_2 c0_2 _ x _ hlen ?_)).mono ?_
  ·have hne:w.heap.size≠blk:=by have:=Kd.R_base hv blk hblk;omega
   unfold sortWorld
   rw [cell?_grow _ _ _ (by show w.heap.size<(putRow _ _ _ _ _).heap.size;rw [size_putRow];show w.heap.size<W.heap.size;omega),cell?_putRow_other _ _ blk 0 _ _ (Or.inl hne)]
   exact hcell
  ·rintro e w' ⟨v',rfl,hR,hob,hg⟩
   refine ⟨v',rfl,Kd.R_lower hR (by omega),?_⟩
   have hb0:Below w.heap.size w W:=((qeg (qeg (Below.refl _ _) _) _:Below w.heap.size w ((w.alloc _).alloc _))).trans (hb.mono (by omega))
   exact hb0.grown hg (by omega) (fun k hk=>by have:=Kd.R_base hv k hk;omega)
 have E:qet a1_1 a1_3 a1_4=if a1_1=1 then [a1_3] else if a1_1=2 then [a1_3,a1_4] else []:=by
  unfold qet
  by_cases h1:a1_1=1
  ·subst h1;simp
  ·by_cases h2:a1_1=2
   ·subst h2;simp
   ·simp [h1,h2]
 rw [E]
 clear E
 by_cases h1:a1_1=1
 ·rw [if_pos h1]
  have b1:(a1_1==1)=true:=beq_iff_eq.2 h1
  have b2:(a1_1==2)=false:=beq_eq_false_iff_ne.2 (by omega)
  clear h1
  go_enter Tryd.func43,Tryd.ntmps43
  go_wp2_with (first|(at_builtin;refine Kd.R_append (Kd.int .i64) (w0:=(w.alloc (.cells #[.bool a0_0,.int .i64 a0_1,.slice A0_2 l0_2.length c0_2] 24)).alloc (.cells #[.slice A1_0 l1_0.length c1_0,.int .i64 a1_1,.int .i64 a1_2,.int .i64 a1_3,.int .i64 a1_4] 60)) (w.heap.size+2) rfl (.tmp 14) (.tmp 17) 31 3 (.int .i64 0) 8 rfl Tryd.underlying31 qfe rfl (by decide) (by omega) (.slice none 0 0) ([]:List Int) a1_3 [.int .i64 a1_3] (fun _=>True) (fun _=>False) rfl (by simp [Act.eval]) rfl (fun _ hk=>hk.elim) (fun _ _=>trivial) (Kd.R_nil _ _ _ _ _) (Below.refl _ _) (by simp) (by simp) ?_;intro v1 w1 ho1 hb1 hg hat;clear hg hat;have c1_:w1.cell? ⟨w.heap.size+1,1,none⟩=some (.int .i64 a1_1):=(hb1.cell (p:=⟨w.heap.size+1,1,none⟩) (by show w.heap.size+1<w.heap.size+2;omega)).trans (by simp [go_sem]);have c4_:w1.cell? ⟨w.heap.size+1,4,none⟩=some (.int .i64 a1_4):=(hb1.cell (p:=⟨w.heap.size+1,4,none⟩) (by show w.heap.size+1<w.heap.size+2;omega)).trans (by simp [go_sem]);have HO1:=qaa.mk ho1;have HB1:=qaa.mk hb1;clear ho1 hb1)|(go_at_call 71;refine (tail _ _ _ HO1.out HB1.out).mono ?_;rintro e w' ⟨v',rfl,hR,hB⟩;have HR:=qaa.mk hR;have HB:=qaa.mk hB;clear hR hB))
  go_ret
  exact ⟨_,rfl,HR.out,HB.out⟩
 ·rw [if_neg h1]
  have b1:(a1_1==1)=false:=beq_eq_false_iff_ne.2 h1
  by_cases h2:a1_1=2
  ·rw [if_pos h2]
   have b2:(a1_1==2)=true:=beq_iff_eq.2 h2
   clear h1 h2
   go_enter Tryd.func43,Tryd.ntmps43
   go_wp2_with (first|(at_builtin;refine Kd.R_append (Kd.int .i64) (w0:=(w.alloc (.cells #[.bool a0_0,.int .i64 a0_1,.slice A0_2 l0_2.length c0_2] 24)).alloc (.cells #[.slice A1_0 l1_0.length c1_0,.int .i64 a1_1,.int .i64 a1_2,.int .i64 a1_3,.int .i64 a1_4] 60)) (w.heap.size+2) rfl (.tmp 22) (.tmp 25) 31 3 (.int .i64 0) 8 rfl Tryd.underlying31 qfe rfl (by decide) (by omega) v1 [a1_3] a1_4 [.int .i64 a1_4] (fun _=>True) (fun _=>False) rfl (by simp [Act.eval]) rfl (fun _ hk=>hk.elim) (fun _ _=>trivial) HO1.out HB1.out (by have:=HB1.out.size;simp at this;omega) (by simp) ?_;intro v2 w2 ho2 hb2 hg hat;clear hg hat;have c1_:w2.cell? ⟨w.heap.size+1,1,none⟩=some (.int .i64 a1_1):=(hb2.cell (p:=⟨w.heap.size+1,1,none⟩) (by show w.heap.size+1<w.heap.size+2;omega)).trans (by simp [go_sem]);have c4_:w2.cell? ⟨w.heap.size+1,4,none⟩=some (.int .i64 a1_4):=(hb2.cell (p:=⟨w.heap.size+1,4,none⟩) (by show w.heap.size+1<w.heap.size+2;omega)).trans (by simp [go_sem]);have HO2:=qaa.mk ho2;have HB2:=qaa.mk hb2;clear ho2 hb2)|(at_builtin;refine Kd.R_append (Kd.int .i64) (w0:=(w.alloc (.cells #[.bool a0_0,.int .i64 a0_1,.slice A0_2 l0_2.length c0_2] 24)).alloc (.cells #[.slice A1_0 l1_0.length c1_0,.int .i64 a1_1,.int .i64 a1_2,.int .i64 a1_3,.int .i64 a1_4] 60)) (w.heap.size+2) rfl (.tmp 14) (.tmp 17) 31 3 (.int .i64 0) 8 rfl Tryd.underlying31 qfe rfl (by decide) (by omega) (.slice none 0 0) ([]:List Int) a1_3 [.int .i64 a1_3] (fun _=>True) (fun _=>False) rfl (by simp [Act.eval]) rfl (fun _ hk=>hk.elim) (fun _ _=>trivial) (Kd.R_nil _ _ _ _ _) (Below.refl _ _) (by simp) (by simp) ?_;intro v1 w1 ho1 hb1 hg hat;clear hg hat;have c1_:w1.cell? ⟨w.heap.size+1,1,none⟩=some (.int .i64 a1_1):=(hb1.cell (p:=⟨w.heap.size+1,1,none⟩) (by show w.heap.size+1<w.heap.size+2;omega)).trans (by simp [go_sem]);have c4_:w1.cell? ⟨w.heap.size+1,4,none⟩=some (.int .i64 a1_4):=(hb1.cell (p:=⟨w.heap.size+1,4,none⟩) (by show w.heap.size+1<w.heap.size+2;omega)).trans (by simp [go_sem]);have HO1:=qaa.mk ho1;have HB1:=qaa.mk hb1;clear ho1 hb1)|(go_at_call 71;refine (tail _ _ _ HO2.out HB2.out).mono ?_;rintro e w' ⟨v',rfl,hR,hB⟩;have HR:=qaa.mk hR;have HB:=qaa.mk hB;clear hR hB))
   go_ret
   exact ⟨_,rfl,HR.out,HB.out⟩
  ·rw [if_neg h2]
   have b2:(a1_1==2)=false:=beq_eq_false_iff_ne.2 h2
   clear h1 h2
   go_enter Tryd.func43,Tryd.ntmps43
   go_wp2_with (go_at_call 71;refine (tail _ _ _ (Kd.R_nil _ _ _ _ _) (Below.refl _ _)).mono ?_;rintro e w' ⟨v',rfl,hR,hB⟩;have HR:=qaa.mk hR;have HB:=qaa.mk hB;clear hR hB)
   go_ret
   exact ⟨_,rfl,HR.out,HB.out⟩
end Go.Proofs.YtmfjmbcfaamebaaDoor.X
namespace Go.Proofs.YtmfjmbcfaamebaaDoor.X
open Go.RowKit Go.Proofs.YtmfjmbcfaamebaaDoorW.PrintWords Go.Proofs.YtmfjmbcfaamebaaDoorW.PrintLast Go.Proofs.YtmfjmbcfaamebaaDoorW.PrintMore
attribute [local go_sem] qbs qcb
set_option linter.unusedVariables false
set_option linter.unusedSimpArgs false
mutual
def qat.l0:Nat→Int→List Bool→List Int→List Int→Int→Int→Bool→Int→List (S60)→Option (List Int×List Bool)
 | 0,_,_,_,_,_,_,_,_,_=>none
 | k+1,x1,x2,x3,x25,x26,x27,x145000,x145001,x145002=>if x27<x26 then (if 0≤x27 then (if x27<(x25.length:Int) then ((qat.f k x145000 x145001 x145002 (rd x25 x27) x2 x3).bind fun bt152=>(qat.l0 k x1 bt152.2 bt152.1 x25 x26 (wrap64 (x27+1)) x145000 x145001 x145002)) else (none)) else (none)) else (if x3.length<17592186044416 then (some ((x3++[x1]),x2)) else (none))
def qat.f:Nat→Bool→Int→List (S60)→Int→List Bool→List Int→Option (List Int×List Bool)
 | 0,_,_,_,_,_,_=>none
 | k+1,a0_0,a0_1,l0_2,a1,l2,l3=>if 0≤a1 then (if a1<(l2.length:Int) then (if rdOf false l2 a1=true then (some (l3,l2)) else (if a1<(l0_2.length:Int) then ((qeb.f a0_0 a0_1 l0_2 ((qar l0_2 a1).f0) ((qar l0_2 a1).f1) ((qar l0_2 a1).f2) ((qar l0_2 a1).f3) ((qar l0_2 a1).f4)).bind fun t148=>(qat.l0 k a1 (l2.set (a1:Int).toNat true) l3 t148 (t148.length:Int) 0 a0_0 a0_1 l0_2)) else (none))) else (none)) else (none)
end
theorem qat.mono_l:∀ k,(∀ y0 y1 y2 y3 y4 y5,LeO (qat.f k y0 y1 y2 y3 y4 y5) (qat.f (k+1) y0 y1 y2 y3 y4 y5))∧(∀ y0 y1 y2 y3 y4 y5 y6 y7 y8,LeO (qat.l0 k y0 y1 y2 y3 y4 y5 y6 y7 y8) (qat.l0 (k+1) y0 y1 y2 y3 y4 y5 y6 y7 y8))
 | 0=>⟨fun _ _ _ _ _ _ r h=>by simp [qat.f] at h,fun _ _ _ _ _ _ _ _ _ r h=>by simp [qat.l0] at h⟩
 | k+1=>by
  obtain ⟨ih0,ih1⟩:=qat.mono_l k
  refine ⟨?_,?_⟩
  ·intro y0 y1 y2 y3 y4 y5
   unfold qat.f
   repeat' first|(with_reducible exact ih1 _ _ _ _ _ _ _ _ _)|(with_reducible exact LeO.refl _)|(with_reducible refine LeO.ite ?_ ?_)|(with_reducible refine LeO.bind ?_ (fun _=>?_))
  ·intro y0 y1 y2 y3 y4 y5 y6 y7 y8
   unfold qat.l0
   repeat' first|(with_reducible exact ih0 _ _ _ _ _ _)|(with_reducible exact ih1 _ _ _ _ _ _ _ _ _)|(with_reducible exact LeO.refl _)|(with_reducible refine LeO.ite ?_ ?_)|(with_reducible refine LeO.bind ?_ (fun _=>?_))
theorem qat.mono:∀ a0 a1 a2 a3 a4 a5 k,LeO (qat.f k a0 a1 a2 a3 a4 a5) (qat.f (k+1) a0 a1 a2 a3 a4 a5):=by
 intro a0 a1 a2 a3 a4 a5 k
 obtain ⟨ih0,ih1⟩:=qat.mono_l k
 exact ih0 a0 a1 a2 a3 a4 a5
def qat.T4:Bool×List (List Nat×List Nat):=(true,[([],[]),([],[]),([1],[1]),([],[]),([2,3],[2,3]),([4],[4]),([0,5],[0,5]),([6],[6]),([],[])])
def qat.B4:List Nat:=[0,0,2,0,14,30,63,127,0]
theorem qat.tab4:rtab .any (opsOf Tryd.f49 4)=qat.T4:=by kernel_rfl
theorem qat.bits4:qeu qat.T4.2 qat.B4=true:=by kernel_rfl
set_option maxHeartbeats 8000000 in
set_option maxRecDepth 100000 in
theorem qat.calls (k:Nat):∀ (a0_0:Bool) (a0_1:Int) (A0_2:Option Addr) (c0_2:Nat) (l0_2:List (S60)) (a1:Int) (P2_:Nat→Prop) (u9000_:Value) (l2:List Bool) (P3_:Nat→Prop) (u9001_:Value) (l3:List Int) (r1:List Int) (r2:List Bool) (w0 w:World) (hB:Below w0.heap.size w0 w) (hr0_2:∀ W_,Kept w W_ (fun k_=>P2_ k_∨P3_ k_)→Kd.C k60 W_ A0_2 l0_2.length l0_2) (hc0_2:l0_2.length≤c0_2) (ho2:Kd.R Kd.bool 4 w w0.heap.size P2_ u9000_ l2) (ho3:Kd.R (Kd.int .i64) 3 w w0.heap.size P3_ u9001_ l3) (h:qat.f k a0_0 a0_1 l0_2 a1 l2 l3=some (r1,r2)),
  Calls Tryd.prog 49 #[.agg #[.bool a0_0,.int .i64 a0_1,.slice A0_2 l0_2.length c0_2],.int .i64 a1,u9000_,u9001_] w fun e w'=>∃ v0_:Value,e=.returned (v0_)∧Kd.R (Kd.int .i64) 3 w' w0.heap.size (fun k_=>((P2_ k_∨P3_ k_)∨w.heap.size≤k_)) v0_ r1∧Kd.R Kd.bool 4 w' w0.heap.size (fun k_=>((P2_ k_∨P3_ k_)∨w.heap.size≤k_)) u9000_ r2∧Below w0.heap.size w0 w'∧Kept w w' (fun k_=>P2_ k_∨P3_ k_):=by
 induction k using Nat.strongRecOn with
 | _ k ih=>
 intro a0_0 a0_1 A0_2 c0_2 l0_2 a1 P2_ u9000_ l2 P3_ u9001_ l3 r1 r2 w0 w hB hr0_2 hc0_2 ho2 ho3 h
 cases k with
 | zero=>exact absurd h (by simp [qat.f])
 | succ k=>
 simp only [qat.f] at h
 have hu24:=Tryd.underlying24
 have hu60:=Tryd.underlying60
 have HR0_2:=qaa.mk hr0_2
 have HC0_2:=qaa.mk hc0_2
 clear hr0_2 hc0_2
 have HO2:=qaa.mk (show Kd.R Kd.bool 4 w w0.heap.size (fun k_=>((P2_ k_∨P3_ k_)∨w.heap.size≤k_)) u9000_ l2 from Kd.R_mono ho2 (fun k_ hk=>(.inl (.inl hk))))
 have HO3:=qaa.mk (show Kd.R (Kd.int .i64) 3 w w0.heap.size (fun k_=>((P2_ k_∨P3_ k_)∨w.heap.size≤k_)) u9001_ l3 from Kd.R_mono ho3 (fun k_ hk=>(.inl (.inr hk))))
 have HK:=qaa.mk (Kept.refl w (fun k_=>P2_ k_∨P3_ k_))
 have HW0:=qaa.mk hB.size
 have HB:=qaa.mk hB
 clear hB
 have H:(if 0≤a1 then (if a1<(l2.length:Int) then (if rdOf false l2 a1=true then (some (l3,l2)) else (if a1<(l0_2.length:Int) then ((qeb.f a0_0 a0_1 l0_2 ((qar l0_2 a1).f0) ((qar l0_2 a1).f1) ((qar l0_2 a1).f2) ((qar l0_2 a1).f3) ((qar l0_2 a1).f4)).bind fun t148=>(qat.l0 k a1 (l2.set (a1:Int).toNat true) l3 t148 (t148.length:Int) 0 a0_0 a0_1 l0_2)) else (none))) else (none)) else (none))=some (r1,r2):=h
 clear h
 by_cases c5:0≤a1
 ·rw [if_pos c5] at H
  have c5b0:decide (0≤a1)=true:=decide_eq_true c5
  clear c5
  by_cases c6:a1<(l2.length:Int)
  ·rw [if_pos c6] at H
   have c6b0:decide (a1<(l2.length:Int))=true:=decide_eq_true c6
   clear c6
   obtain ⟨bq7,hbq7⟩:∃ b_:Bool,b_=(rdOf false l2 a1):=⟨_,rfl⟩
   replace H:(if bq7=true then (some (l3,l2)) else (if a1<(l0_2.length:Int) then ((qeb.f a0_0 a0_1 l0_2 ((qar l0_2 a1).f0) ((qar l0_2 a1).f1) ((qar l0_2 a1).f2) ((qar l0_2 a1).f3) ((qar l0_2 a1).f4)).bind fun t148=>(qat.l0 k a1 (l2.set (a1:Int).toNat true) l3 t148 (t148.length:Int) 0 a0_0 a0_1 l0_2)) else (none)))=some (r1,r2):=by rw [← hbq7] at H;exact H
   have Nbq7:=qaa.mk hbq7
   clear hbq7
   by_cases c8:bq7=true
   ·subst c8
    have H1:(some (l3,l2))=some (r1,r2):=by rw [if_pos rfl] at H;exact H
    clear H
    have H:=H1
    clear H1
    simp only [Option.some.injEq,Prod.mk.injEq] at H
    obtain ⟨rfl,rfl⟩:=H
    go_enter Tryd.func49,Tryd.ntmps49
    go_wp2_with (((with_reducible refine qbf (N:=4) rfl ?_);refine qbr ?hg (N:=4) ?hd (cs:=#[.bool a0_0,.int .i64 a0_1,.slice A0_2 l0_2.length c0_2]) (t:=24) ?hr ?_;(case hd=>rfl);(case hg=>rfl);(case hr=>(go_simp;done));intro gb144 hg w9 hbox hb;replace HO2:=qaa.mk (Kd.R_below (by (with_reducible repeat (apply Kd.R_drew));exact HO2.out) hb);replace HO3:=qaa.mk (Kd.R_below (by (with_reducible repeat (apply Kd.R_drew));exact HO3.out) hb);have BK144:=qaa.mk (hbox);have GW144:=qaa.mk ((by rw [hg];exact (by exact HK.out.1):w.heap.size≤gb144));replace HK:=qaa.mk (Kept.below (S:=(fun k_=>P2_ k_∨P3_ k_)) HK.out hb);have GE144:=qaa.mk ((by rw [hg];exact (qac HB.out):w0.heap.size≤gb144));replace HB:=qaa.mk (qal HB.out hb);clear hb hbox hg;obtain ⟨Ao10,co10,eo10⟩:=Kd.R_slice HO2.out;subst eo10;have p145:0≤(a1:Int):=of_decide_eq_true (by (with_reducible assumption));have q145:a1<(l2.length:Int):=of_decide_eq_true (by (with_reducible assumption));obtain ⟨ad145,e145,hx145_0⟩:=Kd.at_bool (Kd.R_reads' HO2.out).2.2 a1 p145 q145;(try rw [← Nbq7.out] at hx145_0);cases e145;replace p145:=eq_true p145;replace q145:=eq_true q145))
    go_ret
    exact ⟨_,by rfl,by (with_reducible repeat (apply Kd.R_drew));exact HO3.out,by (with_reducible repeat (apply Kd.R_drew));exact HO2.out,by repeat ((with_reducible exact HB.out)),by repeat ((with_reducible exact HK.out))⟩
   ·replace c8:=Bool.eq_false_iff.mpr c8
    subst c8
    have H1:(if a1<(l0_2.length:Int) then ((qeb.f a0_0 a0_1 l0_2 ((qar l0_2 a1).f0) ((qar l0_2 a1).f1) ((qar l0_2 a1).f2) ((qar l0_2 a1).f3) ((qar l0_2 a1).f4)).bind fun t148=>(qat.l0 k a1 (l2.set (a1:Int).toNat true) l3 t148 (t148.length:Int) 0 a0_0 a0_1 l0_2)) else (none))=some (r1,r2):=by rw [if_neg (show ¬ (false=true) by decide)] at H;exact H
    clear H
    have H:=H1
    clear H1
    obtain ⟨y146,hy146⟩:∃ y_:List Bool,y_=(l2.set (a1:Int).toNat true):=⟨_,rfl⟩
    replace H:(if a1<(l0_2.length:Int) then ((qeb.f a0_0 a0_1 l0_2 ((qar l0_2 a1).f0) ((qar l0_2 a1).f1) ((qar l0_2 a1).f2) ((qar l0_2 a1).f3) ((qar l0_2 a1).f4)).bind fun t148=>(qat.l0 k a1 y146 l3 t148 (t148.length:Int) 0 a0_0 a0_1 l0_2)) else (none))=some (r1,r2):=by (rw [hy146];with_reducible exact H)
    have Ny146:=qaa.mk hy146
    clear hy146
    by_cases c12:a1<(l0_2.length:Int)
    ·rw [if_pos c12] at H
     have c12b0:decide (a1<(l0_2.length:Int))=true:=decide_eq_true c12
     clear c12
     replace H:=Option.bind_eq_some_iff.mp H
     obtain ⟨t148,A130,H⟩:=H
     replace H:(qat.l0 k a1 y146 l3 t148 (t148.length:Int) 0 a0_0 a0_1 l0_2)=some (r1,r2):=H
     have A13:=qaa.mk A130
     clear A130
     have H':=qaa.mk H
     clear H
     go_enter Tryd.func49,Tryd.ntmps49
     try go_wp2_with (first|((with_reducible refine qbf (N:=4) rfl ?_);refine qbr ?hg (N:=4) ?hd (cs:=#[.bool a0_0,.int .i64 a0_1,.slice A0_2 l0_2.length c0_2]) (t:=24) ?hr ?_;(case hd=>rfl);(case hg=>rfl);(case hr=>(go_simp;done));intro gb144 hg w14 hbox hb;replace HO2:=qaa.mk (Kd.R_below (by (with_reducible repeat (apply Kd.R_drew));exact HO2.out) hb);replace HO3:=qaa.mk (Kd.R_below (by (with_reducible repeat (apply Kd.R_drew));exact HO3.out) hb);have BK144:=qaa.mk (hbox);have GW144:=qaa.mk ((by rw [hg];exact (by exact HK.out.1):w.heap.size≤gb144));replace HK:=qaa.mk (Kept.below (S:=(fun k_=>P2_ k_∨P3_ k_)) HK.out hb);have GE144:=qaa.mk ((by rw [hg];exact (qac HB.out):w0.heap.size≤gb144));replace HB:=qaa.mk (qal HB.out hb);clear hb hbox hg;obtain ⟨Ao15,co15,eo15⟩:=Kd.R_slice HO2.out;subst eo15;have p145:0≤(a1:Int):=of_decide_eq_true (by (with_reducible assumption));have q145:a1<(l2.length:Int):=of_decide_eq_true (by (with_reducible assumption));obtain ⟨ad145,e145,hx145_0⟩:=Kd.at_bool (Kd.R_reads' HO2.out).2.2 a1 p145 q145;(try rw [← Nbq7.out] at hx145_0);cases e145;replace p145:=eq_true p145;replace q145:=eq_true q145;have p11:0≤(a1:Int):=of_decide_eq_true (by (with_reducible assumption));have q11:(a1:Int)<((l2.length:Int):Int):=of_decide_eq_true (by (with_reducible assumption));obtain ⟨go11,co11,eo11,gb11,gl11,cl11,HG11⟩:=Kd.R_form HO2.out (by omega);(cases eo11);have GB11:=qaa.mk gb11;have GG11:=qaa.mk HG11;clear gb11 gl11 HG11;have HMgo11:=qaa.mk (show ((P2_ go11∨P3_ go11)∨w.heap.size≤go11) from (HO2.out.1 _ rfl));(simp only [qep] at hx145_0);obtain ⟨hx11_0,hf11_0⟩:=Kd.R_celln false HO2.out (a1:Int) p11 q11;replace p11:=eq_true p11;replace q11:=eq_true q11;obtain ⟨hy16_,hz16_⟩:=Kd.R_celln false HO2.out (a1:Int) (of_decide_eq_true (by (with_reducible assumption))) (of_decide_eq_true (by (with_reducible assumption)));have HP16:=Kd.R_putg HO2.out (a1:Int) true)|((with_reducible refine gate_store (t:=4) (p:=18) rfl ?_);refine store_event (t:=4) (p:=18) (v:=?vo_w17) (w1:=(w14.setCell ⟨go11,(a1:Int).toNat,none⟩ (.bool true))) ?hg ?ho ?hn ?hr ?_;(case ho=>rfl);(case hg=>rfl);(case hn=>rfl);(case hr=>(go_simp;done));intro w17 hw;have hg:w14.grownBy w17 (some go11):=(by rw [hw];exact HP16.2);have hp_:Kd.R Kd.bool 4 w17 w0.heap.size (fun k_=>((P2_ k_∨P3_ k_)∨w.heap.size≤k_)) (.slice (some ⟨go11,0,none⟩) l2.length co15) y146:=(by rw [hw,Ny146.out];exact HP16.1);clear HP16;replace HO3:=qaa.mk (Kd.R_over' (v:=(.slice (some ⟨go11,0,none⟩) l2.length co15)) (by (with_reducible repeat (apply Kd.R_drew));exact HO3.out) (Kd.R_typed HO2.out) (by decide) hg);replace BK144:=qaa.mk (qdp (g:=gb144) (o:=.cells #[.bool a0_0,.int .i64 a0_1,.slice A0_2 l0_2.length c0_2] 24 (0,0)) (by (with_reducible repeat (refine qab ?_));exact BK144.out) hg (Kd.R_ne HO2.out BK144.out (by decide)));replace HB:=qaa.mk ((by rw [hw];exact qbx (HB.out) GB11.out:Below w0.heap.size w0 w17));replace HK:=qaa.mk (Kept.of_grown (S:=(fun k_=>P2_ k_∨P3_ k_)) hg HK.out (fun k_ e_=>(HO2.out.1 k_ e_)));replace HO2:=qaa.mk (hp_);clear hg hw hp_))
     have n0_:=qaa.mk (Kd.R_drew HO2.out)
     have n1_:=qaa.mk (Kd.R_drew HO3.out)
     have n2_:=qaa.mk (qab BK144.out)
     have n3_:=qaa.mk (Kept.drew HK.out)
     have n4_:=qaa.mk (qdb HB.out)
     clear HO2
     clear HO3
     clear BK144
     clear HK
     clear HB
     have HO2:=n0_
     have HO3:=n1_
     have BK144:=n2_
     have HK:=n3_
     have HB:=n4_
     clear n0_ n1_ n2_ n3_ n4_
     have p147:0≤(a1:Int):=of_decide_eq_true (by (with_reducible assumption))
     have q147:a1<(l0_2.length:Int):=of_decide_eq_true (by (with_reducible assumption))
     obtain ⟨ad147,A147_0,c147_0,e147,hx147_0,hx147_1,hx147_2,hx147_3,hx147_4,hl147_0,hi147_0⟩:=at_T60 (Kd.C_kept_now HR0_2.out HK.out) a1 p147 q147
     have hw147_4:=hx147_4
     have hw147_3:=hx147_3
     have hw147_2:=hx147_2
     have hw147_1:=hx147_1
     have hw147_0:=hx147_0
     cases e147
     have HR147_0:=qaa.mk hi147_0
     have HC147_0:=qaa.mk hl147_0
     clear hi147_0 hl147_0
     replace p147:=eq_true p147
     replace q147:=eq_true q147
     refine qfb (n:=9) (S:=fun w'=>w'.cell? ⟨gb144,0,none⟩=some (.bool a0_0)∧w'.cell? ⟨gb144,1,none⟩=some (.int .i64 a0_1)∧w'.cell? ⟨gb144,2,none⟩=some (.slice (some ad147) l0_2.length c0_2)∧w'.cell? (ad147.add ((a1).toNat*5))=some (.slice A147_0 ((qar l0_2 a1).f0).length c147_0)∧w'.cell? ⟨(ad147.add ((a1).toNat*5)).block,(ad147.add ((a1).toNat*5)).off+1,none⟩=some (.int .i64 ((qar l0_2 a1).f1))∧w'.cell? ⟨(ad147.add ((a1).toNat*5)).block,(ad147.add ((a1).toNat*5)).off+2,none⟩=some (.int .i64 ((qar l0_2 a1).f2))∧w'.cell? ⟨(ad147.add ((a1).toNat*5)).block,(ad147.add ((a1).toNat*5)).off+3,none⟩=some (.int .i64 ((qar l0_2 a1).f3))∧w'.cell? ⟨(ad147.add ((a1).toNat*5)).block,(ad147.add ((a1).toNat*5)).off+4,none⟩=some (.int .i64 ((qar l0_2 a1).f4))) (ds:=[]) #[false,false,false,false,false,false,false,false,false] (by kernel_rfl) rfl rfl ⟨(qad BK144.out 0).trans rfl,(qad BK144.out 1).trans rfl,(qad BK144.out 2).trans rfl,hx147_0,hx147_1,hx147_2,hx147_3,hx147_4⟩ (fun hHeld=>?_);refine qee qat.tab4 qat.bits4 (fun HT_ HW_=>?_)
     generalize w17.drew=w18 at HO2 HO3 BK144 HK HB HR147_0 hx147_0 hx147_1 hx147_2 hx147_3 hx147_4 hHeld ⊢
     refine qct (i:=1) (N:=some 20) (v:=?_) (a':=?_) #[false,true,false,false,false,false,false,false,false] rfl rfl (qck HT_.out (by kernel_rfl)) (fun _ _ _ h=>h) (Or.inl ⟨by rfl,?_⟩) ?_ ?_
     rotate_left
     ·intro w'
      go_simp
      with_reducible rfl
     rotate_left
     ·simp only [Act.put,List.setIfInBounds_toArray,List.set_cons_zero,List.set_cons_succ,qbk,qbm]
      rfl
     refine qct (i:=3) (N:=some 22) (v:=?_) (a':=?_) #[false,true,false,true,false,false,false,false,false] rfl rfl (qck HT_.out (by kernel_rfl)) (fun _ _ _ h=>h) (Or.inl ⟨by rfl,?_⟩) ?_ ?_
     rotate_left
     ·intro w'
      go_simp
      with_reducible rfl
     rotate_left
     ·simp only [Act.put,List.setIfInBounds_toArray,List.set_cons_zero,List.set_cons_succ,qbk,qbm]
      rfl
     refine qct (i:=8) (N:=some 27) (v:=?_) (a':=?_) #[false,true,false,true,false,false,false,false,true] rfl rfl (qck HT_.out (by kernel_rfl)) (fun _ _ _ h=>h) (Or.inl ⟨by rfl,?_⟩) ?_ ?_
     rotate_left
     ·intro w'
      go_simp
      with_reducible rfl
     rotate_left
     ·simp only [Act.put,List.setIfInBounds_toArray,List.set_cons_zero,List.set_cons_succ,qbk,qbm]
      rfl
     refine take_ (i:=0) (N:=some 19) (v:=?_) (a':=?_) #[true,true,false,true,false,false,false,false,true] rfl rfl (qcw HT_.out HW_.out (by kernel_rfl)) (fun _ _ _ h=>h) (Or.inl ⟨by rfl,?_⟩) hHeld ?_ ?_
     rotate_left
     ·rintro w' ⟨s0,s1,s2,s3,s4,s5,s6,s7⟩
      go_simp
      with_reducible rfl
     rotate_left
     ·simp only [Act.put,List.setIfInBounds_toArray,List.set_cons_zero,List.set_cons_succ,qbk,qbm]
      rfl
     refine take_ (i:=2) (N:=some 21) (v:=?_) (a':=?_) #[true,true,true,true,false,false,false,false,true] rfl rfl (qcw HT_.out HW_.out (by kernel_rfl)) (fun _ _ _ h=>h) (Or.inl ⟨by rfl,?_⟩) hHeld ?_ ?_
     rotate_left
     ·rintro w' ⟨s0,s1,s2,s3,s4,s5,s6,s7⟩
      go_simp
      with_reducible rfl
     rotate_left
     ·simp only [Act.put,List.setIfInBounds_toArray,List.set_cons_zero,List.set_cons_succ,qbk,qbm]
      rfl
     refine qct (i:=4) (N:=some 23) (v:=?_) (a':=?_) #[true,true,true,true,true,false,false,false,true] rfl rfl (qck HT_.out (by kernel_rfl)) (fun _ _ _ h=>h) (Or.inl ⟨by rfl,?_⟩) ?_ ?_
     rotate_left
     ·intro w'
      go_simp
      with_reducible rfl
     rotate_left
     ·simp only [Act.put,List.setIfInBounds_toArray,List.set_cons_zero,List.set_cons_succ,qbk,qbm]
      rfl
     refine take_ (i:=5) (N:=some 24) (v:=?_) (a':=?_) #[true,true,true,true,true,true,false,false,true] rfl rfl (qcw HT_.out HW_.out (by kernel_rfl)) (fun _ _ _ h=>h) (Or.inl ⟨by rfl,?_⟩) hHeld ?_ ?_
     rotate_left
     ·rintro w' ⟨s0,s1,s2,s3,s4,s5,s6,s7⟩
      go_simp
      with_reducible rfl
     rotate_left
     ·simp only [Act.put,List.setIfInBounds_toArray,List.set_cons_zero,List.set_cons_succ,qbk,qbm]
      rfl
     refine one_ (i:=6) (N:=some 25) #[true,true,true,true,true,true,true,false,true] rfl rfl (qdx HT_.out (by kernel_rfl)) (by decide) (fun K hK=>?_)
     refine qej Tryd.func43 (by kernel_rfl) rfl #[.agg #[.bool a0_0,.int .i64 a0_1,.slice (some ad147) l0_2.length c0_2],.agg #[.slice A147_0 ((qar l0_2 a1).f0).length c147_0,.int .i64 ((qar l0_2 a1).f1),.int .i64 ((qar l0_2 a1).f2),.int .i64 ((qar l0_2 a1).f3),.int .i64 ((qar l0_2 a1).f4)]] (by rfl) rfl rfl (by (try simp only [List.map_toArray,List.map_cons,List.map_nil]);rfl) ?_
     with_reducible refine (qeb.calls a0_0 a0_1 _ _ l0_2 _ _ ((qar l0_2 a1).f0) ((qar l0_2 a1).f1) ((qar l0_2 a1).f2) ((qar l0_2 a1).f3) ((qar l0_2 a1).f4) t148 _ ?side1 ?side2 ?side3 ?side4 A13.out).mono ?_
     (case side1=>exact Kd.C_kept_now HR0_2.out HK.out)
     (case side2=>exact HC0_2.out)
     (case side3=>repeat (exact HR147_0.out))
     (case side4=>exact HC147_0.out)
     rintro e w19 ⟨v149,rfl,ho0,hb⟩
     have HS3_:=(hb.cell (World.block_lt_of_cell? _ _ (hHeld.2.2.2.1))).trans (hHeld.2.2.2.1)
     have HS4_:=(hb.cell (World.block_lt_of_cell? _ _ (hHeld.2.2.2.2.1))).trans (hHeld.2.2.2.2.1)
     have HS5_:=(hb.cell (World.block_lt_of_cell? _ _ (hHeld.2.2.2.2.2.1))).trans (hHeld.2.2.2.2.2.1)
     have HS6_:=(hb.cell (World.block_lt_of_cell? _ _ (hHeld.2.2.2.2.2.2.1))).trans (hHeld.2.2.2.2.2.2.1)
     have HS7_:=(hb.cell (World.block_lt_of_cell? _ _ (hHeld.2.2.2.2.2.2.2))).trans (hHeld.2.2.2.2.2.2.2)
     refine ⟨_,rfl,?_⟩
     have n0_:=qaa.mk (Kd.R_below (by (with_reducible repeat (apply Kd.R_drew));exact HO2.out) hb)
     have n1_:=qaa.mk (Kd.R_elder' (by (with_reducible repeat (apply Kd.R_drew));exact HO3.out) (Kd.R_base ho0) hb)
     have n2_:=qaa.mk (Kd.R_lower (Kd.R_new' (Kd.R_newM (M:=fun k_=>((P2_ k_∨P3_ k_)∨w.heap.size≤k_)) ho0 (by exact HK.out.1) (fun k_ h_=>.inr h_)) (Kd.R_lt (by (with_reducible repeat (apply Kd.R_drew));exact HO3.out))) (qac HB.out))
     have n3_:=qaa.mk (qah (g:=gb144) (o:=.cells #[.bool a0_0,.int .i64 a0_1,.slice (some ad147) l0_2.length c0_2] 24 (0,0)) (by (with_reducible repeat (refine qab ?_));exact BK144.out) hb)
     have n4_:=qaa.mk (Kd.C_below HR147_0.out hb)
     have n5_:=qaa.mk (Kept.below (S:=(fun k_=>P2_ k_∨P3_ k_)) HK.out hb)
     have n6_:=qaa.mk (qal HB.out hb)
     clear HO2
     clear HO3
     clear BK144
     clear HR147_0
     clear HK
     clear HB
     have HO2:=n0_
     have HO3:=n1_
     have HO150:=n2_
     have BK144:=n3_
     have HR147_0:=n4_
     have HK:=n5_
     have HB:=n6_
     clear n0_ n1_ n2_ n3_ n4_ n5_ n6_
     (try clear hb)
     (try clear ho0)
     obtain ⟨Ao20,co20,eo20⟩:=Kd.R_slice HO150.out
     (subst eo20)
     refine hK.out _ _ ⟨(qad BK144.out 0).trans rfl,(qad BK144.out 1).trans rfl,(qad BK144.out 2).trans rfl,HS3_,HS4_,HS5_,HS6_,HS7_⟩ (fun hHeld=>?_)
     clear hK K
     refine qdt (a':=?_) ?_ ?_
     rotate_left
     ·show Act.put _ (some 25) _=_
      simp only [Act.put,List.setIfInBounds_toArray,List.set_cons_zero,List.set_cons_succ,qbk,qbm]
      rfl
     refine qct (i:=7) (N:=some 26) (v:=?_) (a':=?_) #[true,true,true,true,true,true,true,true,true] rfl rfl (qck HT_.out (by kernel_rfl)) (fun _ _ _ h=>h) (Or.inl ⟨by rfl,?_⟩) ?_ ?_
     rotate_left
     ·intro w'
      go_simp
      with_reducible rfl
     rotate_left
     ·simp only [Act.put,List.setIfInBounds_toArray,List.set_cons_zero,List.set_cons_succ,qbk,qbm]
      rfl
     refine qfq (qfd HT_.out (by kernel_rfl)) ?_
     try go_wp2
     go_loopg [3,27] k (fun kq v3 v27 w'=>∃ (x2_1:List Bool) (x3_1:List Int) (x27_1:Int),v27=.int .i64 x27_1∧qaa (qat.l0 kq a1 x2_1 x3_1 t148 (t148.length:Int) x27_1 a0_0 a0_1 l0_2=some (r1,r2))∧qaa (kq≤k)∧qaa (Kd.R Kd.bool 4 w' w0.heap.size (fun k_=>((P2_ k_∨P3_ k_)∨w.heap.size≤k_)) (.slice (some ⟨go11,0,none⟩) l2.length co15) x2_1)∧qaa (Kd.R (Kd.int .i64) 3 w' w0.heap.size (fun k_=>((P2_ k_∨P3_ k_)∨w.heap.size≤k_)∧some k_≠((.slice Ao20 t148.length co20):Value).ownBlock) v3 x3_1)∧qaa (Kd.R (Kd.int .i64) 3 w' w0.heap.size (fun k_=>((P2_ k_∨P3_ k_)∨w.heap.size≤k_)∧some k_≠(v3:Value).ownBlock) (.slice Ao20 t148.length co20) t148)∧qaa (w'.heap[gb144]?=some (.cells #[.bool a0_0,.int .i64 a0_1,(.slice (some ad147) l0_2.length c0_2)] 24 (0,0)))∧qaa (Kept w w' (fun k_=>P2_ k_∨P3_ k_))∧qaa (Below w0.heap.size w0 w'))
     case atStart=>exact ⟨(y146),(l3),(0),(by rfl),H',⟨Nat.le_refl _⟩,⟨by (with_reducible repeat (apply Kd.R_drew));exact HO2.out⟩,⟨by (with_reducible repeat (apply Kd.R_drew));exact HO3.out⟩,⟨by (with_reducible repeat (apply Kd.R_drew));exact Kd.R_mono HO150.out (fun _ hk=>⟨hk.1.1,hk.2⟩)⟩,⟨by (with_reducible repeat (refine qab ?_));exact BK144.out⟩,⟨by repeat ((with_reducible exact HK.out))⟩,⟨by repeat ((with_reducible exact HB.out))⟩⟩
     case round=>
      clear H'
      try clear c5b0
      try clear c6b0
      try clear p11
      try clear q11
      try clear c12b0
      try clear hx11_0
      try clear hx145_0
      try clear hx147_0
      try clear hx147_1
      try clear hx147_2
      try clear hx147_3
      try clear hx147_4
      try clear p145
      try clear p147
      try clear q145
      try clear q147
      obtain ⟨x2_1,x3_1,x27_1,rfl,HA,HK1,HO_2,HO_3,HO_25,BK144,HK,HB⟩:=hrel
      have hl2_1:=(Kd.R_reads' HO_2.out).1
      rw [hl2_1] at HO_2
      (try simp only [hl2_1])
      cases gk with
      | zero=>exact absurd HA.out (by simp [qat.l0])
      | succ k1=>
       have H:=HA.out
       clear HA
       simp only [qat.l0] at H
       by_cases c21:x27_1<(t148.length:Int)
       ·rw [if_pos c21] at H
        have c21b0:decide (x27_1<(t148.length:Int))=true:=decide_eq_true c21
        clear c21
        by_cases c22:0≤x27_1
        ·rw [if_pos c22] at H
         have c22b0:decide (0≤x27_1)=true:=decide_eq_true c22
         clear c22
         by_cases c23:x27_1<(t148.length:Int)
         ·rw [if_pos c23] at H
          have c23b0:decide (x27_1<(t148.length:Int))=true:=decide_eq_true c23
          clear c23
          replace H:=Option.bind_eq_some_iff.mp H
          obtain ⟨⟨t152,t155⟩,A240,H⟩:=H
          replace H:(qat.l0 k1 a1 t155 t152 t148 (t148.length:Int) (wrap64 (x27_1+1)) a0_0 a0_1 l0_2)=some (r1,r2):=H
          have A24:=qaa.mk A240
          clear A240
          have H':=qaa.mk H
          clear H
          have p151:0≤(x27_1:Int):=of_decide_eq_true (by (with_reducible assumption))
          have q151:x27_1<(t148.length:Int):=of_decide_eq_true (by (with_reducible assumption))
          obtain ⟨ad151,e151,hx151_0⟩:=Kd.at_int (Kd.R_reads' HO_25.out).2.2 x27_1 p151 q151
          cases e151
          replace p151:=eq_true p151
          replace q151:=eq_true q151
          have hcz25_0:wr.cell? ⟨gb144,0,none⟩=some (.bool a0_0):=(qad BK144.out 0).trans rfl
          have hcz25_1:wr.cell? ⟨gb144,1,none⟩=some (.int .i64 a0_1):=(qad BK144.out 1).trans rfl
          have hcz25_2:wr.cell? ⟨gb144,2,none⟩=some (.slice (some ad147) l0_2.length c0_2):=(qad BK144.out 2).trans rfl
          have hfz25_0:=qaf BK144.out 0
          have hfz25_1:=qaf BK144.out 1
          have hfz25_2:=qaf BK144.out 2
          obtain ⟨Ao26,co26,eo26⟩:=Kd.R_slice HO_3.out
          subst eo26
          go_wp2_with (((with_reducible refine qbb (f:=49) rfl ?_);refine qcv (some 35) rfl rfl Tryd.func49 (by kernel_rfl) rfl #[.agg #[.bool a0_0,.int .i64 a0_1,.slice (some ad147) l0_2.length c0_2],.int .i64 (rd t148 x27_1),.slice (some ⟨go11,0,none⟩) x2_1.length co15,.slice Ao26 x3_1.length co26] rfl (by (try simp only [List.map_toArray,List.map_cons,List.map_nil]);rfl) ?_;(with_reducible refine (ih k1 (by have:=HK1.out;omega) a0_0 a0_1 _ _ l0_2 (rd t148 x27_1) (fun k_=>some k_=(.slice (some ⟨go11,0,none⟩) x2_1.length co15:Value).ownBlock) (.slice (some ⟨go11,0,none⟩) x2_1.length co15) x2_1 (fun k_=>some k_=(.slice Ao26 x3_1.length co26:Value).ownBlock) (.slice Ao26 x3_1.length co26) x3_1 t152 t155 w0 _ ?side1 ?side2 ?side3 ?side4 ?side5 A24.out).mono ?_);(case side1=>repeat ((with_reducible exact HB.out)));(case side2=>exact Kd.C_kept_call HR0_2.out HK.out (fun k_ hs_=>Or.elim hs_ (fun e_=>(fun e_=>(HO_2.out.1 k_ e_.symm)) e_) (fun e_=>(fun e_=>(HO_3.out.1 k_ e_.symm).1) e_)));(case side3=>exact HC0_2.out);(case side4=>exact Kd.R_tight rfl HO_2.out);(case side5=>exact Kd.R_tight rfl HO_3.out);rintro e w27 ⟨v153,rfl,ho0,hy0,hb,hkp⟩;refine ⟨_,rfl,?_⟩;have n0_:=qaa.mk (Kd.R_reok rfl hy0 (fun k_ e_=>HO_2.out.1 k_ e_));have n1_:=qaa.mk (Kd.R_mono (ok':=fun k_=>((P2_ k_∨P3_ k_)∨w.heap.size≤k_)∧some k_≠(v153:Value).ownBlock) (Kd.R_keptB ((Kd.R_apart' HO_25.out (Kd.R_typed HO_2.out) (by decide))) hkp (fun k_ hk_ hs_=>Or.elim hs_ (fun e_=>(hk_.2) e_) (fun e_=>(hk_.1.2) e_))) (fun k_ hk_=>⟨hk_.1.1.1,fun e_=>Or.elim (ho0.1 k_ e_.symm) (fun hs_=>hk_.2.1 hs_) (fun hn_=>Nat.not_le.2 hk_.2.2 hn_)⟩));have n2_:=qaa.mk (qen (by (with_reducible repeat (refine qab ?_));exact BK144.out) hkp (fun hs_=>Or.elim hs_ (fun e_=>(fun e_=>(Kd.R_ne HO_2.out BK144.out (by decide)) e_) e_) (fun e_=>(fun e_=>(Kd.R_ne HO_3.out BK144.out (by decide)) e_) e_)));have n3_:=qaa.mk (Kd.R_mono (ok':=fun k_=>((P2_ k_∨P3_ k_)∨w.heap.size≤k_)∧some k_≠(.slice (some ad151) t148.length co20:Value).ownBlock) ho0 (fun k_ hk_=>⟨Or.elim hk_ (fun hs_=>Or.elim hs_ (fun hs_=>(HO_2.out.1 k_ (hs_).symm)) (fun hs_=>(HO_3.out.1 k_ (hs_).symm).1)) (fun hn_=>(.inr (Nat.le_trans (by exact HK.out.1) hn_))),Or.elim hk_ (fun hs_=>Or.elim hs_ (fun hs_=>fun e_=>((((Kd.R_apart' HO_25.out (Kd.R_typed HO_2.out) (by decide))).1 k_ e_.symm).2) hs_) (fun hs_=>fun e_=>((((Kd.R_apart' HO_25.out (Kd.R_typed HO_2.out) (by decide))).1 k_ e_.symm).1.2) hs_)) (fun hn_=>(Kd.fresh' (Kd.R_lt (by (with_reducible repeat (apply Kd.R_drew));exact HO_25.out)) k_ hn_))⟩));have n4_:=qaa.mk (Kept.then_ (S:=(fun k_=>P2_ k_∨P3_ k_)) HK.out hkp (fun k_ hs_=>Or.elim hs_ (fun e_=>(fun e_=>(HO_2.out.1 k_ e_.symm)) e_) (fun e_=>(fun e_=>(HO_3.out.1 k_ e_.symm).1) e_)));have n5_:=qaa.mk (hb);clear HO_2;clear HO_25;clear BK144;clear HK;clear HB;clear HO_3;have HO_2:=n0_;have HO_25:=n1_;have BK144:=n2_;have HO154:=n3_;have HK:=n4_;have HB:=n5_;clear n0_ n1_ n2_ n3_ n4_ n5_;(try clear hb);(try clear hkp);(try clear ho0);(try clear hy0)))
          (try simp only [← hl2_1])
          go_roundg k1
          case measure=>have:=HK1.out;omega
          case rel=>exact ⟨(t155),(t152),(wrap64 (x27_1+1)),(by rfl),H',⟨by have:=HK1.out;omega⟩,⟨by (try simp only [hl2_1]);(with_reducible repeat (apply Kd.R_drew));exact HO_2.out⟩,⟨by (skip);(with_reducible repeat (apply Kd.R_drew));exact HO154.out⟩,⟨by (skip);(with_reducible repeat (apply Kd.R_drew));exact HO_25.out⟩,⟨by (skip);(with_reducible repeat (refine qab ?_));exact BK144.out⟩,⟨by repeat ((with_reducible exact HK.out))⟩,⟨by repeat ((with_reducible exact HB.out))⟩⟩
         ·rw [if_neg c23] at H
          exact absurd H (by simp)
        ·rw [if_neg c22] at H
         exact absurd H (by simp)
       ·rw [if_neg c21] at H
        have c21b0:decide (x27_1<(t148.length:Int))=false:=decide_eq_false c21
        clear c21
        by_cases c28:x3_1.length<17592186044416
        ·rw [if_pos c28] at H
         have LMc28:=qaa.mk c28
         clear c28
         obtain ⟨y156,hy156⟩:∃ y_:List Int,y_=(x3_1++[a1]):=⟨_,rfl⟩
         replace H:(some (y156,x2_1))=some (r1,r2):=by (rw [hy156];with_reducible exact H)
         have Ny156:=qaa.mk hy156
         clear hy156
         simp only [Option.some.injEq,Prod.mk.injEq] at H
         obtain ⟨rfl,rfl⟩:=H
         go_wp2_with (((with_reducible refine qdf (b:=.append) (xs:=#[.tmp 37,.tmp 39]) rfl ?_);at_builtin;refine Kd.R_append (Kd.int .i64) (w0:=w0) w0.heap.size rfl (.tmp 37) (.tmp 39) 31 3 (.int .i64 0) 8 rfl Tryd.underlying31 qfe rfl (by decide) (by omega) u3 x3_1 a1 [.int .i64 a1] (fun k_=>((P2_ k_∨P3_ k_)∨w.heap.size≤k_)∧some k_≠(.slice Ao20 t148.length co20:Value).ownBlock) (fun _=>False) rfl rfl ?aP (fun _ hk=>hk.elim) ?aF ?aO ?aB ?aS ?aL ?_;(case aP=>exact rfl);(case aB=>exact HB.out);(case aF=>exact (fun k_ hk=>⟨(.inr (Nat.le_trans (by exact HK.out.1) hk)),Kd.fresh' (Kd.R_lt (by (with_reducible repeat (apply Kd.R_drew));exact HO_25.out)) k_ hk⟩));(case aO=>exact (by (with_reducible repeat (apply Kd.R_drew));exact HO_3.out));(case aS=>exact (qac HB.out));(case aL=>have:=LMc28.out;omega);intro v157 w29 ho hb hg hat;rw [← Ny156.out] at ho;have n0_:=qaa.mk (Kd.R_over' (by (with_reducible repeat (apply Kd.R_drew));exact HO_2.out) (Kd.R_typed (by (with_reducible repeat (apply Kd.R_drew));exact HO_3.out)) (by decide) hg);have n1_:=qaa.mk (Kd.R_after (ok:=(fun k_=>((P2_ k_∨P3_ k_)∨w.heap.size≤k_))) (by (with_reducible repeat (apply Kd.R_drew));exact HO_25.out) hg hat);have n2_:=qaa.mk (qdp (g:=gb144) (o:=.cells #[.bool a0_0,.int .i64 a0_1,.slice (some ad147) l0_2.length c0_2] 24 (0,0)) (by (with_reducible repeat (refine qab ?_));exact BK144.out) hg (Kd.R_ne HO_3.out BK144.out (by decide)));have n3_:=qaa.mk (hb);have n4_:=qaa.mk (Kept.of_grown (S:=(fun k_=>P2_ k_∨P3_ k_)) hg HK.out (fun k_ e_=>(HO_3.out.1 k_ e_).1));have n5_:=qaa.mk (ho);clear HO_2;clear HO_25;clear BK144;clear HB;clear HK;clear HO_3;have HO_2:=n0_;have HO_25:=n1_;have BK144:=n2_;have HB:=n3_;have HK:=n4_;have HO158:=n5_;clear n0_ n1_ n2_ n3_ n4_ n5_;clear ho hb hg hat))
         go_ret
         exact ⟨_,by rfl,by (with_reducible repeat (apply Kd.R_drew));exact Kd.R_mono HO158.out (fun _ hk=>hk.1),(by (simp only [hl2_1];exact (by (with_reducible repeat (apply Kd.R_drew));exact HO_2.out))),by repeat ((with_reducible exact HB.out)),by repeat ((with_reducible exact HK.out))⟩
        ·rw [if_neg c28] at H
         exact absurd H (by simp)
    ·rw [if_neg c12] at H
     exact absurd H (by simp)
  ·rw [if_neg c6] at H
   exact absurd H (by simp)
 ·rw [if_neg c5] at H
  exact absurd H (by simp)
end Go.Proofs.YtmfjmbcfaamebaaDoor.X
namespace Go.Proofs.YtmfjmbcfaamebaaDoor.X
open Go.RowKit Go.Proofs.YtmfjmbcfaamebaaDoorW.PrintWords Go.Proofs.YtmfjmbcfaamebaaDoorW.PrintLast Go.Proofs.YtmfjmbcfaamebaaDoorW.PrintMore
attribute [local go_sem] qbs qcb
set_option linter.unusedVariables false
set_option linter.unusedSimpArgs false
def qap.l0:Nat→List Int→Int→Int→Option (List Int)
 | 0,_,_,_=>none
 | k+1,x0,x2,x3=>if x2<x3 then (if 0≤x3 then (if x3<(x0.length:Int) then (if 0≤x2 then (if x2<(x0.length:Int) then (qap.l0 k ((x0.set (x2:Int).toNat (rd x0 x3)).set (x3:Int).toNat (rd x0 x2)) (wrap64 (x2+1)) (wrap64 (x3-1))) else (none)) else (none)) else (none)) else (none)) else (some x0)
def qap.f (k:Nat) (l0:List Int):Option (List Int):=qap.l0 k l0 0 (wrap64 ((l0.length:Int)-1))
theorem qap.mono_l:∀ k,(∀ y0 y1 y2,LeO (qap.l0 k y0 y1 y2) (qap.l0 (k+1) y0 y1 y2))
 | 0=>fun _ _ _ r h=>by simp [qap.l0] at h
 | k+1=>by
  have ih0:=qap.mono_l k
  ·intro y0 y1 y2
   unfold qap.l0
   repeat' first|(with_reducible exact ih0 _ _ _)|(with_reducible exact LeO.refl _)|(with_reducible refine LeO.ite ?_ ?_)
theorem qap.mono:∀ a0 k,LeO (qap.f k a0) (qap.f (k+1) a0):=by
 intro a0 k
 have ih0:=qap.mono_l k
 unfold qap.f
 repeat' (with_reducible exact ih0 _ _ _)
def qap.T3:Bool×List (List Nat×List Nat):=(true,[([],[]),([],[]),([],[]),([],[]),([],[]),([],[]),([4,5],[4,5]),([6],[6]),([],[]),([],[]),([8,9],[8,9]),([10],[10]),([0,1,0,1,4,5,6,7,11],[0,1]),([12,7,0,1,4,5,6,7,11],[7,12]),([2,3,0,1,2,3,4,5,6,7,8,9,10,11,12,13],[2,3]),([14,11,13,0,1,2,3,4,5,6,7,8,9,10,11,12,13],[11,14])])
def qap.B3:List Nat:=[0,0,0,0,0,0,48,112,0,0,768,1792,4083,8179,16383,32767]
theorem qap.tab3:rtab .any (opsOf Tryd.f50 3)=qap.T3:=by kernel_rfl
theorem qap.bits3:qeu qap.T3.2 qap.B3=true:=by kernel_rfl
set_option maxHeartbeats 8000000 in
set_option maxRecDepth 100000 in
theorem qap.calls (k:Nat) (P0_:Nat→Prop) (u9000_:Value) (l0:List Int) (r:List Int) (w0 w:World) (hB:Below w0.heap.size w0 w) (ho0:Kd.R (Kd.int .i64) 3 w w0.heap.size P0_ u9000_ l0) (h:qap.f k l0=some r) :
  Calls Tryd.prog 50 #[u9000_] w fun e w'=>e=.returned (.tuple #[])∧Kd.R (Kd.int .i64) 3 w' w0.heap.size (fun k_=>(P0_ k_∨w.heap.size≤k_)) u9000_ r∧Below w0.heap.size w0 w'∧Kept w w' (fun k_=>P0_ k_):=by
 have HO0:=qaa.mk (show Kd.R (Kd.int .i64) 3 w w0.heap.size (fun k_=>(P0_ k_∨w.heap.size≤k_)) u9000_ l0 from Kd.R_mono ho0 (fun k_ hk=>(.inl hk)))
 have HK:=qaa.mk (Kept.refl w (fun k_=>P0_ k_))
 have HW0:=qaa.mk hB.size
 have HB:=qaa.mk hB
 clear hB
 have H:(qap.l0 k l0 0 (wrap64 ((l0.length:Int)-1)))=some r:=h
 clear h
 have H':=qaa.mk H
 clear H
 obtain ⟨Ao2,co2,eo2⟩:=Kd.R_slice HO0.out
 subst eo2
 go_enter Tryd.func50,Tryd.ntmps50
 go_wp2
 go_loopg [2,3] k (fun kq v2 v3 w'=>∃ (x0_1:List Int) (x2_1:Int) (x3_1:Int),v2=.int .i64 x2_1∧v3=.int .i64 x3_1∧qaa (qap.l0 kq x0_1 x2_1 x3_1=some r)∧qaa (kq≤k)∧qaa (Kd.R (Kd.int .i64) 3 w' w0.heap.size (fun k_=>(P0_ k_∨w.heap.size≤k_)) (.slice Ao2 l0.length co2) x0_1)∧qaa (Kept w w' (fun k_=>P0_ k_))∧qaa (Below w0.heap.size w0 w'))
 case atStart=>exact ⟨(l0),(0),(wrap64 ((l0.length:Int)-1)),(by rfl),(by rfl),H',⟨Nat.le_refl _⟩,⟨by (with_reducible repeat (apply Kd.R_drew));exact HO0.out⟩,⟨by repeat ((with_reducible exact HK.out))⟩,⟨by repeat ((with_reducible exact HB.out))⟩⟩
 case round=>
  clear H'
  obtain ⟨x0_1,x2_1,x3_1,rfl,rfl,HA,HK1,HO_0,HK,HB⟩:=hrel
  have hl0_1:=(Kd.R_reads' HO_0.out).1
  rw [hl0_1] at HO_0
  (try simp only [hl0_1])
  cases gk with
  | zero=>exact absurd HA.out (by simp [qap.l0])
  | succ k1=>
   have H:=HA.out
   clear HA
   simp only [qap.l0] at H
   by_cases c3:x2_1<x3_1
   ·rw [if_pos c3] at H
    have c3b0:decide (x2_1<x3_1)=true:=decide_eq_true c3
    clear c3
    by_cases c4:0≤x3_1
    ·rw [if_pos c4] at H
     have c4b0:decide (0≤x3_1)=true:=decide_eq_true c4
     clear c4
     by_cases c5:x3_1<(x0_1.length:Int)
     ·rw [if_pos c5] at H
      have c5b0:decide (x3_1<(x0_1.length:Int))=true:=decide_eq_true c5
      clear c5
      by_cases c6:0≤x2_1
      ·rw [if_pos c6] at H
       have c6b0:decide (0≤x2_1)=true:=decide_eq_true c6
       clear c6
       by_cases c7:x2_1<(x0_1.length:Int)
       ·rw [if_pos c7] at H
        have c7b0:decide (x2_1<(x0_1.length:Int))=true:=decide_eq_true c7
        clear c7
        obtain ⟨y345,hy345⟩:∃ y_:List Int,y_=(x0_1.set (x2_1:Int).toNat (rd x0_1 x3_1)):=⟨_,rfl⟩
        replace H:(qap.l0 k1 (y345.set (x3_1:Int).toNat (rd x0_1 x2_1)) (wrap64 (x2_1+1)) (wrap64 (x3_1-1)))=some r:=by (rw [hy345];with_reducible exact H)
        have Ny345:=qaa.mk hy345
        clear hy345
        obtain ⟨y346,hy346⟩:∃ y_:List Int,y_=(y345.set (x3_1:Int).toNat (rd x0_1 x2_1)):=⟨_,rfl⟩
        replace H:(qap.l0 k1 y346 (wrap64 (x2_1+1)) (wrap64 (x3_1-1)))=some r:=by (rw [hy346];with_reducible exact H)
        have Ny346:=qaa.mk hy346
        clear hy346
        have H':=qaa.mk H
        clear H
        try go_wp2
        have n0_:=qaa.mk (Kd.R_drew HO_0.out)
        have n1_:=qaa.mk (Kept.drew HK.out)
        have n2_:=qaa.mk (qdb HB.out)
        clear HO_0
        clear HK
        clear HB
        have HO_0:=n0_
        have HK:=n1_
        have HB:=n2_
        clear n0_ n1_ n2_
        have p343:0≤(x3_1:Int):=of_decide_eq_true (by (with_reducible assumption))
        have q343:x3_1<(x0_1.length:Int):=of_decide_eq_true (by (with_reducible assumption))
        obtain ⟨ad343,e343,hx343_0⟩:=Kd.at_int (Kd.R_reads' HO_0.out).2.2 x3_1 p343 q343
        cases e343
        replace p343:=eq_true p343
        replace q343:=eq_true q343
        have p344:0≤(x2_1:Int):=of_decide_eq_true (by (with_reducible assumption))
        have q344:x2_1<(x0_1.length:Int):=of_decide_eq_true (by (with_reducible assumption))
        obtain ⟨ad344,e344,hx344_0⟩:=Kd.at_int (Kd.R_reads' HO_0.out).2.2 x2_1 p344 q344
        obtain rfl:ad343=ad344:=(by injection e344)
        replace p344:=eq_true p344
        replace q344:=eq_true q344
        have p8:0≤(x2_1:Int):=of_decide_eq_true (by (with_reducible assumption))
        have q8:(x2_1:Int)<((x0_1.length:Int):Int):=of_decide_eq_true (by (with_reducible assumption))
        obtain ⟨go8,co8,eo8,gb8,gl8,cl8,HG8⟩:=Kd.R_form HO_0.out (by omega)
        (cases eo8)
        have GB8:=qaa.mk gb8
        have GG8:=qaa.mk HG8
        clear gb8 gl8 HG8
        have HMgo8:=qaa.mk (show (P0_ go8∨w.heap.size≤go8) from (HO_0.out.1 _ rfl))
        (simp only [qep] at hx343_0)
        (simp only [qep] at hx344_0)
        obtain ⟨hx8_0,hf8_0⟩:=Kd.R_celln 0 HO_0.out (x2_1:Int) p8 q8
        replace p8:=eq_true p8
        replace q8:=eq_true q8
        have HP11:=Kd.R_putn HO_0.out (x2_1:Int) (rd x0_1 x3_1)
        rw [← Ny345.out] at HP11
        have HQ11:=qaa.mk HP11
        clear HP11
        have p9:0≤(x3_1:Int):=of_decide_eq_true (by (with_reducible assumption))
        have q9:(x3_1:Int)<((x0_1.length:Int):Int):=of_decide_eq_true (by (with_reducible assumption))
        obtain ⟨hx9_0,hf9_0⟩:=Kd.R_celln 0 HQ11.out (x3_1:Int) p9 q9
        replace p9:=eq_true p9
        replace q9:=eq_true q9
        have HP12:=Kd.R_putn HQ11.out (x3_1:Int) (rd x0_1 x2_1)
        rw [← Ny346.out] at HP12
        have HQ12:=qaa.mk HP12
        clear HP12
        refine qfb (n:=16) (S:=fun w'=>w'.cell? ⟨go8,(x3_1).toNat,none⟩=some (.int .i64 (rd x0_1 x3_1))∧w'.cell? ⟨go8,(x2_1).toNat,none⟩=some (.int .i64 (rd x0_1 x2_1))) (ds:=[13,15]) #[false,false,false,false,false,false,false,false,false,false,false,false,false,false,false,false] (by kernel_rfl) rfl rfl ⟨hx343_0,hx344_0⟩ (fun hHeld=>?_);refine qee qap.tab3 qap.bits3 (fun HT_ HW_=>?_)
        generalize wr.drew=w10 at HO_0 HK HB GG8 HQ11 HQ12 hf8_0 hf9_0 hx343_0 hx344_0 hx8_0 hx9_0 hHeld ⊢
        refine qct (i:=0) (N:=some 14) (v:=?_) (a':=?_) #[true,false,false,false,false,false,false,false,false,false,false,false,false,false,false,false] rfl rfl (qck HT_.out (by kernel_rfl)) (fun _ _ _ h=>h) (Or.inl ⟨by rfl,?_⟩) ?_ ?_
        rotate_left
        ·intro w'
         go_simp
         with_reducible rfl
        rotate_left
        ·simp only [Act.put,List.setIfInBounds_toArray,List.set_cons_zero,List.set_cons_succ,qbk,qbm]
         rfl
        refine qct (i:=1) (N:=some 15) (v:=?_) (a':=?_) #[true,true,false,false,false,false,false,false,false,false,false,false,false,false,false,false] rfl rfl (qck HT_.out (by kernel_rfl)) (fun _ _ _ h=>h) (Or.inl ⟨by rfl,?_⟩) ?_ ?_
        rotate_left
        ·intro w'
         go_simp
         with_reducible rfl
        rotate_left
        ·simp only [Act.put,List.setIfInBounds_toArray,List.set_cons_zero,List.set_cons_succ,qbk,qbm]
         rfl
        refine qct (i:=2) (N:=some 16) (v:=?_) (a':=?_) #[true,true,true,false,false,false,false,false,false,false,false,false,false,false,false,false] rfl rfl (qck HT_.out (by kernel_rfl)) (fun _ _ _ h=>h) (Or.inl ⟨by rfl,?_⟩) ?_ ?_
        rotate_left
        ·intro w'
         go_simp
         with_reducible rfl
        rotate_left
        ·simp only [Act.put,List.setIfInBounds_toArray,List.set_cons_zero,List.set_cons_succ,qbk,qbm]
         rfl
        refine qct (i:=3) (N:=some 17) (v:=?_) (a':=?_) #[true,true,true,true,false,false,false,false,false,false,false,false,false,false,false,false] rfl rfl (qck HT_.out (by kernel_rfl)) (fun _ _ _ h=>h) (Or.inl ⟨by rfl,?_⟩) ?_ ?_
        rotate_left
        ·intro w'
         go_simp
         with_reducible rfl
        rotate_left
        ·simp only [Act.put,List.setIfInBounds_toArray,List.set_cons_zero,List.set_cons_succ,qbk,qbm]
         rfl
        refine qct (i:=4) (N:=some 18) (v:=?_) (a':=?_) #[true,true,true,true,true,false,false,false,false,false,false,false,false,false,false,false] rfl rfl (qck HT_.out (by kernel_rfl)) (fun _ _ _ h=>h) (Or.inl ⟨by rfl,?_⟩) ?_ ?_
        rotate_left
        ·intro w'
         go_simp
         with_reducible rfl
        rotate_left
        ·simp only [Act.put,List.setIfInBounds_toArray,List.set_cons_zero,List.set_cons_succ,qbk,qbm]
         rfl
        refine qct (i:=5) (N:=some 19) (v:=?_) (a':=?_) #[true,true,true,true,true,true,false,false,false,false,false,false,false,false,false,false] rfl rfl (qck HT_.out (by kernel_rfl)) (fun _ _ _ h=>h) (Or.inl ⟨by rfl,?_⟩) ?_ ?_
        rotate_left
        ·intro w'
         go_simp
         with_reducible rfl
        rotate_left
        ·simp only [Act.put,List.setIfInBounds_toArray,List.set_cons_zero,List.set_cons_succ,qbk,qbm]
         rfl
        refine qct (i:=6) (N:=some 20) (v:=?_) (a':=?_) #[true,true,true,true,true,true,true,false,false,false,false,false,false,false,false,false] rfl rfl (qck HT_.out (by kernel_rfl)) (fun _ _ _ h=>h) (Or.inl ⟨by rfl,?_⟩) ?_ ?_
        rotate_left
        ·intro w'
         go_simp
         with_reducible rfl
        rotate_left
        ·simp only [Act.put,List.setIfInBounds_toArray,List.set_cons_zero,List.set_cons_succ,qbk,qbm]
         rfl
        refine qct (i:=8) (N:=some 22) (v:=?_) (a':=?_) #[true,true,true,true,true,true,true,false,true,false,false,false,false,false,false,false] rfl rfl (qck HT_.out (by kernel_rfl)) (fun _ _ _ h=>h) (Or.inl ⟨by rfl,?_⟩) ?_ ?_
        rotate_left
        ·intro w'
         go_simp
         with_reducible rfl
        rotate_left
        ·simp only [Act.put,List.setIfInBounds_toArray,List.set_cons_zero,List.set_cons_succ,qbk,qbm]
         rfl
        refine qct (i:=9) (N:=some 23) (v:=?_) (a':=?_) #[true,true,true,true,true,true,true,false,true,true,false,false,false,false,false,false] rfl rfl (qck HT_.out (by kernel_rfl)) (fun _ _ _ h=>h) (Or.inl ⟨by rfl,?_⟩) ?_ ?_
        rotate_left
        ·intro w'
         go_simp
         with_reducible rfl
        rotate_left
        ·simp only [Act.put,List.setIfInBounds_toArray,List.set_cons_zero,List.set_cons_succ,qbk,qbm]
         rfl
        refine qct (i:=10) (N:=some 24) (v:=?_) (a':=?_) #[true,true,true,true,true,true,true,false,true,true,true,false,false,false,false,false] rfl rfl (qck HT_.out (by kernel_rfl)) (fun _ _ _ h=>h) (Or.inl ⟨by rfl,?_⟩) ?_ ?_
        rotate_left
        ·intro w'
         go_simp
         with_reducible rfl
        rotate_left
        ·simp only [Act.put,List.setIfInBounds_toArray,List.set_cons_zero,List.set_cons_succ,qbk,qbm]
         rfl
        refine take_ (i:=7) (N:=some 21) (v:=?_) (a':=?_) #[true,true,true,true,true,true,true,true,true,true,true,false,false,false,false,false] rfl rfl (qcw HT_.out HW_.out (by kernel_rfl)) (fun _ _ _ h=>h) (Or.inl ⟨by rfl,?_⟩) hHeld ?_ ?_
        rotate_left
        ·rintro w' ⟨s0,s1⟩
         go_simp
         with_reducible rfl
        rotate_left
        ·simp only [Act.put,List.setIfInBounds_toArray,List.set_cons_zero,List.set_cons_succ,qbk,qbm]
         rfl
        refine take_ (i:=11) (N:=some 25) (v:=?_) (a':=?_) #[true,true,true,true,true,true,true,true,true,true,true,true,false,false,false,false] rfl rfl (qcw HT_.out HW_.out (by kernel_rfl)) (fun _ _ _ h=>h) (Or.inl ⟨by rfl,?_⟩) hHeld ?_ ?_
        rotate_left
        ·rintro w' ⟨s0,s1⟩
         go_simp
         with_reducible rfl
        rotate_left
        ·simp only [Act.put,List.setIfInBounds_toArray,List.set_cons_zero,List.set_cons_succ,qbk,qbm]
         rfl
        refine qct (i:=12) (N:=some 26) (v:=?_) (a':=?_) #[true,true,true,true,true,true,true,true,true,true,true,true,true,false,false,false] rfl rfl (qck HT_.out (by kernel_rfl)) (fun _ _ _ h=>h) (Or.inl ⟨by rfl,?_⟩) ?_ ?_
        rotate_left
        ·intro w'
         go_simp
         with_reducible rfl
        rotate_left
        ·simp only [Act.put,List.setIfInBounds_toArray,List.set_cons_zero,List.set_cons_succ,qbk,qbm]
         rfl
        refine last_ (i:=13) (N:=none) #[true,true,true,true,true,true,true,true,true,true,true,true,true,true,false,false] rfl rfl (qdx HT_.out (by kernel_rfl)) (by decide) (fun K hK=>?_)
        refine skip_ (w1:=?_) (by rfl) rfl ?_ ?_
        rotate_left
        ·go_simp
         rfl
        refine hK.out _ _ ?_
        clear hK K
        refine qct (i:=14) (N:=some 27) (v:=?_) (a':=?_) #[true,true,true,true,true,true,true,true,true,true,true,true,true,true,true,false] rfl rfl (qck HT_.out (by kernel_rfl)) (fun _ _ _ h=>h) (Or.inl ⟨by rfl,?_⟩) ?_ ?_
        rotate_left
        ·intro w'
         go_simp
         with_reducible rfl
        rotate_left
        ·simp only [Act.put,List.setIfInBounds_toArray,List.set_cons_zero,List.set_cons_succ,qbk,qbm]
         rfl
        refine last_ (i:=15) (N:=none) #[true,true,true,true,true,true,true,true,true,true,true,true,true,true,true,true] rfl rfl (qdx HT_.out (by kernel_rfl)) (by decide) (fun K hK=>?_)
        refine skip_ (w1:=?_) (by rfl) rfl ?_ ?_
        rotate_left
        ·go_simp
         rfl
        refine hK.out _ _ ?_
        clear hK K
        refine qfq (qfd HT_.out (by kernel_rfl)) ?_
        try go_wp2
        (try simp only [← hl0_1])
        go_roundg k1
        case measure=>have:=HK1.out;omega
        case rel=>exact ⟨(y346),(wrap64 (x2_1+1)),(wrap64 (x3_1-1)),(by rfl),(by rfl),H',⟨by have:=HK1.out;omega⟩,⟨by (try simp only [hl0_1]);(with_reducible repeat (apply Kd.R_drew));exact HQ12.out⟩,⟨by repeat ((with_reducible first|exact HK.out|refine Kept.setCell ?_ HMgo8.out _))⟩,⟨by repeat ((with_reducible first|exact HB.out|refine qbx ?_ GB8.out))⟩⟩
       ·rw [if_neg c7] at H
        exact absurd H (by simp)
      ·rw [if_neg c6] at H
       exact absurd H (by simp)
     ·rw [if_neg c5] at H
      exact absurd H (by simp)
    ·rw [if_neg c4] at H
     exact absurd H (by simp)
   ·rw [if_neg c3] at H
    have c3b0:decide (x2_1<x3_1)=false:=decide_eq_false c3
    clear c3
    obtain rfl:=Option.some.inj H
    go_wp2
    go_end0
    exact ⟨by rfl,(by exact (by (with_reducible repeat (apply Kd.R_drew));exact HO_0.out)),by repeat ((with_reducible exact HB.out)),by repeat ((with_reducible exact HK.out))⟩
end Go.Proofs.YtmfjmbcfaamebaaDoor.X
