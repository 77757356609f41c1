/- Parts of the proof of the law CFGDominators: words, walks of single functions and plain laws, joined by a program out of the session's texts. -/
import Derived.Test.YtmfjmbcfaamebaaDoorCFGDominators8
import Derived.Laws.Bits64b
set_option linter.unusedVariables false
set_option linter.unusedSimpArgs false
namespace Go.Proofs.YtmfjmbcfaamebaaDoor.X
open Go.RowKit Go.Proofs.YtmfjmbcfaamebaaDoorW.PrintWords Go.Proofs.YtmfjmbcfaamebaaDoorW.PrintLast Go.Proofs.YtmfjmbcfaamebaaDoorW.PrintMore
attribute [local go_sem] qbs qcb
set_option linter.unusedVariables false
set_option linter.unusedSimpArgs false
def qao.l0:Nat→Int→List Int→Int→Int→Option (Bool)
 | 0,_,_,_,_=>none
 | k+1,x1,x7,x8,x9=>if x9<x8 then (if 0≤x9 then (if x9<(x7.length:Int) then (if (rd x7 x9)=x1 then (some true) else (qao.l0 k x1 x7 x8 (wrap64 (x9+1)))) else (none)) else (none)) else (some false)
def qao.f (k:Nat) (l0:List Int) (a1:Int):Option (Bool):=qao.l0 k a1 l0 (l0.length:Int) 0
theorem qao.mono_l:∀ k,(∀ y0 y1 y2 y3,LeO (qao.l0 k y0 y1 y2 y3) (qao.l0 (k+1) y0 y1 y2 y3))
 | 0=>fun _ _ _ _ r h=>by simp [qao.l0] at h
 | k+1=>by
  have ih0:=qao.mono_l k
  ·intro y0 y1 y2 y3
   unfold qao.l0
   repeat' first|(with_reducible exact ih0 _ _ _ _)|(with_reducible exact LeO.refl _)|(with_reducible refine LeO.ite ?_ ?_)
theorem qao.mono:∀ a0 a1 k,LeO (qao.f k a0 a1) (qao.f (k+1) a0 a1):=by
 intro a0 a1 k
 have ih0:=qao.mono_l k
 unfold qao.f
 repeat' (with_reducible exact ih0 _ _ _ _)
set_option maxHeartbeats 8000000 in
set_option maxRecDepth 100000 in
theorem qao.calls (k:Nat) (A0:Option Addr) (c0:Nat) (l0:List Int) (a1:Int) (r:Bool) (w:World) (hr0:Kd.C (Kd.int .i64) w A0 l0.length l0) (hc0:l0.length≤c0) (h:qao.f k l0 a1=some r) :
  Calls Tryd.prog 48 #[.slice A0 l0.length c0,.int .i64 a1] w fun e w'=>e=.returned (.bool r)∧qdm w w':=by
 have HR0:=qaa.mk hr0
 have HC0:=qaa.mk hc0
 clear hr0 hc0
 have H:(qao.l0 k a1 l0 (l0.length:Int) 0)=some r:=h
 clear h
 have H':=qaa.mk H
 clear H
 go_enter Tryd.func48,Tryd.ntmps48
 go_wp2
 go_loopg [9] k (fun kq v9 w'=>∃ (x9_1:Int),v9=.int .i64 x9_1∧qaa (qao.l0 kq a1 l0 (l0.length:Int) x9_1=some r)∧qaa (kq≤k)∧qdm w w')
 case atStart=>exact ⟨(0),(by rfl),H',⟨Nat.le_refl _⟩,by repeat (exact qdm.refl _)⟩
 case round=>
  clear H'
  obtain ⟨x9_1,rfl,HA,HK1,⟨m1,rfl⟩⟩:=hrel
  cases gk with
  | zero=>exact absurd HA.out (by simp [qao.l0])
  | succ k1=>
   have H:=HA.out
   clear HA
   simp only [qao.l0] at H
   by_cases c3:x9_1<(l0.length:Int)
   ·rw [if_pos c3] at H
    have c3b0:decide (x9_1<(l0.length:Int))=true:=decide_eq_true c3
    clear c3
    by_cases c4:0≤x9_1
    ·rw [if_pos c4] at H
     have c4b0:decide (0≤x9_1)=true:=decide_eq_true c4
     clear c4
     by_cases c5:x9_1<(l0.length:Int)
     ·rw [if_pos c5] at H
      have c5b0:decide (x9_1<(l0.length:Int))=true:=decide_eq_true c5
      clear c5
      by_cases c6:(rd l0 x9_1)=a1
      ·rw [if_pos c6] at H
       have c6b0:((rd l0 x9_1)==a1)=true:=beq_iff_eq.mpr c6
       have c6b1:((rd l0 x9_1)!=a1)=false:=bne_eq_false_iff_eq.mpr c6
       clear c6
       obtain rfl:=Option.some.inj H
       have p232:0≤(x9_1:Int):=of_decide_eq_true (by (with_reducible assumption))
       have q232:x9_1<(l0.length:Int):=of_decide_eq_true (by (with_reducible assumption))
       obtain ⟨ad232,e232,hx232_0⟩:=Kd.at_int HR0.out x9_1 p232 q232
       cases e232
       replace p232:=eq_true p232
       replace q232:=eq_true q232
       go_wp2
       go_ret
       exact ⟨by rfl,by repeat (first|exact qdm.refl _|apply qdm.step)⟩
      ·rw [if_neg c6] at H
       have c6b0:((rd l0 x9_1)==a1)=false:=beq_eq_false_iff_ne.mpr c6
       have c6b1:((rd l0 x9_1)!=a1)=true:=bne_iff_ne.mpr c6
       have H':=qaa.mk H
       clear H
       have p232:0≤(x9_1:Int):=of_decide_eq_true (by (with_reducible assumption))
       have q232:x9_1<(l0.length:Int):=of_decide_eq_true (by (with_reducible assumption))
       obtain ⟨ad232,e232,hx232_0⟩:=Kd.at_int HR0.out x9_1 p232 q232
       cases e232
       replace p232:=eq_true p232
       replace q232:=eq_true q232
       go_wp2
       go_roundg k1
       case measure=>have:=HK1.out;omega
       case rel=>exact ⟨(wrap64 (x9_1+1)),(by rfl),H',⟨by have:=HK1.out;omega⟩,by repeat (first|exact qdm.refl _|apply qdm.step)⟩
     ·rw [if_neg c5] at H
      exact absurd H (by simp)
    ·rw [if_neg c4] at H
     exact absurd H (by simp)
   ·rw [if_neg c3] at H
    have c3b0:decide (x9_1<(l0.length:Int))=false:=decide_eq_false c3
    clear c3
    obtain rfl:=Option.some.inj H
    go_wp2
    go_ret
    exact ⟨by rfl,by repeat (first|exact qdm.refl _|apply qdm.step)⟩
end Go.Proofs.YtmfjmbcfaamebaaDoor.X
namespace Go.Proofs.YtmfjmbcfaamebaaDoor.X
open Go.RowKit Go.Proofs.YtmfjmbcfaamebaaDoorW.PrintWords Go.Proofs.YtmfjmbcfaamebaaDoorW.PrintLast Go.Proofs.YtmfjmbcfaamebaaDoorW.PrintMore
def Ev {α:Type} (f:Nat→Option α) (a:α):Prop:=∃ K,∀ k,K≤k→f k=some a
theorem LeO.up {α:Type} {f:Nat→Option α} (hm:∀ k,LeO (f k) (f (k+1))) {k:Nat} {a:α} (h:f k=some a):∀ j,f (k+j)=some a
 | 0=>h
 | j+1=>hm (k+j) a (LeO.up hm h j)
theorem Ev.const {α:Type} (a:α):Ev (fun _=>some a) a:=⟨0,fun _ _=>rfl⟩
theorem Ev.fix {α:Type} {o:Option α} {a:α} (h:o=some a):Ev (fun _=>o) a:=⟨0,fun _ _=>h⟩
theorem Ev.bind {α β:Type} {f:Nat→Option α} {g:Nat→α→Option β} {a:α} {b:β} (h:Ev f a) (hg:Ev (fun k=>g k a) b):Ev (fun k=>(f k).bind (g k)) b:=by
 obtain ⟨K,h⟩:=h
 obtain ⟨L,hg⟩:=hg
 exact ⟨K+L,fun k hk=>by show (f k).bind (g k)=some b;rw [h k (by omega),Option.bind_some];exact hg k (by omega)⟩
theorem Ev.congr {α:Type} {f g:Nat→Option α} {a:α} (h:Ev f a) (e:∀ k,g k=f k):Ev g a:=by
 obtain ⟨K,h⟩:=h
 exact ⟨K,fun k hk=>(e k).trans (h k hk)⟩
theorem Ev.ifp {α:Type} {c:Prop} [Decidable c] {f g:Nat→Option α} {a:α} (hc:c) (h:Ev f a):Ev (fun k=>if c then f k else g k) a:=h.congr (fun _=>if_pos hc)
theorem Ev.ifn {α:Type} {c:Prop} [Decidable c] {f g:Nat→Option α} {a:α} (hc:¬ c) (h:Ev g a):Ev (fun k=>if c then f k else g k) a:=h.congr (fun _=>if_neg hc)
theorem Ev.succ {α:Type} {f:Nat→Option α} {a:α} (h:Ev (fun k=>f (k+1)) a):Ev f a:=by
 obtain ⟨K,h⟩:=h
 exact ⟨K+1,fun k hk=>by obtain ⟨j,rfl⟩:∃ j,k=j+1:=⟨k-1,by omega⟩;exact h j (by omega)⟩
theorem qcz {n:Nat} (h:n<9223372036854775807):wrap64 ((n:Int)+1)=((n+1:Nat):Int):=by
 unfold wrap64
 omega
theorem qgt {l:List Int} {i:Nat} (h:i<l.length):rd l (i:Int)=l[i]:=by simp [rd,h]
theorem Equal_from (a b:List Int) (hl:a.length=b.length) (hb:a.length<4611686018427387904):∀ (m i:Nat),i+m=a.length→Ev (fun k=>qak.l0 k a b (a.length:Int) (i:Int)) (decide (a.drop i=b.drop i))
 | 0,i,hi=>by
  refine Ev.succ ?_
  simp only [qak.l0]
  refine Ev.ifn (by omega) ?_
  rw [show a.drop i=[] from List.drop_eq_nil_of_le (by omega),show b.drop i=[] from List.drop_eq_nil_of_le (by omega)]
  exact Ev.const true
 | m+1,i,hi=>by
  refine Ev.succ ?_
  simp only [qak.l0]
  have h1:i<a.length:=by omega
  have h2:i<b.length:=by omega
  refine Ev.ifp (by omega) (Ev.ifp (by omega) (Ev.ifp (by omega) (Ev.ifp (by omega) ?_)))
  rw [qgt h1,qgt h2,qcz (by omega)]
  by_cases he:a[i]=b[i]
  ·refine Ev.ifp he ?_
   have e:(a.drop i=b.drop i)↔(a.drop (i+1)=b.drop (i+1)):=by
    rw [List.drop_eq_getElem_cons h1,List.drop_eq_getElem_cons h2,he]
    exact ⟨fun h=>(List.cons.inj h).2,fun h=>by rw [h]⟩
   rw [decide_eq_decide.2 e]
   exact Equal_from a b hl hb m (i+1) (by omega)
  ·refine Ev.ifn he ?_
   rw [decide_eq_false (fun h=>he (by rw [List.drop_eq_getElem_cons h1,List.drop_eq_getElem_cons h2] at h;exact (List.cons.inj h).1))]
   exact Ev.const false
theorem Equal_ev (a b:List Int) (hb:a.length<4611686018427387904):Ev (fun k=>qak.f k a b) (decide (a=b)):=by
 unfold qak.f
 by_cases hl:a.length=b.length
 ·refine Ev.ifp (by omega) ?_
  simpa using Equal_from a b hl hb a.length 0 (by omega)
 ·refine Ev.ifn (by omega) ?_
  rw [decide_eq_false (fun e=>hl (by rw [e]))]
  exact Ev.const false
theorem Has_from (a:List Int) (x:Int) (hb:a.length<4611686018427387904):∀ (m i:Nat),i+m=a.length→Ev (fun k=>qao.l0 k x a (a.length:Int) (i:Int)) (decide (x∈a.drop i))
 | 0,i,hi=>by
  refine Ev.succ ?_
  simp only [qao.l0]
  refine Ev.ifn (by omega) ?_
  rw [show a.drop i=[] from List.drop_eq_nil_of_le (by omega),decide_eq_false (by simp)]
  exact Ev.const false
 | m+1,i,hi=>by
  refine Ev.succ ?_
  simp only [qao.l0]
  have h1:i<a.length:=by omega
  refine Ev.ifp (by omega) (Ev.ifp (by omega) (Ev.ifp (by omega) ?_))
  rw [qgt h1,qcz (by omega)]
  by_cases he:a[i]=x
  ·refine Ev.ifp he ?_
   rw [decide_eq_true (by rw [List.drop_eq_getElem_cons h1,he];exact List.mem_cons_self ..)]
   exact Ev.const true
  ·refine Ev.ifn he ?_
   have e:x∈a.drop i↔x∈a.drop (i+1):=by
    rw [List.drop_eq_getElem_cons h1,List.mem_cons]
    exact ⟨fun h=>h.resolve_left (fun e=>he e.symm),.inr⟩
   rw [decide_eq_decide.2 e]
   exact Has_from a x hb m (i+1) (by omega)
theorem qga (a:List Int) (x:Int) (hb:a.length<4611686018427387904):Ev (fun k=>qao.f k a x) (decide (x∈a)):=by
 unfold qao.f
 simpa using Has_from a x hb a.length 0 (by omega)
end Go.Proofs.YtmfjmbcfaamebaaDoor.X
namespace Go.Proofs.YtmfjmbcfaamebaaDoor.X
open Go.RowKit Go.Proofs.YtmfjmbcfaamebaaDoorW.PrintWords Go.Proofs.YtmfjmbcfaamebaaDoorW.PrintLast Go.Proofs.YtmfjmbcfaamebaaDoorW.PrintMore
def tb (ws:List Int) (x:Nat):Bool:=(ws.getD (x/64) 0).toNat.testBit (x % 64)
theorem mem_bitsW {w i:Nat}:i∈qfy w↔i<64∧w.testBit i=true:=by simp [qfy]
theorem qia:∀ (ws:List Int) (i:Nat) (y:Int),y∈qdz i ws↔∃ j b:Nat,j<ws.length∧b<64∧(ws.getD j 0).toNat.testBit b=true∧y=(((i+j)*64+b:Nat):Int)
 | [],i,y=>by simp [qdz]
 | w::t,i,y=>by
  rw [qdz,List.mem_append,List.mem_map,qia t (i+1) y]
  constructor
  ·rintro (⟨b,hb,rfl⟩|⟨j,b,hj,hb,ht,rfl⟩)
   ·obtain ⟨h1,h2⟩:=mem_bitsW.1 hb
    exact ⟨0,b,by simp,h1,by simpa using h2,by simp⟩
   ·exact ⟨j+1,b,by simpa using hj,hb,by simpa using ht,by rw [show i+1+j=i+(j+1) by omega]⟩
  ·rintro ⟨j,b,hj,hb,ht,rfl⟩
   cases j with
   | zero=>exact .inl ⟨b,mem_bitsW.2 ⟨hb,by simpa using ht⟩,by simp⟩
   | succ j=>exact .inr ⟨j,b,by simpa using hj,hb,by simpa using ht,by rw [show i+1+j=i+(j+1) by omega]⟩
theorem tb_len {ws:List Int} {x:Nat} (h:tb ws x=true):x/64<ws.length:=by
 by_cases hl:x/64<ws.length
 ·exact hl
 ·simp [tb,List.getD_eq_getElem?_getD,List.getElem?_eq_none (by omega:ws.length≤x/64)] at h
theorem qec {ws:List Int} {x:Nat}:(x:Int)∈els ws↔tb ws x=true:=by
 rw [els,qia]
 constructor
 ·rintro ⟨j,b,hj,hb,ht,he⟩
  have hx:x=(0+j)*64+b:=by omega
  rw [tb,show x/64=j by omega,show x % 64=b by omega]
  exact ht
 ·intro h
  exact ⟨x/64,x % 64,tb_len h,by omega,h,by omega⟩
theorem qes {ws:List Int} {y:Int} (h:y∈els ws):∃ x:Nat,y=x∧tb ws x=true:=by
 obtain ⟨h0,_⟩:=els_bound h
 obtain ⟨x,rfl⟩:=Int.eq_ofNat_of_zero_le h0
 exact ⟨x,rfl,qec.1 h⟩
theorem bitsW_sorted (w:Nat):(qfy w).Pairwise (·<·):=List.Pairwise.filter _ List.pairwise_lt_range
theorem qhv:∀ (ws:List Int) (i:Nat),(qdz i ws).Pairwise (·<·)
 | [],_=>List.Pairwise.nil
 | w::t,i=>by
  rw [qdz,List.pairwise_append]
  refine ⟨?_,qhv t (i+1),?_⟩
  ·rw [List.pairwise_map]
   exact (bitsW_sorted w.toNat).imp (fun h=>by omega)
  ·intro a ha b hb
   obtain ⟨c,hc,rfl⟩:=List.mem_map.1 ha
   obtain ⟨j,d,hj,hd,_,rfl⟩:=(qia t (i+1) b).1 hb
   have:=bitsW_lt hc
   omega
theorem qhr (ws:List Int):(els ws).Pairwise (·<·):=qhv ws 0
theorem qgg:∀ {a b:List Int},a.Pairwise (·<·)→b.Pairwise (·<·)→(∀ x,x∈a↔x∈b)→a=b
 | [],[],_,_,_=>rfl
 | [],y::b,_,_,h=>absurd ((h y).2 (List.mem_cons_self ..)) (by simp)
 | x::a,[],_,_,h=>absurd ((h x).1 (List.mem_cons_self ..)) (by simp)
 | x::a,y::b,ha,hb,h=>by
  have ha':=List.pairwise_cons.1 ha
  have hb':=List.pairwise_cons.1 hb
  have hxy:x=y:=by
   rcases List.mem_cons.1 ((h x).1 (List.mem_cons_self ..)) with e|e
   ·exact e
   ·rcases List.mem_cons.1 ((h y).2 (List.mem_cons_self ..)) with e2|e2
    ·exact e2.symm
    ·have:=ha'.1 y e2;have:=hb'.1 x e;omega
  subst hxy
  congr 1
  refine qgg ha'.2 hb'.2 (fun z=>⟨fun hz=>?_,fun hz=>?_⟩)
  ·rcases List.mem_cons.1 ((h z).1 (List.mem_cons_of_mem _ hz)) with e|e
   ·subst e;exact absurd (ha'.1 z hz) (by omega)
   ·exact e
  ·rcases List.mem_cons.1 ((h z).2 (List.mem_cons_of_mem _ hz)) with e|e
   ·subst e;exact absurd (hb'.1 z hz) (by omega)
   ·exact e
end Go.Proofs.YtmfjmbcfaamebaaDoor.X
namespace Go.Proofs.YtmfjmbcfaamebaaDoor.X
open Go.RowKit Go.Proofs.YtmfjmbcfaamebaaDoorW.PrintWords Go.Proofs.YtmfjmbcfaamebaaDoorW.PrintLast Go.Proofs.YtmfjmbcfaamebaaDoorW.PrintMore
def qdd (ws:List Int):Prop:=∀ w∈ws,0≤w∧w<18446744073709551616
structure GS (ws:List Int):Prop where
 wd:qdd ws
 len:ws.length≤1024
 trim:∀ h:ws≠[],ws.getLast h≠0
theorem GS.nil:GS []:=⟨fun _ h=>by simp at h,by simp,fun h=>absurd rfl h⟩
theorem GS.ok {ws:List Int} (h:GS ws):setOk ws=true:=by
 simp only [setOk,Bool.and_eq_true,decide_eq_true_eq,List.all_eq_true]
 exact ⟨by have:=h.len;omega,fun x hx=>⟨(h.wd x hx).1,(h.wd x hx).2⟩⟩
theorem qdd.getD {ws:List Int} (h:qdd ws) (j:Nat):0≤ws.getD j 0∧ws.getD j 0<18446744073709551616:=by
 rw [List.getD_eq_getElem?_getD]
 by_cases hj:j<ws.length
 ·rw [List.getElem?_eq_getElem hj];exact h _ (List.getElem_mem hj)
 ·rw [List.getElem?_eq_none (by omega)];simp
theorem tb_append (ws:List Int) (m x:Nat):tb (ws++List.replicate m 0) x=tb ws x:=by
 unfold tb
 rw [List.getD_eq_getElem?_getD,List.getD_eq_getElem?_getD]
 by_cases hj:x/64<ws.length
 ·rw [List.getElem?_append_left hj]
 ·rw [List.getElem?_append_right (by omega),List.getElem?_eq_none (by omega:ws.length≤x/64),List.getElem?_replicate]
  split <;> simp
theorem shl_one {b:Nat} (hb:b<64):shl .u64 1 (b:Int)=((2 ^ b:Nat):Int):=by
 have h1:2 ^ b<2 ^ 64:=Nat.pow_lt_pow_right (by omega) hb
 unfold shl
 rw [Int.toNat_natCast,show min b IntKind.u64.bits=b from Nat.min_eq_left (Nat.le_of_lt hb),Int.one_mul,IntKind.wrap_u64]
 have h2:((2:Int) ^ b)=((2 ^ b:Nat):Int):=by simp
 rw [h2]
 obtain ⟨c,hc⟩:∃ c,2 ^ b=c:=⟨_,rfl⟩
 rw [hc] at h1 ⊢
 omega
theorem tb_or {ws:List Int} (hw:qdd ws) {j b x:Nat} (hj:j<ws.length) (hb:b<64) :
  tb (ws.set j (Go.bits .or .u64 (ws.getD j 0) (shl .u64 1 (b:Int)))) x=(tb ws x||decide (x=j*64+b)):=by
 obtain ⟨h0,h1⟩:=hw.getD j
 obtain ⟨v,hv⟩:=Int.eq_ofNat_of_zero_le h0
 have hp:2 ^ b<18446744073709551616:=Nat.pow_lt_pow_right (by omega:1<2) hb
 rw [hv,shl_one hb,bits_or_u64_nat v (2 ^ b) (by omega) hp]
 unfold tb
 by_cases hx:x/64=j
 ·subst hx
  rw [List.getD_eq_getElem?_getD,List.getElem?_set_self hj,Option.getD_some,Int.toNat_natCast,Nat.testBit_or,Nat.testBit_two_pow,hv,Int.toNat_natCast]
  congr 1
  rw [decide_eq_decide]
  omega
 ·rw [List.getD_eq_getElem?_getD,List.getElem?_set_ne (fun e=>hx e.symm),← List.getD_eq_getElem?_getD]
  rw [decide_eq_false (by omega),Bool.or_false]
theorem qdd.set {ws:List Int} (hw:qdd ws) {j b:Nat} (hb:b<64):qdd (ws.set j (Go.bits .or .u64 (ws.getD j 0) (shl .u64 1 (b:Int)))):=by
 intro w h
 rcases List.mem_or_eq_of_mem_set h with h|rfl
 ·exact hw w h
 ·obtain ⟨h0,h1⟩:=hw.getD j
  obtain ⟨v,hv⟩:=Int.eq_ofNat_of_zero_le h0
  have hp:2 ^ b<18446744073709551616:=Nat.pow_lt_pow_right (by omega:1<2) hb
  rw [hv,shl_one hb,bits_or_u64_nat v (2 ^ b) (by omega) hp]
  have:v|||2 ^ b<2 ^ 64:=Nat.or_lt_two_pow (by omega) (by omega)
  omega
theorem qdd.append {ws:List Int} (hw:qdd ws) (m:Nat):qdd (ws++List.replicate m 0):=by
 intro w h
 rcases List.mem_append.1 h with h|h
 ·exact hw w h
 ·obtain ⟨_,rfl⟩:=List.mem_replicate.1 h;omega
theorem trimmed_from (ws:List Int) (hb:ws.length≤1024):∀ (n:Nat),n≤ws.length→(∀ j,n≤j→ws.getD j 0=0)→∃ r,Ev (fun k=>qbc.l0 k ws (n:Int)) r∧(∀ x,tb r x=tb ws x)∧r.length≤n∧(∀ w∈r,w∈ws)∧∀ h:r≠[],r.getLast h≠0
 | 0,hn,hz=>by
  refine ⟨[],?_,fun x=>?_,by simp,by simp,fun h=>absurd rfl h⟩
  ·refine Ev.succ ?_
   simp only [qbc.l0]
   refine Ev.ifn (by omega) (Ev.ifp (by omega) (Ev.ifp (by omega) ?_))
   exact Ev.const _
  ·unfold tb
   rw [hz _ (Nat.zero_le _)]
   simp
 | n+1,hn,hz=>by
  have hl:n<ws.length:=by omega
  have hw1:wrap64 (((n+1:Nat):Int)-1)=(n:Int):=by unfold wrap64;omega
  by_cases h0:ws[n]=0
  ·obtain ⟨r,h1,h2,h3,h4,h5⟩:=trimmed_from ws hb n (by omega) (fun j hj=>by
    by_cases e:j=n
    ·subst e;simp [hl,h0]
    ·exact hz j (by omega))
   refine ⟨r,?_,h2,by omega,h4,h5⟩
   refine Ev.succ ?_
   simp only [qbc.l0]
   rw [hw1,qgt hl]
   exact Ev.ifp (by omega) (Ev.ifp (by omega) (Ev.ifp (by omega) (Ev.ifp h0 h1)))
  ·refine ⟨ws.take (n+1),?_,fun x=>?_,by simp;omega,fun w h=>List.mem_of_mem_take h,fun h=>?_⟩
   ·refine Ev.succ ?_
    simp only [qbc.l0]
    rw [hw1,qgt hl]
    refine Ev.ifp (by omega) (Ev.ifp (by omega) (Ev.ifp (by omega) (Ev.ifn h0 (Ev.ifp (by omega) (Ev.ifp (by omega) ?_)))))
    rw [Int.toNat_natCast]
    exact Ev.const _
   ·unfold tb
    rw [List.getD_eq_getElem?_getD,List.getElem?_take]
    split
    ·rw [← List.getD_eq_getElem?_getD]
    ·rw [hz _ (by omega)];rfl
   ·have:(ws.take (n+1)).getLast h=ws[n]:=by
     rw [List.getLast_eq_getElem]
     simp [show min (n+1) ws.length=n+1 by omega]
    rw [this]
    exact h0
theorem trimmed_ev {ws:List Int} (hw:qdd ws) (hb:ws.length≤1024):∃ r,Ev (fun k=>qbc.f k ws) r∧(∀ x,tb r x=tb ws x)∧GS r:=by
 obtain ⟨r,h1,h2,h3,h4,h5⟩:=trimmed_from ws hb ws.length (Nat.le_refl _) (fun j hj=>by simp [List.getD_eq_getElem?_getD,List.getElem?_eq_none hj])
 exact ⟨r,h1,h2,fun w h=>hw w (h4 w h),by omega,h5⟩
end Go.Proofs.YtmfjmbcfaamebaaDoor.X
namespace Go.Proofs.YtmfjmbcfaamebaaDoor.X
open Go.RowKit Go.Proofs.YtmfjmbcfaamebaaDoorW.PrintWords Go.Proofs.YtmfjmbcfaamebaaDoorW.PrintLast Go.Proofs.YtmfjmbcfaamebaaDoorW.PrintMore
theorem valid_f (x:Int):qdj.f x=some (decide (0≤x∧x≤65535)):=by
 unfold qdj.f
 by_cases h:0≤x
 ·rw [if_pos h]
  congr 1
  rw [decide_eq_decide]
  omega
 ·rw [if_neg h,decide_eq_false (by omega)]
theorem qfi {x:Int} (h0:-9223372036854775808≤x) (h1:x<9223372036854775808):wrap64 x=x:=by
 unfold wrap64
 omega
theorem qhy (zs:List Int) (q:Nat):rd zs (q:Int)=zs.getD q 0:=by unfold rd;rw [Int.toNat_natCast]
def grown (ws:List Int) (q:Nat):List Int:=ws++List.replicate (q+1-ws.length) 0
def ofSet (ws:List Int) (q b:Nat):List Int:=(grown ws q).set q (Go.bits .or .u64 ((grown ws q).getD q 0) (shl .u64 1 (b:Int)))
theorem qhl (ws:List Int) (q:Nat):(grown ws q).length=ws.length+(q+1-ws.length):=by unfold grown;simp
theorem quo64 {n q b:Nat} (hn:n≤65535) (hnq:n=q*64+b) (hb:b<64):wrap64 (Int.tdiv (n:Int) 64)=(q:Int):=by
 have:Int.tdiv (n:Int) 64=(q:Int):=by rw [Int.tdiv_eq_ediv_of_nonneg (by omega)];omega
 rw [this];exact qfi (by omega) (by omega)
theorem rem64 {n q b:Nat} (hnq:n=q*64+b) (hb:b<64):Int.tmod (n:Int) 64=(b:Int):=by rw [Int.tmod_eq_emod_of_nonneg (by omega)];omega
theorem need64 {q m:Nat} (hq:q≤1024) (hm:m≤1024):wrap64 (wrap64 ((q:Int)+1)-(m:Int))=(q:Int)+1-(m:Int):=by rw [qfi (x:=(q:Int)+1) (by omega) (by omega),qfi (by omega) (by omega)]
theorem Of_step {l ws:List Int} {i n q b:Nat} (k:Nat) (h1:i<l.length) (hl:l.length<4611686018427387904) (hx:rd l (i:Int)=(n:Int)) (hn:n≤65535) (hnq:n=q*64+b) (hb:b<64) (hws:ws.length≤1024) :
  qax.l0 (k+1) ws l (l.length:Int) (i:Int)=qax.l0 k (ofSet ws q b) l (l.length:Int) ((i+1:Nat):Int):=by
 have hgl:=qhl ws q
 have c1:((i:Int)<(l.length:Int))=True:=eq_true (by omega)
 have c2:(0≤(i:Int))=True:=eq_true (by omega)
 have c3:(0≤(b:Int))=True:=eq_true (by omega)
 have c4:(0≤(q:Int))=True:=eq_true (by omega)
 have c9:((q:Int)<((grown ws q).length:Int))=True:=eq_true (by omega)
 have cg:(q:Int)+1-(ws.length:Int)>0→(0≤(q:Int)+1-(ws.length:Int))=True∧(ws.length+((q:Int)+1-(ws.length:Int)).toNat<17592186044416)=True∧((q:Int)+1-(ws.length:Int)).toNat=q+1-ws.length:=fun hg=>⟨eq_true (by omega),eq_true (by omega),by omega⟩
 have cn:¬ (q:Int)+1-(ws.length:Int)>0→q+1-ws.length=0:=fun hg=>by omega
 have hv:qdj.f (n:Int)=some true:=by rw [valid_f,decide_eq_true (by omega)]
 have hwi:(i:Nat)<9223372036854775807:=by omega
 have hqm:q≤1024:=by omega
 have hq:=quo64 hn hnq hb
 have hr:=rem64 hnq hb
 have hneed:=need64 hqm hws
 have hw:=qcz hwi
 by_cases hg:(q:Int)+1-(ws.length:Int)>0
 ·obtain ⟨c6,c7,c8⟩:=cg hg
  have c5:=eq_true hg
  have c8':ws++List.replicate ((q:Int)+1-(ws.length:Int)).toNat 0=grown ws q:=by rw [c8];rfl
  rw [qax.l0]
  simp only [c1,c2,hx,hv,hq,hr,hneed,hw,c3,c4,c5,c6,c7,c8',c9,if_true,Option.bind_some,qhy,Int.toNat_natCast,ofSet]
 ·have c5:=eq_false hg
  have c8:grown ws q=ws:=by unfold grown;rw [cn hg];simp
  rw [c8] at c9
  rw [qax.l0]
  simp only [c1,c2,hx,hv,hq,hr,hneed,hw,c3,c4,c5,c9,if_true,if_false,Option.bind_some,qhy,Int.toNat_natCast,ofSet,c8]
theorem Of_skip {l ws:List Int} {i:Nat} {x:Int} (k:Nat) (h1:i<l.length) (hl:l.length<4611686018427387904) (hx:rd l (i:Int)=x) (hn:¬ (0≤x∧x≤65535)) :
  qax.l0 (k+1) ws l (l.length:Int) (i:Int)=qax.l0 k ws l (l.length:Int) ((i+1:Nat):Int):=by
 have c1:((i:Int)<(l.length:Int))=True:=eq_true (by omega)
 have c2:(0≤(i:Int))=True:=eq_true (by omega)
 have hv:qdj.f x=some false:=by rw [valid_f,decide_eq_false hn]
 have hwi:(i:Nat)<9223372036854775807:=by omega
 have hw:=qcz hwi
 rw [qax.l0]
 simp only [c1,c2,hx,hv,hw,if_true,if_false,Option.bind_some,Bool.false_eq_true]
def within (l:List Int) (x:Nat):Prop:=(x:Int)∈l∧x≤65535
theorem tb_ofSet {ws:List Int} (hw:qdd ws) {q b:Nat} (hb:b<64) (x:Nat):tb (ofSet ws q b) x=(tb ws x||decide (x=q*64+b)):=by
 have hg:qdd (grown ws q):=hw.append _
 rw [ofSet,tb_or hg (by rw [qhl];omega) hb,grown,tb_append]
theorem ofSet_ok {ws:List Int} (hw:qdd ws) {q b:Nat} (hb:b<64):qdd (ofSet ws q b):=(hw.append _).set hb
theorem ofSet_length (ws:List Int) (q b:Nat):(ofSet ws q b).length=ws.length+(q+1-ws.length):=by rw [ofSet,List.length_set,qhl]
theorem Ev.next {α:Type} {f g:Nat→Option α} {a:α} (h:Ev g a) (e:∀ k,f (k+1)=g k):Ev f a:=Ev.succ (h.congr e)
theorem Of_from {l:List Int} (hl:l.length<4611686018427387904):∀ (m i:Nat) (ws:List Int),i+m=l.length→qdd ws→ws.length≤1024→(∀ x,tb ws x=true↔within (l.take i) x)→
  ∃ r,Ev (fun k=>qax.l0 k ws l (l.length:Int) (i:Int)) r∧GS r∧∀ x,tb r x=true↔within l x
 | 0,i,ws,hi,hw,hb,ht=>by
  obtain ⟨r,h1,h2,h3⟩:=trimmed_ev hw hb
  refine ⟨r,?_,h3,fun x=>?_⟩
  ·refine Ev.next (Ev.bind h1 (Ev.const r)) (fun k=>?_)
   rw [qax.l0,if_neg (by omega)]
  ·rw [h2,ht,List.take_of_length_le (by omega)]
 | m+1,i,ws,hi,hw,hb,ht=>by
  have h1:i<l.length:=by omega
  obtain ⟨x,hx⟩:∃ x,l[i]=x:=⟨_,rfl⟩
  have htk:l.take (i+1)=l.take i++[x]:=by rw [← hx,List.take_succ_eq_append_getElem h1]
  have hrd:rd l (i:Int)=x:=by rw [qgt h1,hx]
  by_cases hv:0≤x∧x≤65535
  ·obtain ⟨n,rfl⟩:=Int.eq_ofNat_of_zero_le hv.1
   have hn:n≤65535:=by omega
   obtain ⟨q,b,hb64,hnq⟩:∃ q b:Nat,b<64∧n=q*64+b:=⟨n/64,n % 64,Nat.mod_lt _ (by decide),by omega⟩
   have hlen:(ofSet ws q b).length≤1024:=by rw [ofSet_length];omega
   obtain ⟨r,h2,h3,h4⟩:=Of_from hl m (i+1) (ofSet ws q b) (by omega) (ofSet_ok hw hb64) hlen (fun y=>by
    rw [tb_ofSet hw hb64,Bool.or_eq_true,ht,htk,decide_eq_true_eq]
    unfold within
    rw [List.mem_append,List.mem_singleton]
    constructor
    ·rintro (h|h)
     ·exact ⟨.inl h.1,h.2⟩
     ·rw [← hnq] at h;subst h;exact ⟨.inr rfl,hn⟩
    ·rintro ⟨h|h,h'⟩
     ·exact .inl ⟨h,h'⟩
     ·exact .inr (by omega))
   exact ⟨r,h2.next (fun k=>Of_step k h1 hl hrd hn hnq hb64 hb),h3,h4⟩
  ·obtain ⟨r,h2,h3,h4⟩:=Of_from hl m (i+1) ws (by omega) hw hb (fun y=>by
    rw [ht,htk]
    unfold within
    rw [List.mem_append,List.mem_singleton]
    constructor
    ·rintro ⟨h,h'⟩;exact ⟨.inl h,h'⟩
    ·rintro ⟨h|h,h'⟩
     ·exact ⟨h,h'⟩
     ·exact absurd ⟨by omega,by omega⟩ hv)
   exact ⟨r,h2.next (fun k=>Of_skip k h1 hl hrd hv),h3,h4⟩
theorem Of_ev (l:List Int) (hl:l.length<4611686018427387904):∃ r,Ev (fun k=>qax.f k l) r∧GS r∧∀ x,tb r x=true↔within l x:=by
 have:=Of_from hl l.length 0 [] (by omega) (fun _ h=>by simp at h) (by simp) (fun x=>by simp [tb,within])
 simpa [qax.f] using this
end Go.Proofs.YtmfjmbcfaamebaaDoor.X
namespace Go.Proofs.YtmfjmbcfaamebaaDoor.X
open Go.RowKit Go.Proofs.YtmfjmbcfaamebaaDoorW.PrintWords Go.Proofs.YtmfjmbcfaamebaaDoorW.PrintLast Go.Proofs.YtmfjmbcfaamebaaDoorW.PrintMore
attribute [local go_sem] qbs qcb
set_option linter.unusedVariables false
set_option linter.unusedSimpArgs false
def qbj.T4:Bool×List (List Nat×List Nat):=(true,[([],[]),([],[]),([1],[1]),([2],[2]),([0,3,2],[0,3]),([4,4,0,1,2,3,4],[4])])
def qbj.B4:List Nat:=[0,0,2,6,15,31]
theorem qbj.tab4:rtab .any (opsOf Tryd.f42 4)=qbj.T4:=by kernel_rfl
theorem qbj.bits4:qeu qbj.T4.2 qbj.B4=true:=by kernel_rfl
open Go.Shelf
attribute [local go_sem] Oper.semAt_some
def numS (x:Int):ByteArray:=⟨(Lib.decDigits x.toNat).toArray⟩
def strT (ws:List Int):ByteArray:=(⟨#[123]⟩:ByteArray)++⟨(Lib.join (((els ws).map numS).map (·.data.toList)) [32]).toArray⟩++⟨#[125]⟩
def qbj.f (l0_0:List Int):Option ByteArray:=if setOk l0_0=true∧0<(els l0_0).length∧(els l0_0).length≤100∧(∀ x∈els l0_0,x<100)∧(Lib.join (((els l0_0).map numS).map (·.data.toList)) [32]).length≤10000 then some (strT l0_0) else none
theorem info9_:(Tryd.prog.info? 9).map (fun i=>(i.zero,i.size,i.bytes))=some (some (.string ⟨#[]⟩),1,16):=by kernel_rfl
set_option maxRecDepth 100000 in
set_option maxHeartbeats 4000000 in
theorem qbj.calls (A0_0:Option Addr) (c0_0:Nat) (l0_0:List Int) (r:ByteArray) (w:World) (hT:TabW w) (hr0_0:Kd.C (Kd.int .u64) w A0_0 l0_0.length l0_0) (hc0_0:l0_0.length≤c0_0) (h:qbj.f l0_0=some r) :
  Calls Tryd.prog 42 #[.agg #[.slice A0_0 l0_0.length c0_0]] w fun e w'=>e=.returned (.string r)∧Below w.heap.size w w':=by
 have hu38:=Tryd.underlying38
 unfold qbj.f at h
 by_cases hs:setOk l0_0=true∧0<(els l0_0).length∧(els l0_0).length≤100∧(∀ x∈els l0_0,x<100)∧(Lib.join (((els l0_0).map numS).map (·.data.toList)) [32]).length≤10000
 case neg=>rw [if_neg hs] at h;cases h
 rw [if_pos hs] at h
 obtain rfl:=Option.some.inj h
 obtain ⟨hok,hpos,hle,hsm,hjl⟩:=hs
 have HJ:=qaa.mk hjl
 clear h hjl
 have HR:=qaa.mk hr0_0
 have HT:=qaa.mk hT
 clear hr0_0 hT
 refine (callsIn_wide (n:=6)).1 ?_
 refine callsIn_of_wp_marks Tryd.func42 rfl trivial ?_ rfl
 simp only [Tryd.ntmps42,List.size_toArray,List.length_cons,List.length_nil,Nat.reduceAdd,Nat.reduceSub,Array.replicate_succ,Array.replicate_zero,List.push_toArray,List.append_toArray,List.nil_append,List.cons_append]
 gi_wp2
 refine ⟨trivial,?_⟩
 refine (callsIn_wide.2 (qda.calls_in _ _)).mono ?_
 rintro e W2 ⟨rfl,hW2⟩
 gi_wp2
 rw [← hW2]
 have hs2:W2.heap.size=w.heap.size+3:=by rw [hW2];simp
 have hB2:Below w.heap.size w W2:=by rw [hW2];exact (((Below.refl _ w).alloc (Nat.le_refl _) _).alloc (by simp) _).alloc (by simp;omega) _
 have b91:W2.heap[w.heap.size+1]?=some (.cells #[Value.slice none 0 0] 91 (0,0)):=by
  rw [hW2]
  have:=World.alloc_heap_new (w.alloc (Obj.cells #[Value.slice A0_0 l0_0.length c0_0] 38)) (Obj.cells #[Value.slice none 0 0] 91)
  rw [World.size_alloc] at this
  exact qcy this _
 have b52:W2.heap[w.heap.size+1+1]?=some (.cells #[Value.slice A0_0 l0_0.length c0_0] 38 (0,0)):=by
  rw [hW2]
  have:=World.alloc_heap_new ((w.alloc (Obj.cells #[Value.slice A0_0 l0_0.length c0_0] 38)).alloc (Obj.cells #[Value.slice none 0 0] 91)) (Obj.cells #[Value.slice A0_0 l0_0.length c0_0] 38)
  rw [World.size_alloc,World.size_alloc] at this
  exact this
 clear hW2
 have HSM:=qaa.mk hsm
 clear hsm
 refine wpIn_rangeFunc_ownF (w0:=W2) rfl (by decide) (gf:=76) (lb:=#[.pointer (some ⟨w.heap.size+1+1,0,none⟩)]) rfl trivial (enters_of Tryd.func76 (by kernel_rfl) rfl)
  (qda.stopsB _ (w.heap.size+1+1) w.heap.size A0_0 c0_0 l0_0 W2 hok (by omega) (by omega) HT.out.2.1 (HT.out.below' hB2) (qcu b52 0 rfl) (fun W' h=>Kd.C_below HR.out (hB2.trans h))) belowK_t (belowK_b (by omega)) (Below.refl _ _) (fun _=>rfl)
  (fun pre W=>(∃ v,W.heap[w.heap.size+1]?=some (.cells #[v] 91 (0,0))∧Kd.R Kd.string 9 W w.heap.size (fun _=>True) v ((vals pre).map numS))∧Below w.heap.size w W)
  (fun _ _ _=>False)
  (OwnFrom.and (Own.from (fun s A B row hs hg hr=>by obtain ⟨v,h1,h2⟩:=hs;exact ⟨v,qez hg hr h1,rowRow hg hr h2⟩) _) (ownFrom_below (Nat.le_refl _) (by omega)))
  (fun _ _ _ _ _ hs _ _=>hs)
  ⟨⟨_,b91,Kd.R_nil _ _ _ _ _⟩,hB2⟩
  (fun x=>{ tmps:=#[Value.agg #[Value.slice A0_0 l0_0.length c0_0],.pointer (some ⟨w.heap.size,0,none⟩),.string ⟨#[]⟩,.pointer (some ⟨w.heap.size+1,0,none⟩),.int .i64 x.1,.agg #[.slice A0_0 l0_0.length c0_0],.func (.func 76) #[] #[.pointer (some ⟨w.heap.size+1+1,0,none⟩)],.int .i64 x.1,undef,undef,undef,undef,undef,undef,undef,undef,undef],defers:=[] }) ?assign ?body ?done ?stop
 case assign=>
  intro l x W K hK
  gi_wp2
  exact hK
 case body=>
  rintro l pre x W ⟨⟨v,b91,hR⟩,hB⟩ hpl
  obtain ⟨n,hn⟩:∃ n:Nat,x.1=(n:Int):=⟨x.1.toNat,by have:=(els_bound x.2).1;omega⟩
  have hn100:n<100:=by have:=HSM.out x.1 x.2;omega
  have hne:some (w.heap.size+1)≠v.ownBlock:=Kd.R_ne hR b91 (by decide)
  obtain ⟨A,c,rfl,hc,_⟩:=Kd.R_reads hR
  have hlv:((vals pre).map numS).length=pre.length:=by simp [vals]
  obtain ⟨L,hL⟩:∃ L,(vals pre).map numS=L:=⟨_,rfl⟩
  rw [hL] at hR b91 hne hlv hc
  have hLb:L.length≤100:=by omega
  have HN:=qaa.mk hn
  clear hlv hn
  have hSt:∀ Y,Below W.heap.size W Y→Y.cell? ⟨w.heap.size+1,0,none⟩=some (.slice A L.length c):=fun Y hb=>qcu ((hb.block _ (qbn b91)).trans b91) 0 rfl
  refine wpIn_block ?_
  refine startIn_ (m:=6) (S:=fun Y=>Y.cell? ⟨w.heap.size+1,0,none⟩=some (.slice A L.length c)) (ds:=[5]) #[false,false,false,false,false,false] (by kernel_rfl) rfl rfl rfl (fun hh=>by obtain ⟨_,_,hh⟩:=hh;exact hh) (hSt _ (qea (Below.refl _ _))) (fun hHeld=>?_);refine qee qbj.tab4 qbj.bits4 (fun HT_ HW_=>?_)
  obtain ⟨Y0,hY0⟩:∃ Y0,W.drew=Y0:=⟨_,rfl⟩
  have hb0:Below W.heap.size W Y0:=by rw [← hY0];exact qea (Below.refl _ _)
  rw [hY0] at hHeld ⊢
  clear hY0
  refine take_ (i:=0) (N:=some 8) (v:=?_) (a':=?_) #[true,false,false,false,false,false] rfl rfl (qcw HT_.out HW_.out (by kernel_rfl)) (fun _ _ _ h=>h) (Or.inl ⟨by rfl,?_⟩) hHeld ?_ ?_
  rotate_left
  ·rintro w' s0
   go_simp
   with_reducible rfl
  rotate_left
  ·simp only [Act.put,List.setIfInBounds_toArray,List.set_cons_zero,List.set_cons_succ,qbk,qbm]
   rfl
  refine qct (i:=1) (N:=some 9) (v:=?_) (a':=?_) #[true,true,false,false,false,false] rfl rfl (qck HT_.out (by kernel_rfl)) (fun _ _ _ h=>h) (Or.inl ⟨by rfl,?_⟩) ?_ ?_
  rotate_left
  ·intro w'
   go_simp
   with_reducible rfl
  rotate_left
  ·simp only [Act.put,List.setIfInBounds_toArray,List.set_cons_zero,List.set_cons_succ,qbk,qbm]
   rfl
  refine one_ (i:=2) (N:=some 10) #[true,true,true,false,false,false] rfl rfl (qdx HT_.out (by kernel_rfl)) (by decide) (fun K hK=>?_)
  refine qej Tryd.func69 (by kernel_rfl) rfl #[.int .i64 x.1] (by rfl) rfl rfl (by (try simp only [List.map_toArray,List.map_cons,List.map_nil]);rfl) ?_
  rw [HN.out]
  refine (Tryd.strconv_Itoa_small n hn100 Y0).mono ?_
  rintro e Y1 ⟨rfl,rfl⟩
  refine ⟨_,rfl,?_⟩
  refine hK.out _ _ (hSt _ hb0) (fun hHeld=>?_)
  clear hK K
  refine qdt (a':=?_) ?_ ?_
  rotate_left
  ·show Act.put _ (some 10) _=_
   simp only [Act.put,List.setIfInBounds_toArray,List.set_cons_zero,List.set_cons_succ,qbk,qbm]
   rfl
  refine one_ (i:=3) (N:=some 11) #[true,true,true,true,false,false] rfl rfl (qdx HT_.out (by kernel_rfl)) (by decide) (fun K hK=>?_)
  refine value_ (v:=.slice (some ⟨Y1.heap.size,0,none⟩) 1 1) (w1:=Y1.alloc (.cells #[.string ⟨(Lib.decDigits n).toArray⟩] 9)) (by rfl) rfl ?_ ?_
  ·go_simp
  have hb1:Below W.heap.size W (Y1.alloc (.cells #[.string ⟨(Lib.decDigits n).toArray⟩] 9)):=hb0.alloc hb0.size _
  refine hK.out _ _ (hSt _ hb1) (fun hHeld=>?_)
  clear hK K
  refine qdt (a':=?_) ?_ ?_
  rotate_left
  ·show Act.put _ (some 11) _=_
   simp only [Act.put,List.setIfInBounds_toArray,List.set_cons_zero,List.set_cons_succ,qbk,qbm]
   rfl
  refine one_ (i:=4) (N:=some 12) #[true,true,true,true,true,false] rfl rfl (qdx HT_.out (by kernel_rfl)) (by decide) (fun K hK=>?_)
  have hBw1:=hB.trans (hb0.mono hB.size)
  refine Kd.R_append_step Kd.string (w0:=w) w.heap.size (by rfl) (.tmp 8) (.tmp 11) 91 9 (.string ⟨#[]⟩) 16 rfl Tryd.underlying91 info9_ rfl (by decide) (by omega) (.slice A L.length c) L (⟨(Lib.decDigits n).toArray⟩:ByteArray) [.string ⟨(Lib.decDigits n).toArray⟩] (fun _=>True) (fun _=>False) rfl (by simp [Act.eval]) rfl (fun _ hk=>hk.elim) (fun _ _=>trivial) (Kd.R_below hR hb0) hBw1 hBw1.size (by omega) ?_
  intro v1 w1 ho1 ho1b hg1 hat1
  obtain ⟨A1,c1,rfl⟩:=Kd.R_slice ho1
  have hb91:=(hb0.block _ (qbn b91)).trans b91
  have h91:=(hg1.block _ (qbn hb91) hne).trans hb91
  have hcell1:w1.cell? ⟨w.heap.size+1,0,none⟩=some (.slice A L.length c):=qcu h91 0 rfl
  have hfro1:=qhq h91 0
  have hK1:KeepsOthers Y1 w1:=⟨hg1.size,fun q o hq ho=>(hg1.block q (Array.getElem?_eq_some_iff.1 hq).1 (fun e=>by
   obtain ⟨cells,hcl⟩:=Kd.R_typed (Kd.R_below hR hb0) q e.symm
   rw [hq] at hcl;cases hcl;cases ho)).trans hq⟩
  have hBb:Below w.heap.size Y1 w1:=(Below.refl _ Y1).grown hg1 hBw1.size (fun q e=>Kd.R_base hR q e)
  refine hK.out _ _ hcell1 (fun hHeld=>?_)
  clear hK K
  refine qdt (a':=?_) ?_ ?_
  rotate_left
  ·show Act.put _ (some 12) _=_
   simp only [Act.put,List.setIfInBounds_toArray,List.set_cons_zero,List.set_cons_succ,qbk,qbm]
   rfl
  refine last_ (i:=5) (N:=none) #[true,true,true,true,true,true] rfl rfl (qdx HT_.out (by kernel_rfl)) (by decide) (fun K hK=>?_)
  refine skip_ (w1:=w1.setCell ⟨w.heap.size+1,0,none⟩ (.slice A1 (L++[(⟨(Lib.decDigits n).toArray⟩:ByteArray)]).length c1)) (by rfl) rfl ?_ ?_
  ·go_simp
  refine hK.out _ _ ?_
  clear hK K
  refine qfq (qfd HT_.out (by kernel_rfl)) ?_
  have hnum:numS x.1=⟨(Lib.decDigits n).toArray⟩:=by rw [HN.out,numS,Int.toNat_natCast]
  have e1:(vals (pre++[x])).map numS=L++[(⟨(Lib.decDigits n).toArray⟩:ByteArray)]:=by rw [vals_snoc,List.map_append,hL,List.map_cons,List.map_nil,hnum]
  refine ⟨((qfs hb0).trans hK1).trans (KeepsOthers.setCell _ _ _),((hb0.mono hB.size).trans hBb).setCell (p:=⟨w.heap.size+1,0,none⟩) (show w.heap.size≤w.heap.size+1 by omega) _,⟨_,setOf (i:=0) h91 _,?_⟩,ho1b.setCell (p:=⟨w.heap.size+1,0,none⟩) (show w.heap.size≤w.heap.size+1 by omega) _⟩
  rw [e1]
  exact Kd.R_set ho1 h91 (by intro q hq;simp [Kd.string,Kd.scalar] at hq;subst hq;decide) 0 _
 case done=>
  rintro D ys W hD hS ⟨⟨v,b91,hR⟩,hB⟩ hK
  rw [show vals ys=els l0_0 from hS] at hR
  obtain ⟨A,c,rfl,hc,hC⟩:=Kd.R_reads hR
  have hll:((els l0_0).map numS).length=(els l0_0).length:=by simp
  obtain ⟨L,hL⟩:∃ L,(els l0_0).map numS=L:=⟨_,rfl⟩
  have HL:=qaa.mk hL
  rw [hL] at hR b91 hll hc hC HJ
  obtain ⟨ad,rfl,_⟩:=Kd.at_string hC 0 (by omega) (by omega)
  obtain ⟨g,rfl⟩:=Kd.R_head hR
  have hcells:∀ (j:Nat) x,L[j]?=some x→W.cell? ⟨g,0+j,none⟩=some (.string x):=fun j x hj=>by
   have hjl:=(List.getElem?_eq_some_iff.1 hj).1
   obtain ⟨ad',e,hx⟩:=Kd.at_string hC (j:Int) (by omega) (by omega)
   injection e with e
   subst e
   rw [Int.toNat_natCast] at hx
   have e3:rdOf ByteArray.empty L (j:Int)=x:=by simp [rdOf,List.getElem?_eq_some_iff.1 hj|>.2,hjl]
   rw [e3] at hx
   simpa [add_at] using hx
  have hg:=World.block_lt_of_cell? W _ (hcells 0 _ (List.getElem?_eq_getElem (by omega)))
  have c91:W.cell? ⟨w.heap.size+1,0,none⟩=some (.slice (some ⟨g,0,none⟩) L.length c):=qcu b91 0 rfl
  have HJn:=qaa.mk (Tryd.strings_Join g 0 c L ⟨#[32]⟩ W hcells hg (by omega) hc (by have:=HJ.out;simpa using Nat.le_trans this (by omega)))
  clear hL hC hcells hR hll
  gi_wp2
  refine ⟨trivial,?_⟩
  refine (callsIn_wide.2 HJn.out).mono ?_
  rintro e W3 ⟨rfl,hB3⟩
  have hK3:=(hB3.block D (Array.getElem?_eq_some_iff.1 hK).1).trans hK
  have hq1:¬ 9223372036854775807<1+(Lib.join (List.map (fun x=>x.data.toList) L) [32]).length:=by have:=HJ.out;omega
  have hq2:¬ 9223372036854775807<1+(Lib.join (List.map (fun x=>x.data.toList) L) [32]).length+1:=by have:=HJ.out;omega
  gi_wp2
  refine ⟨by simp,.inl ⟨_,_,rfl,run_takeDeferred hK3,?_⟩⟩
  refine ⟨_,results_tmp rfl _ _ _,?_,(hB.trans (hB3.mono hB.size)).trans (belowK_b (w:=w) (Nat.le_refl _) W3 D _ _ (by omega) hK3 rfl rfl)⟩
  simp only [strT,HL.out]
  rfl
 case stop=>
  rintro D c pre W _ _ h _
  exact h.elim
end Go.Proofs.YtmfjmbcfaamebaaDoor.X
