/- Parts of the proof of the law CFGDominatorChain: words, walks of single functions and plain laws, joined by a program out of the session's texts. -/
import Derived.Test.YtmfjmbcfaamebaaDoorCFGDominatorChain9
import Derived.Lib.Hide
import Derived.Shelf.SlicesE.IndexFunc
set_option linter.unusedVariables false
set_option linter.unusedSimpArgs false
namespace Go.Proofs.YtmfjmbcfaamebaaDoor.X
open Go.RowKit Go.Proofs.YtmfjmbcfaamebaaDoorW.PrintWords Go.Proofs.YtmfjmbcfaamebaaDoorW.PrintLast Go.Proofs.YtmfjmbcfaamebaaDoorW.PrintMore
attribute [local go_sem] qbv qcg
set_option linter.unusedVariables false
set_option linter.unusedSimpArgs false
def qar.l0:Nat→Int→List (S60)→Int→Int→Bool→Int→List (S60)→Option (Bool)
 | 0,_,_,_,_,_,_,_=>none
 | k+1,x3,x7,x8,x9,x383000,x383001,x383002=>if x9<x8 then (if 0≤x9 then (if x9<(x7.length:Int) then (qar.l0 k (wrap64 (x3+(((qbs x7 x9).f0).length:Int))) x7 x8 (wrap64 (x9+1)) x383000 x383001 x383002) else (none)) else (none)) else (if (x383002.length:Int)≤14 then (some (decide (x3≤80))) else (some false))
def qar.f (k:Nat) (a0_0:Bool) (a0_1:Int) (l0_2:List (S60)):Option (Bool):=qar.l0 k 0 l0_2 (l0_2.length:Int) 0 a0_0 a0_1 l0_2
theorem qar.mono_l:∀ k,(∀ y0 y1 y2 y3 y4 y5 y6,LeO (qar.l0 k y0 y1 y2 y3 y4 y5 y6) (qar.l0 (k+1) y0 y1 y2 y3 y4 y5 y6))
 | 0=>fun _ _ _ _ _ _ _ r h=>by simp [qar.l0] at h
 | k+1=>by
  have ih0:=qar.mono_l k
  ·intro y0 y1 y2 y3 y4 y5 y6
   unfold qar.l0
   repeat' first|(with_reducible exact ih0 _ _ _ _ _ _ _)|(with_reducible exact LeO.refl _)|(with_reducible refine LeO.ite ?_ ?_)
theorem qar.mono:∀ a0 a1 a2 k,LeO (qar.f k a0 a1 a2) (qar.f (k+1) a0 a1 a2):=by
 intro a0 a1 a2 k
 have ih0:=qar.mono_l k
 unfold qar.f
 repeat' (with_reducible exact ih0 _ _ _ _ _ _ _)
set_option maxHeartbeats 8000000 in
set_option maxRecDepth 100000 in
theorem qar.calls (k:Nat) (a0_0:Bool) (a0_1:Int) (A0_2:Option Addr) (c0_2:Nat) (l0_2:List (S60)) (r:Bool) (w:World) (hr0_2:Kd.C k60 w A0_2 l0_2.length l0_2) (hc0_2:l0_2.length≤c0_2) (h:qar.f k a0_0 a0_1 l0_2=some r) :
  Calls Tryd.prog 12 #[.agg #[.bool a0_0,.int .i64 a0_1,.slice A0_2 l0_2.length c0_2]] w fun e w'=>e=.returned (.bool r)∧Below w.heap.size w w':=by
 have hu24:=Tryd.underlying24
 have hu60:=Tryd.underlying60
 have HR0_2:=qaa.mk hr0_2
 have HC0_2:=qaa.mk hc0_2
 clear hr0_2 hc0_2
 have HB:=qaa.mk (Below.refl w.heap.size w)
 have H:(qar.l0 k 0 l0_2 (l0_2.length:Int) 0 a0_0 a0_1 l0_2)=some r:=h
 clear h
 have H':=qaa.mk H
 clear H
 go_enter Tryd.func12,Tryd.ntmps12
 go_wp2_with (((with_reducible refine qbr (N:=1) rfl ?_);refine qby ?hg (N:=1) ?hd (cs:=#[.bool a0_0,.int .i64 a0_1,.slice A0_2 l0_2.length c0_2]) (t:=24) ?hr ?_;(case hd=>rfl);(case hg=>rfl);(case hr=>(go_simp;done));intro gb382 hg w2 hbox hb;have BK382:=qaa.mk (hbox);have GW382:=qaa.mk ((by rw [hg];exact (qad HB.out):w.heap.size≤gb382));have GE382:=qaa.mk ((by rw [hg];exact (qad HB.out):w.heap.size≤gb382));replace HB:=qaa.mk (qak HB.out hb);clear hb hbox hg;have hcz3_0:w2.cell? ⟨gb382,0,none⟩=some (.bool a0_0):=(qae BK382.out 0).trans rfl;have hcz3_1:w2.cell? ⟨gb382,1,none⟩=some (.int .i64 a0_1):=(qae BK382.out 1).trans rfl;have hcz3_2:w2.cell? ⟨gb382,2,none⟩=some (.slice A0_2 l0_2.length c0_2):=(qae BK382.out 2).trans rfl;have hfz3_0:=qai BK382.out 0;have hfz3_1:=qai BK382.out 1;have hfz3_2:=qai BK382.out 2))
 go_loopg [3,9] k (fun kq v3 v9 w'=>∃ (x3_1:Int) (x9_1:Int),v3=.int .i64 x3_1∧v9=.int .i64 x9_1∧qaa (qar.l0 kq x3_1 l0_2 (l0_2.length:Int) x9_1 a0_0 a0_1 l0_2=some r)∧qaa (kq≤k)∧qaa (w'.heap[gb382]?=some (.cells #[.bool a0_0,.int .i64 a0_1,(.slice A0_2 l0_2.length c0_2)] 24 (0,0)))∧qaa (Below w.heap.size w w'))
 case atStart=>exact ⟨(0),(0),(by rfl),(by rfl),H',⟨Nat.le_refl _⟩,⟨by (with_reducible repeat (refine qac ?_));exact BK382.out⟩,⟨by repeat ((with_reducible exact HB.out))⟩⟩
 case round=>
  clear H'
  try clear hcz3_0
  try clear hcz3_1
  try clear hcz3_2
  try clear hfz3_0
  try clear hfz3_1
  try clear hfz3_2
  obtain ⟨x3_1,x9_1,rfl,rfl,HA,HK1,BK382,HB⟩:=hrel
  cases gk with
  | zero=>exact absurd HA.out (by simp [qar.l0])
  | succ k1=>
   have H:=HA.out
   clear HA
   simp only [qar.l0] at H
   by_cases c4:x9_1<(l0_2.length:Int)
   ·rw [if_pos c4] at H
    have c4b0:decide (x9_1<(l0_2.length:Int))=true:=decide_eq_true c4
    clear c4
    by_cases c5:0≤x9_1
    ·rw [if_pos c5] at H
     have c5b0:decide (0≤x9_1)=true:=decide_eq_true c5
     clear c5
     by_cases c6:x9_1<(l0_2.length:Int)
     ·rw [if_pos c6] at H
      have c6b0:decide (x9_1<(l0_2.length:Int))=true:=decide_eq_true c6
      clear c6
      have H':=qaa.mk H
      clear H
      have p383:0≤(x9_1:Int):=of_decide_eq_true (by (with_reducible assumption))
      have q383:x9_1<(l0_2.length:Int):=of_decide_eq_true (by (with_reducible assumption))
      obtain ⟨ad383,A383_0,c383_0,e383,hx383_0,hx383_1,hx383_2,hx383_3,hx383_4,hl383_0,hi383_0⟩:=at_T60 HR0_2.out x9_1 p383 q383
      cases e383
      replace hx383_0:=(HB.out.cell (World.block_lt_of_cell? w _ hx383_0)).trans hx383_0
      replace hx383_1:=(HB.out.cell (World.block_lt_of_cell? w _ hx383_1)).trans hx383_1
      replace hx383_2:=(HB.out.cell (World.block_lt_of_cell? w _ hx383_2)).trans hx383_2
      replace hx383_3:=(HB.out.cell (World.block_lt_of_cell? w _ hx383_3)).trans hx383_3
      replace hx383_4:=(HB.out.cell (World.block_lt_of_cell? w _ hx383_4)).trans hx383_4
      have HR383_0:=qaa.mk hi383_0
      have HC383_0:=qaa.mk hl383_0
      clear hi383_0 hl383_0
      replace p383:=eq_true p383
      replace q383:=eq_true q383
      go_wp2_with (((with_reducible refine qbr (N:=5) rfl ?_);refine qby ?hg (N:=5) ?hd (cs:=#[.slice none 0 0,.int .i64 0,.int .i64 0,.int .i64 0,.int .i64 0]) (t:=60) ?hr ?_;(case hd=>rfl);(case hg=>rfl);(case hr=>(go_simp;done));intro gb384 hg w7 hbox hb;have BK384:=qaa.mk (hbox);have GW384:=qaa.mk ((by rw [hg];exact (qad HB.out):w.heap.size≤gb384));have GE384:=qaa.mk ((by rw [hg];exact (qad HB.out):w.heap.size≤gb384));replace HB:=qaa.mk (qak HB.out hb);have NB382_384:=qaa.mk ((by rw [hg];exact Nat.ne_of_lt (qbo (g:=gb382) (o:=.cells #[.bool a0_0,.int .i64 a0_1,.slice (some ad383) l0_2.length c0_2] 24 (0,0)) (by (with_reducible repeat (refine qac ?_));exact BK382.out)):gb382≠gb384));have NB384_382:=qaa.mk ((by rw [hg];exact Nat.ne_of_gt (qbo (g:=gb382) (o:=.cells #[.bool a0_0,.int .i64 a0_1,.slice (some ad383) l0_2.length c0_2] 24 (0,0)) (by (with_reducible repeat (refine qac ?_));exact BK382.out)):gb384≠gb382));replace BK382:=qaa.mk (qaf (g:=gb382) (o:=.cells #[.bool a0_0,.int .i64 a0_1,.slice (some ad383) l0_2.length c0_2] 24 (0,0)) (by (with_reducible repeat (refine qac ?_));exact BK382.out) hb);clear hb hbox hg;have hnb8:=NB384_382.out;have hnc8:=NB382_384.out;have hcz9_0:w7.cell? ⟨gb384,0,none⟩=some (.slice none 0 0):=(qae BK384.out 0).trans rfl;have hcz9_1:w7.cell? ⟨gb384,1,none⟩=some (.int .i64 0):=(qae BK384.out 1).trans rfl;have hcz9_2:w7.cell? ⟨gb384,2,none⟩=some (.int .i64 0):=(qae BK384.out 2).trans rfl;have hcz9_3:w7.cell? ⟨gb384,3,none⟩=some (.int .i64 0):=(qae BK384.out 3).trans rfl;have hcz9_4:w7.cell? ⟨gb384,4,none⟩=some (.int .i64 0):=(qae BK384.out 4).trans rfl;have hfz9_0:=qai BK384.out 0;have hfz9_1:=qai BK384.out 1;have hfz9_2:=qai BK384.out 2;have hfz9_3:=qai BK384.out 3;have hfz9_4:=qai BK384.out 4))
      go_roundg k1
      case measure=>have:=HK1.out;omega
      case rel=>exact ⟨(wrap64 (x3_1+(((qbs l0_2 x9_1).f0).length:Int))),(wrap64 (x9_1+1)),(by rfl),(by rfl),H',⟨by have:=HK1.out;omega⟩,⟨by (with_reducible repeat (refine qac ?_));refine qdk ?_ NB382_384.out _;(with_reducible repeat (refine qac ?_));refine qdk ?_ NB382_384.out _;(with_reducible repeat (refine qac ?_));refine qdk ?_ NB382_384.out _;(with_reducible repeat (refine qac ?_));refine qdk ?_ NB382_384.out _;(with_reducible repeat (refine qac ?_));refine qdk ?_ NB382_384.out _;(with_reducible repeat (refine qac ?_));exact BK382.out⟩,⟨by repeat ((with_reducible first|exact HB.out|refine qce ?_ GE384.out))⟩⟩
     ·rw [if_neg c6] at H
      exact absurd H (by simp)
    ·rw [if_neg c5] at H
     exact absurd H (by simp)
   ·rw [if_neg c4] at H
    have c4b0:decide (x9_1<(l0_2.length:Int))=false:=decide_eq_false c4
    clear c4
    by_cases c10:(l0_2.length:Int)≤14
    ·rw [if_pos c10] at H
     have c10b0:decide ((l0_2.length:Int)≤14)=true:=decide_eq_true c10
     have c10b1:decide (l0_2.length≤14)=true:=decide_eq_true (by omega)
     clear c10
     obtain rfl:=Option.some.inj H
     have hcz11_0:wr.cell? ⟨gb382,0,none⟩=some (.bool a0_0):=(qae BK382.out 0).trans rfl
     have hcz11_1:wr.cell? ⟨gb382,1,none⟩=some (.int .i64 a0_1):=(qae BK382.out 1).trans rfl
     have hcz11_2:wr.cell? ⟨gb382,2,none⟩=some (.slice A0_2 l0_2.length c0_2):=(qae BK382.out 2).trans rfl
     have hfz11_0:=qai BK382.out 0
     have hfz11_1:=qai BK382.out 1
     have hfz11_2:=qai BK382.out 2
     go_wp2
     go_ret
     exact ⟨by rfl,by repeat ((with_reducible exact HB.out))⟩
    ·rw [if_neg c10] at H
     have c10b0:decide ((l0_2.length:Int)≤14)=false:=decide_eq_false c10
     have c10b1:decide (l0_2.length≤14)=false:=decide_eq_false (by omega)
     clear c10
     obtain rfl:=Option.some.inj H
     have hcz12_0:wr.cell? ⟨gb382,0,none⟩=some (.bool a0_0):=(qae BK382.out 0).trans rfl
     have hcz12_1:wr.cell? ⟨gb382,1,none⟩=some (.int .i64 a0_1):=(qae BK382.out 1).trans rfl
     have hcz12_2:wr.cell? ⟨gb382,2,none⟩=some (.slice A0_2 l0_2.length c0_2):=(qae BK382.out 2).trans rfl
     have hfz12_0:=qai BK382.out 0
     have hfz12_1:=qai BK382.out 1
     have hfz12_2:=qai BK382.out 2
     go_wp2
     go_ret
     exact ⟨by rfl,by repeat ((with_reducible exact HB.out))⟩
end Go.Proofs.YtmfjmbcfaamebaaDoor.X
namespace Go.Proofs.YtmfjmbcfaamebaaDoor.X
open Go.RowKit Go.Proofs.YtmfjmbcfaamebaaDoorW.PrintWords Go.Proofs.YtmfjmbcfaamebaaDoorW.PrintLast Go.Proofs.YtmfjmbcfaamebaaDoorW.PrintMore
open Go.Shelf
set_option maxRecDepth 100000 in
set_option maxHeartbeats 4000000 in
theorem qfd.plain (g:Nat) (lb:Array Value) (eg:∀ args w,(callFunc g args).run Tryd.prog w=.ok (.enter g args) w) (Bs n₀:Nat) (A:Option Addr) (c:Nat) (ws:List Int) (hok:setOk ws=true) (J Jx:List (Elt ws)→World→Prop) (W:World) (hn₀:n₀≤W.heap.size) (hT0:0<n₀) (hT:TabW W)
  (hY:∀ pre x W1,J pre W1→pre.length<(els ws).length→Calls Tryd.prog g (#[.int .i64 x.1]++lb) W1 fun e W'=>
   (e=.returned (.bool true)∧J (pre++[x]) W'∧Below n₀ W1 W')∨(e=.returned (.bool false)∧Jx (pre++[x]) W'))
  (hBs:W.cell? ⟨Bs,0,none⟩=some (.slice A ws.length c)) (hC:∀ W',Below n₀ W W'→Kd.C (Kd.int .u64) W' A ws.length ws) (h0:J [] W) :
  Calls Tryd.prog 76 #[.func (.func g) #[] lb,.pointer (some ⟨Bs,0,none⟩)] W fun e W'=>(∃ v,e=.returned v)∧
   ((∃ xs:List (Elt ws),xs.map (·.1)=els ws∧J xs W')∨(∃ pre:List (Elt ws),pre.map (·.1) <+: els ws∧Jx pre W')):=by
 have hlen:=setOk_len hok
 go_enter Tryd.func76,Tryd.ntmps76
 go_wp2
 go_loopw [8] (fun i wr=>∃ k:Nat,k≤ws.length∧i=.int .i64 k∧∃ pre:List (Elt ws),pre.map (·.1)++qeb k (ws.drop k)=els ws∧J pre wr∧Below n₀ W wr)
  (fun i _=>ws.length-(intOf i).toNat)
 case atStart=>exact ⟨0,Nat.zero_le _,rfl,[],by simp [els],h0,Below.refl _ _⟩
 case round=>
  obtain ⟨k,hk,rfl,pre0,hpre0,hJ0,hB0⟩:=hrel
  have HPre0:=qaa.mk hpre0
  clear hpre0
  by_cases hlt:k<ws.length
  ·obtain ⟨ad,e1,hx⟩:=Kd.at_int (hC wr hB0) (k:Int) (by omega) (by omega)
   cases e1
   rw [Int.toNat_natCast] at hx
   obtain ⟨v0,hv0⟩:∃ v0:Nat,rd ws k=(v0:Int):=⟨(rd ws k).toNat,by
    have:=qgj hok (x:=rd ws k) (by simp [rd,hlt]);omega⟩
   have hv0lt:v0<18446744073709551616:=by
    have:=qgj hok (x:=rd ws k) (by simp [rd,hlt]);omega
   have HV0:=qaa.mk hv0
   rw [hv0] at hx
   clear hv0
   obtain ⟨wo,rfl⟩:∃ wo:World,wo=wr:=⟨_,rfl⟩
   go_wp2
   go_loopw [4] (fun v wr2=>∃ x:Nat,x<18446744073709551616∧v=.int .u64 x∧∃ pre:List (Elt ws),qaa (pre.map (·.1)++((qgd x).map (fun j=>((k*64+j:Nat):Int))++qeb (k+1) (ws.drop (k+1)))=els ws)∧J pre wr2∧Below n₀ W wr2)
    (fun v _=>(intOf v).toNat)
   case atStart=>
    refine ⟨v0,hv0lt,rfl,pre0,⟨?_⟩,hJ0,hB0⟩
    refine Eq.trans ?_ HPre0.out
    rw [elsFrom_drop ws k k hlt,HV0.out,Int.toNat_natCast]
   case round=>
    obtain ⟨x,hxlt,rfl,pre,hpre,hJ,hB⟩:=hrel
    by_cases hx0:x=0
    ·subst hx0
     go_wp2
     go_roundw
     case rel=>
      refine ⟨k+1,by omega,by go_num,pre,?_,hJ,hB⟩
      have:=hpre.out
      simpa [bitsW_zero] using this
     case measure=>simp [intOf];omega
    ·have hst:=bitsW_step hx0 (by omega)
     obtain ⟨cz,hcz⟩:∃ cz,Lib.ctz 64 x=cz:=⟨_,rfl⟩
     have hczl:cz<64:=by rw [← hcz];exact (Lib.lowest_bit 64 x hx0 (by omega)).2
     have hmem:((k*64+cz:Nat):Int)∈els ws:=by rw [← hpre.out,hst,hcz];simp
     have hpl:pre.length<(els ws).length:=by rw [← hpre.out,hst];simp
     obtain ⟨y,hy⟩:∃ y:Elt ws,y.1=(k:Int)*64+(cz:Int):=⟨⟨_,hmem⟩,by simp⟩
     have hR:=hY pre y _ hJ hpl
     rw [hy] at hR
     have HY:=qaa.mk hy
     clear hy
     have HRR:=Lib.hid hR
     clear hR
     have hxn:((x:Int)!=0)=true:=by simp;omega
     have hxe:((x:Int)==0)=false:=by simp;omega
     have hTz:=qdq.calls x (by omega) hx0 _ (TabW.below0 hT hT0 hB)
     rw [hcz] at hTz
     have HTz:=Lib.hid hTz
     clear hTz
     have HSt:=qaa.mk hst
     have HCz:=qaa.mk hcz
     clear hst hcz
     have hand:Go.bits .and .u64 (x:Int) ((x:Int)-1)=((x &&& (x-1):Nat):Int):=by
      rw [show (x:Int)-1=((x-1:Nat):Int) by omega]
      exact bits_and_u64_nat x (x-1) (by omega) (by omega)
     have HAnd:=Lib.hid hand
     clear hand
     have hdec:x &&& (x-1)<x:=Nat.lt_of_le_of_lt Nat.and_le_right (by omega)
     go_wp2_with (first|(go_at_call 77;refine HTz.out.mono ?_;rintro e w' ⟨rfl,rfl⟩)|(go_at_fn g;refine HRR.out.mono ?_))
     rintro e W3 (⟨rfl,hJ3,hk3⟩|⟨rfl,hJx3⟩)
     ·go_wp2
      go_roundw
      case rel=>exact ⟨x &&& (x-1),by omega,by rw [HAnd.out],pre++[y],⟨by refine Eq.trans ?_ hpre.out;rw [HSt.out,HCz.out];simp [HY.out]⟩,hJ3,hB.trans hk3⟩
      case measure=>simp only [intOf];simp;rw [HAnd.out];omega
     ·go_wp2
      refine bodyPost_ret (results_none rfl _ _ _) rfl ?_
      exact ⟨⟨_,rfl⟩,.inr ⟨pre++[y],⟨(qgd (x &&& (x-1))).map (fun j=>((k*64+j:Nat):Int))++qeb (k+1) (ws.drop (k+1)),by refine Eq.trans ?_ hpre.out;rw [HSt.out,HCz.out];simp [HY.out]⟩,hJx3⟩⟩
  ·obtain rfl:k=ws.length:=by omega
   go_wp2
   go_end0
   refine ⟨⟨_,rfl⟩,.inl ⟨pre0,?_,hJ0⟩⟩
   have:=HPre0.out
   simpa [qeb] using this
end Go.Proofs.YtmfjmbcfaamebaaDoor.X
namespace Go.Proofs.YtmfjmbcfaamebaaDoor.X
open Go.RowKit Go.Proofs.YtmfjmbcfaamebaaDoorW.PrintWords Go.Proofs.YtmfjmbcfaamebaaDoorW.PrintLast Go.Proofs.YtmfjmbcfaamebaaDoorW.PrintMore
attribute [local go_sem] qbv qcg
set_option linter.unusedVariables false
set_option linter.unusedSimpArgs false
open Go.Shelf
def qcs.f (l0_0:List Int):Option (List Int):=if setOk l0_0=true∧(els l0_0).length<100000 then some (els l0_0) else none
theorem qcs.one (B base:Nat) (v:Value) (xs:List Int) (x:Int) (W:World) (hb:W.heap[B]?=some (.cells #[v] 31 (0,0))) (hR:Kd.R (Kd.int .i64) 3 W base (fun _=>True) v xs) (hB:base≤B) (hl:xs.length<100000) :
  Calls Tryd.prog 56 (#[.int .i64 x]++#[.pointer (some ⟨B,0,none⟩)]) W fun e W'=>e=.returned (.bool (decide (((xs.length+1:Nat):Int)<100000)))∧∃ v',W'.heap[B]?=some (.cells #[v'] 31 (0,0))∧Kd.R (Kd.int .i64) 3 W' base (fun _=>True) v' (xs++[x])∧Below base W W':=by
 have hlt:=qbo hb
 have hne:some B≠v.ownBlock:=Kd.R_ne hR hb (by decide)
 obtain ⟨A,c,rfl,hc,_⟩:=Kd.R_reads hR
 have hcell:W.cell? ⟨B,0,none⟩=some (.slice A xs.length c):=qdb hb 0 rfl
 show Calls Tryd.prog 56 #[.int .i64 x,.pointer (some ⟨B,0,none⟩)] W _
 go_enter Tryd.func56,Tryd.ntmps56
 go_wp2_with (at_builtin;refine Kd.R_append (Kd.int .i64) (w0:=W) base rfl (.tmp 4) (.tmp 6) 31 3 (.int .i64 0) 8 rfl Tryd.underlying31 info3 rfl (by decide) (by omega) (.slice A xs.length c) xs x [.int .i64 x] (fun _=>True) (fun _=>False) rfl (by simp [Act.eval]) rfl (fun _ hk=>hk.elim) (fun _ _=>trivial) hR (Below.refl _ _) (by omega) (by omega) ?_;intro v1 w1 ho1 hb1 hg hat;obtain ⟨A1,c1,rfl,hc1,_⟩:=Kd.R_reads ho1;have hb':=(hg.block B hlt hne).trans hb;have hcell1:=qdb hb' 0 rfl;have hfro1:=qhu hb' 0;have HR1:=qaa.mk (Kd.R_set ho1 hb' (by intro q hq;simp [Kd.int,Kd.scalar] at hq;subst hq;decide) 0 (.slice A1 (xs++[x]).length c1));have HB1:=qaa.mk hb1;have HS:=qaa.mk (setOf (i:=0) hb' (.slice A1 (xs++[x]).length c1));clear ho1 hb1 hg hat)
 go_ret
 have e1:(xs++[x]).length=xs.length+1:=by simp
 rw [e1] at HR1 HS
 exact ⟨by simp,_,HS.out,HR1.out,HB1.out.setCell (p:=⟨B,0,none⟩) hB _⟩
theorem qcs.calls (A0_0:Option Addr) (c0_0:Nat) (l0_0:List Int) (r:List Int) (w:World) (hT:TabW w) (hr0_0:Kd.C (Kd.int .u64) w A0_0 l0_0.length l0_0) (hc0_0:l0_0.length≤c0_0) (h:qcs.f l0_0=some r) :
  Calls Tryd.prog 23 #[.agg #[.slice A0_0 l0_0.length c0_0]] w fun e w'=>∃ v0_:Value,e=.returned v0_∧Kd.R (Kd.int .i64) 3 w' w.heap.size (fun _=>True) v0_ r∧Below w.heap.size w w':=by
 unfold qcs.f at h
 by_cases hs:setOk l0_0=true∧(els l0_0).length<100000
 case neg=>rw [if_neg hs] at h;cases h
 rw [if_pos hs] at h
 obtain rfl:=Option.some.inj h
 clear h
 have HR:=qaa.mk hr0_0
 have HT:=qaa.mk hT
 clear hr0_0 hT
 go_enter Tryd.func23,Tryd.ntmps23
 go_wp2_with (go_at_call 52;refine (qde.calls_in _ _).mono ?_;rintro e W2 ⟨rfl,hW2⟩)
 rw [← hW2]
 have hB2:Below w.heap.size w W2:=by rw [hW2];exact (((Below.refl _ w).alloc (Nat.le_refl _) _).alloc (by simp) _).alloc (by simp;omega) _
 have b31:W2.heap[w.heap.size+1]?=some (.cells #[Value.slice none 0 0] 31 (0,0)):=by
  rw [hW2]
  have:=World.alloc_heap_new (w.alloc (Obj.cells #[Value.slice A0_0 l0_0.length c0_0] 38)) (Obj.cells #[Value.slice none 0 0] 31)
  rw [World.size_alloc] at this
  exact qdd this _
 have b38:W2.heap[w.heap.size+1+1]?=some (.cells #[Value.slice A0_0 l0_0.length c0_0] 38 (0,0)):=by
  rw [hW2]
  have:=World.alloc_heap_new ((w.alloc (Obj.cells #[Value.slice A0_0 l0_0.length c0_0] 38)).alloc (Obj.cells #[Value.slice none 0 0] 31)) (Obj.cells #[Value.slice A0_0 l0_0.length c0_0] 38)
  rw [World.size_alloc,World.size_alloc] at this
  exact this
 have hpl:=qfd.plain 56 #[.pointer (some ⟨w.heap.size+1,0,none⟩)] (enters_of Tryd.func56 (by kernel_rfl) rfl) (w.heap.size+1+1) w.heap.size A0_0 c0_0 l0_0 hs.1
  (fun pre W=>(∃ v,W.heap[w.heap.size+1]?=some (.cells #[v] 31 (0,0))∧Kd.R (Kd.int .i64) 3 W w.heap.size (fun _=>True) v (pre.map (·.1)))∧Below w.heap.size w W) (fun _ _=>False) W2 hB2.size HT.out.2.1 (HT.out.below' hB2)
  (fun pre x W1 hJ hlt=>by
   obtain ⟨⟨v,hb,hR⟩,hB⟩:=hJ
   refine (qcs.one (w.heap.size+1) w.heap.size v (pre.map (·.1)) x.1 W1 hb hR (by omega) (by simp;omega)).mono ?_
   rintro e W' ⟨rfl,v',hb',hR',hB'⟩
   refine .inl ⟨by rw [decide_eq_true (by simp;omega)],⟨⟨v',hb',by rw [List.map_append];exact hR'⟩,hB.trans hB'⟩,hB'⟩)
  (qdb b38 0 rfl) (fun W' h=>Kd.C_below HR.out (hB2.trans h)) ⟨⟨_,b31,Kd.R_nil _ _ _ _ _⟩,hB2⟩
 clear hW2 b31 b38 hB2
 refine hpl.mono ?_
 clear hpl
 rintro e W3 ⟨⟨v,rfl⟩,⟨xs,hxs,⟨v3,hb3,hR3⟩,hB3⟩|⟨_,_,hf⟩⟩
 case inr=>exact hf.elim
 rw [hxs] at hR3
 have c3:W3.cell? ⟨w.heap.size+1,0,none⟩=some v3:=qdb hb3 0 rfl
 obtain ⟨A3,c3',rfl⟩:=Kd.R_slice hR3
 go_wp2
 go_ret
 exact ⟨_,rfl,hR3,hB3⟩
end Go.Proofs.YtmfjmbcfaamebaaDoor.X
namespace Go.Proofs.YtmfjmbcfaamebaaDoor.X
open Go.RowKit Go.Proofs.YtmfjmbcfaamebaaDoorW.PrintWords Go.Proofs.YtmfjmbcfaamebaaDoorW.PrintLast Go.Proofs.YtmfjmbcfaamebaaDoorW.PrintMore
attribute [local go_sem] qbv qcg
set_option linter.unusedVariables false
set_option linter.unusedSimpArgs false
def qaq.l0:Nat→List Int→List Int→Int→Int→Option (Bool)
 | 0,_,_,_,_=>none
 | k+1,x0,x1,x12,x13=>if x13<x12 then (if 0≤x13 then (if x13<(x0.length:Int) then (if x13<(x1.length:Int) then (if (rd x0 x13)=(rd x1 x13) then (qaq.l0 k x0 x1 x12 (wrap64 (x13+1))) else (some false)) else (none)) else (none)) else (none)) else (some true)
def qaq.f (k:Nat) (l0:List Int) (l1:List Int):Option (Bool):=if (l0.length:Int)=(l1.length:Int) then (qaq.l0 k l0 l1 (l0.length:Int) 0) else (some false)
theorem qaq.mono_l:∀ k,(∀ y0 y1 y2 y3,LeO (qaq.l0 k y0 y1 y2 y3) (qaq.l0 (k+1) y0 y1 y2 y3))
 | 0=>fun _ _ _ _ r h=>by simp [qaq.l0] at h
 | k+1=>by
  have ih0:=qaq.mono_l k
  ·intro y0 y1 y2 y3
   unfold qaq.l0
   repeat' first|(with_reducible exact ih0 _ _ _ _)|(with_reducible exact LeO.refl _)|(with_reducible refine LeO.ite ?_ ?_)
theorem qaq.mono:∀ a0 a1 k,LeO (qaq.f k a0 a1) (qaq.f (k+1) a0 a1):=by
 intro a0 a1 k
 have ih0:=qaq.mono_l k
 unfold qaq.f
 repeat' first|(with_reducible exact ih0 _ _ _ _)|(with_reducible exact LeO.refl _)|(with_reducible refine LeO.ite ?_ ?_)
set_option maxHeartbeats 8000000 in
set_option maxRecDepth 100000 in
theorem qaq.calls (k:Nat) (A0:Option Addr) (c0:Nat) (l0:List Int) (A1:Option Addr) (c1:Nat) (l1:List Int) (r:Bool) (w:World) (hr0:Kd.C (Kd.int .u64) w A0 l0.length l0) (hc0:l0.length≤c0) (hr1:Kd.C (Kd.int .u64) w A1 l1.length l1) (hc1:l1.length≤c1) (h:qaq.f k l0 l1=some r) :
  Calls Tryd.prog 63 #[.slice A0 l0.length c0,.slice A1 l1.length c1] w fun e w'=>e=.returned (.bool r)∧qds w w':=by
 have HR0:=qaa.mk hr0
 have HC0:=qaa.mk hc0
 clear hr0 hc0
 have HR1:=qaa.mk hr1
 have HC1:=qaa.mk hc1
 clear hr1 hc1
 have H:(if (l0.length:Int)=(l1.length:Int) then (qaq.l0 k l0 l1 (l0.length:Int) 0) else (some false))=some r:=h
 clear h
 by_cases c3:(l0.length:Int)=(l1.length:Int)
 ·rw [if_pos c3] at H
  have c3b0:((l0.length:Int)==(l1.length:Int))=true:=beq_iff_eq.mpr c3
  have c3b1:((l0.length:Int)!=(l1.length:Int))=false:=bne_eq_false_iff_eq.mpr c3
  have c3b2:(l0.length==l1.length)=true:=by (simp at c3 ⊢;omega)
  clear c3
  have H':=qaa.mk H
  clear H
  go_enter Tryd.func63,Tryd.ntmps63
  go_wp2
  repeat (go_quiet (fail))
  go_loopg [13] k (fun kq v13 w'=>∃ (x13_1:Int),v13=.int .i64 x13_1∧qaa (qaq.l0 kq l0 l1 (l0.length:Int) x13_1=some r)∧qaa (kq≤k)∧qds w w')
  case atStart=>exact ⟨(0),(by rfl),H',⟨Nat.le_refl _⟩,by repeat (exact qds.refl _)⟩
  case round=>
   clear H'
   try clear c3b0
   try clear c3b1
   try clear c3b2
   obtain ⟨x13_1,rfl,HA,HK1,⟨m1,rfl⟩⟩:=hrel
   cases gk with
   | zero=>exact absurd HA.out (by simp [qaq.l0])
   | succ k1=>
    have H:=HA.out
    clear HA
    simp only [qaq.l0] at H
    by_cases c4:x13_1<(l0.length:Int)
    ·rw [if_pos c4] at H
     have c4b0:decide (x13_1<(l0.length:Int))=true:=decide_eq_true c4
     clear c4
     by_cases c5:0≤x13_1
     ·rw [if_pos c5] at H
      have c5b0:decide (0≤x13_1)=true:=decide_eq_true c5
      clear c5
      by_cases c6:x13_1<(l0.length:Int)
      ·rw [if_pos c6] at H
       have c6b0:decide (x13_1<(l0.length:Int))=true:=decide_eq_true c6
       clear c6
       by_cases c7:x13_1<(l1.length:Int)
       ·rw [if_pos c7] at H
        have c7b0:decide (x13_1<(l1.length:Int))=true:=decide_eq_true c7
        clear c7
        by_cases c8:(rd l0 x13_1)=(rd l1 x13_1)
        ·rw [if_pos c8] at H
         have c8b0:((rd l0 x13_1)==(rd l1 x13_1))=true:=beq_iff_eq.mpr c8
         have c8b1:((rd l0 x13_1)!=(rd l1 x13_1))=false:=bne_eq_false_iff_eq.mpr c8
         clear c8
         have H':=qaa.mk H
         clear H
         have p602:0≤(x13_1:Int):=of_decide_eq_true (by (with_reducible assumption))
         have q602:x13_1<(l0.length:Int):=of_decide_eq_true (by (with_reducible assumption))
         obtain ⟨ad602,e602,hx602_0⟩:=Kd.at_int HR0.out x13_1 p602 q602
         cases e602
         replace p602:=eq_true p602
         replace q602:=eq_true q602
         have p603:0≤(x13_1:Int):=of_decide_eq_true (by (with_reducible assumption))
         have q603:x13_1<(l1.length:Int):=of_decide_eq_true (by (with_reducible assumption))
         obtain ⟨ad603,e603,hx603_0⟩:=Kd.at_int HR1.out x13_1 p603 q603
         cases e603
         replace p603:=eq_true p603
         replace q603:=eq_true q603
         go_wp2
         repeat (go_quiet (fail);try go_wp2)
         go_roundg k1
         case measure=>have:=HK1.out;omega
         case rel=>exact ⟨(wrap64 (x13_1+1)),(by rfl),H',⟨by have:=HK1.out;omega⟩,by repeat (first|exact qds.refl _|apply qds.step)⟩
        ·rw [if_neg c8] at H
         have c8b0:((rd l0 x13_1)==(rd l1 x13_1))=false:=beq_eq_false_iff_ne.mpr c8
         have c8b1:((rd l0 x13_1)!=(rd l1 x13_1))=true:=bne_iff_ne.mpr c8
         obtain rfl:=Option.some.inj H
         have p602:0≤(x13_1:Int):=of_decide_eq_true (by (with_reducible assumption))
         have q602:x13_1<(l0.length:Int):=of_decide_eq_true (by (with_reducible assumption))
         obtain ⟨ad602,e602,hx602_0⟩:=Kd.at_int HR0.out x13_1 p602 q602
         cases e602
         replace p602:=eq_true p602
         replace q602:=eq_true q602
         have p603:0≤(x13_1:Int):=of_decide_eq_true (by (with_reducible assumption))
         have q603:x13_1<(l1.length:Int):=of_decide_eq_true (by (with_reducible assumption))
         obtain ⟨ad603,e603,hx603_0⟩:=Kd.at_int HR1.out x13_1 p603 q603
         cases e603
         replace p603:=eq_true p603
         replace q603:=eq_true q603
         go_wp2
         repeat (go_quiet (fail);try go_wp2)
         go_ret
         exact ⟨by rfl,by repeat (first|exact qds.refl _|apply qds.step)⟩
       ·rw [if_neg c7] at H
        exact absurd H (by simp)
      ·rw [if_neg c6] at H
       exact absurd H (by simp)
     ·rw [if_neg c5] at H
      exact absurd H (by simp)
    ·rw [if_neg c4] at H
     have c4b0:decide (x13_1<(l0.length:Int))=false:=decide_eq_false c4
     clear c4
     obtain rfl:=Option.some.inj H
     go_wp2
     repeat (go_quiet (fail))
     go_ret
     exact ⟨by rfl,by repeat (first|exact qds.refl _|apply qds.step)⟩
 ·rw [if_neg c3] at H
  have c3b0:((l0.length:Int)==(l1.length:Int))=false:=beq_eq_false_iff_ne.mpr c3
  have c3b1:((l0.length:Int)!=(l1.length:Int))=true:=bne_iff_ne.mpr c3
  have c3b2:(l0.length==l1.length)=false:=by (simp at c3 ⊢;omega)
  obtain rfl:=Option.some.inj H
  go_enter Tryd.func63,Tryd.ntmps63
  go_wp2
  repeat (go_quiet (fail))
  go_ret
  exact ⟨by rfl,by repeat (exact qds.refl _)⟩
end Go.Proofs.YtmfjmbcfaamebaaDoor.X
namespace Go.Proofs.YtmfjmbcfaamebaaDoor.X
open Go.RowKit Go.Proofs.YtmfjmbcfaamebaaDoorW.PrintWords Go.Proofs.YtmfjmbcfaamebaaDoorW.PrintLast Go.Proofs.YtmfjmbcfaamebaaDoorW.PrintMore
attribute [local go_sem] qbv qcg
set_option linter.unusedVariables false
set_option linter.unusedSimpArgs false
def qda.f (k:Nat) (l0_0:List Int) (l1_0:List Int):Option (Bool):=(qaq.f k l0_0 l1_0).bind fun t606=>(some t606)
theorem qda.mono:∀ a0 a1 k,LeO (qda.f k a0 a1) (qda.f (k+1) a0 a1):=by
 intro a0 a1 k
 unfold qda.f
 repeat' first|(with_reducible exact qaq.mono _ _ _)|(with_reducible exact LeO.refl _)|(with_reducible refine LeO.bind ?_ (fun _=>?_))
set_option maxHeartbeats 8000000 in
set_option maxRecDepth 100000 in
theorem qda.calls (k:Nat) (A0_0:Option Addr) (c0_0:Nat) (l0_0:List Int) (A1_0:Option Addr) (c1_0:Nat) (l1_0:List Int) (r:Bool) (w:World) (hr0_0:Kd.C (Kd.int .u64) w A0_0 l0_0.length l0_0) (hc0_0:l0_0.length≤c0_0) (hr1_0:Kd.C (Kd.int .u64) w A1_0 l1_0.length l1_0) (hc1_0:l1_0.length≤c1_0) (h:qda.f k l0_0 l1_0=some r) :
  Calls Tryd.prog 36 #[.agg #[.slice A0_0 l0_0.length c0_0],.agg #[.slice A1_0 l1_0.length c1_0]] w fun e w'=>e=.returned (.bool r)∧Below w.heap.size w w':=by
 have hu38:=Tryd.underlying38
 have HR0_0:=qaa.mk hr0_0
 have HC0_0:=qaa.mk hc0_0
 clear hr0_0 hc0_0
 have HR1_0:=qaa.mk hr1_0
 have HC1_0:=qaa.mk hc1_0
 clear hr1_0 hc1_0
 have HB:=qaa.mk (Below.refl w.heap.size w)
 have H:((qaq.f k l0_0 l1_0).bind fun t606=>(some t606))=some r:=h
 clear h
 replace H:=Option.bind_eq_some_iff.mp H
 obtain ⟨t606,A30,H⟩:=H
 replace H:(some t606)=some r:=H
 have A3:=qaa.mk A30
 clear A30
 obtain rfl:=Option.some.inj H
 go_enter Tryd.func36,Tryd.ntmps36
 go_wp2_with (first|((with_reducible refine qbr (N:=2) rfl ?_);refine qby ?hg (N:=2) ?hd (cs:=#[.slice A0_0 l0_0.length c0_0]) (t:=38) ?hr ?_;(case hd=>rfl);(case hg=>rfl);(case hr=>(go_simp;done));intro gb604 hg w4 hbox hb;have BK604:=qaa.mk (hbox);have GW604:=qaa.mk ((by rw [hg];exact (qad HB.out):w.heap.size≤gb604));have GE604:=qaa.mk ((by rw [hg];exact (qad HB.out):w.heap.size≤gb604));replace HB:=qaa.mk (qak HB.out hb);clear hb hbox hg)|((with_reducible refine qbr (N:=3) rfl ?_);refine qby ?hg (N:=3) ?hd (cs:=#[.slice A1_0 l1_0.length c1_0]) (t:=38) ?hr ?_;(case hd=>rfl);(case hg=>rfl);(case hr=>(go_simp;done));intro gb605 hg w5 hbox hb;have BK605:=qaa.mk (hbox);have GW605:=qaa.mk ((by rw [hg];exact (qad HB.out):w.heap.size≤gb605));have GE605:=qaa.mk ((by rw [hg];exact (qad HB.out):w.heap.size≤gb605));replace HB:=qaa.mk (qak HB.out hb);have NB604_605:=qaa.mk ((by rw [hg];exact Nat.ne_of_lt (qbo (g:=gb604) (o:=.cells #[.slice A0_0 l0_0.length c0_0] 38 (0,0)) (by (with_reducible repeat (refine qac ?_));exact BK604.out)):gb604≠gb605));have NB605_604:=qaa.mk ((by rw [hg];exact Nat.ne_of_gt (qbo (g:=gb604) (o:=.cells #[.slice A0_0 l0_0.length c0_0] 38 (0,0)) (by (with_reducible repeat (refine qac ?_));exact BK604.out)):gb605≠gb604));replace BK604:=qaa.mk (qaf (g:=gb604) (o:=.cells #[.slice A0_0 l0_0.length c0_0] 38 (0,0)) (by (with_reducible repeat (refine qac ?_));exact BK604.out) hb);clear hb hbox hg;have hnb6:=NB604_605.out;have hnc6:=NB605_604.out;have hcz7_0:w5.cell? ⟨gb604,0,none⟩=some (.slice A0_0 l0_0.length c0_0):=(qae BK604.out 0).trans rfl;have hfz7_0:=qai BK604.out 0;have hcz8_0:w5.cell? ⟨gb605,0,none⟩=some (.slice A1_0 l1_0.length c1_0):=(qae BK605.out 0).trans rfl;have hfz8_0:=qai BK605.out 0)|((with_reducible refine qbp (f:=63) rfl ?_);refine qdj (some 9) rfl rfl Tryd.func63 (by kernel_rfl) rfl #[.slice A0_0 l0_0.length c0_0,.slice A1_0 l1_0.length c1_0] rfl (by (try simp only [List.map_toArray,List.map_cons,List.map_nil]);rfl) ?_;(with_reducible refine (qaq.calls k _ _ l0_0 _ _ l1_0 t606 _ ?side1 ?side2 ?side3 ?side4 A3.out).mono ?_);(case side1=>repeat (exact (Kd.C_below HR0_0.out HB.out)));(case side2=>exact HC0_0.out);(case side3=>repeat (exact (Kd.C_below HR1_0.out HB.out)));(case side4=>exact HC1_0.out);rintro e w' ⟨rfl,⟨nd,rfl⟩⟩;refine ⟨_,rfl,?_⟩))
 go_ret
 exact ⟨by rfl,by repeat ((with_reducible first|exact HB.out|apply qbu))⟩
end Go.Proofs.YtmfjmbcfaamebaaDoor.X
