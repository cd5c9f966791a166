/- What BoundBoxes calls, part 16. -/
import Derived.Test.YtnmmncccpdffaaaGreatQ14
import Derived.Test.YtnmmncccpdffaaaGreatQ15
set_option linter.unusedVariables false
set_option linter.unusedSimpArgs false
set_option maxRecDepth 100000
set_option maxHeartbeats 16000000
namespace Go.Proofs.YtnmmncccpdffaaaGreat
open Go.Proofs.Tryz Go Go.RowKit Go.Shelf
def Zcd (P : Rat → Rat → Prop) (w : World) (e : Ending) (w' : World) : Prop := ∃ lo hi, P lo hi ∧ Z50 w lo hi e w'
def Zdd (k : Int) (u v : Rat) (lo hi : Rat) : Prop := lo ≤ hi ∧ hi - lo ≤ Z02 (-k) ∧ (lo ≤ v ∧ u ≤ hi) ∧ qm lo ≤ 1000 ∧ qm hi ≤ 1000
theorem Zcp : Za8 44 1 15 := ⟨by decide +kernel, by decide +kernel, by decide +kernel, by decide +kernel, by decide +kernel, by decide +kernel, by decide +kernel, by decide +kernel, by decide +kernel, by decide +kernel⟩
theorem ZbA (q : QC) (w : World) (hq : q.At w ((1 : Int) : Rat)) : Ca 25 #[.agg (zA3 q), .int .i64 20] w (Zcd (Zdd 20 (Rat.divInt 27182818 10000000) (Rat.divInt 27182819 10000000)) w) := by
 rw [Zb7] at hq
 have := ZbF q 1 20 15 w hq (by decide) (by decide) (by decide +kernel) Zcp (by decide +kernel) (by decide +kernel) (by decide +kernel)
 exact this.mono (fun e w' h => ⟨_, _, ⟨by decide +kernel, by decide +kernel, ⟨by decide +kernel, by decide +kernel⟩, by decide +kernel, by decide +kernel⟩, h⟩)
theorem Zco : Z8M (ZI 44 2) (lgY 2) 0 := ⟨by decide +kernel, by decide +kernel, by decide +kernel, by decide +kernel, by decide +kernel, by decide +kernel, by decide +kernel, by decide +kernel, by decide +kernel, by decide +kernel⟩
theorem Zcn : Z8M (ZI 44 2) 2 19 := ⟨by decide +kernel, by decide +kernel, by decide +kernel, by decide +kernel, by decide +kernel, by decide +kernel, by decide +kernel, by decide +kernel, by decide +kernel, by decide +kernel⟩
theorem Zbq : Z52 44 2 0 19 := ⟨by decide +kernel, by decide +kernel, by decide +kernel, by decide +kernel, Zco, fun _ => Zcn, by decide +kernel⟩
theorem Zbz (q : QC) (w : World) (hq : q.At w ((2 : Int) : Rat)) : Ca 33 #[.agg (zA3 q), .int .i64 20] w (Zcd (Zdd 20 (Rat.divInt 69314718 100000000) (Rat.divInt 69314719 100000000)) w) := by
 rw [show ((2 : Int) : Rat) = 2 from by decide +kernel] at hq
 have := ZbD q 2 20 0 19 w hq (by decide) (by decide) Zbq (by decide +kernel) (by decide +kernel)
 exact this.mono (fun e w' h => ⟨_, _, ⟨by decide +kernel, by decide +kernel, ⟨by decide +kernel, by decide +kernel⟩, by decide +kernel, by decide +kernel⟩, h⟩)
theorem ZcJ : ((3 : Int) : Rat) = 3 := by decide +kernel
theorem QC.of3 {q : QC} {w : World} (h : q.At w ((3 : Int) : Rat)) : q.At w 3 := by rw [ZcJ] at h; exact h
def Ze (_ : Nat) : Prop := True
theorem CK.take1 {w : World} {g : Nat} {a : Value} {l : List Value} (h : CK w g (a :: l)) : CK w g [a] := fun i v hv => by
 match i with
 | 0 => exact h 0 v hv
 | i + 1 => simp at hv
def Z45 : Code → List (Nat × Array Oper)
 | .region id ops _ => [(id, ops)]
 | .seq a b => Z45 a ++ Z45 b
 | .cond _ a b => Z45 a ++ Z45 b
 | .block _ b => Z45 b
 | .loop b => Z45 b
 | .scope b => Z45 b
 | .rangeFunc _ _ a b => Z45 a ++ Z45 b
 | _ => []
def Z4H (k : Nat) : List (Nat × Array Oper) → Array Oper
 | [] => #[]
 | (i, o) :: l => bif i == k then o else Z4H k l
def Z2N (f : Func) (k : Nat) : Array Oper := Z4H k (match f.body with | some c => Z45 c | none => [])
theorem Zbk (w V2 : World) (wA2 : World) (swA1 : Bool) (AwA1 : Option Addr) (nwA1 cwA1 : Nat) (twA1 : Bool) (BwA1 : Option Addr) (mwA1 dwA1 : Nat) (swA2 : Bool) (AwA2 : Option Addr) (nwA2 cwA2 : Nat) (twA2 : Bool) (BwA2 : Option Addr) (mwA2 dwA2 : Nat) (U : Nat → Value) (hW : Ext w V2) (Ra : BK V2 (wA2.heap.size) #[.bool swA1, .slice AwA1 nwA1 cwA1, .bool twA1, .slice BwA1 mwA1 dwA1, .bool swA2, .slice AwA2 nwA2 cwA2, .bool twA2, .slice BwA2 mwA2 dwA2]) (ha0 : (⟨swA1, AwA1, nwA1, cwA1, twA1, BwA1, mwA1, dwA1⟩ : QC).At V2 ((-1 : Int) : Rat)) (ha1 : (⟨swA2, AwA2, nwA2, cwA2, twA2, BwA2, mwA2, dwA2⟩ : QC).At V2 (Rat.divInt (1) 2)) (Q : Exit → Act → World → Prop) (hQ : ∀ a' w', (fun a' w' => ∃ (U : Nat → Value), a' = fr 222 U [(0, .bool false), (1, .pointer (some ⟨wA2.heap.size, 0, none⟩)), (46, .bool false)] ∧ Ext w w') a' w' → Q .normal a' w') :
  (Code.region 2 (Z2N Tryz.f9 2) true).wp Tryz.prog Q (fr 222 U [(0, .bool false), (1, .pointer (some ⟨wA2.heap.size, 0, none⟩))]) V2 := by
 simp only [Z2N, Tryz.f9, Z45, Z4H, List.cons_append, List.nil_append, Nat.reduceBEq, cond_true, cond_false]
 have hbd : ∀ (a b c d e f g h : Value) (W : World), (Instr.build 28 #[(0, .agg #[a, b, c, d]), (1, .agg #[e, f, g, h])]).run Tryz.prog W = .ok (.agg #[a, b, c, d, e, f, g, h]) W := by intros; kernel_rfl
 dsimp only [fr, frl, Nat.reduceBEq, Nat.reduceAdd, cond_true, cond_false]
 have LwV2 := hW.size
 have HV20 := zH ha0
 clear ha0
 have HV21 := zH ha1
 clear ha1
 have La := Ra.lt
 (have hk := Ra.ca; dsimp only [CA, Nat.reduceAdd] at hk; repeat (obtain ⟨_, hk⟩ := hk))
 refine Zc (fun a' w' => ∃ (U : Nat → Value), a' = fr 222 U [(0, .bool false), (1, .pointer (some ⟨wA2.heap.size, 0, none⟩)), (46, .bool false)] ∧ Ext w w') (fun w' => CB w' (wA2.heap.size) 0 [.bool swA1, .slice AwA1 nwA1 cwA1, .bool twA1, .slice BwA1 mwA1 dwA1, .bool swA2, .slice AwA2 nwA2 cwA2, .bool twA2, .slice BwA2 mwA2 dwA2]) Z0a hQ (by dsimp only [CB, Nat.reduceAdd]; exact KQ) ?_
 dsimp only [CB, Nat.reduceAdd]
 intro hHeld
 refine TH 1 ?_
 refine R1H 0 fun K hK => ?_
 go_simp
 refine (Z0C (1) (2) _ (by decide) (by decide) (by decide) (by decide)).mono ?_; refine rBz ?_; intro x0 px0 qx0 Hx0 Kx0 hbx0 hzx0
 refine KH hK fun _ => ?_; clear hK K
 refine R1H 2 fun K hK => ?_
 go_simp
 refine (Z9i px0 qx0 ⟨swA1, AwA1, nwA1, cwA1, twA1, BwA1, mwA1, dwA1⟩ ⟨swA2, AwA2, nwA2, cwA2, twA2, BwA2, mwA2, dwA2⟩ ((1 : Int) : Rat) ((2 : Int) : Rat) ((-1 : Int) : Rat) (Rat.divInt (1) 2) _ QX QX QX QX (by decide +kernel)).mono ?_; refine rBz ?_; intro x2 px2 qx2 Hx2 Kx2 hbx2 hzx2
 refine KH hK fun _ => ?_; clear hK K
 refine R1H 3 fun K hK => ?_
 go_simp
 refine (Zw (0) _ (by decide) (by decide)).mono ?_; refine rQz ?_; intro x3 sx3 Ax3 nx3 cx3 tx3 Bx3 mx3 dx3 Hx3 hbx3 hzx3
 refine KH hK fun _ => ?_; clear hK K
 refine R1H 4 fun K hK => ?_
 go_simp
 refine (ZK (5) (2) _ (by decide) (by decide) (by decide) (by decide) (by decide)).mono ?_; refine rQz ?_; intro x4 sx4 Ax4 nx4 cx4 tx4 Bx4 mx4 dx4 Hx4 hbx4 hzx4
 refine KH hK fun _ => ?_; clear hK K
 refine TH 5 ?_
 refine R1H 6 fun K hK => ?_
 go_simp
 refine (Z0S px2 qx2 ⟨sx3, Ax3, nx3, cx3, tx3, Bx3, mx3, dx3⟩ ⟨sx4, Ax4, nx4, cx4, tx4, Bx4, mx4, dx4⟩ (((1 : Int) : Rat) + ((-1 : Int) : Rat)) (((2 : Int) : Rat) + (Rat.divInt (1) 2)) ((0 : Int) : Rat) (Rat.divInt (5) 2) _ QX QX QX QX (by decide +kernel) (by decide +kernel) (by decide +kernel)).mono ?_; rintro e x6 ⟨rfl, hbx6⟩; have := hbx6.sz
 refine KH hK fun _ => ?_; clear hK K
 refine TH 7 ?_; refine TH 8 ?_; refine TH 10 ?_
 refine R1H 9 fun K hK => ?_
 go_simp
 refine (Z0C (1) (2) _ (by decide) (by decide) (by decide) (by decide)).mono ?_; refine rBz ?_; intro x9 px9 qx9 Hx9 Kx9 hbx9 hzx9
 refine KH hK fun _ => ?_; clear hK K
 refine R1H 11 fun K hK => ?_
 go_simp
 refine (Z9f px9 qx9 ⟨swA1, AwA1, nwA1, cwA1, twA1, BwA1, mwA1, dwA1⟩ ⟨swA2, AwA2, nwA2, cwA2, twA2, BwA2, mwA2, dwA2⟩ ((1 : Int) : Rat) ((2 : Int) : Rat) ((-1 : Int) : Rat) (Rat.divInt (1) 2) _ QX QX QX QX (by decide +kernel)).mono ?_; refine rBz ?_; intro x11 px11 qx11 Hx11 Kx11 hbx11 hzx11
 refine KH hK fun _ => ?_; clear hK K
 refine R1H 12 fun K hK => ?_
 go_simp
 refine (ZK (1) (2) _ (by decide) (by decide) (by decide) (by decide) (by decide)).mono ?_; refine rQz ?_; intro x12 sx12 Ax12 nx12 cx12 tx12 Bx12 mx12 dx12 Hx12 hbx12 hzx12
 refine KH hK fun _ => ?_; clear hK K
 refine R1H 13 fun K hK => ?_
 go_simp
 refine (Zw (3) _ (by decide) (by decide)).mono ?_; refine rQz ?_; intro x13 sx13 Ax13 nx13 cx13 tx13 Bx13 mx13 dx13 Hx13 hbx13 hzx13
 refine KH hK fun _ => ?_; clear hK K
 refine TH 14 ?_
 refine R1H 15 fun K hK => ?_
 go_simp
 refine (Z0S px11 qx11 ⟨sx12, Ax12, nx12, cx12, tx12, Bx12, mx12, dx12⟩ ⟨sx13, Ax13, nx13, cx13, tx13, Bx13, mx13, dx13⟩ (((1 : Int) : Rat) - (Rat.divInt (1) 2)) (((2 : Int) : Rat) - ((-1 : Int) : Rat)) (Rat.divInt (1) 2) ((3 : Int) : Rat) _ QX QX QX QX (by decide +kernel) (by decide +kernel) (by decide +kernel)).mono ?_; rintro e x15 ⟨rfl, hbx15⟩; have := hbx15.sz
 refine KH hK fun _ => ?_; clear hK K
 refine TH 16 ?_; refine TH 17 ?_; refine TH 18 ?_
 refine R1H 19 fun K hK => ?_
 go_simp
 refine (Z0C (-1) (2) _ (by decide) (by decide) (by decide) (by decide)).mono ?_; refine rBz ?_; intro x19 px19 qx19 Hx19 Kx19 hbx19 hzx19
 refine KH hK fun _ => ?_; clear hK K
 refine R1H 20 fun K hK => ?_
 go_simp
 refine (Z0C (-3) (1) _ (by decide) (by decide) (by decide) (by decide)).mono ?_; refine rBz ?_; intro x20 px20 qx20 Hx20 Kx20 hbx20 hzx20
 refine KH hK fun _ => ?_; clear hK K
 refine R1H 21 fun K hK => ?_
 go_simp
 refine (Z9g px19 qx19 px20 qx20 ((-1 : Int) : Rat) ((2 : Int) : Rat) ((-3 : Int) : Rat) ((1 : Int) : Rat) _ QX QX QX QX (by decide +kernel)).mono ?_; refine rBz ?_; intro x21 px21 qx21 Hx21 Kx21 hbx21 hzx21
 refine KH hK fun _ => ?_; clear hK K
 refine R1H 22 fun K hK => ?_
 go_simp
 refine (Z0C (-6) (3) _ (by decide) (by decide) (by decide) (by decide)).mono ?_; refine rBz ?_; intro x22 px22 qx22 Hx22 Kx22 hbx22 hzx22
 refine KH hK fun _ => ?_; clear hK K
 refine R1H 23 fun K hK => ?_
 go_simp
 refine (Z0S px21 qx21 px22 qx22 (Z1m (((-1 : Int) : Rat) * ((-3 : Int) : Rat)) (((-1 : Int) : Rat) * ((1 : Int) : Rat)) (((2 : Int) : Rat) * ((-3 : Int) : Rat)) (((2 : Int) : Rat) * ((1 : Int) : Rat))) (Z2n (((-1 : Int) : Rat) * ((-3 : Int) : Rat)) (((-1 : Int) : Rat) * ((1 : Int) : Rat)) (((2 : Int) : Rat) * ((-3 : Int) : Rat)) (((2 : Int) : Rat) * ((1 : Int) : Rat))) ((-6 : Int) : Rat) ((3 : Int) : Rat) _ QX QX QX QX (by decide +kernel) (by decide +kernel) (by decide +kernel)).mono ?_; rintro e x23 ⟨rfl, hbx23⟩; have := hbx23.sz
 refine KH hK fun _ => ?_; clear hK K
 refine TH 24 ?_; refine TH 25 ?_
 refine wpAnyH_done (by kernel_rfl) ?_ _
 exact ⟨_, Zr _ _, EX⟩
theorem Zbj (w V7 : World) (wB3 wB9 : World) (pwB3 qwB3 pwB9 qwB9 : QC) (U : Nat → Value) (hW : Ext w V7) (Rd : BK V7 (wB3.heap.size) (zA0 pwB3 qwB3)) (Rr : BK V7 (wB9.heap.size) (zA0 pwB9 qwB9)) (ha0 : pwB3.At V7 (Z5y ((1 : Int) : Rat) ((2 : Int) : Rat) ((-2 : Int) : Rat) ((-1 : Int) : Rat))) (ha1 : qwB3.At V7 (Z5z ((1 : Int) : Rat) ((2 : Int) : Rat) ((-2 : Int) : Rat) ((-1 : Int) : Rat))) (ha2 : pwB9.At V7 (Zl (Rat.divInt (1) 3) 2)) (ha3 : qwB9.At V7 (-Zl (-(Rat.divInt (1) 3)) 2)) (Q : Exit → Act → World → Prop) (hQ : ∀ a' w', (fun a' w' => ∃ (U : Nat → Value), a' = fr 222 U [(0, .bool false), (2, .pointer (some ⟨wB3.heap.size, 0, none⟩)), (3, .int .i64 0), (5, .int .i64 5), (6, .pointer (some ⟨wB9.heap.size, 0, none⟩)), (7, .int .i64 0), (91, .bool false)] ∧ Ext w w') a' w' → Q .normal a' w') :
  (Code.region 7 (Z2N Tryz.f9 7) true).wp Tryz.prog Q (fr 222 U [(0, .bool false), (2, .pointer (some ⟨wB3.heap.size, 0, none⟩)), (3, .int .i64 0), (5, .int .i64 5), (6, .pointer (some ⟨wB9.heap.size, 0, none⟩)), (7, .int .i64 0)]) V7 := by
 simp only [Z2N, Tryz.f9, Z45, Z4H, List.cons_append, List.nil_append, Nat.reduceBEq, cond_true, cond_false]
 have hbd : ∀ (a b c d e f g h : Value) (W : World), (Instr.build 28 #[(0, .agg #[a, b, c, d]), (1, .agg #[e, f, g, h])]).run Tryz.prog W = .ok (.agg #[a, b, c, d, e, f, g, h]) W := by intros; kernel_rfl
 dsimp only [fr, frl, Nat.reduceBEq, Nat.reduceAdd, cond_true, cond_false]
 have LwV7 := hW.size
 have HV70 := zH ha0
 clear ha0
 have HV71 := zH ha1
 clear ha1
 have HV72 := zH ha2
 clear ha2
 have HV73 := zH ha3
 clear ha3
 have Ld := Rd.lt
 have Lr := Rr.lt
 (have hk := Rd.ca; dsimp only [CA, Nat.reduceAdd] at hk; repeat (obtain ⟨_, hk⟩ := hk))
 (have hk := Rr.ca; dsimp only [CA, Nat.reduceAdd] at hk; repeat (obtain ⟨_, hk⟩ := hk))
 refine Zc (fun a' w' => ∃ (U : Nat → Value), a' = fr 222 U [(0, .bool false), (2, .pointer (some ⟨wB3.heap.size, 0, none⟩)), (3, .int .i64 0), (5, .int .i64 5), (6, .pointer (some ⟨wB9.heap.size, 0, none⟩)), (7, .int .i64 0), (91, .bool false)] ∧ Ext w w') (fun w' => CB w' (wB3.heap.size) 0 (Z2H pwB3 qwB3) ∧ CB w' (wB9.heap.size) 0 (Z2H pwB9 qwB9)) Z0a hQ (by dsimp only [CB, Nat.reduceAdd]; exact KQ) ?_
 dsimp only [CB, Nat.reduceAdd]
 intro hHeld
 refine TH 0 ?_; refine TH 1 ?_; refine TH 2 ?_; refine TH 3 ?_; refine TH 4 ?_; refine TH 5 ?_; refine TH 6 ?_; refine TH 7 ?_; refine TH 8 ?_; refine TH 9 ?_; refine TH 10 ?_; refine TH 11 ?_
 refine R1H 12 fun K hK => ?_
 go_simp
 refine (Zw (-2) _ (by decide) (by decide)).mono ?_; refine rQz ?_; intro x12 sx12 Ax12 nx12 cx12 tx12 Bx12 mx12 dx12 Hx12 hbx12 hzx12
 refine KH hK fun _ => ?_; clear hK K
 refine R1H 13 fun K hK => ?_
 go_simp
 refine (ZK (-1) (2) _ (by decide) (by decide) (by decide) (by decide) (by decide)).mono ?_; refine rQz ?_; intro x13 sx13 Ax13 nx13 cx13 tx13 Bx13 mx13 dx13 Hx13 hbx13 hzx13
 refine KH hK fun _ => ?_; clear hK K
 refine TH 14 ?_
 refine R1H 15 fun K hK => ?_
 go_simp
 refine (Z0S pwB3 qwB3 ⟨sx12, Ax12, nx12, cx12, tx12, Bx12, mx12, dx12⟩ ⟨sx13, Ax13, nx13, cx13, tx13, Bx13, mx13, dx13⟩ (Z5y ((1 : Int) : Rat) ((2 : Int) : Rat) ((-2 : Int) : Rat) ((-1 : Int) : Rat)) (Z5z ((1 : Int) : Rat) ((2 : Int) : Rat) ((-2 : Int) : Rat) ((-1 : Int) : Rat)) ((-2 : Int) : Rat) (Rat.divInt (-1) 2) _ QX QX QX QX (by decide +kernel) (by decide +kernel) (by decide +kernel)).mono ?_; rintro e x15 ⟨rfl, hbx15⟩; have := hbx15.sz
 refine KH hK fun _ => ?_; clear hK K
 refine TH 16 ?_; refine TH 17 ?_; refine TH 18 ?_; refine TH 19 ?_
 refine R1H 20 fun K hK => ?_
 go_simp
 refine (ZK (1) (4) _ (by decide) (by decide) (by decide) (by decide) (by decide)).mono ?_; refine rQz ?_; intro x20 sx20 Ax20 nx20 cx20 tx20 Bx20 mx20 dx20 Hx20 hbx20 hzx20
 refine KH hK fun _ => ?_; clear hK K
 refine R1H 21 fun K hK => ?_
 go_simp
 refine (ZK (1) (2) _ (by decide) (by decide) (by decide) (by decide) (by decide)).mono ?_; refine rQz ?_; intro x21 sx21 Ax21 nx21 cx21 tx21 Bx21 mx21 dx21 Hx21 hbx21 hzx21
 refine KH hK fun _ => ?_; clear hK K
 refine TH 22 ?_
 refine R1H 23 fun K hK => ?_
 go_simp
 refine (Z0S pwB9 qwB9 ⟨sx20, Ax20, nx20, cx20, tx20, Bx20, mx20, dx20⟩ ⟨sx21, Ax21, nx21, cx21, tx21, Bx21, mx21, dx21⟩ (Zl (Rat.divInt (1) 3) 2) (-Zl (-(Rat.divInt (1) 3)) 2) (Rat.divInt (1) 4) (Rat.divInt (1) 2) _ QX QX QX QX (by decide +kernel) (by decide +kernel) (by decide +kernel)).mono ?_; rintro e x23 ⟨rfl, hbx23⟩; have := hbx23.sz
 refine KH hK fun _ => ?_; clear hK K
 refine TH 24 ?_; refine TH 25 ?_
 refine wpAnyH_done (by kernel_rfl) ?_ _
 exact ⟨_, Zr _ _, EX⟩
theorem Zan (w V16 : World) (wC2 wC4 : World) (pwC2 qwC2 pwC4 qwC4 : QC) (lowC2 hiwC2 lowC4 hiwC4 : Rat) (hPcwC2 : lowC2 ≤ (Rat.divInt (27182819) 10000000)) (hPdwC2 : (Rat.divInt (27182818) 10000000) ≤ hiwC2) (hPewC2 : qm lowC2 ≤ 1000) (hPfwC2 : qm hiwC2 ≤ 1000) (hPcwC4 : lowC4 ≤ (Rat.divInt (69314719) 100000000)) (hPdwC4 : (Rat.divInt (69314718) 100000000) ≤ hiwC4) (hPewC4 : qm lowC4 ≤ 1000) (hPfwC4 : qm hiwC4 ≤ 1000) (U : Nat → Value) (hW : Ext w V16) (Rx : BK V16 (wC2.heap.size) (zA0 pwC2 qwC2)) (Ry : BK V16 (wC4.heap.size) (zA0 pwC4 qwC4)) (ha0 : pwC2.At V16 lowC2) (ha1 : qwC2.At V16 hiwC2) (ha2 : pwC4.At V16 lowC4) (ha3 : qwC4.At V16 hiwC4) (Q : Exit → Act → World → Prop) (hQ : ∀ a' w', (fun a' w' => ∃ (U : Nat → Value), a' = fr 222 U [(0, .bool false), (8, .pointer (some ⟨wC2.heap.size, 0, none⟩)), (9, .pointer (some ⟨wC4.heap.size, 0, none⟩)), (158, .bool false)] ∧ Ext w w') a' w' → Q .normal a' w') :
  (Code.region 16 (Z2N Tryz.f9 16) true).wp Tryz.prog Q (fr 222 U [(0, .bool false), (8, .pointer (some ⟨wC2.heap.size, 0, none⟩)), (9, .pointer (some ⟨wC4.heap.size, 0, none⟩))]) V16 := by
 simp only [Z2N, Tryz.f9, Z45, Z4H, List.cons_append, List.nil_append, Nat.reduceBEq, cond_true, cond_false]
 have hbd : ∀ (a b c d e f g h : Value) (W : World), (Instr.build 28 #[(0, .agg #[a, b, c, d]), (1, .agg #[e, f, g, h])]).run Tryz.prog W = .ok (.agg #[a, b, c, d, e, f, g, h]) W := by intros; kernel_rfl
 dsimp only [fr, frl, Nat.reduceBEq, Nat.reduceAdd, cond_true, cond_false]
 have LwV16 := hW.size
 have HV160 := zH ha0
 clear ha0
 have HV161 := zH ha1
 clear ha1
 have HV162 := zH ha2
 clear ha2
 have HV163 := zH ha3
 clear ha3
 have Lx := Rx.lt
 have Ly := Ry.lt
 (have hk := Rx.ca; dsimp only [CA, Nat.reduceAdd] at hk; repeat (obtain ⟨_, hk⟩ := hk))
 (have hk := Ry.ca; dsimp only [CA, Nat.reduceAdd] at hk; repeat (obtain ⟨_, hk⟩ := hk))
 refine Zc (fun a' w' => ∃ (U : Nat → Value), a' = fr 222 U [(0, .bool false), (8, .pointer (some ⟨wC2.heap.size, 0, none⟩)), (9, .pointer (some ⟨wC4.heap.size, 0, none⟩)), (158, .bool false)] ∧ Ext w w') (fun w' => CB w' (wC2.heap.size) 0 (Z2H pwC2 qwC2) ∧ CB w' (wC4.heap.size) 0 (Z2H pwC4 qwC4)) Z0a hQ (by dsimp only [CB, Nat.reduceAdd]; exact KQ) ?_
 dsimp only [CB, Nat.reduceAdd]
 intro hHeld
 refine TH 0 ?_
 refine R1H 1 fun K hK => ?_
 go_simp
 refine (ZK (27182818) (10000000) _ (by decide) (by decide) (by decide) (by decide) (by decide)).mono ?_; refine rQz ?_; intro x1 sx1 Ax1 nx1 cx1 tx1 Bx1 mx1 dx1 Hx1 hbx1 hzx1
 refine KH hK fun _ => ?_; clear hK K
 refine R1H 2 fun K hK => ?_
 go_simp
 refine (ZK (27182819) (10000000) _ (by decide) (by decide) (by decide) (by decide) (by decide)).mono ?_; refine rQz ?_; intro x2 sx2 Ax2 nx2 cx2 tx2 Bx2 mx2 dx2 Hx2 hbx2 hzx2
 refine KH hK fun _ => ?_; clear hK K
 refine TH 3 ?_
 refine R1H 4 fun K hK => ?_
 go_simp
 refine (Z64 pwC2 qwC2 ⟨sx1, Ax1, nx1, cx1, tx1, Bx1, mx1, dx1⟩ ⟨sx2, Ax2, nx2, cx2, tx2, Bx2, mx2, dx2⟩ lowC2 hiwC2 (Rat.divInt (27182818) 10000000) (Rat.divInt (27182819) 10000000) _ QX QX QX QX hPcwC2 hPdwC2 (by have h1 := hPewC2; have h2 := hPfwC2; have h3 : qm (Rat.divInt (27182818) 10000000) ≤ 10 := (by decide +kernel); have h4 : qm (Rat.divInt (27182819) 10000000) ≤ 10 := (by decide +kernel); have : 30000 < Z8 := (by decide); omega)).mono ?_; rintro e x4 ⟨rfl, hbx4⟩; have := hbx4.sz
 refine KH hK fun _ => ?_; clear hK K
 refine TH 5 ?_; refine TH 6 ?_; refine TH 7 ?_
 refine R1H 8 fun K hK => ?_
 go_simp
 refine (ZK (69314718) (100000000) _ (by decide) (by decide) (by decide) (by decide) (by decide)).mono ?_; refine rQz ?_; intro x8 sx8 Ax8 nx8 cx8 tx8 Bx8 mx8 dx8 Hx8 hbx8 hzx8
 refine KH hK fun _ => ?_; clear hK K
 refine R1H 9 fun K hK => ?_
 go_simp
 refine (ZK (69314719) (100000000) _ (by decide) (by decide) (by decide) (by decide) (by decide)).mono ?_; refine rQz ?_; intro x9 sx9 Ax9 nx9 cx9 tx9 Bx9 mx9 dx9 Hx9 hbx9 hzx9
 refine KH hK fun _ => ?_; clear hK K
 refine TH 10 ?_
 refine R1H 11 fun K hK => ?_
 go_simp
 refine (Z64 pwC4 qwC4 ⟨sx8, Ax8, nx8, cx8, tx8, Bx8, mx8, dx8⟩ ⟨sx9, Ax9, nx9, cx9, tx9, Bx9, mx9, dx9⟩ lowC4 hiwC4 (Rat.divInt (69314718) 100000000) (Rat.divInt (69314719) 100000000) _ QX QX QX QX hPcwC4 hPdwC4 (by have h1 := hPewC4; have h2 := hPfwC4; have h3 : qm (Rat.divInt (69314718) 100000000) ≤ 10 := (by decide +kernel); have h4 : qm (Rat.divInt (69314719) 100000000) ≤ 10 := (by decide +kernel); have : 30000 < Z8 := (by decide); omega)).mono ?_; rintro e x11 ⟨rfl, hbx11⟩; have := hbx11.sz
 refine KH hK fun _ => ?_; clear hK K
 refine TH 12 ?_; refine TH 13 ?_
 refine wpAnyH_done (by kernel_rfl) ?_ _
 exact ⟨_, Zr _ _, EX⟩
theorem Zam (w V20 : World) (Y16 wD5 : World) (g1 g2 d1 d2 : Nat) (ea eb ec : QC) (U : Nat → Value) (hW : Ext w V20) (Re : BK V20 (wD5.heap.size) (Z0M g1 d1 g2 d2)) (ha0 : ea.At V20 ((1 : Int) : Rat)) (ha1 : eb.At V20 ((-1 : Int) : Rat)) (ha2 : ec.At V20 ((1 : Int) : Rat)) (Ct : CK V20 Y16.heap.size [.int .i64 1]) (Cn : CK V20 g1 (zL6 ea)) (Cd : CK V20 g2 (zL1 eb ec)) (Q : Exit → Act → World → Prop) (hQ : ∀ a' w', (fun a' w' => ∃ (g16 : Nat) (pv qv : QC) (U : Nat → Value), a' = fr 222 U [(0, .bool false), (3, .int .i64 0), (14, .slice (some ⟨Y16.heap.size, 0, none⟩) 1 1), (15, .pointer (some ⟨wD5.heap.size, 0, none⟩)), (16, .pointer (some ⟨g16, 0, none⟩))] ∧ Ext w w' ∧ Ext V20 w' ∧ V20.heap.size ≤ g16 ∧ BK w' g16 (zA0 pv qv) ∧ pv.At w' (1 / 2) ∧ qv.At w' (1 / 2)) a' w' → Q .normal a' w') :
  (Code.region 20 (Z2N Tryz.f9 20) true).wp Tryz.prog Q (fr 222 U [(0, .bool false), (14, .slice (some ⟨Y16.heap.size, 0, none⟩) 1 1), (15, .pointer (some ⟨wD5.heap.size, 0, none⟩))]) V20 := by
 simp only [Z2N, Tryz.f9, Z45, Z4H, List.cons_append, List.nil_append, Nat.reduceBEq, cond_true, cond_false]
 have hbd : ∀ (a b c d e f g h : Value) (W : World), (Instr.build 28 #[(0, .agg #[a, b, c, d]), (1, .agg #[e, f, g, h])]).run Tryz.prog W = .ok (.agg #[a, b, c, d, e, f, g, h]) W := by intros; kernel_rfl
 dsimp only [fr, frl, Nat.reduceBEq, Nat.reduceAdd, cond_true, cond_false]
 have LwV20 := hW.size
 have HV200 := zH ha0
 clear ha0
 have HV201 := zH ha1
 clear ha1
 have HV202 := zH ha2
 clear ha2
 have Le := Re.lt
 (have hk := Re.ca; dsimp only [CA, Nat.reduceAdd] at hk; repeat (obtain ⟨_, hk⟩ := hk))
 have Lt := Ct.lt
 have Ln := Cn.lt
 have Ld := Cd.lt
 refine Zc (fun a' w' => ∃ (g16 : Nat) (pv qv : QC) (U : Nat → Value), a' = fr 222 U [(0, .bool false), (3, .int .i64 0), (14, .slice (some ⟨Y16.heap.size, 0, none⟩) 1 1), (15, .pointer (some ⟨wD5.heap.size, 0, none⟩)), (16, .pointer (some ⟨g16, 0, none⟩))] ∧ Ext w w' ∧ Ext V20 w' ∧ V20.heap.size ≤ g16 ∧ BK w' g16 (zA0 pv qv) ∧ pv.At w' (1 / 2) ∧ qv.At w' (1 / 2)) (fun w' => CB w' (wD5.heap.size) 0 (Zbb g1 d1 g2 d2)) Z0a hQ (by dsimp only [CB, Nat.reduceAdd]; exact KQ) ?_
 dsimp only [CB, Nat.reduceAdd]
 intro hHeld
 refine TH 0 ?_; refine TH 1 ?_
 refine RDH [2, 7] ?_
 refine ARH (fun K hK => ?_) ?_
 ·go_simp
  refine (Zw (3) _ (by decide) (by decide)).mono ?_; refine rQz ?_; intro x2 sx2 Ax2 nx2 cx2 tx2 Bx2 mx2 dx2 Hx2 hbx2 hzx2
  refine KH hK fun _ => ?_; clear hK K
  refine RDH [3, 7] ?_
  refine ARH (fun K hK => ?_) ?_
  ·go_simp
   refine (Z6Y Y16.heap.size 1 g1 g2 d1 d2 ea eb ec ⟨sx2, Ax2, nx2, cx2, tx2, Bx2, mx2, dx2⟩ _ CX CX CX QX QX QX (QC.of3 QX)).mono ?_; refine rBz ?_; intro x3 px3 qx3 Hx3 Kx3 hbx3 hzx3
   refine KH hK fun _ => ?_; clear hK K
   refine TH 4 ?_; refine TH 5 ?_; refine TH 6 ?_
   refine R1H 7 fun K hK => ?_
   go_simp
   refine KH hK fun _ => ?_; clear hK K
   refine R1H 8 fun K hK => ?_
   go_simp
   refine KH hK fun _ => ?_; clear hK K
   refine TH 9 ?_
   refine wpAnyH_done (by kernel_rfl) ?_ _
   exact ⟨_, px3, qx3, _, Zh _ _, EX, EX, by (try simp only [SZ]); omega, BX, QX, QX⟩
  refine ARH (fun K hK => ?_) ?_
  ·go_simp
   refine KH hK fun _ => ?_; clear hK K
   refine R1H 3 fun K hK => ?_
   go_simp
   refine (Z6Y Y16.heap.size 1 g1 g2 d1 d2 ea eb ec ⟨sx2, Ax2, nx2, cx2, tx2, Bx2, mx2, dx2⟩ _ CX CX CX QX QX QX (QC.of3 QX)).mono ?_; refine rBz ?_; intro x3 px3 qx3 Hx3 Kx3 hbx3 hzx3; obtain ⟨_, _, T⟩ := BC8 x3 x2.heap.size
   refine KH hK fun _ => ?_; clear hK K
   refine TH 4 ?_; refine TH 5 ?_; refine TH 6 ?_
   refine R1H 8 fun K hK => ?_
   go_simp
   refine KH hK fun _ => ?_; clear hK K
   refine TH 9 ?_
   refine wpAnyH_done (by kernel_rfl) ?_ _
   exact ⟨_, px3, qx3, _, Zh _ _, EX, EX, by (try simp only [SZ]); omega, BX, QX, QX⟩
  exact AllReadyH.nil
 refine ARH (fun K hK => ?_) ?_
 ·go_simp
  refine KH hK fun _ => ?_; clear hK K
  refine R1H 2 fun K hK => ?_
  go_simp
  refine (Zw (3) _ (by decide) (by decide)).mono ?_; refine rQz ?_; intro x2 sx2 Ax2 nx2 cx2 tx2 Bx2 mx2 dx2 Hx2 hbx2 hzx2
  refine KH hK fun _ => ?_; clear hK K
  refine R1H 3 fun K hK => ?_
  go_simp
  refine (Z6Y Y16.heap.size 1 g1 g2 d1 d2 ea eb ec ⟨sx2, Ax2, nx2, cx2, tx2, Bx2, mx2, dx2⟩ _ CX CX CX QX QX QX (QC.of3 QX)).mono ?_; refine rBz ?_; intro x3 px3 qx3 Hx3 Kx3 hbx3 hzx3; obtain ⟨_, _, T⟩ := BC8 x3 V20.heap.size
  refine KH hK fun _ => ?_; clear hK K
  refine TH 4 ?_; refine TH 5 ?_; refine TH 6 ?_
  refine R1H 8 fun K hK => ?_
  go_simp
  refine KH hK fun _ => ?_; clear hK K
  refine TH 9 ?_
  refine wpAnyH_done (by kernel_rfl) ?_ _
  exact ⟨_, px3, qx3, _, Zh _ _, EX, EX, by (try simp only [SZ]); omega, BX, QX, QX⟩
 exact AllReadyH.nil
theorem Zal (w V21 : World) (Y16 wD5 : World) (g1 g2 d1 d2 g16 : Nat) (ea eb ec pv qv : QC) (U : Nat → Value) (hW : Ext w V21) (Rf : BK V21 (wD5.heap.size) (Z0M g1 d1 g2 d2)) (Rv : BK V21 (g16) (zA0 pv qv)) (ha0 : ea.At V21 ((1 : Int) : Rat)) (ha1 : eb.At V21 ((-1 : Int) : Rat)) (ha2 : ec.At V21 ((1 : Int) : Rat)) (ha3 : pv.At V21 (1 / 2)) (ha4 : qv.At V21 (1 / 2)) (Ct : CK V21 Y16.heap.size [.int .i64 1]) (Cn : CK V21 g1 (zL6 ea)) (Cd : CK V21 g2 (zL1 eb ec)) (Q : Exit → Act → World → Prop) (hQ : ∀ a' w', (fun a' w' => ∃ (U : Nat → Value), a' = fr 222 U [(0, .bool false), (3, .int .i64 0), (5, .int .i64 5), (14, .slice (some ⟨Y16.heap.size, 0, none⟩) 1 1), (15, .pointer (some ⟨wD5.heap.size, 0, none⟩)), (16, .pointer (some ⟨g16, 0, none⟩))] ∧ Ext w w' ∧ BK w' g16 (zA0 pv qv) ∧ pv.At w' (1 / 2) ∧ qv.At w' (1 / 2)) a' w' → Q .normal a' w') :
  (Code.region 21 (Z2N Tryz.f9 21) true).wp Tryz.prog Q (fr 222 U [(0, .bool false), (3, .int .i64 0), (14, .slice (some ⟨Y16.heap.size, 0, none⟩) 1 1), (15, .pointer (some ⟨wD5.heap.size, 0, none⟩)), (16, .pointer (some ⟨g16, 0, none⟩))]) V21 := by
 simp only [Z2N, Tryz.f9, Z45, Z4H, List.cons_append, List.nil_append, Nat.reduceBEq, cond_true, cond_false]
 have hbd : ∀ (a b c d e f g h : Value) (W : World), (Instr.build 28 #[(0, .agg #[a, b, c, d]), (1, .agg #[e, f, g, h])]).run Tryz.prog W = .ok (.agg #[a, b, c, d, e, f, g, h]) W := by intros; kernel_rfl
 dsimp only [fr, frl, Nat.reduceBEq, Nat.reduceAdd, cond_true, cond_false]
 have LwV21 := hW.size
 have HV210 := zH ha0
 clear ha0
 have HV211 := zH ha1
 clear ha1
 have HV212 := zH ha2
 clear ha2
 have HV213 := zH ha3
 clear ha3
 have HV214 := zH ha4
 clear ha4
 have Lf := Rf.lt
 have Lv := Rv.lt
 (have hk := Rf.ca; dsimp only [CA, Nat.reduceAdd] at hk; repeat (obtain ⟨_, hk⟩ := hk))
 (have hk := Rv.ca; dsimp only [CA, Nat.reduceAdd] at hk; repeat (obtain ⟨_, hk⟩ := hk))
 have Lt := Ct.lt
 have Ln := Cn.lt
 have Ld := Cd.lt
 refine Zc (fun a' w' => ∃ (U : Nat → Value), a' = fr 222 U [(0, .bool false), (3, .int .i64 0), (5, .int .i64 5), (14, .slice (some ⟨Y16.heap.size, 0, none⟩) 1 1), (15, .pointer (some ⟨wD5.heap.size, 0, none⟩)), (16, .pointer (some ⟨g16, 0, none⟩))] ∧ Ext w w' ∧ BK w' g16 (zA0 pv qv) ∧ pv.At w' (1 / 2) ∧ qv.At w' (1 / 2)) (fun w' => CB w' (wD5.heap.size) 0 (Zbb g1 d1 g2 d2)) Z0a hQ (by dsimp only [CB, Nat.reduceAdd]; exact KQ) ?_
 dsimp only [CB, Nat.reduceAdd]
 intro hHeld
 refine TH 0 ?_; refine TH 1 ?_
 refine R1H 2 fun K hK => ?_
 go_simp
 refine (Zw (1) _ (by decide) (by decide)).mono ?_; refine rQz ?_; intro x2 sx2 Ax2 nx2 cx2 tx2 Bx2 mx2 dx2 Hx2 hbx2 hzx2
 refine KH hK fun _ => ?_; clear hK K
 refine R1H 3 fun K hK => ?_
 go_simp
 refine (ZbH Y16.heap.size 1 g1 g2 d1 d2 ea eb ec ⟨sx2, Ax2, nx2, cx2, tx2, Bx2, mx2, dx2⟩ _ CX CX CX QX QX QX (QC.of1 QX)).mono ?_; rintro e x3 ⟨rfl, hbx3⟩; have := hbx3.sz
 refine KH hK fun _ => ?_; clear hK K
 refine TH 4 ?_; refine TH 5 ?_; refine TH 6 ?_; refine TH 7 ?_
 refine wpAnyH_done (by kernel_rfl) ?_ _
 exact ⟨_, Zr _ _, EX, BX, QX, QX⟩
theorem Zak (w V23 : World) (wE6 : World) (g16 : Nat) (pv qv pwE6 qwE6 : QC) (U : Nat → Value) (hW : Ext w V23) (Rv : BK V23 (g16) (zA0 pv qv)) (Rz : BK V23 (wE6.heap.size) (zA0 pwE6 qwE6)) (ha0 : pv.At V23 (1 / 2)) (ha1 : qv.At V23 (1 / 2)) (ha2 : pwE6.At V23 0) (ha3 : qwE6.At V23 0) (Q : Exit → Act → World → Prop) (hQ : ∀ a' w', (fun a' w' => ∃ (U : Nat → Value), a' = fr 222 U [(0, .bool true), (3, .int .i64 0), (5, .int .i64 5), (7, .int .i64 0), (16, .pointer (some ⟨g16, 0, none⟩)), (17, .pointer (some ⟨wE6.heap.size, 0, none⟩))] ∧ Ext w w') a' w' → Q .normal a' w') :
  (Code.region 23 (Z2N Tryz.f9 23) true).wp Tryz.prog Q (fr 222 U [(0, .bool false), (3, .int .i64 0), (5, .int .i64 5), (7, .int .i64 0), (16, .pointer (some ⟨g16, 0, none⟩)), (17, .pointer (some ⟨wE6.heap.size, 0, none⟩))]) V23 := by
 simp only [Z2N, Tryz.f9, Z45, Z4H, List.cons_append, List.nil_append, Nat.reduceBEq, cond_true, cond_false]
 have hbd : ∀ (a b c d e f g h : Value) (W : World), (Instr.build 28 #[(0, .agg #[a, b, c, d]), (1, .agg #[e, f, g, h])]).run Tryz.prog W = .ok (.agg #[a, b, c, d, e, f, g, h]) W := by intros; kernel_rfl
 dsimp only [fr, frl, Nat.reduceBEq, Nat.reduceAdd, cond_true, cond_false]
 have LwV23 := hW.size
 have HV230 := zH ha0
 clear ha0
 have HV231 := zH ha1
 clear ha1
 have HV232 := zH ha2
 clear ha2
 have HV233 := zH ha3
 clear ha3
 have Lv := Rv.lt
 have Lz := Rz.lt
 (have hk := Rv.ca; dsimp only [CA, Nat.reduceAdd] at hk; repeat (obtain ⟨_, hk⟩ := hk))
 (have hk := Rz.ca; dsimp only [CA, Nat.reduceAdd] at hk; repeat (obtain ⟨_, hk⟩ := hk))
 refine Zc (fun a' w' => ∃ (U : Nat → Value), a' = fr 222 U [(0, .bool true), (3, .int .i64 0), (5, .int .i64 5), (7, .int .i64 0), (16, .pointer (some ⟨g16, 0, none⟩)), (17, .pointer (some ⟨wE6.heap.size, 0, none⟩))] ∧ Ext w w') (fun w' => CB w' (g16) 0 (Z2H pv qv) ∧ CB w' (wE6.heap.size) 0 (Z2H pwE6 qwE6)) Z0a hQ (by dsimp only [CB, Nat.reduceAdd]; exact KQ) ?_
 dsimp only [CB, Nat.reduceAdd]
 intro hHeld
 refine TH 0 ?_; refine TH 1 ?_; refine TH 2 ?_; refine TH 3 ?_; refine TH 4 ?_; refine TH 5 ?_; refine TH 6 ?_; refine TH 7 ?_; refine TH 8 ?_; refine TH 9 ?_; refine TH 10 ?_; refine TH 11 ?_
 refine R1H 12 fun K hK => ?_
 go_simp
 refine (ZK (1) (2) _ (by decide) (by decide) (by decide) (by decide) (by decide)).mono ?_; refine rQz ?_; intro x12 sx12 Ax12 nx12 cx12 tx12 Bx12 mx12 dx12 Hx12 hbx12 hzx12
 refine KH hK fun _ => ?_; clear hK K
 refine R1H 13 fun K hK => ?_
 go_simp
 refine (Z7l ⟨sx12, Ax12, nx12, cx12, tx12, Bx12, mx12, dx12⟩ _).mono ?_; rintro e x13 ⟨rfl, hbx13⟩; have := hbx13.sz
 refine KH hK fun _ => ?_; clear hK K
 refine R1H 14 fun K hK => ?_
 go_simp
 refine (Z0S pv qv ⟨sx12, Ax12, nx12, cx12, tx12, Bx12, mx12, dx12⟩ ⟨sx12, Ax12, nx12, cx12, tx12, Bx12, mx12, dx12⟩ (1 / 2) (1 / 2) (Rat.divInt (1) 2) (Rat.divInt (1) 2) _ QX QX QX QX (by decide +kernel) (by decide +kernel) (by decide +kernel)).mono ?_; rintro e x14 ⟨rfl, hbx14⟩; have := hbx14.sz
 refine KH hK fun _ => ?_; clear hK K
 refine TH 15 ?_; refine TH 16 ?_; refine TH 17 ?_
 refine R1H 18 fun K hK => ?_
 go_simp
 refine (Z3m pwE6 qwE6 0 0 30 _ QX QX (by decide +kernel) (by decide) (by decide) (by decide +kernel) (by decide +kernel)).mono ?_; rintro e x18 ⟨rfl, hbx18⟩; have := hbx18.sz
 refine KH hK fun _ => ?_; clear hK K
 refine TH 19 ?_; refine TH 20 ?_; refine TH 21 ?_
 refine R1H 22 fun K hK => ?_
 go_simp
 refine (ZaG pwE6 qwE6 _ QX QX).mono ?_; rintro e x22 ⟨rfl, hbx22⟩; have := hbx22.sz
 refine KH hK fun _ => ?_; clear hK K
 refine TH 23 ?_; refine TH 24 ?_; refine TH 25 ?_
 refine R1H 26 fun K hK => ?_
 go_simp
 refine (ZaY true pwE6 qwE6 0 0 _ QX QX (by decide +kernel) (by decide +kernel)).mono ?_; rintro e x26 ⟨rfl, hbx26⟩; have := hbx26.sz
 refine KH hK fun _ => ?_; clear hK K
 refine TH 27 ?_; refine TH 28 ?_
 refine R1H 29 fun K hK => ?_
 go_simp
 refine (Z0C (1) (0) _ (by decide) (by decide) (by decide) (by decide)).mono ?_; refine rBz ?_; intro x29 px29 qx29 Hx29 Kx29 hbx29 hzx29
 refine KH hK fun _ => ?_; clear hK K
 refine R1H 30 fun K hK => ?_
 go_simp
 refine (ZaY false px29 qx29 ((1 : Int) : Rat) ((0 : Int) : Rat) _ QX QX (by decide +kernel) (by decide +kernel)).mono ?_; rintro e x30 ⟨rfl, hbx30⟩; have := hbx30.sz
 refine KH hK fun _ => ?_; clear hK K
 refine TH 31 ?_; refine TH 32 ?_; refine TH 33 ?_
 refine wpAnyH_done (by kernel_rfl) ?_ _
 exact ⟨_, Zr _ _, EX⟩
theorem Z0i (w : World) :
  Ca 9 #[] w (fun e w' => e = .returned (.bool true) ∧ Ext w w') := by
 have hbd : ∀ (a b c d e f g h : Value) (W : World), (Instr.build 28 #[(0, .agg #[a, b, c, d]), (1, .agg #[e, f, g, h])]).run Tryz.prog W = .ok (.agg #[a, b, c, d, e, f, g, h]) W := by intros; kernel_rfl
 have hbm : ∀ W : World, (Instr.build 72 #[(0, .int .i64 1)]).run Tryz.prog W = .ok (.agg #[.int .i64 1, .int .i64 0, .bool false, .slice none 0 0, .bool false, .slice none 0 0, .slice none 0 0, .slice none 0 0]) W := by intros; kernel_rfl
 have hflag1 : Ze 1 := trivial
 have hflag2 : Ze 2 := trivial
 have hflag3 : Ze 3 := trivial
 go_enter func9, ntmps9
 go_wp2_with (
   first
   | ((have hfl : Ze 1 := (by with_reducible assumption)); clear hfl hflag1; (go_at_call 27; (with_reducible refine (Zw (-1) _ (by decide) (by decide)).mono ?_); refine rQz ?_; intro wA1 swA1 AwA1 nwA1 cwA1 twA1 BwA1 mwA1 dwA1 HwA1 hbwA1 hzwA1))
   | ((have hfl : Ze 2 := (by with_reducible assumption)); clear hfl hflag2; (go_at_call 48; (with_reducible refine (ZK (1) (2) _ (by decide) (by decide) (by decide) (by decide) (by decide)).mono ?_); refine rQz ?_; intro wA2 swA2 AwA2 nwA2 cwA2 twA2 BwA2 mwA2 dwA2 HwA2 hbwA2 hzwA2))
   | ((have hfl : Ze 3 := (by with_reducible assumption)); clear hfl hflag3; (with_reducible refine (id ?_ : wpList _ _ _ (⟨none, _, _, _, _, _⟩ :: _) _ _)); (obtain ⟨WA, hWe⟩ : ∃ W, wA2.alloc (.cells #[.bool false, .slice none 0 0, .bool false, .slice none 0 0, .bool false, .slice none 0 0, .bool false, .slice none 0 0] 28) = W := ⟨_, rfl⟩); (have RWA : BK WA wA2.heap.size zA5 := (by rw [← hWe]; exact BY)); (have EWA : Ext wA2 WA := (by rw [← hWe]; exact EX)); rw [hWe]; clear hWe; have LWA := RWA.lt; have hzWA := EWA.size; have FWA := RWA.c8))
 refine ZQ 222 [(0, .bool false), (1, .pointer (some ⟨wA2.heap.size, 0, none⟩))] (fun W => Ext w W ∧ BK W (wA2.heap.size) #[.bool swA1, .slice AwA1 nwA1 cwA1, .bool twA1, .slice BwA1 mwA1 dwA1, .bool swA2, .slice AwA2 nwA2 cwA2, .bool twA2, .slice BwA2 mwA2 dwA2] ∧ (⟨swA1, AwA1, nwA1, cwA1, twA1, BwA1, mwA1, dwA1⟩ : QC).At W ((-1 : Int) : Rat) ∧ (⟨swA2, AwA2, nwA2, cwA2, twA2, BwA2, mwA2, dwA2⟩ : QC).At W (Rat.divInt (1) 2)) ⟨EX, BY, QX, QX⟩ ?_
 rintro V2 U ⟨hW, Ra, ha0, ha1⟩
 have LwV2 := hW.size
 have HV20 := zH ha0
 clear ha0
 have HV21 := zH ha1
 clear ha1
 have La := Ra.lt
 refine Zbk w V2 wA2 swA1 AwA1 nwA1 cwA1 twA1 BwA1 mwA1 dwA1 swA2 AwA2 nwA2 cwA2 twA2 BwA2 mwA2 dwA2 U hW Ra HV20.out HV21.out _ ?_
 rintro a' Y2 ⟨U, rfl, hY⟩
 dsimp only [fr, frl, Nat.reduceBEq, Nat.reduceAdd, cond_true, cond_false]
 clear HV20 HV21 hW Ra La
 have hW := hY
 clear hY
 have Ly2 := hW.size
 have hflag1 : Ze 1 := trivial
 have hflag2 : Ze 2 := trivial
 have hflag3 : Ze 3 := trivial
 have hflag4 : Ze 4 := trivial
 have hflag5 : Ze 5 := trivial
 have hflag6 : Ze 6 := trivial
 have hflag7 : Ze 7 := trivial
 have hflag8 : Ze 8 := trivial
 have hflag9 : Ze 9 := trivial
 have hflag10 : Ze 10 := trivial
 have hflag11 : Ze 11 := trivial
 have hflag12 : Ze 12 := trivial
 go_wp2_with (
   first
   | ((have hfl : Ze 1 := (by with_reducible assumption)); clear hfl hflag1; (go_at_call 29; (with_reducible refine (Z0C (1) (2) _ (by decide) (by decide) (by decide) (by decide)).mono ?_); refine rBz ?_; intro wB1 pwB1 qwB1 HwB1 KwB1 hbwB1 hzwB1))
   | ((have hfl : Ze 2 := (by with_reducible assumption)); clear hfl hflag2; (go_at_call 29; (with_reducible refine (Z0C (-2) (-1) _ (by decide) (by decide) (by decide) (by decide)).mono ?_); refine rBz ?_; intro wB2 pwB2 qwB2 HwB2 KwB2 hbwB2 hzwB2))
   | ((have hfl : Ze 3 := (by with_reducible assumption)); clear hfl hflag3; (go_at_call 19; (with_reducible refine (Z9h pwB1 qwB1 pwB2 qwB2 ((1 : Int) : Rat) ((2 : Int) : Rat) ((-2 : Int) : Rat) ((-1 : Int) : Rat) _ QX QX QX QX (by decide +kernel) (by decide +kernel) (by decide +kernel) (by decide +kernel)).mono ?_); refine rBz ?_; intro wB3 pwB3 qwB3 HwB3 KwB3 hbwB3 hzwB3))
   | ((have hfl : Ze 4 := (by with_reducible assumption)); clear hfl hflag4; (with_reducible refine (id ?_ : wpList _ _ _ (⟨none, _, _, _, _, _⟩ :: _) _ _)); (obtain ⟨WB1, hWe⟩ : ∃ W, wB3.alloc (.cells #[.bool false, .slice none 0 0, .bool false, .slice none 0 0, .bool false, .slice none 0 0, .bool false, .slice none 0 0] 28) = W := ⟨_, rfl⟩); (have RWB1 : BK WB1 wB3.heap.size zA5 := (by rw [← hWe]; exact BY)); (have EWB1 : Ext wB3 WB1 := (by rw [← hWe]; exact EX)); rw [hWe]; clear hWe; have LWB1 := RWB1.lt; have hzWB1 := EWB1.size; have FWB1 := RWB1.c8)
   | ((have hfl : Ze 5 := (by with_reducible assumption)); clear hfl hflag5; (go_at_call 29; (with_reducible refine (Z0C (1) (2) _ (by decide) (by decide) (by decide) (by decide)).mono ?_); refine rBz ?_; intro wB4 pwB4 qwB4 HwB4 KwB4 hbwB4 hzwB4))
   | ((have hfl : Ze 6 := (by with_reducible assumption)); clear hfl hflag6; (go_at_call 29; (with_reducible refine (Z0C (-1) (1) _ (by decide) (by decide) (by decide) (by decide)).mono ?_); refine rBz ?_; intro wB5 pwB5 qwB5 HwB5 KwB5 hbwB5 hzwB5))
   | ((have hfl : Ze 7 := (by with_reducible assumption)); clear hfl hflag7; (go_at_call 19; (with_reducible refine (Z3v pwB4 qwB4 pwB5 qwB5 ((1 : Int) : Rat) ((2 : Int) : Rat) ((-1 : Int) : Rat) ((1 : Int) : Rat) _ QX QX QX QX (by decide +kernel) (by decide +kernel)).mono ?_); rintro e wB6 ⟨rfl, hbwB6⟩; have := hbwB6.sz))
   | ((have hfl : Ze 8 := (by with_reducible assumption)); clear hfl hflag8; (with_reducible refine (id ?_ : wpList _ _ _ (⟨none, _, _, _, _, _⟩ :: _) _ _)); (obtain ⟨WB2, hWe⟩ : ∃ W, wB6.alloc (.cells #[.bool false, .slice none 0 0, .bool false, .slice none 0 0, .bool false, .slice none 0 0, .bool false, .slice none 0 0] 28) = W := ⟨_, rfl⟩); (have RWB2 : BK WB2 wB6.heap.size zA5 := (by rw [← hWe]; exact BY)); (have EWB2 : Ext wB6 WB2 := (by rw [← hWe]; exact EX)); rw [hWe]; clear hWe; have LWB2 := RWB2.lt; have hzWB2 := EWB2.size; have FWB2 := RWB2.c8)
   | ((have hfl : Ze 9 := (by with_reducible assumption)); clear hfl hflag9; (go_at_call 48; (with_reducible refine (ZK (1) (3) _ (by decide) (by decide) (by decide) (by decide) (by decide)).mono ?_); refine rQz ?_; intro wB7 swB7 AwB7 nwB7 cwB7 twB7 BwB7 mwB7 dwB7 HwB7 hbwB7 hzwB7))
   | ((have hfl : Ze 10 := (by with_reducible assumption)); clear hfl hflag10; (go_at_call 48; (with_reducible refine (ZK (1) (3) _ (by decide) (by decide) (by decide) (by decide) (by decide)).mono ?_); refine rQz ?_; intro wB8 swB8 AwB8 nwB8 cwB8 twB8 BwB8 mwB8 dwB8 HwB8 hbwB8 hzwB8))
   | ((have hfl : Ze 11 := (by with_reducible assumption)); clear hfl hflag11; (go_at_call 22; (with_reducible refine (Z6f ⟨swB7, AwB7, nwB7, cwB7, twB7, BwB7, mwB7, dwB7⟩ ⟨swB8, AwB8, nwB8, cwB8, twB8, BwB8, mwB8, dwB8⟩ (Rat.divInt (1) 3) (Rat.divInt (1) 3) 2 _ QX QX (by decide) (by decide +kernel)).mono ?_); refine rBz ?_; intro wB9 pwB9 qwB9 HwB9 KwB9 hbwB9 hzwB9))
   | ((have hfl : Ze 12 := (by with_reducible assumption)); clear hfl hflag12; (with_reducible refine (id ?_ : wpList _ _ _ (⟨none, _, _, _, _, _⟩ :: _) _ _)); (obtain ⟨WB3, hWe⟩ : ∃ W, wB9.alloc (.cells #[.bool false, .slice none 0 0, .bool false, .slice none 0 0, .bool false, .slice none 0 0, .bool false, .slice none 0 0] 28) = W := ⟨_, rfl⟩); (have RWB3 : BK WB3 wB9.heap.size zA5 := (by rw [← hWe]; exact BY)); (have EWB3 : Ext wB9 WB3 := (by rw [← hWe]; exact EX)); rw [hWe]; clear hWe; have LWB3 := RWB3.lt; have hzWB3 := EWB3.size; have FWB3 := RWB3.c8))
 refine ZQ 222 [(0, .bool false), (2, .pointer (some ⟨wB3.heap.size, 0, none⟩)), (3, .int .i64 0), (5, .int .i64 5), (6, .pointer (some ⟨wB9.heap.size, 0, none⟩)), (7, .int .i64 0)] (fun W => Ext w W ∧ BK W (wB3.heap.size) (zA0 pwB3 qwB3) ∧ BK W (wB9.heap.size) (zA0 pwB9 qwB9) ∧ pwB3.At W (Z5y ((1 : Int) : Rat) ((2 : Int) : Rat) ((-2 : Int) : Rat) ((-1 : Int) : Rat)) ∧ qwB3.At W (Z5z ((1 : Int) : Rat) ((2 : Int) : Rat) ((-2 : Int) : Rat) ((-1 : Int) : Rat)) ∧ pwB9.At W (Zl (Rat.divInt (1) 3) 2) ∧ qwB9.At W (-Zl (-(Rat.divInt (1) 3)) 2)) ⟨EX, BY, BY, QX, QX, QX, QX⟩ ?_
 rintro V7 U ⟨hW, Rd, Rr, ha0, ha1, ha2, ha3⟩
 have LwV7 := hW.size
 have HV70 := zH ha0
 clear ha0
 have HV71 := zH ha1
 clear ha1
 have HV72 := zH ha2
 clear ha2
 have HV73 := zH ha3
 clear ha3
 have Ld := Rd.lt
 have Lr := Rr.lt
 refine Zbj w V7 wB3 wB9 pwB3 qwB3 pwB9 qwB9 U hW Rd Rr HV70.out HV71.out HV72.out HV73.out _ ?_
 rintro a' Y7 ⟨U, rfl, hY⟩
 dsimp only [fr, frl, Nat.reduceBEq, Nat.reduceAdd, cond_true, cond_false]
 clear HV70 HV71 HV72 HV73 hW Rd Rr Ld Lr
 have hW := hY
 clear hY
 have Ly7 := hW.size
 have hflag1 : Ze 1 := trivial
 have hflag2 : Ze 2 := trivial
 have hflag3 : Ze 3 := trivial
 have hflag4 : Ze 4 := trivial
 have hflag5 : Ze 5 := trivial
 have hflag6 : Ze 6 := trivial
 have hflag7 : Ze 7 := trivial
 have hflag8 : Ze 8 := trivial
 have hflag9 : Ze 9 := trivial
 have hflag10 : Ze 10 := trivial
 have hflag11 : Ze 11 := trivial
 have hflag12 : Ze 12 := trivial
 have hflag13 : Ze 13 := trivial
 have hflag14 : Ze 14 := trivial
 have hflag15 : Ze 15 := trivial
 have hflag16 : Ze 16 := trivial
 go_wp2_with (
   first
   | ((have hfl : Ze 1 := (by with_reducible assumption)); clear hfl hflag1; (go_at_call 27; (with_reducible refine (Zw (1) _ (by decide) (by decide)).mono ?_); refine rQz ?_; intro wC1 swC1 AwC1 nwC1 cwC1 twC1 BwC1 mwC1 dwC1 HwC1 hbwC1 hzwC1))
   | ((have hfl : Ze 2 := (by with_reducible assumption)); clear hfl hflag2; (go_at_call 25; (with_reducible refine (ZbA ⟨swC1, AwC1, nwC1, cwC1, twC1, BwC1, mwC1, dwC1⟩ _ QX).mono ?_); rintro e wC2 ⟨lowC2, hiwC2, ⟨hPawC2, hPbwC2, ⟨hPcwC2, hPdwC2⟩, hPewC2, hPfwC2⟩, pwC2, qwC2, rfl, hQ, hQ', hbwC2⟩; have HwC2 := zH hQ; have KwC2 := zH hQ'; clear hQ hQ'; have := hbwC2.sz))
   | ((have hfl : Ze 3 := (by with_reducible assumption)); clear hfl hflag3; (with_reducible refine (id ?_ : wpList _ _ _ (⟨none, _, _, _, _, _⟩ :: _) _ _)); (obtain ⟨WC1, hWe⟩ : ∃ W, wC2.alloc (.cells #[.bool false, .slice none 0 0, .bool false, .slice none 0 0, .bool false, .slice none 0 0, .bool false, .slice none 0 0] 28) = W := ⟨_, rfl⟩); (have RWC1 : BK WC1 wC2.heap.size zA5 := (by rw [← hWe]; exact BY)); (have EWC1 : Ext wC2 WC1 := (by rw [← hWe]; exact EX)); rw [hWe]; clear hWe; have LWC1 := RWC1.lt; have hzWC1 := EWC1.size; have FWC1 := RWC1.c8)
   | ((have hfl : Ze 4 := (by with_reducible assumption)); clear hfl hflag4; (go_at_call 27; (with_reducible refine (Zw (2) _ (by decide) (by decide)).mono ?_); refine rQz ?_; intro wC3 swC3 AwC3 nwC3 cwC3 twC3 BwC3 mwC3 dwC3 HwC3 hbwC3 hzwC3))
   | ((have hfl : Ze 5 := (by with_reducible assumption)); clear hfl hflag5; (go_at_call 33; (with_reducible refine (Zbz ⟨swC3, AwC3, nwC3, cwC3, twC3, BwC3, mwC3, dwC3⟩ _ QX).mono ?_); rintro e wC4 ⟨lowC4, hiwC4, ⟨hPawC4, hPbwC4, ⟨hPcwC4, hPdwC4⟩, hPewC4, hPfwC4⟩, pwC4, qwC4, rfl, hQ, hQ', hbwC4⟩; have HwC4 := zH hQ; have KwC4 := zH hQ'; clear hQ hQ'; have := hbwC4.sz))
   | ((have hfl : Ze 6 := (by with_reducible assumption)); clear hfl hflag6; (with_reducible refine (id ?_ : wpList _ _ _ (⟨none, _, _, _, _, _⟩ :: _) _ _)); (obtain ⟨WC2, hWe⟩ : ∃ W, wC4.alloc (.cells #[.bool false, .slice none 0 0, .bool false, .slice none 0 0, .bool false, .slice none 0 0, .bool false, .slice none 0 0] 28) = W := ⟨_, rfl⟩); (have RWC2 : BK WC2 wC4.heap.size zA5 := (by rw [← hWe]; exact BY)); (have EWC2 : Ext wC4 WC2 := (by rw [← hWe]; exact EX)); rw [hWe]; clear hWe; have LWC2 := RWC2.lt; have hzWC2 := EWC2.size; have FWC2 := RWC2.c8)
   | ((have hfl : Ze 7 := (by with_reducible assumption)); clear hfl hflag7; (go_at_call 27; (with_reducible refine (Zw (0) _ (by decide) (by decide)).mono ?_); refine rQz ?_; intro wC5 swC5 AwC5 nwC5 cwC5 twC5 BwC5 mwC5 dwC5 HwC5 hbwC5 hzwC5))
   | ((have hfl : Ze 8 := (by with_reducible assumption)); clear hfl hflag8; (go_at_call 33; (with_reducible refine (Z6D ⟨swC5, AwC5, nwC5, cwC5, twC5, BwC5, mwC5, dwC5⟩ ((0 : Int) : Rat) 5 _ QX (by decide +kernel) (by decide) (by decide +kernel)).mono ?_); rintro e wC6 ⟨rfl, hbwC6⟩; have := hbwC6.sz))
   | ((have hfl : Ze 9 := (by with_reducible assumption)); clear hfl hflag9; (go_at_call 27; (with_reducible refine (Zw (301) _ (by decide) (by decide)).mono ?_); refine rQz ?_; intro wC7 swC7 AwC7 nwC7 cwC7 twC7 BwC7 mwC7 dwC7 HwC7 hbwC7 hzwC7))
   | ((have hfl : Ze 10 := (by with_reducible assumption)); clear hfl hflag10; (go_at_call 25; (with_reducible refine (Z5L ⟨swC7, AwC7, nwC7, cwC7, twC7, BwC7, mwC7, dwC7⟩ ((301 : Int) : Rat) 5 _ QX (by decide +kernel) (by decide) (by decide +kernel)).mono ?_); rintro e wC8 ⟨rfl, hbwC8⟩; have := hbwC8.sz))
   | ((have hfl : Ze 11 := (by with_reducible assumption)); clear hfl hflag11; (with_reducible refine (id ?_ : wpList _ _ _ (⟨none, _, _, _, _, _⟩ :: _) _ _)); (obtain ⟨WC3, hWe⟩ : ∃ W, wC8.alloc (.cells #[.bool false, .slice none 0 0, .bool false, .slice none 0 0, .bool false, .slice none 0 0, .bool false, .slice none 0 0] 28) = W := ⟨_, rfl⟩); (have RWC3 : BK WC3 wC8.heap.size zA5 := (by rw [← hWe]; exact BY)); (have EWC3 : Ext wC8 WC3 := (by rw [← hWe]; exact EX)); rw [hWe]; clear hWe; have LWC3 := RWC3.lt; have hzWC3 := EWC3.size; have FWC3 := RWC3.c8)
   | ((have hfl : Ze 12 := (by with_reducible assumption)); clear hfl hflag12; (go_at_call 27; (with_reducible refine (Zw (1) _ (by decide) (by decide)).mono ?_); refine rQz ?_; intro wC9 swC9 AwC9 nwC9 cwC9 twC9 BwC9 mwC9 dwC9 HwC9 hbwC9 hzwC9))
   | ((have hfl : Ze 13 := (by with_reducible assumption)); clear hfl hflag13; (go_at_call 25; (with_reducible refine (Z7D ⟨swC9, AwC9, nwC9, cwC9, twC9, BwC9, mwC9, dwC9⟩ ((1 : Int) : Rat) 401 _ QX (by decide +kernel) (by decide)).mono ?_); rintro e wC10 ⟨rfl, hbwC10⟩; have := hbwC10.sz))
   | ((have hfl : Ze 14 := (by with_reducible assumption)); clear hfl hflag14; (with_reducible refine (id ?_ : wpList _ _ _ (⟨none, _, _, _, _, _⟩ :: _) _ _)); (obtain ⟨WC4, hWe⟩ : ∃ W, wC10.alloc (.cells #[.bool false, .slice none 0 0, .bool false, .slice none 0 0, .bool false, .slice none 0 0, .bool false, .slice none 0 0] 28) = W := ⟨_, rfl⟩); (have RWC4 : BK WC4 wC10.heap.size zA5 := (by rw [← hWe]; exact BY)); (have EWC4 : Ext wC10 WC4 := (by rw [← hWe]; exact EX)); rw [hWe]; clear hWe; have LWC4 := RWC4.lt; have hzWC4 := EWC4.size; have FWC4 := RWC4.c8; obtain ⟨Ra, La, Fa⟩ := BC8 WC4 wC2.heap.size; obtain ⟨Rb, Lb, Fb⟩ := BC8 WC4 wC4.heap.size)
   | ((have hfl : Ze 15 := (by with_reducible assumption)); clear hfl hflag15; (go_at_call 30; (with_reducible refine (Z3m pwC2 qwC2 lowC2 hiwC2 20 _ QX QX hPawC2 (by decide) (by decide) hPbwC2 (by have h1 := hPewC2; have h2 := hPfwC2; have : 30000 < Z8 := (by decide); omega)).mono ?_); rintro e wC11 ⟨rfl, hbwC11⟩; have := hbwC11.sz; obtain ⟨Ra, La, Fa⟩ := BC8 wC11 wC2.heap.size; obtain ⟨Rb, Lb, Fb⟩ := BC8 wC11 wC4.heap.size))
   | ((have hfl : Ze 16 := (by with_reducible assumption)); clear hfl hflag16; (go_at_call 30; (with_reducible refine (Z3m pwC4 qwC4 lowC4 hiwC4 20 _ QX QX hPawC4 (by decide) (by decide) hPbwC4 (by have h1 := hPewC4; have h2 := hPfwC4; have : 30000 < Z8 := (by decide); omega)).mono ?_); rintro e wC12 ⟨rfl, hbwC12⟩; have := hbwC12.sz; obtain ⟨Ra, La, Fa⟩ := BC8 wC12 wC2.heap.size; obtain ⟨Rb, Lb, Fb⟩ := BC8 wC12 wC4.heap.size)))
 refine ZQ 222 [(0, .bool false), (8, .pointer (some ⟨wC2.heap.size, 0, none⟩)), (9, .pointer (some ⟨wC4.heap.size, 0, none⟩))] (fun W => Ext w W ∧ BK W (wC2.heap.size) (zA0 pwC2 qwC2) ∧ BK W (wC4.heap.size) (zA0 pwC4 qwC4) ∧ pwC2.At W lowC2 ∧ qwC2.At W hiwC2 ∧ pwC4.At W lowC4 ∧ qwC4.At W hiwC4) ⟨EX, BY, BY, QX, QX, QX, QX⟩ ?_
 rintro V16 U ⟨hW, Rx, Ry, ha0, ha1, ha2, ha3⟩
 have LwV16 := hW.size
 have HV160 := zH ha0
 clear ha0
 have HV161 := zH ha1
 clear ha1
 have HV162 := zH ha2
 clear ha2
 have HV163 := zH ha3
 clear ha3
 have Lx := Rx.lt
 have Ly := Ry.lt
 refine Zan w V16 wC2 wC4 pwC2 qwC2 pwC4 qwC4 lowC2 hiwC2 lowC4 hiwC4 hPcwC2 hPdwC2 hPewC2 hPfwC2 hPcwC4 hPdwC4 hPewC4 hPfwC4 U hW Rx Ry HV160.out HV161.out HV162.out HV163.out _ ?_
 rintro a' Y16 ⟨U, rfl, hY⟩
 dsimp only [fr, frl, Nat.reduceBEq, Nat.reduceAdd, cond_true, cond_false]
 clear HV160 HV161 HV162 HV163 hW Rx Ry Lx Ly
 have hW := hY
 clear hY
 have Ly16 := hW.size
 have hflag1 : Ze 1 := trivial
 have hflag2 : Ze 2 := trivial
 have hflag3 : Ze 3 := trivial
 have hflag4 : Ze 4 := trivial
 have hflag5 : Ze 5 := trivial
 have hflag6 : Ze 6 := trivial
 go_wp2_with (
   first
   | ((have hfl : Ze 1 := (by with_reducible assumption)); clear hfl hflag1; (go_at_call 50; (with_reducible refine (Z3B _).mono ?_); rintro e wD1 ⟨qwD1, rfl, hQ, hbwD1⟩; have HwD1 := zH hQ; clear hQ; have := hbwD1.sz))
   | ((have hfl : Ze 2 := (by with_reducible assumption)); clear hfl hflag2; (go_at_call 52; (with_reducible refine (Z8r _).mono ?_); rintro e wD2 ⟨gn, gd, a, b, c, rfl, hCn, hCd, ha, hb', hc, hgn, hgd, hln, hld, hbwD2⟩; have Ha := zH ha; have Hb := zH hb'; have Hc := zH hc; clear ha hb' hc; have := hbwD2.sz))
   | ((have hfl : Ze 3 := (by with_reducible assumption)); clear hfl hflag3; (go_at_call 50; (with_reducible refine (Z3B _).mono ?_); rintro e wD3 ⟨qwD3, rfl, hQ, hbwD3⟩; have HwD3 := zH hQ; clear hQ; have := hbwD3.sz))
   | ((have hfl : Ze 4 := (by with_reducible assumption)); clear hfl hflag4; (go_at_call 51; (with_reducible refine (Z8p gn gd 2 1 a b c qwD3 _ CX CX QX QX QX QX).mono ?_); rintro e wD4 ⟨k1, k2, j1, j2, a', b', c', rfl, hC1, hC2, ha, hb', hc, hd1, hd2, hg1, hg2, hl1, hl2, hbwD4⟩; have Ha' := zH ha; have Hb' := zH hb'; have Hc' := zH hc; clear ha hb' hc; have := hbwD4.sz))
   | ((have hfl : Ze 5 := (by with_reducible assumption)); clear hfl hflag5; (go_at_call 49; (with_reducible refine (Z7o k1 k2 j1 j2 a' b' c' qwD1 _ CX CX QX QX QX QX).mono ?_); rintro e wD5 ⟨g1, g2, d1, d2, ea, eb, ec, rfl, hD1, hD2, ha, hb', hc, hd3, hd4, hg3, hg4, hl3, hl4, hbwD5⟩; have Hea := zH ha; have Heb := zH hb'; have Hec := zH hc; clear ha hb' hc; have := hbwD5.sz))
   | ((have hfl : Ze 6 := (by with_reducible assumption)); clear hfl hflag6; (with_reducible refine (id ?_ : wpList _ _ _ (⟨none, _, _, _, _, _⟩ :: _) _ _)); (obtain ⟨WD1, hWe⟩ : ∃ W, wD5.alloc (.cells #[.int .i64 0, .bool false, .slice none 0 0, .bool false, .slice none 0 0, .slice none 0 0, .slice none 0 0] 70) = W := ⟨_, rfl⟩); (have RWD1 : BK WD1 wD5.heap.size Z1T := (by rw [← hWe]; exact BY)); (have EWD1 : Ext wD5 WD1 := (by rw [← hWe]; exact EX)); rw [hWe]; clear hWe; have LWD1 := RWD1.lt; have hzWD1 := EWD1.size; have FWD1 := RWD1.c7))
 refine ZQ 222 [(0, .bool false), (14, .slice (some ⟨Y16.heap.size, 0, none⟩) 1 1), (15, .pointer (some ⟨wD5.heap.size, 0, none⟩))] (fun W => Ext w W ∧ BK W (wD5.heap.size) (Z0M g1 d1 g2 d2) ∧ ea.At W ((1 : Int) : Rat) ∧ eb.At W ((-1 : Int) : Rat) ∧ ec.At W ((1 : Int) : Rat) ∧ CK W Y16.heap.size [.int .i64 1] ∧ CK W g1 (zL6 ea) ∧ CK W g2 (zL1 eb ec)) ⟨EX, BY, QX, QX, QX, by exact CK.take1 (BY : BK _ Y16.heap.size #[.int .i64 1, .int .i64 0, .bool false, .slice none 0 0, .bool false, .slice none 0 0, .slice none 0 0, .slice none 0 0]).ck, CX, CX⟩ ?_
 rintro V20 U ⟨hW, Re, ha0, ha1, ha2, Ct, Cn, Cd⟩
 have LwV20 := hW.size
 have HV200 := zH ha0
 clear ha0
 have HV201 := zH ha1
 clear ha1
 have HV202 := zH ha2
 clear ha2
 have Le := Re.lt
 have Lt := Ct.lt
 have Ln := Cn.lt
 have Ld := Cd.lt
 clear Ha Hb Hc Ha' Hb' Hc' hCn hCd hC1 hC2 hD1 hD2
 refine Zam w V20 Y16 wD5 g1 g2 d1 d2 ea eb ec U hW Re HV200.out HV201.out HV202.out Ct Cn Cd _ ?_
 rintro a' Y20 ⟨g16, pv, qv, U, rfl, hY, hY0, hg16, Rv, hpv, hqv⟩
 dsimp only [fr, frl, Nat.reduceBEq, Nat.reduceAdd, cond_true, cond_false]
 have Hpv := zH hpv
 have Hqv := zH hqv
 clear hpv hqv
 go_wp2_with fail
 refine ZQ 222 [(0, .bool false), (3, .int .i64 0), (14, .slice (some ⟨Y16.heap.size, 0, none⟩) 1 1), (15, .pointer (some ⟨wD5.heap.size, 0, none⟩)), (16, .pointer (some ⟨g16, 0, none⟩))] (fun W => Ext w W ∧ BK W (wD5.heap.size) (Z0M g1 d1 g2 d2) ∧ BK W (g16) (zA0 pv qv) ∧ ea.At W ((1 : Int) : Rat) ∧ eb.At W ((-1 : Int) : Rat) ∧ ec.At W ((1 : Int) : Rat) ∧ pv.At W (1 / 2) ∧ qv.At W (1 / 2) ∧ CK W Y16.heap.size [.int .i64 1] ∧ CK W g1 (zL6 ea) ∧ CK W g2 (zL1 eb ec)) ⟨EX, BY, BY, QX, QX, QX, QX, QX, CX, CX, CX⟩ ?_
 rintro V21 U ⟨hW, Rf, Rv, ha0, ha1, ha2, ha3, ha4, Ct, Cn, Cd⟩
 have LwV21 := hW.size
 have HV210 := zH ha0
 clear ha0
 have HV211 := zH ha1
 clear ha1
 have HV212 := zH ha2
 clear ha2
 have HV213 := zH ha3
 clear ha3
 have HV214 := zH ha4
 clear ha4
 have Lf := Rf.lt
 have Lv := Rv.lt
 have Lt := Ct.lt
 have Ln := Cn.lt
 have Ld := Cd.lt
 refine Zal w V21 Y16 wD5 g1 g2 d1 d2 g16 ea eb ec pv qv U hW Rf Rv HV210.out HV211.out HV212.out HV213.out HV214.out Ct Cn Cd _ ?_
 rintro a' Y21 ⟨U, rfl, hY2, Rv, hpv, hqv⟩
 dsimp only [fr, frl, Nat.reduceBEq, Nat.reduceAdd, cond_true, cond_false]
 clear Hpv Hqv HV210 HV211 HV212 HV213 HV214 HV200 HV201 HV202
 have Hpv := zH hpv
 have Hqv := zH hqv
 clear hpv hqv
 have Lv := Rv.lt
 have Ly21 := hY2.size
 have hflag1 : Ze 1 := trivial
 have hflag2 : Ze 2 := trivial
 have hflag3 : Ze 3 := trivial
 have hflag4 : Ze 4 := trivial
 have hflag5 : Ze 5 := trivial
 have hflag6 : Ze 6 := trivial
 have hflag7 : Ze 7 := trivial
 go_wp2_with (
   first
   | ((have hfl : Ze 1 := (by with_reducible assumption)); clear hfl hflag1; (go_at_call 56; (with_reducible refine (ZbB _).mono ?_); rintro e wE1 ⟨rfl, hbwE1⟩; have := hbwE1.sz))
   | ((have hfl : Ze 2 := (by with_reducible assumption)); clear hfl hflag2; (go_at_call 57; (with_reducible refine (Z7n 1 _ (by decide) (by decide)).mono ?_); rintro e wE2 ⟨qk, rfl, hqk, hbwE2⟩; have Hqk := zH hqk; clear hqk; have := hbwE2.sz))
   | ((have hfl : Ze 3 := (by with_reducible assumption)); clear hfl hflag3; (go_at_call 55; (with_reducible refine (Z9I qk _).mono ?_); rintro e wE3 ⟨gs, rfl, hCs, hgs, hls, hbwE3⟩; have := hbwE3.sz))
   | ((have hfl : Ze 4 := (by with_reducible assumption)); clear hfl hflag4; (go_at_call 54; (with_reducible refine (Z9J gs _).mono ?_); rintro e wE4 ⟨gh, rfl, hCh, hgh, hlh, hbwE4⟩; have := hbwE4.sz))
   | ((have hfl : Ze 5 := (by with_reducible assumption)); clear hfl hflag5; (go_at_call 27; (with_reducible refine (Zw (2) _ (by decide) (by decide)).mono ?_); refine rQz ?_; intro wE5 swE5 AwE5 nwE5 cwE5 twE5 BwE5 mwE5 dwE5 HwE5 hbwE5 hzwE5))
   | ((have hfl : Ze 6 := (by with_reducible assumption)); clear hfl hflag6; (go_at_call 42; (with_reducible refine (ZaP gh gs 30 qk ⟨swE5, AwE5, nwE5, cwE5, twE5, BwE5, mwE5, dwE5⟩ ((2 : Int) : Rat) ((1 : Int) : Rat) _ CX CX QX QX (by decide +kernel) (by decide +kernel) (by decide) (by decide) (by decide +kernel)).mono ?_); refine rBz ?_; intro wE6 pwE6 qwE6 HwE6 KwE6 hbwE6 hzwE6))
   | ((have hfl : Ze 7 := (by with_reducible assumption)); clear hfl hflag7; (with_reducible refine (id ?_ : wpList _ _ _ (⟨none, _, _, _, _, _⟩ :: _) _ _)); (obtain ⟨WE1, hWe⟩ : ∃ W, wE6.alloc (.cells #[.bool false, .slice none 0 0, .bool false, .slice none 0 0, .bool false, .slice none 0 0, .bool false, .slice none 0 0] 28) = W := ⟨_, rfl⟩); (have RWE1 : BK WE1 wE6.heap.size zA5 := (by rw [← hWe]; exact BY)); (have EWE1 : Ext wE6 WE1 := (by rw [← hWe]; exact EX)); rw [hWe]; clear hWe; have LWE1 := RWE1.lt; have hzWE1 := EWE1.size; have FWE1 := RWE1.c8))
 clear Hqk hCs hCh Ct Cn Cd
 refine ZQ 222 [(0, .bool false), (3, .int .i64 0), (5, .int .i64 5), (7, .int .i64 0), (16, .pointer (some ⟨g16, 0, none⟩)), (17, .pointer (some ⟨wE6.heap.size, 0, none⟩))] (fun W => Ext w W ∧ BK W (g16) (zA0 pv qv) ∧ BK W (wE6.heap.size) (zA0 pwE6 qwE6) ∧ pv.At W (1 / 2) ∧ qv.At W (1 / 2) ∧ pwE6.At W 0 ∧ qwE6.At W 0) ⟨EX, BY, BY, QX, QX, QX, QX⟩ ?_
 rintro V23 U ⟨hW, Rv, Rz, ha0, ha1, ha2, ha3⟩
 have LwV23 := hW.size
 have HV230 := zH ha0
 clear ha0
 have HV231 := zH ha1
 clear ha1
 have HV232 := zH ha2
 clear ha2
 have HV233 := zH ha3
 clear ha3
 have Lv := Rv.lt
 have Lz := Rz.lt
 refine Zak w V23 wE6 g16 pv qv pwE6 qwE6 U hW Rv Rz HV230.out HV231.out HV232.out HV233.out _ ?_
 rintro a' Y23 ⟨U, rfl, hY⟩
 dsimp only [fr, frl, Nat.reduceBEq, Nat.reduceAdd, cond_true, cond_false]
 go_wp2_with fail
 all_goals go_ret
 all_goals exact ⟨rfl, hY⟩
end Go.Proofs.YtnmmncccpdffaaaGreat
