/- What BoundBoxes calls, part 7. -/
import Derived.RangeFuncNested
import Derived.RangeFuncCalls
import Derived.RangeFuncLeaves
import Derived.Deep.RegionHeld
import Derived.Test.YtnmmncccpdffaaaGreatQ06
set_option linter.unusedVariables false
set_option linter.unusedSimpArgs false
set_option maxRecDepth 100000
set_option maxHeartbeats 16000000
namespace Go.Proofs.YtnmmncccpdffaaaGreat
open Go.Proofs.Tryz Go Go.RowKit Go.Shelf
def SAt (w : World) (p : QC) (x y : Int) : Prop := IAt w p.s p.A p.n p.c x ∧ IAt w p.t p.B p.m p.d y
def Z5N (w : World) (x y : Int) (e : Ending) (w' : World) : Prop := ∃ p : QC, e = .returned (.agg #[.bool p.s, .slice p.A p.n p.c, .bool p.t, .slice p.B p.m p.d]) ∧ IAt w' p.s p.A p.n p.c x ∧ IAt w' p.t p.B p.m p.d y ∧ Ext w w'
def ZcC (w : World) (k z : Int) (e : Ending) (w' : World) : Prop := ∃ s A n c, e = .returned (.agg #[.int .i64 k, .bool s, .slice A n c]) ∧ IAt w' s A n c z ∧ Ext w w'
def upI (x y : Int) : Int := -((-x) / y)
theorem Zdf (x y : Int) (hy : 0 < y) : wl (upI x y) ≤ wl x := by unfold upI; rw [Z3w]; have := Z8N (-x) y hy; rwa [Z3w] at this
theorem Z0F (s1 s2 : Bool) (A1 A2 : Option Addr) (n1 c1 n2 c2 : Nat) (x y : Int) (w : World) (h1 : IAt w s1 A1 n1 c1 x) (h2 : IAt w s2 A2 n2 c2 y) (hs1 : n1 + 2 < Z8) (hs2 : n2 + 2 < Z8) (hy : y ≠ 0) :
  Ca 221 #[.agg #[.bool s1, .slice A1 n1 c1], .agg #[.bool s2, .slice A2 n2 c2]] w (Z1F w (x / y)) := by
 have H1 := zH h1
 have H2 := zH h2
 clear h1 h2
 go_enter func221, ntmps221
 go_wp2_with (go_at_call 255; (with_reducible refine (Z6b (h1 := IX) (h2 := IX) (hs1 := hs1) (hs2 := hs2) (hy := hy)).mono ?_); rintro e w1 ⟨sw1, Aw1, nw1, cw1, tw1, Bw1, mw1, dw1, rfl, hQ, hR, hbw1⟩; have Hw1 := zH hQ; clear hQ hR; obtain ⟨R2, L2, F2⟩ := BC2 w1 (w.heap.size + 1 + 1); have L2a : w.heap.size + 1 + 1 < w1.heap.size + 1 := (by omega))
 refine bodyPost_ret (v := .agg #[.bool sw1, .slice Aw1 nw1 cw1]) (by simp [results, results221, go_sem, Z6, F2, L2, L2a]) rfl ⟨_, _, _, _, rfl, IX, EX⟩
theorem Z1h (s1 s2 : Bool) (A1 A2 : Option Addr) (n1 c1 n2 c2 : Nat) (x y : Int) (w : World) (h1 : IAt w s1 A1 n1 c1 x) (h2 : IAt w s2 A2 n2 c2 y) (hs1 : n1 + 4 < Z8) (hs2 : n2 + 4 < Z8) (hy : 0 < y) :
  Ca 222 #[.agg #[.bool s1, .slice A1 n1 c1], .agg #[.bool s2, .slice A2 n2 c2]] w (Z1F w (upI x y)) := by
 have k1 := Nat.le_of_eq h1.wl.symm
 have k2 := Nat.le_of_eq h2.wl
 have k3 := Z3w x
 have k4 := Z8N (-x) y hy
 have hy' : y ≠ 0 := by omega
 unfold upI
 have H1 := zH h1
 have H2 := zH h2
 clear h1 h2
 go_enter func222, ntmps222
 go_wp2_with fail
 go_region_held3 (fun w' => zC w' w.heap.size 0 (.bool s1) ∧ zC w' w.heap.size 1 (.slice A1 n1 c1) ∧ zC w' (w.heap.size + 1) 0 (.bool s2) ∧ zC w' (w.heap.size + 1) 1 (.slice A2 n2 c2)) (first | (exact KQ) | (simp [go_sem, *]; done)) (first | (go_at_call 214; (with_reducible apply Calls.mono (args := #[.agg #[.bool s1, .slice A1 n1 c1]])); (focus (go_loud (with_reducible exact Z2U s1 A1 n1 c1 x _ IX (by omega)))); rintro e w1 ⟨sw1, Aw1, nw1, cw1, rfl, hQ, hbw1⟩; have Hw1 := zH hQ; clear hQ; obtain ⟨R2, L2, F2⟩ := BC2 w1 (w.heap.size + 1 + 1); have N1 := Nat.le_of_eq Hw1.out.wl) | (go_at_call 221; (with_reducible refine (Z0F (h1 := IX) (h2 := IX) (hs1 := by omega) (hs2 := by omega) (hy := hy')).mono ?_); refine rI ?_; intro w2 sw2 Aw2 nw2 cw2 Hw2 hbw2; obtain ⟨R2, L2, F2⟩ := BC2 w2 (w.heap.size + 1 + 1); have N2 := Nat.le_of_eq Hw2.out.wl) | (go_at_call 214; (with_reducible apply Calls.mono (args := #[.agg #[.bool sw2, .slice Aw2 nw2 cw2]])); (focus (go_loud (with_reducible exact Z2U sw2 Aw2 nw2 cw2 _ _ IX (by omega)))); rintro e w3 ⟨sw3, Aw3, nw3, cw3, rfl, hQ, hbw3⟩; have Hw3 := zH hQ; clear hQ; obtain ⟨R2, L2, F2⟩ := BC2 w3 (w.heap.size + 1 + 1)))
 all_goals go_wp2_with fail
 all_goals refine bodyPost_ret (v := .agg #[.bool sw3, .slice Aw3 nw3 cw3]) (by simp [results, results222, go_sem, Z6, F2]) rfl ⟨_, _, _, _, rfl, IX, EX⟩
theorem BK.c3 {w : World} {g : Nat} {a b c : Value} (h : BK w g #[a, b, c]) : w.cell? ⟨g, 0, none⟩ = some a ∧ w.cell? ⟨g, 1, none⟩ = some b ∧ w.cell? ⟨g, 2, none⟩ = some c ∧ ∀ o, w.frozen? ⟨g, o, none⟩ = false := ⟨h.cell 0, h.cell 1, h.cell 2, h.frozen⟩
theorem Z3t (k : Int) (w : World) (h0 : 0 ≤ k) (h1 : k ≤ 524288) :
  Ca 157 #[.int .i64 k] w (ZcC w k ((2 : Int) ^ k.toNat)) := by
 go_enter func157, ntmps157
 go_wp2_with (
  first
  | (go_at_call 148; (with_reducible refine (Zk 2 _ (by decide) (by decide)).mono ?_); refine rI ?_; intro w1 sw1 Aw1 nw1 cw1 Hw1 hbw1; obtain ⟨R0, L0, F0⟩ := BC3 w1 w.heap.size)
  | (go_at_call 219; (with_reducible refine (Z3S (h := IX) (h0 := h0) (hk := h1)).mono ?_); refine rI ?_; intro w2 sw2 Aw2 nw2 cw2 Hw2 hbw2; obtain ⟨R0, L0, F0⟩ := BC3 w2 w.heap.size))
 refine bodyPost_ret (v := .agg #[.int .i64 k, .bool sw2, .slice Aw2 nw2 cw2]) (by simp [results, results157, go_sem, Z6, F0, L0]) rfl ⟨_, _, _, _, rfl, IX, EX⟩
theorem Z0E (p q : QC) (s3 : Bool) (A3 : Option Addr) (n3 c3 : Nat) (a b c d e : Int) (w : World) (h1 : IAt w p.s p.A p.n p.c a) (h2 : IAt w p.t p.B p.m p.d b) (h3 : IAt w q.s q.A q.n q.c c) (h4 : IAt w q.t q.B q.m q.d d) (h5 : IAt w s3 A3 n3 c3 e) (he : 0 < e) (hs : wl a + wl b + wl c + wl d + wl e + 8 < Z8) :
  Ca 161 #[.agg (zA3 p), .agg (zA3 q), .agg #[.bool s3, .slice A3 n3 c3]] w (Z5N w (a * c / e) (upI (b * d) e)) := by
 have k1 := Nat.le_of_eq h1.wl
 have k2 := Nat.le_of_eq h2.wl
 have k3 := Nat.le_of_eq h3.wl
 have k4 := Nat.le_of_eq h4.wl
 have k5 := Nat.le_of_eq h5.wl
 have m1 := ZD a c
 have m2 := ZD b d
 have he' : e ≠ 0 := by omega
 have H1 := zH h1
 have H2 := zH h2
 have H3 := zH h3
 have H4 := zH h4
 have H5 := zH h5
 clear h1 h2 h3 h4 h5
 dsimp only [zA3]
 go_enter func161, ntmps161
 go_wp2_with fail
 go_region_held3 (fun w' => zC w' w.heap.size 0 (.bool p.s) ∧ zC w' w.heap.size 1 (.slice p.A p.n p.c) ∧ zC w' w.heap.size 2 (.bool p.t) ∧ zC w' w.heap.size 3 (.slice p.B p.m p.d) ∧ zC w' (w.heap.size + 1) 0 (.bool q.s) ∧ zC w' (w.heap.size + 1) 1 (.slice q.A q.n q.c) ∧ zC w' (w.heap.size + 1) 2 (.bool q.t) ∧ zC w' (w.heap.size + 1) 3 (.slice q.B q.m q.d) ∧ zC w' (w.heap.size + 1 + 1) 0 (.bool s3) ∧ zC w' (w.heap.size + 1 + 1) 1 (.slice A3 n3 c3)) (first | (exact KQ) | (simp [go_sem, *]; done)) (first | (go_at_call 131; (with_reducible apply Calls.mono (args := #[.agg #[.bool p.s, .slice p.A p.n p.c], .agg #[.bool q.s, .slice q.A q.n q.c]])); (focus (go_loud (with_reducible exact Zt p.s q.s p.A q.A p.n p.c q.n q.c a c _ IX IX (by omega)))); rintro e w1 ⟨sw1, Aw1, nw1, cw1, rfl, hQ, hbw1⟩; have Hw1 := zH hQ; clear hQ; obtain ⟨R3, L3, F3⟩ := BC4 w1 (w.heap.size + 1 + 1 + 1); have N1 := Nat.le_of_eq Hw1.out.wl) | (go_at_call 221; (with_reducible refine (Z0F (h1 := IX) (h2 := IX) (hs1 := by omega) (hs2 := by omega) (hy := he')).mono ?_); refine rI ?_; intro w2 sw2 Aw2 nw2 cw2 Hw2 hbw2; obtain ⟨R3, L3, F3⟩ := BC4 w2 (w.heap.size + 1 + 1 + 1)) | (go_at_call 131; (with_reducible apply Calls.mono (args := #[.agg #[.bool p.t, .slice p.B p.m p.d], .agg #[.bool q.t, .slice q.B q.m q.d]])); (focus (go_loud (with_reducible exact Zt p.t q.t p.B q.B p.m p.d q.m q.d b d _ IX IX (by omega)))); rintro e w3 ⟨sw3, Aw3, nw3, cw3, rfl, hQ, hbw3⟩; have Hw3 := zH hQ; clear hQ; obtain ⟨R3, L3, F3⟩ := BC4 w3 (w.heap.size + 1 + 1 + 1); have N3 := Nat.le_of_eq Hw3.out.wl) | (go_at_call 222; (with_reducible refine (Z1h (h1 := IX) (h2 := IX) (hs1 := by omega) (hs2 := by omega) (hy := he)).mono ?_); refine rI ?_; intro w4 sw4 Aw4 nw4 cw4 Hw4 hbw4; obtain ⟨R3, L3, F3⟩ := BC4 w4 (w.heap.size + 1 + 1 + 1)))
 all_goals go_wp2_with fail
 all_goals refine bodyPost_ret (v := .agg (Z01 sw2 Aw2 nw2 cw2 sw4 Aw4 nw4 cw4)) (by simp [Z01, results, results161, go_sem, Z6, F3]) rfl ⟨⟨_, _, _, _, _, _, _, _⟩, rfl, IX, IX, EX⟩
theorem ZaZ (k : Int) (s3 : Bool) (A3 : Option Addr) (n3 c3 : Nat) (q : QC) (x : Rat) (z : Int) (w : World) (hz : IAt w s3 A3 n3 c3 z) (hq : q.At w x) (hs : qm x + wl z + 20 < Z8) :
  Ca 160 #[.agg #[.int .i64 k, .bool s3, .slice A3 n3 c3], .agg (zA3 q)] w (Z5N w (x * (z : Rat)).floor ((x * (z : Rat)).floor + 1)) := by
 have k1 := Z32 z
 have k2 := Z09 x (z : Rat)
 have k3 := Z3x (x * (z : Rat))
 have k4 := Zo (z := 1) (by decide) (by decide)
 obtain ⟨f, hf⟩ : ∃ f, (x * (z : Rat)).floor = f := ⟨_, rfl⟩
 rw [hf] at k3 ⊢
 have HF := zH hf
 have HZ := zH hz
 have HX := zH hq
 clear hz hq hf
 dsimp only [zA3]
 go_enter func160, ntmps160
 go_wp2_with fail
 go_cut [5] (fun p5 wx => ∃ g5 s5 A5 n5 c5, p5 = .pointer (some ⟨g5, 0, none⟩) ∧ BK wx g5 #[.bool s5, .slice A5 n5 c5] ∧ IAt wx s5 A5 n5 c5 f ∧ BK wx (w.heap.size + 1 + 1) zA9 ∧ g5 ≠ w.heap.size + 1 + 1 ∧ Ext w wx)
 case first =>
  go_region_held3 (fun w' => zC w' w.heap.size 0 (.int .i64 k) ∧ zC w' w.heap.size 1 (.bool s3) ∧ zC w' w.heap.size 2 (.slice A3 n3 c3) ∧ zC w' (w.heap.size + 1) 0 (.bool q.s) ∧ zC w' (w.heap.size + 1) 1 (.slice q.A q.n q.c) ∧ zC w' (w.heap.size + 1) 2 (.bool q.t) ∧ zC w' (w.heap.size + 1) 3 (.slice q.B q.m q.d)) (first | (exact KQ) | (simp [go_sem, *]; done)) (first | (go_at_call 141; (with_reducible refine (Z14 (h := IX)).mono ?_); refine rQ ?_; intro w1 sw1 Aw1 nw1 cw1 tw1 Bw1 mw1 dw1 Hw1 hbw1; obtain ⟨R0, L0, F0⟩ := BC3 w1 w.heap.size; obtain ⟨R1, L1, F1⟩ := B41 w1 w; have := hbw1.sz; (try have zw10 : w.heap.size < w1.heap.size := (by omega)); (try have zw11 : w.heap.size + 1 < w1.heap.size := (by omega)); (try have zw12 : w.heap.size + 1 + 1 < w1.heap.size := (by omega)); (try have zw13 : w.heap.size + 1 + 1 + 1 < w1.heap.size := (by omega)); (try (refine (fun Tw10 => ?_ : BK w1 (w.heap.size + 1 + 1 + 1) #[.bool false, .slice none 0 0] → _) ?_; rotate_left; (focus (with_reducible (repeat (first | assumption | (refine BK.new _ _ ?_; first | rfl | (simp only [SZ]; done)) | refine BK.alloc ?_ _ | refine BK.drew ?_ | apply BK.st8 | apply BK.st4 | apply BK.st2 | refine BK.other ?_ (by simp only; omega) _ | refine BK.ext ?_ (by assumption))); done)); obtain ⟨Tw10_0, Tw10_1, Tw10_2⟩ := Tw10.c2))) | (go_at_call 134; (with_reducible refine (Z03 (h1 := QX) (h2 := QX) (hs := by omega)).mono ?_); refine rQ ?_; intro w2 sw2 Aw2 nw2 cw2 tw2 Bw2 mw2 dw2 Hw2 hbw2; (try clear F0 F1); obtain ⟨R0, L0, F0⟩ := BC3 w2 w.heap.size; obtain ⟨R1, L1, F1⟩ := B41 w2 w; have := hbw2.sz; (try have zw20 : w.heap.size < w2.heap.size := (by omega)); (try have zw21 : w.heap.size + 1 < w2.heap.size := (by omega)); (try have zw22 : w.heap.size + 1 + 1 < w2.heap.size := (by omega)); (try have zw23 : w.heap.size + 1 + 1 + 1 < w2.heap.size := (by omega)); (try have zw24 : w1.heap.size < w2.heap.size := (by omega)); (try (refine (fun Tw20 => ?_ : BK w2 (w.heap.size + 1 + 1 + 1) #[.bool false, .slice none 0 0] → _) ?_; rotate_left; (focus (with_reducible (repeat (first | assumption | (refine BK.new _ _ ?_; first | rfl | (simp only [SZ]; done)) | refine BK.alloc ?_ _ | refine BK.drew ?_ | apply BK.st8 | apply BK.st4 | apply BK.st2 | refine BK.other ?_ (by simp only; omega) _ | refine BK.ext ?_ (by assumption))); done)); obtain ⟨Tw20_0, Tw20_1, Tw20_2⟩ := Tw20.c2)); (try (refine (fun Tw21 => ?_ : BK w2 (w1.heap.size) #[.bool false, .slice none 0 0] → _) ?_; rotate_left; (focus (with_reducible (repeat (first | assumption | (refine BK.new _ _ ?_; first | rfl | (simp only [SZ]; done)) | refine BK.alloc ?_ _ | refine BK.drew ?_ | apply BK.st8 | apply BK.st4 | apply BK.st2 | refine BK.other ?_ (by simp only; omega) _ | refine BK.ext ?_ (by assumption))); done)); obtain ⟨Tw21_0, Tw21_1, Tw21_2⟩ := Tw21.c2))) | (go_at_call 142; (with_reducible refine (Z2C (h := QX) (hs := by omega)).mono ?_); rw [HF.out]; rintro e w3 ⟨sw3, Aw3, nw3, cw3, rfl, hQ, hbw3⟩; have Hw3 := zH hQ; clear hQ; (try clear F0 F1); obtain ⟨R0, L0, F0⟩ := BC3 w3 w.heap.size; obtain ⟨R1, L1, F1⟩ := B41 w3 w; have := hbw3.sz; (try have zw30 : w.heap.size < w3.heap.size := (by omega)); (try have zw31 : w.heap.size + 1 < w3.heap.size := (by omega)); (try have zw32 : w.heap.size + 1 + 1 < w3.heap.size := (by omega)); (try have zw33 : w.heap.size + 1 + 1 + 1 < w3.heap.size := (by omega)); (try have zw34 : w1.heap.size < w3.heap.size := (by omega)); (try have zw35 : w2.heap.size < w3.heap.size := (by omega)); (try (refine (fun Tw30 => ?_ : BK w3 (w.heap.size + 1 + 1 + 1) #[.bool false, .slice none 0 0] → _) ?_; rotate_left; (focus (with_reducible (repeat (first | assumption | (refine BK.new _ _ ?_; first | rfl | (simp only [SZ]; done)) | refine BK.alloc ?_ _ | refine BK.drew ?_ | apply BK.st8 | apply BK.st4 | apply BK.st2 | refine BK.other ?_ (by simp only; omega) _ | refine BK.ext ?_ (by assumption))); done)); obtain ⟨Tw30_0, Tw30_1, Tw30_2⟩ := Tw30.c2)); (try (refine (fun Tw31 => ?_ : BK w3 (w1.heap.size) #[.bool false, .slice none 0 0] → _) ?_; rotate_left; (focus (with_reducible (repeat (first | assumption | (refine BK.new _ _ ?_; first | rfl | (simp only [SZ]; done)) | refine BK.alloc ?_ _ | refine BK.drew ?_ | apply BK.st8 | apply BK.st4 | apply BK.st2 | refine BK.other ?_ (by simp only; omega) _ | refine BK.ext ?_ (by assumption))); done)); obtain ⟨Tw31_0, Tw31_1, Tw31_2⟩ := Tw31.c2)); (try (refine (fun Tw32 => ?_ : BK w3 (w2.heap.size) #[.bool false, .slice none 0 0] → _) ?_; rotate_left; (focus (with_reducible (repeat (first | assumption | (refine BK.new _ _ ?_; first | rfl | (simp only [SZ]; done)) | refine BK.alloc ?_ _ | refine BK.drew ?_ | apply BK.st8 | apply BK.st4 | apply BK.st2 | refine BK.other ?_ (by simp only; omega) _ | refine BK.ext ?_ (by assumption))); done)); obtain ⟨Tw32_0, Tw32_1, Tw32_2⟩ := Tw32.c2))))
  all_goals go_wp2_with fail
  all_goals go_meet
  all_goals go_light
  all_goals exact ⟨_, sw3, Aw3, nw3, cw3, rfl, BX, IX, BX, (by omega), EX⟩
 case rest =>
  obtain ⟨g5, s5, A5, n5, c5, rfl, B5, hI, R2, hne, hx⟩ := hcut
  have HI := zH hI
  have N5 := Nat.le_of_eq hI.wl
  have F5 := B5.c2
  have F2 := R2.c4
  have L2 := R2.lt
  have L5 := B5.lt
  clear hI
  go_wp2_with fail
  go_region_held3 (fun w' => zC w' g5 0 (.bool s5) ∧ zC w' g5 1 (.slice A5 n5 c5)) (first | (exact KQ) | (simp [go_sem, *]; done)) (first | (go_at_call 148; (with_reducible refine (Zk 1 _ (by decide) (by decide)).mono ?_); refine rI ?_; intro w5 sw5 Aw5 nw5 cw5 Hw5 hbw5; obtain ⟨R2, L2, F2⟩ := B42 w5 w; have N6 := Nat.le_of_eq Hw5.out.wl) | (go_at_call 209; (with_reducible refine (Z0B (h1 := IX) (h2 := IX) (hs1 := by omega) (hs2 := by omega)).mono ?_); refine rI ?_; intro w6 sw6 Aw6 nw6 cw6 Hw6 hbw6; obtain ⟨R2, L2, F2⟩ := B42 w6 w))
  all_goals go_wp2_with fail
  all_goals refine bodyPost_ret (v := .agg (Z01 s5 A5 n5 c5 sw6 Aw6 nw6 cw6)) (by simp [Z01, results, results160, go_sem, Z6, F2]) rfl ⟨⟨_, _, _, _, _, _, _, _⟩, rfl, IX, IX, EX⟩
theorem Z1e (k : Int) (s3 : Bool) (A3 : Option Addr) (n3 c3 : Nat) (p : QC) (a b z : Int) (w : World) (hz : IAt w s3 A3 n3 c3 z) (h1 : IAt w p.s p.A p.n p.c a) (h2 : IAt w p.t p.B p.m p.d b) (hz0 : z ≠ 0) (hs : wl a + wl b + wl z + 8 < Z8) :
  Ca 162 #[.agg #[.int .i64 k, .bool s3, .slice A3 n3 c3], .agg (zA3 p)] w (Z0e w (Rat.divInt a z) (Rat.divInt b z)) := by
 have k1 := Nat.le_of_eq h1.wl
 have k2 := Nat.le_of_eq h2.wl
 have k3 := Nat.le_of_eq hz.wl
 have HZ := zH hz
 have H1 := zH h1
 have H2 := zH h2
 clear hz h1 h2
 dsimp only [zA3]
 go_enter func162, ntmps162
 go_wp2_with (
  first
  | (go_at_call 223; (with_reducible apply Calls.mono (args := #[.agg #[.bool p.s, .slice p.A p.n p.c], .agg #[.bool s3, .slice A3 n3 c3]])); (focus (go_loud (with_reducible exact Z4S p.s s3 p.A A3 p.n p.c n3 c3 a z _ IX IX (by omega) (by omega) hz0))); rintro e w1 ⟨sw1, Aw1, nw1, cw1, tw1, Bw1, mw1, dw1, rfl, hQ, hbw1⟩; have Hw1 := zH hQ; clear hQ; obtain ⟨R0, L0, F0⟩ := BC3 w1 w.heap.size; obtain ⟨R1, L1, F1⟩ := B41 w1 w; obtain ⟨R2, L2, F2⟩ := B82 w1 w)
  | (go_at_call 223; (with_reducible apply Calls.mono (args := #[.agg #[.bool p.t, .slice p.B p.m p.d], .agg #[.bool s3, .slice A3 n3 c3]])); (focus (go_loud (with_reducible exact Z4S p.t s3 p.B A3 p.m p.d n3 c3 b z _ IX IX (by omega) (by omega) hz0))); rintro e w2 ⟨sw2, Aw2, nw2, cw2, tw2, Bw2, mw2, dw2, rfl, hQ, hbw2⟩; have Hw2 := zH hQ; clear hQ; obtain ⟨R2, L2, F2⟩ := B82 w2 w; obtain ⟨R5, L5, F5⟩ := BC4 w2 w1.heap.size))
 refine bodyPost_ret (v := .agg #[.bool sw1, .slice Aw1 nw1 cw1, .bool tw1, .slice Bw1 mw1 dw1, .bool sw2, .slice Aw2 nw2 cw2, .bool tw2, .slice Bw2 mw2 dw2]) (by simp [results, results162, go_sem, Z6, F2, L2]) rfl ⟨⟨_, _, _, _, _, _, _, _⟩, ⟨_, _, _, _, _, _, _, _⟩, rfl, QX, QX, EX⟩
theorem Zcm {w : World} {b : Nat} {p q : QC} {x y : Rat} (h : BK w b (zA0 p q)) (h1 : p.At w x) (h2 : q.At w y) : LQ w b 2 (Z9Z p q q q) (Z5t x y y y) := by
 intro i hi
 match i, hi with
 | 0, _ => exact ⟨h.cell 0, h.cell 1, h.cell 2, h.cell 3, h1⟩
 | 1, _ => exact ⟨h.cell 4, h.cell 5, h.cell 6, h.cell 7, h2⟩
theorem Z8g (p q : Rat) : Z0r (Z5t p q q q) 2 = Z0h p q := by
 simp only [Z0r, Z7P, Z5t, Z2m]
 simp [Z2m]
theorem Z0Q (q : QC) (x : Rat) (w : World) (hq : q.At w x) (hs : 2 * qm x + 8 < Z8) :
  Ca 80 #[.agg (zA3 q)] w (Z0G w (Z0h x (-x))) := by
 have k1 := hq.n
 have k2 := Z22 x
 have MM : Hid (∀ i, i < 2 → 2 * qm (Z5t x (-x) (-x) (-x) i) + 8 < Z8) := by
  show ∀ i, i < 2 → _
  intro i hi
  unfold Z5t
  split
  ·omega
  ·split
   ·omega
   ·split <;> omega
 rw [← Z8g]
 have HX := zH hq
 clear hq
 dsimp only [zA3]
 go_enter func80, ntmps80
 go_wp2_with fail
 go_region_held3 (fun w' => zC w' w.heap.size 0 (.bool q.s) ∧ zC w' w.heap.size 1 (.slice q.A q.n q.c) ∧ zC w' w.heap.size 2 (.bool q.t) ∧ zC w' w.heap.size 3 (.slice q.B q.m q.d)) (first | (exact KQ) | (simp [go_sem, *]; done)) (first | (go_at_call 143; (with_reducible refine (Z2Q q.s q.A q.n q.c q.t q.B q.m q.d x _ QX (by omega)).mono ?_); refine rQ ?_; intro w1 sw1 Aw1 nw1 cw1 tw1 Bw1 mw1 dw1 Hw1 hbw1; obtain ⟨R0, L0, F0⟩ := B40 w1 w; obtain ⟨R1, L1, F1⟩ := B41 w1 w) | (go_at_call 136; (with_reducible refine (Z3u w1.heap.size 2 2 (Z9Z q ⟨sw1, Aw1, nw1, cw1, tw1, Bw1, mw1, dw1⟩ ⟨sw1, Aw1, nw1, cw1, tw1, Bw1, mw1, dw1⟩ ⟨sw1, Aw1, nw1, cw1, tw1, Bw1, mw1, dw1⟩) _ _ (Zcm BX QX QX) (by decide) (by decide) MM.out).mono ?_); refine rQ ?_; intro w2 sw2 Aw2 nw2 cw2 tw2 Bw2 mw2 dw2 Hw2 hbw2; obtain ⟨R1, L1, F1⟩ := B41 w2 w))
 all_goals go_wp2_with fail
 all_goals refine bodyPost_ret (v := .agg (Z01 sw2 Aw2 nw2 cw2 tw2 Bw2 mw2 dw2)) (by simp [Z01, results, results80, go_sem, Z6, F1]) rfl ⟨_, _, _, _, _, _, _, _, rfl, QX, EX⟩
theorem Z0N {w : World} {l : Nat} {o : Obj} (h : l < w.heap.size) : (w.putObj l o).heap[l]? = some o := World.putObj_heap_same h
theorem Zg {w : World} {l k : Nat} {o : Obj} (h : k ≠ l) : (w.putObj l o).heap[k]? = w.heap[k]? := World.putObj_heap_other h
theorem Z44 (w : World) (l : Nat) (o : Obj) : (w.putObj l o).heap.size = w.heap.size := by simp [World.putObj]
structure Kp (n0 B : Nat) (W W' : World) : Prop where
 below : Below n0 W W'
 words : Za W W'
 own : ∀ b, B ≤ b → b < W.heap.size → W'.heap[b]? = W.heap[b]?
theorem Kp.refl (n0 B : Nat) (W : World) : Kp n0 B W W := ⟨Below.refl _ _, Za.refl _, fun _ _ _ => rfl⟩
theorem Kp.trans {n0 B : Nat} {a b c : World} (h : Kp n0 B a b) (k : Kp n0 B b c) : Kp n0 B a c :=
 ⟨h.below.trans k.below, h.words.trans k.words, fun i hi hs => (k.own i hi (Nat.lt_of_lt_of_le hs h.below.size)).trans (h.own i hi hs)⟩
theorem Kp.mono {n0 B C : Nat} {a b : World} (h : Kp n0 B a b) (hb : B ≤ C) : Kp n0 C a b := ⟨h.below, h.words, fun i hi hs => h.own i (Nat.le_trans hb hi) hs⟩
theorem Kp.of_ext {n0 B : Nat} {a b : World} (h : Ext a b) (hn : n0 ≤ a.heap.size) : Kp n0 B a b := ⟨Below.mono h.below hn, h.keeps, fun i _ hs => h.below.block i hs⟩
theorem Z0O {w : World} {l : Nat} {r : Loop} (o : Obj) (h : w.heap[l]? = some (.loop r)) : Za w (w.putObj l o) := by
 intro a x hx
 have hne : a.block ≠ l := by
  rintro rfl
  simp [World.cell?, h] at hx
 exact (World.cell?_of_block (w := w) (Zg hne)).trans hx
theorem ZV {w : World} {l n0 : Nat} {o o' : Obj} (h : w.heap[l]? = some o) (hl : n0 ≤ l) : Below n0 w (w.putObj l o') :=
 ⟨rfl, rfl, rfl, Nat.le_of_eq (Z44 _ _ _).symm, fun k hk => Zg (by omega)⟩
theorem Z5X {w : World} {l n0 B : Nat} {r : Loop} (o : Obj) (h : w.heap[l]? = some (.loop r)) (hl : n0 ≤ l) (hB : l < B) : Kp n0 B w (w.putObj l o) :=
 ⟨ZV h hl, Z0O o h, fun i hi _ => Zg (by omega)⟩
variable {F : Fence} {n : Nat} {P : Program}
def Zbw (n0 B : Nat) (N : World → Prop) (Ix : World → Prop) (W : World) : Exit → Act → World → Prop
 | .normal, _, W' => Kp n0 B W W' ∧ N W'
 | .ret, _, W' => Kp n0 B W W' ∧ Ix W'
 | _, _, _ => False
theorem Z9v {g : Operand} {p0 : Tmp} {assign body : Code} {Q : Exit → Act → World → Prop} {a : Act} {w : World}
  (hro : F.round = none) (h1 : 1 ≤ n) {gf : Nat} {lb : Array Value} (hg : a.eval g = .func (.func gf) #[] lb) (hFg : F.fn gf) (eg : ∀ args w, (callFunc gf args).run P w = .ok (.enter gf args) w)
  (n0 : Nat) (hn0 : n0 ≤ w.heap.size)
  (T : Nat → Value → World → Prop) (I : Nat → World → Prop) (Ix : World → Prop) (Ax : Nat → Value → Act → World → Prop)
  (hT : ∀ k v A B, T k v A → Za A B → T k v B)
  (hI : ∀ k A B, I k A → Below w.heap.size A B → Za A B → I k B)
  (hIx : ∀ A B, Ix A → Below w.heap.size A B → Za A B → Ix B)
  (hAx : ∀ k v a' A l o, Ax k v a' A → (∃ r, A.heap[l]? = some (.loop r)) → Ax k v a' (A.putObj l o))
  (N : Nat) (hIN : ∀ k A, I k A → k ≤ N)
  (h0 : I 0 w)
  (hiter : ∀ (l : Nat) (J : Nat → World → Prop) (Jx : World → Prop) (W : World), Ext w W → w.heap.size + 2 ≤ W.heap.size →
   (∀ k A B, J k A → Below W.heap.size A B → Za A B → J k B) → (∀ A B, Jx A → Below W.heap.size A B → Za A B → Jx B) →
   (∀ k W1 v, J k W1 → T k v W1 → YieldAt F (n - 1 - 1) P l #[v] W1 fun e W' => Kp n0 W.heap.size W1 W' ∧ ((e = .returned (.bool true) ∧ k + 1 ≤ N ∧ J (k + 1) W') ∨ (e = .returned (.bool false) ∧ Jx W'))) →
   J 0 W → CallsIn F (n - 1) P gf (#[.func (.yield l) #[] #[]] ++ lb) W fun e W' => (∃ v, e = .returned v) ∧ Jx W')
  (hassign : ∀ (l k : Nat) (v : Value) (W : World), I k W → T k v W → w.heap.size ≤ W.heap.size →
   assign.wpIn (F.inRound l) (n - 1 - 1) P (Exit.then (fun a' W' => Kp n0 w.heap.size W W' ∧ I k W' ∧ T k v W' ∧ Ax k v a' W') (fun _ _ _ => False)) { tmps := a.tmps.setIfInBounds p0 v, defers := [] } W)
  (hbody : ∀ (l k : Nat) (v : Value) (a' : Act) (W : World), I k W → T k v W → Ax k v a' W → w.heap.size ≤ W.heap.size →
   body.wpIn (F.inRound l) (n - 1 - 1) P (Zbw n0 w.heap.size (I (k + 1)) Ix W) a' W)
  (hstop : ∀ (D : Nat) (W : World), w.heap.size ≤ D → Ix W → W.heap[D]? = some (.deferred (some [])) → Code.ret.wpIn F n P Q { a with defers := { target := .collected D, args := #[] } :: a.defers } W) :
  (Code.rangeFunc g #[p0] assign body).wpIn F n P Q a w := by
 refine wpIn_rangeFunc ?_
 intro fn hfn
 rw [hro]
 obtain ⟨rec, hrec⟩ : ∃ rec : LoopState → Option Code → Loop, rec = fun st pe => { state := st, pending := pe, fn, tmps := a.tmps, params := #[p0], assign, body, defers := w.heap.size } := ⟨_, rfl⟩
 obtain ⟨W1, hW1⟩ : ∃ W1, (w.alloc (.deferred (some []))).alloc (.loop (rec .ready none)) = W1 := ⟨_, rfl⟩
 have hx1 : Ext w W1 := by rw [← hW1]; exact ((Ext.refl w).alloc _).alloc _
 have hs1 : w.heap.size + 2 = W1.heap.size := by rw [← hW1]; simp only [World.size_alloc]
 have hL1 : W1.heap[w.heap.size + 1]? = some (.loop (rec .ready none)) := by
  rw [← hW1]; have := World.alloc_heap_new (w.alloc (.deferred (some []))) (.loop (rec .ready none)); rwa [World.size_alloc] at this
 have hD1 : W1.heap[w.heap.size]? = some (.deferred (some [])) := by
  rw [← hW1]; exact (Below.heap_alloc _ _ _ (by rw [World.size_alloc]; omega)).trans (World.alloc_heap_new w _)
 have hI1 : I 0 W1 := hI 0 w W1 h0 hx1.below hx1.keeps
 refine ⟨w.heap.size + 1, [{ target := .collected w.heap.size, args := #[] }], W1, { target := .fn (.func gf) lb, args := #[.func (.yield (w.heap.size + 1)) #[] #[]] }, W1, gf,
  #[.func (.yield (w.heap.size + 1)) #[] #[]] ++ lb, W1, ?_, ?_, ?_, ?_, fun _ => h1, ?_⟩
 ·rw [← hW1, hrec]; exact run_enterLoop_outer _ _ _ _ _
 ·simp only [resolve, hg]
  simp [go_sem]
 ·intro f' hf'; simp [Target.leads] at hf'; subst hf'; exact hFg
 ·simp [invoke, go_sem, eg]
 ·have hle : w.heap.size ≤ W1.heap.size := by omega
  refine (hiter (w.heap.size + 1) (fun k W => I k W ∧ W.heap[w.heap.size + 1]? = some (.loop (rec .ready none)) ∧ W.heap[w.heap.size]? = some (.deferred (some [])))
   (fun W => Ix W ∧ W.heap[w.heap.size + 1]? = some (.loop (rec .done (some .ret))) ∧ W.heap[w.heap.size]? = some (.deferred (some []))) W1 hx1 (by omega)
   (fun k A B h hb hk => ⟨hI k A B h.1 (hb.mono hle) hk, (hb.block _ (by omega)).trans h.2.1, (hb.block _ (by omega)).trans h.2.2⟩)
   (fun A B h hb hk => ⟨hIx A B h.1 (hb.mono hle) hk, (hb.block _ (by omega)).trans h.2.1, (hb.block _ (by omega)).trans h.2.2⟩) ?_ ⟨hI1, hL1, hD1⟩).mono ?_
  ·rintro k W v ⟨hi, hl, hd⟩ ht
   have hlt : w.heap.size + 1 < W.heap.size := (Array.getElem?_eq_some_iff.1 hl).1
   have hy := run_yield (P := P) (args := #[v]) hl (by rw [hrec]; rfl)
   rw [hrec] at hy
   have hy' : (Instr.yield (w.heap.size + 1) #[v]).run P W = .ok (.round (w.heap.size + 1) fn (a.tmps.setIfInBounds p0 v) assign body) W := by rw [hy]; first | rfl | simp
   refine ⟨fn, _, assign, body, hy', roundIn_of_wpIn hfn (wpIn_mono (hassign (w.heap.size + 1) k v W hi ht (by omega)) ?_)⟩
   rintro e a' W2 he
   cases e with
   | normal =>
    obtain ⟨hk2, hi2, ht2, ha2⟩ := he
    have hl2 := (hk2.own (w.heap.size + 1) (by omega) hlt).trans hl
    have hd2 := (hk2.own w.heap.size (by omega) (by omega)).trans hd
    have hlt2 : w.heap.size + 1 < W2.heap.size := (Array.getElem?_eq_some_iff.1 hl2).1
    refine ⟨_, run_beginRound hl2 (by rw [hrec]), ?_⟩
    obtain ⟨W3, hW3⟩ : ∃ W3, W2.putObj (w.heap.size + 1) (.loop { rec .ready none with state := .busy }) = W3 := ⟨_, rfl⟩
    have hk3 : Kp n0 (w.heap.size + 2) W2 W3 := by rw [← hW3]; exact Z5X _ hl2 (by omega) (by omega)
    have hb3 : Below w.heap.size W2 W3 := by rw [← hW3]; exact ZV hl2 (by omega)
    have hl3 : W3.heap[w.heap.size + 1]? = some (.loop { rec .ready none with state := .busy }) := by rw [← hW3]; exact Z0N hlt2
    have hd3 : W3.heap[w.heap.size]? = some (.deferred (some [])) := by rw [← hW3]; exact (Zg (by omega)).trans hd2
    have ha3 : Ax k v a' W3 := by rw [← hW3]; exact hAx k v a' W2 _ _ ha2 ⟨_, hl2⟩
    rw [hW3]
    refine wpIn_mono (hbody (w.heap.size + 1) k v a' W3 (hI k _ _ hi2 hb3 hk3.words) (hT k v _ _ ht2 hk3.words) ha3 (by have := hb3.size; omega)) ?_
    have fin : ∀ (jump : Option Code) (W4 : World), Kp n0 w.heap.size W3 W4 →
      (Instr.endRound (w.heap.size + 1) jump).run P W4 = .ok (.bool jump.isNone) (W4.putObj (w.heap.size + 1) (.loop (rec (if jump.isNone then .ready else .done) jump))) ∧
      (W4.putObj (w.heap.size + 1) (.loop (rec (if jump.isNone then .ready else .done) jump))).heap[w.heap.size + 1]? = some (.loop (rec (if jump.isNone then .ready else .done) jump)) ∧
      (W4.putObj (w.heap.size + 1) (.loop (rec (if jump.isNone then .ready else .done) jump))).heap[w.heap.size]? = some (.deferred (some [])) ∧
      Below w.heap.size W4 (W4.putObj (w.heap.size + 1) (.loop (rec (if jump.isNone then .ready else .done) jump))) ∧
      Za W4 (W4.putObj (w.heap.size + 1) (.loop (rec (if jump.isNone then .ready else .done) jump))) ∧
      Kp n0 W1.heap.size W (W4.putObj (w.heap.size + 1) (.loop (rec (if jump.isNone then .ready else .done) jump))) := fun jump W4 hk4 => by
     have hlt3 : w.heap.size + 1 < W3.heap.size := (Array.getElem?_eq_some_iff.1 hl3).1
     have hl4 := (hk4.own _ (by omega) hlt3).trans hl3
     have hd4 := (hk4.own w.heap.size (by omega) (by omega)).trans hd3
     have hr := run_endRound (P := P) jump hl4
     refine ⟨by rw [hrec] at hr ⊢; exact hr, Z0N (Array.getElem?_eq_some_iff.1 hl4).1, (Zg (by omega)).trans hd4, ZV hl4 (by omega), Z0O _ hl4, ?_⟩
     rw [← hs1]
     exact (((hk2.mono (by omega)).trans hk3).trans (hk4.mono (by omega))).trans (Z5X _ hl4 (by omega) (by omega))
    rintro e a3 W4 hp
    cases e with
    | normal =>
     obtain ⟨hk4, hi4⟩ := hp
     obtain ⟨hr, hl5, hd5, hb5, hw5, hk5⟩ := fin none W4 hk4
     exact ⟨_, _, hr, hk5, .inl ⟨rfl, hIN _ _ hi4, hI _ _ _ hi4 hb5 hw5, hl5, hd5⟩⟩
    | ret =>
     obtain ⟨hk4, hi4⟩ := hp
     obtain ⟨hr, hl5, hd5, hb5, hw5, hk5⟩ := fin (some .ret) W4 hk4
     exact ⟨_, _, hr, hk5, .inr ⟨rfl, hIx _ _ hi4 hb5 hw5, hl5, hd5⟩⟩
    | exit id => exact hp.elim
    | goto t => exact hp.elim
    | panic ch => exact hp.elim
    | outgrown => exact hp.elim
   | ret => exact he.elim
   | exit id => exact he.elim
   | goto t => exact he.elim
   | panic ch => exact he.elim
   | outgrown => exact he.elim
  ·rintro e W2 ⟨⟨v, rfl⟩, hi, hl, hd⟩
   have hr := run_endLoop (P := P) hl (by rw [hrec]; simp)
   refine ⟨some .ret, _, by rw [hrec] at hr; exact hr, ?_⟩
   exact hstop w.heap.size _ (Nat.le_refl _) (hIx _ _ hi (ZV hl (by omega)) (Z0O _ hl)) ((Zg (by omega)).trans hd)
def Z3F (ops : Array Oper) : Bool := ops.all fun o => match o.op with | .defer _ => false | _ => true
theorem Z6r {ops : Array Oper} (h : Z3F ops = true) {i : Nat} {o : Oper} (ho : ops[i]? = some o) : ∀ c, o.op ≠ .defer c := by
 intro c hc
 have := Array.all_eq_true'.1 h o (Array.mem_of_getElem? ho)
 simp [hc] at this
theorem Z6h {P : Program} {l n : Nat} {ops : Array Oper} {N : Act → World → Prop} {Q : Exit → Act → World → Prop} (hnd : Z3F ops = true) {i : Nat} {K K' : Act → World → Prop} (hK : ∀ a w, K a w → K' a w) {a : Act} {w : World}
  (h : wpOp P ops (ZW N) i K a w) : wpOpIn (Fence.wide.inRound l) n P ops Q i K' a w := by
 unfold wpOp at h
 unfold wpOpIn
 cases ho : ops[i]? with
 | none => rw [ho] at h; exact hK _ _ h
 | some o =>
  rw [ho] at h
  simp only at h ⊢
  split
  ·rename_i hw
   rw [if_pos hw] at h
   rcases h with h | ⟨_, a0, w0, h0⟩
   ·refine ⟨fun _ _ => trivial, ?_⟩
    rw [show (Fence.wide.inRound l).round = some l from rfl, Oper.semAt_eq _ _ _ (Z6r hnd ho)]
    unfold Oper.wp at h
    generalize (execOp a.eval o).run P w = r at *
    cases r with
    | ok x w' =>
     cases x with
     | value u => exact hK _ _ h
     | skip => exact hK _ _ h
     | defer d => exact hK _ _ h
     | enter f args =>
      refine ⟨fun e => (by cases e), CallsIn.inRound l (callsIn_wide.2 (Calls.mono h fun e w'' he => ?_))⟩
      cases e with
      | returned u => exact hK _ _ he
      | panicked c => exact he.elim
      | outgrown => obtain ⟨_, _, h⟩ := he; exact h.elim
     | row row args =>
      refine ⟨fun e => (by cases e), fun c cs _ => ?_⟩
      obtain ⟨v, w2, hr, hs⟩ := h c cs
      exact ⟨v, w2, hK _ _ hr, stepsIn_wide.2 hs⟩
     | round _ _ _ _ _ => exact h.elim
     | _ => exact h.elim
    | halt x w' =>
     cases x with
     | panic u => exact h.elim
     | _ => exact h.elim
   ·exact h0.elim
  ·rename_i hw
   rw [if_neg hw] at h
   exact ⟨fun _ _ => trivial, hK _ _ h⟩
theorem Z20 {P : Program} {l n : Nat} {md : Region.Mode} {ops : Array Oper} {Q : Exit → Act → World → Prop} (hnd : Z3F ops = true) : ∀ (fuel : Nat) (listed : Array Bool) (a : Act) (w : World),
  wpAny P md ops (ZW (Q .normal)) fuel listed a w → wpAnyIn (Fence.wide.inRound l) n P md ops Q fuel listed a w
 | 0, _, _, _, h => h
 | fuel + 1, _, _, _, h => ⟨h.1, fun i hi => Z6h hnd (fun a' w' h' => Z20 hnd fuel _ a' w' h') (h.2 i hi)⟩
theorem Z0Z {P : Program} {l n id : Nat} {ops : Array Oper} {Q : Exit → Act → World → Prop} {a : Act} {w : World} (S : World → Prop) (hm : P.follows .mixedOrders = true) (hnd : Z3F ops = true) (hS : S w.drew)
  (h : S w.drew → wpAnyH P .any ops (ZW (Q .normal)) S ops.size (Array.replicate ops.size false) a w.drew) : (Code.region id ops true).wpIn (Fence.wide.inRound l) n P Q a w :=
 wpIn_region_any hm (Z20 hnd _ _ _ _ (wpAny_of_held _ _ _ _ (h hS)))
theorem Z75 {P : Program} {n id : Nat} {ops : Array Oper} {Q : Exit → Act → World → Prop} {a : Act} {w : World} (N : Act → World → Prop) (hm : P.follows .mixedOrders = true) (hN : ∀ a w, N a w → Q .normal a w)
  (h : wpAnyIn Fence.wide n P .any ops (ZW N) ops.size (Array.replicate ops.size false) a w.drew) : (Code.region id ops true).wpIn Fence.wide n P Q a w :=
 wpIn_mono (wpIn_region_any hm h) (by
  rintro e a w h
  cases e with
  | normal => exact hN _ _ h
  | ret => exact h.elim
  | exit id => exact h.elim
  | goto t => exact h.elim
  | panic ch => exact h.elim
  | outgrown => exact h.elim)
theorem Zc {P : Program} {id : Nat} {ops : Array Oper} {Q : Exit → Act → World → Prop} {a : Act} {w : World} (N : Act → World → Prop) (S : World → Prop) (hm : P.follows .mixedOrders = true) (hN : ∀ a w, N a w → Q .normal a w) (hS : S w.drew)
  (h : S w.drew → wpAnyH P .any ops (ZW N) S ops.size (Array.replicate ops.size false) a w.drew) : (Code.region id ops true).wp P Q a w :=
 Code.wp_mono (by
  rintro e a w h
  cases e with
  | normal => exact hN _ _ h
  | ret => exact h.elim
  | exit id => exact h.elim
  | goto t => exact h.elim
  | panic ch => exact h.elim
  | outgrown => exact h.elim) (wp_region_held_drew hm hS h)
section
variable {P : Program} {md : Region.Mode} {ops : Array Oper} {Q : Exit → Act → World → Prop} {S : World → Prop}
theorem KPH {Q : Prop} (h : Q := by
 (try dsimp only)
 repeat' (with_reducible apply And.intro)
 all_goals (with_reducible (repeat (first | assumption | refine Z0t ?_ _ | refine Z3T ?_ | refine Z5c ?_ (by simp only; omega) _ | refine Ext.cell (by assumption) ?_)))) : Q := h
theorem ARH {fuel : Nat} {listed : Array Bool} {a : Act} {w : World} {i : Nat} {o : Oper} {rs : List Nat}
  (h : ∀ K' : Act → World → Prop, Shut (∀ a w, S w → (S w → wpAnyH P md ops Q S fuel (listed.setIfInBounds i true) a w) → K' a w) → if Region.wanted o (yielded ops a.tmps) = true then Oper.wp P o a w K' Q else K' (a.put o.dst undef) w)
  (hs : AllReadyH P md ops Q S fuel listed a w rs) (ho : ops[i]? = some o := by first | (simp only [List.getElem?_toArray, List.getElem?_cons_succ, List.getElem?_cons_zero]; done) | (simp only [List.getElem?_toArray, List.getElem?_cons_succ, List.getElem?_cons_zero]; rfl)) : AllReadyH P md ops Q S fuel listed a w (i :: rs) := AllReadyH.cons ho h hs
theorem RDH {fuel : Nat} {listed : Array Bool} {a : Act} {w : World} (rs : List Nat) (h : AllReadyH P md ops Q S fuel listed a w rs)
  (hr : Region.ready md ops listed = rs := by kernel_rfl) (hne : rs ≠ [] := by simp) : wpAnyH P md ops Q S (fuel + 1) listed a w := wpAnyH_ready hr hne h
theorem TKH {oi : Oper} {v : Value} {fuel : Nat} {listed : Array Bool} {a : Act} {w : World} (i : Nat) (h : wpAnyH P md ops Q S fuel (listed.setIfInBounds i true) (a.put oi.dst v) w)
  (hi : ops[i]? = some oi := by first | (simp only [List.getElem?_toArray, List.getElem?_cons_succ, List.getElem?_cons_zero]; done) | (simp only [List.getElem?_toArray, List.getElem?_cons_succ, List.getElem?_cons_zero]; rfl))
  (hs : Region.noSelect ops = true := by kernel_rfl) (hf : Region.free md ops listed i = true := by kernel_rfl) (hr : (Region.ready md ops listed).contains i = true := by kernel_rfl)
  (hQ : ∀ c a w, Q (.panic c) (a.put oi.dst v) w → Q (.panic c) a w := by exact fun _ _ _ h => h) (hy : YieldsIf P ops S oi v a := by exact Or.inl ⟨by rfl, by (intro w hSw; (try dsimp only at hSw); go_simp; (try with_reducible rfl))⟩) (hS : S w := by assumption) : wpAnyH P md ops Q S (fuel + 1) listed a w :=
 wpAnyH_take hi hs hf hr hQ hy hS h
theorem KOH {fuel : Nat} {listed : Array Bool} {i : Nat} {K : Act → World → Prop} (hK : Shut (∀ a w, S w → (S w → wpAnyH P md ops Q S fuel (listed.setIfInBounds i true) a w) → K a w)) {a : Act} {w : World}
  (h : S w → wpAnyH P md ops Q S fuel (listed.setIfInBounds i true) a w) (hS : S w := by exact KPH) : K a w := hK.out a w hS h
end
theorem TKN {P : Program} {md : Region.Mode} {ops : Array Oper} {Q : Exit → Act → World → Prop} {S : World → Prop} {oi : Oper} {fuel : Nat} {listed : Array Bool} {a : Act} {w : World} (i : Nat) (h : wpAnyH P md ops Q S fuel (listed.setIfInBounds i true) (a.put oi.dst undef) w)
  (hi : ops[i]? = some oi := by first | (simp only [List.getElem?_toArray, List.getElem?_cons_succ, List.getElem?_cons_zero]; done) | (simp only [List.getElem?_toArray, List.getElem?_cons_succ, List.getElem?_cons_zero]; rfl))
  (hs : Region.noSelect ops = true := by kernel_rfl) (hf : Region.free md ops listed i = true := by kernel_rfl) (hr : (Region.ready md ops listed).contains i = true := by kernel_rfl)
  (hQ : ∀ c a w, Q (.panic c) (a.put oi.dst undef) w → Q (.panic c) a w := by exact fun _ _ _ h => h) (hy : Region.wanted oi (yielded ops a.tmps) = false := by rfl) (hS : S w := by assumption) : wpAnyH P md ops Q S (fuel + 1) listed a w :=
 wpAnyH_take hi hs hf hr hQ (Or.inr ⟨hy, rfl⟩) hS h
theorem sza {w w' : World} {o : Obj} (h : Ext (w.alloc o) w') : w.heap.size < w'.heap.size := by have := h.size; simp only [World.size_alloc] at this; omega
theorem szs {w w' : World} {p : Addr} {v : Value} (h : Ext (w.setCell p v) w') : w.heap.size ≤ w'.heap.size := by have := h.size; simp only [World.size_setCell] at this; omega
section
variable {F : Fence} {n : Nat} {P : Program} {md : Region.Mode} {ops : Array Oper} {Q : Exit → Act → World → Prop}
theorem ARI {fuel : Nat} {listed : Array Bool} {a : Act} {w : World} {i : Nat} {o : Oper} {rs : List Nat}
  (h : ∀ K' : Act → World → Prop, (∀ a w, wpAnyIn F n P md ops Q fuel (listed.setIfInBounds i true) a w → K' a w) → if Region.wanted o (yielded ops a.tmps) = true then Oper.wpIn F n P o a w K' Q else (∀ f, o.about P w a.eval = some f → F.fn f) ∧ K' (a.put o.dst undef) w)
  (hs : AllReadyIn F n P md ops Q fuel listed a w rs) (ho : ops[i]? = some o := by first | (simp only [List.getElem?_toArray, List.getElem?_cons_succ, List.getElem?_cons_zero]; done) | (simp only [List.getElem?_toArray, List.getElem?_cons_succ, List.getElem?_cons_zero]; rfl)) : AllReadyIn F n P md ops Q fuel listed a w (i :: rs) := AllReadyIn.cons ho h hs
theorem RDI {fuel : Nat} {listed : Array Bool} {a : Act} {w : World} (rs : List Nat) (h : AllReadyIn F n P md ops Q fuel listed a w rs)
  (hr : Region.ready md ops listed = rs := by kernel_rfl) (hne : rs ≠ [] := by simp) : wpAnyIn F n P md ops Q (fuel + 1) listed a w := wpAnyIn_ready hr hne h
theorem TKI {oi : Oper} {v : Value} {fuel : Nat} {listed : Array Bool} {a : Act} {w : World} (i : Nat) (h : wpAnyIn F n P md ops Q fuel (listed.setIfInBounds i true) (a.put oi.dst v) w) (hi : ops[i]? = some oi := by first | (simp only [List.getElem?_toArray, List.getElem?_cons_succ, List.getElem?_cons_zero]; done) | (simp only [List.getElem?_toArray, List.getElem?_cons_succ, List.getElem?_cons_zero]; rfl))
  (hro : F.round = none := by rfl) (hs : Region.noSelect ops = true := by kernel_rfl) (hf : Region.free md ops listed i = true := by kernel_rfl) (hr : (Region.ready md ops listed).contains i = true := by kernel_rfl)
  (hQ : ∀ c a w, Q (.panic c) (a.put oi.dst v) w → Q (.panic c) a w := by exact fun _ _ _ h => h) (hy : YieldsFenced P ops oi v a := by exact ⟨Or.inl ⟨by rfl, by (intro w; go_simp; (try with_reducible rfl))⟩, fun _ => rfl⟩) : wpAnyIn F n P md ops Q (fuel + 1) listed a w :=
 wpAnyIn_take hro hi hs hf hr hQ hy h
theorem R1I {fuel : Nat} {listed : Array Bool} {a : Act} {w : World} {o : Oper} (i : Nat)
  (h : ∀ K' : Act → World → Prop, (∀ a w, wpAnyIn F n P md ops Q fuel (listed.setIfInBounds i true) a w → K' a w) → if Region.wanted o (yielded ops a.tmps) = true then Oper.wpIn F n P o a w K' Q else (∀ f, o.about P w a.eval = some f → F.fn f) ∧ K' (a.put o.dst undef) w)
  (ho : ops[i]? = some o := by first | (simp only [List.getElem?_toArray, List.getElem?_cons_succ, List.getElem?_cons_zero]; done) | (simp only [List.getElem?_toArray, List.getElem?_cons_succ, List.getElem?_cons_zero]; rfl)) (hr : Region.ready md ops listed = [i] := by kernel_rfl) : wpAnyIn F n P md ops Q (fuel + 1) listed a w := RDI [i] (ARI h AllReadyIn.nil ho) hr
variable {S : World → Prop}
theorem R1H {fuel : Nat} {listed : Array Bool} {a : Act} {w : World} {o : Oper} (i : Nat)
  (h : ∀ K' : Act → World → Prop, Shut (∀ a w, S w → (S w → wpAnyH P md ops Q S fuel (listed.setIfInBounds i true) a w) → K' a w) → if Region.wanted o (yielded ops a.tmps) = true then Oper.wp P o a w K' Q else K' (a.put o.dst undef) w)
  (ho : ops[i]? = some o := by first | (simp only [List.getElem?_toArray, List.getElem?_cons_succ, List.getElem?_cons_zero]; done) | (simp only [List.getElem?_toArray, List.getElem?_cons_succ, List.getElem?_cons_zero]; rfl)) (hr : Region.ready md ops listed = [i] := by kernel_rfl) : wpAnyH P md ops Q S (fuel + 1) listed a w := RDH [i] (ARH h AllReadyH.nil ho) hr
theorem TH {oi : Oper} {v : Value} {fuel : Nat} {listed : Array Bool} {a a2 : Act} {w : World} (i : Nat) (h : wpAnyH P md ops Q S fuel (listed.setIfInBounds i true) a2 w)
  (hi : ops[i]? = some oi := by first | (simp only [List.getElem?_toArray, List.getElem?_cons_succ, List.getElem?_cons_zero]; done) | (simp only [List.getElem?_toArray, List.getElem?_cons_succ, List.getElem?_cons_zero]; rfl))
  (hs : Region.noSelect ops = true := by kernel_rfl) (hf : Region.free md ops listed i = true := by kernel_rfl) (hr : (Region.ready md ops listed).contains i = true := by kernel_rfl)
  (hQ : ∀ c a w, Q (.panic c) (a.put oi.dst v) w → Q (.panic c) a w := by exact fun _ _ _ h => h) (hy : YieldsIf P ops S oi v a := by exact Or.inl ⟨by rfl, by (intro w hSw; (try dsimp only at hSw); go_simp; (try with_reducible rfl))⟩) (hS : S w := by assumption)
  (e : a.put oi.dst v = a2 := by first | (simp only [LY]; rfl) | rfl) : wpAnyH P md ops Q S (fuel + 1) listed a w :=
 TKH i (e ▸ h) hi hs hf hr hQ hy hS
theorem KH {fuel : Nat} {listed : Array Bool} {i : Nat} {K : Act → World → Prop} {a a2 : Act} {w : World} (hK : Shut (∀ a w, S w → (S w → wpAnyH P md ops Q S fuel (listed.setIfInBounds i true) a w) → K a w))
  (h : S w → wpAnyH P md ops Q S fuel (listed.setIfInBounds i true) a2 w) (hS : S w := by exact KQ) (e : a = a2 := by first | (simp only [LY]; rfl) | rfl) : K a w := hK.out a w hS (fun s => e ▸ h s)
theorem TI {oi : Oper} {v : Value} {fuel : Nat} {listed : Array Bool} {a a2 : Act} {w : World} (i : Nat) (h : wpAnyIn F n P md ops Q fuel (listed.setIfInBounds i true) a2 w) (hi : ops[i]? = some oi := by first | (simp only [List.getElem?_toArray, List.getElem?_cons_succ, List.getElem?_cons_zero]; done) | (simp only [List.getElem?_toArray, List.getElem?_cons_succ, List.getElem?_cons_zero]; rfl))
  (hro : F.round = none := by rfl) (hs : Region.noSelect ops = true := by kernel_rfl) (hf : Region.free md ops listed i = true := by kernel_rfl) (hr : (Region.ready md ops listed).contains i = true := by kernel_rfl)
  (hQ : ∀ c a w, Q (.panic c) (a.put oi.dst v) w → Q (.panic c) a w := by exact fun _ _ _ h => h) (hy : YieldsFenced P ops oi v a := by exact ⟨Or.inl ⟨by rfl, by (intro w; go_simp; (try with_reducible rfl))⟩, fun _ => rfl⟩) (e : a.put oi.dst v = a2 := by first | (simp only [LY]; rfl) | rfl) : wpAnyIn F n P md ops Q (fuel + 1) listed a w :=
 TKI i (e ▸ h) hi hro hs hf hr hQ hy
theorem KI {fuel : Nat} {listed : Array Bool} {i : Nat} {K : Act → World → Prop} {a a2 : Act} {w : World} (hK : ∀ a w, wpAnyIn F n P md ops Q fuel (listed.setIfInBounds i true) a w → K a w) (h : wpAnyIn F n P md ops Q fuel (listed.setIfInBounds i true) a2 w) (e : a = a2 := by first | (simp only [LY]; rfl) | rfl) : K a w := hK a w (e ▸ h)
theorem TN {oi : Oper} {fuel : Nat} {listed : Array Bool} {a a2 : Act} {w : World} (i : Nat) (h : wpAnyH P md ops Q S fuel (listed.setIfInBounds i true) a2 w)
  (hi : ops[i]? = some oi := by first | (simp only [List.getElem?_toArray, List.getElem?_cons_succ, List.getElem?_cons_zero]; done) | (simp only [List.getElem?_toArray, List.getElem?_cons_succ, List.getElem?_cons_zero]; rfl))
  (hs : Region.noSelect ops = true := by kernel_rfl) (hf : Region.free md ops listed i = true := by kernel_rfl) (hr : (Region.ready md ops listed).contains i = true := by kernel_rfl)
  (hQ : ∀ c a w, Q (.panic c) (a.put oi.dst undef) w → Q (.panic c) a w := by exact fun _ _ _ h => h) (hy : Region.wanted oi (yielded ops a.tmps) = false := by rfl) (hS : S w := by assumption) (e : a.put oi.dst undef = a2 := by first | (simp only [LY]; rfl) | rfl) : wpAnyH P md ops Q S (fuel + 1) listed a w :=
 TKN i (e ▸ h) hi hs hf hr hQ hy hS
end
open Go.Proofs.Tryz
def Zaa : List Value → Nat → Value
 | [], _ => undef
 | v :: _, 0 => v
 | _ :: l, i + 1 => Zaa l i
def frl (U : Nat → Value) : Nat → Nat → List (Nat × Value) → List Value
 | _, 0, _ => []
 | i, k + 1, [] => U i :: frl U (i + 1) k []
 | i, k + 1, (j, v) :: l => bif i == j then v :: frl U (i + 1) k l else U i :: frl U (i + 1) k ((j, v) :: l)
def fr (n : Nat) (U : Nat → Value) (l : List (Nat × Value)) : Act := { tmps := (frl U 0 n l).toArray, defers := [] }
theorem Zr {A : Array Value} (n : Nat) (l : List (Nat × Value)) (h : frl (Zaa A.toList) 0 n l = A.toList := by kernel_rfl) : ({ tmps := A, defers := [] } : Act) = fr n (Zaa A.toList) l := by
 unfold fr; rw [h]
theorem Zh {A : Array Value} (n : Nat) (l : List (Nat × Value)) (h : frl (Zaa A.toList) 0 n l = A.toList := by rfl) : ({ tmps := A, defers := [] } : Act) = fr n (Zaa A.toList) l := by
 unfold fr; rw [h]
theorem ZQ {P : Program} {c : Code} {Q : Exit → Act → World → Prop} {A : Array Value} {w0 : World} (n : Nat) (l : List (Nat × Value)) (T : World → Prop) (hT : T w0) (k : ∀ W U, T W → Code.wp P c Q (fr n U l) W)
  (h : frl (Zaa A.toList) 0 n l = A.toList := by kernel_rfl) : Code.wp P c Q { tmps := A, defers := [] } w0 := by
 rw [Zr n l h]; exact k _ _ hT
def Su (n : Nat) (l : List (Nat × Value)) (T : World → Prop) (a : Act) (w : World) : Prop := ∃ U, a = fr n U l ∧ T w
theorem Su.mk {A : Array Value} {n : Nat} {l : List (Nat × Value)} {T : World → Prop} {w : World} (hT : T w) (h : frl (Zaa A.toList) 0 n l = A.toList := by kernel_rfl) : Su n l T { tmps := A, defers := [] } w := ⟨_, Zr n l h, hT⟩
theorem Zd8 {n : Nat} {l : List (Nat × Value)} {P : Act → Prop} {U : Nat → Value} (h : P (fr n U l)) : P (fr n U l) := h
def CA (w : World) (g : Nat) : Nat → List Value → Prop
 | _, [] => ∀ o, w.frozen? ⟨g, o, none⟩ = false
 | i, v :: l => w.cell? ⟨g, i, none⟩ = some v ∧ CA w g (i + 1) l
theorem CA.of {w : World} {g : Nat} (hf : ∀ o, w.frozen? ⟨g, o, none⟩ = false) : ∀ (l : List Value) (i : Nat), (∀ j v, l[j]? = some v → w.cell? ⟨g, i + j, none⟩ = some v) → CA w g i l
 | [], _, _ => hf
 | v :: l, i, h => ⟨h 0 v rfl, CA.of hf l (i + 1) (fun j u hu => by
   have := h (j + 1) u (by simpa using hu)
   rwa [show i + (j + 1) = i + 1 + j from by omega] at this)⟩
theorem BK.ca {w : World} {g : Nat} {c : List Value} (h : BK w g c.toArray) : CA w g 0 c := CA.of h.frozen c 0 (fun j v hv => by
 rw [Nat.zero_add, h.cell j]; simpa using hv)
def CC (w : World) (g : Nat) : Nat → List Value → Prop
 | _, [] => True
 | i, v :: l => w.cell? ⟨g, i, none⟩ = some v ∧ CC w g (i + 1) l
theorem CC.of {w : World} {g : Nat} : ∀ (l : List Value) (i : Nat), (∀ j v, l[j]? = some v → w.cell? ⟨g, i + j, none⟩ = some v) → CC w g i l
 | [], _, _ => trivial
 | v :: l, i, h => ⟨h 0 v rfl, CC.of l (i + 1) (fun j u hu => by
   have := h (j + 1) u (by simpa using hu)
   rwa [show i + (j + 1) = i + 1 + j from by omega] at this)⟩
theorem CK.ca {w : World} {g : Nat} {c : List Value} (h : CK w g c) : CC w g 0 c := CC.of c 0 (fun j v hv => by rw [Nat.zero_add]; exact h j v hv)
theorem BK.al {w : World} {g : Nat} {c : List Value} (h : BK w g c.toArray) : g < w.heap.size ∧ CA w g 0 c := ⟨h.lt, h.ca⟩
theorem CK.al {w : World} {g : Nat} {v : Value} {c : List Value} (h : CK w g (v :: c)) : g < w.heap.size ∧ CC w g 0 (v :: c) := ⟨h.lt, h.ca⟩
def CB (w : World) (g : Nat) : Nat → List Value → Prop
 | _, [] => True
 | i, [v] => w.cell? ⟨g, i, none⟩ = some v
 | i, v :: u :: l => w.cell? ⟨g, i, none⟩ = some v ∧ CB w g (i + 1) (u :: l)
theorem Z0S (a b c d : QC) (x y u v : Rat) (w : World) (ha : a.At w x) (hb : b.At w y) (hc0 : c.At w u) (hd : d.At w v) (hx : x = u) (hy : y = v) (hs : qm x + qm y + qm u + qm v + 8 < Z8) :
  Ca 12 #[.agg (zA0 a b), .agg (zA0 c d)] w fun e w' => e = .returned (.bool true) ∧ Ext w w' := by
 have := Z8x a b c d x y u v w ha hb hc0 hd hs
 rw [decide_eq_true hx, decide_eq_true hy] at this
 exact this
theorem Z3m (p q : QC) (x y : Rat) (k : Int) (w : World) (ha : p.At w x) (hb : q.At w y) (hxy : x ≤ y) (hk0 : -524288 ≤ k) (hk1 : k ≤ 524288) (hn : y - x ≤ Z02 (-k)) (hs : 2 * (qm x + qm y) + 20000 < Z8) :
  Ca 30 #[.agg (zA0 p q), .int .i64 k] w fun e w' => e = .returned (.bool true) ∧ Ext w w' := by
 have := Z6A p q x y k w ha hb hxy hk0 hk1 hs
 rw [decide_eq_true hn] at this
 exact this
theorem Z64 (a b c d : QC) (x y u v : Rat) (w : World) (ha : a.At w x) (hb : b.At w y) (hc0 : c.At w u) (hd : d.At w v) (h1 : x ≤ v) (h2 : u ≤ y) (hs : 2 * (qm x + qm y + qm u + qm v) + 8 < Z8) :
  Ca 31 #[.agg (zA0 a b), .agg (zA0 c d)] w fun e w' => e = .returned (.bool true) ∧ Ext w w' := by
 have := Z7m a b c d x y u v w ha hb hc0 hd hs
 rw [decide_eq_true h1, decide_eq_true h2] at this
 exact this
theorem ZaG (a b : QC) (w : World) (ha : a.At w 0) (hb : b.At w 0) :
  Ca 20 #[.agg (zA0 a b)] w fun e w' => e = .returned (.bool true) ∧ Ext w w' := by
 have := Z23 a b 0 0 w ha hb (by decide +kernel)
 rw [show (decide ((0 : Rat).num ≤ 0) && decide (0 ≤ (0 : Rat).num)) = true from by decide +kernel] at this
 exact this
theorem ZaY (v : Bool) (p q : QC) (x y : Rat) (w : World) (ha : p.At w x) (hb : q.At w y) (hs : 2 * (qm x + qm y) + 8 < Z8) (hv : decide (x ≤ y) = v) :
  Ca 10 #[.agg (zA0 p q)] w fun e w' => e = .returned (.bool v) ∧ Ext w w' := by
 have := ZbE p q x y w ha hb hs
 rw [hv] at this
 exact this
end Go.Proofs.YtnmmncccpdffaaaGreat
