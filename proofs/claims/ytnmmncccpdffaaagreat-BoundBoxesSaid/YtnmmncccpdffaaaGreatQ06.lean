/- What BoundBoxes calls, part 6. -/
import Derived.Test.YtnmmncccpdffaaaGreatQ05
set_option linter.unusedVariables false
set_option linter.unusedSimpArgs false
set_option maxRecDepth 100000
set_option maxHeartbeats 16000000
namespace Go.Proofs.YtnmmncccpdffaaaGreat
open Go.Proofs.Tryz Go Go.RowKit Go.Shelf
def LQ (w : World) (b n : Nat) (qs : Nat → QC) (xs : Nat → Rat) : Prop := ∀ i, i < n → w.cell? ⟨b, i * 4, none⟩ = some (.bool (qs i).s) ∧ w.cell? ⟨b, i * 4 + 1, none⟩ = some (.slice (qs i).A (qs i).n (qs i).c) ∧ w.cell? ⟨b, i * 4 + 2, none⟩ = some (.bool (qs i).t) ∧ w.cell? ⟨b, i * 4 + 3, none⟩ = some (.slice (qs i).B (qs i).m (qs i).d) ∧ (qs i).At w (xs i)
theorem LQ.ext {w w' : World} {b n : Nat} {qs : Nat → QC} {xs : Nat → Rat} (h : LQ w b n qs xs) (k : Ext w w') : LQ w' b n qs xs := fun i hi => by
 obtain ⟨h0, h1, h2, h3, h4⟩ := h i hi
 exact ⟨k.cell h0, k.cell h1, k.cell h2, k.cell h3, QAt.ext h4 k⟩
def Z0I (xs : Nat → Rat) : Nat → Rat
 | 0 => xs 0
 | i + 1 => if xs i < Z0I xs i then xs i else Z0I xs i
def Z0r (xs : Nat → Rat) : Nat → Rat
 | 0 => xs 0
 | i + 1 => if Z0r xs i < xs i then xs i else Z0r xs i
theorem Z9b {x y : Rat} : Z0s x y < 0 ↔ x < y := by
 unfold Z0s; split
 ·simp [*]
 ·split
  ·rename_i h _; simp [h]
  ·rename_i h _; simp [h]
theorem Z4P {x y : Rat} : Z0s x y > 0 ↔ y < x := by
 unfold Z0s; split
 ·rename_i h; constructor
  ·intro e; omega
  ·intro e; exact absurd (Rat.le_of_lt e) (Rat.not_le.2 h)
 ·split
  ·rename_i h; simp [h]
  ·rename_i h; simp [h]
theorem Z0t {w : World} {a : Addr} {v : Value} (h : w.cell? a = some v) (o : Obj) : (w.alloc o).cell? a = some v := ((Ext.refl w).alloc o).cell h
theorem Z3T {w : World} {a : Addr} {v : Value} (h : w.cell? a = some v) : w.drew.cell? a = some v := h
theorem Z5c {w : World} {a p : Addr} {v : Value} (h : w.cell? a = some v) (hp : p.block ≠ a.block) (u : Value) : (w.setCell p u).cell? a = some v := (World.cell?_setCell_other (w := w) (a := p) (b := a) (v := u) (fun e => hp (by rw [e]))).trans h
theorem Z2c (x y : Rat) : qm (Z0q x y) ≤ qm x + qm y := by unfold Z0q; split <;> omega
theorem Z1z (x y : Rat) : qm (Z0h x y) ≤ qm x + qm y := by unfold Z0h; split <;> omega
def Z1m (p q r s : Rat) : Rat := Z0q (Z0q p q) (Z0q r s)
def Z2n (p q r s : Rat) : Rat := Z0h (Z0h p q) (Z0h r s)
theorem Z9Q (b n c : Nat) (qs : Nat → QC) (xs : Nat → Rat) (w : World) (h : LQ w b n qs xs) (hn : 0 < n) (hn2 : n ≤ 1000) (hs : ∀ i, i < n → 2 * qm (xs i) + 8 < Z8) :
  Ca 135 #[.slice (some ⟨b, 0, none⟩) n c] w (Z0G w (Z0I xs n)) := by
 have HL := zH h
 obtain ⟨i0, i1, i2, i3, i4⟩ := h 0 hn
 simp only [Nat.zero_mul, Nat.zero_add] at i0 i1 i2 i3
 have hnI : 0 < (n : Int) := by omega
 have hbl : b < w.heap.size := World.block_lt_of_cell? w _ i0
 have H0 := zH i4
 have HS := zH hs
 clear h i4 hs
 go_enter func135, ntmps135
 go_wp2_with fail
 go_loopw [11] (fun iv wr => ∃ (i : Nat) (q : QC), iv = .int .i64 (i : Int) ∧ i ≤ n ∧ BK wr (w.heap.size + 1) (zA3 q) ∧ Hid (q.At wr (Z0I xs i)) ∧ Hid (2 * qm (Z0I xs i) + 8 < Z8) ∧ BK wr (w.heap.size) zA9 ∧ Ext w wr) (fun iv _ => ((n : Int) - intOf iv).toNat)
 case atStart => exact ⟨0, qs 0, rfl, by omega, BX, H0.out.ext EX, HS.out 0 hn, BX, EX⟩
 case round =>
  obtain ⟨i, q, rfl, hi, R1, HQ, HM, R0, hx⟩ := hrel
  have F1 := R1.c4
  have F0 := R0.c4
  have L1 := R1.lt
  have L0 := R0.lt
  have hbw : b < wr.heap.size := Nat.lt_of_lt_of_le hbl hx.size
  have hbn0 : b ≠ w.heap.size := by omega
  have hbn1 : b ≠ w.heap.size + 1 := by omega
  clear i0 i1 i2 i3
  by_cases hin : i = n
  ·subst hin
   go_wp2_with fail
   refine bodyPost_ret (v := .agg (zA3 q)) (by simp [zA3, results, results135, go_sem, Z6, F0]) rfl ⟨_, _, _, _, _, _, _, _, rfl, QX, EX⟩
  ·have hlt : i < n := by omega
   obtain ⟨i0, i1, i2, i3, i4⟩ := HL.out.ext hx i hlt
   have HI := zH i4
   have hltI : (i : Int) < (n : Int) := by omega
   have M := zH (HS.out i hlt)
   have C := zH (fun W (h1 : (qs i).At W (xs i)) (h2 : q.At W (Z0I xs i)) => Z0U (qs i).s q.s (qs i).t q.t (qs i).A q.A (qs i).B q.B (qs i).n (qs i).c (qs i).m (qs i).d q.n q.c q.m q.d (xs i) (Z0I xs i) W h1 h2 (by have a := M.out; have b := HM.out; omega))
   clear i4
   by_cases hc : xs i < Z0I xs i
   ·have e : Hid (Z0I xs (i + 1) = xs i) := by show _ = _; rw [Z0I, if_pos hc]
    have hz : Z0s (xs i) (Z0I xs i) < 0 := Z9b.2 hc
    obtain ⟨z, hzz⟩ : ∃ z, Z0s (xs i) (Z0I xs i) = z := ⟨_, rfl⟩
    rw [hzz] at hz C
    clear hzz hc
    go_wp2_with (go_at_call 59; (with_reducible refine (C.out _ QX QX).mono ?_); rintro e w1 ⟨rfl, hbw1⟩; obtain ⟨R0, L0, F0⟩ := B40 w1 w; obtain ⟨R1, L1, F1⟩ := B41 w1 w; obtain ⟨R5, L5, F5⟩ := BC4 w1 wr.heap.size)
    go_roundw
    case measure => simp [intOf]; omega
    case rel => exact ⟨i + 1, qs i, by simp, by omega, BX, (by rw [e.out]; exact QX), (by rw [e.out]; exact M.out), BX, EX⟩
   ·have e : Hid (Z0I xs (i + 1) = Z0I xs i) := by show _ = _; rw [Z0I, if_neg hc]
    have hz : ¬ Z0s (xs i) (Z0I xs i) < 0 := fun e => hc (Z9b.1 e)
    obtain ⟨z, hzz⟩ : ∃ z, Z0s (xs i) (Z0I xs i) = z := ⟨_, rfl⟩
    rw [hzz] at hz C
    clear hzz hc
    go_wp2_with (go_at_call 59; (with_reducible refine (C.out _ QX QX).mono ?_); rintro e w1 ⟨rfl, hbw1⟩; obtain ⟨R0, L0, F0⟩ := B40 w1 w; obtain ⟨R1, L1, F1⟩ := B41 w1 w)
    go_roundw
    case measure => simp [intOf]; omega
    case rel => exact ⟨i + 1, q, by simp, by omega, BX, (by rw [e.out]; exact QX), (by rw [e.out]; exact HM.out), BX, EX⟩
theorem Z3u (b n c : Nat) (qs : Nat → QC) (xs : Nat → Rat) (w : World) (h : LQ w b n qs xs) (hn : 0 < n) (hn2 : n ≤ 1000) (hs : ∀ i, i < n → 2 * qm (xs i) + 8 < Z8) :
  Ca 136 #[.slice (some ⟨b, 0, none⟩) n c] w (Z0G w (Z0r xs n)) := by
 have HL := zH h
 obtain ⟨i0, i1, i2, i3, i4⟩ := h 0 hn
 simp only [Nat.zero_mul, Nat.zero_add] at i0 i1 i2 i3
 have hnI : 0 < (n : Int) := by omega
 have hbl : b < w.heap.size := World.block_lt_of_cell? w _ i0
 have H0 := zH i4
 have HS := zH hs
 clear h i4 hs
 go_enter func136, ntmps136
 go_wp2_with fail
 go_loopw [11] (fun iv wr => ∃ (i : Nat) (q : QC), iv = .int .i64 (i : Int) ∧ i ≤ n ∧ BK wr (w.heap.size + 1) (zA3 q) ∧ Hid (q.At wr (Z0r xs i)) ∧ Hid (2 * qm (Z0r xs i) + 8 < Z8) ∧ BK wr (w.heap.size) zA9 ∧ Ext w wr) (fun iv _ => ((n : Int) - intOf iv).toNat)
 case atStart => exact ⟨0, qs 0, rfl, by omega, BX, H0.out.ext EX, HS.out 0 hn, BX, EX⟩
 case round =>
  obtain ⟨i, q, rfl, hi, R1, HQ, HM, R0, hx⟩ := hrel
  have F1 := R1.c4
  have F0 := R0.c4
  have L1 := R1.lt
  have L0 := R0.lt
  have hbw : b < wr.heap.size := Nat.lt_of_lt_of_le hbl hx.size
  have hbn0 : b ≠ w.heap.size := by omega
  have hbn1 : b ≠ w.heap.size + 1 := by omega
  clear i0 i1 i2 i3
  by_cases hin : i = n
  ·subst hin
   go_wp2_with fail
   refine bodyPost_ret (v := .agg (zA3 q)) (by simp [zA3, results, results136, go_sem, Z6, F0]) rfl ⟨_, _, _, _, _, _, _, _, rfl, QX, EX⟩
  ·have hlt : i < n := by omega
   obtain ⟨i0, i1, i2, i3, i4⟩ := HL.out.ext hx i hlt
   have HI := zH i4
   have hltI : (i : Int) < (n : Int) := by omega
   have M := zH (HS.out i hlt)
   have C := zH (fun W (h1 : (qs i).At W (xs i)) (h2 : q.At W (Z0r xs i)) => Z0U (qs i).s q.s (qs i).t q.t (qs i).A q.A (qs i).B q.B (qs i).n (qs i).c (qs i).m (qs i).d q.n q.c q.m q.d (xs i) (Z0r xs i) W h1 h2 (by have a := M.out; have b := HM.out; omega))
   clear i4
   by_cases hc : Z0r xs i < xs i
   ·have e : Hid (Z0r xs (i + 1) = xs i) := by show _ = _; rw [Z0r, if_pos hc]
    have hz : Z0s (xs i) (Z0r xs i) > 0 := Z4P.2 hc
    obtain ⟨z, hzz⟩ : ∃ z, Z0s (xs i) (Z0r xs i) = z := ⟨_, rfl⟩
    rw [hzz] at hz C
    clear hzz hc
    go_wp2_with (go_at_call 59; (with_reducible refine (C.out _ QX QX).mono ?_); rintro e w1 ⟨rfl, hbw1⟩; obtain ⟨R0, L0, F0⟩ := B40 w1 w; obtain ⟨R1, L1, F1⟩ := B41 w1 w; obtain ⟨R5, L5, F5⟩ := BC4 w1 wr.heap.size)
    go_roundw
    case measure => simp [intOf]; omega
    case rel => exact ⟨i + 1, qs i, by simp, by omega, BX, (by rw [e.out]; exact QX), (by rw [e.out]; exact M.out), BX, EX⟩
   ·have e : Hid (Z0r xs (i + 1) = Z0r xs i) := by show _ = _; rw [Z0r, if_neg hc]
    have hz : ¬ Z0s (xs i) (Z0r xs i) > 0 := fun e => hc (Z4P.1 e)
    obtain ⟨z, hzz⟩ : ∃ z, Z0s (xs i) (Z0r xs i) = z := ⟨_, rfl⟩
    rw [hzz] at hz C
    clear hzz hc
    go_wp2_with (go_at_call 59; (with_reducible refine (C.out _ QX QX).mono ?_); rintro e w1 ⟨rfl, hbw1⟩; obtain ⟨R0, L0, F0⟩ := B40 w1 w; obtain ⟨R1, L1, F1⟩ := B41 w1 w)
    go_roundw
    case measure => simp [intOf]; omega
    case rel => exact ⟨i + 1, q, by simp, by omega, BX, (by rw [e.out]; exact QX), (by rw [e.out]; exact HM.out), BX, EX⟩
theorem KQ {Q : Prop} (h : Q := by
 (try dsimp only)
 (repeat (cases ‹_ ∧ _›))
 repeat' (with_reducible apply And.intro)
 all_goals (with_reducible (repeat (first | assumption | refine Z0t ?_ _ | refine Z3T ?_ | refine Z5c ?_ (by simp only; omega) _ | (refine Ext.cell (w := ?_) ?_ ?_; rotate_left 2; (focus assumption); (focus assumption)) | refine Ext.cell (by assumption) ?_)))
 first | done | fail) : Q := h
theorem Z65 (a b c d : QC) (x y u v : Rat) (w : World) (ha : a.At w x) (hb : b.At w y) (hc0 : c.At w u) (hd : d.At w v) (hs : 8 * (qm x + qm y + qm u + qm v) + 100 < Z8) :
  Ca 18 #[.agg (zA0 a b), .agg (zA0 c d)] w (Z0e w (Z1m (x * u) (x * v) (y * u) (y * v)) (Z2n (x * u) (x * v) (y * u) (y * v))) := by
 have HA := zH ha
 have HB := zH hb
 have HC := zH hc0
 have HD := zH hd
 have m1 := Z09 x u
 have m2 := Z09 x v
 have m3 := Z09 y u
 have m4 := Z09 y v
 have l1 := Z2c (x * u) (x * v)
 have l2 := Z2c (y * u) (y * v)
 have l3 := Z1z (x * u) (x * v)
 have l4 := Z1z (y * u) (y * v)
 unfold Z1m Z2n
 clear ha hb hc0 hd
 dsimp only [zA0]
 go_enter func18, ntmps18
 go_wp2_with fail
 obtain ⟨W0, hW0⟩ : ∃ W0, (w |>.alloc (.cells #[.bool a.s, .slice a.A a.n a.c, .bool a.t, .slice a.B a.m a.d, .bool b.s, .slice b.A b.n b.c, .bool b.t, .slice b.B b.m b.d] 28) |>.alloc (.cells #[.bool c.s, .slice c.A c.n c.c, .bool c.t, .slice c.B c.m c.d, .bool d.s, .slice d.A d.n d.c, .bool d.t, .slice d.B d.m d.d] 28) |>.alloc (.cells #[.bool false, .slice none 0 0, .bool false, .slice none 0 0, .bool false, .slice none 0 0, .bool false, .slice none 0 0] 28)) = W0 := ⟨_, rfl⟩
 have B0 : BK W0 (w.heap.size) (zA0 a b) := by rw [← hW0]; exact BX
 have B1 : BK W0 (w.heap.size + 1) (zA0 c d) := by rw [← hW0]; exact BX
 have B2 : BK W0 (w.heap.size + 1 + 1) zA5 := by rw [← hW0]; exact BX
 have x0 : Ext w W0 := by rw [← hW0]; exact EX
 have z0 : w.heap.size + 3 ≤ W0.heap.size := by rw [← hW0]; simp only [World.size_alloc]; omega
 obtain ⟨a0, a1, a2, a3, a4, a5, a6, a7, -⟩ := B0.c8
 obtain ⟨b0, b1, b2, b3, b4, b5, b6, b7, -⟩ := B1.c8
 have y0 : w.heap.size < W0.heap.size := by omega
 have y1 : w.heap.size + 1 < W0.heap.size := by omega
 rw [hW0]
 clear hW0
 go_cut [5, 6] (fun v1 v2 wx => ∃ g5 g6 : Nat, ∃ q5 q6 : QC, v1 = .pointer (some ⟨g5, 0, none⟩) ∧ v2 = .pointer (some ⟨g6, 0, none⟩) ∧ BK wx g5 (zA3 q5) ∧ BK wx g6 (zA3 q6) ∧ q5.At wx (x * u) ∧ q6.At wx (x * v) ∧ BK wx (w.heap.size) (zA0 a b) ∧ BK wx (w.heap.size + 1) (zA0 c d) ∧ BK wx (w.heap.size + 1 + 1) zA5 ∧ W0.heap.size ≤ g5 ∧ W0.heap.size ≤ g6 ∧ g5 ≠ g6 ∧ Ext W0 wx)
 case first =>
  go_region_held3 (fun w' => zC w' w.heap.size 0 (.bool a.s) ∧ zC w' w.heap.size 1 (.slice a.A a.n a.c) ∧ zC w' w.heap.size 2 (.bool a.t) ∧ zC w' w.heap.size 3 (.slice a.B a.m a.d) ∧ zC w' w.heap.size 4 (.bool b.s) ∧ zC w' w.heap.size 5 (.slice b.A b.n b.c) ∧ zC w' w.heap.size 6 (.bool b.t) ∧ zC w' w.heap.size 7 (.slice b.B b.m b.d) ∧ zC w' (w.heap.size + 1) 0 (.bool c.s) ∧ zC w' (w.heap.size + 1) 1 (.slice c.A c.n c.c) ∧ zC w' (w.heap.size + 1) 2 (.bool c.t) ∧ zC w' (w.heap.size + 1) 3 (.slice c.B c.m c.d) ∧ zC w' (w.heap.size + 1) 4 (.bool d.s) ∧ zC w' (w.heap.size + 1) 5 (.slice d.A d.n d.c) ∧ zC w' (w.heap.size + 1) 6 (.bool d.t) ∧ zC w' (w.heap.size + 1) 7 (.slice d.B d.m d.d)) (first | (exact KQ) | (simp [go_sem, *]; done)) (first | (go_at_call 37; (with_reducible apply Calls.mono (args := #[.agg #[.bool a.s, .slice a.A a.n a.c, .bool a.t, .slice a.B a.m a.d], .agg #[.bool c.s, .slice c.A c.n c.c, .bool c.t, .slice c.B c.m c.d]])); (focus (go_loud (with_reducible exact Z1L a.s c.s a.t c.t a.A c.A a.B c.B a.n a.c a.m a.d c.n c.c c.m c.d x u _ QX QX (by omega)))); rintro e w1 ⟨sw1, Aw1, nw1, cw1, tw1, Bw1, mw1, dw1, rfl, hQ, hbw1⟩; have Hw1 := zH hQ; clear hQ; obtain ⟨R0, L0, F0⟩ := B80 w1 w; obtain ⟨R1, L1, F1⟩ := B81 w1 w; have := hbw1.sz; (try have zw10 : w.heap.size < w1.heap.size := (by omega)); (try have zw11 : w.heap.size + 1 < w1.heap.size := (by omega)); (try have zw12 : W0.heap.size < w1.heap.size := (by omega)); (try have zw13 : W0.heap.size + 1 < w1.heap.size := (by omega)); (try have zw14 : w1.heap.size < w1.heap.size := (by omega)); (try have zw15 : w1.heap.size + 1 < w1.heap.size := (by omega)); (try have zw16 : w2.heap.size < w1.heap.size := (by omega)); (try have zw17 : w2.heap.size + 1 < w1.heap.size := (by omega)); (try (refine (fun Tw10 => ?_ : BK w1 (W0.heap.size) zA9 → _) ?_; rotate_left; (focus (with_reducible (repeat (first | assumption | (refine BK.new _ _ ?_; first | rfl | (simp only [SZ]; done)) | refine BK.alloc ?_ _ | refine BK.drew ?_ | apply BK.st8 | apply BK.st4 | apply BK.st2 | refine BK.other ?_ (by simp only; omega) _ | refine BK.ext ?_ (by assumption))); done)); obtain ⟨Tw10_0, Tw10_1, Tw10_2, Tw10_3, Tw10_4⟩ := Tw10.c4)); (try (refine (fun Tw11 => ?_ : BK w1 (W0.heap.size + 1) zA9 → _) ?_; rotate_left; (focus (with_reducible (repeat (first | assumption | (refine BK.new _ _ ?_; first | rfl | (simp only [SZ]; done)) | refine BK.alloc ?_ _ | refine BK.drew ?_ | apply BK.st8 | apply BK.st4 | apply BK.st2 | refine BK.other ?_ (by simp only; omega) _ | refine BK.ext ?_ (by assumption))); done)); obtain ⟨Tw11_0, Tw11_1, Tw11_2, Tw11_3, Tw11_4⟩ := Tw11.c4))) | (go_at_call 37; (with_reducible apply Calls.mono (args := #[.agg #[.bool a.s, .slice a.A a.n a.c, .bool a.t, .slice a.B a.m a.d], .agg #[.bool d.s, .slice d.A d.n d.c, .bool d.t, .slice d.B d.m d.d]])); (focus (go_loud (with_reducible exact Z1L a.s d.s a.t d.t a.A d.A a.B d.B a.n a.c a.m a.d d.n d.c d.m d.d x v _ QX QX (by omega)))); rintro e w2 ⟨sw2, Aw2, nw2, cw2, tw2, Bw2, mw2, dw2, rfl, hQ, hbw2⟩; have Hw2 := zH hQ; clear hQ; (try clear F0 F1); obtain ⟨R0, L0, F0⟩ := B80 w2 w; obtain ⟨R1, L1, F1⟩ := B81 w2 w; have := hbw2.sz; (try have zw20 : w.heap.size < w2.heap.size := (by omega)); (try have zw21 : w.heap.size + 1 < w2.heap.size := (by omega)); (try have zw22 : W0.heap.size < w2.heap.size := (by omega)); (try have zw23 : W0.heap.size + 1 < w2.heap.size := (by omega)); (try have zw24 : w1.heap.size < w2.heap.size := (by omega)); (try have zw25 : w1.heap.size + 1 < w2.heap.size := (by omega)); (try have zw26 : w2.heap.size < w2.heap.size := (by omega)); (try have zw27 : w2.heap.size + 1 < w2.heap.size := (by omega)); (try (refine (fun Tw20 => ?_ : BK w2 (W0.heap.size) zA9 → _) ?_; rotate_left; (focus (with_reducible (repeat (first | assumption | (refine BK.new _ _ ?_; first | rfl | (simp only [SZ]; done)) | refine BK.alloc ?_ _ | refine BK.drew ?_ | apply BK.st8 | apply BK.st4 | apply BK.st2 | refine BK.other ?_ (by simp only; omega) _ | refine BK.ext ?_ (by assumption))); done)); obtain ⟨Tw20_0, Tw20_1, Tw20_2, Tw20_3, Tw20_4⟩ := Tw20.c4)); (try (refine (fun Tw21 => ?_ : BK w2 (W0.heap.size + 1) zA9 → _) ?_; rotate_left; (focus (with_reducible (repeat (first | assumption | (refine BK.new _ _ ?_; first | rfl | (simp only [SZ]; done)) | refine BK.alloc ?_ _ | refine BK.drew ?_ | apply BK.st8 | apply BK.st4 | apply BK.st2 | refine BK.other ?_ (by simp only; omega) _ | refine BK.ext ?_ (by assumption))); done)); obtain ⟨Tw21_0, Tw21_1, Tw21_2, Tw21_3, Tw21_4⟩ := Tw21.c4)); (try (refine (fun Tw22 => ?_ : BK w2 (w1.heap.size) zA9 → _) ?_; rotate_left; (focus (with_reducible (repeat (first | assumption | (refine BK.new _ _ ?_; first | rfl | (simp only [SZ]; done)) | refine BK.alloc ?_ _ | refine BK.drew ?_ | apply BK.st8 | apply BK.st4 | apply BK.st2 | refine BK.other ?_ (by simp only; omega) _ | refine BK.ext ?_ (by assumption))); done)); obtain ⟨Tw22_0, Tw22_1, Tw22_2, Tw22_3, Tw22_4⟩ := Tw22.c4)); (try (refine (fun Tw23 => ?_ : BK w2 (w1.heap.size + 1) zA9 → _) ?_; rotate_left; (focus (with_reducible (repeat (first | assumption | (refine BK.new _ _ ?_; first | rfl | (simp only [SZ]; done)) | refine BK.alloc ?_ _ | refine BK.drew ?_ | apply BK.st8 | apply BK.st4 | apply BK.st2 | refine BK.other ?_ (by simp only; omega) _ | refine BK.ext ?_ (by assumption))); done)); obtain ⟨Tw23_0, Tw23_1, Tw23_2, Tw23_3, Tw23_4⟩ := Tw23.c4))))
  all_goals go_wp2_with fail
  all_goals go_meet
  all_goals go_light
  all_goals exact ⟨_, _, ⟨_, _, _, _, _, _, _, _⟩, ⟨_, _, _, _, _, _, _, _⟩, rfl, rfl, BX, BX, QX, QX, BX, BX, BX, (by omega), (by omega), (by omega), EX⟩
 case rest =>
  obtain ⟨g5, g6, q5, q6, rfl, rfl, B5, B6, h5, h6, C0, C1, C2, hg5, hg6, hne, hx5⟩ := hcut
  have H5 := zH h5
  have H6 := zH h6
  have y2 := C0.lt
  have y3 := C1.lt
  have y4 := B5.lt
  have y5 := B6.lt
  clear h5 h6 B0 B1 B2 a0 a1 a2 a3 a4 a5 a6 a7 b0 b1 b2 b3 b4 b5 b6 b7
  obtain ⟨a0, a1, a2, a3, a4, a5, a6, a7, -⟩ := C0.c8
  obtain ⟨b0, b1, b2, b3, b4, b5, b6, b7, -⟩ := C1.c8
  go_wp2_with fail
  go_cut [7, 8] (fun v1 v2 wx => ∃ g7 g8 : Nat, ∃ q7 q8 : QC, v1 = .pointer (some ⟨g7, 0, none⟩) ∧ v2 = .pointer (some ⟨g8, 0, none⟩) ∧ BK wx g7 (zA3 q7) ∧ BK wx g8 (zA3 q8) ∧ q7.At wx (y * u) ∧ q8.At wx (y * v) ∧ BK wx (w.heap.size) (zA0 a b) ∧ BK wx (w.heap.size + 1) (zA0 c d) ∧ BK wx (w.heap.size + 1 + 1) zA5 ∧ wc.heap.size ≤ g7 ∧ wc.heap.size ≤ g8 ∧ g7 ≠ g8 ∧ Ext wc wx)
  case first =>
   go_region_held3 (fun w' => zC w' w.heap.size 0 (.bool a.s) ∧ zC w' w.heap.size 1 (.slice a.A a.n a.c) ∧ zC w' w.heap.size 2 (.bool a.t) ∧ zC w' w.heap.size 3 (.slice a.B a.m a.d) ∧ zC w' w.heap.size 4 (.bool b.s) ∧ zC w' w.heap.size 5 (.slice b.A b.n b.c) ∧ zC w' w.heap.size 6 (.bool b.t) ∧ zC w' w.heap.size 7 (.slice b.B b.m b.d) ∧ zC w' (w.heap.size + 1) 0 (.bool c.s) ∧ zC w' (w.heap.size + 1) 1 (.slice c.A c.n c.c) ∧ zC w' (w.heap.size + 1) 2 (.bool c.t) ∧ zC w' (w.heap.size + 1) 3 (.slice c.B c.m c.d) ∧ zC w' (w.heap.size + 1) 4 (.bool d.s) ∧ zC w' (w.heap.size + 1) 5 (.slice d.A d.n d.c) ∧ zC w' (w.heap.size + 1) 6 (.bool d.t) ∧ zC w' (w.heap.size + 1) 7 (.slice d.B d.m d.d)) (first | (exact KQ) | (simp [go_sem, *]; done)) (first | (go_at_call 37; (with_reducible apply Calls.mono (args := #[.agg #[.bool b.s, .slice b.A b.n b.c, .bool b.t, .slice b.B b.m b.d], .agg #[.bool c.s, .slice c.A c.n c.c, .bool c.t, .slice c.B c.m c.d]])); (focus (go_loud (with_reducible exact Z1L b.s c.s b.t c.t b.A c.A b.B c.B b.n b.c b.m b.d c.n c.c c.m c.d y u _ QX QX (by omega)))); rintro e w1 ⟨sw1, Aw1, nw1, cw1, tw1, Bw1, mw1, dw1, rfl, hQ, hbw1⟩; have Hw1 := zH hQ; clear hQ; obtain ⟨R0, L0, F0⟩ := B80 w1 w; obtain ⟨R1, L1, F1⟩ := B81 w1 w; have := hbw1.sz; (try have zw10 : w.heap.size < w1.heap.size := (by omega)); (try have zw11 : w.heap.size + 1 < w1.heap.size := (by omega)); (try have zw12 : wc.heap.size < w1.heap.size := (by omega)); (try have zw13 : wc.heap.size + 1 < w1.heap.size := (by omega)); (try have zw14 : w1.heap.size < w1.heap.size := (by omega)); (try have zw15 : w1.heap.size + 1 < w1.heap.size := (by omega)); (try (refine (fun Tw10 => ?_ : BK w1 (wc.heap.size) zA9 → _) ?_; rotate_left; (focus (with_reducible (repeat (first | assumption | (refine BK.new _ _ ?_; first | rfl | (simp only [SZ]; done)) | refine BK.alloc ?_ _ | refine BK.drew ?_ | apply BK.st8 | apply BK.st4 | apply BK.st2 | refine BK.other ?_ (by simp only; omega) _ | refine BK.ext ?_ (by assumption))); done)); obtain ⟨Tw10_0, Tw10_1, Tw10_2, Tw10_3, Tw10_4⟩ := Tw10.c4)); (try (refine (fun Tw11 => ?_ : BK w1 (wc.heap.size + 1) zA9 → _) ?_; rotate_left; (focus (with_reducible (repeat (first | assumption | (refine BK.new _ _ ?_; first | rfl | (simp only [SZ]; done)) | refine BK.alloc ?_ _ | refine BK.drew ?_ | apply BK.st8 | apply BK.st4 | apply BK.st2 | refine BK.other ?_ (by simp only; omega) _ | refine BK.ext ?_ (by assumption))); done)); obtain ⟨Tw11_0, Tw11_1, Tw11_2, Tw11_3, Tw11_4⟩ := Tw11.c4))) | (go_at_call 37; (with_reducible apply Calls.mono (args := #[.agg #[.bool b.s, .slice b.A b.n b.c, .bool b.t, .slice b.B b.m b.d], .agg #[.bool d.s, .slice d.A d.n d.c, .bool d.t, .slice d.B d.m d.d]])); (focus (go_loud (with_reducible exact Z1L b.s d.s b.t d.t b.A d.A b.B d.B b.n b.c b.m b.d d.n d.c d.m d.d y v _ QX QX (by omega)))); rintro e w2 ⟨sw2, Aw2, nw2, cw2, tw2, Bw2, mw2, dw2, rfl, hQ, hbw2⟩; have Hw2 := zH hQ; clear hQ; (try clear F0 F1); obtain ⟨R0, L0, F0⟩ := B80 w2 w; obtain ⟨R1, L1, F1⟩ := B81 w2 w; have := hbw2.sz; (try have zw20 : w.heap.size < w2.heap.size := (by omega)); (try have zw21 : w.heap.size + 1 < w2.heap.size := (by omega)); (try have zw22 : wc.heap.size < w2.heap.size := (by omega)); (try have zw23 : wc.heap.size + 1 < w2.heap.size := (by omega)); (try have zw24 : w1.heap.size < w2.heap.size := (by omega)); (try have zw25 : w1.heap.size + 1 < w2.heap.size := (by omega)); (try (refine (fun Tw20 => ?_ : BK w2 (wc.heap.size) zA9 → _) ?_; rotate_left; (focus (with_reducible (repeat (first | assumption | (refine BK.new _ _ ?_; first | rfl | (simp only [SZ]; done)) | refine BK.alloc ?_ _ | refine BK.drew ?_ | apply BK.st8 | apply BK.st4 | apply BK.st2 | refine BK.other ?_ (by simp only; omega) _ | refine BK.ext ?_ (by assumption))); done)); obtain ⟨Tw20_0, Tw20_1, Tw20_2, Tw20_3, Tw20_4⟩ := Tw20.c4)); (try (refine (fun Tw21 => ?_ : BK w2 (wc.heap.size + 1) zA9 → _) ?_; rotate_left; (focus (with_reducible (repeat (first | assumption | (refine BK.new _ _ ?_; first | rfl | (simp only [SZ]; done)) | refine BK.alloc ?_ _ | refine BK.drew ?_ | apply BK.st8 | apply BK.st4 | apply BK.st2 | refine BK.other ?_ (by simp only; omega) _ | refine BK.ext ?_ (by assumption))); done)); obtain ⟨Tw21_0, Tw21_1, Tw21_2, Tw21_3, Tw21_4⟩ := Tw21.c4)); (try (refine (fun Tw22 => ?_ : BK w2 (w1.heap.size) zA9 → _) ?_; rotate_left; (focus (with_reducible (repeat (first | assumption | (refine BK.new _ _ ?_; first | rfl | (simp only [SZ]; done)) | refine BK.alloc ?_ _ | refine BK.drew ?_ | apply BK.st8 | apply BK.st4 | apply BK.st2 | refine BK.other ?_ (by simp only; omega) _ | refine BK.ext ?_ (by assumption))); done)); obtain ⟨Tw22_0, Tw22_1, Tw22_2, Tw22_3, Tw22_4⟩ := Tw22.c4)); (try (refine (fun Tw23 => ?_ : BK w2 (w1.heap.size + 1) zA9 → _) ?_; rotate_left; (focus (with_reducible (repeat (first | assumption | (refine BK.new _ _ ?_; first | rfl | (simp only [SZ]; done)) | refine BK.alloc ?_ _ | refine BK.drew ?_ | apply BK.st8 | apply BK.st4 | apply BK.st2 | refine BK.other ?_ (by simp only; omega) _ | refine BK.ext ?_ (by assumption))); done)); obtain ⟨Tw23_0, Tw23_1, Tw23_2, Tw23_3, Tw23_4⟩ := Tw23.c4))))
   all_goals go_wp2_with fail
   all_goals go_meet
   all_goals go_light
   all_goals exact ⟨_, _, ⟨_, _, _, _, _, _, _, _⟩, ⟨_, _, _, _, _, _, _, _⟩, rfl, rfl, BX, BX, QX, QX, BX, BX, BX, (by omega), (by omega), (by omega), EX⟩
  case rest =>
   obtain ⟨g7, g8, q7, q8, rfl, rfl, B7, B8, h7, h8, E0, E1, E2, hg7, hg8, hne2, hx7⟩ := hcut
   have H7 := zH h7
   have H8 := zH h8
   have B5' := B5.ext hx7
   have B6' := B6.ext hx7
   have F5 := B5'.c4
   have F6 := B6'.c4
   have F7 := B7.c4
   have F8 := B8.c4
   clear h7 h8 a0 a1 a2 a3 a4 a5 a6 a7 b0 b1 b2 b3 b4 b5 b6 b7
   go_wp2_with fail
   go_region_held3 (fun w' => zC w' g5 0 (.bool q5.s) ∧ zC w' g5 1 (.slice q5.A q5.n q5.c) ∧ zC w' g5 2 (.bool q5.t) ∧ zC w' g5 3 (.slice q5.B q5.m q5.d) ∧ zC w' g6 0 (.bool q6.s) ∧ zC w' g6 1 (.slice q6.A q6.n q6.c) ∧ zC w' g6 2 (.bool q6.t) ∧ zC w' g6 3 (.slice q6.B q6.m q6.d) ∧ zC w' g7 0 (.bool q7.s) ∧ zC w' g7 1 (.slice q7.A q7.n q7.c) ∧ zC w' g7 2 (.bool q7.t) ∧ zC w' g7 3 (.slice q7.B q7.m q7.d) ∧ zC w' g8 0 (.bool q8.s) ∧ zC w' g8 1 (.slice q8.A q8.n q8.c) ∧ zC w' g8 2 (.bool q8.t) ∧ zC w' g8 3 (.slice q8.B q8.m q8.d)) (first | (exact KQ) | (simp [go_sem, *]; done)) (first | (go_at_call 67; (with_reducible apply Calls.mono (args := #[.agg #[.bool q5.s, .slice q5.A q5.n q5.c, .bool q5.t, .slice q5.B q5.m q5.d], .agg #[.bool q6.s, .slice q6.A q6.n q6.c, .bool q6.t, .slice q6.B q6.m q6.d]])); (focus (go_loud (with_reducible exact Z2D q5.s q6.s q5.t q6.t q5.A q6.A q5.B q6.B q5.n q5.c q5.m q5.d q6.n q6.c q6.m q6.d _ _ _ QX QX (by omega)))); rintro e w1 ⟨sw1, Aw1, nw1, cw1, tw1, Bw1, mw1, dw1, rfl, hQ, hbw1⟩; have Hw1 := zH hQ; clear hQ; obtain ⟨R2, L2, F2⟩ := B82 w1 w) | (go_at_call 67; (with_reducible apply Calls.mono (args := #[.agg #[.bool q7.s, .slice q7.A q7.n q7.c, .bool q7.t, .slice q7.B q7.m q7.d], .agg #[.bool q8.s, .slice q8.A q8.n q8.c, .bool q8.t, .slice q8.B q8.m q8.d]])); (focus (go_loud (with_reducible exact Z2D q7.s q8.s q7.t q8.t q7.A q8.A q7.B q8.B q7.n q7.c q7.m q7.d q8.n q8.c q8.m q8.d _ _ _ QX QX (by omega)))); rintro e w2 ⟨sw2, Aw2, nw2, cw2, tw2, Bw2, mw2, dw2, rfl, hQ, hbw2⟩; have Hw2 := zH hQ; clear hQ; obtain ⟨R2, L2, F2⟩ := B82 w2 w) | (go_at_call 67; (with_reducible apply Calls.mono (args := #[.agg #[.bool sw1, .slice Aw1 nw1 cw1, .bool tw1, .slice Bw1 mw1 dw1], .agg #[.bool sw2, .slice Aw2 nw2 cw2, .bool tw2, .slice Bw2 mw2 dw2]])); (focus (go_loud (with_reducible exact Z2D sw1 sw2 tw1 tw2 Aw1 Aw2 Bw1 Bw2 nw1 cw1 mw1 dw1 nw2 cw2 mw2 dw2 _ _ _ QX QX (by omega)))); rintro e w3 ⟨sw3, Aw3, nw3, cw3, tw3, Bw3, mw3, dw3, rfl, hQ, hbw3⟩; have Hw3 := zH hQ; clear hQ; obtain ⟨R2, L2, F2⟩ := B82 w3 w) | (go_at_call 68; (with_reducible apply Calls.mono (args := #[.agg #[.bool q5.s, .slice q5.A q5.n q5.c, .bool q5.t, .slice q5.B q5.m q5.d], .agg #[.bool q6.s, .slice q6.A q6.n q6.c, .bool q6.t, .slice q6.B q6.m q6.d]])); (focus (go_loud (with_reducible exact Z3n q5.s q6.s q5.t q6.t q5.A q6.A q5.B q6.B q5.n q5.c q5.m q5.d q6.n q6.c q6.m q6.d _ _ _ QX QX (by omega)))); rintro e w4 ⟨sw4, Aw4, nw4, cw4, tw4, Bw4, mw4, dw4, rfl, hQ, hbw4⟩; have Hw4 := zH hQ; clear hQ; obtain ⟨R2, L2, F2⟩ := B82 w4 w) | (go_at_call 68; (with_reducible apply Calls.mono (args := #[.agg #[.bool q7.s, .slice q7.A q7.n q7.c, .bool q7.t, .slice q7.B q7.m q7.d], .agg #[.bool q8.s, .slice q8.A q8.n q8.c, .bool q8.t, .slice q8.B q8.m q8.d]])); (focus (go_loud (with_reducible exact Z3n q7.s q8.s q7.t q8.t q7.A q8.A q7.B q8.B q7.n q7.c q7.m q7.d q8.n q8.c q8.m q8.d _ _ _ QX QX (by omega)))); rintro e w5 ⟨sw5, Aw5, nw5, cw5, tw5, Bw5, mw5, dw5, rfl, hQ, hbw5⟩; have Hw5 := zH hQ; clear hQ; obtain ⟨R2, L2, F2⟩ := B82 w5 w) | (go_at_call 68; (with_reducible apply Calls.mono (args := #[.agg #[.bool sw4, .slice Aw4 nw4 cw4, .bool tw4, .slice Bw4 mw4 dw4], .agg #[.bool sw5, .slice Aw5 nw5 cw5, .bool tw5, .slice Bw5 mw5 dw5]])); (focus (go_loud (with_reducible exact Z3n sw4 sw5 tw4 tw5 Aw4 Aw5 Bw4 Bw5 nw4 cw4 mw4 dw4 nw5 cw5 mw5 dw5 _ _ _ QX QX (by omega)))); rintro e w6 ⟨sw6, Aw6, nw6, cw6, tw6, Bw6, mw6, dw6, rfl, hQ, hbw6⟩; have Hw6 := zH hQ; clear hQ; obtain ⟨R2, L2, F2⟩ := B82 w6 w))
   all_goals go_wp2_with fail
   all_goals refine bodyPost_ret (v := .agg #[.bool sw3, .slice Aw3 nw3 cw3, .bool tw3, .slice Bw3 mw3 dw3, .bool sw6, .slice Aw6 nw6 cw6, .bool tw6, .slice Bw6 mw6 dw6]) (by simp [results, results18, go_sem, Z6, F2]) rfl ⟨⟨_, _, _, _, _, _, _, _⟩, ⟨_, _, _, _, _, _, _, _⟩, rfl, QX, QX, EX⟩
theorem Z9z (x c : Rat) : (if x < c then x else c) = Z0q c x := by
 unfold Z0q
 by_cases h : x < c
 ·rw [if_pos h, if_neg (Rat.not_le.2 h)]
 ·rw [if_neg h, if_pos (Rat.not_lt.1 h)]
theorem Z7P (x c : Rat) : (if c < x then x else c) = Z0h c x := by
 unfold Z0h
 by_cases h : c < x
 ·rw [if_pos h, if_neg (Rat.not_le.2 h)]
 ·rw [if_neg h, if_pos (Rat.not_lt.1 h)]
theorem Z46 (x : Rat) : Z0q x x = x := by unfold Z0q; split <;> rfl
theorem Z2m (x : Rat) : Z0h x x = x := by unfold Z0h; split <;> rfl
theorem Z6s (x y z : Rat) : Z0q (Z0q x y) z = Z0q x (Z0q y z) := by
 unfold Z0q
 by_cases h1 : x ≤ y <;> by_cases h2 : y ≤ z <;> by_cases h3 : x ≤ z <;> simp only [h1, h2, h3, if_true, if_false]
 ·exact absurd (Rat.le_trans h1 h2) h3
 ·exact absurd (Rat.le_trans (Rat.le_of_lt (Rat.not_le.1 h2)) (Rat.le_trans (Rat.le_of_lt (Rat.not_le.1 h1)) h3)) (fun _ => h1 (Rat.le_trans h3 (Rat.le_of_lt (Rat.not_le.1 h2))))
theorem Z7a (x y z : Rat) : Z0h (Z0h x y) z = Z0h x (Z0h y z) := by
 unfold Z0h
 by_cases h1 : y ≤ x <;> by_cases h2 : z ≤ y <;> by_cases h3 : z ≤ x <;> simp only [h1, h2, h3, if_true, if_false]
 ·exact absurd (Rat.le_trans h2 h1) h3
 ·exact absurd (Rat.le_trans (Rat.le_of_lt (Rat.not_le.1 h2)) h3) (fun e => h1 e)
def Z5t (p q r s : Rat) (i : Nat) : Rat := if i = 0 then p else if i = 1 then q else if i = 2 then r else s
def Z9Z (p q r s : QC) (i : Nat) : QC := if i = 0 then p else if i = 1 then q else if i = 2 then r else s
theorem Z7b (p q r s : Rat) : Z0I (Z5t p q r s) 4 = Z1m p q r s := by
 simp only [Z0I, Z9z, Z5t, Z46]
 simp [Z46, Z1m, Z6s]
theorem Z7d (p q r s : Rat) : Z0r (Z5t p q r s) 4 = Z2n p q r s := by
 simp only [Z0r, Z7P, Z5t, Z2m]
 simp [Z2m, Z2n, Z7a]
theorem Zbp {w : World} {b : Nat} {p q r s : QC} {x y z u : Rat} (h : BK w b #[.bool p.s, .slice p.A p.n p.c, .bool p.t, .slice p.B p.m p.d, .bool q.s, .slice q.A q.n q.c, .bool q.t, .slice q.B q.m q.d, .bool r.s, .slice r.A r.n r.c, .bool r.t, .slice r.B r.m r.d, .bool s.s, .slice s.A s.n s.c, .bool s.t, .slice s.B s.m s.d]) (h1 : p.At w x) (h2 : q.At w y) (h3 : r.At w z) (h4 : s.At w u) : LQ w b 4 (Z9Z p q r s) (Z5t x y z u) := by
 intro i hi
 match i, hi with
 | 0, _ => exact ⟨h.cell 0, h.cell 1, h.cell 2, h.cell 3, h1⟩
 | 1, _ => exact ⟨h.cell 4, h.cell 5, h.cell 6, h.cell 7, h2⟩
 | 2, _ => exact ⟨h.cell 8, h.cell 9, h.cell 10, h.cell 11, h3⟩
 | 3, _ => exact ⟨h.cell 12, h.cell 13, h.cell 14, h.cell 15, h4⟩
theorem ZF (a b c d : QC) (x y u v : Rat) (w : World) (ha : a.At w x) (hb : b.At w y) (hc0 : c.At w u) (hd : d.At w v) (hs : 8 * (qm x + qm y + qm u + qm v) + 100 < Z8) :
  Ca 66 #[.agg (zA0 a b), .agg (zA0 c d)] w (Z0e w (Z1m (x * u) (x * v) (y * u) (y * v)) (Z2n (x * u) (x * v) (y * u) (y * v))) := by
 have HA := zH ha
 have HB := zH hb
 have HC := zH hc0
 have HD := zH hd
 have m1 := Z09 x u
 have m2 := Z09 x v
 have m3 := Z09 y u
 have m4 := Z09 y v
 have MM : Hid (∀ i, i < 4 → 2 * qm (Z5t (x * u) (x * v) (y * u) (y * v) i) + 8 < Z8) := by
  show ∀ i, i < 4 → _
  intro i hi
  unfold Z5t
  split
  ·omega
  ·split
   ·omega
   ·split <;> omega
 rw [← Z7b, ← Z7d]
 clear ha hb hc0 hd
 dsimp only [zA0]
 go_enter func66, ntmps66
 go_wp2_with fail
 go_region_held3 (fun w' => zC w' w.heap.size 0 (.bool a.s) ∧ zC w' w.heap.size 1 (.slice a.A a.n a.c) ∧ zC w' w.heap.size 2 (.bool a.t) ∧ zC w' w.heap.size 3 (.slice a.B a.m a.d) ∧ zC w' w.heap.size 4 (.bool b.s) ∧ zC w' w.heap.size 5 (.slice b.A b.n b.c) ∧ zC w' w.heap.size 6 (.bool b.t) ∧ zC w' w.heap.size 7 (.slice b.B b.m b.d) ∧ zC w' (w.heap.size + 1) 0 (.bool c.s) ∧ zC w' (w.heap.size + 1) 1 (.slice c.A c.n c.c) ∧ zC w' (w.heap.size + 1) 2 (.bool c.t) ∧ zC w' (w.heap.size + 1) 3 (.slice c.B c.m c.d) ∧ zC w' (w.heap.size + 1) 4 (.bool d.s) ∧ zC w' (w.heap.size + 1) 5 (.slice d.A d.n d.c) ∧ zC w' (w.heap.size + 1) 6 (.bool d.t) ∧ zC w' (w.heap.size + 1) 7 (.slice d.B d.m d.d)) (first | (exact KQ) | (simp [go_sem, *]; done)) (first | (go_at_call 134; (with_reducible refine (Z03 a.s c.s a.t c.t a.A c.A a.B c.B a.n a.c a.m a.d c.n c.c c.m c.d x u _ QX QX (by omega)).mono ?_); refine rQ ?_; intro w1 sw1 Aw1 nw1 cw1 tw1 Bw1 mw1 dw1 Hw1 hbw1) | (go_at_call 134; (with_reducible refine (Z03 a.s d.s a.t d.t a.A d.A a.B d.B a.n a.c a.m a.d d.n d.c d.m d.d x v _ QX QX (by omega)).mono ?_); refine rQ ?_; intro w2 sw2 Aw2 nw2 cw2 tw2 Bw2 mw2 dw2 Hw2 hbw2) | (go_at_call 134; (with_reducible refine (Z03 b.s c.s b.t c.t b.A c.A b.B c.B b.n b.c b.m b.d c.n c.c c.m c.d y u _ QX QX (by omega)).mono ?_); refine rQ ?_; intro w3 sw3 Aw3 nw3 cw3 tw3 Bw3 mw3 dw3 Hw3 hbw3) | (go_at_call 134; (with_reducible refine (Z03 b.s d.s b.t d.t b.A d.A b.B d.B b.n b.c b.m b.d d.n d.c d.m d.d y v _ QX QX (by omega)).mono ?_); refine rQ ?_; intro w4 sw4 Aw4 nw4 cw4 tw4 Bw4 mw4 dw4 Hw4 hbw4; obtain ⟨R0, L0, F0⟩ := B80 w4 w; obtain ⟨R1, L1, F1⟩ := B81 w4 w; obtain ⟨R2, L2, F2⟩ := B82 w4 w))
 have hL : LQ (w4.alloc (.cells #[.bool sw1, .slice Aw1 nw1 cw1, .bool tw1, .slice Bw1 mw1 dw1, .bool sw2, .slice Aw2 nw2 cw2, .bool tw2, .slice Bw2 mw2 dw2, .bool sw3, .slice Aw3 nw3 cw3, .bool tw3, .slice Bw3 mw3 dw3, .bool sw4, .slice Aw4 nw4 cw4, .bool tw4, .slice Bw4 mw4 dw4] 26)) w4.heap.size 4 (Z9Z ⟨sw1, Aw1, nw1, cw1, tw1, Bw1, mw1, dw1⟩ ⟨sw2, Aw2, nw2, cw2, tw2, Bw2, mw2, dw2⟩ ⟨sw3, Aw3, nw3, cw3, tw3, Bw3, mw3, dw3⟩ ⟨sw4, Aw4, nw4, cw4, tw4, Bw4, mw4, dw4⟩) (Z5t (x * u) (x * v) (y * u) (y * v)) := Zbp (BK.new _ _ rfl) QX QX QX QX
 have HL := zH hL
 clear hL
 go_wp2_with (
  first
  | (go_at_call 135; (with_reducible refine (Z9Q w4.heap.size 4 4 _ _ _ (LQ.ext HL.out EX) (by decide) (by decide) MM.out).mono ?_); refine rQ ?_; intro w5 sw5 Aw5 nw5 cw5 tw5 Bw5 mw5 dw5 Hw5 hbw5; obtain ⟨R2, L2, F2⟩ := B82 w5 w)
  | (go_at_call 136; (with_reducible refine (Z3u w4.heap.size 4 4 _ _ _ (LQ.ext HL.out EX) (by decide) (by decide) MM.out).mono ?_); refine rQ ?_; intro w6 sw6 Aw6 nw6 cw6 tw6 Bw6 mw6 dw6 Hw6 hbw6; obtain ⟨R2, L2, F2⟩ := B82 w6 w))
 refine bodyPost_ret (v := .agg #[.bool sw5, .slice Aw5 nw5 cw5, .bool tw5, .slice Bw5 mw5 dw5, .bool sw6, .slice Aw6 nw6 cw6, .bool tw6, .slice Bw6 mw6 dw6]) (by simp [results, results66, go_sem, Z6, F2]) rfl ⟨⟨_, _, _, _, _, _, _, _⟩, ⟨_, _, _, _, _, _, _, _⟩, rfl, QX, QX, EX⟩
theorem Z31 (u : Rat) (h : u ≠ 0) : qm (((1 : Int) : Rat) / u) ≤ qm u + 1 := by
 rw [Rat.div_def]
 have h1 := Z09 ((1 : Int) : Rat) u⁻¹
 have h2 := Z8S u h
 have h3 := Z32 1
 rw [Z1c] at h3
 omega
def Z5y (x y u v : Rat) : Rat := Z1m (x * (((1 : Int) : Rat) / v)) (x * (((1 : Int) : Rat) / u)) (y * (((1 : Int) : Rat) / v)) (y * (((1 : Int) : Rat) / u))
def Z5z (x y u v : Rat) : Rat := Z2n (x * (((1 : Int) : Rat) / v)) (x * (((1 : Int) : Rat) / u)) (y * (((1 : Int) : Rat) / v)) (y * (((1 : Int) : Rat) / u))
theorem Z6B (a b c d : QC) (x y u v : Rat) (w : World) (ha : a.At w x) (hb : b.At w y) (hc0 : c.At w u) (hd : d.At w v) (hu : u ≠ 0) (hv : v ≠ 0) (hs : 8 * (qm x + qm y + qm u + qm v) + 200 < Z8) :
  Ca 70 #[.agg (zA0 a b), .agg (zA0 c d)] w (Z0e w (Z5y x y u v) (Z5z x y u v)) := by
 have HA := zH ha
 have HB := zH hb
 have HC := zH hc0
 have HD := zH hd
 have m1 := Z31 u hu
 have m2 := Z31 v hv
 have m3 := Z32 1
 rw [Z1c] at m3
 clear ha hb hc0 hd
 dsimp only [zA0]
 go_enter func70, ntmps70
 go_wp2_with fail
 obtain ⟨W0, hW0⟩ : ∃ W0, (w |>.alloc (.cells #[.bool a.s, .slice a.A a.n a.c, .bool a.t, .slice a.B a.m a.d, .bool b.s, .slice b.A b.n b.c, .bool b.t, .slice b.B b.m b.d] 84) |>.alloc (.cells #[.bool c.s, .slice c.A c.n c.c, .bool c.t, .slice c.B c.m c.d, .bool d.s, .slice d.A d.n d.c, .bool d.t, .slice d.B d.m d.d] 84) |>.alloc (.cells #[.bool false, .slice none 0 0, .bool false, .slice none 0 0, .bool false, .slice none 0 0, .bool false, .slice none 0 0] 84)) = W0 := ⟨_, rfl⟩
 have B0 : BK W0 (w.heap.size) (zA0 a b) := by rw [← hW0]; exact BX
 have B1 : BK W0 (w.heap.size + 1) (zA0 c d) := by rw [← hW0]; exact BX
 have B2 : BK W0 (w.heap.size + 1 + 1) zA5 := by rw [← hW0]; exact BX
 have x0 : Ext w W0 := by rw [← hW0]; exact EX
 have z0 : w.heap.size + 3 ≤ W0.heap.size := by rw [← hW0]; simp only [World.size_alloc]; omega
 obtain ⟨b0, b1, b2, b3, b4, b5, b6, b7, -⟩ := B1.c8
 rw [hW0]
 clear hW0
 go_cut [5] (fun p5 wx => ∃ g5 : Nat, ∃ q5 : QC, p5 = .pointer (some ⟨g5, 0, none⟩) ∧ BK wx g5 (zA3 q5) ∧ q5.At wx (((1 : Int) : Rat) / v) ∧ BK wx (w.heap.size) (zA0 a b) ∧ BK wx (w.heap.size + 1) (zA0 c d) ∧ BK wx (w.heap.size + 1 + 1) zA5 ∧ W0.heap.size ≤ g5 ∧ Ext W0 wx)
 case first =>
  go_region_held3 (fun w' => zC w' (w.heap.size + 1) 0 (.bool c.s) ∧ zC w' (w.heap.size + 1) 1 (.slice c.A c.n c.c) ∧ zC w' (w.heap.size + 1) 2 (.bool c.t) ∧ zC w' (w.heap.size + 1) 3 (.slice c.B c.m c.d) ∧ zC w' (w.heap.size + 1) 4 (.bool d.s) ∧ zC w' (w.heap.size + 1) 5 (.slice d.A d.n d.c) ∧ zC w' (w.heap.size + 1) 6 (.bool d.t) ∧ zC w' (w.heap.size + 1) 7 (.slice d.B d.m d.d)) (first | (exact KQ) | (simp [go_sem, *]; done)) (first | (go_at_call 81; (with_reducible refine (Z0D 1 _ (by decide) (by decide)).mono ?_); refine rQ ?_; intro w1 sw1 Aw1 nw1 cw1 tw1 Bw1 mw1 dw1 Hw1 hbw1; obtain ⟨R1, L1, F1⟩ := B81 w1 w; have := hbw1.sz; (try have zw10 : W0.heap.size < w1.heap.size := (by omega)); (try (refine (fun Tw10 => ?_ : BK w1 (W0.heap.size) zA9 → _) ?_; rotate_left; (focus (with_reducible (repeat (first | assumption | (refine BK.new _ _ ?_; first | rfl | (simp only [SZ]; done)) | refine BK.alloc ?_ _ | refine BK.drew ?_ | apply BK.st8 | apply BK.st4 | apply BK.st2 | refine BK.other ?_ (by simp only; omega) _ | refine BK.ext ?_ (by assumption))); done)); obtain ⟨Tw10_0, Tw10_1, Tw10_2, Tw10_3, Tw10_4⟩ := Tw10.c4))) | (go_at_call 137; (with_reducible refine (Z0T sw1 d.s tw1 d.t Aw1 d.A Bw1 d.B nw1 cw1 mw1 dw1 d.n d.c d.m d.d ((1 : Int) : Rat) v _ QX QX (by omega) hv).mono ?_); refine rQ ?_; intro w2 sw2 Aw2 nw2 cw2 tw2 Bw2 mw2 dw2 Hw2 hbw2; (try clear F1); obtain ⟨R1, L1, F1⟩ := B81 w2 w; have := hbw2.sz; (try have zw20 : W0.heap.size < w2.heap.size := (by omega)); (try have zw21 : w1.heap.size < w2.heap.size := (by omega)); (try (refine (fun Tw20 => ?_ : BK w2 (W0.heap.size) zA9 → _) ?_; rotate_left; (focus (with_reducible (repeat (first | assumption | (refine BK.new _ _ ?_; first | rfl | (simp only [SZ]; done)) | refine BK.alloc ?_ _ | refine BK.drew ?_ | apply BK.st8 | apply BK.st4 | apply BK.st2 | refine BK.other ?_ (by simp only; omega) _ | refine BK.ext ?_ (by assumption))); done)); obtain ⟨Tw20_0, Tw20_1, Tw20_2, Tw20_3, Tw20_4⟩ := Tw20.c4)); (try (refine (fun Tw21 => ?_ : BK w2 (w1.heap.size) zA9 → _) ?_; rotate_left; (focus (with_reducible (repeat (first | assumption | (refine BK.new _ _ ?_; first | rfl | (simp only [SZ]; done)) | refine BK.alloc ?_ _ | refine BK.drew ?_ | apply BK.st8 | apply BK.st4 | apply BK.st2 | refine BK.other ?_ (by simp only; omega) _ | refine BK.ext ?_ (by assumption))); done)); obtain ⟨Tw21_0, Tw21_1, Tw21_2, Tw21_3, Tw21_4⟩ := Tw21.c4))))
  all_goals go_wp2_with fail
  all_goals go_meet
  all_goals go_light
  all_goals exact ⟨_, ⟨_, _, _, _, _, _, _, _⟩, rfl, BX, QX, BX, BX, BX, (by omega), EX⟩
 case rest =>
  obtain ⟨g5, q5, rfl, B5, h5, C0, C1, C2, hg5, hx5⟩ := hcut
  have H5 := zH h5
  have L5 := B5.lt
  have y2 := C2.lt
  clear h5 B0 B1 B2 b0 b1 b2 b3 b4 b5 b6 b7
  obtain ⟨b0, b1, b2, b3, b4, b5, b6, b7, -⟩ := C1.c8
  go_wp2_with fail
  go_cut [7] (fun p7 wx => ∃ g7 : Nat, ∃ q7 : QC, p7 = .pointer (some ⟨g7, 0, none⟩) ∧ BK wx g7 (zA3 q7) ∧ q7.At wx (((1 : Int) : Rat) / u) ∧ BK wx (w.heap.size) (zA0 a b) ∧ BK wx (w.heap.size + 1) (zA0 c d) ∧ BK wx (w.heap.size + 1 + 1) zA5 ∧ wc.heap.size ≤ g7 ∧ Ext wc wx)
  case first =>
   go_region_held3 (fun w' => zC w' (w.heap.size + 1) 0 (.bool c.s) ∧ zC w' (w.heap.size + 1) 1 (.slice c.A c.n c.c) ∧ zC w' (w.heap.size + 1) 2 (.bool c.t) ∧ zC w' (w.heap.size + 1) 3 (.slice c.B c.m c.d) ∧ zC w' (w.heap.size + 1) 4 (.bool d.s) ∧ zC w' (w.heap.size + 1) 5 (.slice d.A d.n d.c) ∧ zC w' (w.heap.size + 1) 6 (.bool d.t) ∧ zC w' (w.heap.size + 1) 7 (.slice d.B d.m d.d)) (first | (exact KQ) | (simp [go_sem, *]; done)) (first | (go_at_call 81; (with_reducible refine (Z0D 1 _ (by decide) (by decide)).mono ?_); refine rQ ?_; intro w1 sw1 Aw1 nw1 cw1 tw1 Bw1 mw1 dw1 Hw1 hbw1; obtain ⟨R1, L1, F1⟩ := B81 w1 w; have := hbw1.sz; (try have zw10 : wc.heap.size < w1.heap.size := (by omega)); (try (refine (fun Tw10 => ?_ : BK w1 (wc.heap.size) zA9 → _) ?_; rotate_left; (focus (with_reducible (repeat (first | assumption | (refine BK.new _ _ ?_; first | rfl | (simp only [SZ]; done)) | refine BK.alloc ?_ _ | refine BK.drew ?_ | apply BK.st8 | apply BK.st4 | apply BK.st2 | refine BK.other ?_ (by simp only; omega) _ | refine BK.ext ?_ (by assumption))); done)); obtain ⟨Tw10_0, Tw10_1, Tw10_2, Tw10_3, Tw10_4⟩ := Tw10.c4))) | (go_at_call 137; (with_reducible refine (Z0T sw1 c.s tw1 c.t Aw1 c.A Bw1 c.B nw1 cw1 mw1 dw1 c.n c.c c.m c.d ((1 : Int) : Rat) u _ QX QX (by omega) hu).mono ?_); refine rQ ?_; intro w2 sw2 Aw2 nw2 cw2 tw2 Bw2 mw2 dw2 Hw2 hbw2; (try clear F1); obtain ⟨R1, L1, F1⟩ := B81 w2 w; have := hbw2.sz; (try have zw20 : wc.heap.size < w2.heap.size := (by omega)); (try have zw21 : w1.heap.size < w2.heap.size := (by omega)); (try (refine (fun Tw20 => ?_ : BK w2 (wc.heap.size) zA9 → _) ?_; rotate_left; (focus (with_reducible (repeat (first | assumption | (refine BK.new _ _ ?_; first | rfl | (simp only [SZ]; done)) | refine BK.alloc ?_ _ | refine BK.drew ?_ | apply BK.st8 | apply BK.st4 | apply BK.st2 | refine BK.other ?_ (by simp only; omega) _ | refine BK.ext ?_ (by assumption))); done)); obtain ⟨Tw20_0, Tw20_1, Tw20_2, Tw20_3, Tw20_4⟩ := Tw20.c4)); (try (refine (fun Tw21 => ?_ : BK w2 (w1.heap.size) zA9 → _) ?_; rotate_left; (focus (with_reducible (repeat (first | assumption | (refine BK.new _ _ ?_; first | rfl | (simp only [SZ]; done)) | refine BK.alloc ?_ _ | refine BK.drew ?_ | apply BK.st8 | apply BK.st4 | apply BK.st2 | refine BK.other ?_ (by simp only; omega) _ | refine BK.ext ?_ (by assumption))); done)); obtain ⟨Tw21_0, Tw21_1, Tw21_2, Tw21_3, Tw21_4⟩ := Tw21.c4))))
   all_goals go_wp2_with fail
   all_goals go_meet
   all_goals go_light
   all_goals exact ⟨_, ⟨_, _, _, _, _, _, _, _⟩, rfl, BX, QX, BX, BX, BX, (by omega), EX⟩
  case rest =>
   obtain ⟨g7, q7, rfl, B7, h7, E0, E1, E2, hg7, hx7⟩ := hcut
   have H7 := zH h7
   have B5' := B5.ext hx7
   have F5 := B5'.c4
   have F7 := B7.c4
   have F0 := E0.c8
   have F2 := E2.c8
   have Lr := E2.lt
   clear h7
   go_wp2_with (go_at_call 66; (with_reducible refine (ZF a b q5 q7 x y _ _ _ QX QX QX QX (by omega)).mono ?_); refine rB ?_; intro w9 pw9 qw9 Hw9 Kw9 hbw9; obtain ⟨R2, L2, F2⟩ := B82 w9 w)
   refine bodyPost_ret (v := .agg (zA0 pw9 qw9)) (by simp [zA0, results, results70, go_sem, Z6, F2]) rfl ⟨_, _, rfl, QX, QX, EX⟩
def Z50 (w : World) (x y : Rat) (e : Ending) (w' : World) : Prop := ∃ p q : QC, e = .returned (.tuple #[.agg #[.bool p.s, .slice p.A p.n p.c, .bool p.t, .slice p.B p.m p.d, .bool q.s, .slice q.A q.n q.c, .bool q.t, .slice q.B q.m q.d], .int .i64 0]) ∧ p.At w' x ∧ q.At w' y ∧ Ext w w'
theorem Z7W (q a b : QC) (x : Rat) (k : Int) (g5 g6 : Nat) (w : World) (hq : q.At w x) (h5 : BK w g5 (zA3 a)) (h6 : BK w g6 (zA3 b)) (ha : a.At w (Z02 k)) (hb : b.At w (Z02 (-k))) (hk1 : -524288 ≤ k) (hk2 : k ≤ 524288) (hs : qm x + 40000 < Z8) :
  Ca 140 #[.agg (zA3 q), .pointer (some ⟨g5, 0, none⟩), .pointer (some ⟨g6, 0, none⟩)] w (Z0G w (Zl x k)) := by
 have m1 := Z09 x (Z02 k)
 have m2 := Z1y k
 have m3 := Z1y (-k)
 have m4 := Z32 ((x * Z02 k).floor)
 have m5 := Z3x (x * Z02 k)
 have HX := zH hq
 have HA := zH ha
 have HB := zH hb
 have Fa := h5.c4
 have Fb := h6.c4
 have l5 := h5.lt
 have l6 := h6.lt
 clear hq ha hb h5 h6
 dsimp only [zA3]
 go_enter func140, ntmps140
 go_wp2_with fail
 go_region_held3 (fun w' => zC w' w.heap.size 0 (.bool q.s) ∧ zC w' w.heap.size 1 (.slice q.A q.n q.c) ∧ zC w' w.heap.size 2 (.bool q.t) ∧ zC w' w.heap.size 3 (.slice q.B q.m q.d) ∧ zC w' g5 0 (.bool a.s) ∧ zC w' g5 1 (.slice a.A a.n a.c) ∧ zC w' g5 2 (.bool a.t) ∧ zC w' g5 3 (.slice a.B a.m a.d) ∧ zC w' g6 0 (.bool b.s) ∧ zC w' g6 1 (.slice b.A b.n b.c) ∧ zC w' g6 2 (.bool b.t) ∧ zC w' g6 3 (.slice b.B b.m b.d)) (first | (exact KQ) | (simp [go_sem]; done) | (simp [go_sem, *]; done) | (exact Zdu)) (first | (go_at_call 134; (with_reducible refine (Z03 (s1 := q.s) (h1 := QX) (h2 := QX) (hs := by omega)).mono ?_); refine rQ ?_; intro w1 sw1 Aw1 nw1 cw1 tw1 Bw1 mw1 dw1 Hw1 hbw1; obtain ⟨R1, L1, F1⟩ := B41 w1 w) | (go_at_call 142; (with_reducible refine (Z2C (h := QX) (hs := by omega)).mono ?_); refine rI ?_; intro w2 sw2 Aw2 nw2 cw2 Hw2 hbw2; obtain ⟨R1, L1, F1⟩ := B41 w2 w) | (go_at_call 141; (with_reducible refine (Z14 (h := IX)).mono ?_); refine rQ ?_; intro w3 sw3 Aw3 nw3 cw3 tw3 Bw3 mw3 dw3 Hw3 hbw3; obtain ⟨R1, L1, F1⟩ := B41 w3 w) | (go_at_call 134; (with_reducible refine (Z03 (s1 := sw3) (h1 := QX) (h2 := QX) (hs := by omega)).mono ?_); refine rQ ?_; intro w4 sw4 Aw4 nw4 cw4 tw4 Bw4 mw4 dw4 Hw4 hbw4; obtain ⟨R1, L1, F1⟩ := B41 w4 w))
 all_goals go_wp2_with fail
 all_goals refine bodyPost_ret (v := .agg (Z01 sw4 Aw4 nw4 cw4 tw4 Bw4 mw4 dw4)) (by simp [Z01, results, results140, go_sem, Z6, F1]) rfl ⟨_, _, _, _, _, _, _, _, rfl, QX, EX⟩
theorem Z1Z (p q : QC) (x y : Rat) (k : Int) (w : World) (ha : p.At w x) (hb : q.At w y) (h1 : -524288 ≤ k) (h2 : k ≤ 524288) (hs : qm x + qm y + 100000 < Z8) :
  Ca 73 #[.agg (zA0 p q), .int .i64 k] w (Z0e w (Zl x k) (-Zl (-y) k)) := by
 have m1 := Z4F (-y) k
 have m2 := Z22 y
 have n2 := hb.n
 have HA := zH ha
 have HB := zH hb
 have f7 : IntKind.i64.wrap (-k) = -k := by rw [IntKind.wrap_i64]; omega
 have hmf : ∀ (fn : Fn) (first cap : Array Value) (w : World), (Instr.makeFunc fn first cap).run Tryz.prog w = .ok (.func fn first cap) w := fun _ _ _ _ => rfl
 clear ha hb
 dsimp only [zA0]
 go_enter func73, ntmps73
 go_wp2_with (
  first
  | (go_at_call 139; (with_reducible refine (Z1N k _ h1 h2).mono ?_); refine rQ ?_; intro w1 sw1 Aw1 nw1 cw1 tw1 Bw1 mw1 dw1 Hw1 hbw1; obtain ⟨R0, L0, F0⟩ := B80 w1 w; obtain ⟨R1, L1, F1⟩ := B81 w1 w)
  | (go_at_call 139; (with_reducible refine (Z1N (-k) _ (by omega) (by omega)).mono ?_); refine rQ ?_; intro w2 sw2 Aw2 nw2 cw2 tw2 Bw2 mw2 dw2 Hw2 hbw2; obtain ⟨R0, L0, F0⟩ := B80 w2 w; obtain ⟨R1, L1, F1⟩ := B81 w2 w))
 go_region_held3 (fun w' => zC w' w.heap.size 0 (.bool p.s) ∧ zC w' w.heap.size 1 (.slice p.A p.n p.c) ∧ zC w' w.heap.size 2 (.bool p.t) ∧ zC w' w.heap.size 3 (.slice p.B p.m p.d) ∧ zC w' w.heap.size 4 (.bool q.s) ∧ zC w' w.heap.size 5 (.slice q.A q.n q.c) ∧ zC w' w.heap.size 6 (.bool q.t) ∧ zC w' w.heap.size 7 (.slice q.B q.m q.d)) (first | (exact KQ) | (simp [go_sem, *]; done)) (first | (go_at_call 140; (with_reducible apply Calls.mono (args := #[.agg #[.bool p.s, .slice p.A p.n p.c, .bool p.t, .slice p.B p.m p.d], .pointer (some ⟨w2.heap.size, 0, none⟩), .pointer (some ⟨w2.heap.size + 1, 0, none⟩)])); (focus (go_loud (with_reducible exact Z7W p ⟨sw1, Aw1, nw1, cw1, tw1, Bw1, mw1, dw1⟩ ⟨sw2, Aw2, nw2, cw2, tw2, Bw2, mw2, dw2⟩ x k _ _ _ QX BX BX QX QX h1 h2 (by omega)))); rintro e w3 ⟨sw3, Aw3, nw3, cw3, tw3, Bw3, mw3, dw3, rfl, hQ, hbw3⟩; have Hw3 := zH hQ; clear hQ; obtain ⟨R1, L1, F1⟩ := B81 w3 w) | (go_at_call 143; (with_reducible apply Calls.mono (args := #[.agg #[.bool q.s, .slice q.A q.n q.c, .bool q.t, .slice q.B q.m q.d]])); (focus (go_loud (with_reducible exact Z2Q q.s q.A q.n q.c q.t q.B q.m q.d y _ QX (by unfold Z8 at hs ⊢; omega)))); rintro e w4 ⟨sw4, Aw4, nw4, cw4, tw4, Bw4, mw4, dw4, rfl, hQ, hbw4⟩; have Hw4 := zH hQ; clear hQ; obtain ⟨R1, L1, F1⟩ := B81 w4 w) | (go_at_call 140; (with_reducible apply Calls.mono (args := #[.agg #[.bool sw4, .slice Aw4 nw4 cw4, .bool tw4, .slice Bw4 mw4 dw4], .pointer (some ⟨w2.heap.size, 0, none⟩), .pointer (some ⟨w2.heap.size + 1, 0, none⟩)])); (focus (go_loud (with_reducible exact Z7W ⟨sw4, Aw4, nw4, cw4, tw4, Bw4, mw4, dw4⟩ ⟨sw1, Aw1, nw1, cw1, tw1, Bw1, mw1, dw1⟩ ⟨sw2, Aw2, nw2, cw2, tw2, Bw2, mw2, dw2⟩ (-y) k _ _ _ QX BX BX QX QX h1 h2 (by omega)))); rintro e w5 ⟨sw5, Aw5, nw5, cw5, tw5, Bw5, mw5, dw5, rfl, hQ, hbw5⟩; have Hw5 := zH hQ; clear hQ; obtain ⟨R1, L1, F1⟩ := B81 w5 w; have n3 := Hw5.out.n) | (go_at_call 143; (with_reducible apply Calls.mono (args := #[.agg #[.bool sw5, .slice Aw5 nw5 cw5, .bool tw5, .slice Bw5 mw5 dw5]])); (focus (go_loud (with_reducible exact Z2Q sw5 Aw5 nw5 cw5 tw5 Bw5 mw5 dw5 _ _ QX (by unfold Z8 at hs ⊢; omega)))); rintro e w6 ⟨sw6, Aw6, nw6, cw6, tw6, Bw6, mw6, dw6, rfl, hQ, hbw6⟩; have Hw6 := zH hQ; clear hQ; obtain ⟨R1, L1, F1⟩ := B81 w6 w))
 all_goals go_wp2_with fail
 all_goals refine bodyPost_ret (v := .agg #[.bool sw3, .slice Aw3 nw3 cw3, .bool tw3, .slice Bw3 mw3 dw3, .bool sw6, .slice Aw6 nw6 cw6, .bool tw6, .slice Bw6 mw6 dw6]) (by simp [results, results73, go_sem, Z6, F1]) rfl ⟨⟨_, _, _, _, _, _, _, _⟩, ⟨_, _, _, _, _, _, _, _⟩, rfl, QX, QX, EX⟩
theorem Z9i (a b c d : QC) (x y u v : Rat) (w : World) (ha : a.At w x) (hb : b.At w y) (hc0 : c.At w u) (hd : d.At w v) (hs : 2 * (qm x + qm y + qm u + qm v) + 8 < Z8) :
  Ca 13 #[.agg (zA0 a b), .agg (zA0 c d)] w (Z0e w (x + u) (y + v)) := by
 have HA := zH ha
 have HB := zH hb
 have HC := zH hc0
 have HD := zH hd
 clear ha hb hc0 hd
 dsimp only [zA0]
 go_enter func13, ntmps13
 go_wp2_with fail
 go_region_held3 (fun w' => zC w' w.heap.size 0 (.bool a.s) ∧ zC w' w.heap.size 1 (.slice a.A a.n a.c) ∧ zC w' w.heap.size 2 (.bool a.t) ∧ zC w' w.heap.size 3 (.slice a.B a.m a.d) ∧ zC w' w.heap.size 4 (.bool b.s) ∧ zC w' w.heap.size 5 (.slice b.A b.n b.c) ∧ zC w' w.heap.size 6 (.bool b.t) ∧ zC w' w.heap.size 7 (.slice b.B b.m b.d) ∧ zC w' (w.heap.size + 1) 0 (.bool c.s) ∧ zC w' (w.heap.size + 1) 1 (.slice c.A c.n c.c) ∧ zC w' (w.heap.size + 1) 2 (.bool c.t) ∧ zC w' (w.heap.size + 1) 3 (.slice c.B c.m c.d) ∧ zC w' (w.heap.size + 1) 4 (.bool d.s) ∧ zC w' (w.heap.size + 1) 5 (.slice d.A d.n d.c) ∧ zC w' (w.heap.size + 1) 6 (.bool d.t) ∧ zC w' (w.heap.size + 1) 7 (.slice d.B d.m d.d)) (first | (exact KQ) | (simp [go_sem]; done) | (simp [go_sem, *]; done) | (exact Zac)) (first | (go_at_call 62; (with_reducible refine (Z07 a b _).mono ?_); rintro e w1 ⟨rfl, hbw1⟩; obtain ⟨R2, L2, F2⟩ := B82 w1 w) | (go_at_call 62; (with_reducible refine (Z07 c d _).mono ?_); rintro e w2 ⟨rfl, hbw2⟩; obtain ⟨R2, L2, F2⟩ := B82 w2 w) | (go_at_call 61; (with_reducible refine (Z2v a b c d x y u v _ QX QX QX QX (by omega)).mono ?_); refine rB ?_; intro w3 pw3 qw3 Hw3 Kw3 hbw3; obtain ⟨R2, L2, F2⟩ := B82 w3 w) | (go_at_call 63; (with_reducible refine (Z3c pw3 qw3 _).mono ?_); rintro e w4 ⟨rfl, hbw4⟩; obtain ⟨R2, L2, F2⟩ := B82 w4 w))
 all_goals go_wp2_with fail
 all_goals refine bodyPost_ret (v := .agg (zA0 pw3 qw3)) (by simp [zA0, results, results13, go_sem, Z6, F2]) rfl ⟨_, _, rfl, QX, QX, EX⟩
theorem Z9f (a b c d : QC) (x y u v : Rat) (w : World) (ha : a.At w x) (hb : b.At w y) (hc0 : c.At w u) (hd : d.At w v) (hs : 2 * (qm x + qm y + qm u + qm v) + 8 < Z8) :
  Ca 15 #[.agg (zA0 a b), .agg (zA0 c d)] w (Z0e w (x - v) (y - u)) := by
 have HA := zH ha
 have HB := zH hb
 have HC := zH hc0
 have HD := zH hd
 clear ha hb hc0 hd
 dsimp only [zA0]
 go_enter func15, ntmps15
 go_wp2_with fail
 go_region_held3 (fun w' => zC w' w.heap.size 0 (.bool a.s) ∧ zC w' w.heap.size 1 (.slice a.A a.n a.c) ∧ zC w' w.heap.size 2 (.bool a.t) ∧ zC w' w.heap.size 3 (.slice a.B a.m a.d) ∧ zC w' w.heap.size 4 (.bool b.s) ∧ zC w' w.heap.size 5 (.slice b.A b.n b.c) ∧ zC w' w.heap.size 6 (.bool b.t) ∧ zC w' w.heap.size 7 (.slice b.B b.m b.d) ∧ zC w' (w.heap.size + 1) 0 (.bool c.s) ∧ zC w' (w.heap.size + 1) 1 (.slice c.A c.n c.c) ∧ zC w' (w.heap.size + 1) 2 (.bool c.t) ∧ zC w' (w.heap.size + 1) 3 (.slice c.B c.m c.d) ∧ zC w' (w.heap.size + 1) 4 (.bool d.s) ∧ zC w' (w.heap.size + 1) 5 (.slice d.A d.n d.c) ∧ zC w' (w.heap.size + 1) 6 (.bool d.t) ∧ zC w' (w.heap.size + 1) 7 (.slice d.B d.m d.d)) (first | (exact KQ) | (simp [go_sem]; done) | (simp [go_sem, *]; done) | (exact Zac)) (first | (go_at_call 62; (with_reducible refine (Z07 a b _).mono ?_); rintro e w1 ⟨rfl, hbw1⟩; obtain ⟨R2, L2, F2⟩ := B82 w1 w) | (go_at_call 62; (with_reducible refine (Z07 c d _).mono ?_); rintro e w2 ⟨rfl, hbw2⟩; obtain ⟨R2, L2, F2⟩ := B82 w2 w) | (go_at_call 64; (with_reducible refine (Z2A a b c d x y u v _ QX QX QX QX (by omega)).mono ?_); refine rB ?_; intro w3 pw3 qw3 Hw3 Kw3 hbw3; obtain ⟨R2, L2, F2⟩ := B82 w3 w) | (go_at_call 63; (with_reducible refine (Z3c pw3 qw3 _).mono ?_); rintro e w4 ⟨rfl, hbw4⟩; obtain ⟨R2, L2, F2⟩ := B82 w4 w))
 all_goals go_wp2_with fail
 all_goals refine bodyPost_ret (v := .agg (zA0 pw3 qw3)) (by simp [zA0, results, results15, go_sem, Z6, F2]) rfl ⟨_, _, rfl, QX, QX, EX⟩
theorem Z9g (a b c d : QC) (x y u v : Rat) (w : World) (ha : a.At w x) (hb : b.At w y) (hc0 : c.At w u) (hd : d.At w v) (hs : 8 * (qm x + qm y + qm u + qm v) + 100 < Z8) :
  Ca 17 #[.agg (zA0 a b), .agg (zA0 c d)] w (Z0e w (Z1m (x * u) (x * v) (y * u) (y * v)) (Z2n (x * u) (x * v) (y * u) (y * v))) := by
 have HA := zH ha
 have HB := zH hb
 have HC := zH hc0
 have HD := zH hd
 clear ha hb hc0 hd
 dsimp only [zA0]
 go_enter func17, ntmps17
 go_wp2_with fail
 go_region_held3 (fun w' => zC w' w.heap.size 0 (.bool a.s) ∧ zC w' w.heap.size 1 (.slice a.A a.n a.c) ∧ zC w' w.heap.size 2 (.bool a.t) ∧ zC w' w.heap.size 3 (.slice a.B a.m a.d) ∧ zC w' w.heap.size 4 (.bool b.s) ∧ zC w' w.heap.size 5 (.slice b.A b.n b.c) ∧ zC w' w.heap.size 6 (.bool b.t) ∧ zC w' w.heap.size 7 (.slice b.B b.m b.d) ∧ zC w' (w.heap.size + 1) 0 (.bool c.s) ∧ zC w' (w.heap.size + 1) 1 (.slice c.A c.n c.c) ∧ zC w' (w.heap.size + 1) 2 (.bool c.t) ∧ zC w' (w.heap.size + 1) 3 (.slice c.B c.m c.d) ∧ zC w' (w.heap.size + 1) 4 (.bool d.s) ∧ zC w' (w.heap.size + 1) 5 (.slice d.A d.n d.c) ∧ zC w' (w.heap.size + 1) 6 (.bool d.t) ∧ zC w' (w.heap.size + 1) 7 (.slice d.B d.m d.d)) (first | (exact KQ) | (simp [go_sem]; done) | (simp [go_sem, *]; done) | (exact Zac)) (first | (go_at_call 62; (with_reducible refine (Z07 a b _).mono ?_); rintro e w1 ⟨rfl, hbw1⟩; obtain ⟨R2, L2, F2⟩ := B82 w1 w) | (go_at_call 62; (with_reducible refine (Z07 c d _).mono ?_); rintro e w2 ⟨rfl, hbw2⟩; obtain ⟨R2, L2, F2⟩ := B82 w2 w) | (go_at_call 66; (with_reducible refine (ZF a b c d x y u v _ QX QX QX QX (by omega)).mono ?_); refine rB ?_; intro w3 pw3 qw3 Hw3 Kw3 hbw3; obtain ⟨R2, L2, F2⟩ := B82 w3 w) | (go_at_call 63; (with_reducible refine (Z3c pw3 qw3 _).mono ?_); rintro e w4 ⟨rfl, hbw4⟩; obtain ⟨R2, L2, F2⟩ := B82 w4 w))
 all_goals go_wp2_with fail
 all_goals refine bodyPost_ret (v := .agg (zA0 pw3 qw3)) (by simp [zA0, results, results17, go_sem, Z6, F2]) rfl ⟨_, _, rfl, QX, QX, EX⟩
theorem ZaX {w : World} {s : Bool} {A : Option Addr} {n c : Nat} {t : Bool} {B : Option Addr} {m d : Nat} {x : Rat} (h : QAt w s A n c t B m d x) : isQ s (Z7 x.num.natAbs) t (Z7 (x.den : Int).natAbs) = true ∧ Z6F s (Z7 x.num.natAbs) t (Z7 (x.den : Int).natAbs) = x := by
 have e1 := h.num.sv
 have e2 := h.den.sv
 have c1 : isC s (Z7 x.num.natAbs) = true := by rw [h.num.sgn]; exact Z4L _
 have c2 : isC t (Z7 (x.den : Int).natAbs) = true := by rw [h.den.sgn]; exact Z4L _
 have hd := x.den_pos
 have hg : Int.gcd x.num (x.den : Int) = 1 := x.reduced
 refine ⟨?_, ?_⟩
 ·unfold isQ
  rw [e1, e2, c1, c2, decide_eq_true hg, decide_eq_true (show (0 : Int) < (x.den : Int) by omega)]; rfl
 ·unfold Z6F
  rw [e1, e2]; exact Rat.num_divInt_den x
theorem Z98 {w : World} {p q : QC} {x y : Rat} (ha : p.At w x) (hb : q.At w y) : Z6O p.s (Z7 x.num.natAbs) p.t (Z7 (x.den : Int).natAbs) q.s (Z7 y.num.natAbs) q.t (Z7 (y.den : Int).natAbs) = decide (x ≤ y) := by
 obtain ⟨a1, a2⟩ := ZaX ha
 obtain ⟨b1, b2⟩ := ZaX hb
 unfold Z6O
 rw [a1, a2, b1, b2]; rfl
theorem Z9F (p q : QC) (x y : Rat) (w : World) (ha : p.At w x) (hb : q.At w y) (hs : 2 * (qm x + qm y) + 8 < Z8) :
  Ca 11 #[.agg (zA0 p q)] w fun e w' => e = .returned (.bool (decide (x ≤ y))) ∧ Ext w w' := by
 have n1 := ha.n
 have n2 := ha.m
 have n3 := hb.n
 have n4 := hb.m
 have := Z7U p q _ _ _ _ w ha.num.rep ha.den.rep hb.num.rep hb.den.rep (by omega) (by omega) (by omega) (by omega) (by omega)
 rw [Z98 ha hb] at this
 exact this
theorem ZbE (p q : QC) (x y : Rat) (w : World) (ha : p.At w x) (hb : q.At w y) (hs : 2 * (qm x + qm y) + 8 < Z8) :
  Ca 10 #[.agg (zA0 p q)] w fun e w' => e = .returned (.bool (decide (x ≤ y))) ∧ Ext w w' := by
 have n1 := ha.n
 have n2 := ha.m
 have n3 := hb.n
 have n4 := hb.m
 have := Zb0 p q _ _ _ _ w ha.num.rep ha.den.rep hb.num.rep hb.den.rep (by omega) (by omega) (by omega) (by omega) (by omega)
 rw [Z98 ha hb] at this
 exact this
theorem Z6A (p q : QC) (x y : Rat) (k : Int) (w : World) (ha : p.At w x) (hb : q.At w y) (hxy : x ≤ y) (hk0 : -524288 ≤ k) (hk1 : k ≤ 524288) (hs : 2 * (qm x + qm y) + 20000 < Z8) :
  Ca 30 #[.agg (zA0 p q), .int .i64 k] w fun e w' => e = .returned (.bool (decide (y - x ≤ Z02 (-k)))) ∧ Ext w w' := by
 have m1 := Z5n y x
 have m2 := Z1y (-k)
 have f7 : IntKind.i64.wrap (-k) = -k := by rw [IntKind.wrap_i64]; omega
 have e1 : decide (Z0s (y - x) (Z02 (-k)) ≤ 0) = decide (y - x ≤ Z02 (-k)) := decide_eq_decide.2 Z1P
 rw [← e1]
 have I := zH (fun W (e : Ext w W) => Z9F p q x y W (ha.ext e) (hb.ext e) (by omega))
 rw [decide_eq_true hxy] at I
 have HA := zH ha
 have HB := zH hb
 obtain ⟨z, hz⟩ : ∃ z, Z0s (y - x) (Z02 (-k)) = z := ⟨_, rfl⟩
 rw [hz]
 have HZ := zH hz
 obtain ⟨b1, hb1⟩ : ∃ b, decide (z ≤ 0) = b := ⟨_, rfl⟩
 rw [hb1]
 clear ha hb e1 hz
 dsimp only [zA0]
 go_enter func30, ntmps30
 go_wp2_with (
  first
  | (go_at_call 11; (with_reducible refine (I.out _ EX).mono ?_); rintro e w0 ⟨rfl, hbw0⟩; obtain ⟨R0, L0, F0⟩ := B80 w0 w)
  | (go_at_call 94; (with_reducible refine (Z7j p q x y _ QX QX (by omega)).mono ?_); refine rQ ?_; intro w1 sw1 Aw1 nw1 cw1 tw1 Bw1 mw1 dw1 Hw1 hbw1; obtain ⟨R0, L0, F0⟩ := B80 w1 w)
  | (go_at_call 95; (with_reducible refine (Z3V (-k) _ (by omega) (by omega)).mono ?_); refine rQ ?_; intro w2 sw2 Aw2 nw2 cw2 tw2 Bw2 mw2 dw2 Hw2 hbw2; obtain ⟨R0, L0, F0⟩ := B80 w2 w)
  | (go_at_call 26; (with_reducible refine (Z1M (h1 := QX) (h2 := QX) (hs := by omega)).mono ?_); rw [HZ.out]; rintro e w3 ⟨rfl, hbw3⟩))
 all_goals go_ret
 all_goals refine ⟨?_, EX⟩
 all_goals (cases b1 <;> simp_all)
theorem ZE (p : QC) (k : Int) (w : World) :
  Ca 8 #[.agg (zA3 p), .int .i64 k] w fun e w' => e = .returned (.bool (decide ((p.n : Int) ≤ k) && decide ((p.m : Int) ≤ k))) ∧ Ext w w' := by
 obtain ⟨b1, hb1⟩ : ∃ z, decide ((p.n : Int) ≤ k) = z := ⟨_, rfl⟩
 obtain ⟨b2, hb2⟩ : ∃ z, decide ((p.m : Int) ≤ k) = z := ⟨_, rfl⟩
 rw [hb1, hb2]
 dsimp only [zA3]
 go_enter func8, ntmps8
 go_wp2
 all_goals go_ret
 all_goals refine ⟨?_, EX⟩
 all_goals (cases b1 <;> cases b2 <;> simp_all)
theorem Z3v (a b c d : QC) (x y u v : Rat) (w : World) (ha : a.At w x) (hb : b.At w y) (hc0 : c.At w u) (hd : d.At w v) (hs : 8 * (qm x + qm y + qm u + qm v) + 200 < Z8) (hz : (decide (u.num ≤ 0) && decide (0 ≤ v.num)) = true) :
  Ca 19 #[.agg (zA0 a b), .agg (zA0 c d)] w fun e w' => e = .returned (.tuple #[.agg zA5, .int .i64 5]) ∧ Ext w w' := by
 have HA := zH ha
 have HB := zH hb
 have HC := zH hc0
 have HD := zH hd
 clear ha hb hc0 hd
 dsimp only [zA0, zA5]
 go_enter func19, ntmps19
 go_wp2_with (
  first
  | (go_at_call 62; (with_reducible refine (Z07 c d _).mono ?_); rintro e w1 ⟨rfl, hbw1⟩; obtain ⟨R0, L0, F0⟩ := B80 w1 w; obtain ⟨R1, L1, F1⟩ := B81 w1 w; obtain ⟨R2, L2, F2⟩ := B82 w1 w)
  | (go_at_call 69; (with_reducible refine (Z4c c d u v _ QX QX (by omega)).mono ?_); rw [hz]; rintro e w2 ⟨rfl, hbw2⟩; (try clear F0 F1 F2); obtain ⟨R0, L0, F0⟩ := B80 w2 w; obtain ⟨R1, L1, F1⟩ := B81 w2 w; obtain ⟨R2, L2, F2⟩ := B82 w2 w))
 refine bodyPost_ret (v := .tuple #[.agg zA5, .int .i64 5]) (by simp [zA5, results, results19, go_sem, Z6, F2]) rfl ⟨rfl, EX⟩
theorem Z9h (a b c d : QC) (x y u v : Rat) (w : World) (ha : a.At w x) (hb : b.At w y) (hc0 : c.At w u) (hd : d.At w v) (hs : 8 * (qm x + qm y + qm u + qm v) + 200 < Z8) (hu : u ≠ 0) (hv : v ≠ 0) (hz : (decide (u.num ≤ 0) && decide (0 ≤ v.num)) = false) :
  Ca 19 #[.agg (zA0 a b), .agg (zA0 c d)] w (Z50 w (Z5y x y u v) (Z5z x y u v)) := by
 have HA := zH ha
 have HB := zH hb
 have HC := zH hc0
 have HD := zH hd
 clear ha hb hc0 hd
 dsimp only [zA0]
 go_enter func19, ntmps19
 go_wp2_with (
  first
  | (go_at_call 62; (with_reducible refine (Z07 c d _).mono ?_); rintro e w1 ⟨rfl, hbw1⟩; obtain ⟨R0, L0, F0⟩ := B80 w1 w; obtain ⟨R1, L1, F1⟩ := B81 w1 w; obtain ⟨R2, L2, F2⟩ := B82 w1 w)
  | (go_at_call 69; (with_reducible refine (Z4c c d u v _ QX QX (by omega)).mono ?_); rw [hz]; rintro e w2 ⟨rfl, hbw2⟩; (try clear F0 F1 F2); obtain ⟨R0, L0, F0⟩ := B80 w2 w; obtain ⟨R1, L1, F1⟩ := B81 w2 w; obtain ⟨R2, L2, F2⟩ := B82 w2 w))
 go_region_held3 (fun w' => zC w' w.heap.size 0 (.bool a.s) ∧ zC w' w.heap.size 1 (.slice a.A a.n a.c) ∧ zC w' w.heap.size 2 (.bool a.t) ∧ zC w' w.heap.size 3 (.slice a.B a.m a.d) ∧ zC w' w.heap.size 4 (.bool b.s) ∧ zC w' w.heap.size 5 (.slice b.A b.n b.c) ∧ zC w' w.heap.size 6 (.bool b.t) ∧ zC w' w.heap.size 7 (.slice b.B b.m b.d) ∧ zC w' (w.heap.size + 1) 0 (.bool c.s) ∧ zC w' (w.heap.size + 1) 1 (.slice c.A c.n c.c) ∧ zC w' (w.heap.size + 1) 2 (.bool c.t) ∧ zC w' (w.heap.size + 1) 3 (.slice c.B c.m c.d) ∧ zC w' (w.heap.size + 1) 4 (.bool d.s) ∧ zC w' (w.heap.size + 1) 5 (.slice d.A d.n d.c) ∧ zC w' (w.heap.size + 1) 6 (.bool d.t) ∧ zC w' (w.heap.size + 1) 7 (.slice d.B d.m d.d)) (first | (exact KQ) | (simp [go_sem, *]; done)) (first | (go_at_call 62; (with_reducible refine (Z07 a b _).mono ?_); rintro e w3 ⟨rfl, hbw3⟩; obtain ⟨R2, L2, F2⟩ := B82 w3 w) | (go_at_call 62; (with_reducible refine (Z07 c d _).mono ?_); rintro e w4 ⟨rfl, hbw4⟩; obtain ⟨R2, L2, F2⟩ := B82 w4 w) | (go_at_call 70; (with_reducible refine (Z6B a b c d x y u v _ QX QX QX QX hu hv (by omega)).mono ?_); refine rB ?_; intro w5 pw5 qw5 Hw5 Kw5 hbw5; obtain ⟨R2, L2, F2⟩ := B82 w5 w) | (go_at_call 63; (with_reducible refine (Z3c pw5 qw5 _).mono ?_); rintro e w6 ⟨rfl, hbw6⟩; obtain ⟨R2, L2, F2⟩ := B82 w6 w))
 all_goals go_wp2_with fail
 all_goals refine bodyPost_ret (v := .tuple #[.agg (zA0 pw5 qw5), .int .i64 0]) (by simp [zA0, results, results19, go_sem, Z6, F2]) rfl ⟨_, _, rfl, QX, QX, EX⟩
theorem Z5K (p q : QC) (x y : Rat) (k : Int) (w : World) (hz : (decide (0 ≤ k) && decide (k ≤ 400)) = false) :
  Ca 22 #[.agg (zA0 p q), .int .i64 k] w fun e w' => e = .returned (.tuple #[.agg zA5, .int .i64 1]) ∧ Ext w w' := by
 dsimp only [zA0, zA5]
 go_enter func22, ntmps22
 go_wp2_with (go_at_call 72; (with_reducible refine (Z06 k _).mono ?_); rw [hz]; rintro e w1 ⟨rfl, hbw1⟩; obtain ⟨R0, L0, F0⟩ := B80 w1 w; obtain ⟨R1, L1, F1⟩ := B81 w1 w)
 refine bodyPost_ret (v := .tuple #[.agg zA5, .int .i64 1]) (by simp [zA5, results, results22, go_sem, Z6, F1]) rfl ⟨rfl, EX⟩
theorem Z6f (p q : QC) (x y : Rat) (k : Int) (w : World) (ha : p.At w x) (hb : q.At w y) (hz : (decide (0 ≤ k) && decide (k ≤ 400)) = true) (hs : qm x + qm y + 100000 < Z8) :
  Ca 22 #[.agg (zA0 p q), .int .i64 k] w (Z50 w (Zl x k) (-Zl (-y) k)) := by
 have hk : 0 ≤ k ∧ k ≤ 400 := by simpa using hz
 obtain ⟨hk0, hk1⟩ := hk
 have HA := zH ha
 have HB := zH hb
 clear ha hb
 dsimp only [zA0]
 go_enter func22, ntmps22
 go_wp2_with (
  first
  | (go_at_call 72; (with_reducible refine (Z06 k _).mono ?_); rw [hz]; rintro e w1 ⟨rfl, hbw1⟩; obtain ⟨R0, L0, F0⟩ := B80 w1 w; obtain ⟨R1, L1, F1⟩ := B81 w1 w)
  | (go_at_call 62; (with_reducible refine (Z07 p q _).mono ?_); rintro e w2 ⟨rfl, hbw2⟩; obtain ⟨R1, L1, F1⟩ := B81 w2 w)
  | (go_at_call 73; (with_reducible refine (Z1Z p q x y k _ QX QX (by omega) (by omega) hs).mono ?_); refine rB ?_; intro w3 pw3 qw3 Hw3 Kw3 hbw3; obtain ⟨R1, L1, F1⟩ := B81 w3 w)
  | (go_at_call 63; (with_reducible refine (Z3c pw3 qw3 _).mono ?_); rintro e w4 ⟨rfl, hbw4⟩; obtain ⟨R1, L1, F1⟩ := B81 w4 w))
 refine bodyPost_ret (v := .tuple #[.agg (zA0 pw3 qw3), .int .i64 0]) (by simp [zA0, results, results22, go_sem, Z6, F1]) rfl ⟨_, _, rfl, QX, QX, EX⟩
theorem Z9G (a b c d : QC) (x y u v : Rat) (w : World) (ha : a.At w x) (hb : b.At w y) (hc0 : c.At w u) (hd : d.At w v) (hu : u ≠ 0) (hv : v ≠ 0) (hs : 8 * (qm x + qm y + qm u + qm v) + 200 < Z8) :
  Ca 21 #[.agg (zA0 a b), .agg (zA0 c d)] w (Z0e w (Z5y x y u v) (Z5z x y u v)) := by
 have HA := zH ha
 have HB := zH hb
 have HC := zH hc0
 have HD := zH hd
 have m1 := Z31 u hu
 have m2 := Z31 v hv
 have m3 := Z32 1
 have m4 := Zo (z := 1) (by decide) (by decide)
 clear ha hb hc0 hd
 dsimp only [zA0]
 go_enter func21, ntmps21
 go_wp2_with (go_at_call 27; (with_reducible refine (Zw 1 _ (by decide) (by decide)).mono ?_); refine rQ ?_; intro w1 sw1 Aw1 nw1 cw1 tw1 Bw1 mw1 dw1 Hw1 hbw1; obtain ⟨R0, L0, F0⟩ := B80 w1 w; obtain ⟨R1, L1, F1⟩ := B81 w1 w; obtain ⟨R2, L2, F2⟩ := B82 w1 w)
 go_region_held3 (fun w' => zC w' w.heap.size 0 (.bool a.s) ∧ zC w' w.heap.size 1 (.slice a.A a.n a.c) ∧ zC w' w.heap.size 2 (.bool a.t) ∧ zC w' w.heap.size 3 (.slice a.B a.m a.d) ∧ zC w' w.heap.size 4 (.bool b.s) ∧ zC w' w.heap.size 5 (.slice b.A b.n b.c) ∧ zC w' w.heap.size 6 (.bool b.t) ∧ zC w' w.heap.size 7 (.slice b.B b.m b.d) ∧ zC w' (w.heap.size + 1) 0 (.bool c.s) ∧ zC w' (w.heap.size + 1) 1 (.slice c.A c.n c.c) ∧ zC w' (w.heap.size + 1) 2 (.bool c.t) ∧ zC w' (w.heap.size + 1) 3 (.slice c.B c.m c.d) ∧ zC w' (w.heap.size + 1) 4 (.bool d.s) ∧ zC w' (w.heap.size + 1) 5 (.slice d.A d.n d.c) ∧ zC w' (w.heap.size + 1) 6 (.bool d.t) ∧ zC w' (w.heap.size + 1) 7 (.slice d.B d.m d.d) ∧ zC w' w1.heap.size 0 (.bool sw1) ∧ zC w' w1.heap.size 1 (.slice Aw1 nw1 cw1) ∧ zC w' w1.heap.size 2 (.bool tw1) ∧ zC w' w1.heap.size 3 (.slice Bw1 mw1 dw1)) (first | (exact KQ) | (simp [go_sem, *]; done)) (first | (go_at_call 71; (with_reducible apply Calls.mono (args := #[.agg #[.bool sw1, .slice Aw1 nw1 cw1, .bool tw1, .slice Bw1 mw1 dw1], .agg #[.bool d.s, .slice d.A d.n d.c, .bool d.t, .slice d.B d.m d.d]])); (focus (go_loud (with_reducible exact Z67 sw1 d.s tw1 d.t Aw1 d.A Bw1 d.B nw1 cw1 mw1 dw1 d.n d.c d.m d.d ((1 : Int) : Rat) v _ QX QX (by omega) hv))); rintro e w2 ⟨sw2, Aw2, nw2, cw2, tw2, Bw2, mw2, dw2, rfl, hQ, hbw2⟩; have Hw2 := zH hQ; clear hQ; obtain ⟨R2, L2, F2⟩ := B82 w2 w) | (go_at_call 71; (with_reducible apply Calls.mono (args := #[.agg #[.bool sw1, .slice Aw1 nw1 cw1, .bool tw1, .slice Bw1 mw1 dw1], .agg #[.bool c.s, .slice c.A c.n c.c, .bool c.t, .slice c.B c.m c.d]])); (focus (go_loud (with_reducible exact Z67 sw1 c.s tw1 c.t Aw1 c.A Bw1 c.B nw1 cw1 mw1 dw1 c.n c.c c.m c.d ((1 : Int) : Rat) u _ QX QX (by omega) hu))); rintro e w3 ⟨sw3, Aw3, nw3, cw3, tw3, Bw3, mw3, dw3, rfl, hQ, hbw3⟩; have Hw3 := zH hQ; clear hQ; obtain ⟨R2, L2, F2⟩ := B82 w3 w) | (go_at_call 18; (with_reducible refine (Z65 a b ⟨sw2, Aw2, nw2, cw2, tw2, Bw2, mw2, dw2⟩ ⟨sw3, Aw3, nw3, cw3, tw3, Bw3, mw3, dw3⟩ x y _ _ _ QX QX QX QX (by omega)).mono ?_); refine rB ?_; intro w4 pw4 qw4 Hw4 Kw4 hbw4; obtain ⟨R2, L2, F2⟩ := B82 w4 w))
 all_goals go_wp2_with fail
 all_goals refine bodyPost_ret (v := .agg (zA0 pw4 qw4)) (by simp [zA0, results, results21, go_sem, Z6, F2]) rfl ⟨_, _, rfl, QX, QX, EX⟩
end Go.Proofs.YtnmmncccpdffaaaGreat
