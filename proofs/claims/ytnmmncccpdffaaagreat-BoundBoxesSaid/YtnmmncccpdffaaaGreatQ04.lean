/- What BoundBoxes calls, part 4. -/
import Derived.Test.YtnmmncccpdffaaaGreatQ03
set_option linter.unusedVariables false
set_option linter.unusedSimpArgs false
set_option maxRecDepth 100000
set_option maxHeartbeats 16000000
namespace Go.Proofs.YtnmmncccpdffaaaGreat
open Go.Proofs.Tryz Go Go.RowKit Go.Shelf
theorem Z1u (s1 s2 : Bool) (A1 A2 : Option Addr) (n1 c1 n2 c2 : Nat) (x y : Int) (w : World) (h1 : IAt w s1 A1 n1 c1 x) (h2 : IAt w s2 A2 n2 c2 y) (hs1 : n1 + 4 < Z8) (hs2 : n2 + 4 < Z8) (hy : y ≠ 0) :
  Ca 213 #[.agg #[.bool s1, .slice A1 n1 c1], .agg #[.bool s2, .slice A2 n2 c2]] w (Z1F w (x / y)) := by
 have H1 := zH h1
 have H2 := zH h2
 clear h1 h2
 go_enter func213, ntmps213
 go_wp2_with (
  ((with_reducible refine (Z6b s1 s2 A1 A2 n1 c1 n2 c2 x y _ (H1.out.ext EX) (H2.out.ext EX) (by omega) (by omega) hy).mono ?_); rintro e w1 ⟨sw1, Aw1, nw1, cw1, tw1, Bw1, mw1, dw1, rfl, hIw1, hJw1, hbw1⟩; (try clear hc hf); obtain ⟨hBw1, hc, hf⟩ := EC3 w1 w; have hszw1 := hBw1.size; simp only [SA] at hszw1; have hq0w1 : w.heap.size < w1.heap.size := (by omega); have hq1w1 : w.heap.size + 1 < w1.heap.size := (by omega); have hq2w1 : w.heap.size + 1 + 1 < w1.heap.size := (by omega)))
 refine bodyPost_ret (v := .agg #[.bool sw1, .slice Aw1 nw1 cw1]) (by simp [results, results213, go_sem, hc, hf, Z6, hq0w1, hq1w1, hq2w1]) rfl ⟨_, _, _, _, rfl, IAt.keep hIw1 (by have kf := And.intro hq0w1 (And.intro hq1w1 hq2w1); exact KPD), EX⟩
theorem Z4r (s1 s2 : Bool) (A1 A2 : Option Addr) (n1 c1 n2 c2 : Nat) (x y : Int) (w : World) (h1 : IAt w s1 A1 n1 c1 x) (h2 : IAt w s2 A2 n2 c2 y) (hs1 : n1 + 4 < Z8) (hs2 : n2 + 4 < Z8) (hy : y = 1) :
  Ca 210 #[.agg #[.bool s1, .slice A1 n1 c1], .agg #[.bool s2, .slice A2 n2 c2]] w (Z0G w (Rat.divInt x y)) := by
 subst hy
 have hI1 := zH (fun W (k : IAt W s2 A2 n2 c2 1) => ZN s2 A2 n2 c2 1 W k (by omega))
 rw [decide_eq_true rfl] at hI1
 have HD := zH (Z3l x)
 have H1 := zH h1
 have H2 := zH h2
 clear h1 h2
 go_enter func210, ntmps210
 go_wp2_with (go_at_call 130; (with_reducible refine (hI1.out _ (H2.out.ext EX)).mono ?_); rintro e w1 ⟨rfl, hbw1⟩; (try clear hc hf); obtain ⟨hBw1, hc, hf⟩ := EC3 w1 w)
 refine bodyPost_ret (v := .agg #[.bool s1, .slice A1 n1 c1, .bool s2, .slice A2 n2 c2]) (by simp [results, results210, go_sem, Z6, hc, hf]) rfl ⟨_, _, _, _, _, _, _, _, rfl, ⟨(by rw [HD.out.1]; exact H1.out.ext EX), (by rw [HD.out.2]; exact H2.out.ext EX)⟩, EX⟩
theorem Z3H (s1 s2 : Bool) (A1 A2 : Option Addr) (n1 c1 n2 c2 : Nat) (x y : Int) (w : World) (h1 : IAt w s1 A1 n1 c1 x) (h2 : IAt w s2 A2 n2 c2 y) (hs1 : n1 + 4 < Z8) (hs2 : n2 + 4 < Z8) (hy : 0 < y) (hy1 : y ≠ 1) (hg : Int.gcd x y = 1) :
  Ca 210 #[.agg #[.bool s1, .slice A1 n1 c1], .agg #[.bool s2, .slice A2 n2 c2]] w (Z0G w (Rat.divInt x y)) := by
 have hI1 := zH (fun W (k : IAt W s2 A2 n2 c2 y) => ZN s2 A2 n2 c2 y W k (by omega))
 rw [decide_eq_false hy1] at hI1
 have HG := zH (fun W (k1 : IAt W s1 A1 n1 c1 x) (k2 : IAt W s2 A2 n2 c2 y) => Z2V s1 s2 A1 A2 n1 c1 n2 c2 x y W k1 k2 (by omega) (by omega))
 rw [hg] at HG
 have HD := zH (Z17 hg hy)
 have hsn : s2 = false := by rw [h2.sgn]; simp; omega
 subst hsn
 have H1 := zH h1
 have H2 := zH h2
 clear h1 h2 hy hy1 hg
 go_enter func210, ntmps210
 go_wp2_with (
  first
  | (go_at_call 130; (with_reducible refine (hI1.out _ (H2.out.ext EX)).mono ?_); rintro e w1 ⟨rfl, hbw1⟩; (try clear hc hf); obtain ⟨hBw1, hc, hf⟩ := EC3 w1 w)
  | (go_at_call 128; (with_reducible refine (HG.out _ (H1.out.ext EX) (H2.out.ext EX)).mono ?_); rintro e w2 ⟨sw2, Aw2, nw2, cw2, rfl, hIw2, hbw2⟩; (try clear hc hf); obtain ⟨hBw2, hc, hf⟩ := EC3 w2 w; have hszw2 := hBw2.size; simp only [SA] at hszw2; have hq0w2 : w.heap.size < w2.heap.size := (by omega); have hq1w2 : w.heap.size + 1 < w2.heap.size := (by omega); have hq2w2 : w.heap.size + 1 + 1 < w2.heap.size := (by omega))
  | (go_at_call 130; (with_reducible refine (ZN sw2 Aw2 nw2 cw2 _ _ (hIw2.keep KX) (by have a := hIw2.wl; have b := Z1c; rw [show (((1 : Nat) : Int)) = 1 from rfl] at a; rw [b] at a; rw [a]; decide)).mono ?_); rw [show decide ((((1 : Nat) : Int)) = 1) = true from rfl]; rintro e w3 ⟨rfl, hbw3⟩; obtain ⟨hcw3, hfw3⟩ := hbw3.cells; (try simp only [SA, Nat.add_assoc, Nat.reduceAdd] at hcw3 hfw3)))
 refine bodyPost_ret (v := .agg #[.bool s1, .slice A1 n1 c1, .bool false, .slice A2 n2 c2]) (by simp [results, results210, go_sem, Z6, hc, hf, hcw3, hfw3, hq0w2, hq1w2, hq2w2]) rfl ⟨_, _, _, _, _, _, _, _, rfl, ⟨(by rw [HD.out.1]; exact H1.out.ext EX), (by rw [HD.out.2]; exact H2.out.ext EX)⟩, EX⟩
theorem Z4q (s1 s2 : Bool) (A1 A2 : Option Addr) (n1 c1 n2 c2 : Nat) (x y : Int) (w : World) (h1 : IAt w s1 A1 n1 c1 x) (h2 : IAt w s2 A2 n2 c2 y) (hs1 : n1 + 4 < Z8) (hs2 : n2 + 4 < Z8) (hy : 0 < y) (hy1 : y ≠ 1) (hg : Int.gcd x y ≠ 1) :
  Ca 210 #[.agg #[.bool s1, .slice A1 n1 c1], .agg #[.bool s2, .slice A2 n2 c2]] w (Z0G w (Rat.divInt x y)) := by
 have hI1 := zH (fun W (k : IAt W s2 A2 n2 c2 y) => ZN s2 A2 n2 c2 y W k (by omega))
 rw [decide_eq_false hy1] at hI1
 have HG := zH (fun W (k1 : IAt W s1 A1 n1 c1 x) (k2 : IAt W s2 A2 n2 c2 y) => Z2V s1 s2 A1 A2 n1 c1 n2 c2 x y W k1 k2 (by omega) (by omega))
 have HS := zH (fun W (k : IAt W s2 A2 n2 c2 y) => Z11 s2 A2 n2 c2 y W k (by omega))
 rw [Z00 hy] at HS
 have hD := Z4N (n := x) hy
 have hgy : Int.gcd x y ≤ y.natAbs := Nat.le_of_dvd (by omega) (by rw [← Int.natCast_dvd_natCast]; exact Int.dvd_trans (Int.gcd_dvd_right ..) (Int.dvd_natAbs_self ..))
 have hg0 : Int.gcd x y ≠ 0 := by rw [Ne, Int.gcd_eq_zero_iff]; omega
 obtain ⟨G, hG⟩ : ∃ G, Int.gcd x y = G := ⟨_, rfl⟩
 rw [hG] at HG hD hgy hg0 hg
 have HD := zH hD
 have HW : Hid (wl ((G : Nat) : Int) ≤ n2) := by show _; rw [h2.wl]; exact ZG (by simp; omega)
 have HN1 : Hid (decide (((G : Nat) : Int) = 1) = false) := decide_eq_false (by omega)
 have HSG := zH (Z00 (z := ((G : Nat) : Int)) (by omega))
 have hG0 : ((G : Nat) : Int) ≠ 0 := by omega
 have H1 := zH h1
 have H2 := zH h2
 clear h1 h2 hy hy1 hg hD hgy hG
 go_enter func210, ntmps210
 go_wp2_with (
  first
  | (go_at_call 130; (with_reducible refine (hI1.out _ (H2.out.ext EX)).mono ?_); rintro e w1 ⟨rfl, hbw1⟩; (try clear hc hf); obtain ⟨hBw1, hc, hf⟩ := EC3 w1 w)
  | (go_at_call 128; (with_reducible refine (HG.out _ (H1.out.ext EX) (H2.out.ext EX)).mono ?_); rintro e w2 ⟨sw2, Aw2, nw2, cw2, rfl, hIw2, hbw2⟩; (try clear hc hf); obtain ⟨hBw2, hc, hf⟩ := EC3 w2 w; have hszw2 := hBw2.size; simp only [SA] at hszw2; have hq0w2 : w.heap.size < w2.heap.size := (by omega); have hq1w2 : w.heap.size + 1 < w2.heap.size := (by omega); have hq2w2 : w.heap.size + 1 + 1 < w2.heap.size := (by omega); have hn2 : nw2 + 4 < Z8 := (by have a := hIw2.wl; have b := HW.out; omega))
  | (go_at_call 130; (with_reducible refine (ZN sw2 Aw2 nw2 cw2 _ _ (hIw2.ext EX) (by omega)).mono ?_); rw [HN1.out]; rintro e w3 ⟨rfl, hbw3⟩; obtain ⟨hcw3, hfw3⟩ := hbw3.cells; (try simp only [SA, Nat.add_assoc, Nat.reduceAdd] at hcw3 hfw3); have l3 := (Loc.new w2 sw2 Aw2 nw2 cw2).ext hbw3; have p3 := l3.cell0; have p3' := l3.cell1)
  | (go_at_call 126; (with_reducible refine (HS.out _ (H2.out.ext EX)).mono ?_); rintro e w5 ⟨rfl, hbw5⟩; have x25 : Ext w2 w5 := EX; have y0 := (x25.cell (by simp [go_sem, hc] : w2.cell? ⟨w.heap.size, 0, none⟩ = some (.bool s1))); have y1 := (x25.cell (by simp [go_sem, hc] : w2.cell? ⟨w.heap.size, 1, none⟩ = some (.slice A1 n1 c1))); have y2 := (x25.cell (by simp [go_sem, hc] : w2.cell? ⟨w.heap.size + 1, 0, none⟩ = some (.bool s2))); have y3 := (x25.cell (by simp [go_sem, hc] : w2.cell? ⟨w.heap.size + 1, 1, none⟩ = some (.slice A2 n2 c2))); have l5 : Loc w5 w2.heap.size sw2 Aw2 nw2 cw2 := (by first | exact l4.ext hbw5 | exact l3.ext hbw5); have p5 := l5.cell0; have p5' := l5.cell1)
  | (go_at_call 126; (with_reducible refine (Z11 sw2 Aw2 nw2 cw2 _ _ (hIw2.ext EX) (by omega)).mono ?_); rw [HSG.out]; rintro e w4 ⟨rfl, hbw4⟩; have x24 : Ext w2 w4 := EX; have z0 := (x24.cell (by simp [go_sem, hc] : w2.cell? ⟨w.heap.size + 1, 0, none⟩ = some (.bool s2))); have z1 := (x24.cell (by simp [go_sem, hc] : w2.cell? ⟨w.heap.size + 1, 1, none⟩ = some (.slice A2 n2 c2))); have l4 : Loc w4 w2.heap.size sw2 Aw2 nw2 cw2 := l3.ext hbw4; clear x24))
 have hr4 : zC w5 (w.heap.size + 1 + 1) 0 (.bool false) := x25.cell (by simp [go_sem, hc])
 have hr5 : zC w5 (w.heap.size + 1 + 1) 1 (.slice none 0 0) := x25.cell (by simp [go_sem, hc])
 have hr6 : zC w5 (w.heap.size + 1 + 1) 2 (.bool false) := x25.cell (by simp [go_sem, hc])
 have hr7 : zC w5 (w.heap.size + 1 + 1) 3 (.slice none 0 0) := x25.cell (by simp [go_sem, hc])
 have hfz : Fz w5 (w.heap.size + 1 + 1) := ((Fz.new _ _ _ _ (by simp only [World.size_alloc])).ext hBw2).ext x25
 go_region_held3 (fun w' => zC w' w.heap.size 0 (.bool s1) ∧ zC w' w.heap.size 1 (.slice A1 n1 c1) ∧ zC w' (w.heap.size + 1) 0 (.bool s2) ∧ zC w' (w.heap.size + 1) 1 (.slice A2 n2 c2) ∧ zC w' w2.heap.size 0 (.bool sw2) ∧ zC w' w2.heap.size 1 (.slice Aw2 nw2 cw2)) (first | (exact HXC) | (simp [go_sem, y0, y1, y2, y3, p5, p5']; done) | (obtain ⟨q0, q1, q2, q3, q4, q5⟩ := ‹_ ∧ _ ∧ _ ∧ _ ∧ _ ∧ _›; simp [go_sem, q0, q1, q2, q3, q4, q5, hq0w2, hq1w2, hq2w2])) (first | (go_at_call 213; (with_reducible refine (Z1u s1 sw2 A1 Aw2 n1 c1 nw2 cw2 _ _ _ (H1.out.ext EX) (hIw2.ext EX) hs1 hn2 hG0).mono ?_); rintro e w7 ⟨sw7, Aw7, nw7, cw7, rfl, hIw7, hbw7⟩; have u4 := hbw7.cell (show _ = _ from hr4); have u5 := hbw7.cell (show _ = _ from hr5); have u6 := hbw7.cell (show _ = _ from hr6); have u7 := hbw7.cell (show _ = _ from hr7)) | (go_at_call 213; (with_reducible refine (Z1u s2 sw2 A2 Aw2 n2 c2 nw2 cw2 _ _ _ (H2.out.ext EX) (hIw2.ext EX) hs2 hn2 hG0).mono ?_); rintro e w8 ⟨sw8, Aw8, nw8, cw8, rfl, hIw8, hbw8⟩; have v4 := hbw8.cell u4; have v5 := hbw8.cell u5; have v6 := hbw8.cell u6; have v7 := hbw8.cell u7; have hfz8 := ((hfz.drew.ext hbw7).ext hbw8).2))
 all_goals go_wp2_with fail
 all_goals refine bodyPost_ret (v := .agg #[.bool sw7, .slice Aw7 nw7 cw7, .bool sw8, .slice Aw8 nw8 cw8]) (by simp [results, results210, go_sem, Z6, v4, v5, v6, v7]) rfl ⟨_, _, _, _, _, _, _, _, rfl, ⟨(by rw [HD.out.1]; exact hIw7.keep (by have kf := And.intro v4 (And.intro v5 (And.intro v6 v7)); exact KPE)), (by rw [HD.out.2]; exact hIw8.keep (by have kf := And.intro v4 (And.intro v5 (And.intro v6 v7)); exact KPE))⟩, EX⟩
theorem Z4u (s1 s2 : Bool) (A1 A2 : Option Addr) (n1 c1 n2 c2 : Nat) (x y : Int) (w : World) (h1 : IAt w s1 A1 n1 c1 x) (h2 : IAt w s2 A2 n2 c2 y) (hs1 : n1 + 4 < Z8) (hs2 : n2 + 4 < Z8) (hy : y = 1) :
  Ca 103 #[.agg #[.bool s1, .slice A1 n1 c1], .agg #[.bool s2, .slice A2 n2 c2]] w (Z0G w (Rat.divInt x y)) := by
 subst hy
 have hI1 := zH (fun W (k : IAt W s2 A2 n2 c2 1) => ZO s2 A2 n2 c2 1 W k (by omega))
 rw [decide_eq_true rfl] at hI1
 have HD := zH (Z3l x)
 have H1 := zH h1
 have H2 := zH h2
 clear h1 h2
 go_enter func103, ntmps103
 go_wp2_with (go_at_call 89; (with_reducible refine (hI1.out _ (H2.out.ext EX)).mono ?_); rintro e w1 ⟨rfl, hbw1⟩; (try clear hc hf); obtain ⟨hBw1, hc, hf⟩ := EC3 w1 w)
 refine bodyPost_ret (v := .agg #[.bool s1, .slice A1 n1 c1, .bool s2, .slice A2 n2 c2]) (by simp [results, results103, go_sem, Z6, hc, hf]) rfl ⟨_, _, _, _, _, _, _, _, rfl, ⟨(by rw [HD.out.1]; exact H1.out.ext EX), (by rw [HD.out.2]; exact H2.out.ext EX)⟩, EX⟩
theorem Z3I (s1 s2 : Bool) (A1 A2 : Option Addr) (n1 c1 n2 c2 : Nat) (x y : Int) (w : World) (h1 : IAt w s1 A1 n1 c1 x) (h2 : IAt w s2 A2 n2 c2 y) (hs1 : n1 + 4 < Z8) (hs2 : n2 + 4 < Z8) (hy : 0 < y) (hy1 : y ≠ 1) (hg : Int.gcd x y = 1) :
  Ca 103 #[.agg #[.bool s1, .slice A1 n1 c1], .agg #[.bool s2, .slice A2 n2 c2]] w (Z0G w (Rat.divInt x y)) := by
 have hI1 := zH (fun W (k : IAt W s2 A2 n2 c2 y) => ZO s2 A2 n2 c2 y W k (by omega))
 rw [decide_eq_false hy1] at hI1
 have HG := zH (fun W (k1 : IAt W s1 A1 n1 c1 x) (k2 : IAt W s2 A2 n2 c2 y) => Z2T s1 s2 A1 A2 n1 c1 n2 c2 x y W k1 k2 (by omega) (by omega))
 rw [hg] at HG
 have HD := zH (Z17 hg hy)
 have hsn : s2 = false := by rw [h2.sgn]; simp; omega
 subst hsn
 have H1 := zH h1
 have H2 := zH h2
 clear h1 h2 hy hy1 hg
 go_enter func103, ntmps103
 go_wp2_with (
  first
  | (go_at_call 89; (with_reducible refine (hI1.out _ (H2.out.ext EX)).mono ?_); rintro e w1 ⟨rfl, hbw1⟩; (try clear hc hf); obtain ⟨hBw1, hc, hf⟩ := EC3 w1 w)
  | (go_at_call 78; (with_reducible refine (HG.out _ (H1.out.ext EX) (H2.out.ext EX)).mono ?_); rintro e w2 ⟨sw2, Aw2, nw2, cw2, rfl, hIw2, hbw2⟩; (try clear hc hf); obtain ⟨hBw2, hc, hf⟩ := EC3 w2 w; have hszw2 := hBw2.size; simp only [SA] at hszw2; have hq0w2 : w.heap.size < w2.heap.size := (by omega); have hq1w2 : w.heap.size + 1 < w2.heap.size := (by omega); have hq2w2 : w.heap.size + 1 + 1 < w2.heap.size := (by omega))
  | (go_at_call 89; (with_reducible refine (ZO sw2 Aw2 nw2 cw2 _ _ (hIw2.keep KX) (by have a := hIw2.wl; have b := Z1c; rw [show (((1 : Nat) : Int)) = 1 from rfl] at a; rw [b] at a; rw [a]; decide)).mono ?_); rw [show decide ((((1 : Nat) : Int)) = 1) = true from rfl]; rintro e w3 ⟨rfl, hbw3⟩; obtain ⟨hcw3, hfw3⟩ := hbw3.cells; (try simp only [SA, Nat.add_assoc, Nat.reduceAdd] at hcw3 hfw3)))
 refine bodyPost_ret (v := .agg #[.bool s1, .slice A1 n1 c1, .bool false, .slice A2 n2 c2]) (by simp [results, results103, go_sem, Z6, hc, hf, hcw3, hfw3, hq0w2, hq1w2, hq2w2]) rfl ⟨_, _, _, _, _, _, _, _, rfl, ⟨(by rw [HD.out.1]; exact H1.out.ext EX), (by rw [HD.out.2]; exact H2.out.ext EX)⟩, EX⟩
theorem Z4t (s1 s2 : Bool) (A1 A2 : Option Addr) (n1 c1 n2 c2 : Nat) (x y : Int) (w : World) (h1 : IAt w s1 A1 n1 c1 x) (h2 : IAt w s2 A2 n2 c2 y) (hs1 : n1 + 4 < Z8) (hs2 : n2 + 4 < Z8) (hy : 0 < y) (hy1 : y ≠ 1) (hg : Int.gcd x y ≠ 1) :
  Ca 103 #[.agg #[.bool s1, .slice A1 n1 c1], .agg #[.bool s2, .slice A2 n2 c2]] w (Z0G w (Rat.divInt x y)) := by
 have hI1 := zH (fun W (k : IAt W s2 A2 n2 c2 y) => ZO s2 A2 n2 c2 y W k (by omega))
 rw [decide_eq_false hy1] at hI1
 have HG := zH (fun W (k1 : IAt W s1 A1 n1 c1 x) (k2 : IAt W s2 A2 n2 c2 y) => Z2T s1 s2 A1 A2 n1 c1 n2 c2 x y W k1 k2 (by omega) (by omega))
 have HS := zH (fun W (k : IAt W s2 A2 n2 c2 y) => Z0w s2 A2 n2 c2 y W k (by omega))
 rw [Z00 hy] at HS
 have hD := Z4N (n := x) hy
 have hgy : Int.gcd x y ≤ y.natAbs := Nat.le_of_dvd (by omega) (by rw [← Int.natCast_dvd_natCast]; exact Int.dvd_trans (Int.gcd_dvd_right ..) (Int.dvd_natAbs_self ..))
 have hg0 : Int.gcd x y ≠ 0 := by rw [Ne, Int.gcd_eq_zero_iff]; omega
 obtain ⟨G, hG⟩ : ∃ G, Int.gcd x y = G := ⟨_, rfl⟩
 rw [hG] at HG hD hgy hg0 hg
 have HD := zH hD
 have HW : Hid (wl ((G : Nat) : Int) ≤ n2) := by show _; rw [h2.wl]; exact ZG (by simp; omega)
 have HN1 : Hid (decide (((G : Nat) : Int) = 1) = false) := decide_eq_false (by omega)
 have HSG := zH (Z00 (z := ((G : Nat) : Int)) (by omega))
 have hG0 : ((G : Nat) : Int) ≠ 0 := by omega
 have H1 := zH h1
 have H2 := zH h2
 clear h1 h2 hy hy1 hg hD hgy hG
 go_enter func103, ntmps103
 go_wp2_with (
  first
  | (go_at_call 89; (with_reducible refine (hI1.out _ (H2.out.ext EX)).mono ?_); rintro e w1 ⟨rfl, hbw1⟩; (try clear hc hf); obtain ⟨hBw1, hc, hf⟩ := EC3 w1 w)
  | (go_at_call 78; (with_reducible refine (HG.out _ (H1.out.ext EX) (H2.out.ext EX)).mono ?_); rintro e w2 ⟨sw2, Aw2, nw2, cw2, rfl, hIw2, hbw2⟩; (try clear hc hf); obtain ⟨hBw2, hc, hf⟩ := EC3 w2 w; have hszw2 := hBw2.size; simp only [SA] at hszw2; have hq0w2 : w.heap.size < w2.heap.size := (by omega); have hq1w2 : w.heap.size + 1 < w2.heap.size := (by omega); have hq2w2 : w.heap.size + 1 + 1 < w2.heap.size := (by omega); have hn2 : nw2 + 4 < Z8 := (by have a := hIw2.wl; have b := HW.out; omega))
  | (go_at_call 89; (with_reducible refine (ZO sw2 Aw2 nw2 cw2 _ _ (hIw2.ext EX) (by omega)).mono ?_); rw [HN1.out]; rintro e w3 ⟨rfl, hbw3⟩; obtain ⟨hcw3, hfw3⟩ := hbw3.cells; (try simp only [SA, Nat.add_assoc, Nat.reduceAdd] at hcw3 hfw3); have l3 := (Loc.new w2 sw2 Aw2 nw2 cw2).ext hbw3; have p3 := l3.cell0; have p3' := l3.cell1)
  | (go_at_call 76; (with_reducible refine (HS.out _ (H2.out.ext EX)).mono ?_); rintro e w5 ⟨rfl, hbw5⟩; have x25 : Ext w2 w5 := EX; have y0 := (x25.cell (by simp [go_sem, hc] : w2.cell? ⟨w.heap.size, 0, none⟩ = some (.bool s1))); have y1 := (x25.cell (by simp [go_sem, hc] : w2.cell? ⟨w.heap.size, 1, none⟩ = some (.slice A1 n1 c1))); have y2 := (x25.cell (by simp [go_sem, hc] : w2.cell? ⟨w.heap.size + 1, 0, none⟩ = some (.bool s2))); have y3 := (x25.cell (by simp [go_sem, hc] : w2.cell? ⟨w.heap.size + 1, 1, none⟩ = some (.slice A2 n2 c2))); have l5 : Loc w5 w2.heap.size sw2 Aw2 nw2 cw2 := (by first | exact l4.ext hbw5 | exact l3.ext hbw5); have p5 := l5.cell0; have p5' := l5.cell1)
  | (go_at_call 76; (with_reducible refine (Z0w sw2 Aw2 nw2 cw2 _ _ (hIw2.ext EX) (by omega)).mono ?_); rw [HSG.out]; rintro e w4 ⟨rfl, hbw4⟩; have x24 : Ext w2 w4 := EX; have z0 := (x24.cell (by simp [go_sem, hc] : w2.cell? ⟨w.heap.size + 1, 0, none⟩ = some (.bool s2))); have z1 := (x24.cell (by simp [go_sem, hc] : w2.cell? ⟨w.heap.size + 1, 1, none⟩ = some (.slice A2 n2 c2))); have l4 : Loc w4 w2.heap.size sw2 Aw2 nw2 cw2 := l3.ext hbw4; clear x24))
 have hr4 : zC w5 (w.heap.size + 1 + 1) 0 (.bool false) := x25.cell (by simp [go_sem, hc])
 have hr5 : zC w5 (w.heap.size + 1 + 1) 1 (.slice none 0 0) := x25.cell (by simp [go_sem, hc])
 have hr6 : zC w5 (w.heap.size + 1 + 1) 2 (.bool false) := x25.cell (by simp [go_sem, hc])
 have hr7 : zC w5 (w.heap.size + 1 + 1) 3 (.slice none 0 0) := x25.cell (by simp [go_sem, hc])
 have hfz : Fz w5 (w.heap.size + 1 + 1) := ((Fz.new _ _ _ _ (by simp only [World.size_alloc])).ext hBw2).ext x25
 go_region_held3 (fun w' => zC w' w.heap.size 0 (.bool s1) ∧ zC w' w.heap.size 1 (.slice A1 n1 c1) ∧ zC w' (w.heap.size + 1) 0 (.bool s2) ∧ zC w' (w.heap.size + 1) 1 (.slice A2 n2 c2) ∧ zC w' w2.heap.size 0 (.bool sw2) ∧ zC w' w2.heap.size 1 (.slice Aw2 nw2 cw2)) (first | (exact HXC) | (simp [go_sem, y0, y1, y2, y3, p5, p5']; done) | (obtain ⟨q0, q1, q2, q3, q4, q5⟩ := ‹_ ∧ _ ∧ _ ∧ _ ∧ _ ∧ _›; simp [go_sem, q0, q1, q2, q3, q4, q5, hq0w2, hq1w2, hq2w2])) (first | (go_at_call 177; (with_reducible refine (Z2S s1 sw2 A1 Aw2 n1 c1 nw2 cw2 _ _ _ (H1.out.ext EX) (hIw2.ext EX) hs1 hn2 hG0).mono ?_); rintro e w7 ⟨sw7, Aw7, nw7, cw7, rfl, hIw7, hbw7⟩; have u4 := hbw7.cell (show _ = _ from hr4); have u5 := hbw7.cell (show _ = _ from hr5); have u6 := hbw7.cell (show _ = _ from hr6); have u7 := hbw7.cell (show _ = _ from hr7)) | (go_at_call 177; (with_reducible refine (Z2S s2 sw2 A2 Aw2 n2 c2 nw2 cw2 _ _ _ (H2.out.ext EX) (hIw2.ext EX) hs2 hn2 hG0).mono ?_); rintro e w8 ⟨sw8, Aw8, nw8, cw8, rfl, hIw8, hbw8⟩; have v4 := hbw8.cell u4; have v5 := hbw8.cell u5; have v6 := hbw8.cell u6; have v7 := hbw8.cell u7; have hfz8 := ((hfz.drew.ext hbw7).ext hbw8).2))
 all_goals go_wp2_with fail
 all_goals refine bodyPost_ret (v := .agg #[.bool sw7, .slice Aw7 nw7 cw7, .bool sw8, .slice Aw8 nw8 cw8]) (by simp [results, results103, go_sem, Z6, v4, v5, v6, v7]) rfl ⟨_, _, _, _, _, _, _, _, rfl, ⟨(by rw [HD.out.1]; exact hIw7.keep (by have kf := And.intro v4 (And.intro v5 (And.intro v6 v7)); exact KPE)), (by rw [HD.out.2]; exact hIw8.keep (by have kf := And.intro v4 (And.intro v5 (And.intro v6 v7)); exact KPE))⟩, EX⟩
theorem Z4s (s1 s2 : Bool) (A1 A2 : Option Addr) (n1 c1 n2 c2 : Nat) (x y : Int) (w : World) (h1 : IAt w s1 A1 n1 c1 x) (h2 : IAt w s2 A2 n2 c2 y) (hs1 : n1 + 4 < Z8) (hs2 : n2 + 4 < Z8) (hy : y < 0) :
  Ca 210 #[.agg #[.bool s1, .slice A1 n1 c1], .agg #[.bool s2, .slice A2 n2 c2]] w (Z0G w (Rat.divInt x y)) := by
 have hy1 : y ≠ 1 := by omega
 have hI1 := zH (fun W (k : IAt W s2 A2 n2 c2 y) => ZN s2 A2 n2 c2 y W k (by omega))
 rw [decide_eq_false hy1] at hI1
 have HG := zH (fun W (k1 : IAt W s1 A1 n1 c1 x) (k2 : IAt W s2 A2 n2 c2 y) => Z2V s1 s2 A1 A2 n1 c1 n2 c2 x y W k1 k2 (by omega) (by omega))
 have HS := zH (fun W (k : IAt W s2 A2 n2 c2 y) => Z11 s2 A2 n2 c2 y W k (by omega))
 rw [Z1x hy] at HS
 have hD := Z4O (n := x) hy
 have hgy : Int.gcd x y ≤ y.natAbs := Nat.le_of_dvd (by omega) (by rw [← Int.natCast_dvd_natCast]; exact Int.dvd_trans (Int.gcd_dvd_right ..) (Int.dvd_natAbs_self ..))
 have hg0 : Int.gcd x y ≠ 0 := by rw [Ne, Int.gcd_eq_zero_iff]; omega
 obtain ⟨G, hG⟩ : ∃ G, Int.gcd x y = G := ⟨_, rfl⟩
 rw [hG] at HG hD hgy hg0
 have HD := zH hD
 have HW : Hid (wl ((G : Nat) : Int) ≤ n2) := by show _; rw [h2.wl]; exact ZG (by simp; omega)
 obtain ⟨bG, hbG⟩ : ∃ b, decide (((G : Nat) : Int) = 1) = b := ⟨_, rfl⟩
 have HN1 := zH hbG
 have hsn : s2 = true := by rw [h2.sgn]; simp; omega
 subst hsn
 have HSG := zH (Z00 (z := ((G : Nat) : Int)) (by omega))
 have hG0 : -((G : Nat) : Int) ≠ 0 := by omega
 have H1 := zH h1
 have H2 := zH h2
 clear h1 h2 hy hy1 hD hgy hG hbG
 go_enter func210, ntmps210
 go_wp2_with (
  first
  | (go_at_call 130; (with_reducible refine (hI1.out _ (H2.out.ext EX)).mono ?_); rintro e w1 ⟨rfl, hbw1⟩; (try clear hc hf); obtain ⟨hBw1, hc, hf⟩ := EC3 w1 w)
  | (go_at_call 128; (with_reducible refine (HG.out _ (H1.out.ext EX) (H2.out.ext EX)).mono ?_); rintro e w2 ⟨sw2, Aw2, nw2, cw2, rfl, hIw2, hbw2⟩; (try clear hc hf); obtain ⟨hBw2, hc, hf⟩ := EC3 w2 w; have hszw2 := hBw2.size; simp only [SA] at hszw2; have hq0w2 : w.heap.size < w2.heap.size := (by omega); have hq1w2 : w.heap.size + 1 < w2.heap.size := (by omega); have hq2w2 : w.heap.size + 1 + 1 < w2.heap.size := (by omega); have hn2 : nw2 + 4 < Z8 := (by have a := hIw2.wl; have b := HW.out; omega))
  | (go_at_call 130; (with_reducible refine (ZN sw2 Aw2 nw2 cw2 _ _ (hIw2.ext EX) (by omega)).mono ?_); rw [HN1.out]; rintro e w3 ⟨rfl, hbw3⟩; obtain ⟨hcw3, hfw3⟩ := hbw3.cells; (try simp only [SA, Nat.add_assoc, Nat.reduceAdd] at hcw3 hfw3); have l3 := (Loc.new w2 sw2 Aw2 nw2 cw2).ext hbw3; have p3 := l3.cell0; have p3' := l3.cell1)
  | (go_at_call 126; (with_reducible refine (HS.out _ (H2.out.ext EX)).mono ?_); rintro e w5 ⟨rfl, hbw5⟩; have x25 : Ext w2 w5 := EX; have y0 := (x25.cell (by simp [go_sem, hc] : w2.cell? ⟨w.heap.size, 0, none⟩ = some (.bool s1))); have y1 := (x25.cell (by simp [go_sem, hc] : w2.cell? ⟨w.heap.size, 1, none⟩ = some (.slice A1 n1 c1))); have y2 := (x25.cell (by simp [go_sem, hc] : w2.cell? ⟨w.heap.size + 1, 0, none⟩ = some (.bool true))); have y3 := (x25.cell (by simp [go_sem, hc] : w2.cell? ⟨w.heap.size + 1, 1, none⟩ = some (.slice A2 n2 c2))); have l5 : Loc w5 w2.heap.size sw2 Aw2 nw2 cw2 := (by first | exact l4.ext hbw5 | exact l3.ext hbw5); have p5 := l5.cell0; have p5' := l5.cell1)
  | (go_at_call 214; (with_reducible refine (Z2U sw2 Aw2 nw2 cw2 _ _ (hIw2.ext EX) (by omega)).mono ?_); rintro e w6 ⟨sw6, Aw6, nw6, cw6, rfl, hIw6, hbw6⟩; have l6 : Loc w6 w2.heap.size sw2 Aw2 nw2 cw2 := l5.ext hbw6; have p6 := l6.cell0; have p6' := l6.cell1; have f6 := l6.frozen; have x26 : Ext w2 w6 := x25.trans hbw6; have t0 := hbw6.cell y0; have t1 := hbw6.cell y1; have t2 := hbw6.cell y2; have t3 := hbw6.cell y3; have hn6 : nw6 + 4 < Z8 := (by have a := hIw6.wl; have b := hIw2.wl; rw [Z3w] at a; omega))
  | (go_at_call 126; (with_reducible refine (Z11 sw2 Aw2 nw2 cw2 _ _ (hIw2.ext EX) (by omega)).mono ?_); rw [HSG.out]; rintro e w4 ⟨rfl, hbw4⟩; have x24 : Ext w2 w4 := EX; have z0 := (x24.cell (by simp [go_sem, hc] : w2.cell? ⟨w.heap.size + 1, 0, none⟩ = some (.bool true))); have z1 := (x24.cell (by simp [go_sem, hc] : w2.cell? ⟨w.heap.size + 1, 1, none⟩ = some (.slice A2 n2 c2))); have l4 : Loc w4 w2.heap.size sw2 Aw2 nw2 cw2 := l3.ext hbw4; clear x24))
 all_goals have e0 : ¬ w2.heap.size = w.heap.size := (by omega)
 all_goals have e1 : ¬ w2.heap.size = w.heap.size + 1 := (by omega)
 all_goals have e2 : ¬ w2.heap.size = w.heap.size + 1 + 1 := (by omega)
 all_goals have e0' : ¬ w.heap.size = w2.heap.size := (by omega)
 all_goals have e1' : ¬ w.heap.size + 1 = w2.heap.size := (by omega)
 all_goals have e2' : ¬ w.heap.size + 1 + 1 = w2.heap.size := (by omega)
 all_goals have hr4 : zC w6 (w.heap.size + 1 + 1) 0 (.bool false) := x26.cell (by simp [go_sem, hc])
 all_goals have hr5 : zC w6 (w.heap.size + 1 + 1) 1 (.slice none 0 0) := x26.cell (by simp [go_sem, hc])
 all_goals have hr6 : zC w6 (w.heap.size + 1 + 1) 2 (.bool false) := x26.cell (by simp [go_sem, hc])
 all_goals have hr7 : zC w6 (w.heap.size + 1 + 1) 3 (.slice none 0 0) := x26.cell (by simp [go_sem, hc])
 all_goals have hfz : Fz w6 (w.heap.size + 1 + 1) := ((Fz.new _ _ _ _ (by simp only [World.size_alloc])).ext hBw2).ext x26
 all_goals go_region_held3 (fun w' => zC w' w.heap.size 0 (.bool s1) ∧ zC w' w.heap.size 1 (.slice A1 n1 c1) ∧ zC w' (w.heap.size + 1) 0 (.bool true) ∧ zC w' (w.heap.size + 1) 1 (.slice A2 n2 c2) ∧ zC w' w2.heap.size 0 (.bool sw6) ∧ zC w' w2.heap.size 1 (.slice Aw6 nw6 cw6)) (first | (exact HXC) | (simp [go_sem, t0, t1, t2, t3, p6, p6', e0, e1, e0', e1', Z6]; done) | (obtain ⟨q0, q1, q2, q3, q4, q5⟩ := ‹_ ∧ _ ∧ _ ∧ _ ∧ _ ∧ _›; simp [go_sem, q0, q1, q2, q3, q4, q5, hq0w2, hq1w2, hq2w2, e0, e1, e2, e0', e1', e2'])) (first | (go_at_call 213; (with_reducible refine (Z1u s1 sw6 A1 Aw6 n1 c1 nw6 cw6 _ _ _ (H1.out.ext EX) (hIw6.keep (by have kf := And.intro p6 p6'; exact KPE)) hs1 hn6 hG0).mono ?_); rintro e w7 ⟨sw7, Aw7, nw7, cw7, rfl, hIw7, hbw7⟩; have u4 := hbw7.cell (by simp [go_sem, hr4, e2, e2'] : World.cell? _ ⟨w.heap.size + 1 + 1, 0, none⟩ = some (.bool false)); have u5 := hbw7.cell (by simp [go_sem, hr5, e2, e2'] : World.cell? _ ⟨w.heap.size + 1 + 1, 1, none⟩ = some (.slice none 0 0)); have u6 := hbw7.cell (by simp [go_sem, hr6, e2, e2'] : World.cell? _ ⟨w.heap.size + 1 + 1, 2, none⟩ = some (.bool false)); have u7 := hbw7.cell (by simp [go_sem, hr7, e2, e2'] : World.cell? _ ⟨w.heap.size + 1 + 1, 3, none⟩ = some (.slice none 0 0))) | (go_at_call 213; (with_reducible refine (Z1u true sw6 A2 Aw6 n2 c2 nw6 cw6 _ _ _ (H2.out.ext EX) (hIw6.keep (by have kf := And.intro p6 p6'; exact KPE)) hs2 hn6 hG0).mono ?_); rintro e w8 ⟨sw8, Aw8, nw8, cw8, rfl, hIw8, hbw8⟩; have v4 := hbw8.cell u4; have v5 := hbw8.cell u5; have v6 := hbw8.cell u6; have v7 := hbw8.cell u7; have hfz8 := ((((hfz.setCell _ _).setCell _ _).drew.ext hbw7).ext hbw8).2))
 all_goals go_wp2_with fail
 all_goals refine bodyPost_ret (v := .agg #[.bool sw7, .slice Aw7 nw7 cw7, .bool sw8, .slice Aw8 nw8 cw8]) (by simp [results, results210, go_sem, Z6, v4, v5, v6, v7]) rfl ⟨_, _, _, _, _, _, _, _, rfl, ⟨(by rw [HD.out.1]; exact hIw7.keep (by have kf := And.intro v4 (And.intro v5 (And.intro v6 v7)); exact KPE)), (by rw [HD.out.2]; exact hIw8.keep (by have kf := And.intro v4 (And.intro v5 (And.intro v6 v7)); exact KPE))⟩, EX⟩
theorem Z4v (s1 s2 : Bool) (A1 A2 : Option Addr) (n1 c1 n2 c2 : Nat) (x y : Int) (w : World) (h1 : IAt w s1 A1 n1 c1 x) (h2 : IAt w s2 A2 n2 c2 y) (hs1 : n1 + 4 < Z8) (hs2 : n2 + 4 < Z8) (hy : y < 0) :
  Ca 103 #[.agg #[.bool s1, .slice A1 n1 c1], .agg #[.bool s2, .slice A2 n2 c2]] w (Z0G w (Rat.divInt x y)) := by
 have hy1 : y ≠ 1 := by omega
 have hI1 := zH (fun W (k : IAt W s2 A2 n2 c2 y) => ZO s2 A2 n2 c2 y W k (by omega))
 rw [decide_eq_false hy1] at hI1
 have HG := zH (fun W (k1 : IAt W s1 A1 n1 c1 x) (k2 : IAt W s2 A2 n2 c2 y) => Z2T s1 s2 A1 A2 n1 c1 n2 c2 x y W k1 k2 (by omega) (by omega))
 have HS := zH (fun W (k : IAt W s2 A2 n2 c2 y) => Z0w s2 A2 n2 c2 y W k (by omega))
 rw [Z1x hy] at HS
 have hD := Z4O (n := x) hy
 have hgy : Int.gcd x y ≤ y.natAbs := Nat.le_of_dvd (by omega) (by rw [← Int.natCast_dvd_natCast]; exact Int.dvd_trans (Int.gcd_dvd_right ..) (Int.dvd_natAbs_self ..))
 have hg0 : Int.gcd x y ≠ 0 := by rw [Ne, Int.gcd_eq_zero_iff]; omega
 obtain ⟨G, hG⟩ : ∃ G, Int.gcd x y = G := ⟨_, rfl⟩
 rw [hG] at HG hD hgy hg0
 have HD := zH hD
 have HW : Hid (wl ((G : Nat) : Int) ≤ n2) := by show _; rw [h2.wl]; exact ZG (by simp; omega)
 obtain ⟨bG, hbG⟩ : ∃ b, decide (((G : Nat) : Int) = 1) = b := ⟨_, rfl⟩
 have HN1 := zH hbG
 have hsn : s2 = true := by rw [h2.sgn]; simp; omega
 subst hsn
 have HSG := zH (Z00 (z := ((G : Nat) : Int)) (by omega))
 have hG0 : -((G : Nat) : Int) ≠ 0 := by omega
 have H1 := zH h1
 have H2 := zH h2
 clear h1 h2 hy hy1 hD hgy hG hbG
 go_enter func103, ntmps103
 go_wp2_with (
  first
  | (go_at_call 89; (with_reducible refine (hI1.out _ (H2.out.ext EX)).mono ?_); rintro e w1 ⟨rfl, hbw1⟩; (try clear hc hf); obtain ⟨hBw1, hc, hf⟩ := EC3 w1 w)
  | (go_at_call 78; (with_reducible refine (HG.out _ (H1.out.ext EX) (H2.out.ext EX)).mono ?_); rintro e w2 ⟨sw2, Aw2, nw2, cw2, rfl, hIw2, hbw2⟩; (try clear hc hf); obtain ⟨hBw2, hc, hf⟩ := EC3 w2 w; have hszw2 := hBw2.size; simp only [SA] at hszw2; have hq0w2 : w.heap.size < w2.heap.size := (by omega); have hq1w2 : w.heap.size + 1 < w2.heap.size := (by omega); have hq2w2 : w.heap.size + 1 + 1 < w2.heap.size := (by omega); have hn2 : nw2 + 4 < Z8 := (by have a := hIw2.wl; have b := HW.out; omega))
  | (go_at_call 89; (with_reducible refine (ZO sw2 Aw2 nw2 cw2 _ _ (hIw2.ext EX) (by omega)).mono ?_); rw [HN1.out]; rintro e w3 ⟨rfl, hbw3⟩; obtain ⟨hcw3, hfw3⟩ := hbw3.cells; (try simp only [SA, Nat.add_assoc, Nat.reduceAdd] at hcw3 hfw3); have l3 := (Loc.new w2 sw2 Aw2 nw2 cw2).ext hbw3; have p3 := l3.cell0; have p3' := l3.cell1)
  | (go_at_call 76; (with_reducible refine (HS.out _ (H2.out.ext EX)).mono ?_); rintro e w5 ⟨rfl, hbw5⟩; have x25 : Ext w2 w5 := EX; have y0 := (x25.cell (by simp [go_sem, hc] : w2.cell? ⟨w.heap.size, 0, none⟩ = some (.bool s1))); have y1 := (x25.cell (by simp [go_sem, hc] : w2.cell? ⟨w.heap.size, 1, none⟩ = some (.slice A1 n1 c1))); have y2 := (x25.cell (by simp [go_sem, hc] : w2.cell? ⟨w.heap.size + 1, 0, none⟩ = some (.bool true))); have y3 := (x25.cell (by simp [go_sem, hc] : w2.cell? ⟨w.heap.size + 1, 1, none⟩ = some (.slice A2 n2 c2))); have l5 : Loc w5 w2.heap.size sw2 Aw2 nw2 cw2 := (by first | exact l4.ext hbw5 | exact l3.ext hbw5); have p5 := l5.cell0; have p5' := l5.cell1)
  | (go_at_call 101; (with_reducible refine (Z68 sw2 Aw2 nw2 cw2 _ _ (hIw2.ext EX) (by omega)).mono ?_); rintro e w6 ⟨sw6, Aw6, nw6, cw6, rfl, hIw6, hbw6⟩; have l6 : Loc w6 w2.heap.size sw2 Aw2 nw2 cw2 := l5.ext hbw6; have p6 := l6.cell0; have p6' := l6.cell1; have f6 := l6.frozen; have x26 : Ext w2 w6 := x25.trans hbw6; have t0 := hbw6.cell y0; have t1 := hbw6.cell y1; have t2 := hbw6.cell y2; have t3 := hbw6.cell y3; have hn6 : nw6 + 4 < Z8 := (by have a := hIw6.wl; have b := hIw2.wl; rw [Z3w] at a; omega))
  | (go_at_call 76; (with_reducible refine (Z0w sw2 Aw2 nw2 cw2 _ _ (hIw2.ext EX) (by omega)).mono ?_); rw [HSG.out]; rintro e w4 ⟨rfl, hbw4⟩; have x24 : Ext w2 w4 := EX; have z0 := (x24.cell (by simp [go_sem, hc] : w2.cell? ⟨w.heap.size + 1, 0, none⟩ = some (.bool true))); have z1 := (x24.cell (by simp [go_sem, hc] : w2.cell? ⟨w.heap.size + 1, 1, none⟩ = some (.slice A2 n2 c2))); have l4 : Loc w4 w2.heap.size sw2 Aw2 nw2 cw2 := l3.ext hbw4; clear x24))
 all_goals have e0 : ¬ w2.heap.size = w.heap.size := (by omega)
 all_goals have e1 : ¬ w2.heap.size = w.heap.size + 1 := (by omega)
 all_goals have e2 : ¬ w2.heap.size = w.heap.size + 1 + 1 := (by omega)
 all_goals have e0' : ¬ w.heap.size = w2.heap.size := (by omega)
 all_goals have e1' : ¬ w.heap.size + 1 = w2.heap.size := (by omega)
 all_goals have e2' : ¬ w.heap.size + 1 + 1 = w2.heap.size := (by omega)
 all_goals have hr4 : zC w6 (w.heap.size + 1 + 1) 0 (.bool false) := x26.cell (by simp [go_sem, hc])
 all_goals have hr5 : zC w6 (w.heap.size + 1 + 1) 1 (.slice none 0 0) := x26.cell (by simp [go_sem, hc])
 all_goals have hr6 : zC w6 (w.heap.size + 1 + 1) 2 (.bool false) := x26.cell (by simp [go_sem, hc])
 all_goals have hr7 : zC w6 (w.heap.size + 1 + 1) 3 (.slice none 0 0) := x26.cell (by simp [go_sem, hc])
 all_goals have hfz : Fz w6 (w.heap.size + 1 + 1) := ((Fz.new _ _ _ _ (by simp only [World.size_alloc])).ext hBw2).ext x26
 all_goals go_region_held3 (fun w' => zC w' w.heap.size 0 (.bool s1) ∧ zC w' w.heap.size 1 (.slice A1 n1 c1) ∧ zC w' (w.heap.size + 1) 0 (.bool true) ∧ zC w' (w.heap.size + 1) 1 (.slice A2 n2 c2) ∧ zC w' w2.heap.size 0 (.bool sw6) ∧ zC w' w2.heap.size 1 (.slice Aw6 nw6 cw6)) (first | (exact HXC) | (simp [go_sem, t0, t1, t2, t3, p6, p6', e0, e1, e0', e1', Z6]; done) | (obtain ⟨q0, q1, q2, q3, q4, q5⟩ := ‹_ ∧ _ ∧ _ ∧ _ ∧ _ ∧ _›; simp [go_sem, q0, q1, q2, q3, q4, q5, hq0w2, hq1w2, hq2w2, e0, e1, e2, e0', e1', e2'])) (first | (go_at_call 177; (with_reducible refine (Z2S s1 sw6 A1 Aw6 n1 c1 nw6 cw6 _ _ _ (H1.out.ext EX) (hIw6.keep (by have kf := And.intro p6 p6'; exact KPE)) hs1 hn6 hG0).mono ?_); rintro e w7 ⟨sw7, Aw7, nw7, cw7, rfl, hIw7, hbw7⟩; have u4 := hbw7.cell (by simp [go_sem, hr4, e2, e2'] : World.cell? _ ⟨w.heap.size + 1 + 1, 0, none⟩ = some (.bool false)); have u5 := hbw7.cell (by simp [go_sem, hr5, e2, e2'] : World.cell? _ ⟨w.heap.size + 1 + 1, 1, none⟩ = some (.slice none 0 0)); have u6 := hbw7.cell (by simp [go_sem, hr6, e2, e2'] : World.cell? _ ⟨w.heap.size + 1 + 1, 2, none⟩ = some (.bool false)); have u7 := hbw7.cell (by simp [go_sem, hr7, e2, e2'] : World.cell? _ ⟨w.heap.size + 1 + 1, 3, none⟩ = some (.slice none 0 0))) | (go_at_call 177; (with_reducible refine (Z2S true sw6 A2 Aw6 n2 c2 nw6 cw6 _ _ _ (H2.out.ext EX) (hIw6.keep (by have kf := And.intro p6 p6'; exact KPE)) hs2 hn6 hG0).mono ?_); rintro e w8 ⟨sw8, Aw8, nw8, cw8, rfl, hIw8, hbw8⟩; have v4 := hbw8.cell u4; have v5 := hbw8.cell u5; have v6 := hbw8.cell u6; have v7 := hbw8.cell u7; have hfz8 := ((((hfz.setCell _ _).setCell _ _).drew.ext hbw7).ext hbw8).2))
 all_goals go_wp2_with fail
 all_goals refine bodyPost_ret (v := .agg #[.bool sw7, .slice Aw7 nw7 cw7, .bool sw8, .slice Aw8 nw8 cw8]) (by simp [results, results103, go_sem, Z6, v4, v5, v6, v7]) rfl ⟨_, _, _, _, _, _, _, _, rfl, ⟨(by rw [HD.out.1]; exact hIw7.keep (by have kf := And.intro v4 (And.intro v5 (And.intro v6 v7)); exact KPE)), (by rw [HD.out.2]; exact hIw8.keep (by have kf := And.intro v4 (And.intro v5 (And.intro v6 v7)); exact KPE))⟩, EX⟩
theorem Z2q (s1 s2 : Bool) (A1 A2 : Option Addr) (n1 c1 n2 c2 : Nat) (x y : Int) (w : World) (h1 : IAt w s1 A1 n1 c1 x) (h2 : IAt w s2 A2 n2 c2 y) (hs1 : n1 + 4 < Z8) (hs2 : n2 + 4 < Z8) (hy : y ≠ 0) :
  Ca 210 #[.agg #[.bool s1, .slice A1 n1 c1], .agg #[.bool s2, .slice A2 n2 c2]] w (Z0G w (Rat.divInt x y)) := by
 by_cases h1' : y = 1
 ·exact Z4r s1 s2 A1 A2 n1 c1 n2 c2 x y w h1 h2 hs1 hs2 h1'
 ·by_cases h0 : 0 < y
  ·by_cases hg : Int.gcd x y = 1
   ·exact Z3H s1 s2 A1 A2 n1 c1 n2 c2 x y w h1 h2 hs1 hs2 h0 h1' hg
   ·exact Z4q s1 s2 A1 A2 n1 c1 n2 c2 x y w h1 h2 hs1 hs2 h0 h1' hg
  ·exact Z4s s1 s2 A1 A2 n1 c1 n2 c2 x y w h1 h2 hs1 hs2 (by omega)
theorem Z03 (s1 s2 t1 t2 : Bool) (A1 A2 B1 B2 : Option Addr) (n1 c1 m1 d1 n2 c2 m2 d2 : Nat) (x y : Rat) (w : World) (h1 : QAt w s1 A1 n1 c1 t1 B1 m1 d1 x) (h2 : QAt w s2 A2 n2 c2 t2 B2 m2 d2 y) (hs : qm x + qm y + 8 < Z8) :
  Ca 134 #[.agg #[.bool s1, .slice A1 n1 c1, .bool t1, .slice B1 m1 d1], .agg #[.bool s2, .slice A2 n2 c2, .bool t2, .slice B2 m2 d2]] w (Z0G w (x * y)) := by
 have hn1 := h1.n
 have hm1 := h1.m
 have hn2 := h2.n
 have hm2 := h2.m
 have HE := zH (Z3j x y)
 have hdn := Z1n x y
 have H1 := zH h1
 have H2 := zH h2
 clear h1 h2
 go_enter func134, ntmps134
 go_wp2_with fail
 go_region_held3 (fun w' => zC w' w.heap.size 0 (.bool s1) ∧ zC w' w.heap.size 1 (.slice A1 n1 c1) ∧ zC w' w.heap.size 2 (.bool t1) ∧ zC w' w.heap.size 3 (.slice B1 m1 d1) ∧ zC w' (w.heap.size + 1) 0 (.bool s2) ∧ zC w' (w.heap.size + 1) 1 (.slice A2 n2 c2) ∧ zC w' (w.heap.size + 1) 2 (.bool t2) ∧ zC w' (w.heap.size + 1) 3 (.slice B2 m2 d2)) (first | (exact HXC) | (simp [go_sem]; done) | (exact HX8)) (first | (go_at_call 131; (with_reducible refine (Zt s1 s2 A1 A2 n1 c1 n2 c2 _ _ _ (H1.out.num.ext EX) (H2.out.num.ext EX) (by omega)).mono ?_); rintro e w4 ⟨sw4, Aw4, nw4, cw4, rfl, hIw4, hbw4⟩; have hk4 : nw4 ≤ qm x + qm y := (by have a := hIw4.wl; have b := ZD x.num y.num; have c := Z0x x; have d := Z0x y; omega); have hz4 : Fz w4 (w.heap.size + 1 + 1) := (Fz.new _ _ _ _ (by simp only [World.size_alloc])).drew.ext hbw4; have a0 : zC w4 (w.heap.size + 1 + 1) 0 (.bool false) := hbw4.cell (by simp [go_sem]); have a1 : zC w4 (w.heap.size + 1 + 1) 1 (.slice none 0 0) := hbw4.cell (by simp [go_sem]); have a2 : zC w4 (w.heap.size + 1 + 1) 2 (.bool false) := hbw4.cell (by simp [go_sem]); have a3 : zC w4 (w.heap.size + 1 + 1) 3 (.slice none 0 0) := hbw4.cell (by simp [go_sem])) | (go_at_call 131; (with_reducible refine (Zt t1 t2 B1 B2 m1 d1 m2 d2 _ _ _ (H1.out.den.ext EX) (H2.out.den.ext EX) (by omega)).mono ?_); rintro e w5 ⟨sw5, Aw5, nw5, cw5, rfl, hIw5, hbw5⟩; have hk5 : nw5 ≤ qm x + qm y := (by have a := hIw5.wl; have b := ZD (x.den : Int) y.den; have c := Z0c y; have d := Z0c x; omega)) | (go_at_call 210; (with_reducible refine (Z2q sw4 sw5 Aw4 Aw5 nw4 cw4 nw5 cw5 _ _ _ (hIw4.ext EX) hIw5 (by omega) (by omega) hdn).mono ?_); rw [← HE.out]; rintro e w6 ⟨sw6, Aw6, nw6, cw6, tw6, Bw6, mw6, dw6, rfl, hQw6, hbw6⟩; have x46 : Ext w4 w6 := (hbw5.trans hbw6); have hz6 := (hz4.ext x46).2; have b0 := x46.cell a0; have b1 := x46.cell a1; have b2 := x46.cell a2; have b3 := x46.cell a3))
 go_wp2_with fail
 refine bodyPost_ret (v := .agg #[.bool sw6, .slice Aw6 nw6 cw6, .bool tw6, .slice Bw6 mw6 dw6]) (by simp [results, results134, go_sem, Z6, b0, b1, b2, b3]) rfl ⟨_, _, _, _, _, _, _, _, rfl, hQw6.keep (by have kf := And.intro b0 (And.intro b1 (And.intro b2 b3)); exact KPE), EX⟩
theorem Z1o (s1 s2 : Bool) (A1 A2 : Option Addr) (n1 c1 n2 c2 : Nat) (x y : Int) (w : World) (h1 : IAt w s1 A1 n1 c1 x) (h2 : IAt w s2 A2 n2 c2 y) (hs1 : n1 + 4 < Z8) (hs2 : n2 + 4 < Z8) (hy : y ≠ 0) :
  Ca 103 #[.agg #[.bool s1, .slice A1 n1 c1], .agg #[.bool s2, .slice A2 n2 c2]] w (Z0G w (Rat.divInt x y)) := by
 by_cases h1' : y = 1
 ·exact Z4u s1 s2 A1 A2 n1 c1 n2 c2 x y w h1 h2 hs1 hs2 h1'
 ·by_cases h0 : 0 < y
  ·by_cases hg : Int.gcd x y = 1
   ·exact Z3I s1 s2 A1 A2 n1 c1 n2 c2 x y w h1 h2 hs1 hs2 h0 h1' hg
   ·exact Z4t s1 s2 A1 A2 n1 c1 n2 c2 x y w h1 h2 hs1 hs2 h0 h1' hg
  ·exact Z4v s1 s2 A1 A2 n1 c1 n2 c2 x y w h1 h2 hs1 hs2 (by omega)
theorem Z1L (s1 s2 t1 t2 : Bool) (A1 A2 B1 B2 : Option Addr) (n1 c1 m1 d1 n2 c2 m2 d2 : Nat) (x y : Rat) (w : World) (h1 : QAt w s1 A1 n1 c1 t1 B1 m1 d1 x) (h2 : QAt w s2 A2 n2 c2 t2 B2 m2 d2 y) (hs : qm x + qm y + 8 < Z8) :
  Ca 37 #[.agg #[.bool s1, .slice A1 n1 c1, .bool t1, .slice B1 m1 d1], .agg #[.bool s2, .slice A2 n2 c2, .bool t2, .slice B2 m2 d2]] w (Z0G w (x * y)) := by
 have hn1 := h1.n
 have hm1 := h1.m
 have hn2 := h2.n
 have hm2 := h2.m
 have HE := zH (Z3j x y)
 have hdn := Z1n x y
 have H1 := zH h1
 have H2 := zH h2
 clear h1 h2
 go_enter func37, ntmps37
 go_wp2_with fail
 go_region_held3 (fun w' => zC w' w.heap.size 0 (.bool s1) ∧ zC w' w.heap.size 1 (.slice A1 n1 c1) ∧ zC w' w.heap.size 2 (.bool t1) ∧ zC w' w.heap.size 3 (.slice B1 m1 d1) ∧ zC w' (w.heap.size + 1) 0 (.bool s2) ∧ zC w' (w.heap.size + 1) 1 (.slice A2 n2 c2) ∧ zC w' (w.heap.size + 1) 2 (.bool t2) ∧ zC w' (w.heap.size + 1) 3 (.slice B2 m2 d2)) (first | (exact HXC) | (simp [go_sem]; done) | (exact HX8)) (first | (go_at_call 91; (with_reducible refine (ZT s1 s2 A1 A2 n1 c1 n2 c2 _ _ _ (H1.out.num.ext EX) (H2.out.num.ext EX) (by omega)).mono ?_); rintro e w4 ⟨sw4, Aw4, nw4, cw4, rfl, hIw4, hbw4⟩; have hk4 : nw4 ≤ qm x + qm y := (by have a := hIw4.wl; have b := ZD x.num y.num; have c := Z0x x; have d := Z0x y; omega); have hz4 : Fz w4 (w.heap.size + 1 + 1) := (Fz.new _ _ _ _ (by simp only [World.size_alloc])).drew.ext hbw4; have a0 : zC w4 (w.heap.size + 1 + 1) 0 (.bool false) := hbw4.cell (by simp [go_sem]); have a1 : zC w4 (w.heap.size + 1 + 1) 1 (.slice none 0 0) := hbw4.cell (by simp [go_sem]); have a2 : zC w4 (w.heap.size + 1 + 1) 2 (.bool false) := hbw4.cell (by simp [go_sem]); have a3 : zC w4 (w.heap.size + 1 + 1) 3 (.slice none 0 0) := hbw4.cell (by simp [go_sem])) | (go_at_call 91; (with_reducible refine (ZT t1 t2 B1 B2 m1 d1 m2 d2 _ _ _ (H1.out.den.ext EX) (H2.out.den.ext EX) (by omega)).mono ?_); rintro e w5 ⟨sw5, Aw5, nw5, cw5, rfl, hIw5, hbw5⟩; have hk5 : nw5 ≤ qm x + qm y := (by have a := hIw5.wl; have b := ZD (x.den : Int) y.den; have c := Z0c y; have d := Z0c x; omega)) | (go_at_call 103; (with_reducible refine (Z1o sw4 sw5 Aw4 Aw5 nw4 cw4 nw5 cw5 _ _ _ (hIw4.ext EX) hIw5 (by omega) (by omega) hdn).mono ?_); rw [← HE.out]; rintro e w6 ⟨sw6, Aw6, nw6, cw6, tw6, Bw6, mw6, dw6, rfl, hQw6, hbw6⟩; have x46 : Ext w4 w6 := (hbw5.trans hbw6); have hz6 := (hz4.ext x46).2; have b0 := x46.cell a0; have b1 := x46.cell a1; have b2 := x46.cell a2; have b3 := x46.cell a3))
 go_wp2_with fail
 refine bodyPost_ret (v := .agg #[.bool sw6, .slice Aw6 nw6 cw6, .bool tw6, .slice Bw6 mw6 dw6]) (by simp [results, results37, go_sem, Z6, b0, b1, b2, b3]) rfl ⟨_, _, _, _, _, _, _, _, rfl, hQw6.keep (by have kf := And.intro b0 (And.intro b1 (And.intro b2 b3)); exact KPE), EX⟩
theorem Z5g {x y : Rat} (hx : x.den = 1) (hy : y.den = 1) : (x + y).num = x.num + y.num ∧ (((x + y).den : Nat) : Int) = 1 := by
 have e : x + y = Rat.divInt (x.num + y.num) 1 := by
  rw [Z2t, hx, hy]; simp
 rw [e]; exact Z3l _
theorem Z9n {x y : Rat} (hx : x.den = 1) (hy : y.den = 1) : ((x.num + y.num : Int) : Rat) = x + y := by
 obtain ⟨a, b⟩ := Z5g hx hy
 refine Rat.ext ?_ ?_
 ·rw [a]; rfl
 ·have : (x + y).den = 1 := by omega
  rw [this]; rfl
theorem Z0V (s1 s2 t1 t2 : Bool) (A1 A2 B1 B2 : Option Addr) (n1 c1 m1 d1 n2 c2 m2 d2 : Nat) (x y : Rat) (w : World) (h1 : QAt w s1 A1 n1 c1 t1 B1 m1 d1 x) (h2 : QAt w s2 A2 n2 c2 t2 B2 m2 d2 y) (hs : 2 * (qm x + qm y) + 8 < Z8) :
  Ca 132 #[.agg #[.bool s1, .slice A1 n1 c1, .bool t1, .slice B1 m1 d1], .agg #[.bool s2, .slice A2 n2 c2, .bool t2, .slice B2 m2 d2]] w (Z0G w (x + y)) := by
 have hn1 := h1.n
 have hm1 := h1.m
 have hn2 := h2.n
 have hm2 := h2.m
 have H1 := zH h1
 have H2 := zH h2
 have I1 := zH (fun W (k : IAt W t1 B1 m1 d1 (x.den : Int)) => ZN t1 B1 m1 d1 _ W k (by omega))
 have I2 := zH (fun W (k : IAt W t2 B2 m2 d2 (y.den : Int)) => ZN t2 B2 m2 d2 _ W k (by omega))
 by_cases hb : (x.den : Int) = 1 ∧ (y.den : Int) = 1
 ·rw [decide_eq_true hb.1] at I1
  rw [decide_eq_true hb.2] at I2
  have HE := zH (Z9n (Z15 hb.1) (Z15 hb.2))
  have HE2 := zH (Z5g (Z15 hb.1) (Z15 hb.2))
  have HB1 := zH hb.1
  clear h1 h2 hb
  go_enter func132, ntmps132
  go_wp2_with (
   first
   | (go_at_call 130; (with_reducible refine (I1.out _ (H1.out.den.ext EX)).mono ?_); rintro e w1 ⟨rfl, hbw1⟩; (try clear hc hf); obtain ⟨hBw1, hc, hf⟩ := EC3 w1 w)
   | (go_at_call 130; (with_reducible refine (I2.out _ (H2.out.den.ext EX)).mono ?_); rintro e w2 ⟨rfl, hbw2⟩; (try clear hc hf); obtain ⟨hBw2, hc, hf⟩ := EC3 w2 w)
   | (go_at_call 209; (with_reducible refine (Z0B s1 s2 A1 A2 n1 c1 n2 c2 _ _ _ (H1.out.num.ext EX) (H2.out.num.ext EX) (by omega) (by omega)).mono ?_); rintro e w3 ⟨sw3, Aw3, nw3, cw3, rfl, hIw3, hbw3⟩; (try clear hc hf); obtain ⟨hBw3, hc, hf⟩ := EC3 w3 w)
   | (go_at_call 141; (with_reducible refine (Z14 sw3 Aw3 nw3 cw3 _ _ (hIw3.ext EX)).mono ?_); rw [HE.out]; rintro e w4 ⟨sw4, Aw4, nw4, cw4, tw4, Bw4, mw4, dw4, rfl, hQw4, hbw4⟩; (try clear hc hf); obtain ⟨hBw4, hc, hf⟩ := EC3 w4 w))
  refine bodyPost_ret (v := .agg #[.bool sw4, .slice Aw4 nw4 cw4, .bool tw4, .slice Bw4 mw4 dw4]) (by simp [results, results132, go_sem, Z6, hc, hf]) rfl ⟨_, _, _, _, _, _, _, _, rfl, hQw4.keep KX, EX⟩
 ·obtain ⟨b1, hb1⟩ : ∃ b, decide ((x.den : Int) = 1) = b := ⟨_, rfl⟩
  obtain ⟨b2, hb2⟩ : ∃ b, decide ((y.den : Int) = 1) = b := ⟨_, rfl⟩
  have hbb : (b1 && b2) = false := by
   rw [← hb1, ← hb2]; simp only [Bool.and_eq_false_iff, decide_eq_false_iff_not]
   by_cases h : (x.den : Int) = 1
   ·right; exact fun k => hb ⟨h, k⟩
   ·left; exact h
  rw [hb1] at I1
  rw [hb2] at I2
  have HE := zH (Z2t x y)
  have hdn := Z1n x y
  clear h1 h2 hb hb1 hb2
  go_enter func132, ntmps132
  go_wp2_with (
   first
   | (go_at_call 130; (with_reducible refine (I1.out _ (H1.out.den.ext EX)).mono ?_); rintro e w1 ⟨rfl, hbw1⟩; (try clear hc hf); obtain ⟨hBw1, hc, hf⟩ := EC3 w1 w)
   | (go_at_call 130; (with_reducible refine (I2.out _ (H2.out.den.ext EX)).mono ?_); rintro e w2 ⟨rfl, hbw2⟩; (try clear hc hf); obtain ⟨hBw2, hc, hf⟩ := EC3 w2 w)
   | (go_at_call 209; exfalso; revert hbb; simp [*]; done)
   | ((with_reducible refine (id ?_ : Code.wp _ (Code.region 2 _ _) _ _ _)); exfalso; revert hbb; simp [*]; done))
  all_goals go_region_held3 (fun w' => zC w' w.heap.size 0 (.bool s1) ∧ zC w' w.heap.size 1 (.slice A1 n1 c1) ∧ zC w' w.heap.size 2 (.bool t1) ∧ zC w' w.heap.size 3 (.slice B1 m1 d1) ∧ zC w' (w.heap.size + 1) 0 (.bool s2) ∧ zC w' (w.heap.size + 1) 1 (.slice A2 n2 c2) ∧ zC w' (w.heap.size + 1) 2 (.bool t2) ∧ zC w' (w.heap.size + 1) 3 (.slice B2 m2 d2)) (first | (exact HXC) | (simp [go_sem, hc]; done) | (exact HX8)) (first | (go_at_call 131; (with_reducible refine (Zt s1 t2 A1 B2 n1 c1 m2 d2 _ _ _ (H1.out.num.ext EX) (H2.out.den.ext EX) (by omega)).mono ?_); rintro e w4 ⟨sw4, Aw4, nw4, cw4, rfl, hIw4, hbw4⟩; have hk4 : nw4 ≤ qm x + qm y := (by have a := hIw4.wl; have b := ZD x.num y.den; have c := Z0x x; have d := Z0c y; omega); have hz4 : Fz w4 (w.heap.size + 1 + 1) := (by first | exact ((Fz.new _ _ _ _ (by simp only [World.size_alloc])).ext hBw2).drew.ext hbw4 | exact ((Fz.new _ _ _ _ (by simp only [World.size_alloc])).ext hBw1).drew.ext hbw4); have a0 : zC w4 (w.heap.size + 1 + 1) 0 (.bool false) := hbw4.cell (by simp [go_sem, hc]); have a1 : zC w4 (w.heap.size + 1 + 1) 1 (.slice none 0 0) := hbw4.cell (by simp [go_sem, hc]); have a2 : zC w4 (w.heap.size + 1 + 1) 2 (.bool false) := hbw4.cell (by simp [go_sem, hc]); have a3 : zC w4 (w.heap.size + 1 + 1) 3 (.slice none 0 0) := hbw4.cell (by simp [go_sem, hc])) | (go_at_call 131; (with_reducible refine (Zt s2 t1 A2 B1 n2 c2 m1 d1 _ _ _ (H2.out.num.ext EX) (H1.out.den.ext EX) (by omega)).mono ?_); rintro e w5 ⟨sw5, Aw5, nw5, cw5, rfl, hIw5, hbw5⟩; have hk5 : nw5 ≤ qm x + qm y := (by have a := hIw5.wl; have b := ZD y.num x.den; have c := Z0x y; have d := Z0c x; omega)) | (go_at_call 209; (with_reducible refine (Z0B sw4 sw5 Aw4 Aw5 nw4 cw4 nw5 cw5 _ _ _ (hIw4.ext EX) hIw5 (by omega) (by omega)).mono ?_); rintro e w7 ⟨sw7, Aw7, nw7, cw7, rfl, hIw7, hbw7⟩; have hk7 : nw7 ≤ qm x + qm y + 1 := (by have a := hIw7.wl; have a1 := hIw4.wl; have a2 := hIw5.wl; have b := Z8O (x.num * (y.den : Int)) (y.num * (x.den : Int)); omega)) | (go_at_call 131; (with_reducible refine (Zt t1 t2 B1 B2 m1 d1 m2 d2 _ _ _ (H1.out.den.ext EX) (H2.out.den.ext EX) (by omega)).mono ?_); rintro e w8 ⟨sw8, Aw8, nw8, cw8, rfl, hIw8, hbw8⟩; have hk8 : nw8 ≤ qm x + qm y := (by have a := hIw8.wl; have b := ZD (x.den : Int) y.den; have c := Z0c y; have d := Z0c x; omega)) | (go_at_call 210; (with_reducible refine (Z2q sw7 sw8 Aw7 Aw8 nw7 cw7 nw8 cw8 _ _ _ (hIw7.ext EX) hIw8 (by omega) (by omega) hdn).mono ?_); rw [← HE.out]; rintro e w6 ⟨sw6, Aw6, nw6, cw6, tw6, Bw6, mw6, dw6, rfl, hQw6, hbw6⟩; have x46 : Ext w4 w6 := (((hbw5.trans hbw7).trans hbw8).trans hbw6); have hz6 := (hz4.ext x46).2; have b0 := x46.cell a0; have b1 := x46.cell a1; have b2 := x46.cell a2; have b3 := x46.cell a3))
  all_goals go_wp2_with fail
  all_goals refine bodyPost_ret (v := .agg #[.bool sw6, .slice Aw6 nw6 cw6, .bool tw6, .slice Bw6 mw6 dw6]) (by simp [results, results132, go_sem, Z6, b0, b1, b2, b3]) rfl ⟨_, _, _, _, _, _, _, _, rfl, hQw6.keep (by have kf := And.intro b0 (And.intro b1 (And.intro b2 b3)); exact KPE), EX⟩
theorem Z3Y (s1 s2 t1 t2 : Bool) (A1 A2 B1 B2 : Option Addr) (n1 c1 m1 d1 n2 c2 m2 d2 : Nat) (x y : Rat) (w : World) (h1 : QAt w s1 A1 n1 c1 t1 B1 m1 d1 x) (h2 : QAt w s2 A2 n2 c2 t2 B2 m2 d2 y) (hs : 2 * (qm x + qm y) + 8 < Z8) :
  Ca 36 #[.agg #[.bool s1, .slice A1 n1 c1, .bool t1, .slice B1 m1 d1], .agg #[.bool s2, .slice A2 n2 c2, .bool t2, .slice B2 m2 d2]] w (Z0G w (x + y)) := by
 have hn1 := h1.n
 have hm1 := h1.m
 have hn2 := h2.n
 have hm2 := h2.m
 have H1 := zH h1
 have H2 := zH h2
 have I1 := zH (fun W (k : IAt W t1 B1 m1 d1 (x.den : Int)) => ZO t1 B1 m1 d1 _ W k (by omega))
 have I2 := zH (fun W (k : IAt W t2 B2 m2 d2 (y.den : Int)) => ZO t2 B2 m2 d2 _ W k (by omega))
 by_cases hb : (x.den : Int) = 1 ∧ (y.den : Int) = 1
 ·rw [decide_eq_true hb.1] at I1
  rw [decide_eq_true hb.2] at I2
  have HE := zH (Z9n (Z15 hb.1) (Z15 hb.2))
  have HE2 := zH (Z5g (Z15 hb.1) (Z15 hb.2))
  have HB1 := zH hb.1
  clear h1 h2 hb
  go_enter func36, ntmps36
  go_wp2_with (
   first
   | (go_at_call 89; (with_reducible refine (I1.out _ (H1.out.den.ext EX)).mono ?_); rintro e w1 ⟨rfl, hbw1⟩; (try clear hc hf); obtain ⟨hBw1, hc, hf⟩ := EC3 w1 w)
   | (go_at_call 89; (with_reducible refine (I2.out _ (H2.out.den.ext EX)).mono ?_); rintro e w2 ⟨rfl, hbw2⟩; (try clear hc hf); obtain ⟨hBw2, hc, hf⟩ := EC3 w2 w))
  go_region_held3 (fun w' => zC w' w.heap.size 0 (.bool s1) ∧ zC w' w.heap.size 1 (.slice A1 n1 c1) ∧ zC w' w.heap.size 2 (.bool t1) ∧ zC w' w.heap.size 3 (.slice B1 m1 d1) ∧ zC w' (w.heap.size + 1) 0 (.bool s2) ∧ zC w' (w.heap.size + 1) 1 (.slice A2 n2 c2) ∧ zC w' (w.heap.size + 1) 2 (.bool t2) ∧ zC w' (w.heap.size + 1) 3 (.slice B2 m2 d2)) (first | (exact HXC) | (simp [go_sem, hc]; done) | (exact HX8)) ((go_at_call 102; (with_reducible refine (Z40 s1 s2 A1 A2 n1 c1 n2 c2 _ _ _ (H1.out.num.ext EX) (H2.out.num.ext EX) (by omega) (by omega)).mono ?_); rintro e w3 ⟨sw3, Aw3, nw3, cw3, rfl, hIw3, hbw3⟩; have hz3 := (((Fz.new _ _ _ _ (by simp only [World.size_alloc])).ext hBw2).drew.ext hbw3 : Fz w3 (w.heap.size + 1 + 1)).2; have a0 : zC w3 (w.heap.size + 1 + 1) 0 (.bool false) := hbw3.cell (by simp [go_sem, hc]); have a1 : zC w3 (w.heap.size + 1 + 1) 1 (.slice none 0 0) := hbw3.cell (by simp [go_sem, hc]); have a2 : zC w3 (w.heap.size + 1 + 1) 2 (.bool false) := hbw3.cell (by simp [go_sem, hc]); have a3 : zC w3 (w.heap.size + 1 + 1) 3 (.slice none 0 0) := hbw3.cell (by simp [go_sem, hc])))
  go_wp2_with fail
  refine bodyPost_ret (v := .agg #[.bool sw3, .slice Aw3 nw3 cw3, .bool t1, .slice B1 m1 d1]) (by simp [results, results36, go_sem, Z6, a0, a1, a2, a3]) rfl ⟨_, _, _, _, _, _, _, _, rfl, ⟨(by rw [HE2.out.1]; exact hIw3.keep (by have kf := And.intro a0 (And.intro a1 (And.intro a2 a3)); exact KPE)), (by rw [HE2.out.2, ← HB1.out]; exact H1.out.den.ext EX)⟩, EX⟩
 ·obtain ⟨b1, hb1⟩ : ∃ b, decide ((x.den : Int) = 1) = b := ⟨_, rfl⟩
  obtain ⟨b2, hb2⟩ : ∃ b, decide ((y.den : Int) = 1) = b := ⟨_, rfl⟩
  have hbb : (b1 && b2) = false := by
   rw [← hb1, ← hb2]; simp only [Bool.and_eq_false_iff, decide_eq_false_iff_not]
   by_cases h : (x.den : Int) = 1
   ·right; exact fun k => hb ⟨h, k⟩
   ·left; exact h
  rw [hb1] at I1
  rw [hb2] at I2
  have HE := zH (Z2t x y)
  have hdn := Z1n x y
  clear h1 h2 hb hb1 hb2
  go_enter func36, ntmps36
  go_wp2_with (
   first
   | (go_at_call 89; (with_reducible refine (I1.out _ (H1.out.den.ext EX)).mono ?_); rintro e w1 ⟨rfl, hbw1⟩; (try clear hc hf); obtain ⟨hBw1, hc, hf⟩ := EC3 w1 w)
   | (go_at_call 89; (with_reducible refine (I2.out _ (H2.out.den.ext EX)).mono ?_); rintro e w2 ⟨rfl, hbw2⟩; (try clear hc hf); obtain ⟨hBw2, hc, hf⟩ := EC3 w2 w)
   | (go_at_call 102; exfalso; revert hbb; simp [*]; done)
   | ((with_reducible refine (id ?_ : Code.wp _ (Code.region 2 _ _) _ _ _)); exfalso; revert hbb; simp [*]; done))
  all_goals go_region_held3 (fun w' => zC w' w.heap.size 0 (.bool s1) ∧ zC w' w.heap.size 1 (.slice A1 n1 c1) ∧ zC w' w.heap.size 2 (.bool t1) ∧ zC w' w.heap.size 3 (.slice B1 m1 d1) ∧ zC w' (w.heap.size + 1) 0 (.bool s2) ∧ zC w' (w.heap.size + 1) 1 (.slice A2 n2 c2) ∧ zC w' (w.heap.size + 1) 2 (.bool t2) ∧ zC w' (w.heap.size + 1) 3 (.slice B2 m2 d2)) (first | (exact HXC) | (simp [go_sem, hc]; done) | (exact HX8)) (first | (go_at_call 91; (with_reducible refine (ZT s1 t2 A1 B2 n1 c1 m2 d2 _ _ _ (H1.out.num.ext EX) (H2.out.den.ext EX) (by omega)).mono ?_); rintro e w4 ⟨sw4, Aw4, nw4, cw4, rfl, hIw4, hbw4⟩; have hk4 : nw4 ≤ qm x + qm y := (by have a := hIw4.wl; have b := ZD x.num y.den; have c := Z0x x; have d := Z0c y; omega); have hz4 : Fz w4 (w.heap.size + 1 + 1) := (by first | exact ((Fz.new _ _ _ _ (by simp only [World.size_alloc])).ext hBw2).drew.ext hbw4 | exact ((Fz.new _ _ _ _ (by simp only [World.size_alloc])).ext hBw1).drew.ext hbw4); have a0 : zC w4 (w.heap.size + 1 + 1) 0 (.bool false) := hbw4.cell (by simp [go_sem, hc]); have a1 : zC w4 (w.heap.size + 1 + 1) 1 (.slice none 0 0) := hbw4.cell (by simp [go_sem, hc]); have a2 : zC w4 (w.heap.size + 1 + 1) 2 (.bool false) := hbw4.cell (by simp [go_sem, hc]); have a3 : zC w4 (w.heap.size + 1 + 1) 3 (.slice none 0 0) := hbw4.cell (by simp [go_sem, hc])) | (go_at_call 91; (with_reducible refine (ZT s2 t1 A2 B1 n2 c2 m1 d1 _ _ _ (H2.out.num.ext EX) (H1.out.den.ext EX) (by omega)).mono ?_); rintro e w5 ⟨sw5, Aw5, nw5, cw5, rfl, hIw5, hbw5⟩; have hk5 : nw5 ≤ qm x + qm y := (by have a := hIw5.wl; have b := ZD y.num x.den; have c := Z0x y; have d := Z0c x; omega)) | (go_at_call 102; (with_reducible refine (Z40 sw4 sw5 Aw4 Aw5 nw4 cw4 nw5 cw5 _ _ _ (hIw4.ext EX) hIw5 (by omega) (by omega)).mono ?_); rintro e w7 ⟨sw7, Aw7, nw7, cw7, rfl, hIw7, hbw7⟩; have hk7 : nw7 ≤ qm x + qm y + 1 := (by have a := hIw7.wl; have a1 := hIw4.wl; have a2 := hIw5.wl; have b := Z8O (x.num * (y.den : Int)) (y.num * (x.den : Int)); omega)) | (go_at_call 91; (with_reducible refine (ZT t1 t2 B1 B2 m1 d1 m2 d2 _ _ _ (H1.out.den.ext EX) (H2.out.den.ext EX) (by omega)).mono ?_); rintro e w8 ⟨sw8, Aw8, nw8, cw8, rfl, hIw8, hbw8⟩; have hk8 : nw8 ≤ qm x + qm y := (by have a := hIw8.wl; have b := ZD (x.den : Int) y.den; have c := Z0c y; have d := Z0c x; omega)) | (go_at_call 103; (with_reducible refine (Z1o sw7 sw8 Aw7 Aw8 nw7 cw7 nw8 cw8 _ _ _ (hIw7.ext EX) hIw8 (by omega) (by omega) hdn).mono ?_); rw [← HE.out]; rintro e w6 ⟨sw6, Aw6, nw6, cw6, tw6, Bw6, mw6, dw6, rfl, hQw6, hbw6⟩; have x46 : Ext w4 w6 := (((hbw5.trans hbw7).trans hbw8).trans hbw6); have hz6 := (hz4.ext x46).2; have b0 := x46.cell a0; have b1 := x46.cell a1; have b2 := x46.cell a2; have b3 := x46.cell a3))
  all_goals go_wp2_with fail
  all_goals refine bodyPost_ret (v := .agg #[.bool sw6, .slice Aw6 nw6 cw6, .bool tw6, .slice Bw6 mw6 dw6]) (by simp [results, results36, go_sem, Z6, b0, b1, b2, b3]) rfl ⟨_, _, _, _, _, _, _, _, rfl, hQw6.keep (by have kf := And.intro b0 (And.intro b1 (And.intro b2 b3)); exact KPE), EX⟩
theorem Z1s (s1 s2 t1 t2 : Bool) (A1 A2 B1 B2 : Option Addr) (n1 c1 m1 d1 n2 c2 m2 d2 : Nat) (x y : Rat) (w : World) (h1 : QAt w s1 A1 n1 c1 t1 B1 m1 d1 x) (h2 : QAt w s2 A2 n2 c2 t2 B2 m2 d2 y) (hs : 2 * (qm x + qm y) + 8 < Z8) :
  Ca 133 #[.agg #[.bool s1, .slice A1 n1 c1, .bool t1, .slice B1 m1 d1], .agg #[.bool s2, .slice A2 n2 c2, .bool t2, .slice B2 m2 d2]] w (Z0G w (x - y)) := by
 have hn1 := h1.n
 have hm1 := h1.m
 have hn2 := h2.n
 have hm2 := h2.m
 have hq := Z22 y
 have HE := zH (Rat.sub_eq_add_neg x y).symm
 have H1 := zH h1
 have H2 := zH h2
 clear h1 h2
 go_enter func133, ntmps133
 go_wp2_with fail
 go_region_held3 (fun w' => zC w' w.heap.size 0 (.bool s1) ∧ zC w' w.heap.size 1 (.slice A1 n1 c1) ∧ zC w' w.heap.size 2 (.bool t1) ∧ zC w' w.heap.size 3 (.slice B1 m1 d1) ∧ zC w' (w.heap.size + 1) 0 (.bool s2) ∧ zC w' (w.heap.size + 1) 1 (.slice A2 n2 c2) ∧ zC w' (w.heap.size + 1) 2 (.bool t2) ∧ zC w' (w.heap.size + 1) 3 (.slice B2 m2 d2)) (first | (exact HXC) | (simp [go_sem]; done) | (exact HX8)) (first | (go_at_call 143; (with_reducible refine (Z2Q s2 A2 n2 c2 t2 B2 m2 d2 y _ (H2.out.ext EX) (by omega)).mono ?_); rintro e w4 ⟨sw4, Aw4, nw4, cw4, tw4, Bw4, mw4, dw4, rfl, hQw4, hbw4⟩; have hz4 : Fz w4 (w.heap.size + 1 + 1) := (Fz.new _ _ _ _ (by simp only [World.size_alloc])).drew.ext hbw4; have a0 : zC w4 (w.heap.size + 1 + 1) 0 (.bool false) := hbw4.cell (by simp [go_sem]); have a1 : zC w4 (w.heap.size + 1 + 1) 1 (.slice none 0 0) := hbw4.cell (by simp [go_sem]); have a2 : zC w4 (w.heap.size + 1 + 1) 2 (.bool false) := hbw4.cell (by simp [go_sem]); have a3 : zC w4 (w.heap.size + 1 + 1) 3 (.slice none 0 0) := hbw4.cell (by simp [go_sem])) | (go_at_call 132; (with_reducible refine (Z0V s1 sw4 t1 tw4 A1 Aw4 B1 Bw4 n1 c1 m1 d1 nw4 cw4 mw4 dw4 x (-y) _ (H1.out.ext EX) hQw4 (by omega)).mono ?_); rw [HE.out]; rintro e w6 ⟨sw6, Aw6, nw6, cw6, tw6, Bw6, mw6, dw6, rfl, hQw6, hbw6⟩; have hz6 := (hz4.ext hbw6).2; have b0 := hbw6.cell a0; have b1 := hbw6.cell a1; have b2 := hbw6.cell a2; have b3 := hbw6.cell a3))
 go_wp2_with fail
 refine bodyPost_ret (v := .agg #[.bool sw6, .slice Aw6 nw6 cw6, .bool tw6, .slice Bw6 mw6 dw6]) (by simp [results, results133, go_sem, Z6, b0, b1, b2, b3]) rfl ⟨_, _, _, _, _, _, _, _, rfl, hQw6.keep (by have kf := And.intro b0 (And.intro b1 (And.intro b2 b3)); exact KPE), EX⟩
theorem Z3X (s1 s2 t1 t2 : Bool) (A1 A2 B1 B2 : Option Addr) (n1 c1 m1 d1 n2 c2 m2 d2 : Nat) (x y : Rat) (w : World) (h1 : QAt w s1 A1 n1 c1 t1 B1 m1 d1 x) (h2 : QAt w s2 A2 n2 c2 t2 B2 m2 d2 y) (hs : 2 * (qm x + qm y) + 8 < Z8) :
  Ca 65 #[.agg #[.bool s1, .slice A1 n1 c1, .bool t1, .slice B1 m1 d1], .agg #[.bool s2, .slice A2 n2 c2, .bool t2, .slice B2 m2 d2]] w (Z0G w (x - y)) := by
 have hn1 := h1.n
 have hm1 := h1.m
 have hn2 := h2.n
 have hm2 := h2.m
 have hq := Z22 y
 have HE := zH (Rat.sub_eq_add_neg x y).symm
 have H1 := zH h1
 have H2 := zH h2
 clear h1 h2
 go_enter func65, ntmps65
 go_wp2_with fail
 go_region_held3 (fun w' => zC w' w.heap.size 0 (.bool s1) ∧ zC w' w.heap.size 1 (.slice A1 n1 c1) ∧ zC w' w.heap.size 2 (.bool t1) ∧ zC w' w.heap.size 3 (.slice B1 m1 d1) ∧ zC w' (w.heap.size + 1) 0 (.bool s2) ∧ zC w' (w.heap.size + 1) 1 (.slice A2 n2 c2) ∧ zC w' (w.heap.size + 1) 2 (.bool t2) ∧ zC w' (w.heap.size + 1) 3 (.slice B2 m2 d2)) (first | (exact HXC) | (simp [go_sem]; done) | (exact HX8)) (first | (go_at_call 35; (with_reducible refine (Z2R s2 A2 n2 c2 t2 B2 m2 d2 y _ (H2.out.ext EX) (by omega)).mono ?_); rintro e w4 ⟨sw4, Aw4, nw4, cw4, tw4, Bw4, mw4, dw4, rfl, hQw4, hbw4⟩; have hz4 : Fz w4 (w.heap.size + 1 + 1) := (Fz.new _ _ _ _ (by simp only [World.size_alloc])).drew.ext hbw4; have a0 : zC w4 (w.heap.size + 1 + 1) 0 (.bool false) := hbw4.cell (by simp [go_sem]); have a1 : zC w4 (w.heap.size + 1 + 1) 1 (.slice none 0 0) := hbw4.cell (by simp [go_sem]); have a2 : zC w4 (w.heap.size + 1 + 1) 2 (.bool false) := hbw4.cell (by simp [go_sem]); have a3 : zC w4 (w.heap.size + 1 + 1) 3 (.slice none 0 0) := hbw4.cell (by simp [go_sem])) | (go_at_call 36; (with_reducible refine (Z3Y s1 sw4 t1 tw4 A1 Aw4 B1 Bw4 n1 c1 m1 d1 nw4 cw4 mw4 dw4 x (-y) _ (H1.out.ext EX) hQw4 (by omega)).mono ?_); rw [HE.out]; rintro e w6 ⟨sw6, Aw6, nw6, cw6, tw6, Bw6, mw6, dw6, rfl, hQw6, hbw6⟩; have hz6 := (hz4.ext hbw6).2; have b0 := hbw6.cell a0; have b1 := hbw6.cell a1; have b2 := hbw6.cell a2; have b3 := hbw6.cell a3))
 go_wp2_with fail
 refine bodyPost_ret (v := .agg #[.bool sw6, .slice Aw6 nw6 cw6, .bool tw6, .slice Bw6 mw6 dw6]) (by simp [results, results65, go_sem, Z6, b0, b1, b2, b3]) rfl ⟨_, _, _, _, _, _, _, _, rfl, hQw6.keep (by have kf := And.intro b0 (And.intro b1 (And.intro b2 b3)); exact KPE), EX⟩
theorem Z8f (x : Rat) : Rat.divInt (x.den : Int) x.num = x⁻¹ := (Rat.inv_def x).symm
theorem Z35 (s : Bool) (A : Option Addr) (n c : Nat) (t : Bool) (B : Option Addr) (m d : Nat) (x : Rat) (w : World) (h : QAt w s A n c t B m d x) (hs : qm x + 8 < Z8) (hx : x ≠ 0) :
  Ca 211 #[.agg #[.bool s, .slice A n c, .bool t, .slice B m d]] w (Z0G w x⁻¹) := by
 have hn := h.n
 have hm := h.m
 have HE := zH (Z8f x)
 have hx0 : x.num ≠ 0 := by rwa [Ne, Rat.num_eq_zero]
 have H := zH h
 clear h
 go_enter func211, ntmps211
 go_wp2_with (go_at_call 210; (with_reducible refine (Z2q t s B A m d n c _ _ _ (H.out.den.ext EX) (H.out.num.ext EX) (by omega) (by omega) hx0).mono ?_); rw [HE.out]; rintro e w6 ⟨sw6, Aw6, nw6, cw6, tw6, Bw6, mw6, dw6, rfl, hQw6, hbw6⟩; (try clear hc hf); obtain ⟨hBw6, hc, hf⟩ := EC2 w6 w)
 refine bodyPost_ret (v := .agg #[.bool sw6, .slice Aw6 nw6 cw6, .bool tw6, .slice Bw6 mw6 dw6]) (by simp [results, results211, go_sem, Z6, hc, hf]) rfl ⟨_, _, _, _, _, _, _, _, rfl, hQw6.keep KX, EX⟩
theorem Z2C (s : Bool) (A : Option Addr) (n c : Nat) (t : Bool) (B : Option Addr) (m d : Nat) (x : Rat) (w : World) (h : QAt w s A n c t B m d x) (hs : qm x + 8 < Z8) :
  Ca 142 #[.agg #[.bool s, .slice A n c, .bool t, .slice B m d]] w (Z1F w x.floor) := by
 have hn := h.n
 have hm := h.m
 have HE := zH (Rat.floor_def x).symm
 have hx0 := Z5A x
 have H := zH h
 clear h
 go_enter func142, ntmps142
 go_wp2_with (go_at_call 213; (with_reducible refine (Z1u s t A B n c m d _ _ _ (H.out.num.ext EX) (H.out.den.ext EX) (by omega) (by omega) hx0).mono ?_); rw [HE.out]; rintro e w6 ⟨sw6, Aw6, nw6, cw6, rfl, hIw6, hbw6⟩; (try clear hc hf); obtain ⟨hBw6, hc, hf⟩ := EC2 w6 w)
 refine bodyPost_ret (v := .agg #[.bool sw6, .slice Aw6 nw6 cw6]) (by simp [results, results142, go_sem, hc, hf]) rfl ⟨_, _, _, _, rfl, IAt.keep hIw6 KP, EX⟩
theorem Z7w (s : Bool) (A : Option Addr) (n c : Nat) (t : Bool) (B : Option Addr) (m d : Nat) (x : Rat) (w : World) (h : QAt w s A n c t B m d x) (hs : qm x + 8 < Z8) :
  Ca 144 #[.agg #[.bool s, .slice A n c, .bool t, .slice B m d]] w (Z1F w x.floor) := by
 have hn := h.n
 have hm := h.m
 have HE := zH (Rat.floor_def x).symm
 have hx0 := Z5A x
 have H := zH h
 clear h
 go_enter func144, ntmps144
 go_wp2_with (go_at_call 215; (with_reducible refine (Z3Z s t A B n c m d _ _ _ (H.out.num.ext EX) (H.out.den.ext EX) (by omega) (by omega) hx0).mono ?_); rw [HE.out]; rintro e w1 ⟨sw1, Aw1, nw1, cw1, tw1, Bw1, mw1, dw1, rfl, hIw1, hJw1, hbw1⟩; (try clear hc hf); obtain ⟨hBw1, hc, hf⟩ := EC2 w1 w; have hszw1 := hBw1.size; simp only [SA] at hszw1; have hq0w1 : w.heap.size < w1.heap.size := (by omega); have hq1w1 : w.heap.size + 1 < w1.heap.size := (by omega))
 refine bodyPost_ret (v := .agg #[.bool sw1, .slice Aw1 nw1 cw1]) (by simp [results, results144, go_sem, hc, hf, Z6, hq0w1, hq1w1]) rfl ⟨_, _, _, _, rfl, IAt.keep hIw1 (by have kf := And.intro hq0w1 hq1w1; exact KPD), EX⟩
theorem Zw (z : Int) (w : World) (h0 : -9223372036854775808 ≤ z) (h1 : z ≤ 9223372036854775807) :
  Ca 27 #[.int .i64 z] w (Z0G w (z : Rat)) := by
 go_enter func27, ntmps27
 go_wp2_with (
  first
  | (go_at_call 93; (with_reducible refine (Zv z _ h0 h1).mono ?_); rintro e w1 ⟨sw1, Aw1, nw1, cw1, rfl, hIw1, hbw1⟩; (try clear hc hf); obtain ⟨hBw1, hc, hf⟩ := EC1 w1 w)
  | (go_at_call 92; (with_reducible refine (Z2F sw1 Aw1 nw1 cw1 _ _ (hIw1.ext EX)).mono ?_); rintro e w6 ⟨sw6, Aw6, nw6, cw6, tw6, Bw6, mw6, dw6, rfl, hQw6, hbw6⟩; (try clear hc hf); obtain ⟨hBw6, hc, hf⟩ := EC1 w6 w))
 refine bodyPost_ret (v := .agg #[.bool sw6, .slice Aw6 nw6 cw6, .bool tw6, .slice Bw6 mw6 dw6]) (by simp [results, results27, go_sem, Z6, hc, hf]) rfl ⟨_, _, _, _, _, _, _, _, rfl, hQw6.keep KX, EX⟩
def Z29 (w : World) (x : Rat) (e : Ending) (w' : World) : Prop := ∃ s A n c t B m d, e = .returned (.tuple #[.agg #[.bool s, .slice A n c, .bool t, .slice B m d], .int .i64 0]) ∧ QAt w' s A n c t B m d x ∧ Ext w w'
theorem Z4D {z : Int} (h : z ≠ 0) : (Z0R z == 0) = false := by
 rcases Int.lt_or_gt_of_ne h with h | h
 ·rw [Z1x h]; rfl
 ·rw [Z00 h]; rfl
theorem Z7f (x y : Rat) : x * y⁻¹ = x / y := (Rat.div_def x y).symm
theorem Z8a (x y : Rat) (hy : y ≠ 0) : Rat.divInt (x.num * y.den) (x.den * y.num) = x / y := by
 rw [Rat.div_def, Rat.inv_def, show x * Rat.divInt (y.den : Int) y.num = Rat.divInt x.num x.den * Rat.divInt (y.den : Int) y.num by rw [Rat.num_divInt_den], Rat.divInt_mul_divInt]
theorem Z4S (s1 s2 : Bool) (A1 A2 : Option Addr) (n1 c1 n2 c2 : Nat) (x y : Int) (w : World) (h1 : IAt w s1 A1 n1 c1 x) (h2 : IAt w s2 A2 n2 c2 y) (hs1 : n1 + 4 < Z8) (hs2 : n2 + 4 < Z8) (hy : y ≠ 0) :
  Ca 223 #[.agg #[.bool s1, .slice A1 n1 c1], .agg #[.bool s2, .slice A2 n2 c2]] w (Z29 w (Rat.divInt x y)) := by
 have hs1' : n1 ≤ Z8 := by omega
 have hs2' : n2 ≤ Z8 := by omega
 have hz := Z4D hy
 obtain ⟨sg, hsg⟩ : ∃ s, Z0R y = s := ⟨_, rfl⟩
 rw [hsg] at hz
 have HS := zH (fun W (k : IAt W s2 A2 n2 c2 y) => Z11 s2 A2 n2 c2 y W k hs2')
 rw [hsg] at HS
 have H1 := zH h1
 have H2 := zH h2
 clear h1 h2 hsg
 go_enter func223, ntmps223
 go_wp2_with (
  first
  | (go_at_call 125; (with_reducible refine (Z0p s1 A1 n1 c1 x _ (H1.out.ext EX) hs1').mono ?_); rintro e w1 ⟨rfl, hbw1⟩; (try clear hc hf); obtain ⟨hBw1, hc, hf⟩ := EC3 w1 w)
  | (go_at_call 125; (with_reducible refine (Z0p s2 A2 n2 c2 y _ (H2.out.ext EX) hs2').mono ?_); rintro e w2 ⟨rfl, hbw2⟩; (try clear hc hf); obtain ⟨hBw2, hc, hf⟩ := EC3 w2 w)
  | (go_at_call 126; (with_reducible refine (HS.out _ (H2.out.ext EX)).mono ?_); rintro e w3 ⟨rfl, hbw3⟩; (try clear hc hf); obtain ⟨hBw3, hc, hf⟩ := EC3 w3 w)
  | (go_at_call 210; (with_reducible refine (Z2q s1 s2 A1 A2 n1 c1 n2 c2 x y _ (H1.out.ext EX) (H2.out.ext EX) hs1 hs2 hy).mono ?_); rintro e w6 ⟨sw6, Aw6, nw6, cw6, tw6, Bw6, mw6, dw6, rfl, hQw6, hbw6⟩; (try clear hc hf); obtain ⟨hBw6, hc, hf⟩ := EC3 w6 w))
 refine bodyPost_ret (v := .tuple #[.agg #[.bool sw6, .slice Aw6 nw6 cw6, .bool tw6, .slice Bw6 mw6 dw6], .int .i64 0]) (by simp [results, results223, go_sem, Z6, hc, hf]) rfl ⟨_, _, _, _, _, _, _, _, rfl, hQw6.keep KX, EX⟩
theorem Z8v (s1 s2 : Bool) (A1 A2 : Option Addr) (n1 c1 n2 c2 : Nat) (x y : Int) (w : World) (h1 : IAt w s1 A1 n1 c1 x) (h2 : IAt w s2 A2 n2 c2 y) (hs1 : n1 + 4 < Z8) (hs2 : n2 + 4 < Z8) (hy : y ≠ 0) :
  Ca 191 #[.agg #[.bool s1, .slice A1 n1 c1], .agg #[.bool s2, .slice A2 n2 c2]] w (Z29 w (Rat.divInt x y)) := by
 have hs1' : n1 ≤ Z8 := by omega
 have hs2' : n2 ≤ Z8 := by omega
 have hz := Z4D hy
 obtain ⟨sg, hsg⟩ : ∃ s, Z0R y = s := ⟨_, rfl⟩
 rw [hsg] at hz
 have HS := zH (fun W (k : IAt W s2 A2 n2 c2 y) => Z0w s2 A2 n2 c2 y W k hs2')
 rw [hsg] at HS
 have H1 := zH h1
 have H2 := zH h2
 clear h1 h2 hsg
 go_enter func191, ntmps191
 go_wp2_with (
  first
  | (go_at_call 75; (with_reducible refine (Zf s1 A1 n1 c1 x _ (H1.out.ext EX) hs1').mono ?_); rintro e w1 ⟨rfl, hbw1⟩; (try clear hc hf); obtain ⟨hBw1, hc, hf⟩ := EC3 w1 w)
  | (go_at_call 75; (with_reducible refine (Zf s2 A2 n2 c2 y _ (H2.out.ext EX) hs2').mono ?_); rintro e w2 ⟨rfl, hbw2⟩; (try clear hc hf); obtain ⟨hBw2, hc, hf⟩ := EC3 w2 w)
  | (go_at_call 76; (with_reducible refine (HS.out _ (H2.out.ext EX)).mono ?_); rintro e w3 ⟨rfl, hbw3⟩; (try clear hc hf); obtain ⟨hBw3, hc, hf⟩ := EC3 w3 w)
  | (go_at_call 103; (with_reducible refine (Z1o s1 s2 A1 A2 n1 c1 n2 c2 x y _ (H1.out.ext EX) (H2.out.ext EX) hs1 hs2 hy).mono ?_); rintro e w6 ⟨sw6, Aw6, nw6, cw6, tw6, Bw6, mw6, dw6, rfl, hQw6, hbw6⟩; (try clear hc hf); obtain ⟨hBw6, hc, hf⟩ := EC3 w6 w))
 refine bodyPost_ret (v := .tuple #[.agg #[.bool sw6, .slice Aw6 nw6 cw6, .bool tw6, .slice Bw6 mw6 dw6], .int .i64 0]) (by simp [results, results191, go_sem, Z6, hc, hf]) rfl ⟨_, _, _, _, _, _, _, _, rfl, hQw6.keep KX, EX⟩
theorem Z0T (s1 s2 t1 t2 : Bool) (A1 A2 B1 B2 : Option Addr) (n1 c1 m1 d1 n2 c2 m2 d2 : Nat) (x y : Rat) (w : World) (h1 : QAt w s1 A1 n1 c1 t1 B1 m1 d1 x) (h2 : QAt w s2 A2 n2 c2 t2 B2 m2 d2 y) (hs : qm x + qm y + 8 < Z8) (hy : y ≠ 0) :
  Ca 137 #[.agg #[.bool s1, .slice A1 n1 c1, .bool t1, .slice B1 m1 d1], .agg #[.bool s2, .slice A2 n2 c2, .bool t2, .slice B2 m2 d2]] w (Z29 w (x / y)) := by
 have hn1 := h1.n
 have hm1 := h1.m
 have hn2 := h2.n
 have hm2 := h2.m
 have hy0 : y.num ≠ 0 := by rwa [Ne, Rat.num_eq_zero]
 have hz := Z4D hy0
 obtain ⟨sg, hsg⟩ : ∃ s, Z0R y.num = s := ⟨_, rfl⟩
 rw [hsg] at hz
 have HS := zH (fun W (k : QAt W s2 A2 n2 c2 t2 B2 m2 d2 y) => Zy s2 A2 n2 c2 t2 B2 m2 d2 y W k (by omega))
 rw [hsg] at HS
 have H1 := zH h1
 have H2 := zH h2
 have hq := Z8S y hy
 have HE := zH (Z7f x y)
 clear h1 h2 hsg hy0
 go_enter func137, ntmps137
 go_wp2_with (go_at_call 84; (with_reducible refine (HS.out _ (H2.out.ext EX)).mono ?_); rintro e w3 ⟨rfl, hbw3⟩; (try clear hc hf); obtain ⟨hBw3, hc, hf⟩ := EC3 w3 w)
 go_region_held3 (fun w' => zC w' w.heap.size 0 (.bool s1) ∧ zC w' w.heap.size 1 (.slice A1 n1 c1) ∧ zC w' w.heap.size 2 (.bool t1) ∧ zC w' w.heap.size 3 (.slice B1 m1 d1) ∧ zC w' (w.heap.size + 1) 0 (.bool s2) ∧ zC w' (w.heap.size + 1) 1 (.slice A2 n2 c2) ∧ zC w' (w.heap.size + 1) 2 (.bool t2) ∧ zC w' (w.heap.size + 1) 3 (.slice B2 m2 d2)) (first | (exact HXC) | (simp [go_sem, hc]; done) | (exact HX8)) (first | (go_at_call 211; (with_reducible refine (Z35 s2 A2 n2 c2 t2 B2 m2 d2 y _ (H2.out.ext EX) (by omega) hy).mono ?_); rintro e w4 ⟨sw4, Aw4, nw4, cw4, tw4, Bw4, mw4, dw4, rfl, hQw4, hbw4⟩; have hz4 : Fz w4 (w.heap.size + 1 + 1) := ((Fz.new _ _ _ _ (by simp only [World.size_alloc])).ext hBw3).drew.ext hbw4; have a0 : zC w4 (w.heap.size + 1 + 1) 0 (.bool false) := hbw4.cell (by simp [go_sem, hc]); have a1 : zC w4 (w.heap.size + 1 + 1) 1 (.slice none 0 0) := hbw4.cell (by simp [go_sem, hc]); have a2 : zC w4 (w.heap.size + 1 + 1) 2 (.bool false) := hbw4.cell (by simp [go_sem, hc]); have a3 : zC w4 (w.heap.size + 1 + 1) 3 (.slice none 0 0) := hbw4.cell (by simp [go_sem, hc])) | (go_at_call 134; (with_reducible refine (Z03 s1 sw4 t1 tw4 A1 Aw4 B1 Bw4 n1 c1 m1 d1 nw4 cw4 mw4 dw4 x y⁻¹ _ (H1.out.ext EX) hQw4 (by omega)).mono ?_); rw [HE.out]; rintro e w6 ⟨sw6, Aw6, nw6, cw6, tw6, Bw6, mw6, dw6, rfl, hQw6, hbw6⟩; have hz6 := (hz4.ext hbw6).2; have b0 := hbw6.cell a0; have b1 := hbw6.cell a1; have b2 := hbw6.cell a2; have b3 := hbw6.cell a3))
 go_wp2_with fail
 refine bodyPost_ret (v := .tuple #[.agg #[.bool sw6, .slice Aw6 nw6 cw6, .bool tw6, .slice Bw6 mw6 dw6], .int .i64 0]) (by simp [results, results137, go_sem, Z6, b0, b1, b2, b3]) rfl ⟨_, _, _, _, _, _, _, _, rfl, hQw6.keep (by have kf := And.intro b0 (And.intro b1 (And.intro b2 b3)); exact KPE), EX⟩
theorem Z9L (s1 s2 t1 t2 : Bool) (A1 A2 B1 B2 : Option Addr) (n1 c1 m1 d1 n2 c2 m2 d2 : Nat) (x y : Rat) (w : World) (h1 : QAt w s1 A1 n1 c1 t1 B1 m1 d1 x) (h2 : QAt w s2 A2 n2 c2 t2 B2 m2 d2 y) (hs : qm x + qm y + 8 < Z8) (hy : y ≠ 0) :
  Ca 138 #[.agg #[.bool s1, .slice A1 n1 c1, .bool t1, .slice B1 m1 d1], .agg #[.bool s2, .slice A2 n2 c2, .bool t2, .slice B2 m2 d2]] w (Z29 w (x / y)) := by
 have hn1 := h1.n
 have hm1 := h1.m
 have hn2 := h2.n
 have hm2 := h2.m
 have hy0 : y.num ≠ 0 := by rwa [Ne, Rat.num_eq_zero]
 have hz := Z4D hy0
 obtain ⟨sg, hsg⟩ : ∃ s, Z0R y.num = s := ⟨_, rfl⟩
 rw [hsg] at hz
 have HS := zH (fun W (k : QAt W s2 A2 n2 c2 t2 B2 m2 d2 y) => Z1p s2 A2 n2 c2 t2 B2 m2 d2 y W k (by omega))
 rw [hsg] at HS
 have H1 := zH h1
 have H2 := zH h2
 have HE := zH (Z8a x y hy)
 have hdn : (x.den : Int) * y.num ≠ 0 := Int.mul_ne_zero (Z5A x) hy0
 clear h1 h2 hsg hy0
 go_enter func138, ntmps138
 go_wp2_with (go_at_call 28; (with_reducible refine (HS.out _ (H2.out.ext EX)).mono ?_); rintro e w3 ⟨rfl, hbw3⟩; (try clear hc hf); obtain ⟨hBw3, hc, hf⟩ := EC3 w3 w)
 go_region_held3 (fun w' => zC w' w.heap.size 0 (.bool s1) ∧ zC w' w.heap.size 1 (.slice A1 n1 c1) ∧ zC w' w.heap.size 2 (.bool t1) ∧ zC w' w.heap.size 3 (.slice B1 m1 d1) ∧ zC w' (w.heap.size + 1) 0 (.bool s2) ∧ zC w' (w.heap.size + 1) 1 (.slice A2 n2 c2) ∧ zC w' (w.heap.size + 1) 2 (.bool t2) ∧ zC w' (w.heap.size + 1) 3 (.slice B2 m2 d2)) (first | (exact HXC) | (simp [go_sem, hc]; done) | (exact HX8)) (first | (go_at_call 91; (with_reducible refine (ZT s1 t2 A1 B2 n1 c1 m2 d2 _ _ _ (H1.out.num.ext EX) (H2.out.den.ext EX) (by omega)).mono ?_); rintro e w4 ⟨sw4, Aw4, nw4, cw4, rfl, hIw4, hbw4⟩; have hk4 : nw4 ≤ qm x + qm y := (by have a := hIw4.wl; have b := ZD x.num y.den; have c := Z0x x; have d := Z0c y; omega); have hz4 : Fz w4 (w.heap.size + 1 + 1) := ((Fz.new _ _ _ _ (by simp only [World.size_alloc])).ext hBw3).drew.ext hbw4; have a0 : zC w4 (w.heap.size + 1 + 1) 0 (.bool false) := hbw4.cell (by simp [go_sem, hc]); have a1 : zC w4 (w.heap.size + 1 + 1) 1 (.slice none 0 0) := hbw4.cell (by simp [go_sem, hc]); have a2 : zC w4 (w.heap.size + 1 + 1) 2 (.bool false) := hbw4.cell (by simp [go_sem, hc]); have a3 : zC w4 (w.heap.size + 1 + 1) 3 (.slice none 0 0) := hbw4.cell (by simp [go_sem, hc])) | (go_at_call 91; (with_reducible refine (ZT t1 s2 B1 A2 m1 d1 n2 c2 _ _ _ (H1.out.den.ext EX) (H2.out.num.ext EX) (by omega)).mono ?_); rintro e w5 ⟨sw5, Aw5, nw5, cw5, rfl, hIw5, hbw5⟩; have hk5 : nw5 ≤ qm x + qm y := (by have a := hIw5.wl; have b := ZD (x.den : Int) y.num; have c := Z0x y; have d := Z0c x; omega)) | (go_at_call 103; (with_reducible refine (Z1o sw4 sw5 Aw4 Aw5 nw4 cw4 nw5 cw5 _ _ _ (hIw4.ext EX) hIw5 (by omega) (by omega) hdn).mono ?_); rw [HE.out]; rintro e w6 ⟨sw6, Aw6, nw6, cw6, tw6, Bw6, mw6, dw6, rfl, hQw6, hbw6⟩; have x46 : Ext w4 w6 := (hbw5.trans hbw6); have hz6 := (hz4.ext x46).2; have b0 := x46.cell a0; have b1 := x46.cell a1; have b2 := x46.cell a2; have b3 := x46.cell a3))
 go_wp2_with fail
 refine bodyPost_ret (v := .tuple #[.agg #[.bool sw6, .slice Aw6 nw6 cw6, .bool tw6, .slice Bw6 mw6 dw6], .int .i64 0]) (by simp [results, results138, go_sem, Z6, b0, b1, b2, b3]) rfl ⟨_, _, _, _, _, _, _, _, rfl, hQw6.keep (by have kf := And.intro b0 (And.intro b1 (And.intro b2 b3)); exact KPE), EX⟩
theorem Z67 (s1 s2 t1 t2 : Bool) (A1 A2 B1 B2 : Option Addr) (n1 c1 m1 d1 n2 c2 m2 d2 : Nat) (x y : Rat) (w : World) (h1 : QAt w s1 A1 n1 c1 t1 B1 m1 d1 x) (h2 : QAt w s2 A2 n2 c2 t2 B2 m2 d2 y) (hs : qm x + qm y + 8 < Z8) (hy : y ≠ 0) :
  Ca 71 #[.agg #[.bool s1, .slice A1 n1 c1, .bool t1, .slice B1 m1 d1], .agg #[.bool s2, .slice A2 n2 c2, .bool t2, .slice B2 m2 d2]] w (Z0G w (x / y)) := by
 have H1 := zH h1
 have H2 := zH h2
 clear h1 h2
 go_enter func71, ntmps71
 go_wp2_with (go_at_call 138; (with_reducible refine (Z9L s1 s2 t1 t2 A1 A2 B1 B2 n1 c1 m1 d1 n2 c2 m2 d2 x y _ (H1.out.ext EX) (H2.out.ext EX) hs hy).mono ?_); rintro e w6 ⟨sw6, Aw6, nw6, cw6, tw6, Bw6, mw6, dw6, rfl, hQw6, hbw6⟩; (try clear hc hf); obtain ⟨hBw6, hc, hf⟩ := EC3 w6 w; have hszw6 := hBw6.size; simp only [SA] at hszw6; have hq0w6 : w.heap.size < w6.heap.size := (by omega); have hq1w6 : w.heap.size + 1 < w6.heap.size := (by omega); have hq2w6 : w.heap.size + 1 + 1 < w6.heap.size := (by omega))
 refine bodyPost_ret (v := .agg #[.bool sw6, .slice Aw6 nw6 cw6, .bool tw6, .slice Bw6 mw6 dw6]) (by simp [results, results71, go_sem, Z6, hc, hf, hq0w6, hq1w6, hq2w6]) rfl ⟨_, _, _, _, _, _, _, _, rfl, hQw6.keep (by have kf := And.intro hq0w6 (And.intro hq1w6 hq2w6); exact KPD), EX⟩
theorem Zo {z : Int} (h0 : -9223372036854775808 ≤ z) (h1 : z ≤ 9223372036854775807) : wl z ≤ 2 := Z0K (Nat.lt_of_le_of_lt (show z.natAbs ≤ 9223372036854775808 by omega) (by decide))
theorem ZaI (n d : Int) (w : World) (h0 : -9223372036854775808 ≤ n) (h1 : n ≤ 9223372036854775807) (h2 : -9223372036854775808 ≤ d) (h3 : d ≤ 9223372036854775807) (hd : d ≠ 0) :
  Ca 116 #[.int .i64 n, .int .i64 d] w (Z29 w (Rat.divInt n d)) := by
 have k1 := Zo h0 h1
 have k2 := Zo h2 h3
 go_enter func116, ntmps116
 go_wp2_with (
  first
  | (go_at_call 93; (with_reducible refine (Zv n _ h0 h1).mono ?_); rintro e w1 ⟨sw1, Aw1, nw1, cw1, rfl, hIw1, hbw1⟩; (try clear hc hf); obtain ⟨hBw1, hc, hf⟩ := EC1 w1 w; have j1 : nw1 ≤ 2 := (by rw [hIw1.wl]; exact k1))
  | (go_at_call 93; (with_reducible refine (Zv d _ h2 h3).mono ?_); rintro e w2 ⟨sw2, Aw2, nw2, cw2, rfl, hIw2, hbw2⟩; (try clear hc hf); obtain ⟨hBw2, hc, hf⟩ := EC1 w2 w; have j2 : nw2 ≤ 2 := (by rw [hIw2.wl]; exact k2))
  | (go_at_call 191; (with_reducible refine (Z8v sw1 sw2 Aw1 Aw2 nw1 cw1 nw2 cw2 n d _ (hIw1.ext EX) (hIw2.ext EX) (by unfold Z8; omega) (by unfold Z8; omega) hd).mono ?_); rintro e w6 ⟨sw6, Aw6, nw6, cw6, tw6, Bw6, mw6, dw6, rfl, hQw6, hbw6⟩; (try clear hc hf); obtain ⟨hBw6, hc, hf⟩ := EC1 w6 w))
 refine bodyPost_ret (v := .tuple #[.agg #[.bool sw6, .slice Aw6 nw6 cw6, .bool tw6, .slice Bw6 mw6 dw6], .int .i64 0]) (by simp [results, results116, go_sem, Z6, hc, hf]) rfl ⟨_, _, _, _, _, _, _, _, rfl, hQw6.keep KX, EX⟩
theorem Z89 (x y : Rat) : x = y ↔ x.num = y.num ∧ (x.den : Int) = y.den := by
 constructor
 ·rintro rfl; exact ⟨rfl, rfl⟩
 ·rintro ⟨a, b⟩; exact Rat.ext a (by omega)
theorem Z4U (s1 s2 t1 t2 : Bool) (A1 A2 B1 B2 : Option Addr) (n1 c1 m1 d1 n2 c2 m2 d2 : Nat) (x y : Rat) (w : World) (h1 : QAt w s1 A1 n1 c1 t1 B1 m1 d1 x) (h2 : QAt w s2 A2 n2 c2 t2 B2 m2 d2 y) (hs : qm x + qm y + 8 < Z8) :
  Ca 60 #[.agg #[.bool s1, .slice A1 n1 c1, .bool t1, .slice B1 m1 d1], .agg #[.bool s2, .slice A2 n2 c2, .bool t2, .slice B2 m2 d2]] w fun e w' => e = .returned (.bool (decide (x = y))) ∧ Ext w w' := by
 have hn1 := h1.n
 have hm1 := h1.m
 have hn2 := h2.n
 have hm2 := h2.m
 have S1 := zH (fun W (k1 : IAt W s1 A1 n1 c1 x.num) (k2 : IAt W s2 A2 n2 c2 y.num) => Z3o s1 s2 A1 A2 n1 c1 n2 c2 _ _ W k1 k2 (by omega) (by omega))
 have S2 := zH (fun W (k1 : IAt W t1 B1 m1 d1 (x.den : Int)) (k2 : IAt W t2 B2 m2 d2 (y.den : Int)) => Z3o t1 t2 B1 B2 m1 d1 m2 d2 _ _ W k1 k2 (by omega) (by omega))
 have HE : Hid (decide (x = y) = (decide (x.num = y.num) && decide ((x.den : Int) = y.den))) := by
  show _ = _
  rw [← Bool.decide_and]; exact decide_eq_decide.2 (Z89 x y)
 obtain ⟨b1, hb1⟩ : ∃ b, decide (x.num = y.num) = b := ⟨_, rfl⟩
 obtain ⟨b2, hb2⟩ : ∃ b, decide ((x.den : Int) = y.den) = b := ⟨_, rfl⟩
 rw [hb1] at S1 HE
 rw [hb2] at S2 HE
 have H1 := zH h1
 have H2 := zH h2
 clear h1 h2 hb1 hb2
 go_enter func60, ntmps60
 go_wp2_with (
  first
  | (go_at_call 77; (with_reducible refine (S1.out _ (H1.out.num.ext EX) (H2.out.num.ext EX)).mono ?_); rintro e w1 ⟨rfl, hbw1⟩; (try clear hc hf); obtain ⟨hBw1, hc, hf⟩ := EC2 w1 w)
  | (go_at_call 77; (with_reducible refine (S2.out _ (H1.out.den.ext EX) (H2.out.den.ext EX)).mono ?_); rintro e w2 ⟨rfl, hbw2⟩; (try clear hc hf); obtain ⟨hBw2, hc, hf⟩ := EC2 w2 w))
 all_goals go_ret
 all_goals refine ⟨?_, EX⟩
 all_goals rw [HE.out]
 all_goals simp_all
def isQ (s : Bool) (l : List Nat) (t : Bool) (k : List Nat) : Bool := isC s l && isC t k && decide (0 < sgd t (val k)) && decide (Int.gcd (sgd s (val l)) (sgd t (val k)) = 1)
theorem Z9C (x : Int) : (Z47 x 1 == 0) = decide (x = 1) := by
 unfold Z47
 by_cases h : x < 1
 ·rw [if_pos h, decide_eq_false (by omega)]; rfl
 ·rw [if_neg h]
  by_cases h2 : 1 < x
  ·rw [if_pos h2, decide_eq_false (by omega)]; rfl
  ·rw [if_neg h2, decide_eq_true (by omega)]; rfl
theorem Z7T (s t : Bool) (A B : Option Addr) (n c m d : Nat) (l k : List Nat) (w : World) (h1 : WAt w A n c l) (h2 : WAt w B m d k) (hs1 : n + 4 < Z8) (hs2 : m + 4 < Z8) :
  Ca 58 #[.agg #[.bool s, .slice A n c, .bool t, .slice B m d]] w fun e w' => e = .returned (.bool (isQ s l t k)) ∧ Ext w w' := by
 have I1 := zH (fun W (k1 : WAt W A n c l) => Z5e s A n c l W k1 (by omega))
 have I2 := zH (fun W (k1 : WAt W B m d k) => Z5e t B m d k W k1 (by omega))
 have H1 := zH h1
 have H2 := zH h2
 by_cases p1 : isC s l = true
 ·by_cases p2 : isC t k = true
  ·have j1 := IAt.of_words h1 p1
   have j2 := IAt.of_words h2 p2
   rw [p1] at I1
   rw [p2] at I2
   obtain ⟨x, hx⟩ : ∃ x, sgd s (val l) = x := ⟨_, rfl⟩
   obtain ⟨y, hy⟩ : ∃ x, sgd t (val k) = x := ⟨_, rfl⟩
   have HQ : Hid (isQ s l t k = (decide (0 < y) && decide (Int.gcd x y = 1))) := by show _ = _; unfold isQ; rw [p1, p2, hx, hy]; rfl
   rw [hx] at j1
   rw [hy] at j2
   have J1 := zH j1
   have J2 := zH j2
   have HS := zH (fun W (k1 : IAt W t B m d y) => Z11 t B m d y W k1 (by omega))
   have HG := zH (fun W (k1 : IAt W s A n c x) (k2 : IAt W t B m d y) => Z2V s t A B n c m d x y W k1 k2 (by omega) (by omega))
   by_cases hy0 : 0 < y
   ·rw [Z00 hy0] at HS
    have hgy : Int.gcd x y ≤ y.natAbs := Nat.le_of_dvd (by omega) (by rw [← Int.natCast_dvd_natCast]; exact Int.dvd_trans (Int.gcd_dvd_right ..) (Int.dvd_natAbs_self ..))
    obtain ⟨G, hG⟩ : ∃ G, Int.gcd x y = G := ⟨_, rfl⟩
    rw [hG] at HG HQ hgy
    have HW : Hid (wl ((G : Nat) : Int) ≤ m) := by show _; rw [j2.wl]; exact ZG (by simp; omega)
    have hQ2 : isQ s l t k = decide (((G : Nat) : Int) = 1) := by rw [HQ.out, decide_eq_true hy0, Bool.true_and]; exact decide_eq_decide.2 (by omega)
    have HQ2 := zH hQ2
    have hcz := Z9C ((G : Nat) : Int)
    clear h1 h2 p1 p2 hx hy j1 j2 hG hgy hQ2 HQ
    go_enter func58, ntmps58
    go_wp2_with (
   first
   | (go_at_call 125; (with_reducible refine (I1.out _ (H1.out.ext EX)).mono ?_); rintro e w1 ⟨rfl, hbw1⟩; (try clear hc hf); obtain ⟨hBw1, hc, hf⟩ := EC1 w1 w)
   | (go_at_call 125; (with_reducible refine (I2.out _ (H2.out.ext EX)).mono ?_); rintro e w2 ⟨rfl, hbw2⟩; (try clear hc hf); obtain ⟨hBw2, hc, hf⟩ := EC1 w2 w)
   | (go_at_call 126; (with_reducible refine (HS.out _ (J2.out.ext EX)).mono ?_); rintro e w3 ⟨rfl, hbw3⟩; (try clear hc hf); obtain ⟨hBw3, hc, hf⟩ := EC1 w3 w)
   | (go_at_call 128; (with_reducible refine (HG.out _ (J1.out.ext EX) (J2.out.ext EX)).mono ?_); rintro e w4 ⟨sw4, Aw4, nw4, cw4, rfl, hIw4, hbw4⟩; (try clear hc hf); obtain ⟨hBw4, hc, hf⟩ := EC1 w4 w; have e4 : nw4 ≤ m := (by rw [hIw4.wl]; exact HW.out))
   | (go_at_call 129; (with_reducible refine (Z3U _).mono ?_); rintro e w5 ⟨sw5, Aw5, nw5, cw5, rfl, hIw5, hbw5⟩; (try clear hc hf); obtain ⟨hBw5, hc, hf⟩ := EC1 w5 w; have e5 : nw5 ≤ 1 := (by rw [hIw5.wl, Z1c]; exact Nat.le_refl _))
   | (go_at_call 127; (with_reducible refine (Z2e sw4 sw5 Aw4 Aw5 nw4 cw4 nw5 cw5 _ _ _ (hIw4.ext EX) (hIw5.ext EX) (by omega) (by omega)).mono ?_); rintro e w6 ⟨rfl, hbw6⟩))
    all_goals go_ret
    all_goals refine ⟨?_, EX⟩
    all_goals rw [HQ2.out]
    all_goals simp_all
   ·have hq : isQ s l t k = false := by rw [HQ.out, decide_eq_false hy0]; rfl
    have HQ2 := zH hq
    have hsg : decide (0 < Z0R y) = false := by
     rcases Int.lt_or_eq_of_le (Int.not_lt.1 hy0) with e | e
     ·rw [Z1x e]; rfl
     ·rw [Z2M e]; rfl
    obtain ⟨sg, hsgn⟩ : ∃ z, Z0R y = z := ⟨_, rfl⟩
    rw [hsgn] at HS hsg
    clear h1 h2 p1 p2 hx hy j1 j2 hq HQ hsgn
    go_enter func58, ntmps58
    go_wp2_with (
   first
   | (go_at_call 125; (with_reducible refine (I1.out _ (H1.out.ext EX)).mono ?_); rintro e w1 ⟨rfl, hbw1⟩; (try clear hc hf); obtain ⟨hBw1, hc, hf⟩ := EC1 w1 w)
   | (go_at_call 125; (with_reducible refine (I2.out _ (H2.out.ext EX)).mono ?_); rintro e w2 ⟨rfl, hbw2⟩; (try clear hc hf); obtain ⟨hBw2, hc, hf⟩ := EC1 w2 w)
   | (go_at_call 126; (with_reducible refine (HS.out _ (J2.out.ext EX)).mono ?_); rintro e w3 ⟨rfl, hbw3⟩; (try clear hc hf); obtain ⟨hBw3, hc, hf⟩ := EC1 w3 w))
    all_goals go_ret
    all_goals refine ⟨?_, EX⟩
    all_goals rw [HQ2.out]
    all_goals simp_all
  ·have p2' : isC t k = false := by simpa using p2
   have HQ2 : Hid (isQ s l t k = false) := by show _ = _; unfold isQ; rw [p1, p2']; rfl
   rw [p1] at I1
   rw [p2'] at I2
   clear h1 h2 p1 p2 p2'
   go_enter func58, ntmps58
   go_wp2_with (
   first
   | (go_at_call 125; (with_reducible refine (I1.out _ (H1.out.ext EX)).mono ?_); rintro e w1 ⟨rfl, hbw1⟩; (try clear hc hf); obtain ⟨hBw1, hc, hf⟩ := EC1 w1 w)
   | (go_at_call 125; (with_reducible refine (I2.out _ (H2.out.ext EX)).mono ?_); rintro e w2 ⟨rfl, hbw2⟩; (try clear hc hf); obtain ⟨hBw2, hc, hf⟩ := EC1 w2 w))
   all_goals go_ret
   all_goals exact ⟨by rw [HQ2.out]; rfl, EX⟩
 ·have p1' : isC s l = false := by simpa using p1
  have HQ2 : Hid (isQ s l t k = false) := by show _ = _; unfold isQ; rw [p1']; rfl
  rw [p1'] at I1
  clear h1 h2 p1 p1'
  go_enter func58, ntmps58
  go_wp2_with (
   first
   | (go_at_call 125; (with_reducible refine (I1.out _ (H1.out.ext EX)).mono ?_); rintro e w1 ⟨rfl, hbw1⟩; (try clear hc hf); obtain ⟨hBw1, hc, hf⟩ := EC1 w1 w)
   | (go_at_call 125; (with_reducible refine (I2.out _ (H2.out.ext EX)).mono ?_); rintro e w2 ⟨rfl, hbw2⟩; (try clear hc hf); obtain ⟨hBw2, hc, hf⟩ := EC1 w2 w))
  all_goals go_ret
  all_goals exact ⟨by rw [HQ2.out]; rfl, EX⟩
theorem Z7V (s t : Bool) (A B : Option Addr) (n c m d : Nat) (l k : List Nat) (w : World) (h1 : WAt w A n c l) (h2 : WAt w B m d k) (hs1 : n + 4 < Z8) (hs2 : m + 4 < Z8) :
  Ca 24 #[.agg #[.bool s, .slice A n c, .bool t, .slice B m d]] w fun e w' => e = .returned (.bool (isQ s l t k)) ∧ Ext w w' := by
 have I1 := zH (fun W (k1 : WAt W A n c l) => Z5d s A n c l W k1 (by omega))
 have I2 := zH (fun W (k1 : WAt W B m d k) => Z5d t B m d k W k1 (by omega))
 have H1 := zH h1
 have H2 := zH h2
 by_cases p1 : isC s l = true
 ·by_cases p2 : isC t k = true
  ·have j1 := IAt.of_words h1 p1
   have j2 := IAt.of_words h2 p2
   rw [p1] at I1
   rw [p2] at I2
   obtain ⟨x, hx⟩ : ∃ x, sgd s (val l) = x := ⟨_, rfl⟩
   obtain ⟨y, hy⟩ : ∃ x, sgd t (val k) = x := ⟨_, rfl⟩
   have HQ : Hid (isQ s l t k = (decide (0 < y) && decide (Int.gcd x y = 1))) := by show _ = _; unfold isQ; rw [p1, p2, hx, hy]; rfl
   rw [hx] at j1
   rw [hy] at j2
   have J1 := zH j1
   have J2 := zH j2
   have HS := zH (fun W (k1 : IAt W t B m d y) => Z0w t B m d y W k1 (by omega))
   have HG := zH (fun W (k1 : IAt W s A n c x) (k2 : IAt W t B m d y) => Z2T s t A B n c m d x y W k1 k2 (by omega) (by omega))
   by_cases hy0 : 0 < y
   ·rw [Z00 hy0] at HS
    have hgy : Int.gcd x y ≤ y.natAbs := Nat.le_of_dvd (by omega) (by rw [← Int.natCast_dvd_natCast]; exact Int.dvd_trans (Int.gcd_dvd_right ..) (Int.dvd_natAbs_self ..))
    obtain ⟨G, hG⟩ : ∃ G, Int.gcd x y = G := ⟨_, rfl⟩
    rw [hG] at HG HQ hgy
    have HW : Hid (wl ((G : Nat) : Int) ≤ m) := by show _; rw [j2.wl]; exact ZG (by simp; omega)
    have hQ2 : isQ s l t k = decide (((G : Nat) : Int) = 1) := by rw [HQ.out, decide_eq_true hy0, Bool.true_and]; exact decide_eq_decide.2 (by omega)
    have HQ2 := zH hQ2
    skip
    clear h1 h2 p1 p2 hx hy j1 j2 hG hgy hQ2 HQ
    go_enter func24, ntmps24
    go_wp2_with (
   first
   | (go_at_call 75; (with_reducible refine (I1.out _ (H1.out.ext EX)).mono ?_); rintro e w1 ⟨rfl, hbw1⟩; (try clear hc hf); obtain ⟨hBw1, hc, hf⟩ := EC1 w1 w)
   | (go_at_call 75; (with_reducible refine (I2.out _ (H2.out.ext EX)).mono ?_); rintro e w2 ⟨rfl, hbw2⟩; (try clear hc hf); obtain ⟨hBw2, hc, hf⟩ := EC1 w2 w)
   | (go_at_call 76; (with_reducible refine (HS.out _ (J2.out.ext EX)).mono ?_); rintro e w3 ⟨rfl, hbw3⟩; (try clear hc hf); obtain ⟨hBw3, hc, hf⟩ := EC1 w3 w)
   | (go_at_call 78; (with_reducible refine (HG.out _ (J1.out.ext EX) (J2.out.ext EX)).mono ?_); rintro e w4 ⟨sw4, Aw4, nw4, cw4, rfl, hIw4, hbw4⟩; (try clear hc hf); obtain ⟨hBw4, hc, hf⟩ := EC1 w4 w; have e4 : nw4 ≤ m := (by rw [hIw4.wl]; exact HW.out))
   | (go_at_call 79; (with_reducible refine (Z66 _).mono ?_); rintro e w5 ⟨sw5, Aw5, nw5, cw5, rfl, hIw5, hbw5⟩; (try clear hc hf); obtain ⟨hBw5, hc, hf⟩ := EC1 w5 w; have e5 : nw5 ≤ 1 := (by rw [hIw5.wl, Z1c]; exact Nat.le_refl _))
   | (go_at_call 77; (with_reducible refine (Z3o sw4 sw5 Aw4 Aw5 nw4 cw4 nw5 cw5 _ _ _ (hIw4.ext EX) (hIw5.ext EX) (by omega) (by omega)).mono ?_); rintro e w6 ⟨rfl, hbw6⟩))
    all_goals go_ret
    all_goals refine ⟨?_, EX⟩
    all_goals rw [HQ2.out]
    all_goals simp_all
   ·have hq : isQ s l t k = false := by rw [HQ.out, decide_eq_false hy0]; rfl
    have HQ2 := zH hq
    have hsg : decide (0 < Z0R y) = false := by
     rcases Int.lt_or_eq_of_le (Int.not_lt.1 hy0) with e | e
     ·rw [Z1x e]; rfl
     ·rw [Z2M e]; rfl
    obtain ⟨sg, hsgn⟩ : ∃ z, Z0R y = z := ⟨_, rfl⟩
    rw [hsgn] at HS hsg
    clear h1 h2 p1 p2 hx hy j1 j2 hq HQ hsgn
    go_enter func24, ntmps24
    go_wp2_with (
   first
   | (go_at_call 75; (with_reducible refine (I1.out _ (H1.out.ext EX)).mono ?_); rintro e w1 ⟨rfl, hbw1⟩; (try clear hc hf); obtain ⟨hBw1, hc, hf⟩ := EC1 w1 w)
   | (go_at_call 75; (with_reducible refine (I2.out _ (H2.out.ext EX)).mono ?_); rintro e w2 ⟨rfl, hbw2⟩; (try clear hc hf); obtain ⟨hBw2, hc, hf⟩ := EC1 w2 w)
   | (go_at_call 76; (with_reducible refine (HS.out _ (J2.out.ext EX)).mono ?_); rintro e w3 ⟨rfl, hbw3⟩; (try clear hc hf); obtain ⟨hBw3, hc, hf⟩ := EC1 w3 w))
    all_goals go_ret
    all_goals refine ⟨?_, EX⟩
    all_goals rw [HQ2.out]
    all_goals simp_all
  ·have p2' : isC t k = false := by simpa using p2
   have HQ2 : Hid (isQ s l t k = false) := by show _ = _; unfold isQ; rw [p1, p2']; rfl
   rw [p1] at I1
   rw [p2'] at I2
   clear h1 h2 p1 p2 p2'
   go_enter func24, ntmps24
   go_wp2_with (
   first
   | (go_at_call 75; (with_reducible refine (I1.out _ (H1.out.ext EX)).mono ?_); rintro e w1 ⟨rfl, hbw1⟩; (try clear hc hf); obtain ⟨hBw1, hc, hf⟩ := EC1 w1 w)
   | (go_at_call 75; (with_reducible refine (I2.out _ (H2.out.ext EX)).mono ?_); rintro e w2 ⟨rfl, hbw2⟩; (try clear hc hf); obtain ⟨hBw2, hc, hf⟩ := EC1 w2 w))
   all_goals go_ret
   all_goals exact ⟨by rw [HQ2.out]; rfl, EX⟩
 ·have p1' : isC s l = false := by simpa using p1
  have HQ2 : Hid (isQ s l t k = false) := by show _ = _; unfold isQ; rw [p1']; rfl
  rw [p1'] at I1
  clear h1 h2 p1 p1'
  go_enter func24, ntmps24
  go_wp2_with (
   first
   | (go_at_call 75; (with_reducible refine (I1.out _ (H1.out.ext EX)).mono ?_); rintro e w1 ⟨rfl, hbw1⟩; (try clear hc hf); obtain ⟨hBw1, hc, hf⟩ := EC1 w1 w)
   | (go_at_call 75; (with_reducible refine (I2.out _ (H2.out.ext EX)).mono ?_); rintro e w2 ⟨rfl, hbw2⟩; (try clear hc hf); obtain ⟨hBw2, hc, hf⟩ := EC1 w2 w))
  all_goals go_ret
  all_goals exact ⟨by rw [HQ2.out]; rfl, EX⟩
theorem Z1P {x y : Rat} : Z0s x y ≤ 0 ↔ x ≤ y := by
 unfold Z0s
 by_cases h : x < y
 ·rw [if_pos h]; exact ⟨fun _ => Rat.le_of_lt h, fun _ => by decide⟩
 ·rw [if_neg h]
  by_cases h2 : y < x
  ·rw [if_pos h2]; exact ⟨fun e => by omega, fun e => absurd h2 (Rat.not_lt.2 e)⟩
  ·rw [if_neg h2]; exact ⟨fun _ => Rat.not_lt.1 h2, fun _ => by decide⟩
theorem Z6T {x y : Rat} : 0 ≤ Z0s x y ↔ y ≤ x := by
 unfold Z0s
 by_cases h : x < y
 ·rw [if_pos h]; exact ⟨fun e => by omega, fun e => absurd h (Rat.not_lt.2 e)⟩
 ·rw [if_neg h]
  by_cases h2 : y < x
  ·rw [if_pos h2]; exact ⟨fun _ => Rat.le_of_lt h2, fun _ => by decide⟩
  ·rw [if_neg h2]; exact ⟨fun _ => Rat.not_lt.1 h, fun _ => by decide⟩
def Z0q (x y : Rat) : Rat := if x ≤ y then x else y
def Z0h (x y : Rat) : Rat := if y ≤ x then x else y
theorem Z2D (s1 s2 t1 t2 : Bool) (A1 A2 B1 B2 : Option Addr) (n1 c1 m1 d1 n2 c2 m2 d2 : Nat) (x y : Rat) (w : World) (h1 : QAt w s1 A1 n1 c1 t1 B1 m1 d1 x) (h2 : QAt w s2 A2 n2 c2 t2 B2 m2 d2 y) (hs : qm x + qm y + 8 < Z8) :
  Ca 67 #[.agg #[.bool s1, .slice A1 n1 c1, .bool t1, .slice B1 m1 d1], .agg #[.bool s2, .slice A2 n2 c2, .bool t2, .slice B2 m2 d2]] w (Z0G w (Z0q x y)) := by
 have HC := zH (fun W (k1 : QAt W s1 A1 n1 c1 t1 B1 m1 d1 x) (k2 : QAt W s2 A2 n2 c2 t2 B2 m2 d2 y) => Z1M s1 s2 t1 t2 A1 A2 B1 B2 n1 c1 m1 d1 n2 c2 m2 d2 x y W k1 k2 hs)
 have H1 := zH h1
 have H2 := zH h2
 by_cases h : x ≤ y
 ·skip
  have ht : decide (Z0s x y ≤ 0) = true := by rw [decide_eq_true (Z1P.2 h)]
  obtain ⟨cc, hcc⟩ : ∃ z, Z0s x y = z := ⟨_, rfl⟩
  rw [hcc] at HC ht
  have HE : Hid (Z0q x y = x) := by show _ = _; unfold Z0q; rw [if_pos h]
  clear h1 h2 h hcc
  go_enter func67, ntmps67
  go_wp2_with (go_at_call 26; (with_reducible refine (HC.out _ (H1.out.ext EX) (H2.out.ext EX)).mono ?_); rintro e w1 ⟨rfl, hbw1⟩; (try clear hc hf); obtain ⟨hBw1, hc, hf⟩ := EC3 w1 w)
  refine bodyPost_ret (v := .agg #[.bool s1, .slice A1 n1 c1, .bool t1, .slice B1 m1 d1]) (by simp [results, results67, go_sem, Z6, hc, hf]) rfl ⟨_, _, _, _, _, _, _, _, rfl, (by rw [HE.out]; exact H1.out.ext EX), EX⟩
 ·skip
  have ht : decide (Z0s x y ≤ 0) = false := by rw [decide_eq_false (fun e => h (Z1P.1 e))]
  obtain ⟨cc, hcc⟩ : ∃ z, Z0s x y = z := ⟨_, rfl⟩
  rw [hcc] at HC ht
  have HE : Hid (Z0q x y = y) := by show _ = _; unfold Z0q; rw [if_neg h]
  clear h1 h2 h hcc
  go_enter func67, ntmps67
  go_wp2_with (go_at_call 26; (with_reducible refine (HC.out _ (H1.out.ext EX) (H2.out.ext EX)).mono ?_); rintro e w1 ⟨rfl, hbw1⟩; (try clear hc hf); obtain ⟨hBw1, hc, hf⟩ := EC3 w1 w)
  refine bodyPost_ret (v := .agg #[.bool s2, .slice A2 n2 c2, .bool t2, .slice B2 m2 d2]) (by simp [results, results67, go_sem, Z6, hc, hf]) rfl ⟨_, _, _, _, _, _, _, _, rfl, (by rw [HE.out]; exact H2.out.ext EX), EX⟩
theorem Z3n (s1 s2 t1 t2 : Bool) (A1 A2 B1 B2 : Option Addr) (n1 c1 m1 d1 n2 c2 m2 d2 : Nat) (x y : Rat) (w : World) (h1 : QAt w s1 A1 n1 c1 t1 B1 m1 d1 x) (h2 : QAt w s2 A2 n2 c2 t2 B2 m2 d2 y) (hs : qm x + qm y + 8 < Z8) :
  Ca 68 #[.agg #[.bool s1, .slice A1 n1 c1, .bool t1, .slice B1 m1 d1], .agg #[.bool s2, .slice A2 n2 c2, .bool t2, .slice B2 m2 d2]] w (Z0G w (Z0h x y)) := by
 have HC := zH (fun W (k1 : QAt W s1 A1 n1 c1 t1 B1 m1 d1 x) (k2 : QAt W s2 A2 n2 c2 t2 B2 m2 d2 y) => Z1M s1 s2 t1 t2 A1 A2 B1 B2 n1 c1 m1 d1 n2 c2 m2 d2 x y W k1 k2 hs)
 have H1 := zH h1
 have H2 := zH h2
 by_cases h : y ≤ x
 ·skip
  have ht : decide (0 ≤ Z0s x y) = true := by rw [decide_eq_true (Z6T.2 h)]
  obtain ⟨cc, hcc⟩ : ∃ z, Z0s x y = z := ⟨_, rfl⟩
  rw [hcc] at HC ht
  have HE : Hid (Z0h x y = x) := by show _ = _; unfold Z0h; rw [if_pos h]
  clear h1 h2 h hcc
  go_enter func68, ntmps68
  go_wp2_with (go_at_call 26; (with_reducible refine (HC.out _ (H1.out.ext EX) (H2.out.ext EX)).mono ?_); rintro e w1 ⟨rfl, hbw1⟩; (try clear hc hf); obtain ⟨hBw1, hc, hf⟩ := EC3 w1 w)
  refine bodyPost_ret (v := .agg #[.bool s1, .slice A1 n1 c1, .bool t1, .slice B1 m1 d1]) (by simp [results, results68, go_sem, Z6, hc, hf]) rfl ⟨_, _, _, _, _, _, _, _, rfl, (by rw [HE.out]; exact H1.out.ext EX), EX⟩
 ·skip
  have ht : decide (0 ≤ Z0s x y) = false := by rw [decide_eq_false (fun e => h (Z6T.1 e))]
  obtain ⟨cc, hcc⟩ : ∃ z, Z0s x y = z := ⟨_, rfl⟩
  rw [hcc] at HC ht
  have HE : Hid (Z0h x y = y) := by show _ = _; unfold Z0h; rw [if_neg h]
  clear h1 h2 h hcc
  go_enter func68, ntmps68
  go_wp2_with (go_at_call 26; (with_reducible refine (HC.out _ (H1.out.ext EX) (H2.out.ext EX)).mono ?_); rintro e w1 ⟨rfl, hbw1⟩; (try clear hc hf); obtain ⟨hBw1, hc, hf⟩ := EC3 w1 w)
  refine bodyPost_ret (v := .agg #[.bool s2, .slice A2 n2 c2, .bool t2, .slice B2 m2 d2]) (by simp [results, results68, go_sem, Z6, hc, hf]) rfl ⟨_, _, _, _, _, _, _, _, rfl, (by rw [HE.out]; exact H2.out.ext EX), EX⟩
structure QC where
 s : Bool
 A : Option Addr
 n : Nat
 c : Nat
 t : Bool
 B : Option Addr
 m : Nat
 d : Nat
abbrev QC.At (q : QC) (w : World) (x : Rat) : Prop := QAt w q.s q.A q.n q.c q.t q.B q.m q.d x
def Z0e (w : World) (x y : Rat) (e : Ending) (w' : World) : Prop := ∃ p q : QC, e = .returned (.agg #[.bool p.s, .slice p.A p.n p.c, .bool p.t, .slice p.B p.m p.d, .bool q.s, .slice q.A q.n q.c, .bool q.t, .slice q.B q.m q.d]) ∧ p.At w' x ∧ q.At w' y ∧ Ext w w'
theorem Z9H (a b c d : QC) (x y u v : Rat) (w : World) (ha : a.At w x) (hb : b.At w y) (hc0 : c.At w u) (hd : d.At w v) (hs : 2 * (qm x + qm y + qm u + qm v) + 8 < Z8) :
  Ca 14 #[.agg #[.bool a.s, .slice a.A a.n a.c, .bool a.t, .slice a.B a.m a.d, .bool b.s, .slice b.A b.n b.c, .bool b.t, .slice b.B b.m b.d], .agg #[.bool c.s, .slice c.A c.n c.c, .bool c.t, .slice c.B c.m c.d, .bool d.s, .slice d.A d.n d.c, .bool d.t, .slice d.B d.m d.d]] w (Z0e w (x + u) (y + v)) := by
 have HA := zH ha
 have HB := zH hb
 have HC := zH hc0
 have HD := zH hd
 clear ha hb hc0 hd
 go_enter func14, ntmps14
 go_wp2_with fail
 go_region_held3 (fun w' => zC w' w.heap.size 0 (.bool a.s) ∧ zC w' w.heap.size 1 (.slice a.A a.n a.c) ∧ zC w' w.heap.size 2 (.bool a.t) ∧ zC w' w.heap.size 3 (.slice a.B a.m a.d) ∧ zC w' w.heap.size 4 (.bool b.s) ∧ zC w' w.heap.size 5 (.slice b.A b.n b.c) ∧ zC w' w.heap.size 6 (.bool b.t) ∧ zC w' w.heap.size 7 (.slice b.B b.m b.d) ∧ zC w' (w.heap.size + 1) 0 (.bool c.s) ∧ zC w' (w.heap.size + 1) 1 (.slice c.A c.n c.c) ∧ zC w' (w.heap.size + 1) 2 (.bool c.t) ∧ zC w' (w.heap.size + 1) 3 (.slice c.B c.m c.d) ∧ zC w' (w.heap.size + 1) 4 (.bool d.s) ∧ zC w' (w.heap.size + 1) 5 (.slice d.A d.n d.c) ∧ zC w' (w.heap.size + 1) 6 (.bool d.t) ∧ zC w' (w.heap.size + 1) 7 (.slice d.B d.m d.d)) (first | (exact HXC) | (simp [go_sem]; done) | (exact Zac)) (first | (go_at_call 36; (with_reducible refine (Z3Y a.s c.s a.t c.t a.A c.A a.B c.B a.n a.c a.m a.d c.n c.c c.m c.d _ _ _ (QAt.ext HA.out EX) (QAt.ext HC.out EX) (by omega)).mono ?_); rintro e w4 ⟨sw4, Aw4, nw4, cw4, tw4, Bw4, mw4, dw4, rfl, hQw4, hbw4⟩; have hz4 : Fz w4 (w.heap.size + 1 + 1) := (Fz.new _ _ _ _ (by simp only [World.size_alloc])).drew.ext hbw4; have a0 : zC w4 (w.heap.size + 1 + 1) 0 (.bool false) := hbw4.cell (by simp [go_sem]); have a1 : zC w4 (w.heap.size + 1 + 1) 1 (.slice none 0 0) := hbw4.cell (by simp [go_sem]); have a2 : zC w4 (w.heap.size + 1 + 1) 2 (.bool false) := hbw4.cell (by simp [go_sem]); have a3 : zC w4 (w.heap.size + 1 + 1) 3 (.slice none 0 0) := hbw4.cell (by simp [go_sem]); have a4 : zC w4 (w.heap.size + 1 + 1) 4 (.bool false) := hbw4.cell (by simp [go_sem]); have a5 : zC w4 (w.heap.size + 1 + 1) 5 (.slice none 0 0) := hbw4.cell (by simp [go_sem]); have a6 : zC w4 (w.heap.size + 1 + 1) 6 (.bool false) := hbw4.cell (by simp [go_sem]); have a7 : zC w4 (w.heap.size + 1 + 1) 7 (.slice none 0 0) := hbw4.cell (by simp [go_sem])) | (go_at_call 36; (with_reducible refine (Z3Y b.s d.s b.t d.t b.A d.A b.B d.B b.n b.c b.m b.d d.n d.c d.m d.d _ _ _ (QAt.ext HB.out EX) (QAt.ext HD.out EX) (by omega)).mono ?_); rintro e w5 ⟨sw5, Aw5, nw5, cw5, tw5, Bw5, mw5, dw5, rfl, hQw5, hbw5⟩; have hz5 := (hz4.ext hbw5).2; have b0 := hbw5.cell a0; have b1 := hbw5.cell a1; have b2 := hbw5.cell a2; have b3 := hbw5.cell a3; have b4 := hbw5.cell a4; have b5 := hbw5.cell a5; have b6 := hbw5.cell a6; have b7 := hbw5.cell a7))
 go_wp2_with fail
 refine bodyPost_ret (v := .agg #[.bool sw4, .slice Aw4 nw4 cw4, .bool tw4, .slice Bw4 mw4 dw4, .bool sw5, .slice Aw5 nw5 cw5, .bool tw5, .slice Bw5 mw5 dw5]) (by simp [results, results14, go_sem, Z6, b0, b1, b2, b3, b4, b5, b6, b7]) rfl ⟨⟨sw4, Aw4, nw4, cw4, tw4, Bw4, mw4, dw4⟩, ⟨sw5, Aw5, nw5, cw5, tw5, Bw5, mw5, dw5⟩, rfl, hQw4.keep (by have kf := And.intro b0 (And.intro b1 (And.intro b2 (And.intro b3 (And.intro b4 (And.intro b5 (And.intro b6 b7)))))); exact KPE), hQw5.keep (by have kf := And.intro b0 (And.intro b1 (And.intro b2 (And.intro b3 (And.intro b4 (And.intro b5 (And.intro b6 b7)))))); exact KPE), EX⟩
theorem Z9E (a b c d : QC) (x y u v : Rat) (w : World) (ha : a.At w x) (hb : b.At w y) (hc0 : c.At w u) (hd : d.At w v) (hs : 2 * (qm x + qm y + qm u + qm v) + 8 < Z8) :
  Ca 16 #[.agg #[.bool a.s, .slice a.A a.n a.c, .bool a.t, .slice a.B a.m a.d, .bool b.s, .slice b.A b.n b.c, .bool b.t, .slice b.B b.m b.d], .agg #[.bool c.s, .slice c.A c.n c.c, .bool c.t, .slice c.B c.m c.d, .bool d.s, .slice d.A d.n d.c, .bool d.t, .slice d.B d.m d.d]] w (Z0e w (x - v) (y - u)) := by
 have HA := zH ha
 have HB := zH hb
 have HC := zH hc0
 have HD := zH hd
 clear ha hb hc0 hd
 go_enter func16, ntmps16
 go_wp2_with fail
 go_region_held3 (fun w' => zC w' w.heap.size 0 (.bool a.s) ∧ zC w' w.heap.size 1 (.slice a.A a.n a.c) ∧ zC w' w.heap.size 2 (.bool a.t) ∧ zC w' w.heap.size 3 (.slice a.B a.m a.d) ∧ zC w' w.heap.size 4 (.bool b.s) ∧ zC w' w.heap.size 5 (.slice b.A b.n b.c) ∧ zC w' w.heap.size 6 (.bool b.t) ∧ zC w' w.heap.size 7 (.slice b.B b.m b.d) ∧ zC w' (w.heap.size + 1) 0 (.bool c.s) ∧ zC w' (w.heap.size + 1) 1 (.slice c.A c.n c.c) ∧ zC w' (w.heap.size + 1) 2 (.bool c.t) ∧ zC w' (w.heap.size + 1) 3 (.slice c.B c.m c.d) ∧ zC w' (w.heap.size + 1) 4 (.bool d.s) ∧ zC w' (w.heap.size + 1) 5 (.slice d.A d.n d.c) ∧ zC w' (w.heap.size + 1) 6 (.bool d.t) ∧ zC w' (w.heap.size + 1) 7 (.slice d.B d.m d.d)) (first | (exact HXC) | (simp [go_sem]; done) | (exact Zac)) (first | (go_at_call 65; (with_reducible refine (Z3X a.s d.s a.t d.t a.A d.A a.B d.B a.n a.c a.m a.d d.n d.c d.m d.d _ _ _ (QAt.ext HA.out EX) (QAt.ext HD.out EX) (by omega)).mono ?_); rintro e w4 ⟨sw4, Aw4, nw4, cw4, tw4, Bw4, mw4, dw4, rfl, hQw4, hbw4⟩; have hz4 : Fz w4 (w.heap.size + 1 + 1) := (Fz.new _ _ _ _ (by simp only [World.size_alloc])).drew.ext hbw4; have a0 : zC w4 (w.heap.size + 1 + 1) 0 (.bool false) := hbw4.cell (by simp [go_sem]); have a1 : zC w4 (w.heap.size + 1 + 1) 1 (.slice none 0 0) := hbw4.cell (by simp [go_sem]); have a2 : zC w4 (w.heap.size + 1 + 1) 2 (.bool false) := hbw4.cell (by simp [go_sem]); have a3 : zC w4 (w.heap.size + 1 + 1) 3 (.slice none 0 0) := hbw4.cell (by simp [go_sem]); have a4 : zC w4 (w.heap.size + 1 + 1) 4 (.bool false) := hbw4.cell (by simp [go_sem]); have a5 : zC w4 (w.heap.size + 1 + 1) 5 (.slice none 0 0) := hbw4.cell (by simp [go_sem]); have a6 : zC w4 (w.heap.size + 1 + 1) 6 (.bool false) := hbw4.cell (by simp [go_sem]); have a7 : zC w4 (w.heap.size + 1 + 1) 7 (.slice none 0 0) := hbw4.cell (by simp [go_sem])) | (go_at_call 65; (with_reducible refine (Z3X b.s c.s b.t c.t b.A c.A b.B c.B b.n b.c b.m b.d c.n c.c c.m c.d _ _ _ (QAt.ext HB.out EX) (QAt.ext HC.out EX) (by omega)).mono ?_); rintro e w5 ⟨sw5, Aw5, nw5, cw5, tw5, Bw5, mw5, dw5, rfl, hQw5, hbw5⟩; have hz5 := (hz4.ext hbw5).2; have b0 := hbw5.cell a0; have b1 := hbw5.cell a1; have b2 := hbw5.cell a2; have b3 := hbw5.cell a3; have b4 := hbw5.cell a4; have b5 := hbw5.cell a5; have b6 := hbw5.cell a6; have b7 := hbw5.cell a7))
 go_wp2_with fail
 refine bodyPost_ret (v := .agg #[.bool sw4, .slice Aw4 nw4 cw4, .bool tw4, .slice Bw4 mw4 dw4, .bool sw5, .slice Aw5 nw5 cw5, .bool tw5, .slice Bw5 mw5 dw5]) (by simp [results, results16, go_sem, Z6, b0, b1, b2, b3, b4, b5, b6, b7]) rfl ⟨⟨sw4, Aw4, nw4, cw4, tw4, Bw4, mw4, dw4⟩, ⟨sw5, Aw5, nw5, cw5, tw5, Bw5, mw5, dw5⟩, rfl, hQw4.keep (by have kf := And.intro b0 (And.intro b1 (And.intro b2 (And.intro b3 (And.intro b4 (And.intro b5 (And.intro b6 b7)))))); exact KPE), hQw5.keep (by have kf := And.intro b0 (And.intro b1 (And.intro b2 (And.intro b3 (And.intro b4 (And.intro b5 (And.intro b6 b7)))))); exact KPE), EX⟩
abbrev zA0 (x0 x1 : QC) : Array Value := #[.bool x0.s, .slice x0.A x0.n x0.c, .bool x0.t, .slice x0.B x0.m x0.d, .bool x1.s, .slice x1.A x1.n x1.c, .bool x1.t, .slice x1.B x1.m x1.d]
abbrev zL1 (x0 x1 : QC) : List Value := [.int .i64 0, .bool x0.s, .slice x0.A x0.n x0.c, .bool x0.t, .slice x0.B x0.m x0.d, .slice none 0 0, .slice none 0 0, .int .i64 0, .bool x1.s, .slice x1.A x1.n x1.c, .bool x1.t, .slice x1.B x1.m x1.d, .slice none 0 0, .slice none 0 0]
abbrev zA3 (x0 : QC) : Array Value := #[.bool x0.s, .slice x0.A x0.n x0.c, .bool x0.t, .slice x0.B x0.m x0.d]
abbrev zL4 (x0 x1 x2 : QC) : List Value := [.int .i64 0, .bool x0.s, .slice x0.A x0.n x0.c, .bool x0.t, .slice x0.B x0.m x0.d, .slice none 0 0, .slice none 0 0, .int .i64 0, .bool x1.s, .slice x1.A x1.n x1.c, .bool x1.t, .slice x1.B x1.m x1.d, .slice none 0 0, .slice none 0 0, .int .i64 0, .bool x2.s, .slice x2.A x2.n x2.c, .bool x2.t, .slice x2.B x2.m x2.d, .slice none 0 0, .slice none 0 0]
abbrev zA5 : Array Value := #[.bool false, .slice none 0 0, .bool false, .slice none 0 0, .bool false, .slice none 0 0, .bool false, .slice none 0 0]
abbrev zL6 (x0 : QC) : List Value := [.int .i64 0, .bool x0.s, .slice x0.A x0.n x0.c, .bool x0.t, .slice x0.B x0.m x0.d, .slice none 0 0, .slice none 0 0]
abbrev zA9 : Array Value := #[.bool false, .slice none 0 0, .bool false, .slice none 0 0]
abbrev Z0M (x0 x1 x2 x3 : Nat) : Array Value := #[.int .i64 1, .bool false, .slice none 0 0, .bool false, .slice none 0 0, .slice (some ⟨x0, 0, none⟩) 1 x1, .slice (some ⟨x2, 0, none⟩) 2 x3]
abbrev Z1T : Array Value := #[.int .i64 0, .bool false, .slice none 0 0, .bool false, .slice none 0 0, .slice none 0 0, .slice none 0 0]
abbrev Z4n (x0 : QC) : List Value := [.int .i64 2, .bool false, .slice none 0 0, .bool false, .slice none 0 0, .int .i64 0, .slice none 0 0, .int .i64 1, .bool x0.s, .slice x0.A x0.n x0.c, .bool x0.t, .slice x0.B x0.m x0.d, .int .i64 0, .slice none 0 0]
abbrev Z2H (x0 x1 : QC) : List Value := [.bool x0.s, .slice x0.A x0.n x0.c, .bool x0.t, .slice x0.B x0.m x0.d, .bool x1.s, .slice x1.A x1.n x1.c, .bool x1.t, .slice x1.B x1.m x1.d]
abbrev Z1A (x0 : QC) : Array Value := #[.int .i64 0, .bool x0.s, .slice x0.A x0.n x0.c, .bool x0.t, .slice x0.B x0.m x0.d, .slice none 0 0, .slice none 0 0]
abbrev Z26 : Array Value := #[.slice none 0 0, .int .i64 0, .bool false, .slice none 0 0, .slice none 0 0]
abbrev Z2G (x0 : QC) : List Value := [.bool x0.s, .slice x0.A x0.n x0.c, .bool x0.t, .slice x0.B x0.m x0.d]
abbrev Z3D (x0 : Nat) : Array Value := #[.int .i64 4, .bool false, .slice none 0 0, .bool false, .slice none 0 0, .int .i64 0, .slice (some ⟨x0, 0, none⟩) 2 2]
abbrev Z7I : Array Value := #[.int .i64 0, .bool false, .slice none 0 0, .slice none 0 0, .int .i64 0, .bool false, .slice none 0 0, .slice none 0 0]
abbrev Z8X (x0 : QC) : Array Value := #[.bool x0.s, .slice x0.A x0.n x0.c, .bool x0.t, .slice x0.B x0.m x0.d, .bool false, .slice none 0 0, .bool false, .slice none 0 0]
abbrev Z01 (x0 : Bool) (x1 : Option Addr) (x2 x3 : Nat) (x4 : Bool) (x5 : Option Addr) (x6 x7 : Nat) : Array Value := #[.bool x0, .slice x1 x2 x3, .bool x4, .slice x5 x6 x7]
abbrev Z3q (x0 x1 x2 x3 : Nat) : Array Value := #[.int .i64 1, .bool false, .slice none 0 0, .bool false, .slice none 0 0, .slice (some ⟨x0, 0, none⟩) 2 x1, .slice (some ⟨x2, 0, none⟩) 1 x3]
abbrev ZaU (x0 : Nat) : List Value := [.int .i64 4, .bool false, .slice none 0 0, .bool false, .slice none 0 0, .int .i64 0, .slice (some ⟨x0, 0, none⟩) 2 2]
abbrev Z3f (x0 x1 : Nat) : Array Value := #[.int .i64 1, .bool false, .slice none 0 0, .slice (some ⟨x0, 0, none⟩) 2 x1]
abbrev Zbb (x0 x1 x2 x3 : Nat) : List Value := [.int .i64 1, .bool false, .slice none 0 0, .bool false, .slice none 0 0, .slice (some ⟨x0, 0, none⟩) 1 x1, .slice (some ⟨x2, 0, none⟩) 2 x3]
abbrev Z8W : Array Value := #[.int .i64 0, .bool false, .slice none 0 0, .slice none 0 0]
abbrev Z83 (x0 : Nat) : Array Value := #[.int .i64 10, .bool false, .slice none 0 0, .bool false, .slice none 0 0, .int .i64 0, .slice (some ⟨x0, 0, none⟩) 1 1]
abbrev Zd3 : Array Value := #[.int .i64 0, .bool false, .slice none 0 0, .slice none 0 0, .int .i64 0, .bool false, .slice none 0 0, .slice none 0 0, .int .i64 0, .bool false, .slice none 0 0, .slice none 0 0, .int .i64 0, .bool false, .slice none 0 0, .slice none 0 0, .int .i64 0, .bool false, .slice none 0 0, .slice none 0 0, .int .i64 0, .bool false, .slice none 0 0, .slice none 0 0]
abbrev Z5O (x0 : QC) : Array Value := #[.int .i64 1, .bool x0.s, .slice x0.A x0.n x0.c, .bool x0.t, .slice x0.B x0.m x0.d, .int .i64 0, .slice none 0 0]
abbrev Zc1 : Array Value := #[.int .i64 1, .bool false, .slice none 0 0, .bool false, .slice none 0 0, .slice none 0 0, .slice none 0 0]
abbrev Z7H : Array Value := #[.int .i64 2, .bool false, .slice none 0 0, .bool false, .slice none 0 0, .int .i64 0, .slice none 0 0]
abbrev Zc0 (x0 : Option Addr) (x1 : Nat) : Array Value := #[.int .i64 1, .bool false, .slice none 0 0, .bool false, .slice none 0 0, .slice x0 1 x1, .slice none 0 0]
abbrev Zbd (x0 x1 x2 x3 x4 x5 : Nat) : Array Value := #[.int .i64 1, .bool false, .slice none 0 0, .bool false, .slice none 0 0, .slice (some ⟨x0, 0, none⟩) x1 x2, .slice (some ⟨x3, 0, none⟩) x4 x5]
abbrev Zd2 (x0 : QC) : Array Value := #[.int .i64 2, .bool false, .slice none 0 0, .bool false, .slice none 0 0, .int .i64 0, .slice none 0 0, .int .i64 1, .bool x0.s, .slice x0.A x0.n x0.c, .bool x0.t, .slice x0.B x0.m x0.d, .int .i64 0, .slice none 0 0]
abbrev Zcu (x0 x1 : Nat) (x2 : Option Addr) (x3 : Nat) : Array Value := #[.int .i64 1, .bool false, .slice none 0 0, .bool false, .slice none 0 0, .slice (some ⟨x0, 0, none⟩) 1 x1, .slice x2 1 x3]
abbrev Zd1 (x0 x1 : Nat) : Array Value := #[.int .i64 1, .bool false, .slice none 0 0, .bool false, .slice none 0 0, .slice (some ⟨x0, 0, none⟩) 1 x1, .slice none 0 0]
abbrev Zd0 (x0 x1 : Nat) : Array Value := #[.int .i64 1, .bool false, .slice none 0 0, .bool false, .slice none 0 0, .slice (some ⟨x0, 0, none⟩) 2 x1, .slice none 0 0]
abbrev Z7G (x0 : QC) : Array Value := #[.bool x0.s, .slice x0.A x0.n x0.c, .bool x0.t, .slice x0.B x0.m x0.d, .bool x0.s, .slice x0.A x0.n x0.c, .bool x0.t, .slice x0.B x0.m x0.d]
theorem Z91 (z : Int) : Z0R z ≤ 0 ↔ z ≤ 0 := by
 unfold Z0R; split
 ·exact ⟨fun _ => by omega, fun _ => by decide⟩
 ·split
  ·exact ⟨fun e => by omega, fun e => by omega⟩
  ·exact ⟨fun _ => by omega, fun _ => by decide⟩
theorem Z92 (z : Int) : 0 ≤ Z0R z ↔ 0 ≤ z := by
 unfold Z0R; split
 ·exact ⟨fun e => by omega, fun e => by omega⟩
 ·split
  ·exact ⟨fun e => by omega, fun e => by decide⟩
  ·exact ⟨fun _ => by omega, fun _ => by decide⟩
theorem Z23 (a b : QC) (x y : Rat) (w : World) (ha : a.At w x) (hb : b.At w y) (hs : 2 * (qm x + qm y) + 8 < Z8) :
  Ca 20 #[.agg (zA0 a b)] w fun e w' => e = .returned (.bool (decide (x.num ≤ 0) && decide (0 ≤ y.num))) ∧ Ext w w' := by
 have hn1 := ha.n
 have hn2 := hb.n
 have S1 := zH (fun W (k : a.At W x) => Z1p a.s a.A a.n a.c a.t a.B a.m a.d x W k (by omega))
 have S2 := zH (fun W (k : b.At W y) => Z1p b.s b.A b.n b.c b.t b.B b.m b.d y W k (by omega))
 have e1 : decide (Z0R x.num ≤ 0) = decide (x.num ≤ 0) := decide_eq_decide.2 (Z91 _)
 have e2 : decide (0 ≤ Z0R y.num) = decide (0 ≤ y.num) := decide_eq_decide.2 (Z92 _)
 rw [← e1, ← e2]
 obtain ⟨p, hp⟩ : ∃ z, Z0R x.num = z := ⟨_, rfl⟩
 obtain ⟨q, hq⟩ : ∃ z, Z0R y.num = z := ⟨_, rfl⟩
 rw [hp] at S1 ⊢
 rw [hq] at S2 ⊢
 obtain ⟨b1, hb1⟩ : ∃ z, decide (p ≤ 0) = z := ⟨_, rfl⟩
 obtain ⟨b2, hb2⟩ : ∃ z, decide (0 ≤ q) = z := ⟨_, rfl⟩
 rw [hb1, hb2]
 have HA := zH ha
 have HB := zH hb
 clear ha hb hp hq e1 e2
 dsimp only [zA0]
 go_enter func20, ntmps20
 go_wp2_with (
  first
  | (go_at_call 28; (with_reducible refine (S1.out _ (QAt.ext HA.out EX)).mono ?_); rintro e w1 ⟨rfl, hbw1⟩; (try clear hc hf); obtain ⟨hBw1, hc, hf⟩ := EC1 w1 w)
  | (go_at_call 28; (with_reducible refine (S2.out _ (QAt.ext HB.out EX)).mono ?_); rintro e w2 ⟨rfl, hbw2⟩; (try clear hc hf); obtain ⟨hBw2, hc, hf⟩ := EC1 w2 w))
 all_goals go_ret
 all_goals refine ⟨?_, EX⟩
 all_goals (cases b1 <;> cases b2 <;> simp_all)
theorem Z7j (a b : QC) (x y : Rat) (w : World) (ha : a.At w x) (hb : b.At w y) (hs : 2 * (qm x + qm y) + 8 < Z8) :
  Ca 94 #[.agg (zA0 a b)] w (Z0G w (y - x)) := by
 have HA := zH ha
 have HB := zH hb
 clear ha hb
 dsimp only [zA0]
 go_enter func94, ntmps94
 go_wp2_with (go_at_call 65; (with_reducible refine (Z3X b.s a.s b.t a.t b.A a.A b.B a.B b.n b.c b.m b.d a.n a.c a.m a.d _ _ _ (QAt.ext HB.out EX) (QAt.ext HA.out EX) (by omega)).mono ?_); rintro e w6 ⟨sw6, Aw6, nw6, cw6, tw6, Bw6, mw6, dw6, rfl, hQw6, hbw6⟩; (try clear hc hf); obtain ⟨hBw6, hc, hf⟩ := EC2 w6 w)
 refine bodyPost_ret (v := .agg (Z01 sw6 Aw6 nw6 cw6 tw6 Bw6 mw6 dw6)) (by simp [Z01, results, results94, go_sem, Z6, hc, hf]) rfl ⟨_, _, _, _, _, _, _, _, rfl, hQw6.keep KX, EX⟩
theorem Z7m (a b c d : QC) (x y u v : Rat) (w : World) (ha : a.At w x) (hb : b.At w y) (hc0 : c.At w u) (hd : d.At w v) (hs : 2 * (qm x + qm y + qm u + qm v) + 8 < Z8) :
  Ca 31 #[.agg (zA0 a b), .agg (zA0 c d)] w fun e w' => e = .returned (.bool (decide (x ≤ v) && decide (u ≤ y))) ∧ Ext w w' := by
 have S1 := zH (fun W (k1 : a.At W x) (k2 : d.At W v) => Z1M a.s d.s a.t d.t a.A d.A a.B d.B a.n a.c a.m a.d d.n d.c d.m d.d x v W k1 k2 (by omega))
 have S2 := zH (fun W (k1 : c.At W u) (k2 : b.At W y) => Z1M c.s b.s c.t b.t c.A b.A c.B b.B c.n c.c c.m c.d b.n b.c b.m b.d u y W k1 k2 (by omega))
 have e1 : decide (Z0s x v ≤ 0) = decide (x ≤ v) := decide_eq_decide.2 Z1P
 have e2 : decide (Z0s u y ≤ 0) = decide (u ≤ y) := decide_eq_decide.2 Z1P
 rw [← e1, ← e2]
 obtain ⟨p, hp⟩ : ∃ z, Z0s x v = z := ⟨_, rfl⟩
 obtain ⟨q, hq⟩ : ∃ z, Z0s u y = z := ⟨_, rfl⟩
 rw [hp] at S1 ⊢
 rw [hq] at S2 ⊢
 obtain ⟨b1, hb1⟩ : ∃ z, decide (p ≤ 0) = z := ⟨_, rfl⟩
 obtain ⟨b2, hb2⟩ : ∃ z, decide (q ≤ 0) = z := ⟨_, rfl⟩
 rw [hb1, hb2]
 have HA := zH ha
 have HB := zH hb
 have HC := zH hc0
 have HD := zH hd
 clear ha hb hc0 hd hp hq e1 e2
 dsimp only [zA0]
 go_enter func31, ntmps31
 go_wp2_with (
  first
  | (go_at_call 26; (with_reducible refine (S1.out _ (QAt.ext HA.out EX) (QAt.ext HD.out EX)).mono ?_); rintro e w1 ⟨rfl, hbw1⟩; (try clear hc hf); obtain ⟨hBw1, hc, hf⟩ := EC2 w1 w)
  | (go_at_call 26; (with_reducible refine (S2.out _ (QAt.ext HC.out EX) (QAt.ext HB.out EX)).mono ?_); rintro e w2 ⟨rfl, hbw2⟩; (try clear hc hf); obtain ⟨hBw2, hc, hf⟩ := EC2 w2 w))
 all_goals go_ret
 all_goals refine ⟨?_, EX⟩
 all_goals (cases b1 <;> cases b2 <;> simp_all)
end Go.Proofs.YtnmmncccpdffaaaGreat
