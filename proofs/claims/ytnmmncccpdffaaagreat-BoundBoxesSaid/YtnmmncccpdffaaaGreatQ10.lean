/- What BoundBoxes calls, part 10. -/
import Derived.LoopN
import Derived.Handy
import Derived.Test.YtnmmncccpdffaaaGreatQ07
set_option linter.unusedVariables false
set_option linter.unusedSimpArgs false
set_option maxRecDepth 100000
set_option maxHeartbeats 16000000
namespace Go.Proofs.YtnmmncccpdffaaaGreat
open Go.Proofs.Tryz Go Go.RowKit Go.Shelf
structure PV where
 lv : Int
 s : Bool
 A : Option Addr
 n : Nat
 c : Nat
 C : Option Addr
 m : Nat
 d : Nat
abbrev PV.At (p : PV) (w : World) (z : Int) : Prop := IAt w p.s p.A p.n p.c z
def Z72 (w : World) (z : Int) (e : Ending) (w' : World) : Prop := ∃ p : PV, e = .returned (.agg #[.int .i64 0, .bool p.s, .slice p.A p.n p.c, .slice p.C p.m p.d]) ∧ p.At w' z ∧ Ext w w'
def ZbS (w : World) (x y : Int) (e : Ending) (w' : World) : Prop := ∃ (g d : Nat) (p q : PV), e = .returned (.agg #[.int .i64 1, .bool false, .slice none 0 0, .slice (some ⟨g, 0, none⟩) 2 d]) ∧ CK w' g [.int .i64 0, .bool p.s, .slice p.A p.n p.c, .slice p.C p.m p.d, .int .i64 0, .bool q.s, .slice q.A q.n q.c, .slice q.C q.m q.d] ∧ p.At w' x ∧ q.At w' y ∧ w.heap.size ≤ g ∧ g < w'.heap.size ∧ Ext w w'
def Z1R (w : World) (v : Value) (e : Ending) (w' : World) : Prop := e = .returned v ∧ Ext w w'
theorem ZA (s : Bool) (A : Option Addr) (n c : Nat) (z : Int) (w : World) (h : IAt w s A n c z) :
  Ca 232 #[.agg #[.bool s, .slice A n c]] w (Z72 w z) := by
 have H := zH h
 clear h
 go_enter func232, ntmps232
 go_wp2
 refine bodyPost_ret (v := .agg #[.int .i64 0, .bool s, .slice A n c, .slice none 0 0]) (by simp [results, results232, go_sem, Z6]) rfl ⟨⟨0, s, A, n, c, none, 0, 0⟩, rfl, IX, EX⟩
theorem Zj (p : PV) (b : Bool) (w : World) (hb : (decide (p.lv = 0) && decide (p.n = 0)) = b) :
  Ca 243 #[.agg #[.int .i64 p.lv, .bool p.s, .slice p.A p.n p.c, .slice p.C p.m p.d]] w fun e w' => e = .returned (.bool b) ∧ Ext w w' := by
 have hb' := zH hb
 clear hb
 by_cases h1 : p.lv = 0
 ·by_cases h2 : (p.n : Int) = 0
  ·go_enter func243, ntmps243
   all_goals go_wp2
   all_goals go_ret
   all_goals exact ⟨by rw [← hb'.out]; have h3 : p.n = 0 ∨ p.n ≠ 0 := Nat.eq_or_lt_of_le (Nat.zero_le _) |>.imp Eq.symm Nat.pos_iff_ne_zero.1; rcases h3 with h3 | h3 <;> simp [h1, h3] <;> omega, EX⟩
  ·go_enter func243, ntmps243
   all_goals go_wp2
   all_goals go_ret
   all_goals exact ⟨by rw [← hb'.out]; have h3 : p.n = 0 ∨ p.n ≠ 0 := Nat.eq_or_lt_of_le (Nat.zero_le _) |>.imp Eq.symm Nat.pos_iff_ne_zero.1; rcases h3 with h3 | h3 <;> simp [h1, h3] <;> omega, EX⟩
 ·go_enter func243, ntmps243
  all_goals go_wp2
  all_goals go_ret
  all_goals exact ⟨by rw [← hb'.out]; simp [h1], EX⟩
theorem Z2E (p : PV) (z : Int) (w : World) (h : p.At w z) (hz : z = 1 ∨ z = -1) :
  Ca 262 #[.agg #[.int .i64 0, .bool p.s, .slice p.A p.n p.c, .slice p.C p.m p.d]] w fun e w' => e = .returned (.bool true) ∧ Ext w w' := by
 have hn1 : p.n = 1 := by
  have := h.wl
  rcases hz with e | e <;> subst e <;> simpa [Z1c, Z3w] using this
 obtain ⟨a, ha, hz2⟩ := h.one_word hn1
 obtain ⟨b1, f1, hA, hb1, hc1⟩ := h.rep.at (by omega)
 have g1 := hc1 0 (by omega)
 rw [ha] at g1
 simp only [List.getD_cons_zero, Nat.add_zero] at g1
 have ha1 : (a : Int) = 1 := by omega
 rw [ha1] at g1
 obtain ⟨lv, s, A, n, c, C, m, d⟩ := p
 simp only at hA hn1 ⊢
 subst hA hn1
 clear h hc1 ha hz2 hz ha1
 go_enter func262, ntmps262
 all_goals go_wp2
 all_goals go_ret
 all_goals exact ⟨rfl, EX⟩
theorem Z7p (p : PV) (w : World) (h : p.lv ≠ 0) :
  Ca 262 #[.agg #[.int .i64 p.lv, .bool p.s, .slice p.A p.n p.c, .slice p.C p.m p.d]] w fun e w' => e = .returned (.bool false) ∧ Ext w w' := by
 go_enter func262, ntmps262
 all_goals go_wp2
 all_goals go_ret
 all_goals exact ⟨by simp [h], EX⟩
theorem Z1W (g d : Nat) (p q : PV) (x y : Int) (w : World) (hd : 2 ≤ d) (h : CK w g [.int .i64 0, .bool p.s, .slice p.A p.n p.c, .slice p.C p.m p.d, .int .i64 0, .bool q.s, .slice q.A q.n q.c, .slice q.C q.m q.d]) (hy : q.At w y) (hy0 : y ≠ 0) :
  Ca 234 #[.int .i64 1, .slice (some ⟨g, 0, none⟩) 2 d] w (Z1R w (.agg (Z3f g d))) := by
 have F9 := h.c8
 have hg := h.lt
 have hn : q.n ≠ 0 := fun e => hy0 (hy.zero_iff.1 e)
 clear h hy
 dsimp only [Z3f]
 go_enter func234, ntmps234
 go_wp2_with fail
 refine wp_loop_rounds 1 ?_
 rw [rounds_succ]
 go_wp2_with (go_at_call 243; (with_reducible refine (Zj ⟨0, q.s, q.A, q.n, q.c, q.C, q.m, q.d⟩ false _ (by simp <;> omega)).mono ?_); rintro e w1 ⟨rfl, hbw1⟩; obtain ⟨R0, L0, F0⟩ := B40 w1 w)
 all_goals refine bodyPost_ret (v := .agg (Z3f g d)) (by simp [Z3f, results, results234, go_sem, Z6, F0]) rfl ⟨rfl, EX⟩
theorem Z7t (g o d : Nat) (p : PV) (y : Int) (w : World) (hd : 1 ≤ d) (h0 : w.cell? ⟨g, o, none⟩ = some (.int .i64 0)) (h1 : w.cell? ⟨g, o + 1, none⟩ = some (.bool p.s)) (h2 : w.cell? ⟨g, o + 2, none⟩ = some (.slice p.A p.n p.c)) (h3 : w.cell? ⟨g, o + 3, none⟩ = some (.slice p.C p.m p.d)) (hy : p.At w y) (hy0 : y ≠ 0) :
  Ca 234 #[.int .i64 1, .slice (some ⟨g, o, none⟩) 1 d] w (Z1R w (.agg #[.int .i64 0, .bool p.s, .slice p.A p.n p.c, .slice p.C p.m p.d])) := by
 have hg := World.block_lt_of_cell? w _ h0
 simp only at hg
 have hn : p.n ≠ 0 := fun e => hy0 (hy.zero_iff.1 e)
 clear hy
 go_enter func234, ntmps234
 go_wp2_with fail
 refine wp_loop_rounds 1 ?_
 rw [rounds_succ]
 go_wp2_with (go_at_call 243; (with_reducible refine (Zj ⟨0, p.s, p.A, p.n, p.c, p.C, p.m, p.d⟩ false _ (by simp <;> omega)).mono ?_); rintro e w1 ⟨rfl, hbw1⟩; obtain ⟨R0, L0, F0⟩ := B40 w1 w; have hz := hbw1.size; simp only [World.size_alloc] at hz; have Lg : g < w1.heap.size := (by omega); have k0 := hbw1.cell (Z0t h0 _); have k1 := hbw1.cell (Z0t h1 _); have k2 := hbw1.cell (Z0t h2 _); have k3 := hbw1.cell (Z0t h3 _))
 all_goals refine bodyPost_ret (v := .agg #[.int .i64 0, .bool p.s, .slice p.A p.n p.c, .slice p.C p.m p.d]) (by simp [results, results234, go_sem, Z6, F0]) rfl ⟨rfl, EX⟩
theorem Z1a (g d : Nat) (w : World) :
  Ca 235 #[.int .i64 1, .agg (Z3f g d)] w (Z1R w (.slice (some ⟨g, 0, none⟩) 2 d)) := by
 dsimp only [Z3f]
 go_enter func235, ntmps235
 all_goals go_wp2
 all_goals go_ret
 all_goals exact ⟨rfl, EX⟩
theorem Z1b (p : PV) (hn : p.n ≠ 0) (w : World) :
  Ca 235 #[.int .i64 1, .agg #[.int .i64 0, .bool p.s, .slice p.A p.n p.c, .slice p.C p.m p.d]] w fun e w' => ∃ g, e = .returned (.slice (some ⟨g, 0, none⟩) 1 1) ∧ CK w' g [.int .i64 0, .bool p.s, .slice p.A p.n p.c, .slice p.C p.m p.d] ∧ w.heap.size ≤ g ∧ g < w'.heap.size ∧ Ext w w' := by
 go_enter func235, ntmps235
 go_wp2_with (go_at_call 243; (with_reducible refine (Zj ⟨0, p.s, p.A, p.n, p.c, p.C, p.m, p.d⟩ false _ (by simp <;> omega)).mono ?_); rintro e w1 ⟨rfl, hbw1⟩; obtain ⟨R0, L0, F0⟩ := B40 w1 w)
 go_ret
 exact ⟨_, rfl, by exact (BX : BK _ _ #[.int .i64 0, .bool p.s, .slice p.A p.n p.c, .slice p.C p.m p.d]).ck, by omega, by simp only [World.size_alloc]; omega, EX⟩
abbrev zL2 (x0 x1 : PV) : List Value := [.int .i64 0, .bool x0.s, .slice x0.A x0.n x0.c, .slice x0.C x0.m x0.d, .int .i64 0, .bool x1.s, .slice x1.A x1.n x1.c, .slice x1.C x1.m x1.d]
abbrev zA7 (x0 x1 x2 x3 x4 x5 : PV) : Array Value := #[.int .i64 0, .bool x0.s, .slice x0.A x0.n x0.c, .slice x0.C x0.m x0.d, .int .i64 0, .bool x1.s, .slice x1.A x1.n x1.c, .slice x1.C x1.m x1.d, .int .i64 0, .bool x2.s, .slice x2.A x2.n x2.c, .slice x2.C x2.m x2.d, .int .i64 0, .bool x3.s, .slice x3.A x3.n x3.c, .slice x3.C x3.m x3.d, .int .i64 0, .bool x4.s, .slice x4.A x4.n x4.c, .slice x4.C x4.m x4.d, .int .i64 0, .bool x5.s, .slice x5.A x5.n x5.c, .slice x5.C x5.m x5.d]
abbrev zL8 (x0 : PV) : List Value := [.int .i64 0, .bool x0.s, .slice x0.A x0.n x0.c, .slice x0.C x0.m x0.d]
abbrev ZC (x0 : PV) : Array Value := #[.int .i64 0, .bool x0.s, .slice x0.A x0.n x0.c, .slice x0.C x0.m x0.d]
abbrev Z2j (x0 x1 : PV) : Array Value := #[.int .i64 0, .bool x0.s, .slice x0.A x0.n x0.c, .slice x0.C x0.m x0.d, .int .i64 0, .bool x1.s, .slice x1.A x1.n x1.c, .slice x1.C x1.m x1.d]
abbrev Zbc (x0 x1 x2 : PV) : List Value := [.int .i64 0, .bool x0.s, .slice x0.A x0.n x0.c, .slice x0.C x0.m x0.d, .int .i64 0, .bool x1.s, .slice x1.A x1.n x1.c, .slice x1.C x1.m x1.d, .int .i64 0, .bool x2.s, .slice x2.A x2.n x2.c, .slice x2.C x2.m x2.d]
abbrev Zcw (x0 x1 x2 x3 : PV) : Array Value := #[.int .i64 0, .bool x0.s, .slice x0.A x0.n x0.c, .slice x0.C x0.m x0.d, .int .i64 0, .bool x1.s, .slice x1.A x1.n x1.c, .slice x1.C x1.m x1.d, .int .i64 0, .bool x2.s, .slice x2.A x2.n x2.c, .slice x2.C x2.m x2.d, .int .i64 0, .bool x3.s, .slice x3.A x3.n x3.c, .slice x3.C x3.m x3.d, .int .i64 0, .bool false, .slice none 0 0, .slice none 0 0, .int .i64 0, .bool false, .slice none 0 0, .slice none 0 0]
abbrev Zcv (x0 x1 : PV) : Array Value := #[.int .i64 0, .bool x0.s, .slice x0.A x0.n x0.c, .slice x0.C x0.m x0.d, .int .i64 0, .bool x1.s, .slice x1.A x1.n x1.c, .slice x1.C x1.m x1.d, .int .i64 0, .bool false, .slice none 0 0, .slice none 0 0, .int .i64 0, .bool false, .slice none 0 0, .slice none 0 0, .int .i64 0, .bool false, .slice none 0 0, .slice none 0 0, .int .i64 0, .bool false, .slice none 0 0, .slice none 0 0]
abbrev Z6E (x0 x1 : Nat) (x2 : PV) : Array Value := #[.int .i64 1, .bool false, .slice none 0 0, .slice (some ⟨x0, 0, none⟩) 2 x1, .int .i64 0, .bool x2.s, .slice x2.A x2.n x2.c, .slice x2.C x2.m x2.d]
abbrev Zc2 (x0 : PV) : Array Value := #[.int .i64 0, .bool x0.s, .slice x0.A x0.n x0.c, .slice x0.C x0.m x0.d, .int .i64 0, .bool false, .slice none 0 0, .slice none 0 0]
abbrev Z4z (x0 : Int) (x1 : PV) : Array Value := #[.int .i64 x0, .bool x1.s, .slice x1.A x1.n x1.c, .slice x1.C x1.m x1.d]
abbrev Za9 (x0 : PV) (x1 x2 : Nat) : Array Value := #[.int .i64 0, .bool x0.s, .slice x0.A x0.n x0.c, .slice x0.C x0.m x0.d, .int .i64 1, .bool false, .slice none 0 0, .slice (some ⟨x1, 0, none⟩) 2 x2]
abbrev Zct (x0 : Option Addr) (x1 : Nat) (x2 : PV) : Array Value := #[.slice x0 1 x1, .int .i64 0, .bool x2.s, .slice x2.A x2.n x2.c, .slice x2.C x2.m x2.d]
abbrev Zcs (x0 : Option Addr) (x1 : Nat) (x2 : PV) : Array Value := #[.slice x0 2 x1, .int .i64 0, .bool x2.s, .slice x2.A x2.n x2.c, .slice x2.C x2.m x2.d]
abbrev ZcZ (x0 : PV) : Array Value := #[.slice none 0 0, .int .i64 0, .bool x0.s, .slice x0.A x0.n x0.c, .slice x0.C x0.m x0.d]
abbrev ZbZ (x0 x1 : Nat) (x2 : PV) : Array Value := #[.slice (some ⟨x0, 0, none⟩) 3 x1, .int .i64 0, .bool x2.s, .slice x2.A x2.n x2.c, .slice x2.C x2.m x2.d]
theorem Z7v (p : PV) (w : World) :
  Ca 240 #[.agg (ZC p)] w (Z1R w (.agg #[.bool p.s, .slice p.A p.n p.c])) := by
 dsimp only [ZC]
 go_enter func240, ntmps240
 go_wp2_with fail
 refine wp_loop_rounds 1 ?_
 rw [rounds_succ]
 go_wp2_with fail
 all_goals refine bodyPost_ret (v := .agg #[.bool p.s, .slice p.A p.n p.c]) (by simp [results, results240, go_sem, Z6]) rfl ⟨rfl, EX⟩
theorem Z7u (g d : Nat) (p q : PV) (w : World) (h : CK w g (zL2 p q)) :
  Ca 240 #[.agg (Z3f g d)] w (Z1R w (.agg #[.bool q.s, .slice q.A q.n q.c])) := by
 have F9 := h.c8
 have hg := h.lt
 clear h
 dsimp only [Z3f]
 go_enter func240, ntmps240
 go_wp2_with fail
 refine wp_loop_rounds 2 ?_
 rw [rounds_succ]
 go_wp2_with fail
 rw [rounds_succ]
 go_wp2_with fail
 all_goals refine bodyPost_ret (v := .agg #[.bool q.s, .slice q.A q.n q.c]) (by simp [results, results240, go_sem, Z6]) rfl ⟨rfl, EX⟩
theorem Z24 (p q : PV) (z : Int) (w : World) (hq : q.At w z) (hz : 0 < z) (hn : wl z ≤ 1000) :
  Ca 197 #[.agg (Z4z p.lv p), .agg (ZC q)] w (Z1R w (.agg #[.int .i64 p.lv, .bool p.s, .slice p.A p.n p.c, .slice p.C p.m p.d, .int .i64 0, .bool q.s, .slice q.A q.n q.c, .slice q.C q.m q.d])) := by
 have hs := Z00 hz
 have hmw : 100000 < Z8 := by decide
 have HS := zH (fun W (h : q.At W z) => (by have := Z0w q.s q.A q.n q.c z W h (by have := h.wl; omega); rw [hs] at this; exact this : Ca 76 #[.agg #[.bool q.s, .slice q.A q.n q.c]] W fun e w' => e = .returned (.int .i64 1) ∧ Ext W w'))
 have HQ := zH hq
 clear hq hs
 dsimp only [Z4z, ZC]
 go_enter func197, ntmps197
 go_wp2_with (
  first
  | (go_at_call 240; (with_reducible refine (Z7v q _).mono ?_); rintro e w1 ⟨rfl, hbw1⟩; obtain ⟨R0, L0, F0⟩ := B40 w1 w; obtain ⟨R1, L1, F1⟩ := B41 w1 w; obtain ⟨R2, L2, F2⟩ := B82 w1 w)
  | (go_at_call 76; (with_reducible refine (HS.out _ IX).mono ?_); rintro e w2 ⟨rfl, hbw2⟩; obtain ⟨R0, L0, F0⟩ := B40 w2 w; obtain ⟨R1, L1, F1⟩ := B41 w2 w; obtain ⟨R2, L2, F2⟩ := B82 w2 w))
 all_goals refine bodyPost_ret (v := .agg #[.int .i64 p.lv, .bool p.s, .slice p.A p.n p.c, .slice p.C p.m p.d, .int .i64 0, .bool q.s, .slice q.A q.n q.c, .slice q.C q.m q.d]) (by simp [results, results197, go_sem, Z6, F2]) rfl ⟨rfl, EX⟩
theorem Z36 (g d : Nat) (p r q : PV) (z : Int) (w : World) (h : CK w g (zL2 r q)) (hq : q.At w z) (hz : 0 < z) (hn : wl z ≤ 1000) :
  Ca 197 #[.agg (Z4z p.lv p), .agg (Z3f g d)] w (Z1R w (.agg #[.int .i64 p.lv, .bool p.s, .slice p.A p.n p.c, .slice p.C p.m p.d, .int .i64 1, .bool false, .slice none 0 0, .slice (some ⟨g, 0, none⟩) 2 d])) := by
 have hs := Z00 hz
 have hmw : 100000 < Z8 := by decide
 have HS := zH (fun W (h : q.At W z) => (by have := Z0w q.s q.A q.n q.c z W h (by have := h.wl; omega); rw [hs] at this; exact this : Ca 76 #[.agg #[.bool q.s, .slice q.A q.n q.c]] W fun e w' => e = .returned (.int .i64 1) ∧ Ext W w'))
 have HQ := zH hq
 clear hq hs
 have hg := h.lt
 dsimp only [Z4z, Z3f]
 go_enter func197, ntmps197
 go_wp2_with (
  first
  | (go_at_call 240; (with_reducible refine (Z7u g d r q _ (CX)).mono ?_); rintro e w1 ⟨rfl, hbw1⟩; obtain ⟨R0, L0, F0⟩ := B40 w1 w; obtain ⟨R1, L1, F1⟩ := B41 w1 w; obtain ⟨R2, L2, F2⟩ := B82 w1 w)
  | (go_at_call 76; (with_reducible refine (HS.out _ IX).mono ?_); rintro e w2 ⟨rfl, hbw2⟩; obtain ⟨R0, L0, F0⟩ := B40 w2 w; obtain ⟨R1, L1, F1⟩ := B41 w2 w; obtain ⟨R2, L2, F2⟩ := B82 w2 w))
 all_goals refine bodyPost_ret (v := .agg #[.int .i64 p.lv, .bool p.s, .slice p.A p.n p.c, .slice p.C p.m p.d, .int .i64 1, .bool false, .slice none 0 0, .slice (some ⟨g, 0, none⟩) 2 d]) (by simp [results, results197, go_sem, Z6, F2]) rfl ⟨rfl, EX⟩
theorem Z10 (p q : PV) (z : Int) (w : World) (hp : p.At w z) (hz : z = 1 ∨ z = -1) (hq : (decide (q.lv = 0) && decide (q.n = 0)) = false) :
  Ca 237 #[.agg (ZC p), .agg (Z4z q.lv q)] w (Z72 w 1) := by
 have hn1 : p.n ≠ 0 := fun e => by have := hp.zero_iff.1 e; omega
 have HP := zH hp
 replace hq := zH hq
 clear hp
 dsimp only [ZC, Z4z]
 go_enter func237, ntmps237
 go_wp2_with (
  first
  | (go_at_call 243; (with_reducible refine (Zj ⟨0, p.s, p.A, p.n, p.c, p.C, p.m, p.d⟩ false _ (by simp [hn1])).mono ?_); rintro e w1 ⟨rfl, hbw1⟩; obtain ⟨R0, L0, F0⟩ := B40 w1 w; obtain ⟨R1, L1, F1⟩ := B41 w1 w; obtain ⟨R2, L2, F2⟩ := B42 w1 w)
  | (go_at_call 243; (with_reducible refine (Zj q false _ (hq.out)).mono ?_); rintro e w2 ⟨rfl, hbw2⟩; obtain ⟨R0, L0, F0⟩ := B40 w2 w; obtain ⟨R1, L1, F1⟩ := B41 w2 w; obtain ⟨R2, L2, F2⟩ := B42 w2 w)
  | (go_at_call 262; (with_reducible refine (Z2E p z _ IX hz).mono ?_); rintro e w3 ⟨rfl, hbw3⟩; obtain ⟨R0, L0, F0⟩ := B40 w3 w; obtain ⟨R1, L1, F1⟩ := B41 w3 w; obtain ⟨R2, L2, F2⟩ := B42 w3 w)
  | (go_at_call 93; (with_reducible refine (Zv 1 _ (by decide) (by decide)).mono ?_); refine rI ?_; intro w6 sw6 Aw6 nw6 cw6 Hw6 hbw6; obtain ⟨R0, L0, F0⟩ := B40 w6 w; obtain ⟨R1, L1, F1⟩ := B41 w6 w; obtain ⟨R2, L2, F2⟩ := B42 w6 w)
  | (go_at_call 232; (with_reducible refine (ZA _ _ _ _ 1 _ IX).mono ?_); rintro e w7 ⟨pw7, rfl, hQ, hbw7⟩; have Hw7 := zH hQ; clear hQ; obtain ⟨R0, L0, F0⟩ := B40 w7 w; obtain ⟨R1, L1, F1⟩ := B41 w7 w; obtain ⟨R2, L2, F2⟩ := B42 w7 w))
 all_goals refine bodyPost_ret (v := .agg (ZC pw7)) (by simp [ZC, results, results237, go_sem, Z6, F2]) rfl ⟨pw7, rfl, IX, EX⟩
theorem Z8o (q p : PV) (z : Int) (w : World) (hp : p.At w z) (hz : z = 1 ∨ z = -1) (hq : q.lv ≠ 0) :
  Ca 237 #[.agg (Z4z q.lv q), .agg (ZC p)] w (Z72 w 1) := by
 have hn1 : p.n ≠ 0 := fun e => by have := hp.zero_iff.1 e; omega
 have HP := zH hp
 clear hp
 dsimp only [Z4z, ZC]
 go_enter func237, ntmps237
 go_wp2_with (
  first
  | (go_at_call 243; (with_reducible refine (Zj q false _ (by simp [hq])).mono ?_); rintro e w1 ⟨rfl, hbw1⟩; obtain ⟨R0, L0, F0⟩ := B40 w1 w; obtain ⟨R1, L1, F1⟩ := B41 w1 w; obtain ⟨R2, L2, F2⟩ := B42 w1 w)
  | (go_at_call 243; (with_reducible refine (Zj ⟨0, p.s, p.A, p.n, p.c, p.C, p.m, p.d⟩ false _ (by simp [hn1])).mono ?_); rintro e w2 ⟨rfl, hbw2⟩; obtain ⟨R0, L0, F0⟩ := B40 w2 w; obtain ⟨R1, L1, F1⟩ := B41 w2 w; obtain ⟨R2, L2, F2⟩ := B42 w2 w)
  | (go_at_call 262; (with_reducible refine (Z7p q _ hq).mono ?_); rintro e w3 ⟨rfl, hbw3⟩; obtain ⟨R0, L0, F0⟩ := B40 w3 w; obtain ⟨R1, L1, F1⟩ := B41 w3 w; obtain ⟨R2, L2, F2⟩ := B42 w3 w)
  | (go_at_call 262; (with_reducible refine (Z2E p z _ IX hz).mono ?_); rintro e w4 ⟨rfl, hbw4⟩; obtain ⟨R0, L0, F0⟩ := B40 w4 w; obtain ⟨R1, L1, F1⟩ := B41 w4 w; obtain ⟨R2, L2, F2⟩ := B42 w4 w)
  | (go_at_call 93; (with_reducible refine (Zv 1 _ (by decide) (by decide)).mono ?_); refine rI ?_; intro w6 sw6 Aw6 nw6 cw6 Hw6 hbw6; obtain ⟨R0, L0, F0⟩ := B40 w6 w; obtain ⟨R1, L1, F1⟩ := B41 w6 w; obtain ⟨R2, L2, F2⟩ := B42 w6 w)
  | (go_at_call 232; (with_reducible refine (ZA _ _ _ _ 1 _ IX).mono ?_); rintro e w7 ⟨pw7, rfl, hQ, hbw7⟩; have Hw7 := zH hQ; clear hQ; obtain ⟨R0, L0, F0⟩ := B40 w7 w; obtain ⟨R1, L1, F1⟩ := B41 w7 w; obtain ⟨R2, L2, F2⟩ := B42 w7 w))
 all_goals refine bodyPost_ret (v := .agg (ZC pw7)) (by simp [ZC, results, results237, go_sem, Z6, F2]) rfl ⟨pw7, rfl, IX, EX⟩
theorem Zm (p q : PV) (w : World) (hq : q.At w 1) :
  Ca 239 #[.agg (Z4z p.lv p), .agg (ZC q)] w (Z1R w (.agg (Z4z p.lv p))) := by
 obtain ⟨lv, s, A, n, c, C, m, d⟩ := q
 have hqs : s = false := hq.sgn.trans (by decide)
 subst hqs
 have HQ := zH hq
 clear hq
 show Ca 239 #[.agg #[.int .i64 p.lv, .bool p.s, .slice p.A p.n p.c, .slice p.C p.m p.d], .agg #[.int .i64 0, .bool false, .slice A n c, .slice C m d]] w _
 cases hb : (decide (p.lv = 0) && decide (p.n = 0))
 ·replace hb := zH hb
  go_enter func239, ntmps239
  go_wp2_with (
  first
  | (go_at_call 243; (with_reducible refine (Zj p false _ (hb.out)).mono ?_); rintro e w1 ⟨rfl, hbw1⟩; obtain ⟨R0, L0, F0⟩ := B40 w1 w; obtain ⟨R1, L1, F1⟩ := B41 w1 w; obtain ⟨R2, L2, F2⟩ := B42 w1 w)
  | (go_at_call 262; (with_reducible refine (Z2E ⟨0, false, A, n, c, C, m, d⟩ 1 _ IX (Or.inl rfl)).mono ?_); rintro e w2 ⟨rfl, hbw2⟩; obtain ⟨R0, L0, F0⟩ := B40 w2 w; obtain ⟨R1, L1, F1⟩ := B41 w2 w; obtain ⟨R2, L2, F2⟩ := B42 w2 w))
  all_goals refine bodyPost_ret (v := .agg (Z4z p.lv p)) (by simp [Z4z, results, results239, go_sem, Z6, F2]) rfl ⟨rfl, EX⟩
 ·replace hb := zH hb
  go_enter func239, ntmps239
  go_wp2_with (
  first
  | (go_at_call 243; (with_reducible refine (Zj p true _ (hb.out)).mono ?_); rintro e w1 ⟨rfl, hbw1⟩; obtain ⟨R0, L0, F0⟩ := B40 w1 w; obtain ⟨R1, L1, F1⟩ := B41 w1 w; obtain ⟨R2, L2, F2⟩ := B42 w1 w))
  all_goals refine bodyPost_ret (v := .agg (Z4z p.lv p)) (by simp [Z4z, results, results239, go_sem, Z6, F2]) rfl ⟨rfl, EX⟩
theorem Z0y (p q : PV) (z : Int) (w : World) (hp : p.At w z) (hq : q.At w 1) (hz : z = 1 ∨ z = -1) :
  Ca 236 #[.agg (ZC p), .agg (ZC q)] w (Z1R w (.agg (Z2j p q))) := by
 have hn1 : p.n ≠ 0 := fun e => by have := hp.zero_iff.1 e; omega
 have hn2 : q.n ≠ 0 := fun e => by have := hq.zero_iff.1 e; omega
 have HP := zH hp
 have HQ := zH hq
 clear hp hq
 dsimp only [ZC, Z2j]
 go_enter func236, ntmps236
 go_wp2_with (
  first
  | (go_at_call 243; (with_reducible refine (Zj ⟨0, p.s, p.A, p.n, p.c, p.C, p.m, p.d⟩ false _ (by simp [hn1])).mono ?_); rintro e w1 ⟨rfl, hbw1⟩; obtain ⟨R0, L0, F0⟩ := B40 w1 w; obtain ⟨R1, L1, F1⟩ := B41 w1 w; obtain ⟨R2, L2, F2⟩ := B82 w1 w)
  | (go_at_call 237; (with_reducible refine (Z10 p ⟨0, q.s, q.A, q.n, q.c, q.C, q.m, q.d⟩ z _ IX hz (by simp [hn2])).mono ?_); rintro e w2 ⟨pw2, rfl, hQ, hbw2⟩; have Hw2 := zH hQ; clear hQ; obtain ⟨R0, L0, F0⟩ := B40 w2 w; obtain ⟨R1, L1, F1⟩ := B41 w2 w; obtain ⟨R2, L2, F2⟩ := B82 w2 w))
 go_region_held3 (fun w' => zC w' w.heap.size 0 (.int .i64 0) ∧ zC w' w.heap.size 1 (.bool p.s) ∧ zC w' w.heap.size 2 (.slice p.A p.n p.c) ∧ zC w' w.heap.size 3 (.slice p.C p.m p.d) ∧ zC w' ((w.heap.size + 1)) 0 (.int .i64 0) ∧ zC w' ((w.heap.size + 1)) 1 (.bool q.s) ∧ zC w' ((w.heap.size + 1)) 2 (.slice q.A q.n q.c) ∧ zC w' ((w.heap.size + 1)) 3 (.slice q.C q.m q.d) ∧ zC w' w2.heap.size 0 (.int .i64 0) ∧ zC w' w2.heap.size 1 (.bool pw2.s) ∧ zC w' w2.heap.size 2 (.slice pw2.A pw2.n pw2.c) ∧ zC w' w2.heap.size 3 (.slice pw2.C pw2.m pw2.d)) (first | (exact KQ) | (simp [go_sem, *]; done)) (first | (go_at_call 239; (with_reducible refine (Zm ⟨0, p.s, p.A, p.n, p.c, p.C, p.m, p.d⟩ pw2 _ IX).mono ?_); rintro e w3 ⟨rfl, hbw3⟩; obtain ⟨R0, L0, F0⟩ := B40 w3 w; obtain ⟨R1, L1, F1⟩ := B41 w3 w; obtain ⟨R2, L2, F2⟩ := B82 w3 w; obtain ⟨R5, L5, F5⟩ := BC4 w3 w2.heap.size) | (go_at_call 239; (with_reducible refine (Zm ⟨0, q.s, q.A, q.n, q.c, q.C, q.m, q.d⟩ pw2 _ IX).mono ?_); rintro e w4 ⟨rfl, hbw4⟩; obtain ⟨R0, L0, F0⟩ := B40 w4 w; obtain ⟨R1, L1, F1⟩ := B41 w4 w; obtain ⟨R2, L2, F2⟩ := B82 w4 w; obtain ⟨R5, L5, F5⟩ := BC4 w4 w2.heap.size) | (go_at_call 197; (with_reducible refine (Z24 ⟨0, p.s, p.A, p.n, p.c, p.C, p.m, p.d⟩ q 1 _ IX (by decide) (by rw [Z1c]; decide)).mono ?_); rintro e w5 ⟨rfl, hbw5⟩; obtain ⟨R0, L0, F0⟩ := B40 w5 w; obtain ⟨R1, L1, F1⟩ := B41 w5 w; obtain ⟨R2, L2, F2⟩ := B82 w5 w; obtain ⟨R5, L5, F5⟩ := BC4 w5 w2.heap.size))
 all_goals go_wp2
 all_goals refine bodyPost_ret (v := .agg (Z2j p q)) (by simp [Z2j, results, results236, go_sem, Z6, F2]) rfl ⟨rfl, EX⟩
theorem Z0v (p q : PV) (x y : Int) (w : World) (hp : p.At w x) (hq : q.At w y) (h1 : p.n < 1000) (h2 : q.n < 1000) :
  Ca 242 #[.agg (ZC p), .agg (ZC q)] w (Z72 w (x + y)) := by
 have hmw : 100000 < Z8 := by decide
 have HP := zH hp
 have HQ := zH hq
 clear hp hq
 dsimp only [ZC]
 go_enter func242, ntmps242
 go_wp2_with (
  first
  | (go_at_call 102; (with_reducible refine (Z40 (h1 := IX) (h2 := IX) (hs1 := by omega) (hs2 := by omega)).mono ?_); refine rI ?_; intro w1 sw1 Aw1 nw1 cw1 Hw1 hbw1; obtain ⟨R0, L0, F0⟩ := B40 w1 w; obtain ⟨R1, L1, F1⟩ := B41 w1 w; obtain ⟨R2, L2, F2⟩ := B42 w1 w)
  | (go_at_call 232; (with_reducible refine (ZA _ _ _ _ (x + y) _ IX).mono ?_); rintro e w2 ⟨pw2, rfl, hQ, hbw2⟩; have Hw2 := zH hQ; clear hQ; obtain ⟨R0, L0, F0⟩ := B40 w2 w; obtain ⟨R1, L1, F1⟩ := B41 w2 w; obtain ⟨R2, L2, F2⟩ := B42 w2 w))
 all_goals refine bodyPost_ret (v := .agg (ZC pw2)) (by simp [ZC, results, results242, go_sem, Z6, F2]) rfl ⟨pw2, rfl, IX, EX⟩
theorem Z0u (p q : PV) (x y : Int) (w : World) (hp : p.At w x) (hq : q.At w y) (h1 : p.n < 1000) (h2 : q.n < 1000) :
  Ca 238 #[.agg (ZC p), .agg (ZC q)] w (Z72 w (x * y)) := by
 have hmw : 100000 < Z8 := by decide
 have hz1 := hp.zero_iff
 have hz2 := hq.zero_iff
 have HP := zH hp
 have HQ := zH hq
 clear hp hq
 by_cases e1 : p.n = 0
 ·have ex : x = 0 := hz1.1 e1
  rw [ex, Int.zero_mul]
  clear ex hz1 hz2
  replace e1 := zH e1
  dsimp only [ZC]
  go_enter func238, ntmps238
  go_wp2_with (
  first
  | (go_at_call 243; (with_reducible refine (Zj ⟨0, p.s, p.A, p.n, p.c, p.C, p.m, p.d⟩ true _ (by simp [e1.out])).mono ?_); rintro e w1 ⟨rfl, hbw1⟩; obtain ⟨R0, L0, F0⟩ := B40 w1 w; obtain ⟨R1, L1, F1⟩ := B41 w1 w; obtain ⟨R2, L2, F2⟩ := B42 w1 w)
  | (go_at_call 93; (with_reducible refine (Zv 0 _ (by decide) (by decide)).mono ?_); refine rI ?_; intro w6 sw6 Aw6 nw6 cw6 Hw6 hbw6; obtain ⟨R0, L0, F0⟩ := B40 w6 w; obtain ⟨R1, L1, F1⟩ := B41 w6 w; obtain ⟨R2, L2, F2⟩ := B42 w6 w)
  | (go_at_call 232; (with_reducible refine (ZA _ _ _ _ 0 _ IX).mono ?_); rintro e w7 ⟨pw7, rfl, hQ, hbw7⟩; have Hw7 := zH hQ; clear hQ; obtain ⟨R0, L0, F0⟩ := B40 w7 w; obtain ⟨R1, L1, F1⟩ := B41 w7 w; obtain ⟨R2, L2, F2⟩ := B42 w7 w))
  all_goals refine bodyPost_ret (v := .agg (ZC pw7)) (by simp [ZC, results, results238, go_sem, Z6, F2]) rfl ⟨pw7, rfl, IX, EX⟩
 ·by_cases e2 : q.n = 0
  ·have ey : y = 0 := hz2.1 e2
   rw [ey, Int.mul_zero]
   clear ey hz1 hz2
   replace e2 := zH e2
   go_enter func238, ntmps238
   go_wp2_with (
  first
  | (go_at_call 243; (with_reducible refine (Zj ⟨0, p.s, p.A, p.n, p.c, p.C, p.m, p.d⟩ false _ (by simp [e1])).mono ?_); rintro e w1 ⟨rfl, hbw1⟩; obtain ⟨R0, L0, F0⟩ := B40 w1 w; obtain ⟨R1, L1, F1⟩ := B41 w1 w; obtain ⟨R2, L2, F2⟩ := B42 w1 w)
  | (go_at_call 243; (with_reducible refine (Zj ⟨0, q.s, q.A, q.n, q.c, q.C, q.m, q.d⟩ true _ (by simp [e2.out])).mono ?_); rintro e w2 ⟨rfl, hbw2⟩; obtain ⟨R0, L0, F0⟩ := B40 w2 w; obtain ⟨R1, L1, F1⟩ := B41 w2 w; obtain ⟨R2, L2, F2⟩ := B42 w2 w)
  | (go_at_call 93; (with_reducible refine (Zv 0 _ (by decide) (by decide)).mono ?_); refine rI ?_; intro w6 sw6 Aw6 nw6 cw6 Hw6 hbw6; obtain ⟨R0, L0, F0⟩ := B40 w6 w; obtain ⟨R1, L1, F1⟩ := B41 w6 w; obtain ⟨R2, L2, F2⟩ := B42 w6 w)
  | (go_at_call 232; (with_reducible refine (ZA _ _ _ _ 0 _ IX).mono ?_); rintro e w7 ⟨pw7, rfl, hQ, hbw7⟩; have Hw7 := zH hQ; clear hQ; obtain ⟨R0, L0, F0⟩ := B40 w7 w; obtain ⟨R1, L1, F1⟩ := B41 w7 w; obtain ⟨R2, L2, F2⟩ := B42 w7 w))
   all_goals refine bodyPost_ret (v := .agg (ZC pw7)) (by simp [ZC, results, results238, go_sem, Z6, F2]) rfl ⟨pw7, rfl, IX, EX⟩
  ·clear hz1 hz2
   go_enter func238, ntmps238
   go_wp2_with (
  first
  | (go_at_call 243; (with_reducible refine (Zj ⟨0, p.s, p.A, p.n, p.c, p.C, p.m, p.d⟩ false _ (by simp [e1])).mono ?_); rintro e w1 ⟨rfl, hbw1⟩; obtain ⟨R0, L0, F0⟩ := B40 w1 w; obtain ⟨R1, L1, F1⟩ := B41 w1 w; obtain ⟨R2, L2, F2⟩ := B42 w1 w)
  | (go_at_call 243; (with_reducible refine (Zj ⟨0, q.s, q.A, q.n, q.c, q.C, q.m, q.d⟩ false _ (by simp [e2])).mono ?_); rintro e w2 ⟨rfl, hbw2⟩; obtain ⟨R0, L0, F0⟩ := B40 w2 w; obtain ⟨R1, L1, F1⟩ := B41 w2 w; obtain ⟨R2, L2, F2⟩ := B42 w2 w)
  | (go_at_call 91; (with_reducible refine (ZT (h1 := IX) (h2 := IX) (hs := by omega)).mono ?_); refine rI ?_; intro w3 sw3 Aw3 nw3 cw3 Hw3 hbw3; obtain ⟨R0, L0, F0⟩ := B40 w3 w; obtain ⟨R1, L1, F1⟩ := B41 w3 w; obtain ⟨R2, L2, F2⟩ := B42 w3 w)
  | (go_at_call 232; (with_reducible refine (ZA _ _ _ _ (x * y) _ IX).mono ?_); rintro e w4 ⟨pw4, rfl, hQ, hbw4⟩; have Hw4 := zH hQ; clear hQ; obtain ⟨R0, L0, F0⟩ := B40 w4 w; obtain ⟨R1, L1, F1⟩ := B41 w4 w; obtain ⟨R2, L2, F2⟩ := B42 w4 w))
   all_goals refine bodyPost_ret (v := .agg (ZC pw4)) (by simp [ZC, results, results238, go_sem, Z6, F2]) rfl ⟨pw4, rfl, IX, EX⟩
theorem Z7r (g d : Nat) (p0 p1 q : PV) (x0 x1 z : Int) (w : World) (h : CK w g (zL2 p0 p1)) (hd : 2 ≤ d) (h0 : p0.At w x0) (h1 : p1.At w x1) (hq : q.At w z) (n0 : p0.n < 400) (n1 : p1.n < 400) (nq : q.n < 400) (hx1 : x1 * z ≠ 0) :
  Ca 238 #[.agg (Z3f g d), .agg (ZC q)] w (ZbS w (x0 * z) (x1 * z)) := by
 have hmw : 100000 < Z8 := by decide
 have hqn : q.n ≠ 0 := fun e => hx1 (by rw [hq.zero_iff.1 e]; simp)
 have k0 := Nat.le_of_eq h0.wl.symm
 have k1 := Nat.le_of_eq h1.wl.symm
 have k2 := Nat.le_of_eq hq.wl.symm
 have H0 := zH h0
 have H1 := zH h1
 have HQ := zH hq
 have hg := h.lt
 have Fx := h.c8
 have hmk : ∀ W : World, (Instr.makeSlice 174 (.int .i64 2) (.int .i64 2)).run Tryz.prog W = .ok (.slice (some ⟨W.heap.size, 0, none⟩) 2 2) (W.alloc (.cells #[.int .i64 0, .bool false, .slice none 0 0, .slice none 0 0, .int .i64 0, .bool false, .slice none 0 0, .slice none 0 0] 176)) := fun W => Z4J 2 [.int .i64 0, .bool false, .slice none 0 0, .slice none 0 0, .int .i64 0, .bool false, .slice none 0 0, .slice none 0 0] (by decide) (by kernel_rfl) W
 have hw0 : wl (0 : Int) ≤ 0 := by decide +kernel
 have ww1 : IntKind.i64.wrap (0 - 0) = 0 := by decide
 have ww2 : IntKind.i64.wrap (1 - 1) = 0 := by decide
 have ww3 : IntKind.i64.wrap (1 - 0) = 1 := by decide
 have ww4 : IntKind.i64.wrap 0 = 0 := by decide
 have ww5 : IntKind.i64.wrap 1 = 1 := by decide
 have mm1 : max (1 : Int) 0 = 1 := by decide
 have mm2 : max (0 : Int) 1 = 1 := by decide
 have mm3 : max (0 : Int) (-1) = 0 := by decide
 have mm4 : min (0 : Int) 1 = 0 := by decide
 have mm5 : min (1 : Int) 0 = 0 := by decide
 clear h0 h1 hq
 dsimp only [Z3f, ZC]
 go_enter func238, ntmps238
 go_wp2_with (
  first
  | (go_at_call 243; (with_reducible refine (Zj ⟨1, false, none, 0, 0, some ⟨g, 0, none⟩, 2, d⟩ false _ (by simp)).mono ?_); rintro e w1 ⟨rfl, hbw1⟩; have := hbw1.sz; obtain ⟨R0, L0, F0⟩ := B40 w1 w; obtain ⟨R1, L1, F1⟩ := B41 w1 w; obtain ⟨R2, L2, F2⟩ := B42 w1 w)
  | (go_at_call 243; (with_reducible refine (Zj ⟨0, q.s, q.A, q.n, q.c, q.C, q.m, q.d⟩ false _ (by simp [hqn])).mono ?_); rintro e w2 ⟨rfl, hbw2⟩; have := hbw2.sz; obtain ⟨R0, L0, F0⟩ := B40 w2 w; obtain ⟨R1, L1, F1⟩ := B41 w2 w; obtain ⟨R2, L2, F2⟩ := B42 w2 w)
  | (go_at_call 235; (with_reducible refine (Z1a g d _).mono ?_); rintro e w3 ⟨rfl, hbw3⟩; have := hbw3.sz; obtain ⟨R0, L0, F0⟩ := B40 w3 w; obtain ⟨R1, L1, F1⟩ := B41 w3 w; obtain ⟨R2, L2, F2⟩ := B42 w3 w)
  | (go_at_call 235; (with_reducible refine (Z1b q hqn _).mono ?_); rintro e w4 ⟨gw4, rfl, hCw4, hgew4, hltw4, hbw4⟩; (try simp only [SZ] at hgew4); have := hbw4.sz; obtain ⟨R0, L0, F0⟩ := B40 w4 w; obtain ⟨R1, L1, F1⟩ := B41 w4 w; obtain ⟨R2, L2, F2⟩ := B42 w4 w))
 refine wp_loop_rounds 3 ?_
 rw [rounds_succ]
 go_wp2_with (
  first
  | (go_at_call 93; (with_reducible refine (Zv 0 _ (by decide) (by decide)).mono ?_); rintro e wa0 ⟨swa0, Awa0, nwa0, cwa0, rfl, hQ, hbwa0⟩; have Hwa0 := zH hQ; have Nwa0 := Nat.le_of_eq hQ.wl; clear hQ; have := hbwa0.sz; obtain ⟨R0, L0, F0⟩ := B40 wa0 w; obtain ⟨R1, L1, F1⟩ := B41 wa0 w; obtain ⟨R2, L2, F2⟩ := B42 wa0 w; obtain ⟨Ro, Lo, Fo⟩ := BC8 wa0 w4.heap.size; have Rx : CK wa0 (g) (zL2 p0 p1) := CX; have Lx := Rx.lt; have Fx := Rx.c8; have Ry : CK wa0 (gw4) (zL8 q) := CX; have Ly := Ry.lt; have Fy := Ry.c4)
  | (go_at_call 232; (with_reducible refine (ZA _ _ _ _ 0 _ IX).mono ?_); rintro e wb0 ⟨pwb0, rfl, hQ, hbwb0⟩; have Hwb0 := zH hQ; have Nwb0 := Nat.le_of_eq hQ.wl; clear hQ; have := hbwb0.sz; obtain ⟨R0, L0, F0⟩ := B40 wb0 w; obtain ⟨R1, L1, F1⟩ := B41 wb0 w; obtain ⟨R2, L2, F2⟩ := B42 wb0 w; obtain ⟨Ro, Lo, Fo⟩ := BC8 wb0 w4.heap.size; have Rx : CK wb0 (g) (zL2 p0 p1) := CX; have Lx := Rx.lt; have Fx := Rx.c8; have Ry : CK wb0 (gw4) (zL8 q) := CX; have Ly := Ry.lt; have Fy := Ry.c4))
 refine wp_loop_rounds 2 ?_
 rw [rounds_succ]
 go_wp2_with fail
 refine ZQ 89 [(4, .pointer (some ⟨w.heap.size + 1 + 1, 0, none⟩)), (5, .int .i64 1), (6, .slice (some ⟨g, 0, none⟩) 2 d), (7, .slice (some ⟨gw4, 0, none⟩) 1 1), (8, .slice (some ⟨w4.heap.size, 0, none⟩) 2 2), (9, .int .i64 0), (10, .pointer (some ⟨wb0.heap.size, 0, none⟩)), (11, .int .i64 0)] (fun W => Ext w W ∧ BK W (w.heap.size + 1 + 1) Z8W ∧ BK W w4.heap.size Z7I ∧ BK W wb0.heap.size (ZC pwb0) ∧ CK W g (zL2 p0 p1) ∧ CK W gw4 (zL8 q) ∧ IAt W pwb0.s pwb0.A pwb0.n pwb0.c 0) ⟨EX, BY, BY, BY, CX, CX, IX⟩ ?_
 rintro W0 U ⟨hW0, Q2, Qo, Qc, Qx, Qy, hpb⟩
 dsimp only [fr, frl, Nat.reduceBEq, Nat.reduceAdd, cond_true, cond_false]
 have U2 := Q2.lt
 have Uo := Qo.lt
 have Uc := Qc.lt
 have Ux := Qx.lt
 have Uy := Qy.lt
 have FF := And.intro Qc.ca (And.intro Qx.ca Qy.ca); dsimp only [CA, CC, Nat.reduceAdd] at FF
 have Hpb := zH hpb
 clear hpb
 refine Zc (fun a' w' => ∃ (pd : PV) (U : Nat → Value), a' = fr 89 U [(4, .pointer (some ⟨w.heap.size + 1 + 1, 0, none⟩)), (5, .int .i64 1), (6, .slice (some ⟨g, 0, none⟩) 2 d), (7, .slice (some ⟨gw4, 0, none⟩) 1 1), (8, .slice (some ⟨w4.heap.size, 0, none⟩) 2 2), (9, .int .i64 0), (10, .pointer (some ⟨wb0.heap.size, 0, none⟩)), (11, .int .i64 0)] ∧ BK w' wb0.heap.size (ZC pd) ∧ pd.At w' (x0 * z) ∧ BK w' (w.heap.size + 1 + 1) Z8W ∧ BK w' w4.heap.size Z7I ∧ CK w' g (zL2 p0 p1) ∧ CK w' gw4 (zL8 q) ∧ Ext w w' ∧ W0.heap.size ≤ w'.heap.size) (fun w' => CB w' g 0 (zL8 p0) ∧ CB w' gw4 0 (zL8 q)) Z0a ?rest (by dsimp only [CB, Nat.reduceAdd]; exact KQ) ?expl
 case expl =>
  dsimp only [CB, Nat.reduceAdd]
  intro hHeld
  refine TH 1 ?_; refine TH 2 ?_; refine TH 3 ?_; refine TH 4 ?_; refine TH 5 ?_; refine TH 6 ?_; refine TH 7 ?_; refine TH 8 ?_; refine TH 9 ?_; refine TH 10 ?_
  refine RDH [0, 11] ?_
  refine ARH (fun K hK => ?_) ?_
  ·go_simp
   refine KH hK fun _ => ?_; clear hK K
   refine R1H 11 fun K hK => ?_
   go_simp
   refine (Z0u p0 q x0 z _ IX IX (by omega) (by omega)).mono ?_; rintro e wc ⟨pwc, rfl, hQ, hbwc⟩; have Hwc := zH hQ; clear hQ; have Nwc := Nat.le_of_eq Hwc.out.wl; have := hbwc.sz; obtain ⟨_, _, T⟩ := BC4 wc wb0.heap.size
   refine KH hK fun _ => ?_; clear hK K
   refine R1H 12 fun K hK => ?_
   go_simp
   refine ((Int.zero_add (x0 * z) ▸ Z0v pwb0 pwc 0 (x0 * z) _ IX IX (by omega) (by have := ZD x0 z; omega))).mono ?_; rintro e wd ⟨pwd, rfl, hQ, hbwd⟩; have Hwd := zH hQ; clear hQ; have := hbwd.sz; obtain ⟨_, _, T⟩ := BC4 wd wb0.heap.size
   refine KH hK fun _ => ?_; clear hK K
   refine R1H 13 fun K hK => ?_
   go_simp
   refine KH hK fun _ => ?_; clear hK K
   refine wpAnyH_done (by kernel_rfl) ?_ _
   refine ⟨pwd, _, Zr _ _, ?_, ?_, ?_, ?_, ?_, ?_, ?_, ?_⟩
   ·exact BY
   ·exact IX
   ·exact BY
   ·exact BY
   ·exact CX
   ·exact CX
   ·exact EX
   ·(try simp only [SZ]); omega
  refine ARH (fun K hK => ?_) ?_
  ·go_simp
   refine (Z0u p0 q x0 z _ IX IX (by omega) (by omega)).mono ?_; rintro e wc ⟨pwc, rfl, hQ, hbwc⟩; have Hwc := zH hQ; clear hQ; have Nwc := Nat.le_of_eq Hwc.out.wl; have := hbwc.sz; obtain ⟨_, _, T⟩ := BC4 wc wb0.heap.size
   refine KH hK fun _ => ?_; clear hK K
   refine R1H 0 fun K hK => ?_
   go_simp
   refine KH hK fun _ => ?_; clear hK K
   refine R1H 12 fun K hK => ?_
   go_simp
   refine ((Int.zero_add (x0 * z) ▸ Z0v pwb0 pwc 0 (x0 * z) _ IX IX (by omega) (by have := ZD x0 z; omega))).mono ?_; rintro e wd ⟨pwd, rfl, hQ, hbwd⟩; have Hwd := zH hQ; clear hQ; have := hbwd.sz; obtain ⟨_, _, T⟩ := BC4 wd wb0.heap.size
   refine KH hK fun _ => ?_; clear hK K
   refine R1H 13 fun K hK => ?_
   go_simp
   refine KH hK fun _ => ?_; clear hK K
   refine wpAnyH_done (by kernel_rfl) ?_ _
   refine ⟨pwd, _, Zr _ _, ?_, ?_, ?_, ?_, ?_, ?_, ?_, ?_⟩
   ·exact BY
   ·exact IX
   ·exact BY
   ·exact BY
   ·exact CX
   ·exact CX
   ·exact EX
   ·(try simp only [SZ]); omega
  exact AllReadyH.nil
 case rest =>
  rintro a' We0 ⟨pd0, U, rfl, B1, hpd, B2, B3, C1, C2, hWe0, S0⟩
  dsimp only [fr, frl, Nat.reduceBEq, Nat.reduceAdd, cond_true, cond_false]
  have Hpd0 := zH hpd
  have U2 := B2.lt
  have Uo := B3.lt
  have Uc := B1.lt
  have Ux := C1.lt
  have Uy := C2.lt
  clear hpd Q2 Qo Qc Qx Qy
  (try clear FF)
  have FF := And.intro B1.ca (And.intro B3.ca (And.intro C1.ca C2.ca)); dsimp only [CA, CC, Nat.reduceAdd] at FF
  go_wp2_with fail
  rw [rounds_succ]
  go_wp2_with fail
  rw [rounds_succ]
  go_wp2_with (
   first
   | (go_at_call 93; (with_reducible refine (Zv 0 _ (by decide) (by decide)).mono ?_); rintro e wa1 ⟨swa1, Awa1, nwa1, cwa1, rfl, hQ, hbwa1⟩; have Hwa1 := zH hQ; have Nwa1 := Nat.le_of_eq hQ.wl; clear hQ; have := hbwa1.sz; obtain ⟨R2, L2, F2⟩ := B42 wa1 w; obtain ⟨Ro, Lo, Fo⟩ := BC8 wa1 w4.heap.size; have Rx : CK wa1 (g) (zL2 p0 p1) := CX; have Lx := Rx.lt; have Fx := Rx.c8; have Ry : CK wa1 (gw4) (zL8 q) := CX; have Ly := Ry.lt; have Fy := Ry.c4)
   | (go_at_call 232; (with_reducible refine (ZA _ _ _ _ 0 _ IX).mono ?_); rintro e wb1 ⟨pwb1, rfl, hQ, hbwb1⟩; have Hwb1 := zH hQ; have Nwb1 := Nat.le_of_eq hQ.wl; clear hQ; have := hbwb1.sz; obtain ⟨R2, L2, F2⟩ := B42 wb1 w; obtain ⟨Ro, Lo, Fo⟩ := BC8 wb1 w4.heap.size; have Rx : CK wb1 (g) (zL2 p0 p1) := CX; have Lx := Rx.lt; have Fx := Rx.c8; have Ry : CK wb1 (gw4) (zL8 q) := CX; have Ly := Ry.lt; have Fy := Ry.c4))
  refine wp_loop_rounds 2 ?_
  rw [rounds_succ]
  go_wp2_with fail
  refine ZQ 89 [(4, .pointer (some ⟨w.heap.size + 1 + 1, 0, none⟩)), (5, .int .i64 1), (6, .slice (some ⟨g, 0, none⟩) 2 d), (7, .slice (some ⟨gw4, 0, none⟩) 1 1), (8, .slice (some ⟨w4.heap.size, 0, none⟩) 2 2), (9, .int .i64 1), (10, .pointer (some ⟨wb1.heap.size, 0, none⟩)), (11, .int .i64 1)] (fun W => Ext w W ∧ pd0.At W (x0 * z) ∧ BK W (w.heap.size + 1 + 1) Z8W ∧ BK W w4.heap.size (Zc2 pd0) ∧ BK W wb1.heap.size (ZC pwb1) ∧ CK W g (zL2 p0 p1) ∧ CK W gw4 (zL8 q) ∧ IAt W pwb1.s pwb1.A pwb1.n pwb1.c 0) ⟨EX, IX, BY, BY, BY, CX, CX, IX⟩ ?_
  rintro W1 U ⟨hW1, hpd0, Q2, Qo, Qc, Qx, Qy, hpb⟩
  dsimp only [fr, frl, Nat.reduceBEq, Nat.reduceAdd, cond_true, cond_false]
  have U2 := Q2.lt
  have Uo := Qo.lt
  have Uc := Qc.lt
  have Ux := Qx.lt
  have Uy := Qy.lt
  have FF := And.intro Qc.ca (And.intro Qx.ca Qy.ca); dsimp only [CA, CC, Nat.reduceAdd] at FF
  have Hpb := zH hpb
  clear hpb
  clear Hpd0
  have Hpd0 := zH hpd0
  clear hpd0
  refine Zc (fun a' w' => ∃ (pd : PV) (U : Nat → Value), a' = fr 89 U [(4, .pointer (some ⟨w.heap.size + 1 + 1, 0, none⟩)), (5, .int .i64 1), (6, .slice (some ⟨g, 0, none⟩) 2 d), (7, .slice (some ⟨gw4, 0, none⟩) 1 1), (8, .slice (some ⟨w4.heap.size, 0, none⟩) 2 2), (9, .int .i64 1), (10, .pointer (some ⟨wb1.heap.size, 0, none⟩)), (11, .int .i64 1)] ∧ BK w' wb1.heap.size (ZC pd) ∧ pd.At w' (x1 * z) ∧ pd0.At w' (x0 * z) ∧ BK w' (w.heap.size + 1 + 1) Z8W ∧ BK w' w4.heap.size (Zc2 pd0) ∧ CK w' g (zL2 p0 p1) ∧ CK w' gw4 (zL8 q) ∧ Ext w w' ∧ W1.heap.size ≤ w'.heap.size) (fun w' => CB w' g 4 (zL8 p1) ∧ CB w' gw4 0 (zL8 q)) Z0a ?rest (by dsimp only [CB, Nat.reduceAdd]; exact KQ) ?expl
  case expl =>
   dsimp only [CB, Nat.reduceAdd]
   intro hHeld
   refine TH 1 ?_; refine TH 2 ?_; refine TH 3 ?_; refine TH 4 ?_; refine TH 5 ?_; refine TH 6 ?_; refine TH 7 ?_; refine TH 8 ?_; refine TH 9 ?_; refine TH 10 ?_
   refine RDH [0, 11] ?_
   refine ARH (fun K hK => ?_) ?_
   ·go_simp
    refine KH hK fun _ => ?_; clear hK K
    refine R1H 11 fun K hK => ?_
    go_simp
    refine (Z0u p1 q x1 z _ IX IX (by omega) (by omega)).mono ?_; rintro e wc ⟨pwc, rfl, hQ, hbwc⟩; have Hwc := zH hQ; clear hQ; have Nwc := Nat.le_of_eq Hwc.out.wl; have := hbwc.sz; obtain ⟨_, _, T⟩ := BC4 wc wb1.heap.size
    refine KH hK fun _ => ?_; clear hK K
    refine R1H 12 fun K hK => ?_
    go_simp
    refine ((Int.zero_add (x1 * z) ▸ Z0v pwb1 pwc 0 (x1 * z) _ IX IX (by omega) (by have := ZD x1 z; omega))).mono ?_; rintro e wd ⟨pwd, rfl, hQ, hbwd⟩; have Hwd := zH hQ; clear hQ; have := hbwd.sz; obtain ⟨_, _, T⟩ := BC4 wd wb1.heap.size
    refine KH hK fun _ => ?_; clear hK K
    refine R1H 13 fun K hK => ?_
    go_simp
    refine KH hK fun _ => ?_; clear hK K
    refine wpAnyH_done (by kernel_rfl) ?_ _
    refine ⟨pwd, _, Zr _ _, ?_, ?_, ?_, ?_, ?_, ?_, ?_, ?_, ?_⟩
    ·exact BY
    ·exact IX
    ·exact IX
    ·exact BY
    ·exact BY
    ·exact CX
    ·exact CX
    ·exact EX
    ·(try simp only [SZ]); omega
   refine ARH (fun K hK => ?_) ?_
   ·go_simp
    refine (Z0u p1 q x1 z _ IX IX (by omega) (by omega)).mono ?_; rintro e wc ⟨pwc, rfl, hQ, hbwc⟩; have Hwc := zH hQ; clear hQ; have Nwc := Nat.le_of_eq Hwc.out.wl; have := hbwc.sz; obtain ⟨_, _, T⟩ := BC4 wc wb1.heap.size
    refine KH hK fun _ => ?_; clear hK K
    refine R1H 0 fun K hK => ?_
    go_simp
    refine KH hK fun _ => ?_; clear hK K
    refine R1H 12 fun K hK => ?_
    go_simp
    refine ((Int.zero_add (x1 * z) ▸ Z0v pwb1 pwc 0 (x1 * z) _ IX IX (by omega) (by have := ZD x1 z; omega))).mono ?_; rintro e wd ⟨pwd, rfl, hQ, hbwd⟩; have Hwd := zH hQ; clear hQ; have := hbwd.sz; obtain ⟨_, _, T⟩ := BC4 wd wb1.heap.size
    refine KH hK fun _ => ?_; clear hK K
    refine R1H 13 fun K hK => ?_
    go_simp
    refine KH hK fun _ => ?_; clear hK K
    refine wpAnyH_done (by kernel_rfl) ?_ _
    refine ⟨pwd, _, Zr _ _, ?_, ?_, ?_, ?_, ?_, ?_, ?_, ?_, ?_⟩
    ·exact BY
    ·exact IX
    ·exact IX
    ·exact BY
    ·exact BY
    ·exact CX
    ·exact CX
    ·exact EX
    ·(try simp only [SZ]); omega
   exact AllReadyH.nil
  case rest =>
   rintro a' We1 ⟨pd1, U, rfl, B1, hpd, hpd0, B2, B3, C1, C2, hWe1, S1⟩
   dsimp only [fr, frl, Nat.reduceBEq, Nat.reduceAdd, cond_true, cond_false]
   have Hpd1 := zH hpd
   clear Hpd0
   have Hpd0 := zH hpd0
   clear hpd0
   have U2 := B2.lt
   have Uo := B3.lt
   have Uc := B1.lt
   have Ux := C1.lt
   have Uy := C2.lt
   clear hpd Q2 Qo Qc Qx Qy
   (try clear FF)
   have FF := And.intro B1.ca (And.intro B3.ca (And.intro C1.ca C2.ca)); dsimp only [CA, CC, Nat.reduceAdd] at FF
   go_wp2_with fail
   rw [rounds_succ]
   go_wp2_with fail
   rw [rounds_succ]
   go_wp2_with (go_at_call 234; (with_reducible refine (Z1W w4.heap.size 2 pd0 pd1 (x0 * z) (x1 * z) _ (by decide) (by exact (BY : BK _ _ (Z2j pd0 pd1)).ck) IX hx1).mono ?_); rintro e we ⟨rfl, hbwe⟩; have := hbwe.sz; obtain ⟨R2, L2, F2⟩ := B42 we w; obtain ⟨Ro, Lo, Fo⟩ := BC8 we w4.heap.size)
   refine bodyPost_ret (v := .agg #[.int .i64 1, .bool false, .slice none 0 0, .slice (some ⟨w4.heap.size, 0, none⟩) 2 2]) (by simp [results, results238, go_sem, Z6, F2]) rfl ⟨_, _, pd0, pd1, rfl, by exact (BY : BK _ _ (Z2j pd0 pd1)).ck, IX, IX, by omega, by exact (BY : BK _ _ (Z2j pd0 pd1)).lt, EX⟩
theorem Z7s (g d : Nat) (p0 p1 q : PV) (x0 x1 z : Int) (w : World) (h : CK w g (zL2 p0 p1)) (hd : 2 ≤ d) (h0 : p0.At w x0) (h1 : p1.At w x1) (hq : q.At w z) (n0 : p0.n < 400) (n1 : p1.n < 400) (nq : q.n < 400) (hx1 : z * x1 ≠ 0) :
  Ca 238 #[.agg (ZC q), .agg (Z3f g d)] w (ZbS w (z * x0) (z * x1)) := by
 have hmw : 100000 < Z8 := by decide
 have hqn : q.n ≠ 0 := fun e => hx1 (by rw [hq.zero_iff.1 e]; simp)
 have k0 := Nat.le_of_eq h0.wl.symm
 have k1 := Nat.le_of_eq h1.wl.symm
 have k2 := Nat.le_of_eq hq.wl.symm
 have H0 := zH h0
 have H1 := zH h1
 have HQ := zH hq
 have hg := h.lt
 have Fx := h.c8
 have hmk : ∀ W : World, (Instr.makeSlice 174 (.int .i64 2) (.int .i64 2)).run Tryz.prog W = .ok (.slice (some ⟨W.heap.size, 0, none⟩) 2 2) (W.alloc (.cells #[.int .i64 0, .bool false, .slice none 0 0, .slice none 0 0, .int .i64 0, .bool false, .slice none 0 0, .slice none 0 0] 176)) := fun W => Z4J 2 [.int .i64 0, .bool false, .slice none 0 0, .slice none 0 0, .int .i64 0, .bool false, .slice none 0 0, .slice none 0 0] (by decide) (by kernel_rfl) W
 have hw0 : wl (0 : Int) ≤ 0 := by decide +kernel
 have ww1 : IntKind.i64.wrap (0 - 0) = 0 := by decide
 have ww2 : IntKind.i64.wrap (1 - 1) = 0 := by decide
 have ww3 : IntKind.i64.wrap (1 - 0) = 1 := by decide
 have ww4 : IntKind.i64.wrap 0 = 0 := by decide
 have ww5 : IntKind.i64.wrap 1 = 1 := by decide
 have mm1 : max (1 : Int) 0 = 1 := by decide
 have mm2 : max (0 : Int) 1 = 1 := by decide
 have mm3 : max (0 : Int) (-1) = 0 := by decide
 have mm4 : min (0 : Int) 1 = 0 := by decide
 have mm5 : min (1 : Int) 0 = 0 := by decide
 clear h0 h1 hq
 dsimp only [ZC, Z3f]
 go_enter func238, ntmps238
 go_wp2_with (
  first
  | (go_at_call 243; (with_reducible refine (Zj ⟨1, false, none, 0, 0, some ⟨g, 0, none⟩, 2, d⟩ false _ (by simp)).mono ?_); rintro e w1 ⟨rfl, hbw1⟩; have := hbw1.sz; obtain ⟨R0, L0, F0⟩ := B40 w1 w; obtain ⟨R1, L1, F1⟩ := B41 w1 w; obtain ⟨R2, L2, F2⟩ := B42 w1 w)
  | (go_at_call 243; (with_reducible refine (Zj ⟨0, q.s, q.A, q.n, q.c, q.C, q.m, q.d⟩ false _ (by simp [hqn])).mono ?_); rintro e w2 ⟨rfl, hbw2⟩; have := hbw2.sz; obtain ⟨R0, L0, F0⟩ := B40 w2 w; obtain ⟨R1, L1, F1⟩ := B41 w2 w; obtain ⟨R2, L2, F2⟩ := B42 w2 w)
  | (go_at_call 235; (with_reducible refine (Z1b q hqn _).mono ?_); rintro e w4 ⟨gw4, rfl, hCw4, hgew4, hltw4, hbw4⟩; (try simp only [SZ] at hgew4); have := hbw4.sz; obtain ⟨R0, L0, F0⟩ := B40 w4 w; obtain ⟨R1, L1, F1⟩ := B41 w4 w; obtain ⟨R2, L2, F2⟩ := B42 w4 w)
  | (go_at_call 235; (with_reducible refine (Z1a g d _).mono ?_); rintro e w3 ⟨rfl, hbw3⟩; have := hbw3.sz; obtain ⟨R0, L0, F0⟩ := B40 w3 w; obtain ⟨R1, L1, F1⟩ := B41 w3 w; obtain ⟨R2, L2, F2⟩ := B42 w3 w; have Ry : CK w3 (gw4) (zL8 q) := CX; have Ly := Ry.lt; have Fy := Ry.c4))
 refine wp_loop_rounds 3 ?_
 rw [rounds_succ]
 go_wp2_with (
  first
  | (go_at_call 93; (with_reducible refine (Zv 0 _ (by decide) (by decide)).mono ?_); rintro e wa0 ⟨swa0, Awa0, nwa0, cwa0, rfl, hQ, hbwa0⟩; have Hwa0 := zH hQ; have Nwa0 := Nat.le_of_eq hQ.wl; clear hQ; have := hbwa0.sz; obtain ⟨R0, L0, F0⟩ := B40 wa0 w; obtain ⟨R1, L1, F1⟩ := B41 wa0 w; obtain ⟨R2, L2, F2⟩ := B42 wa0 w; obtain ⟨Ro, Lo, Fo⟩ := BC8 wa0 w3.heap.size; have Rx : CK wa0 (g) (zL2 p0 p1) := CX; have Lx := Rx.lt; have Fx := Rx.c8; have Ry : CK wa0 (gw4) (zL8 q) := CX; have Ly := Ry.lt; have Fy := Ry.c4)
  | (go_at_call 232; (with_reducible refine (ZA _ _ _ _ 0 _ IX).mono ?_); rintro e wb0 ⟨pwb0, rfl, hQ, hbwb0⟩; have Hwb0 := zH hQ; have Nwb0 := Nat.le_of_eq hQ.wl; clear hQ; have := hbwb0.sz; obtain ⟨R0, L0, F0⟩ := B40 wb0 w; obtain ⟨R1, L1, F1⟩ := B41 wb0 w; obtain ⟨R2, L2, F2⟩ := B42 wb0 w; obtain ⟨Ro, Lo, Fo⟩ := BC8 wb0 w3.heap.size; have Rx : CK wb0 (g) (zL2 p0 p1) := CX; have Lx := Rx.lt; have Fx := Rx.c8; have Ry : CK wb0 (gw4) (zL8 q) := CX; have Ly := Ry.lt; have Fy := Ry.c4))
 refine wp_loop_rounds 2 ?_
 rw [rounds_succ]
 go_wp2_with fail
 refine ZQ 89 [(4, .pointer (some ⟨w.heap.size + 1 + 1, 0, none⟩)), (5, .int .i64 1), (6, .slice (some ⟨gw4, 0, none⟩) 1 1), (7, .slice (some ⟨g, 0, none⟩) 2 d), (8, .slice (some ⟨w3.heap.size, 0, none⟩) 2 2), (9, .int .i64 0), (10, .pointer (some ⟨wb0.heap.size, 0, none⟩)), (11, .int .i64 0)] (fun W => Ext w W ∧ BK W (w.heap.size + 1 + 1) Z8W ∧ BK W w3.heap.size Z7I ∧ BK W wb0.heap.size (ZC pwb0) ∧ CK W g (zL2 p0 p1) ∧ CK W gw4 (zL8 q) ∧ IAt W pwb0.s pwb0.A pwb0.n pwb0.c 0) ⟨EX, BY, BY, BY, CX, CX, IX⟩ ?_
 rintro W0 U ⟨hW0, Q2, Qo, Qc, Qx, Qy, hpb⟩
 dsimp only [fr, frl, Nat.reduceBEq, Nat.reduceAdd, cond_true, cond_false]
 have U2 := Q2.lt
 have Uo := Qo.lt
 have Uc := Qc.lt
 have Ux := Qx.lt
 have Uy := Qy.lt
 have FF := And.intro Qc.ca (And.intro Qx.ca Qy.ca); dsimp only [CA, CC, Nat.reduceAdd] at FF
 have Hpb := zH hpb
 clear hpb
 refine Zc (fun a' w' => ∃ (pd : PV) (U : Nat → Value), a' = fr 89 U [(4, .pointer (some ⟨w.heap.size + 1 + 1, 0, none⟩)), (5, .int .i64 1), (6, .slice (some ⟨gw4, 0, none⟩) 1 1), (7, .slice (some ⟨g, 0, none⟩) 2 d), (8, .slice (some ⟨w3.heap.size, 0, none⟩) 2 2), (9, .int .i64 0), (10, .pointer (some ⟨wb0.heap.size, 0, none⟩)), (11, .int .i64 0)] ∧ BK w' wb0.heap.size (ZC pd) ∧ pd.At w' (z * x0) ∧ BK w' (w.heap.size + 1 + 1) Z8W ∧ BK w' w3.heap.size Z7I ∧ CK w' g (zL2 p0 p1) ∧ CK w' gw4 (zL8 q) ∧ Ext w w' ∧ W0.heap.size ≤ w'.heap.size) (fun w' => CB w' g 0 (zL8 p0) ∧ CB w' gw4 0 (zL8 q)) Z0a ?rest (by dsimp only [CB, Nat.reduceAdd]; exact KQ) ?expl
 case expl =>
  dsimp only [CB, Nat.reduceAdd]
  intro hHeld
  refine TH 1 ?_; refine TH 2 ?_; refine TH 3 ?_; refine TH 4 ?_; refine TH 5 ?_; refine TH 6 ?_; refine TH 7 ?_; refine TH 8 ?_; refine TH 9 ?_; refine TH 10 ?_
  refine RDH [0, 11] ?_
  refine ARH (fun K hK => ?_) ?_
  ·go_simp
   refine KH hK fun _ => ?_; clear hK K
   refine R1H 11 fun K hK => ?_
   go_simp
   refine (Z0u q p0 z x0 _ IX IX (by omega) (by omega)).mono ?_; rintro e wc ⟨pwc, rfl, hQ, hbwc⟩; have Hwc := zH hQ; clear hQ; have Nwc := Nat.le_of_eq Hwc.out.wl; have := hbwc.sz; obtain ⟨_, _, T⟩ := BC4 wc wb0.heap.size
   refine KH hK fun _ => ?_; clear hK K
   refine R1H 12 fun K hK => ?_
   go_simp
   refine ((Int.zero_add (z * x0) ▸ Z0v pwb0 pwc 0 (z * x0) _ IX IX (by omega) (by have := ZD z x0; omega))).mono ?_; rintro e wd ⟨pwd, rfl, hQ, hbwd⟩; have Hwd := zH hQ; clear hQ; have := hbwd.sz; obtain ⟨_, _, T⟩ := BC4 wd wb0.heap.size
   refine KH hK fun _ => ?_; clear hK K
   refine R1H 13 fun K hK => ?_
   go_simp
   refine KH hK fun _ => ?_; clear hK K
   refine wpAnyH_done (by kernel_rfl) ?_ _
   refine ⟨pwd, _, Zr _ _, ?_, ?_, ?_, ?_, ?_, ?_, ?_, ?_⟩
   ·exact BY
   ·exact IX
   ·exact BY
   ·exact BY
   ·exact CX
   ·exact CX
   ·exact EX
   ·(try simp only [SZ]); omega
  refine ARH (fun K hK => ?_) ?_
  ·go_simp
   refine (Z0u q p0 z x0 _ IX IX (by omega) (by omega)).mono ?_; rintro e wc ⟨pwc, rfl, hQ, hbwc⟩; have Hwc := zH hQ; clear hQ; have Nwc := Nat.le_of_eq Hwc.out.wl; have := hbwc.sz; obtain ⟨_, _, T⟩ := BC4 wc wb0.heap.size
   refine KH hK fun _ => ?_; clear hK K
   refine R1H 0 fun K hK => ?_
   go_simp
   refine KH hK fun _ => ?_; clear hK K
   refine R1H 12 fun K hK => ?_
   go_simp
   refine ((Int.zero_add (z * x0) ▸ Z0v pwb0 pwc 0 (z * x0) _ IX IX (by omega) (by have := ZD z x0; omega))).mono ?_; rintro e wd ⟨pwd, rfl, hQ, hbwd⟩; have Hwd := zH hQ; clear hQ; have := hbwd.sz; obtain ⟨_, _, T⟩ := BC4 wd wb0.heap.size
   refine KH hK fun _ => ?_; clear hK K
   refine R1H 13 fun K hK => ?_
   go_simp
   refine KH hK fun _ => ?_; clear hK K
   refine wpAnyH_done (by kernel_rfl) ?_ _
   refine ⟨pwd, _, Zr _ _, ?_, ?_, ?_, ?_, ?_, ?_, ?_, ?_⟩
   ·exact BY
   ·exact IX
   ·exact BY
   ·exact BY
   ·exact CX
   ·exact CX
   ·exact EX
   ·(try simp only [SZ]); omega
  exact AllReadyH.nil
 case rest =>
  rintro a' We0 ⟨pd0, U, rfl, B1, hpd, B2, B3, C1, C2, hWe0, S0⟩
  dsimp only [fr, frl, Nat.reduceBEq, Nat.reduceAdd, cond_true, cond_false]
  have Hpd0 := zH hpd
  have U2 := B2.lt
  have Uo := B3.lt
  have Uc := B1.lt
  have Ux := C1.lt
  have Uy := C2.lt
  clear hpd Q2 Qo Qc Qx Qy
  (try clear FF)
  have FF := And.intro B1.ca (And.intro B3.ca (And.intro C1.ca C2.ca)); dsimp only [CA, CC, Nat.reduceAdd] at FF
  go_wp2_with fail
  rw [rounds_succ]
  go_wp2_with fail
  rw [rounds_succ]
  go_wp2_with (
   first
   | (go_at_call 93; (with_reducible refine (Zv 0 _ (by decide) (by decide)).mono ?_); rintro e wa1 ⟨swa1, Awa1, nwa1, cwa1, rfl, hQ, hbwa1⟩; have Hwa1 := zH hQ; have Nwa1 := Nat.le_of_eq hQ.wl; clear hQ; have := hbwa1.sz; obtain ⟨R2, L2, F2⟩ := B42 wa1 w; obtain ⟨Ro, Lo, Fo⟩ := BC8 wa1 w3.heap.size; have Rx : CK wa1 (g) (zL2 p0 p1) := CX; have Lx := Rx.lt; have Fx := Rx.c8; have Ry : CK wa1 (gw4) (zL8 q) := CX; have Ly := Ry.lt; have Fy := Ry.c4)
   | (go_at_call 232; (with_reducible refine (ZA _ _ _ _ 0 _ IX).mono ?_); rintro e wb1 ⟨pwb1, rfl, hQ, hbwb1⟩; have Hwb1 := zH hQ; have Nwb1 := Nat.le_of_eq hQ.wl; clear hQ; have := hbwb1.sz; obtain ⟨R2, L2, F2⟩ := B42 wb1 w; obtain ⟨Ro, Lo, Fo⟩ := BC8 wb1 w3.heap.size; have Rx : CK wb1 (g) (zL2 p0 p1) := CX; have Lx := Rx.lt; have Fx := Rx.c8; have Ry : CK wb1 (gw4) (zL8 q) := CX; have Ly := Ry.lt; have Fy := Ry.c4))
  refine wp_loop_rounds 2 ?_
  rw [rounds_succ]
  go_wp2_with fail
  refine ZQ 89 [(4, .pointer (some ⟨w.heap.size + 1 + 1, 0, none⟩)), (5, .int .i64 1), (6, .slice (some ⟨gw4, 0, none⟩) 1 1), (7, .slice (some ⟨g, 0, none⟩) 2 d), (8, .slice (some ⟨w3.heap.size, 0, none⟩) 2 2), (9, .int .i64 1), (10, .pointer (some ⟨wb1.heap.size, 0, none⟩)), (11, .int .i64 0)] (fun W => Ext w W ∧ pd0.At W (z * x0) ∧ BK W (w.heap.size + 1 + 1) Z8W ∧ BK W w3.heap.size (Zc2 pd0) ∧ BK W wb1.heap.size (ZC pwb1) ∧ CK W g (zL2 p0 p1) ∧ CK W gw4 (zL8 q) ∧ IAt W pwb1.s pwb1.A pwb1.n pwb1.c 0) ⟨EX, IX, BY, BY, BY, CX, CX, IX⟩ ?_
  rintro W1 U ⟨hW1, hpd0, Q2, Qo, Qc, Qx, Qy, hpb⟩
  dsimp only [fr, frl, Nat.reduceBEq, Nat.reduceAdd, cond_true, cond_false]
  have U2 := Q2.lt
  have Uo := Qo.lt
  have Uc := Qc.lt
  have Ux := Qx.lt
  have Uy := Qy.lt
  have FF := And.intro Qc.ca (And.intro Qx.ca Qy.ca); dsimp only [CA, CC, Nat.reduceAdd] at FF
  have Hpb := zH hpb
  clear hpb
  clear Hpd0
  have Hpd0 := zH hpd0
  clear hpd0
  refine Zc (fun a' w' => ∃ (pd : PV) (U : Nat → Value), a' = fr 89 U [(4, .pointer (some ⟨w.heap.size + 1 + 1, 0, none⟩)), (5, .int .i64 1), (6, .slice (some ⟨gw4, 0, none⟩) 1 1), (7, .slice (some ⟨g, 0, none⟩) 2 d), (8, .slice (some ⟨w3.heap.size, 0, none⟩) 2 2), (9, .int .i64 1), (10, .pointer (some ⟨wb1.heap.size, 0, none⟩)), (11, .int .i64 0)] ∧ BK w' wb1.heap.size (ZC pd) ∧ pd.At w' (z * x1) ∧ pd0.At w' (z * x0) ∧ BK w' (w.heap.size + 1 + 1) Z8W ∧ BK w' w3.heap.size (Zc2 pd0) ∧ CK w' g (zL2 p0 p1) ∧ CK w' gw4 (zL8 q) ∧ Ext w w' ∧ W1.heap.size ≤ w'.heap.size) (fun w' => CB w' g 4 (zL8 p1) ∧ CB w' gw4 0 (zL8 q)) Z0a ?rest (by dsimp only [CB, Nat.reduceAdd]; exact KQ) ?expl
  case expl =>
   dsimp only [CB, Nat.reduceAdd]
   intro hHeld
   refine TH 1 ?_; refine TH 2 ?_; refine TH 3 ?_; refine TH 4 ?_; refine TH 5 ?_; refine TH 6 ?_; refine TH 7 ?_; refine TH 8 ?_; refine TH 9 ?_; refine TH 10 ?_
   refine RDH [0, 11] ?_
   refine ARH (fun K hK => ?_) ?_
   ·go_simp
    refine KH hK fun _ => ?_; clear hK K
    refine R1H 11 fun K hK => ?_
    go_simp
    refine (Z0u q p1 z x1 _ IX IX (by omega) (by omega)).mono ?_; rintro e wc ⟨pwc, rfl, hQ, hbwc⟩; have Hwc := zH hQ; clear hQ; have Nwc := Nat.le_of_eq Hwc.out.wl; have := hbwc.sz; obtain ⟨_, _, T⟩ := BC4 wc wb1.heap.size
    refine KH hK fun _ => ?_; clear hK K
    refine R1H 12 fun K hK => ?_
    go_simp
    refine ((Int.zero_add (z * x1) ▸ Z0v pwb1 pwc 0 (z * x1) _ IX IX (by omega) (by have := ZD z x1; omega))).mono ?_; rintro e wd ⟨pwd, rfl, hQ, hbwd⟩; have Hwd := zH hQ; clear hQ; have := hbwd.sz; obtain ⟨_, _, T⟩ := BC4 wd wb1.heap.size
    refine KH hK fun _ => ?_; clear hK K
    refine R1H 13 fun K hK => ?_
    go_simp
    refine KH hK fun _ => ?_; clear hK K
    refine wpAnyH_done (by kernel_rfl) ?_ _
    refine ⟨pwd, _, Zr _ _, ?_, ?_, ?_, ?_, ?_, ?_, ?_, ?_, ?_⟩
    ·exact BY
    ·exact IX
    ·exact IX
    ·exact BY
    ·exact BY
    ·exact CX
    ·exact CX
    ·exact EX
    ·(try simp only [SZ]); omega
   refine ARH (fun K hK => ?_) ?_
   ·go_simp
    refine (Z0u q p1 z x1 _ IX IX (by omega) (by omega)).mono ?_; rintro e wc ⟨pwc, rfl, hQ, hbwc⟩; have Hwc := zH hQ; clear hQ; have Nwc := Nat.le_of_eq Hwc.out.wl; have := hbwc.sz; obtain ⟨_, _, T⟩ := BC4 wc wb1.heap.size
    refine KH hK fun _ => ?_; clear hK K
    refine R1H 0 fun K hK => ?_
    go_simp
    refine KH hK fun _ => ?_; clear hK K
    refine R1H 12 fun K hK => ?_
    go_simp
    refine ((Int.zero_add (z * x1) ▸ Z0v pwb1 pwc 0 (z * x1) _ IX IX (by omega) (by have := ZD z x1; omega))).mono ?_; rintro e wd ⟨pwd, rfl, hQ, hbwd⟩; have Hwd := zH hQ; clear hQ; have := hbwd.sz; obtain ⟨_, _, T⟩ := BC4 wd wb1.heap.size
    refine KH hK fun _ => ?_; clear hK K
    refine R1H 13 fun K hK => ?_
    go_simp
    refine KH hK fun _ => ?_; clear hK K
    refine wpAnyH_done (by kernel_rfl) ?_ _
    refine ⟨pwd, _, Zr _ _, ?_, ?_, ?_, ?_, ?_, ?_, ?_, ?_, ?_⟩
    ·exact BY
    ·exact IX
    ·exact IX
    ·exact BY
    ·exact BY
    ·exact CX
    ·exact CX
    ·exact EX
    ·(try simp only [SZ]); omega
   exact AllReadyH.nil
  case rest =>
   rintro a' We1 ⟨pd1, U, rfl, B1, hpd, hpd0, B2, B3, C1, C2, hWe1, S1⟩
   dsimp only [fr, frl, Nat.reduceBEq, Nat.reduceAdd, cond_true, cond_false]
   have Hpd1 := zH hpd
   clear Hpd0
   have Hpd0 := zH hpd0
   clear hpd0
   have U2 := B2.lt
   have Uo := B3.lt
   have Uc := B1.lt
   have Ux := C1.lt
   have Uy := C2.lt
   clear hpd Q2 Qo Qc Qx Qy
   (try clear FF)
   have FF := And.intro B1.ca (And.intro B3.ca (And.intro C1.ca C2.ca)); dsimp only [CA, CC, Nat.reduceAdd] at FF
   go_wp2_with fail
   rw [rounds_succ]
   go_wp2_with fail
   rw [rounds_succ]
   go_wp2_with (go_at_call 234; (with_reducible refine (Z1W w3.heap.size 2 pd0 pd1 (z * x0) (z * x1) _ (by decide) (by exact (BY : BK _ _ (Z2j pd0 pd1)).ck) IX hx1).mono ?_); rintro e we ⟨rfl, hbwe⟩; have := hbwe.sz; obtain ⟨R2, L2, F2⟩ := B42 we w; obtain ⟨Ro, Lo, Fo⟩ := BC8 we w3.heap.size)
   refine bodyPost_ret (v := .agg #[.int .i64 1, .bool false, .slice none 0 0, .slice (some ⟨w3.heap.size, 0, none⟩) 2 2]) (by simp [results, results238, go_sem, Z6, F2]) rfl ⟨_, _, pd0, pd1, rfl, by exact (BY : BK _ _ (Z2j pd0 pd1)).ck, IX, IX, by omega, by exact (BY : BK _ _ (Z2j pd0 pd1)).lt, EX⟩
theorem Z1X (g d : Nat) (p0 p1 q : PV) (x0 x1 z : Int) (w : World) (h : CK w g (zL2 p0 p1)) (h0 : p0.At w x0) (h1 : p1.At w x1) (hq : q.At w z) (n0 : p0.n < 400) (nq : q.n < 400) (hx1 : x1 ≠ 0) (hz : z ≠ 0) :
  Ca 242 #[.agg (Z3f g d), .agg (ZC q)] w (ZbS w (x0 + z) x1) := by
 have hmw : 100000 < Z8 := by decide
 have hqn : q.n ≠ 0 := fun e => hz (hq.zero_iff.1 e)
 have H0 := zH h0
 have H1 := zH h1
 have HQ := zH hq
 have hg := h.lt
 have mm6 : max (2 : Int) 1 = 2 := by decide
 have Fx := h.c8
 have hmk : ∀ W : World, (Instr.makeSlice 174 (.int .i64 2) (.int .i64 2)).run Tryz.prog W = .ok (.slice (some ⟨W.heap.size, 0, none⟩) 2 2) (W.alloc (.cells #[.int .i64 0, .bool false, .slice none 0 0, .slice none 0 0, .int .i64 0, .bool false, .slice none 0 0, .slice none 0 0] 176)) := fun W => Z4J 2 [.int .i64 0, .bool false, .slice none 0 0, .slice none 0 0, .int .i64 0, .bool false, .slice none 0 0, .slice none 0 0] (by decide) (by kernel_rfl) W
 have hw0 : wl (0 : Int) ≤ 0 := by decide +kernel
 have ww1 : IntKind.i64.wrap (0 - 0) = 0 := by decide
 have ww2 : IntKind.i64.wrap (1 - 1) = 0 := by decide
 have ww3 : IntKind.i64.wrap (1 - 0) = 1 := by decide
 have ww4 : IntKind.i64.wrap 0 = 0 := by decide
 have ww5 : IntKind.i64.wrap 1 = 1 := by decide
 have mm1 : max (1 : Int) 0 = 1 := by decide
 have mm2 : max (0 : Int) 1 = 1 := by decide
 have mm3 : max (0 : Int) (-1) = 0 := by decide
 have mm4 : min (0 : Int) 1 = 0 := by decide
 have mm5 : min (1 : Int) 0 = 0 := by decide
 clear h0 h1 hq
 dsimp only [Z3f, ZC]
 go_enter func242, ntmps242
 go_wp2_with (
  first
  | (go_at_call 235; (with_reducible refine (Z1a g d _).mono ?_); rintro e w1 ⟨rfl, hbw1⟩; have := hbw1.sz; obtain ⟨R0, L0, F0⟩ := B40 w1 w; obtain ⟨R1, L1, F1⟩ := B41 w1 w; obtain ⟨R2, L2, F2⟩ := B42 w1 w)
  | (go_at_call 235; (with_reducible refine (Z1b q hqn _).mono ?_); rintro e w2 ⟨gw2, rfl, hCw2, hgew2, hltw2, hbw2⟩; (try simp only [SZ] at hgew2); have := hbw2.sz; obtain ⟨R0, L0, F0⟩ := B40 w2 w; obtain ⟨R1, L1, F1⟩ := B41 w2 w; obtain ⟨R2, L2, F2⟩ := B42 w2 w; have Rx : CK w2 (g) (zL2 p0 p1) := CX; have Lx := Rx.lt; have Fx := Rx.c8; have Ry : CK w2 (gw2) (zL8 q) := CX; have Ly := Ry.lt; have Fy := Ry.c4))
 refine wp_loop_rounds 3 ?_
 rw [rounds_succ]
 go_wp2_with fail
 go_region_held3 (fun w' => zC w' g 0 (.int .i64 0) ∧ zC w' g 1 (.bool p0.s) ∧ zC w' g 2 (.slice p0.A p0.n p0.c) ∧ zC w' g 3 (.slice p0.C p0.m p0.d) ∧ zC w' gw2 0 (.int .i64 0) ∧ zC w' gw2 1 (.bool q.s) ∧ zC w' gw2 2 (.slice q.A q.n q.c) ∧ zC w' gw2 3 (.slice q.C q.m q.d)) (first | (exact KQ) | (simp [go_sem, *]; done)) ((go_at_call 242; (with_reducible refine (Z0v p0 q x0 z _ IX IX (by omega) (by omega)).mono ?_); rintro e wd ⟨pwd, rfl, hQ, hbwd⟩; have Hwd := zH hQ; have Nwd := Nat.le_of_eq hQ.wl; clear hQ; have := hbwd.sz; obtain ⟨R2, L2, F2⟩ := B42 wd w; obtain ⟨Ro, Lo, Fo⟩ := BC8 wd w2.heap.size; have Rx : CK wd (g) (zL2 p0 p1) := CX; have Lx := Rx.lt; have Fx := Rx.c8; have Ry : CK wd (gw2) (zL8 q) := CX; have Ly := Ry.lt; have Fy := Ry.c4; have hne : g ≠ w2.heap.size := (by omega); have hne' : w2.heap.size ≠ g := (by omega)))
 all_goals go_wp2_with fail
 all_goals rw [rounds_succ]
 all_goals go_wp2_with fail
 all_goals rw [rounds_succ]
 all_goals go_wp2_with (go_at_call 234; (with_reducible refine (Z1W w2.heap.size 2 pwd p1 (x0 + z) x1 _ (by decide) (by exact (BY : BK _ _ (Z2j pwd p1)).ck) IX hx1).mono ?_); rintro e we ⟨rfl, hbwe⟩; have := hbwe.sz; obtain ⟨R2, L2, F2⟩ := B42 we w; obtain ⟨Ro, Lo, Fo⟩ := BC8 we w2.heap.size)
 all_goals refine bodyPost_ret (v := .agg #[.int .i64 1, .bool false, .slice none 0 0, .slice (some ⟨w2.heap.size, 0, none⟩) 2 2]) (by simp [results, results242, go_sem, Z6, F2]) rfl ⟨_, _, pwd, p1, rfl, by exact (BY : BK _ _ (Z2j pwd p1)).ck, IX, IX, by omega, by exact (BY : BK _ _ (Z2j pwd p1)).lt, EX⟩
end Go.Proofs.YtnmmncccpdffaaaGreat
