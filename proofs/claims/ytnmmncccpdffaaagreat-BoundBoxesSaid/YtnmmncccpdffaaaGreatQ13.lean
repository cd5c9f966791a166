/- What BoundBoxes calls, part 13. -/
import Derived.Test.YtnmmncccpdffaaaGreatQ08
import Derived.Test.YtnmmncccpdffaaaGreatQ11
set_option linter.unusedVariables false
set_option linter.unusedSimpArgs false
set_option maxRecDepth 100000
set_option maxHeartbeats 16000000
namespace Go.Proofs.YtnmmncccpdffaaaGreat
open Go.Proofs.Tryz Go Go.RowKit Go.Shelf
def Z53 (_ : Nat) : Prop := True
theorem CK.belowN {w w' : World} {g B : Nat} {c : List Value} (h : CK w g c) (k : Below B w w') (hg : g < B) : CK w' g c := fun i v hv => by
 have h0 := h i v hv
 have e := k.block g hg
 unfold World.cell? at h0 ⊢
 simp only [e]
 exact h0
theorem BK.c7' {w : World} {g : Nat} {a b c d e f k : Value} (h : BK w g #[a, b, c, d, e, f, k]) : w.cell? ⟨g, 0, none⟩ = some a ∧ w.cell? ⟨g, 1, none⟩ = some b ∧ w.cell? ⟨g, 2, none⟩ = some c ∧ w.cell? ⟨g, 3, none⟩ = some d ∧ w.cell? ⟨g, 4, none⟩ = some e ∧ w.cell? ⟨g, 5, none⟩ = some f ∧ w.cell? ⟨g, 6, none⟩ = some k := ⟨h.cell 0, h.cell 1, h.cell 2, h.cell 3, h.cell 4, h.cell 5, h.cell 6⟩
theorem BK.st7e {w : World} {g : Nat} {a b c d e f k : Value} (h : BK w g #[a, b, c, d, e, f, k]) (y : Value) : BK (w.setCell ⟨g, 5, none⟩ y) g #[a, b, c, d, e, y, k] := h.set 5 y
theorem BK.st7f {w : World} {g : Nat} {a b c d e f k : Value} (h : BK w g #[a, b, c, d, e, f, k]) (y : Value) : BK (w.setCell ⟨g, 6, none⟩ y) g #[a, b, c, d, e, f, y] := h.set 6 y
theorem BE {w : World} {g : Nat} {c : Array Value} (h : BK w g c := by with_reducible (repeat (first | assumption | (refine BK.new _ _ ?_; first | rfl | (simp only [SZ]; done)) | refine BK.alloc ?_ _ | refine BK.drew ?_ | apply BK.st7 | apply BK.st7e | apply BK.st7f | refine BK.other ?_ (by simp only; omega) _ | refine BK.ext ?_ (by assumption)))) : BK w g c := h
def Zb9 (w : World) (x : Int) (e : Ending) (w' : World) : Prop := ∃ (gn gd cn cd : Nat) (a0 a1 b0 : QC), e = .returned (.agg #[.int .i64 1, .bool false, .slice none 0 0, .bool false, .slice none 0 0, .slice (some ⟨gn, 0, none⟩) 2 cn, .slice (some ⟨gd, 0, none⟩) 1 cd]) ∧ CK w' gn (zL1 a0 a1) ∧ CK w' gd (zL6 b0) ∧ a0.At w' (x : Rat) ∧ a1.At w' ((1 : Int) : Rat) ∧ b0.At w' ((1 : Int) : Rat) ∧ 2 ≤ cn ∧ 1 ≤ cd ∧ w.heap.size ≤ gn ∧ w.heap.size ≤ gd ∧ gn < w'.heap.size ∧ gd < w'.heap.size ∧ Ext w w'
def Zcc (w : World) (x : Int) (e : Ending) (w' : World) : Prop := ∃ (gn gd cn cd : Nat) (a0 b0 b1 : QC), e = .returned (.agg #[.int .i64 1, .bool false, .slice none 0 0, .bool false, .slice none 0 0, .slice (some ⟨gn, 0, none⟩) 1 cn, .slice (some ⟨gd, 0, none⟩) 2 cd]) ∧ CK w' gn (zL6 a0) ∧ CK w' gd (zL1 b0 b1) ∧ a0.At w' ((1 : Int) : Rat) ∧ b0.At w' (x : Rat) ∧ b1.At w' ((1 : Int) : Rat) ∧ 1 ≤ cn ∧ 2 ≤ cd ∧ w.heap.size ≤ gn ∧ w.heap.size ≤ gd ∧ gn < w'.heap.size ∧ gd < w'.heap.size ∧ Ext w w'
theorem Z5D (g d : Nat) (p0 p1 r : PV) (x : Int) (w : World) (h : CK w g (zL2 p0 p1)) (h0 : p0.At w x) (h1 : p1.At w 1) (hr : r.At w 1) (hx : x = 1 ∨ x = -1) :
  Ca 195 #[.agg (Z6E g d r)] w (Zb9 w x) := by
 have hmw : 100000 < Z8 := by decide
 have hrn : r.n ≠ 0 := fun e => by have := hr.zero_iff.1 e; omega
 have hg := h.lt
 have hg1 : g < w.heap.size + 1 := by omega
 have ww0 : IntKind.i64.wrap (0 + 1) = 1 := by decide
 have ww1 : IntKind.i64.wrap (1 + 1) = 2 := by decide
 have ww2 : IntKind.i64.wrap (1 - 1) = 0 := by decide
 have ww3 : IntKind.i64.wrap (2 - 1) = 1 := by decide
 have ww4 : IntKind.i64.wrap 0 = 0 := by decide
 have ww5 : IntKind.i64.wrap 1 = 1 := by decide
 have mm1 : max (1 : Int) 0 = 1 := by decide
 have mm2 : max (0 : Int) 1 = 1 := by decide
 have hbd : ∀ W : World, (Instr.build 70 #[(0, .int .i64 1)]).run Tryz.prog W = .ok (.agg #[.int .i64 1, .bool false, .slice none 0 0, .bool false, .slice none 0 0, .slice none 0 0, .slice none 0 0]) W := by intros; kernel_rfl
 have H0 := zH h0
 have H1 := zH h1
 have HR := zH hr
 have hflag : Z53 1 := trivial
 clear h0 h1 hr
 dsimp only [Z6E]
 go_enter func195, ntmps195
 go_wp2_with (
  first
  | (go_at_call 235; (with_reducible refine (Z1a g d _).mono ?_); rintro e w1 ⟨rfl, hbw1⟩; have := hbw1.sz; obtain ⟨R0, L0, F0⟩ := B80 w1 w; obtain ⟨R1, L1, F1⟩ := BC7 w1 (w.heap.size + 1))
  | (go_at_call 235; (with_reducible refine (Z1b r hrn _).mono ?_); rintro e w2 ⟨gw2, rfl, hCw2, hgew2, hltw2, hbw2⟩; (try simp only [SZ] at hgew2); have := hbw2.sz; obtain ⟨R0, L0, F0⟩ := B80 w2 w; obtain ⟨R1, L1, F1⟩ := BC7 w2 (w.heap.size + 1))
  | ((with_reducible refine (id ?_ : wpList _ _ _ [⟨none, _, _, _, _, _⟩] _ _)); (have hfl : Z53 1 := (by with_reducible assumption)); clear hfl hflag; (obtain ⟨W, hWe⟩ : ∃ W, w2.alloc (.cells #[.int .i64 0, .bool false, .slice none 0 0, .bool false, .slice none 0 0, .slice none 0 0, .slice none 0 0] 70) = W := ⟨_, rfl⟩); (have RW : BK W w2.heap.size Z1T := (by rw [← hWe]; exact BY)); (have EW : Ext w2 W := (by rw [← hWe]; exact EX)); rw [hWe]; clear hWe; have LW := RW.lt; have hzW := EW.size; have FW := RW.c7))
 refine ZQ 83 [(1, .pointer (some ⟨w.heap.size, 0, none⟩)), (2, .pointer (some ⟨w.heap.size + 1, 0, none⟩)), (3, .int .i64 1), (4, .slice (some ⟨g, 0, none⟩) 2 d), (5, .slice (some ⟨gw2, 0, none⟩) 1 1), (6, .pointer (some ⟨w2.heap.size, 0, none⟩)), (7, .int .i64 0)] (fun W => Ext w W ∧ BK W (w.heap.size + 1) Z1T ∧ BK W (w2.heap.size) Zc1 ∧ CK W g (zL2 p0 p1) ∧ CK W gw2 (zL8 r) ∧ p0.At W x ∧ p1.At W 1 ∧ r.At W 1 ∧ ZP W (w2.heap.size + 1) 70 7 none 0 0 []) ⟨EX, BE, BE, CX, CX, IX, IX, IX, NZ⟩ ?_
 rintro Vx0 U ⟨hW, R1, Re, Rg, Rk, ha0, ha1, ha2, hO⟩
 dsimp only [fr, frl, Nat.reduceBEq, Nat.reduceAdd, cond_true, cond_false]
 clear FW RW EW hzW LW
 (try clear FF)
 have Ha0 := zH ha0
 clear ha0
 have Ha1 := zH ha1
 clear ha1
 have Ha2 := zH ha2
 clear ha2
 have L1 := R1.lt
 have Le := Re.lt
 have Lg := Rg.lt
 have Lk := Rk.lt
 have FF := And.intro R1.ca (And.intro Re.ca (And.intro Rg.ca Rk.ca)); dsimp only [CA, CC, Nat.reduceAdd] at FF
 refine wp_loop_rounds 3 ?_
 rw [rounds_succ]
 go_wp2_with fail
 refine Zu 17 (fun a' w' => ∃ (Ax0 : Option Addr) (cx0 : Nat) (qx0 : QC) (U : Nat → Value), a' = fr 83 U [(1, .pointer (some ⟨w.heap.size, 0, none⟩)), (2, .pointer (some ⟨w.heap.size + 1, 0, none⟩)), (3, .int .i64 1), (4, .slice (some ⟨g, 0, none⟩) 2 d), (5, .slice (some ⟨gw2, 0, none⟩) 1 1), (6, .pointer (some ⟨w2.heap.size, 0, none⟩)), (7, .int .i64 0)] ∧ Ext w w' ∧ BK w' (w.heap.size + 1) Z1T ∧ BK w' (w2.heap.size) (Zc0 Ax0 cx0) ∧ CK w' g (zL2 p0 p1) ∧ CK w' gw2 (zL8 r) ∧ p0.At w' x ∧ p1.At w' 1 ∧ r.At w' 1 ∧ qx0.At w' (x : Rat) ∧ ZP w' (w2.heap.size + 1) 70 7 Ax0 1 cx0 [.int .i64 0, .bool qx0.s, .slice qx0.A qx0.n qx0.c, .bool qx0.t, .slice qx0.B qx0.m qx0.d, .slice none 0 0, .slice none 0 0]) (fun w' => CB w' w2.heap.size 5 [.slice none 0 0] ∧ CB w' g 0 (zL8 p0) ∧ CB w' gw2 0 (zL8 r)) Z0a ?restx0 (by dsimp only [CB, Nat.reduceAdd]; exact KQ) ?explx0
 case explx0 =>
  dsimp only [CB, Nat.reduceAdd]
  intro hHeld
  refine TU 0 ?_; refine TU 1 ?_; refine TU 2 ?_; refine TU 3 ?_; refine TU 4 ?_; refine TU 5 ?_; refine TU 6 ?_; refine TU 7 ?_; refine TU 8 ?_; refine TU 9 ?_; refine TU 10 ?_; refine TU 11 ?_
  refine R1U 12 fun K hK => ?_
  go_simp
  refine (Z0y p0 r x _ IX IX hx).mono ?_; rintro e y1 ⟨rfl, hby1⟩; have := hby1.sz
  refine KU hK fun _ => ?_; clear hK K
  refine R1U 13 fun K hK => ?_
  go_simp
  refine (Z0z p0 r x _ IX IX).mono ?_; rintro e y2 ⟨qx, rfl, hQ, hby2⟩; have Hqx := zH hQ; clear hQ; have := hby2.sz
  refine KU hK fun _ => ?_; clear hK K
  refine R1U 14 fun K hK => ?_
  go_simp
  refine KU hK fun _ => ?_; clear hK K
  refine R1U 15 fun K hK => ?_
  (rw [if_pos (by rfl)]; refine Z1i (.tmp 43) (.tmp 56) (by rfl) (w2.heap.size + 1) none 0 0 [] NZ (by rfl) y2.heap.size 1 1 [.int .i64 0, .bool qx.s, .slice qx.A qx.n qx.c, .bool qx.t, .slice qx.B qx.m qx.d, .slice none 0 0, .slice none 0 0] (by rfl) (by decide) (by rfl) (by exact (BE : BK _ _ (Z1A qx)).ck) (oc4 (by rfl)) (nw4 (by rfl)) (by decide) (by (try simp only [SZ]); omega) ?_; intro An cn u hOn hB hKp; replace hOn : ZP u (w2.heap.size + 1) 70 7 An 1 cn [.int .i64 0, .bool qx.s, .slice qx.A qx.n qx.c, .bool qx.t, .slice qx.B qx.m qx.d, .slice none 0 0, .slice none 0 0] := hOn; have hKy : Za y2 u := ((Za.refl y2).alloc _).trans hKp; have hxw : Ext w u := Ext.own EX hB (by omega); have hzu := hB.size; (try simp only [SZ] at hzu); have Q1 : BK u (w.heap.size + 1) Z1T := BK.belowN BE hB (by omega); have Qe : BK u (w2.heap.size) Zc1 := BK.belowN BE hB (by omega); have Qg : CK u g (zL2 p0 p1) := CK.belowN CX hB (by omega); have Qk : CK u gw2 (zL8 r) := CK.belowN CX hB (by omega); have M1 := Q1.lt; have Me := Qe.lt; have Mg := Qg.lt; have Mk := Qk.lt; have Te := Qe.ca; dsimp only [CA, Nat.reduceAdd] at Te; have TFe := Qe.frozen; have Tx := Qg.c8; have Tk := Qk.c4; have Za0 : Hid (p0.At u x) := zH (by exact IAt.keep IX hKy); have Za1 : Hid (p1.At u 1) := zH (by exact IAt.keep IX hKy); have Za2 : Hid (r.At u 1) := zH (by exact IAt.keep IX hKy); have Zq0 : Hid (qx.At u (x : Rat)) := zH (by exact QAt.keep QX hKy))
  refine KU hK fun _ => ?_; clear hK K
  refine TU 16 ?_
  refine RDU [17] ?_
  refine ARL (fun K hK => ?_)
  go_simp
  refine KUL hK ?_; clear hK K
  refine Z0d.done (by kernel_rfl) ?_ _
  refine ⟨An, cn, qx, _, Zr _ _, EX, BE, BE, CX, CX, IX, IX, IX, QX, NZ⟩
 case restx0 =>
 rintro a' Wex0 ⟨Ax0, cx0, qx0, U, rfl, hW, R1, Re, Rg, Rk, ha0, ha1, ha2, ha3, hO⟩
 dsimp only [fr, frl, Nat.reduceBEq, Nat.reduceAdd, cond_true, cond_false]
 clear Ha0
 have Ha0 := zH ha0
 clear ha0
 clear Ha1
 have Ha1 := zH ha1
 clear ha1
 clear Ha2
 have Ha2 := zH ha2
 clear ha2
 have Ha3 := zH ha3
 clear ha3
 (try clear FF)
 have L1 := R1.lt
 have Le := Re.lt
 have Lg := Rg.lt
 have Lk := Rk.lt
 have FF := And.intro R1.ca (And.intro Re.ca (And.intro Rg.ca Rk.ca)); dsimp only [CA, CC, Nat.reduceAdd] at FF
 go_wp2_with fail
 rw [rounds_succ]
 refine ZQ 83 [(1, .pointer (some ⟨w.heap.size, 0, none⟩)), (2, .pointer (some ⟨w.heap.size + 1, 0, none⟩)), (3, .int .i64 1), (4, .slice (some ⟨g, 0, none⟩) 2 d), (5, .slice (some ⟨gw2, 0, none⟩) 1 1), (6, .pointer (some ⟨w2.heap.size, 0, none⟩)), (7, .int .i64 1)] (fun W => Ext w W ∧ BK W (w.heap.size + 1) Z1T ∧ BK W (w2.heap.size) (Zc0 Ax0 cx0) ∧ CK W g (zL2 p0 p1) ∧ CK W gw2 (zL8 r) ∧ p0.At W x ∧ p1.At W 1 ∧ r.At W 1 ∧ qx0.At W (x : Rat) ∧ ZP W (w2.heap.size + 1) 70 7 Ax0 1 cx0 [.int .i64 0, .bool qx0.s, .slice qx0.A qx0.n qx0.c, .bool qx0.t, .slice qx0.B qx0.m qx0.d, .slice none 0 0, .slice none 0 0]) ⟨EX, BE, BE, CX, CX, IX, IX, IX, QX, NZ⟩ ?_
 rintro Vx1 U ⟨hW, R1, Re, Rg, Rk, ha0, ha1, ha2, ha3, hO⟩
 dsimp only [fr, frl, Nat.reduceBEq, Nat.reduceAdd, cond_true, cond_false]
 (try clear FF)
 clear Ha0
 have Ha0 := zH ha0
 clear ha0
 clear Ha1
 have Ha1 := zH ha1
 clear ha1
 clear Ha2
 have Ha2 := zH ha2
 clear ha2
 clear Ha3
 have Ha3 := zH ha3
 clear ha3
 have L1 := R1.lt
 have Le := Re.lt
 have Lg := Rg.lt
 have Lk := Rk.lt
 have FF := And.intro R1.ca (And.intro Re.ca (And.intro Rg.ca Rk.ca)); dsimp only [CA, CC, Nat.reduceAdd] at FF
 go_wp2_with fail
 refine Zu 17 (fun a' w' => ∃ (Ax1 : Option Addr) (cx1 : Nat) (qx1 : QC) (U : Nat → Value), a' = fr 83 U [(1, .pointer (some ⟨w.heap.size, 0, none⟩)), (2, .pointer (some ⟨w.heap.size + 1, 0, none⟩)), (3, .int .i64 1), (4, .slice (some ⟨g, 0, none⟩) 2 d), (5, .slice (some ⟨gw2, 0, none⟩) 1 1), (6, .pointer (some ⟨w2.heap.size, 0, none⟩)), (7, .int .i64 1)] ∧ Ext w w' ∧ BK w' (w.heap.size + 1) Z1T ∧ BK w' (w2.heap.size) #[.int .i64 1, .bool false, .slice none 0 0, .bool false, .slice none 0 0, .slice Ax1 2 cx1, .slice none 0 0] ∧ CK w' g (zL2 p0 p1) ∧ CK w' gw2 (zL8 r) ∧ p0.At w' x ∧ p1.At w' 1 ∧ r.At w' 1 ∧ qx0.At w' (x : Rat) ∧ qx1.At w' ((1 : Int) : Rat) ∧ ZP w' (w2.heap.size + 1) 70 7 Ax1 2 cx1 [.int .i64 0, .bool qx0.s, .slice qx0.A qx0.n qx0.c, .bool qx0.t, .slice qx0.B qx0.m qx0.d, .slice none 0 0, .slice none 0 0, .int .i64 0, .bool qx1.s, .slice qx1.A qx1.n qx1.c, .bool qx1.t, .slice qx1.B qx1.m qx1.d, .slice none 0 0, .slice none 0 0]) (fun w' => CB w' w2.heap.size 5 [.slice Ax0 1 cx0] ∧ CB w' g 4 (zL8 p1) ∧ CB w' gw2 0 (zL8 r)) Z0a ?restx1 (by dsimp only [CB, Nat.reduceAdd]; exact KQ) ?explx1
 case explx1 =>
  dsimp only [CB, Nat.reduceAdd]
  intro hHeld
  refine TU 0 ?_; refine TU 1 ?_; refine TU 2 ?_; refine TU 3 ?_; refine TU 4 ?_; refine TU 5 ?_; refine TU 6 ?_; refine TU 7 ?_; refine TU 8 ?_; refine TU 9 ?_; refine TU 10 ?_; refine TU 11 ?_
  refine R1U 12 fun K hK => ?_
  go_simp
  refine (Z0y p1 r 1 _ IX IX (Or.inl rfl)).mono ?_; rintro e y1 ⟨rfl, hby1⟩; have := hby1.sz
  refine KU hK fun _ => ?_; clear hK K
  refine R1U 13 fun K hK => ?_
  go_simp
  refine (Z0z p1 r 1 _ IX IX).mono ?_; rintro e y2 ⟨qx, rfl, hQ, hby2⟩; have Hqx := zH hQ; clear hQ; have := hby2.sz
  refine KU hK fun _ => ?_; clear hK K
  refine R1U 14 fun K hK => ?_
  go_simp
  refine KU hK fun _ => ?_; clear hK K
  refine R1U 15 fun K hK => ?_
  (rw [if_pos (by rfl)]; refine Z1i (.tmp 43) (.tmp 56) (by rfl) (w2.heap.size + 1) Ax0 1 cx0 [.int .i64 0, .bool qx0.s, .slice qx0.A qx0.n qx0.c, .bool qx0.t, .slice qx0.B qx0.m qx0.d, .slice none 0 0, .slice none 0 0] NZ (by rfl) y2.heap.size 1 1 [.int .i64 0, .bool qx.s, .slice qx.A qx.n qx.c, .bool qx.t, .slice qx.B qx.m qx.d, .slice none 0 0, .slice none 0 0] (by rfl) (by decide) (by rfl) (by exact (BE : BK _ _ (Z1A qx)).ck) (oc4 (by rfl)) (nw4 (by rfl)) (by decide) (by (try simp only [SZ]); omega) ?_; intro An cn u hOn hB hKp; replace hOn : ZP u (w2.heap.size + 1) 70 7 An 2 cn [.int .i64 0, .bool qx0.s, .slice qx0.A qx0.n qx0.c, .bool qx0.t, .slice qx0.B qx0.m qx0.d, .slice none 0 0, .slice none 0 0, .int .i64 0, .bool qx.s, .slice qx.A qx.n qx.c, .bool qx.t, .slice qx.B qx.m qx.d, .slice none 0 0, .slice none 0 0] := hOn; have hKy : Za y2 u := ((Za.refl y2).alloc _).trans hKp; have hxw : Ext w u := Ext.own EX hB (by omega); have hzu := hB.size; (try simp only [SZ] at hzu); have Q1 : BK u (w.heap.size + 1) Z1T := BK.belowN BE hB (by omega); have Qe : BK u (w2.heap.size) (Zc0 Ax0 cx0) := BK.belowN BE hB (by omega); have Qg : CK u g (zL2 p0 p1) := CK.belowN CX hB (by omega); have Qk : CK u gw2 (zL8 r) := CK.belowN CX hB (by omega); have M1 := Q1.lt; have Me := Qe.lt; have Mg := Qg.lt; have Mk := Qk.lt; have Te := Qe.ca; dsimp only [CA, Nat.reduceAdd] at Te; have TFe := Qe.frozen; have Tx := Qg.c8; have Tk := Qk.c4; have Za0 : Hid (p0.At u x) := zH (by exact IAt.keep IX hKy); have Za1 : Hid (p1.At u 1) := zH (by exact IAt.keep IX hKy); have Za2 : Hid (r.At u 1) := zH (by exact IAt.keep IX hKy); have Zq0 : Hid (qx0.At u (x : Rat)) := zH (by exact QAt.keep QX hKy); have Zq1 : Hid (qx.At u ((1 : Int) : Rat)) := zH (by exact QAt.keep QX hKy))
  refine KU hK fun _ => ?_; clear hK K
  refine TU 16 ?_
  refine RDU [17] ?_
  refine ARL (fun K hK => ?_)
  go_simp
  refine KUL hK ?_; clear hK K
  refine Z0d.done (by kernel_rfl) ?_ _
  refine ⟨An, cn, qx, _, Zr _ _, EX, BE, BE, CX, CX, IX, IX, IX, QX, QX, NZ⟩
 case restx1 =>
 rintro a' Wex1 ⟨Ax1, cx1, qx1, U, rfl, hW, R1, Re, Rg, Rk, ha0, ha1, ha2, ha3, ha4, hO⟩
 dsimp only [fr, frl, Nat.reduceBEq, Nat.reduceAdd, cond_true, cond_false]
 clear Ha0
 have Ha0 := zH ha0
 clear ha0
 clear Ha1
 have Ha1 := zH ha1
 clear ha1
 clear Ha2
 have Ha2 := zH ha2
 clear ha2
 clear Ha3
 have Ha3 := zH ha3
 clear ha3
 have Ha4 := zH ha4
 clear ha4
 (try clear FF)
 have L1 := R1.lt
 have Le := Re.lt
 have Lg := Rg.lt
 have Lk := Rk.lt
 have FF := And.intro R1.ca (And.intro Re.ca (And.intro Rg.ca Rk.ca)); dsimp only [CA, CC, Nat.reduceAdd] at FF
 go_wp2_with fail
 obtain ⟨gn, rfl, hgn, hgnb, hgnl, hgnc⟩ := hO.ck (by decide)
 have Rgn : CK Wex1 gn (zL1 qx0 qx1) := hgn
 clear hgn
 rw [rounds_succ]
 go_wp2_with fail
 refine ZQ 83 [(1, .pointer (some ⟨w.heap.size, 0, none⟩)), (2, .pointer (some ⟨w.heap.size + 1, 0, none⟩)), (3, .int .i64 1), (4, .slice (some ⟨g, 0, none⟩) 2 d), (5, .slice (some ⟨gw2, 0, none⟩) 1 1), (6, .pointer (some ⟨w2.heap.size, 0, none⟩)), (7, .int .i64 2), (8, .int .i64 0)] (fun W => Ext w W ∧ BK W (w.heap.size + 1) Z1T ∧ BK W (w2.heap.size) (Zd0 gn cx1) ∧ CK W g (zL2 p0 p1) ∧ CK W gw2 (zL8 r) ∧ p0.At W x ∧ p1.At W 1 ∧ r.At W 1 ∧ qx0.At W (x : Rat) ∧ qx1.At W ((1 : Int) : Rat) ∧ CK W gn (zL1 qx0 qx1) ∧ Wex1.heap.size ≤ W.heap.size ∧ ZP W (Wex1.heap.size) 70 7 none 0 0 []) ⟨EX, BE, BE, CX, CX, IX, IX, IX, QX, QX, CX, by (try simp only [SZ]); omega, NZ⟩ ?_
 rintro Vy0 U ⟨hW, R1, Re, Rg, Rk, ha0, ha1, ha2, ha3, ha4, hx0, hx1, hO⟩
 dsimp only [fr, frl, Nat.reduceBEq, Nat.reduceAdd, cond_true, cond_false]
 (try clear FF)
 clear Ha0
 have Ha0 := zH ha0
 clear ha0
 clear Ha1
 have Ha1 := zH ha1
 clear ha1
 clear Ha2
 have Ha2 := zH ha2
 clear ha2
 clear Ha3
 have Ha3 := zH ha3
 clear ha3
 clear Ha4
 have Ha4 := zH ha4
 clear ha4
 have L1 := R1.lt
 have Le := Re.lt
 have Lg := Rg.lt
 have Lk := Rk.lt
 have FF := And.intro R1.ca (And.intro Re.ca (And.intro Rg.ca Rk.ca)); dsimp only [CA, CC, Nat.reduceAdd] at FF
 refine wp_loop_rounds 2 ?_
 rw [rounds_succ]
 go_wp2_with fail
 refine Zu 17 (fun a' w' => ∃ (Ay0 : Option Addr) (cy0 : Nat) (qy0 : QC) (U : Nat → Value), a' = fr 83 U [(1, .pointer (some ⟨w.heap.size, 0, none⟩)), (2, .pointer (some ⟨w.heap.size + 1, 0, none⟩)), (3, .int .i64 1), (4, .slice (some ⟨g, 0, none⟩) 2 d), (5, .slice (some ⟨gw2, 0, none⟩) 1 1), (6, .pointer (some ⟨w2.heap.size, 0, none⟩)), (7, .int .i64 2), (8, .int .i64 0)] ∧ Ext w w' ∧ BK w' (w.heap.size + 1) Z1T ∧ BK w' (w2.heap.size) #[.int .i64 1, .bool false, .slice none 0 0, .bool false, .slice none 0 0, .slice (some ⟨gn, 0, none⟩) 2 cx1, .slice Ay0 1 cy0] ∧ CK w' g (zL2 p0 p1) ∧ CK w' gw2 (zL8 r) ∧ p0.At w' x ∧ p1.At w' 1 ∧ r.At w' 1 ∧ qx0.At w' (x : Rat) ∧ qx1.At w' ((1 : Int) : Rat) ∧ qy0.At w' ((1 : Int) : Rat) ∧ CK w' gn (zL1 qx0 qx1) ∧ Wex1.heap.size ≤ w'.heap.size ∧ ZP w' (Wex1.heap.size) 70 7 Ay0 1 cy0 [.int .i64 0, .bool qy0.s, .slice qy0.A qy0.n qy0.c, .bool qy0.t, .slice qy0.B qy0.m qy0.d, .slice none 0 0, .slice none 0 0]) (fun w' => CB w' w2.heap.size 6 [.slice none 0 0] ∧ CB w' gw2 0 (zL8 r) ∧ CB w' gw2 0 (zL8 r)) Z0a ?resty0 (by dsimp only [CB, Nat.reduceAdd]; exact KQ) ?exply0
 case exply0 =>
  dsimp only [CB, Nat.reduceAdd]
  intro hHeld
  refine TU 0 ?_; refine TU 1 ?_; refine TU 2 ?_; refine TU 3 ?_; refine TU 4 ?_; refine TU 5 ?_; refine TU 6 ?_; refine TU 7 ?_; refine TU 8 ?_; refine TU 9 ?_; refine TU 10 ?_; refine TU 11 ?_
  refine R1U 12 fun K hK => ?_
  go_simp
  refine (Z0y r r 1 _ IX IX (Or.inl rfl)).mono ?_; rintro e y1 ⟨rfl, hby1⟩; have := hby1.sz
  refine KU hK fun _ => ?_; clear hK K
  refine R1U 13 fun K hK => ?_
  go_simp
  refine (Z0z r r 1 _ IX IX).mono ?_; rintro e y2 ⟨qx, rfl, hQ, hby2⟩; have Hqx := zH hQ; clear hQ; have := hby2.sz
  refine KU hK fun _ => ?_; clear hK K
  refine R1U 14 fun K hK => ?_
  go_simp
  refine KU hK fun _ => ?_; clear hK K
  refine R1U 15 fun K hK => ?_
  (rw [if_pos (by rfl)]; refine Z1i (.tmp 66) (.tmp 79) (by rfl) (Wex1.heap.size) none 0 0 [] NZ (by rfl) y2.heap.size 1 1 [.int .i64 0, .bool qx.s, .slice qx.A qx.n qx.c, .bool qx.t, .slice qx.B qx.m qx.d, .slice none 0 0, .slice none 0 0] (by rfl) (by decide) (by rfl) (by exact (BE : BK _ _ (Z1A qx)).ck) (oc4 (by rfl)) (nw4 (by rfl)) (by decide) (by (try simp only [SZ]); omega) ?_; intro An cn u hOn hB hKp; replace hOn : ZP u (Wex1.heap.size) 70 7 An 1 cn [.int .i64 0, .bool qx.s, .slice qx.A qx.n qx.c, .bool qx.t, .slice qx.B qx.m qx.d, .slice none 0 0, .slice none 0 0] := hOn; have hKy : Za y2 u := ((Za.refl y2).alloc _).trans hKp; have hxw : Ext w u := Ext.own EX hB (by omega); have hzu := hB.size; (try simp only [SZ] at hzu); have Q1 : BK u (w.heap.size + 1) Z1T := BK.belowN BE hB (by omega); have Qe : BK u (w2.heap.size) (Zd0 gn cx1) := BK.belowN BE hB (by omega); have Qg : CK u g (zL2 p0 p1) := CK.belowN CX hB (by omega); have Qk : CK u gw2 (zL8 r) := CK.belowN CX hB (by omega); have M1 := Q1.lt; have Me := Qe.lt; have Mg := Qg.lt; have Mk := Qk.lt; have Te := Qe.ca; dsimp only [CA, Nat.reduceAdd] at Te; have TFe := Qe.frozen; have Tx := Qg.c8; have Tk := Qk.c4; have Qn : CK u gn (zL1 qx0 qx1) := CK.belowN CX hB (by omega); have Za0 : Hid (p0.At u x) := zH (by exact IAt.keep IX hKy); have Za1 : Hid (p1.At u 1) := zH (by exact IAt.keep IX hKy); have Za2 : Hid (r.At u 1) := zH (by exact IAt.keep IX hKy); have Zq0 : Hid (qx0.At u (x : Rat)) := zH (by exact QAt.keep QX hKy); have Zq1 : Hid (qx1.At u ((1 : Int) : Rat)) := zH (by exact QAt.keep QX hKy); have Zq2 : Hid (qx.At u ((1 : Int) : Rat)) := zH (by exact QAt.keep QX hKy))
  refine KU hK fun _ => ?_; clear hK K
  refine TU 16 ?_
  refine RDU [17] ?_
  refine ARL (fun K hK => ?_)
  go_simp
  refine KUL hK ?_; clear hK K
  refine Z0d.done (by kernel_rfl) ?_ _
  refine ⟨An, cn, qx, _, Zr _ _, EX, BE, BE, CX, CX, IX, IX, IX, QX, QX, QX, CX, by (try simp only [SZ]); omega, NZ⟩
 case resty0 =>
 rintro a' Wey0 ⟨Ay0, cy0, qy0, U, rfl, hW, R1, Re, Rg, Rk, ha0, ha1, ha2, ha3, ha4, ha5, hx0, hx1, hO⟩
 dsimp only [fr, frl, Nat.reduceBEq, Nat.reduceAdd, cond_true, cond_false]
 clear Ha0
 have Ha0 := zH ha0
 clear ha0
 clear Ha1
 have Ha1 := zH ha1
 clear ha1
 clear Ha2
 have Ha2 := zH ha2
 clear ha2
 clear Ha3
 have Ha3 := zH ha3
 clear ha3
 clear Ha4
 have Ha4 := zH ha4
 clear ha4
 have Ha5 := zH ha5
 clear ha5
 (try clear FF)
 have L1 := R1.lt
 have Le := Re.lt
 have Lg := Rg.lt
 have Lk := Rk.lt
 have FF := And.intro R1.ca (And.intro Re.ca (And.intro Rg.ca Rk.ca)); dsimp only [CA, CC, Nat.reduceAdd] at FF
 go_wp2_with fail
 obtain ⟨gd, rfl, hgd, hgdb, hgdl, hgdc⟩ := hO.ck (by decide)
 have Rgd : CK Wey0 gd (zL6 qy0) := hgd
 clear hgd
 rw [rounds_succ]
 go_wp2_with ((with_reducible refine BK.fin3 (g := w.heap.size + 1) (c := #[.int .i64 1, .bool false, .slice none 0 0, .bool false, .slice none 0 0, .slice (some ⟨gn, 0, none⟩) 2 cx1, .slice (some ⟨gd, 0, none⟩) 1 cy0]) (w0 := w) (T := fun W => CK W gn (zL1 qx0 qx1) ∧ CK W gd (zL6 qy0) ∧ qx0.At W (x : Rat) ∧ qx1.At W ((1 : Int) : Rat) ∧ qy0.At W ((1 : Int) : Rat) ∧ gn < W.heap.size ∧ gd < W.heap.size) ?_ ?_ ?_ ?_); exact BE; exact EX; exact ⟨CX, CX, QX, QX, QX, by (try simp only [SZ]); omega, by (try simp only [SZ]); omega⟩; intro W U E hT; have Ft := U.c7; obtain ⟨t0, t1, t2, t3, t4, t5, t6⟩ := hT; refine bodyPost_ret (v := .agg (Z3q gn cx1 gd cy0)) (by simp [Z3q, results, results195, go_sem, Ft]) rfl ⟨gn, gd, cx1, cy0, qx0, qx1, qy0, rfl, t0, t1, t2, t3, t4, by omega, by omega, by omega, by omega, t5, t6, E⟩)
theorem Z5C (g d : Nat) (p0 p1 r : PV) (x : Int) (w : World) (h : CK w g (zL2 p0 p1)) (h0 : p0.At w x) (h1 : p1.At w 1) (hr : r.At w 1) (hx : x = 1 ∨ x = -1) :
  Ca 195 #[.agg (Za9 r g d)] w (Zcc w x) := by
 have hmw : 100000 < Z8 := by decide
 have hrn : r.n ≠ 0 := fun e => by have := hr.zero_iff.1 e; omega
 have hg := h.lt
 have hg1 : g < w.heap.size + 1 := by omega
 have ww0 : IntKind.i64.wrap (0 + 1) = 1 := by decide
 have ww1 : IntKind.i64.wrap (1 + 1) = 2 := by decide
 have ww2 : IntKind.i64.wrap (1 - 1) = 0 := by decide
 have ww3 : IntKind.i64.wrap (2 - 1) = 1 := by decide
 have ww4 : IntKind.i64.wrap 0 = 0 := by decide
 have ww5 : IntKind.i64.wrap 1 = 1 := by decide
 have mm1 : max (1 : Int) 0 = 1 := by decide
 have mm2 : max (0 : Int) 1 = 1 := by decide
 have hbd : ∀ W : World, (Instr.build 70 #[(0, .int .i64 1)]).run Tryz.prog W = .ok (.agg #[.int .i64 1, .bool false, .slice none 0 0, .bool false, .slice none 0 0, .slice none 0 0, .slice none 0 0]) W := by intros; kernel_rfl
 have H0 := zH h0
 have H1 := zH h1
 have HR := zH hr
 have hflag : Z53 1 := trivial
 clear h0 h1 hr
 dsimp only [Za9]
 go_enter func195, ntmps195
 go_wp2_with (
  first
  | (go_at_call 235; (with_reducible refine (Z1a g d _).mono ?_); rintro e w2 ⟨rfl, hbw2⟩; have := hbw2.sz; obtain ⟨R0, L0, F0⟩ := B80 w2 w; obtain ⟨R1, L1, F1⟩ := BC7 w2 (w.heap.size + 1))
  | (go_at_call 235; (with_reducible refine (Z1b r hrn _).mono ?_); rintro e w1 ⟨gw1, rfl, hCw1, hgew1, hltw1, hbw1⟩; (try simp only [SZ] at hgew1); have := hbw1.sz; obtain ⟨R0, L0, F0⟩ := B80 w1 w; obtain ⟨R1, L1, F1⟩ := BC7 w1 (w.heap.size + 1))
  | ((with_reducible refine (id ?_ : wpList _ _ _ [⟨none, _, _, _, _, _⟩] _ _)); (have hfl : Z53 1 := (by with_reducible assumption)); clear hfl hflag; (obtain ⟨W, hWe⟩ : ∃ W, w2.alloc (.cells #[.int .i64 0, .bool false, .slice none 0 0, .bool false, .slice none 0 0, .slice none 0 0, .slice none 0 0] 70) = W := ⟨_, rfl⟩); (have RW : BK W w2.heap.size Z1T := (by rw [← hWe]; exact BY)); (have EW : Ext w2 W := (by rw [← hWe]; exact EX)); rw [hWe]; clear hWe; have LW := RW.lt; have hzW := EW.size; have FW := RW.c7))
 refine ZQ 83 [(1, .pointer (some ⟨w.heap.size, 0, none⟩)), (2, .pointer (some ⟨w.heap.size + 1, 0, none⟩)), (3, .int .i64 1), (4, .slice (some ⟨gw1, 0, none⟩) 1 1), (5, .slice (some ⟨g, 0, none⟩) 2 d), (6, .pointer (some ⟨w2.heap.size, 0, none⟩)), (7, .int .i64 0)] (fun W => Ext w W ∧ BK W (w.heap.size + 1) Z1T ∧ BK W (w2.heap.size) Zc1 ∧ CK W g (zL2 p0 p1) ∧ CK W gw1 (zL8 r) ∧ p0.At W x ∧ p1.At W 1 ∧ r.At W 1 ∧ ZP W (w2.heap.size + 1) 70 7 none 0 0 []) ⟨EX, BE, BE, CX, CX, IX, IX, IX, NZ⟩ ?_
 rintro Vx0 U ⟨hW, R1, Re, Rg, Rk, ha0, ha1, ha2, hO⟩
 dsimp only [fr, frl, Nat.reduceBEq, Nat.reduceAdd, cond_true, cond_false]
 clear FW RW EW hzW LW
 (try clear FF)
 have Ha0 := zH ha0
 clear ha0
 have Ha1 := zH ha1
 clear ha1
 have Ha2 := zH ha2
 clear ha2
 have L1 := R1.lt
 have Le := Re.lt
 have Lg := Rg.lt
 have Lk := Rk.lt
 have FF := And.intro R1.ca (And.intro Re.ca (And.intro Rg.ca Rk.ca)); dsimp only [CA, CC, Nat.reduceAdd] at FF
 refine wp_loop_rounds 2 ?_
 rw [rounds_succ]
 go_wp2_with fail
 refine Zu 17 (fun a' w' => ∃ (Ax0 : Option Addr) (cx0 : Nat) (qx0 : QC) (U : Nat → Value), a' = fr 83 U [(1, .pointer (some ⟨w.heap.size, 0, none⟩)), (2, .pointer (some ⟨w.heap.size + 1, 0, none⟩)), (3, .int .i64 1), (4, .slice (some ⟨gw1, 0, none⟩) 1 1), (5, .slice (some ⟨g, 0, none⟩) 2 d), (6, .pointer (some ⟨w2.heap.size, 0, none⟩)), (7, .int .i64 0)] ∧ Ext w w' ∧ BK w' (w.heap.size + 1) Z1T ∧ BK w' (w2.heap.size) (Zc0 Ax0 cx0) ∧ CK w' g (zL2 p0 p1) ∧ CK w' gw1 (zL8 r) ∧ p0.At w' x ∧ p1.At w' 1 ∧ r.At w' 1 ∧ qx0.At w' ((1 : Int) : Rat) ∧ ZP w' (w2.heap.size + 1) 70 7 Ax0 1 cx0 [.int .i64 0, .bool qx0.s, .slice qx0.A qx0.n qx0.c, .bool qx0.t, .slice qx0.B qx0.m qx0.d, .slice none 0 0, .slice none 0 0]) (fun w' => CB w' w2.heap.size 5 [.slice none 0 0] ∧ CB w' gw1 0 (zL8 r) ∧ CB w' g 4 (zL8 p1)) Z0a ?restx0 (by dsimp only [CB, Nat.reduceAdd]; exact KQ) ?explx0
 case explx0 =>
  dsimp only [CB, Nat.reduceAdd]
  intro hHeld
  refine TU 0 ?_; refine TU 1 ?_; refine TU 2 ?_; refine TU 3 ?_; refine TU 4 ?_; refine TU 5 ?_; refine TU 6 ?_; refine TU 7 ?_; refine TU 8 ?_; refine TU 9 ?_; refine TU 10 ?_; refine TU 11 ?_
  refine R1U 12 fun K hK => ?_
  go_simp
  refine (Z0y r p1 1 _ IX IX (Or.inl rfl)).mono ?_; rintro e y1 ⟨rfl, hby1⟩; have := hby1.sz
  refine KU hK fun _ => ?_; clear hK K
  refine R1U 13 fun K hK => ?_
  go_simp
  refine (Z0z r p1 1 _ IX IX).mono ?_; rintro e y2 ⟨qx, rfl, hQ, hby2⟩; have Hqx := zH hQ; clear hQ; have := hby2.sz
  refine KU hK fun _ => ?_; clear hK K
  refine R1U 14 fun K hK => ?_
  go_simp
  refine KU hK fun _ => ?_; clear hK K
  refine R1U 15 fun K hK => ?_
  (rw [if_pos (by rfl)]; refine Z1i (.tmp 43) (.tmp 56) (by rfl) (w2.heap.size + 1) none 0 0 [] NZ (by rfl) y2.heap.size 1 1 [.int .i64 0, .bool qx.s, .slice qx.A qx.n qx.c, .bool qx.t, .slice qx.B qx.m qx.d, .slice none 0 0, .slice none 0 0] (by rfl) (by decide) (by rfl) (by exact (BE : BK _ _ (Z1A qx)).ck) (oc4 (by rfl)) (nw4 (by rfl)) (by decide) (by (try simp only [SZ]); omega) ?_; intro An cn u hOn hB hKp; replace hOn : ZP u (w2.heap.size + 1) 70 7 An 1 cn [.int .i64 0, .bool qx.s, .slice qx.A qx.n qx.c, .bool qx.t, .slice qx.B qx.m qx.d, .slice none 0 0, .slice none 0 0] := hOn; have hKy : Za y2 u := ((Za.refl y2).alloc _).trans hKp; have hxw : Ext w u := Ext.own EX hB (by omega); have hzu := hB.size; (try simp only [SZ] at hzu); have Q1 : BK u (w.heap.size + 1) Z1T := BK.belowN BE hB (by omega); have Qe : BK u (w2.heap.size) Zc1 := BK.belowN BE hB (by omega); have Qg : CK u g (zL2 p0 p1) := CK.belowN CX hB (by omega); have Qk : CK u gw1 (zL8 r) := CK.belowN CX hB (by omega); have M1 := Q1.lt; have Me := Qe.lt; have Mg := Qg.lt; have Mk := Qk.lt; have Te := Qe.ca; dsimp only [CA, Nat.reduceAdd] at Te; have TFe := Qe.frozen; have Tx := Qg.c8; have Tk := Qk.c4; have Za0 : Hid (p0.At u x) := zH (by exact IAt.keep IX hKy); have Za1 : Hid (p1.At u 1) := zH (by exact IAt.keep IX hKy); have Za2 : Hid (r.At u 1) := zH (by exact IAt.keep IX hKy); have Zq0 : Hid (qx.At u ((1 : Int) : Rat)) := zH (by exact QAt.keep QX hKy))
  refine KU hK fun _ => ?_; clear hK K
  refine TU 16 ?_
  refine RDU [17] ?_
  refine ARL (fun K hK => ?_)
  go_simp
  refine KUL hK ?_; clear hK K
  refine Z0d.done (by kernel_rfl) ?_ _
  refine ⟨An, cn, qx, _, Zr _ _, EX, BE, BE, CX, CX, IX, IX, IX, QX, NZ⟩
 case restx0 =>
 rintro a' Wex0 ⟨Ax0, cx0, qx0, U, rfl, hW, R1, Re, Rg, Rk, ha0, ha1, ha2, ha3, hO⟩
 dsimp only [fr, frl, Nat.reduceBEq, Nat.reduceAdd, cond_true, cond_false]
 clear Ha0
 have Ha0 := zH ha0
 clear ha0
 clear Ha1
 have Ha1 := zH ha1
 clear ha1
 clear Ha2
 have Ha2 := zH ha2
 clear ha2
 have Ha3 := zH ha3
 clear ha3
 (try clear FF)
 have L1 := R1.lt
 have Le := Re.lt
 have Lg := Rg.lt
 have Lk := Rk.lt
 have FF := And.intro R1.ca (And.intro Re.ca (And.intro Rg.ca Rk.ca)); dsimp only [CA, CC, Nat.reduceAdd] at FF
 go_wp2_with fail
 obtain ⟨gn, rfl, hgn, hgnb, hgnl, hgnc⟩ := hO.ck (by decide)
 have Rgn : CK Wex0 gn (zL6 qx0) := hgn
 clear hgn
 rw [rounds_succ]
 go_wp2_with fail
 refine ZQ 83 [(1, .pointer (some ⟨w.heap.size, 0, none⟩)), (2, .pointer (some ⟨w.heap.size + 1, 0, none⟩)), (3, .int .i64 1), (4, .slice (some ⟨gw1, 0, none⟩) 1 1), (5, .slice (some ⟨g, 0, none⟩) 2 d), (6, .pointer (some ⟨w2.heap.size, 0, none⟩)), (7, .int .i64 1), (8, .int .i64 0)] (fun W => Ext w W ∧ BK W (w.heap.size + 1) Z1T ∧ BK W (w2.heap.size) (Zd1 gn cx0) ∧ CK W g (zL2 p0 p1) ∧ CK W gw1 (zL8 r) ∧ p0.At W x ∧ p1.At W 1 ∧ r.At W 1 ∧ qx0.At W ((1 : Int) : Rat) ∧ CK W gn (zL6 qx0) ∧ Wex0.heap.size ≤ W.heap.size ∧ ZP W (Wex0.heap.size) 70 7 none 0 0 []) ⟨EX, BE, BE, CX, CX, IX, IX, IX, QX, CX, by (try simp only [SZ]); omega, NZ⟩ ?_
 rintro Vy0 U ⟨hW, R1, Re, Rg, Rk, ha0, ha1, ha2, ha3, hx0, hx1, hO⟩
 dsimp only [fr, frl, Nat.reduceBEq, Nat.reduceAdd, cond_true, cond_false]
 (try clear FF)
 clear Ha0
 have Ha0 := zH ha0
 clear ha0
 clear Ha1
 have Ha1 := zH ha1
 clear ha1
 clear Ha2
 have Ha2 := zH ha2
 clear ha2
 clear Ha3
 have Ha3 := zH ha3
 clear ha3
 have L1 := R1.lt
 have Le := Re.lt
 have Lg := Rg.lt
 have Lk := Rk.lt
 have FF := And.intro R1.ca (And.intro Re.ca (And.intro Rg.ca Rk.ca)); dsimp only [CA, CC, Nat.reduceAdd] at FF
 refine wp_loop_rounds 3 ?_
 rw [rounds_succ]
 go_wp2_with fail
 refine Zu 17 (fun a' w' => ∃ (Ay0 : Option Addr) (cy0 : Nat) (qy0 : QC) (U : Nat → Value), a' = fr 83 U [(1, .pointer (some ⟨w.heap.size, 0, none⟩)), (2, .pointer (some ⟨w.heap.size + 1, 0, none⟩)), (3, .int .i64 1), (4, .slice (some ⟨gw1, 0, none⟩) 1 1), (5, .slice (some ⟨g, 0, none⟩) 2 d), (6, .pointer (some ⟨w2.heap.size, 0, none⟩)), (7, .int .i64 1), (8, .int .i64 0)] ∧ Ext w w' ∧ BK w' (w.heap.size + 1) Z1T ∧ BK w' (w2.heap.size) (Zcu gn cx0 Ay0 cy0) ∧ CK w' g (zL2 p0 p1) ∧ CK w' gw1 (zL8 r) ∧ p0.At w' x ∧ p1.At w' 1 ∧ r.At w' 1 ∧ qx0.At w' ((1 : Int) : Rat) ∧ qy0.At w' (x : Rat) ∧ CK w' gn (zL6 qx0) ∧ Wex0.heap.size ≤ w'.heap.size ∧ ZP w' (Wex0.heap.size) 70 7 Ay0 1 cy0 [.int .i64 0, .bool qy0.s, .slice qy0.A qy0.n qy0.c, .bool qy0.t, .slice qy0.B qy0.m qy0.d, .slice none 0 0, .slice none 0 0]) (fun w' => CB w' w2.heap.size 6 [.slice none 0 0] ∧ CB w' g 0 (zL2 p0 p1)) Z0a ?resty0 (by dsimp only [CB, Nat.reduceAdd]; exact KQ) ?exply0
 case exply0 =>
  dsimp only [CB, Nat.reduceAdd]
  intro hHeld
  refine TU 0 ?_; refine TU 1 ?_; refine TU 2 ?_; refine TU 3 ?_; refine TU 4 ?_; refine TU 5 ?_; refine TU 6 ?_; refine TU 7 ?_; refine TU 8 ?_; refine TU 9 ?_; refine TU 10 ?_; refine TU 11 ?_
  refine R1U 12 fun K hK => ?_
  go_simp
  refine (Z0y p0 p1 x _ IX IX hx).mono ?_; rintro e y1 ⟨rfl, hby1⟩; have := hby1.sz
  refine KU hK fun _ => ?_; clear hK K
  refine R1U 13 fun K hK => ?_
  go_simp
  refine (Z0z p0 p1 x _ IX IX).mono ?_; rintro e y2 ⟨qx, rfl, hQ, hby2⟩; have Hqx := zH hQ; clear hQ; have := hby2.sz
  refine KU hK fun _ => ?_; clear hK K
  refine R1U 14 fun K hK => ?_
  go_simp
  refine KU hK fun _ => ?_; clear hK K
  refine R1U 15 fun K hK => ?_
  (rw [if_pos (by rfl)]; refine Z1i (.tmp 66) (.tmp 79) (by rfl) (Wex0.heap.size) none 0 0 [] NZ (by rfl) y2.heap.size 1 1 [.int .i64 0, .bool qx.s, .slice qx.A qx.n qx.c, .bool qx.t, .slice qx.B qx.m qx.d, .slice none 0 0, .slice none 0 0] (by rfl) (by decide) (by rfl) (by exact (BE : BK _ _ (Z1A qx)).ck) (oc4 (by rfl)) (nw4 (by rfl)) (by decide) (by (try simp only [SZ]); omega) ?_; intro An cn u hOn hB hKp; replace hOn : ZP u (Wex0.heap.size) 70 7 An 1 cn [.int .i64 0, .bool qx.s, .slice qx.A qx.n qx.c, .bool qx.t, .slice qx.B qx.m qx.d, .slice none 0 0, .slice none 0 0] := hOn; have hKy : Za y2 u := ((Za.refl y2).alloc _).trans hKp; have hxw : Ext w u := Ext.own EX hB (by omega); have hzu := hB.size; (try simp only [SZ] at hzu); have Q1 : BK u (w.heap.size + 1) Z1T := BK.belowN BE hB (by omega); have Qe : BK u (w2.heap.size) (Zd1 gn cx0) := BK.belowN BE hB (by omega); have Qg : CK u g (zL2 p0 p1) := CK.belowN CX hB (by omega); have Qk : CK u gw1 (zL8 r) := CK.belowN CX hB (by omega); have M1 := Q1.lt; have Me := Qe.lt; have Mg := Qg.lt; have Mk := Qk.lt; have Te := Qe.ca; dsimp only [CA, Nat.reduceAdd] at Te; have TFe := Qe.frozen; have Tx := Qg.c8; have Tk := Qk.c4; have Qn : CK u gn (zL6 qx0) := CK.belowN CX hB (by omega); have Za0 : Hid (p0.At u x) := zH (by exact IAt.keep IX hKy); have Za1 : Hid (p1.At u 1) := zH (by exact IAt.keep IX hKy); have Za2 : Hid (r.At u 1) := zH (by exact IAt.keep IX hKy); have Zq0 : Hid (qx0.At u ((1 : Int) : Rat)) := zH (by exact QAt.keep QX hKy); have Zq1 : Hid (qx.At u (x : Rat)) := zH (by exact QAt.keep QX hKy))
  refine KU hK fun _ => ?_; clear hK K
  refine TU 16 ?_
  refine RDU [17] ?_
  refine ARL (fun K hK => ?_)
  go_simp
  refine KUL hK ?_; clear hK K
  refine Z0d.done (by kernel_rfl) ?_ _
  refine ⟨An, cn, qx, _, Zr _ _, EX, BE, BE, CX, CX, IX, IX, IX, QX, QX, CX, by (try simp only [SZ]); omega, NZ⟩
 case resty0 =>
 rintro a' Wey0 ⟨Ay0, cy0, qy0, U, rfl, hW, R1, Re, Rg, Rk, ha0, ha1, ha2, ha3, ha4, hx0, hx1, hO⟩
 dsimp only [fr, frl, Nat.reduceBEq, Nat.reduceAdd, cond_true, cond_false]
 clear Ha0
 have Ha0 := zH ha0
 clear ha0
 clear Ha1
 have Ha1 := zH ha1
 clear ha1
 clear Ha2
 have Ha2 := zH ha2
 clear ha2
 clear Ha3
 have Ha3 := zH ha3
 clear ha3
 have Ha4 := zH ha4
 clear ha4
 (try clear FF)
 have L1 := R1.lt
 have Le := Re.lt
 have Lg := Rg.lt
 have Lk := Rk.lt
 have FF := And.intro R1.ca (And.intro Re.ca (And.intro Rg.ca Rk.ca)); dsimp only [CA, CC, Nat.reduceAdd] at FF
 go_wp2_with fail
 rw [rounds_succ]
 refine ZQ 83 [(1, .pointer (some ⟨w.heap.size, 0, none⟩)), (2, .pointer (some ⟨w.heap.size + 1, 0, none⟩)), (3, .int .i64 1), (4, .slice (some ⟨gw1, 0, none⟩) 1 1), (5, .slice (some ⟨g, 0, none⟩) 2 d), (6, .pointer (some ⟨w2.heap.size, 0, none⟩)), (7, .int .i64 1), (8, .int .i64 1)] (fun W => Ext w W ∧ BK W (w.heap.size + 1) Z1T ∧ BK W (w2.heap.size) (Zcu gn cx0 Ay0 cy0) ∧ CK W g (zL2 p0 p1) ∧ CK W gw1 (zL8 r) ∧ p0.At W x ∧ p1.At W 1 ∧ r.At W 1 ∧ qx0.At W ((1 : Int) : Rat) ∧ qy0.At W (x : Rat) ∧ CK W gn (zL6 qx0) ∧ Wex0.heap.size ≤ W.heap.size ∧ ZP W (Wex0.heap.size) 70 7 Ay0 1 cy0 [.int .i64 0, .bool qy0.s, .slice qy0.A qy0.n qy0.c, .bool qy0.t, .slice qy0.B qy0.m qy0.d, .slice none 0 0, .slice none 0 0]) ⟨EX, BE, BE, CX, CX, IX, IX, IX, QX, QX, CX, by (try simp only [SZ]); omega, NZ⟩ ?_
 rintro Vy1 U ⟨hW, R1, Re, Rg, Rk, ha0, ha1, ha2, ha3, ha4, hx0, hx1, hO⟩
 dsimp only [fr, frl, Nat.reduceBEq, Nat.reduceAdd, cond_true, cond_false]
 (try clear FF)
 clear Ha0
 have Ha0 := zH ha0
 clear ha0
 clear Ha1
 have Ha1 := zH ha1
 clear ha1
 clear Ha2
 have Ha2 := zH ha2
 clear ha2
 clear Ha3
 have Ha3 := zH ha3
 clear ha3
 clear Ha4
 have Ha4 := zH ha4
 clear ha4
 have L1 := R1.lt
 have Le := Re.lt
 have Lg := Rg.lt
 have Lk := Rk.lt
 have FF := And.intro R1.ca (And.intro Re.ca (And.intro Rg.ca Rk.ca)); dsimp only [CA, CC, Nat.reduceAdd] at FF
 go_wp2_with fail
 refine Zu 17 (fun a' w' => ∃ (Ay1 : Option Addr) (cy1 : Nat) (qy1 : QC) (U : Nat → Value), a' = fr 83 U [(1, .pointer (some ⟨w.heap.size, 0, none⟩)), (2, .pointer (some ⟨w.heap.size + 1, 0, none⟩)), (3, .int .i64 1), (4, .slice (some ⟨gw1, 0, none⟩) 1 1), (5, .slice (some ⟨g, 0, none⟩) 2 d), (6, .pointer (some ⟨w2.heap.size, 0, none⟩)), (7, .int .i64 1), (8, .int .i64 1)] ∧ Ext w w' ∧ BK w' (w.heap.size + 1) Z1T ∧ BK w' (w2.heap.size) #[.int .i64 1, .bool false, .slice none 0 0, .bool false, .slice none 0 0, .slice (some ⟨gn, 0, none⟩) 1 cx0, .slice Ay1 2 cy1] ∧ CK w' g (zL2 p0 p1) ∧ CK w' gw1 (zL8 r) ∧ p0.At w' x ∧ p1.At w' 1 ∧ r.At w' 1 ∧ qx0.At w' ((1 : Int) : Rat) ∧ qy0.At w' (x : Rat) ∧ qy1.At w' ((1 : Int) : Rat) ∧ CK w' gn (zL6 qx0) ∧ Wex0.heap.size ≤ w'.heap.size ∧ ZP w' (Wex0.heap.size) 70 7 Ay1 2 cy1 [.int .i64 0, .bool qy0.s, .slice qy0.A qy0.n qy0.c, .bool qy0.t, .slice qy0.B qy0.m qy0.d, .slice none 0 0, .slice none 0 0, .int .i64 0, .bool qy1.s, .slice qy1.A qy1.n qy1.c, .bool qy1.t, .slice qy1.B qy1.m qy1.d, .slice none 0 0, .slice none 0 0]) (fun w' => CB w' w2.heap.size 6 [.slice Ay0 1 cy0] ∧ CB w' g 4 (zL8 p1) ∧ CB w' g 4 (zL8 p1)) Z0a ?resty1 (by dsimp only [CB, Nat.reduceAdd]; exact KQ) ?exply1
 case exply1 =>
  dsimp only [CB, Nat.reduceAdd]
  intro hHeld
  refine TU 0 ?_; refine TU 1 ?_; refine TU 2 ?_; refine TU 3 ?_; refine TU 4 ?_; refine TU 5 ?_; refine TU 6 ?_; refine TU 7 ?_; refine TU 8 ?_; refine TU 9 ?_; refine TU 10 ?_; refine TU 11 ?_
  refine R1U 12 fun K hK => ?_
  go_simp
  refine (Z0y p1 p1 1 _ IX IX (Or.inl rfl)).mono ?_; rintro e y1 ⟨rfl, hby1⟩; have := hby1.sz
  refine KU hK fun _ => ?_; clear hK K
  refine R1U 13 fun K hK => ?_
  go_simp
  refine (Z0z p1 p1 1 _ IX IX).mono ?_; rintro e y2 ⟨qx, rfl, hQ, hby2⟩; have Hqx := zH hQ; clear hQ; have := hby2.sz
  refine KU hK fun _ => ?_; clear hK K
  refine R1U 14 fun K hK => ?_
  go_simp
  refine KU hK fun _ => ?_; clear hK K
  refine R1U 15 fun K hK => ?_
  (rw [if_pos (by rfl)]; refine Z1i (.tmp 66) (.tmp 79) (by rfl) (Wex0.heap.size) Ay0 1 cy0 [.int .i64 0, .bool qy0.s, .slice qy0.A qy0.n qy0.c, .bool qy0.t, .slice qy0.B qy0.m qy0.d, .slice none 0 0, .slice none 0 0] NZ (by rfl) y2.heap.size 1 1 [.int .i64 0, .bool qx.s, .slice qx.A qx.n qx.c, .bool qx.t, .slice qx.B qx.m qx.d, .slice none 0 0, .slice none 0 0] (by rfl) (by decide) (by rfl) (by exact (BE : BK _ _ (Z1A qx)).ck) (oc4 (by rfl)) (nw4 (by rfl)) (by decide) (by (try simp only [SZ]); omega) ?_; intro An cn u hOn hB hKp; replace hOn : ZP u (Wex0.heap.size) 70 7 An 2 cn [.int .i64 0, .bool qy0.s, .slice qy0.A qy0.n qy0.c, .bool qy0.t, .slice qy0.B qy0.m qy0.d, .slice none 0 0, .slice none 0 0, .int .i64 0, .bool qx.s, .slice qx.A qx.n qx.c, .bool qx.t, .slice qx.B qx.m qx.d, .slice none 0 0, .slice none 0 0] := hOn; have hKy : Za y2 u := ((Za.refl y2).alloc _).trans hKp; have hxw : Ext w u := Ext.own EX hB (by omega); have hzu := hB.size; (try simp only [SZ] at hzu); have Q1 : BK u (w.heap.size + 1) Z1T := BK.belowN BE hB (by omega); have Qe : BK u (w2.heap.size) (Zcu gn cx0 Ay0 cy0) := BK.belowN BE hB (by omega); have Qg : CK u g (zL2 p0 p1) := CK.belowN CX hB (by omega); have Qk : CK u gw1 (zL8 r) := CK.belowN CX hB (by omega); have M1 := Q1.lt; have Me := Qe.lt; have Mg := Qg.lt; have Mk := Qk.lt; have Te := Qe.ca; dsimp only [CA, Nat.reduceAdd] at Te; have TFe := Qe.frozen; have Tx := Qg.c8; have Tk := Qk.c4; have Qn : CK u gn (zL6 qx0) := CK.belowN CX hB (by omega); have Za0 : Hid (p0.At u x) := zH (by exact IAt.keep IX hKy); have Za1 : Hid (p1.At u 1) := zH (by exact IAt.keep IX hKy); have Za2 : Hid (r.At u 1) := zH (by exact IAt.keep IX hKy); have Zq0 : Hid (qx0.At u ((1 : Int) : Rat)) := zH (by exact QAt.keep QX hKy); have Zq1 : Hid (qy0.At u (x : Rat)) := zH (by exact QAt.keep QX hKy); have Zq2 : Hid (qx.At u ((1 : Int) : Rat)) := zH (by exact QAt.keep QX hKy))
  refine KU hK fun _ => ?_; clear hK K
  refine TU 16 ?_
  refine RDU [17] ?_
  refine ARL (fun K hK => ?_)
  go_simp
  refine KUL hK ?_; clear hK K
  refine Z0d.done (by kernel_rfl) ?_ _
  refine ⟨An, cn, qx, _, Zr _ _, EX, BE, BE, CX, CX, IX, IX, IX, QX, QX, QX, CX, by (try simp only [SZ]); omega, NZ⟩
 case resty1 =>
 rintro a' Wey1 ⟨Ay1, cy1, qy1, U, rfl, hW, R1, Re, Rg, Rk, ha0, ha1, ha2, ha3, ha4, ha5, hx0, hx1, hO⟩
 dsimp only [fr, frl, Nat.reduceBEq, Nat.reduceAdd, cond_true, cond_false]
 clear Ha0
 have Ha0 := zH ha0
 clear ha0
 clear Ha1
 have Ha1 := zH ha1
 clear ha1
 clear Ha2
 have Ha2 := zH ha2
 clear ha2
 clear Ha3
 have Ha3 := zH ha3
 clear ha3
 clear Ha4
 have Ha4 := zH ha4
 clear ha4
 have Ha5 := zH ha5
 clear ha5
 (try clear FF)
 have L1 := R1.lt
 have Le := Re.lt
 have Lg := Rg.lt
 have Lk := Rk.lt
 have FF := And.intro R1.ca (And.intro Re.ca (And.intro Rg.ca Rk.ca)); dsimp only [CA, CC, Nat.reduceAdd] at FF
 go_wp2_with fail
 obtain ⟨gd, rfl, hgd, hgdb, hgdl, hgdc⟩ := hO.ck (by decide)
 have Rgd : CK Wey1 gd (zL1 qy0 qy1) := hgd
 clear hgd
 rw [rounds_succ]
 go_wp2_with ((with_reducible refine BK.fin3 (g := w.heap.size + 1) (c := #[.int .i64 1, .bool false, .slice none 0 0, .bool false, .slice none 0 0, .slice (some ⟨gn, 0, none⟩) 1 cx0, .slice (some ⟨gd, 0, none⟩) 2 cy1]) (w0 := w) (T := fun W => CK W gn (zL6 qx0) ∧ CK W gd (zL1 qy0 qy1) ∧ qx0.At W ((1 : Int) : Rat) ∧ qy0.At W (x : Rat) ∧ qy1.At W ((1 : Int) : Rat) ∧ gn < W.heap.size ∧ gd < W.heap.size) ?_ ?_ ?_ ?_); exact BE; exact EX; exact ⟨CX, CX, QX, QX, QX, by (try simp only [SZ]); omega, by (try simp only [SZ]); omega⟩; intro W U E hT; have Ft := U.c7; obtain ⟨t0, t1, t2, t3, t4, t5, t6⟩ := hT; refine bodyPost_ret (v := .agg (Z0M gn cx0 gd cy1)) (by simp [Z0M, results, results195, go_sem, Ft]) rfl ⟨gn, gd, cx0, cy1, qx0, qy0, qy1, rfl, t0, t1, t2, t3, t4, by omega, by omega, by omega, by omega, t5, t6, E⟩)
variable {F : Fence} {n : Nat} {P : Program}
structure KpS (X : Nat → Prop) (W W' : World) : Prop where
 os : W'.os = W.os
 tape : W'.tape = W.tape
 output : W'.output = W.output
 size : W.heap.size ≤ W'.heap.size
 words : Za W W'
 block : ∀ b, b < W.heap.size → ¬ X b → W'.heap[b]? = W.heap[b]?
theorem KpS.trans {X : Nat → Prop} {a b c : World} (h : KpS X a b) (k : KpS X b c) : KpS X a c :=
 ⟨k.os.trans h.os, k.tape.trans h.tape, k.output.trans h.output, Nat.le_trans h.size k.size, h.words.trans k.words, fun i hi hx => (k.block i (Nat.lt_of_lt_of_le hi h.size) hx).trans (h.block i hi hx)⟩
theorem KpS.mono {X Y : Nat → Prop} {a b : World} (h : KpS X a b) (hxy : ∀ i, X i → Y i) : KpS Y a b := ⟨h.os, h.tape, h.output, h.size, h.words, fun i hi hy => h.block i hi (fun hx => hy (hxy i hx))⟩
theorem KpS.of_ext {X : Nat → Prop} {a b : World} (h : Ext a b) : KpS X a b := ⟨h.below.os, h.below.tape, h.below.output, h.below.size, h.keeps, fun i hi _ => h.below.block i hi⟩
theorem KpS.ext {X : Nat → Prop} {a b c : World} (h : KpS X a b) (k : Ext b c) : KpS X a c := h.trans (KpS.of_ext k)
theorem Z4K {w : World} {l : Nat} {r : Loop} (o : Obj) (h : w.heap[l]? = some (.loop r)) : KpS (· = l) w (w.putObj l o) :=
 ⟨rfl, rfl, rfl, Nat.le_of_eq (Z44 _ _ _).symm, Z0O o h, fun i _ hx => Zg hx⟩
theorem Z9u {g : Operand} {ps : Array Tmp} {assign body : Code} {Q : Exit → Act → World → Prop} {a : Act} {w : World}
  (hro : F.round = none) (h1 : 1 ≤ n) {gf : Nat} {lb : Array Value} (hg : a.eval g = .func (.func gf) #[] lb) (hFg : F.fn gf) (eg : ∀ args w, (callFunc gf args).run P w = .ok (.enter gf args) w)
  (X : Nat → Prop) (hX : ∀ b, X b → b < w.heap.size)
  (T : Nat → Array Value → World → Prop) (I : Nat → World → Prop) (Ax : Nat → Array Value → Act → World → Prop)
  (hsz : ∀ k v A, T k v A → v.size = ps.size)
  (hT : ∀ k v A B, T k v A → Za A B → T k v B)
  (hI : ∀ k A B, I k A → Below w.heap.size A B → Za A B → I k B)
  (hAx : ∀ k v a' A l o, Ax k v a' A → (∃ r, A.heap[l]? = some (.loop r)) → Ax k v a' (A.putObj l o))
  (N : Nat)
  (h0 : I 0 w)
  (hiter : ∀ (l : Nat) (J : Nat → World → Prop) (W : World), Ext w W → w.heap.size < l →
   (∀ k A B, J k A → Below W.heap.size A B → Za A B → J k B) →
   (∀ k W1 v, k < N → J k W1 → T k v W1 → YieldAt F (n - 1 - 1) P l v W1 fun e W' => KpS (fun b => X b ∨ b = l) W1 W' ∧ e = .returned (.bool true) ∧ J (k + 1) W') →
   J 0 W → CallsIn F (n - 1) P gf (#[.func (.yield l) #[] #[]] ++ lb) W fun e W' => (∃ v, e = .returned v) ∧ J N W')
  (hassign : ∀ (l k : Nat) (v : Array Value) (W : World), k < N → I k W → T k v W → w.heap.size ≤ W.heap.size →
   assign.wpIn (F.inRound l) (n - 1 - 1) P (Exit.then (fun a' W' => KpS X W W' ∧ I k W' ∧ T k v W' ∧ Ax k v a' W') (fun _ _ _ => False)) { tmps := (ps.zip v).foldl (fun t (p, v) => t.setIfInBounds p v) a.tmps, defers := [] } W)
  (hbody : ∀ (l k : Nat) (v : Array Value) (a' : Act) (W : World), k < N → I k W → T k v W → Ax k v a' W → w.heap.size ≤ W.heap.size →
   body.wpIn (F.inRound l) (n - 1 - 1) P (fun e _ W' => match e with | .normal => KpS X W W' ∧ I (k + 1) W' | _ => False) a' W)
  (hdone : ∀ (D : Nat) (W : World), w.heap.size ≤ D → I N W → W.heap[D]? = some (.deferred (some [])) → Q .normal { a with defers := { target := .collected D, args := #[] } :: a.defers } W) :
  (Code.rangeFunc g ps assign body).wpIn F n P Q a w := by
 refine wpIn_rangeFunc ?_
 intro fn hfn
 rw [hro]
 obtain ⟨rec, hrec⟩ : ∃ rec : LoopState → Option Code → Loop, rec = fun st pe => { state := st, pending := pe, fn, tmps := a.tmps, params := ps, assign, body, defers := w.heap.size } := ⟨_, rfl⟩
 obtain ⟨W1, hW1⟩ : ∃ W1, (w.alloc (.deferred (some []))).alloc (.loop (rec .ready none)) = W1 := ⟨_, rfl⟩
 have hx1 : Ext w W1 := by rw [← hW1]; exact ((Ext.refl w).alloc _).alloc _
 have hs1 : w.heap.size + 2 = W1.heap.size := by rw [← hW1]; simp only [World.size_alloc]
 have hL1 : W1.heap[w.heap.size + 1]? = some (.loop (rec .ready none)) := by
  rw [← hW1]; have := World.alloc_heap_new (w.alloc (.deferred (some []))) (.loop (rec .ready none)); rwa [World.size_alloc] at this
 have hD1 : W1.heap[w.heap.size]? = some (.deferred (some [])) := by
  rw [← hW1]; exact (Below.heap_alloc _ _ _ (by rw [World.size_alloc]; omega)).trans (World.alloc_heap_new w _)
 have hI1 : I 0 W1 := hI 0 w W1 h0 hx1.below hx1.keeps
 have nXL : ¬ X (w.heap.size + 1) := fun h => by have := hX _ h; omega
 have nXD : ¬ X (w.heap.size) := fun h => by have := hX _ h; omega
 refine ⟨w.heap.size + 1, [{ target := .collected w.heap.size, args := #[] }], W1, { target := .fn (.func gf) lb, args := #[.func (.yield (w.heap.size + 1)) #[] #[]] }, W1, gf,
  #[.func (.yield (w.heap.size + 1)) #[] #[]] ++ lb, W1, ?_, ?_, ?_, ?_, fun _ => h1, ?_⟩
 ·rw [← hW1, hrec]; exact run_enterLoop_outer _ _ _ _ _
 ·simp only [resolve, hg]
  simp [go_sem]
 ·intro f' hf'; simp [Target.leads] at hf'; subst hf'; exact hFg
 ·simp [invoke, go_sem, eg]
 ·have hle : w.heap.size ≤ W1.heap.size := by omega
  refine (hiter (w.heap.size + 1) (fun k W => I k W ∧ W.heap[w.heap.size + 1]? = some (.loop (rec .ready none)) ∧ W.heap[w.heap.size]? = some (.deferred (some []))) W1 hx1 (by omega)
   (fun k A B h hb hk => ⟨hI k A B h.1 (hb.mono hle) hk, (hb.block _ (by omega)).trans h.2.1, (hb.block _ (by omega)).trans h.2.2⟩) ?_ ⟨hI1, hL1, hD1⟩).mono ?_
  ·rintro k W v hkN ⟨hi, hl, hd⟩ ht
   have hlt : w.heap.size + 1 < W.heap.size := (Array.getElem?_eq_some_iff.1 hl).1
   have hy := run_yield (P := P) (args := v) hl (by rw [hrec]; exact hsz _ _ _ ht)
   rw [hrec] at hy
   refine ⟨fn, _, assign, body, hy, roundIn_of_wpIn hfn (wpIn_mono (hassign (w.heap.size + 1) k v W hkN hi ht (by omega)) ?_)⟩
   rintro e a' W2 he
   cases e with
   | normal =>
    obtain ⟨hk2, hi2, ht2, ha2⟩ := he
    have hl2 := (hk2.block (w.heap.size + 1) hlt nXL).trans hl
    have hd2 := (hk2.block w.heap.size (by omega) nXD).trans hd
    have hlt2 : w.heap.size + 1 < W2.heap.size := (Array.getElem?_eq_some_iff.1 hl2).1
    refine ⟨_, run_beginRound hl2 (by rw [hrec]), ?_⟩
    obtain ⟨W3, hW3⟩ : ∃ W3, W2.putObj (w.heap.size + 1) (.loop { rec .ready none with state := .busy }) = W3 := ⟨_, rfl⟩
    have hk3 : KpS (· = w.heap.size + 1) W2 W3 := by rw [← hW3]; exact Z4K _ hl2
    have hb3 : Below w.heap.size W2 W3 := by rw [← hW3]; exact ZV hl2 (by omega)
    have hl3 : W3.heap[w.heap.size + 1]? = some (.loop { rec .ready none with state := .busy }) := by rw [← hW3]; exact Z0N hlt2
    have hd3 : W3.heap[w.heap.size]? = some (.deferred (some [])) := by rw [← hW3]; exact (Zg (by omega)).trans hd2
    have ha3 : Ax k v a' W3 := by rw [← hW3]; exact hAx k v a' W2 _ _ ha2 ⟨_, hl2⟩
    rw [hW3]
    refine wpIn_mono (hbody (w.heap.size + 1) k v a' W3 hkN (hI k _ _ hi2 hb3 hk3.words) (hT k v _ _ ht2 hk3.words) ha3 (by have := hb3.size; omega)) ?_
    rintro e a3 W4 hp
    cases e with
    | normal =>
     obtain ⟨hk4, hi4⟩ := hp
     have hlt3 : w.heap.size + 1 < W3.heap.size := (Array.getElem?_eq_some_iff.1 hl3).1
     have hl4 := (hk4.block _ hlt3 nXL).trans hl3
     have hd4 := (hk4.block w.heap.size (by omega) nXD).trans hd3
     have hr := run_endRound (P := P) none hl4
     have hb5 : Below w.heap.size W4 (W4.putObj (w.heap.size + 1) (.loop (rec .ready none))) := ZV hl4 (by omega)
     have hw5 : Za W4 (W4.putObj (w.heap.size + 1) (.loop (rec .ready none))) := Z0O _ hl4
     refine ⟨.bool true, W4.putObj (w.heap.size + 1) (.loop (rec .ready none)), by rw [hrec] at hr ⊢; exact hr, ?_, rfl, hI _ _ _ hi4 hb5 hw5, Z0N (Array.getElem?_eq_some_iff.1 hl4).1, (Zg (by omega)).trans hd4⟩
     exact (((hk2.mono fun _ h => .inl h).trans (hk3.mono fun _ h => .inr h)).trans (hk4.mono fun _ h => .inl h)).trans ((Z4K _ hl4).mono fun _ h => .inr h)
    | ret => exact hp.elim
    | exit id => exact hp.elim
    | goto t => exact hp.elim
    | panic ch => exact hp.elim
    | outgrown => exact hp.elim
   | ret => exact he.elim
   | exit id => exact he.elim
   | goto t => exact he.elim
   | panic ch => exact he.elim
   | outgrown => exact he.elim
  ·rintro e W2 ⟨⟨v, rfl⟩, hi, hl, hd⟩
   have hr := run_endLoop (P := P) hl (by rw [hrec]; simp)
   refine ⟨none, _, by rw [hrec] at hr; exact hr, ?_⟩
   exact hdone w.heap.size _ (Nat.le_refl _) (hI _ _ _ hi (ZV hl (by omega)) (Z0O _ hl)) ((Zg (by omega)).trans hd)
attribute [local go_sem] Oper.semAt_some
def TF (cf : Nat → Rat) (k : Nat) (v : Array Value) (W : World) : Prop := ∃ (i : Int) (p : QC), v = #[.int .i64 i, .agg #[.bool p.s, .slice p.A p.n p.c, .bool p.t, .slice p.B p.m p.d]] ∧ p.At W (cf k)
def Zba (gf : Nat) (lb : Array Value) (T : Nat → Array Value → World → Prop) (X : Nat → Prop) (N : Nat) (w : World) : Prop :=
 ∀ (l : Nat) (J : Nat → World → Prop) (W : World), Ext w W → w.heap.size < l → (∀ k A B, J k A → Below W.heap.size A B → Za A B → J k B) →
  (∀ k W1 v, k < N → J k W1 → T k v W1 → YieldAt Fence.wide (3 - 1 - 1) Tryz.prog l v W1 fun e W' => KpS (fun b => X b ∨ b = l) W1 W' ∧ e = .returned (.bool true) ∧ J (k + 1) W') →
  J 0 W → CallsIn Fence.wide (3 - 1) Tryz.prog gf (#[.func (.yield l) #[] #[]] ++ lb) W fun e W' => (∃ v, e = .returned v) ∧ J N W'
theorem BK.kpS {X : Nat → Prop} {a b : World} {g : Nat} {c : Array Value} (h : BK a g c) (k : KpS X a b) (hn : ¬ X g) : BK b g c := by have hl := h.lt; obtain ⟨ty, h⟩ := h; exact ⟨ty, (k.block g hl hn).trans h⟩
theorem CK.kpS {X : Nat → Prop} {a b : World} {g : Nat} {v : Value} {c : List Value} (h : CK a g (v :: c)) (k : KpS X a b) (hn : ¬ X g) : CK b g (v :: c) := fun i u hu => by
 have h0 := h i u hu
 have e := k.block g h.lt hn
 unfold World.cell? at h0 ⊢
 simp only [e]
 exact h0
def Z60 (l : List Rat) (k : Nat) : Rat := (l.reverse).getD k 0
theorem Z5s (gq b c : Nat) (p0 : QC) (x0 : Rat) (X : Nat → Prop) (w : World) (hq : BK w gq #[.slice (some ⟨b, 0, none⟩) 1 c]) (hb : CK w b (Z2G p0)) (nq : ¬ X gq) (nb : ¬ X b) (h0 : p0.At w x0) :
  Zba 287 #[.pointer (some ⟨gq, 0, none⟩)] (TF (Z60 [x0])) X 1 w := by
 intro l J W hx hl hJ hY hJ0
 have lq := hq.lt
 have lb := hb.lt
 have nq' : ¬ (X gq ∨ gq = l) := by rintro (h | h); exact nq h; omega
 have nb' : ¬ (X b ∨ b = l) := by rintro (h | h); exact nb h; omega
 have bq := hq.ext hx
 have bb := hb.ext hx
 have a0 := h0.ext hx
 have Lq := bq.lt
 have Lb := bb.lt
 have Fq_0 : zC W gq 0 (.slice (some ⟨b, 0, none⟩) 1 c) := bq.cell 0
 have Fb := bb.ca; dsimp only [CC, Nat.reduceAdd] at Fb
 have ww0 : IntKind.i64.wrap (1 - 1) = 0 := by decide
 have ww1 : IntKind.i64.wrap (2 - 1) = 1 := by decide
 have ww2 : IntKind.i64.wrap (0 - 1) = -1 := by decide
 have ww4 : IntKind.i64.wrap 0 = 0 := by decide
 have ww5 : IntKind.i64.wrap 1 = 1 := by decide
 refine callsIn_of_wp func287 rfl trivial ?_ rfl
 simp only [ntmps287, List.size_toArray, List.length_cons, List.length_nil, Nat.reduceAdd, Nat.reduceSub, Array.replicate_succ, Array.replicate_zero, List.push_toArray, List.append_toArray, List.nil_append, List.cons_append]
 gi_wp2_with fail
 refine wpIn_loop_rounds 2 ?_
 rw [roundsIn_succ]
 obtain ⟨fn0, tmps0, assign0, body0, hyl0, hR0⟩ := hY 0 W #[.int .i64 0, .agg #[.bool p0.s, .slice p0.A p0.n p0.c, .bool p0.t, .slice p0.B p0.m p0.d]] (by decide) hJ0 ⟨0, p0, rfl, a0⟩
 gi_wp2_with fail
 refine hR0.mono ?_
 rintro e W0 ⟨hk0, rfl, hJ1⟩
 replace bq := bq.kpS hk0 nq'
 replace bb := bb.kpS hk0 nb'
 replace a0 := a0.keep hk0.words
 clear Fq_0 Fb
 have Fq_0 : zC W0 gq 0 (.slice (some ⟨b, 0, none⟩) 1 c) := bq.cell 0
 have Lq := bq.lt
 have Lb := bb.lt
 have Fb := bb.ca; dsimp only [CC, Nat.reduceAdd] at Fb
 gi_wp2_with fail
 rw [roundsIn_succ]
 gi_wp2_with fail
 refine bodyPost_end (results_none rfl _ _ _) rfl ?_
 exact ⟨⟨_, rfl⟩, hJ1⟩
theorem Z5r (gq b c : Nat) (p0 p1 : QC) (x0 x1 : Rat) (X : Nat → Prop) (w : World) (hq : BK w gq #[.slice (some ⟨b, 0, none⟩) 2 c]) (hb : CK w b (Z2H p0 p1)) (nq : ¬ X gq) (nb : ¬ X b) (h0 : p0.At w x0) (h1 : p1.At w x1) :
  Zba 287 #[.pointer (some ⟨gq, 0, none⟩)] (TF (Z60 [x0, x1])) X 2 w := by
 intro l J W hx hl hJ hY hJ0
 have lq := hq.lt
 have lb := hb.lt
 have nq' : ¬ (X gq ∨ gq = l) := by rintro (h | h); exact nq h; omega
 have nb' : ¬ (X b ∨ b = l) := by rintro (h | h); exact nb h; omega
 have bq := hq.ext hx
 have bb := hb.ext hx
 have a0 := h0.ext hx
 have a1 := h1.ext hx
 have Lq := bq.lt
 have Lb := bb.lt
 have Fq_0 : zC W gq 0 (.slice (some ⟨b, 0, none⟩) 2 c) := bq.cell 0
 have Fb := bb.ca; dsimp only [CC, Nat.reduceAdd] at Fb
 have ww0 : IntKind.i64.wrap (1 - 1) = 0 := by decide
 have ww1 : IntKind.i64.wrap (2 - 1) = 1 := by decide
 have ww2 : IntKind.i64.wrap (0 - 1) = -1 := by decide
 have ww4 : IntKind.i64.wrap 0 = 0 := by decide
 have ww5 : IntKind.i64.wrap 1 = 1 := by decide
 refine callsIn_of_wp func287 rfl trivial ?_ rfl
 simp only [ntmps287, List.size_toArray, List.length_cons, List.length_nil, Nat.reduceAdd, Nat.reduceSub, Array.replicate_succ, Array.replicate_zero, List.push_toArray, List.append_toArray, List.nil_append, List.cons_append]
 gi_wp2_with fail
 refine wpIn_loop_rounds 3 ?_
 rw [roundsIn_succ]
 obtain ⟨fn0, tmps0, assign0, body0, hyl0, hR0⟩ := hY 0 W #[.int .i64 1, .agg #[.bool p1.s, .slice p1.A p1.n p1.c, .bool p1.t, .slice p1.B p1.m p1.d]] (by decide) hJ0 ⟨1, p1, rfl, a1⟩
 gi_wp2_with fail
 refine hR0.mono ?_
 rintro e W0 ⟨hk0, rfl, hJ1⟩
 replace bq := bq.kpS hk0 nq'
 replace bb := bb.kpS hk0 nb'
 replace a0 := a0.keep hk0.words
 replace a1 := a1.keep hk0.words
 clear Fq_0 Fb
 have Fq_0 : zC W0 gq 0 (.slice (some ⟨b, 0, none⟩) 2 c) := bq.cell 0
 have Lq := bq.lt
 have Lb := bb.lt
 have Fb := bb.ca; dsimp only [CC, Nat.reduceAdd] at Fb
 gi_wp2_with fail
 rw [roundsIn_succ]
 obtain ⟨fn1, tmps1, assign1, body1, hyl1, hR1⟩ := hY 1 W0 #[.int .i64 0, .agg #[.bool p0.s, .slice p0.A p0.n p0.c, .bool p0.t, .slice p0.B p0.m p0.d]] (by decide) hJ1 ⟨0, p0, rfl, a0⟩
 gi_wp2_with fail
 refine hR1.mono ?_
 rintro e W1 ⟨hk1, rfl, hJ2⟩
 replace bq := bq.kpS hk1 nq'
 replace bb := bb.kpS hk1 nb'
 replace a0 := a0.keep hk1.words
 replace a1 := a1.keep hk1.words
 clear Fq_0 Fb
 have Fq_0 : zC W1 gq 0 (.slice (some ⟨b, 0, none⟩) 2 c) := bq.cell 0
 have Lq := bq.lt
 have Lb := bb.lt
 have Fb := bb.ca; dsimp only [CC, Nat.reduceAdd] at Fb
 gi_wp2_with fail
 rw [roundsIn_succ]
 gi_wp2_with fail
 refine bodyPost_end (results_none rfl _ _ _) rfl ?_
 exact ⟨⟨_, rfl⟩, hJ2⟩
attribute [local go_sem] Oper.semAt_some
theorem Z2x {P : Program} {l n id : Nat} {ops : Array Oper} {Q : Exit → Act → World → Prop} {a : Act} {w : World} (f : Nat) (S : World → Prop) (hm : P.follows .mixedOrders = true) (hnd : Z3F ops = true) (hS : S w.drew)
  (h : S w.drew → Z0d P .any ops (ZW (Q .normal)) S f ops.size (Array.replicate ops.size false) a w.drew) : (Code.region id ops true).wpIn (Fence.wide.inRound l) n P Q a w :=
 wpIn_region_any hm (Z20 hnd _ _ _ _ (Z0d.any _ _ _ _ (h hS)))
def Z2o (cf : Nat → Rat) (x y0 : Rat) : Nat → Rat
 | 0 => y0
 | k + 1 => Z2o cf x y0 k * x + cf k
theorem KpS.refl (X : Nat → Prop) (a : World) : KpS X a a := ⟨rfl, rfl, rfl, Nat.le_refl _, Za.refl _, fun _ _ _ => rfl⟩
theorem KpS.alloc {X : Nat → Prop} {a b : World} (h : KpS X a b) (o : Obj) : KpS X a (b.alloc o) := h.ext ((Ext.refl b).alloc o)
theorem KpS.drew {X : Nat → Prop} {a b : World} (h : KpS X a b) : KpS X a b.drew := h.ext ((Ext.refl b).drew)
theorem KpS.set {X : Nat → Prop} {a b : World} (h : KpS X a b) {p : Addr} (hp : X p.block ∨ a.heap.size ≤ p.block) (hw : ∀ x, b.cell? p ≠ some (.int .u32 x)) (v : Value) : KpS X a (b.setCell p v) :=
 ⟨h.os, h.tape, h.output, by rw [World.size_setCell]; exact h.size, h.words.trans ((Za.refl b).setCell hw v), fun i hi hx => (Below.heap_setCell b p v i (by rintro rfl; rcases hp with h | h; exact hx h; omega)).trans (h.block i hi hx)⟩
theorem KSX {X : Nat → Prop} {a b : World} (h : KpS X a b := by (repeat' (first | (with_reducible exact KpS.refl _ _) | (with_reducible refine KpS.drew ?_) | (with_reducible refine KpS.alloc ?_ _) | (with_reducible refine KpS.set ?_ (by first | exact Or.inl rfl | (right; simp only [SZ]; omega)) (NB.nw NX _) _) | (with_reducible assumption) | (with_reducible refine KpS.ext ?_ (by assumption))))) : KpS X a b := h
theorem Z62 (b N c : Nat) (q z : QC) (x : Rat) (cf : Nat → Rat) (w : World) (hq : q.At w x) (hz : z.At w 0) (H : ∀ W gq, BK W gq #[.slice (some ⟨b, 0, none⟩) N c] → Ext w W → w.heap.size + 2 < gq → Zba 287 #[.pointer (some ⟨gq, 0, none⟩)] (TF cf) (· = w.heap.size + 1) N W) (hs : ∀ k, k ≤ N → 4 * (qm x + qm (Z2o cf x 0 k) + qm (Z2o cf x 0 k * x) + qm (cf k)) + 100 < Z8) :
  Ca 268 #[.slice (some ⟨b, 0, none⟩) N c, .agg (zA3 q), .agg (zA3 z)] w (Z0G w (Z2o cf x 0 N)) := by
 have HQ := zH hq
 have HZ := zH hz
 refine (callsIn_wide (n := 3)).1 ?_
 refine callsIn_of_wp_marks func268 rfl trivial ?_ rfl
 simp only [ntmps268, List.size_toArray, List.length_cons, List.length_nil, Nat.reduceAdd, Nat.reduceSub, Array.replicate_succ, Array.replicate_zero, List.push_toArray, List.append_toArray, List.nil_append, List.cons_append]
 gi_wp2_with (refine ⟨trivial, ?_⟩; gi_at_call 281; refine (CallsIn.mono (callsIn_wide.2 (Z7i (some ⟨b, 0, none⟩) N c _)) ?_); rintro e w1 ⟨rfl, hBq, hbw1⟩; have := hbw1.sz)
 have R0 : BK w1 (w.heap.size) (zA3 q) := BY
 have R1 : BK w1 (w.heap.size + 1) (zA3 z) := BY
 have R2 : BK w1 (w.heap.size + 1 + 1) zA9 := BY
 have HQ1 : q.At w1 x := by exact QX
 have HZ1 : z.At w1 0 := by exact QX
 have hx1 : Ext w w1 := by exact EX
 have hgq := hBq.lt
 try simp only [World.size_alloc] at hgq hBq
 have hit := H w1 _ hBq hx1 (by omega)
 refine Z9u rfl (by omega) (gf := 287) (lb := #[.pointer (some ⟨w.heap.size + 1 + 1 + 1, 0, none⟩)]) rfl trivial (fun _ _ => rfl) (· = w.heap.size + 1) (by rintro _ rfl; omega) (TF cf) (fun k W => k ≤ N ∧ BK W (w.heap.size) (zA3 q) ∧ q.At W x ∧ (∃ o : QC, BK W (w.heap.size + 1) (zA3 o) ∧ o.At W (Z2o cf x 0 k)) ∧ BK W (w.heap.size + 1 + 1) zA9 ∧ Ext w W) (fun k v a' W => ∃ (g4 : Nat) (i : Int) (p : QC), BK W g4 (zA3 p) ∧ v = #[.int .i64 i, .agg #[.bool p.s, .slice p.A p.n p.c, .bool p.t, .slice p.B p.m p.d]] ∧ w.heap.size + 2 < g4 ∧ a' = { tmps := #[.slice (some ⟨b, 0, none⟩) N c, .agg #[.bool q.s, .slice q.A q.n q.c, .bool q.t, .slice q.B q.m q.d], .agg #[.bool z.s, .slice z.A z.n z.c, .bool z.t, .slice z.B z.m z.d], undef, .pointer (some ⟨w.heap.size, 0, none⟩), .pointer (some ⟨w.heap.size + 1, 0, none⟩), .pointer (some ⟨w.heap.size + 1 + 1, 0, none⟩), undef, .pointer (some ⟨g4, 0, none⟩), .slice (some ⟨b, 0, none⟩) N c, .func (.func 287) #[] #[.pointer (some ⟨w.heap.size + 1 + 1 + 1, 0, none⟩)], .int .i64 i, .agg #[.bool p.s, .slice p.A p.n p.c, .bool p.t, .slice p.B p.m p.d], undef, undef, undef, undef, undef, undef, undef, undef], defers := [] }) ?_ ?_ ?_ ?_ N ?_ ?_ ?_ ?_ ?_
 ·rintro k v A ⟨i, p, rfl, hp⟩; rfl
 ·rintro k v A B ⟨i, p, rfl, hp⟩ hk
  exact ⟨i, p, rfl, QAt.keep hp hk⟩
 ·rintro k A B ⟨hk, h0, hq', ⟨o, h1, ho⟩, h2, hx⟩ hb hw
  exact ⟨hk, h0.below hb (by omega), QAt.keep hq' hw, ⟨o, h1.below hb (by omega), QAt.keep ho hw⟩, h2.below hb (by omega), Below.trans hx (Below.mono hb (by omega))⟩
 ·rintro k v a' A l o ⟨g4, i, p, h4, hv, hg, ha⟩ hl
  exact ⟨g4, i, p, h4.putObj o hl, hv, hg, ha⟩
 ·exact ⟨Nat.zero_le _, R0, HQ1, ⟨z, R1, HZ1⟩, R2, hx1⟩
 ·intro l J W hx hl hJ hY hJ0
  exact hit l J W hx hl hJ hY hJ0
 ·rintro l k v W hkN ⟨hk, h0, hq', ⟨o, h1, ho⟩, h2, hx⟩ ⟨i, p, rfl, hp⟩ hW
  have l0 := h0.lt
  have l1 := h1.lt
  have l2 := h2.lt
  gi_wp2
  exact ⟨by exact KSX, ⟨hk, BY, QAt.keep hq' KS, ⟨o, BY, QAt.keep ho KS⟩, BY, EX⟩, ⟨i, p, rfl, QAt.keep hp KS⟩, ⟨W.heap.size, i, p, BY, rfl, by omega, rfl⟩⟩
 ·rintro l k v a' W hkN ⟨hk, h0, hq', ⟨o, h1, ho⟩, h2, hx⟩ ⟨i', p', hp', hp⟩ ⟨g4, i, p, h4, rfl, hg4, rfl⟩ hW
  obtain rfl : p = p' := by
   obtain ⟨s, A, n, c, t, B, m, d⟩ := p
   obtain ⟨s', A', n', c', t', B', m', d'⟩ := p'
   simp at hp'
   simp [hp']
  have hsk := hs k hk
  have HX := zH hq'
  have HO := zH ho
  have HP := zH hp
  have l0 := h0.lt
  have l1 := h1.lt
  have l2 := h2.lt
  have l4 := h4.lt
  have FF := And.intro h0.ca (And.intro h1.ca h4.ca); dsimp only [CA, CC, Nat.reduceAdd] at FF
  clear hq' ho hp hp'
  have hcm1 : ∀ (v : Value) (W : World), (method 370 234 v "quadratrix/tower.times").run Tryz.prog W = .ok (304, v) W := by intros; kernel_rfl
  have hcm2 : ∀ (v : Value) (W : World), (method 370 234 v "quadratrix/tower.plus").run Tryz.prog W = .ok (303, v) W := by intros; kernel_rfl
  gi_wp2_with fail
  refine Z2x 7 (fun w' => w'.cell? ⟨w.heap.size + 1, 0, none⟩ = some (.bool o.s) ∧ w'.cell? ⟨w.heap.size + 1, 1, none⟩ = some (.slice o.A o.n o.c) ∧ w'.cell? ⟨w.heap.size + 1, 2, none⟩ = some (.bool o.t) ∧ w'.cell? ⟨w.heap.size + 1, 3, none⟩ = some (.slice o.B o.m o.d) ∧ w'.cell? ⟨w.heap.size, 0, none⟩ = some (.bool q.s) ∧ w'.cell? ⟨w.heap.size, 1, none⟩ = some (.slice q.A q.n q.c) ∧ w'.cell? ⟨w.heap.size, 2, none⟩ = some (.bool q.t) ∧ w'.cell? ⟨w.heap.size, 3, none⟩ = some (.slice q.B q.m q.d) ∧ w'.cell? ⟨g4, 0, none⟩ = some (.bool p.s) ∧ w'.cell? ⟨g4, 1, none⟩ = some (.slice p.A p.n p.c) ∧ w'.cell? ⟨g4, 2, none⟩ = some (.bool p.t) ∧ w'.cell? ⟨g4, 3, none⟩ = some (.slice p.B p.m p.d)) Z0a (by kernel_rfl) (by exact KQ) (fun hHeld => ?_)
  refine TU 0 ?_; refine TU 1 ?_; refine TU 2 ?_; refine TU 5 ?_
  refine R1U 3 fun K hK => ?_
  go_simp
  refine (Z9D o q (Z2o cf x 0 k) x _ QX QX (by omega)).mono ?_; refine rQz ?_; intro y1 sy1 Ay1 ny1 cy1 ty1 By1 my1 dy1 Hy1 hby1 hzy1
  refine KU hK fun _ => ?_; clear hK K
  refine TU 4 ?_
  refine R1U 6 fun K hK => ?_
  go_simp
  refine (ZaF ⟨sy1, Ay1, ny1, cy1, ty1, By1, my1, dy1⟩ p (Z2o cf x 0 k * x) (cf k) _ QX QX (by omega)).mono ?_; refine rQz ?_; intro y2 sy2 Ay2 ny2 cy2 ty2 By2 my2 dy2 Hy2 hby2 hzy2; obtain ⟨_, _, T⟩ := B41 y2 w
  refine KU hK fun _ => ?_; clear hK K
  refine RDU [7] ?_
  refine ARL (fun K hK => ?_)
  go_simp
  refine KUL hK ?_; clear hK K
  refine Z0d.done (by kernel_rfl) ?_ _
  refine ⟨by exact KSX, hkN, BY, QX, ⟨⟨sy2, Ay2, ny2, cy2, ty2, By2, my2, dy2⟩, BY, QX⟩, BY, EX⟩
 ·rintro D W hD ⟨hk, h0, hq', ⟨o, h1, ho⟩, h2, hx⟩ hK
  have F1 := h1.c4
  have F2 := h2.c4
  have l1 := h1.lt
  have l2 := h2.lt
  have HO := zH ho
  clear ho
  gi_wp2_with fail
  have BR : BK W (w.heap.size + 1 + 1) zA9 := h2
  obtain ⟨Wf, hWf⟩ : ∃ Wf, (((W.setCell ⟨w.heap.size + 1 + 1, 0, none⟩ (.bool o.s)).setCell ⟨w.heap.size + 1 + 1, 1, none⟩ (.slice o.A o.n o.c)).setCell ⟨w.heap.size + 1 + 1, 2, none⟩ (.bool o.t)).setCell ⟨w.heap.size + 1 + 1, 3, none⟩ (.slice o.B o.m o.d) = Wf := ⟨_, rfl⟩
  have ho' : BK Wf (w.heap.size + 1 + 1) (zA3 o) := by rw [← hWf]; exact BY
  have hs' : o.At Wf (Z2o cf x 0 N) := by rw [← hWf]; exact QX
  have hdd : Wf.heap[D]? = some (.deferred (some [])) := by
   rw [← hWf]
   have n2 : D ≠ w.heap.size + 1 + 1 := by rintro rfl; obtain ⟨ty, hh⟩ := h2; rw [hK] at hh; cases hh
   exact ((Below.heap_setCell _ _ _ _ n2).trans ((Below.heap_setCell _ _ _ _ n2).trans ((Below.heap_setCell _ _ _ _ n2).trans (Below.heap_setCell _ _ _ _ n2)))).trans hK
  have hxf : Ext w Wf := by rw [← hWf]; exact EX
  rw [hWf]
  clear hWf
  have hk : Za Wf (Wf.putObj D (.deferred none)) := by
   intro a x ha
   have hne' : a.block ≠ D := by rintro rfl; simp [World.cell?, hdd] at ha
   exact (World.cell?_of_block (w := Wf) (Zg hne')).trans ha
  have hne : (w.heap.size + 1 + 1) ≠ D := by rintro rfl; obtain ⟨ty, hh⟩ := ho'; rw [hdd] at hh; cases hh
  have ho2 : BK (Wf.putObj D (.deferred none)) (w.heap.size + 1 + 1) #[.bool o.s, .slice o.A o.n o.c, .bool o.t, .slice o.B o.m o.d] := by obtain ⟨ty, hh⟩ := ho'; exact ⟨ty, (Zg hne).trans hh⟩
  have hx' : Ext w (Wf.putObj D (.deferred none)) := Below.trans hxf (ZV hdd (by omega))
  have F9 := ho2.c4
  refine ⟨by simp, .inl ⟨_, _, rfl, run_takeDeferred hdd, ?_⟩⟩
  refine ⟨.agg #[.bool o.s, .slice o.A o.n o.c, .bool o.t, .slice o.B o.m o.d], by simp [results, results268, go_sem, F9], ⟨o.s, o.A, o.n, o.c, o.t, o.B, o.m, o.d, rfl, QAt.keep hs' hk, hx'⟩⟩
theorem Z8m (p q : QC) (w : World) (hq : q.At w 0) :
  Ca 137 #[.agg (zA3 p), .agg (zA3 q)] w (Z3C w (.tuple #[.agg zA9, .int .i64 5])) := by
 have hmw : 100000 < Z8 := by decide
 have HS := zH (fun W (h : q.At W 0) => (by have := Zy q.s q.A q.n q.c q.t q.B q.m q.d 0 W h (by have := h.n; have : qm (0 : Rat) ≤ 1 := (by decide +kernel); omega); exact this : Ca 84 #[.agg #[.bool q.s, .slice q.A q.n q.c, .bool q.t, .slice q.B q.m q.d]] W fun e w' => e = .returned (.int .i64 0) ∧ Ext W w'))
 have HQ := zH hq
 clear hq
 dsimp only [zA3, zA9]
 go_enter func137, ntmps137
 go_wp2_with (go_at_call 84; (with_reducible refine (HS.out _ QX).mono ?_); rintro e w1 ⟨rfl, hbw1⟩; have := hbw1.sz; obtain ⟨R2, L2, F2⟩ := B42 w1 w)
 refine bodyPost_ret (v := .tuple #[.agg zA9, .int .i64 5]) (by simp [zA9, results, results137, go_sem, Z6, F2]) rfl ⟨rfl, EX⟩
theorem Z6V (q : QC) (A : Option Addr) (n c : Nat) (w : World) :
  Ca 244 #[.agg (Z1A q), .slice A n c] w (Z3C w (.tuple #[.agg (zA3 q), .int .i64 0])) := by
 dsimp only [Z1A, zA3]
 go_enter func244, ntmps244
 go_wp2_with fail
 all_goals refine bodyPost_ret (v := .tuple #[.agg (zA3 q), .int .i64 0]) (by simp [zA3, results, results244, go_sem, Z6]) rfl ⟨rfl, EX⟩
theorem Tryz.info_trat : (Tryz.prog.info? 234).map (fun i => (i.zero, i.size, i.bytes)) = some (some (.agg #[.bool false, .slice none 0 0, .bool false, .slice none 0 0]), 4, 64) := by kernel_rfl
theorem Tryz.under_tpoly : Tryz.prog.underlying 233 = some (TypeDesc.slice 234) := by kernel_rfl
theorem Z95 (n : Nat) (c : List Value) (hn : n ≤ 1000) (hc : (madeCells #[Value.bool false, .slice none 0 0, .bool false, .slice none 0 0] (n * 4)) = c.toArray) (W : World) : (Instr.makeSlice 233 (.int .i64 (n : Int)) (.int .i64 (n : Int))).run Tryz.prog W = .ok (.slice (some ⟨W.heap.size, 0, none⟩) n n) (W.alloc (.cells c.toArray 234)) := by
 obtain ⟨i0, hi, hz0, hz1, hz2⟩ := info_parts Tryz.info_trat
 have := Z6L _ _ i0 _ 4 Tryz.under_tpoly hi hz0 hz1 (by omega) n hn W
 rw [this, ← hc]; rfl
end Go.Proofs.YtnmmncccpdffaaaGreat
