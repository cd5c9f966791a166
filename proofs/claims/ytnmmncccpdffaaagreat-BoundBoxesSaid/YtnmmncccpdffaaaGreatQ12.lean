/- What BoundBoxes calls, part 12. -/
import Derived.Test.YtnmmncccpdffaaaGreatQ11
set_option linter.unusedVariables false
set_option linter.unusedSimpArgs false
set_option maxRecDepth 100000
set_option maxHeartbeats 16000000
namespace Go.Proofs.YtnmmncccpdffaaaGreat
open Go.Proofs.Tryz Go Go.RowKit Go.Shelf
theorem Z0Y (q : QC) (z : Int) (w : World) (hq : q.At w (z : Rat)) : Ca 194 #[.agg (Z1A q)] w (Zcb w z 1) := by
 have := Z5B q (z : Rat) w hq
 rw [Rat.num_intCast, Rat.den_intCast] at this
 exact this
def ZcV (w : World) (z : Int) (e : Ending) (w' : World) : Prop := ∃ (g c : Nat) (r0 r1 r2 d : PV), e = .returned (.agg #[.slice (some ⟨g, 0, none⟩) 3 c, .int .i64 0, .bool d.s, .slice d.A d.n d.c, .slice d.C d.m d.d]) ∧ CK w' g (Zbc r0 r1 r2) ∧ r0.At w' z ∧ r1.At w' 1 ∧ r2.At w' 1 ∧ d.At w' 1 ∧ 3 ≤ c ∧ w.heap.size ≤ g ∧ g < w'.heap.size ∧ Ext w w'
theorem Z19 (g c : Nat) (q0 q1 q2 : QC) (z : Int) (w : World) (h : CK w g (zL4 q0 q1 q2)) (h0 : q0.At w (z : Rat)) (h1 : q1.At w ((1 : Int) : Rat)) (h2 : q2.At w ((1 : Int) : Rat)) (hz : wl z < 400) :
  Ca 233 #[.slice (some ⟨g, 0, none⟩) 3 c] w (ZcV w z) := by
 have hmw : 100000 < Z8 := by decide
 have hw1 := Z1K
 have hg := h.lt
 have hg1 : g < w.heap.size + 1 := by omega
 have hmk : ∀ W : World, (Instr.makeSlice 226 (.int .i64 3) (.int .i64 3)).run Tryz.prog W = .ok (.slice (some ⟨W.heap.size, 0, none⟩) 3 3) (W.alloc (.cells #[.int .i64 0, .bool false, .slice none 0 0, .slice none 0 0, .int .i64 0, .bool false, .slice none 0 0, .slice none 0 0, .int .i64 0, .bool false, .slice none 0 0, .slice none 0 0, .int .i64 0, .bool false, .slice none 0 0, .slice none 0 0, .int .i64 0, .bool false, .slice none 0 0, .slice none 0 0, .int .i64 0, .bool false, .slice none 0 0, .slice none 0 0] 178)) := fun W => Zbo 3 [.int .i64 0, .bool false, .slice none 0 0, .slice none 0 0, .int .i64 0, .bool false, .slice none 0 0, .slice none 0 0, .int .i64 0, .bool false, .slice none 0 0, .slice none 0 0, .int .i64 0, .bool false, .slice none 0 0, .slice none 0 0, .int .i64 0, .bool false, .slice none 0 0, .slice none 0 0, .int .i64 0, .bool false, .slice none 0 0, .slice none 0 0] (by decide) (by kernel_rfl) W
 have ww4 : IntKind.i64.wrap 0 = 0 := by decide
 have ww5 : IntKind.i64.wrap 1 = 1 := by decide
 have ww6 : IntKind.i64.wrap 2 = 2 := by decide
 have hbd : ∀ (s : Bool) (A : Option Addr) (n c : Nat) (C : Option Addr) (m d : Nat) (W : World), (Instr.build 207 #[(1, .agg #[.int .i64 0, .bool s, .slice A n c, .slice C m d])]).run Tryz.prog W = .ok (.agg #[.slice none 0 0, .int .i64 0, .bool s, .slice A n c, .slice C m d]) W := by intros; kernel_rfl
 have ww0 : IntKind.i64.wrap (0 + 1) = 1 := by decide
 have ww1 : IntKind.i64.wrap (1 + 1) = 2 := by decide
 have ww2 : IntKind.i64.wrap (2 + 1) = 3 := by decide
 have H0 := zH h0
 have H1 := zH h1
 have H2 := zH h2
 clear h0 h1 h2
 go_enter func233, ntmps233
 go_wp2_with (
  first
  | (go_at_call 93; (with_reducible refine (Zv 1 _ (by decide) (by decide)).mono ?_); rintro e w1 ⟨sw1, Aw1, nw1, cw1, rfl, hQ, hbw1⟩; have Hw1 := zH hQ; have Nw1 := Nat.le_of_eq hQ.wl; clear hQ; have := hbw1.sz; have R0 : BK w1 (w.heap.size) Z26 := BZ; have L0 := R0.lt; have F0 := R0.c5)
  | (go_at_call 232; (with_reducible refine (ZA _ _ _ _ 1 _ IX).mono ?_); rintro e w2 ⟨pw2, rfl, hQ, hbw2⟩; have Hw2 := zH hQ; have Nw2 := Nat.le_of_eq hQ.wl; clear hQ; have := hbw2.sz; have R0 : BK w2 (w.heap.size) Z26 := BZ; have L0 := R0.lt; have F0 := R0.c5))
 refine ZQ 69 [(0, .slice (some ⟨g, 0, none⟩) 3 c), (2, .pointer (some ⟨w.heap.size, 0, none⟩)), (3, .pointer (some ⟨w2.heap.size, 0, none⟩)), (4, .slice (some ⟨w2.heap.size + 1, 0, none⟩) 3 3), (5, .int .i64 0)] (fun W => Ext w W ∧ BK W (w.heap.size) Z26 ∧ BK W (w2.heap.size) (ZC pw2) ∧ BK W (w2.heap.size + 1) Zd3 ∧ CK W g (zL4 q0 q1 q2) ∧ pw2.At W 1) ⟨EX, BZ, BZ, BZ, CX, IX⟩ ?_
 rintro Wi U ⟨hW, R0, Rd, Rf, Rg, hpd⟩
 dsimp only [fr, frl, Nat.reduceBEq, Nat.reduceAdd, cond_true, cond_false]
 clear Hw2
 (try clear FF)
 have Nd := Nat.le_of_eq hpd.wl
 have Hpd := zH hpd
 clear hpd
 have L0 := R0.lt
 have Ld := Rd.lt
 have Lf := Rf.lt
 have Lg := Rg.lt
 have FF := And.intro R0.ca (And.intro Rd.ca (And.intro Rf.ca Rg.ca)); dsimp only [CA, CC, Nat.reduceAdd] at FF
 refine wp_loop_rounds 4 ?_
 rw [rounds_succ]
 go_wp2_with (go_at_call 194; (with_reducible refine (Z0Y q0 z _ QX).mono ?_); rintro e wf0 ⟨pf0, rf0, rfl, hQ, hQ', hbwf0⟩; have Hpf0 := zH hQ; have Hrf0 := zH hQ'; have Np0 := Nat.le_of_eq hQ.wl; have Nr0 := Nat.le_of_eq hQ'.wl; have hrn0 : rf0.n ≠ 0 := (fun e => by have := hQ'.zero_iff.1 e; omega); clear hQ hQ'; have := hbwf0.sz; have RF0 : BK wf0 (w2.heap.size + 1) Zd3 := BZ; have LF0 := RF0.lt; have G0 := RF0.ca; dsimp only [CA, Nat.reduceAdd] at G0; have GF0 := RF0.frozen)
 refine ZQ 69 [(0, .slice (some ⟨g, 0, none⟩) 3 c), (2, .pointer (some ⟨w.heap.size, 0, none⟩)), (3, .pointer (some ⟨w2.heap.size, 0, none⟩)), (4, .slice (some ⟨w2.heap.size + 1, 0, none⟩) 3 3), (5, .int .i64 0)] (fun W => Ext w W ∧ BK W (w.heap.size) Z26 ∧ BK W (w2.heap.size) (ZC pw2) ∧ BK W (w2.heap.size + 1) (Zcv pf0 rf0) ∧ CK W g (zL4 q0 q1 q2) ∧ pw2.At W 1 ∧ pf0.At W z ∧ rf0.At W 1) ⟨EX, BZ, BZ, BZ, CX, IX, IX, IX⟩ ?_
 rintro W0 U ⟨hW, R0, Rd, Rf, Rg, hpd, ha0, ha1⟩
 dsimp only [fr, frl, Nat.reduceBEq, Nat.reduceAdd, cond_true, cond_false]
 clear G0 RF0 LF0 GF0 Hpf0 Hrf0
 (try clear FF)
 clear Hpd
 have Nd := Nat.le_of_eq hpd.wl
 have Hpd := zH hpd
 clear hpd
 have Ha0 := zH ha0
 clear ha0
 have Ha1 := zH ha1
 clear ha1
 have L0 := R0.lt
 have Ld := Rd.lt
 have Lf := Rf.lt
 have Lg := Rg.lt
 have FF := And.intro R0.ca (And.intro Rd.ca (And.intro Rf.ca Rg.ca)); dsimp only [CA, CC, Nat.reduceAdd] at FF
 refine Zu 15 (fun a' w' => ∃ (pd : PV) (U : Nat → Value), a' = fr 69 U [(0, .slice (some ⟨g, 0, none⟩) 3 c), (2, .pointer (some ⟨w.heap.size, 0, none⟩)), (3, .pointer (some ⟨w2.heap.size, 0, none⟩)), (4, .slice (some ⟨w2.heap.size + 1, 0, none⟩) 3 3), (5, .int .i64 0)] ∧ Ext w w' ∧ BK w' (w.heap.size) Z26 ∧ BK w' (w2.heap.size) (ZC pd) ∧ BK w' (w2.heap.size + 1) (Zcv pf0 rf0) ∧ CK w' g (zL4 q0 q1 q2) ∧ pd.At w' 1 ∧ pf0.At w' z ∧ rf0.At w' 1) (fun w' => CB w' w2.heap.size 0 (zL8 pw2) ∧ CB w' (w2.heap.size + 1) 4 (zL8 rf0)) Z0a ?rest0 (by dsimp only [CB, Nat.reduceAdd]; exact KQ) ?expl0
 case expl0 =>
  dsimp only [CB, Nat.reduceAdd]
  intro hHeld
  refine TU 0 ?_; refine TU 1 ?_; refine TU 2 ?_; refine TU 3 ?_; refine TU 4 ?_; refine TU 5 ?_; refine TU 6 ?_; refine TU 7 ?_; refine TU 8 ?_; refine TU 9 ?_; refine TU 10 ?_; refine TU 11 ?_
  refine R1U 12 fun K hK => ?_
  go_simp
  refine (Z10 pw2 ⟨0, rf0.s, rf0.A, rf0.n, rf0.c, rf0.C, rf0.m, rf0.d⟩ 1 _ IX (Or.inl rfl) (by simp [hrn0])).mono ?_; rintro e x1 ⟨px1, rfl, hQ, hbx1⟩; have Hx1 := zH hQ; clear hQ; have := hbx1.sz
  refine KU hK fun _ => ?_; clear hK K
  refine R1U 13 fun K hK => ?_
  go_simp
  refine (Zm ⟨0, rf0.s, rf0.A, rf0.n, rf0.c, rf0.C, rf0.m, rf0.d⟩ px1 _ IX).mono ?_; rintro e x2 ⟨rfl, hbx2⟩; have := hbx2.sz
  refine KU hK fun _ => ?_; clear hK K
  refine R1U 14 fun K hK => ?_
  go_simp
  refine (Z04 pw2 rf0 1 _ IX IX (by omega)).mono ?_; rintro e x3 ⟨px3, rfl, hQ, hbx3⟩; have Hx3 := zH hQ; have Nx3 := Nat.le_of_eq hQ.wl; clear hQ; have := hbx3.sz; obtain ⟨T0, T1, T2, T3, T4⟩ := (show BK x3 (w2.heap.size) (ZC pw2) by exact BZ).c4
  refine KU hK fun _ => ?_; clear hK K
  refine RDU [15] ?_
  refine ARL (fun K hK => ?_)
  go_simp
  refine KUL hK ?_; clear hK K
  refine Z0d.done (by kernel_rfl) ?_ _
  refine ⟨px3, _, Zr _ _, EX, BZ, BZ, BZ, CX, IX, IX, IX⟩
 case rest0 =>
 rintro a' We0 ⟨pd0, U, rfl, hW, R0, Rd, Rf, Rg, hpd, ha0, ha1⟩
 dsimp only [fr, frl, Nat.reduceBEq, Nat.reduceAdd, cond_true, cond_false]
 clear Hpd
 have Nd := Nat.le_of_eq hpd.wl
 have Hpd := zH hpd
 clear hpd
 clear Ha0
 have Ha0 := zH ha0
 clear ha0
 clear Ha1
 have Ha1 := zH ha1
 clear ha1
 (try clear FF)
 have L0 := R0.lt
 have Ld := Rd.lt
 have Lf := Rf.lt
 have Lg := Rg.lt
 have FF := And.intro R0.ca (And.intro Rd.ca (And.intro Rf.ca Rg.ca)); dsimp only [CA, CC, Nat.reduceAdd] at FF
 go_wp2_with fail
 rw [rounds_succ]
 go_wp2_with (go_at_call 194; (with_reducible refine (Z0Y q1 1 _ QX).mono ?_); rintro e wf1 ⟨pf1, rf1, rfl, hQ, hQ', hbwf1⟩; have Hpf1 := zH hQ; have Hrf1 := zH hQ'; have Np1 := Nat.le_of_eq hQ.wl; have Nr1 := Nat.le_of_eq hQ'.wl; have hrn1 : rf1.n ≠ 0 := (fun e => by have := hQ'.zero_iff.1 e; omega); clear hQ hQ'; have := hbwf1.sz; have RF1 : BK wf1 (w2.heap.size + 1) (Zcv pf0 rf0) := BZ; have LF1 := RF1.lt; have G1 := RF1.ca; dsimp only [CA, Nat.reduceAdd] at G1; have GF1 := RF1.frozen)
 refine ZQ 69 [(0, .slice (some ⟨g, 0, none⟩) 3 c), (2, .pointer (some ⟨w.heap.size, 0, none⟩)), (3, .pointer (some ⟨w2.heap.size, 0, none⟩)), (4, .slice (some ⟨w2.heap.size + 1, 0, none⟩) 3 3), (5, .int .i64 1)] (fun W => Ext w W ∧ BK W (w.heap.size) Z26 ∧ BK W (w2.heap.size) (ZC pd0) ∧ BK W (w2.heap.size + 1) (Zcw pf0 rf0 pf1 rf1) ∧ CK W g (zL4 q0 q1 q2) ∧ pd0.At W 1 ∧ pf0.At W z ∧ rf0.At W 1 ∧ pf1.At W 1 ∧ rf1.At W 1) ⟨EX, BZ, BZ, BZ, CX, IX, IX, IX, IX, IX⟩ ?_
 rintro W1 U ⟨hW, R0, Rd, Rf, Rg, hpd, ha0, ha1, ha2, ha3⟩
 dsimp only [fr, frl, Nat.reduceBEq, Nat.reduceAdd, cond_true, cond_false]
 clear G1 RF1 LF1 GF1 Hpf1 Hrf1
 (try clear FF)
 clear Hpd
 have Nd := Nat.le_of_eq hpd.wl
 have Hpd := zH hpd
 clear hpd
 clear Ha0
 have Ha0 := zH ha0
 clear ha0
 clear Ha1
 have Ha1 := zH ha1
 clear ha1
 have Ha2 := zH ha2
 clear ha2
 have Ha3 := zH ha3
 clear ha3
 have L0 := R0.lt
 have Ld := Rd.lt
 have Lf := Rf.lt
 have Lg := Rg.lt
 have FF := And.intro R0.ca (And.intro Rd.ca (And.intro Rf.ca Rg.ca)); dsimp only [CA, CC, Nat.reduceAdd] at FF
 refine Zu 15 (fun a' w' => ∃ (pd : PV) (U : Nat → Value), a' = fr 69 U [(0, .slice (some ⟨g, 0, none⟩) 3 c), (2, .pointer (some ⟨w.heap.size, 0, none⟩)), (3, .pointer (some ⟨w2.heap.size, 0, none⟩)), (4, .slice (some ⟨w2.heap.size + 1, 0, none⟩) 3 3), (5, .int .i64 1)] ∧ Ext w w' ∧ BK w' (w.heap.size) Z26 ∧ BK w' (w2.heap.size) (ZC pd) ∧ BK w' (w2.heap.size + 1) (Zcw pf0 rf0 pf1 rf1) ∧ CK w' g (zL4 q0 q1 q2) ∧ pd.At w' 1 ∧ pf0.At w' z ∧ rf0.At w' 1 ∧ pf1.At w' 1 ∧ rf1.At w' 1) (fun w' => CB w' w2.heap.size 0 (zL8 pd0) ∧ CB w' (w2.heap.size + 1) 12 (zL8 rf1)) Z0a ?rest1 (by dsimp only [CB, Nat.reduceAdd]; exact KQ) ?expl1
 case expl1 =>
  dsimp only [CB, Nat.reduceAdd]
  intro hHeld
  refine TU 0 ?_; refine TU 1 ?_; refine TU 2 ?_; refine TU 3 ?_; refine TU 4 ?_; refine TU 5 ?_; refine TU 6 ?_; refine TU 7 ?_; refine TU 8 ?_; refine TU 9 ?_; refine TU 10 ?_; refine TU 11 ?_
  refine R1U 12 fun K hK => ?_
  go_simp
  refine (Z10 pd0 ⟨0, rf1.s, rf1.A, rf1.n, rf1.c, rf1.C, rf1.m, rf1.d⟩ 1 _ IX (Or.inl rfl) (by simp [hrn1])).mono ?_; rintro e x1 ⟨px1, rfl, hQ, hbx1⟩; have Hx1 := zH hQ; clear hQ; have := hbx1.sz
  refine KU hK fun _ => ?_; clear hK K
  refine R1U 13 fun K hK => ?_
  go_simp
  refine (Zm ⟨0, rf1.s, rf1.A, rf1.n, rf1.c, rf1.C, rf1.m, rf1.d⟩ px1 _ IX).mono ?_; rintro e x2 ⟨rfl, hbx2⟩; have := hbx2.sz
  refine KU hK fun _ => ?_; clear hK K
  refine R1U 14 fun K hK => ?_
  go_simp
  refine (Z04 pd0 rf1 1 _ IX IX (by omega)).mono ?_; rintro e x3 ⟨px3, rfl, hQ, hbx3⟩; have Hx3 := zH hQ; have Nx3 := Nat.le_of_eq hQ.wl; clear hQ; have := hbx3.sz; obtain ⟨T0, T1, T2, T3, T4⟩ := (show BK x3 (w2.heap.size) (ZC pd0) by exact BZ).c4
  refine KU hK fun _ => ?_; clear hK K
  refine RDU [15] ?_
  refine ARL (fun K hK => ?_)
  go_simp
  refine KUL hK ?_; clear hK K
  refine Z0d.done (by kernel_rfl) ?_ _
  refine ⟨px3, _, Zr _ _, EX, BZ, BZ, BZ, CX, IX, IX, IX, IX, IX⟩
 case rest1 =>
 rintro a' We1 ⟨pd1, U, rfl, hW, R0, Rd, Rf, Rg, hpd, ha0, ha1, ha2, ha3⟩
 dsimp only [fr, frl, Nat.reduceBEq, Nat.reduceAdd, cond_true, cond_false]
 clear Hpd
 have Nd := Nat.le_of_eq hpd.wl
 have Hpd := zH hpd
 clear hpd
 clear Ha0
 have Ha0 := zH ha0
 clear ha0
 clear Ha1
 have Ha1 := zH ha1
 clear ha1
 clear Ha2
 have Ha2 := zH ha2
 clear ha2
 clear Ha3
 have Ha3 := zH ha3
 clear ha3
 (try clear FF)
 have L0 := R0.lt
 have Ld := Rd.lt
 have Lf := Rf.lt
 have Lg := Rg.lt
 have FF := And.intro R0.ca (And.intro Rd.ca (And.intro Rf.ca Rg.ca)); dsimp only [CA, CC, Nat.reduceAdd] at FF
 go_wp2_with fail
 rw [rounds_succ]
 go_wp2_with (go_at_call 194; (with_reducible refine (Z0Y q2 1 _ QX).mono ?_); rintro e wf2 ⟨pf2, rf2, rfl, hQ, hQ', hbwf2⟩; have Hpf2 := zH hQ; have Hrf2 := zH hQ'; have Np2 := Nat.le_of_eq hQ.wl; have Nr2 := Nat.le_of_eq hQ'.wl; have hrn2 : rf2.n ≠ 0 := (fun e => by have := hQ'.zero_iff.1 e; omega); clear hQ hQ'; have := hbwf2.sz; have RF2 : BK wf2 (w2.heap.size + 1) (Zcw pf0 rf0 pf1 rf1) := BZ; have LF2 := RF2.lt; have G2 := RF2.ca; dsimp only [CA, Nat.reduceAdd] at G2; have GF2 := RF2.frozen)
 refine ZQ 69 [(0, .slice (some ⟨g, 0, none⟩) 3 c), (2, .pointer (some ⟨w.heap.size, 0, none⟩)), (3, .pointer (some ⟨w2.heap.size, 0, none⟩)), (4, .slice (some ⟨w2.heap.size + 1, 0, none⟩) 3 3), (5, .int .i64 2)] (fun W => Ext w W ∧ BK W (w.heap.size) Z26 ∧ BK W (w2.heap.size) (ZC pd1) ∧ BK W (w2.heap.size + 1) (zA7 pf0 rf0 pf1 rf1 pf2 rf2) ∧ CK W g (zL4 q0 q1 q2) ∧ pd1.At W 1 ∧ pf0.At W z ∧ rf0.At W 1 ∧ pf1.At W 1 ∧ rf1.At W 1 ∧ pf2.At W 1 ∧ rf2.At W 1) ⟨EX, BZ, BZ, BZ, CX, IX, IX, IX, IX, IX, IX, IX⟩ ?_
 rintro W2 U ⟨hW, R0, Rd, Rf, Rg, hpd, ha0, ha1, ha2, ha3, ha4, ha5⟩
 dsimp only [fr, frl, Nat.reduceBEq, Nat.reduceAdd, cond_true, cond_false]
 clear G2 RF2 LF2 GF2 Hpf2 Hrf2
 (try clear FF)
 clear Hpd
 have Nd := Nat.le_of_eq hpd.wl
 have Hpd := zH hpd
 clear hpd
 clear Ha0
 have Ha0 := zH ha0
 clear ha0
 clear Ha1
 have Ha1 := zH ha1
 clear ha1
 clear Ha2
 have Ha2 := zH ha2
 clear ha2
 clear Ha3
 have Ha3 := zH ha3
 clear ha3
 have Ha4 := zH ha4
 clear ha4
 have Ha5 := zH ha5
 clear ha5
 have L0 := R0.lt
 have Ld := Rd.lt
 have Lf := Rf.lt
 have Lg := Rg.lt
 have FF := And.intro R0.ca (And.intro Rd.ca (And.intro Rf.ca Rg.ca)); dsimp only [CA, CC, Nat.reduceAdd] at FF
 refine Zu 15 (fun a' w' => ∃ (pd : PV) (U : Nat → Value), a' = fr 69 U [(0, .slice (some ⟨g, 0, none⟩) 3 c), (2, .pointer (some ⟨w.heap.size, 0, none⟩)), (3, .pointer (some ⟨w2.heap.size, 0, none⟩)), (4, .slice (some ⟨w2.heap.size + 1, 0, none⟩) 3 3), (5, .int .i64 2)] ∧ Ext w w' ∧ BK w' (w.heap.size) Z26 ∧ BK w' (w2.heap.size) (ZC pd) ∧ BK w' (w2.heap.size + 1) (zA7 pf0 rf0 pf1 rf1 pf2 rf2) ∧ CK w' g (zL4 q0 q1 q2) ∧ pd.At w' 1 ∧ pf0.At w' z ∧ rf0.At w' 1 ∧ pf1.At w' 1 ∧ rf1.At w' 1 ∧ pf2.At w' 1 ∧ rf2.At w' 1) (fun w' => CB w' w2.heap.size 0 (zL8 pd1) ∧ CB w' (w2.heap.size + 1) 20 (zL8 rf2)) Z0a ?rest2 (by dsimp only [CB, Nat.reduceAdd]; exact KQ) ?expl2
 case expl2 =>
  dsimp only [CB, Nat.reduceAdd]
  intro hHeld
  refine TU 0 ?_; refine TU 1 ?_; refine TU 2 ?_; refine TU 3 ?_; refine TU 4 ?_; refine TU 5 ?_; refine TU 6 ?_; refine TU 7 ?_; refine TU 8 ?_; refine TU 9 ?_; refine TU 10 ?_; refine TU 11 ?_
  refine R1U 12 fun K hK => ?_
  go_simp
  refine (Z10 pd1 ⟨0, rf2.s, rf2.A, rf2.n, rf2.c, rf2.C, rf2.m, rf2.d⟩ 1 _ IX (Or.inl rfl) (by simp [hrn2])).mono ?_; rintro e x1 ⟨px1, rfl, hQ, hbx1⟩; have Hx1 := zH hQ; clear hQ; have := hbx1.sz
  refine KU hK fun _ => ?_; clear hK K
  refine R1U 13 fun K hK => ?_
  go_simp
  refine (Zm ⟨0, rf2.s, rf2.A, rf2.n, rf2.c, rf2.C, rf2.m, rf2.d⟩ px1 _ IX).mono ?_; rintro e x2 ⟨rfl, hbx2⟩; have := hbx2.sz
  refine KU hK fun _ => ?_; clear hK K
  refine R1U 14 fun K hK => ?_
  go_simp
  refine (Z04 pd1 rf2 1 _ IX IX (by omega)).mono ?_; rintro e x3 ⟨px3, rfl, hQ, hbx3⟩; have Hx3 := zH hQ; have Nx3 := Nat.le_of_eq hQ.wl; clear hQ; have := hbx3.sz; obtain ⟨T0, T1, T2, T3, T4⟩ := (show BK x3 (w2.heap.size) (ZC pd1) by exact BZ).c4
  refine KU hK fun _ => ?_; clear hK K
  refine RDU [15] ?_
  refine ARL (fun K hK => ?_)
  go_simp
  refine KUL hK ?_; clear hK K
  refine Z0d.done (by kernel_rfl) ?_ _
  refine ⟨px3, _, Zr _ _, EX, BZ, BZ, BZ, CX, IX, IX, IX, IX, IX, IX, IX⟩
 case rest2 =>
 rintro a' We2 ⟨pd2, U, rfl, hW, R0, Rd, Rf, Rg, hpd, ha0, ha1, ha2, ha3, ha4, ha5⟩
 dsimp only [fr, frl, Nat.reduceBEq, Nat.reduceAdd, cond_true, cond_false]
 clear Hpd
 have Nd := Nat.le_of_eq hpd.wl
 have Hpd := zH hpd
 clear hpd
 clear Ha0
 have Ha0 := zH ha0
 clear ha0
 clear Ha1
 have Ha1 := zH ha1
 clear ha1
 clear Ha2
 have Ha2 := zH ha2
 clear ha2
 clear Ha3
 have Ha3 := zH ha3
 clear ha3
 clear Ha4
 have Ha4 := zH ha4
 clear ha4
 clear Ha5
 have Ha5 := zH ha5
 clear ha5
 (try clear FF)
 have L0 := R0.lt
 have Ld := Rd.lt
 have Lf := Rf.lt
 have Lg := Rg.lt
 have FF := And.intro R0.ca (And.intro Rd.ca (And.intro Rf.ca Rg.ca)); dsimp only [CA, CC, Nat.reduceAdd] at FF
 go_wp2_with fail
 rw [rounds_succ]
 go_wp2_with fail
 refine ZQ 69 [(0, .slice (some ⟨g, 0, none⟩) 3 c), (2, .pointer (some ⟨w.heap.size, 0, none⟩)), (3, .pointer (some ⟨w2.heap.size, 0, none⟩)), (4, .slice (some ⟨w2.heap.size + 1, 0, none⟩) 3 3), (6, .pointer (some ⟨We2.heap.size, 0, none⟩)), (7, .int .i64 0)] (fun W => Ext w W ∧ BK W (w.heap.size) Z26 ∧ BK W (w2.heap.size) (ZC pd2) ∧ BK W (w2.heap.size + 1) (zA7 pf0 rf0 pf1 rf1 pf2 rf2) ∧ CK W g (zL4 q0 q1 q2) ∧ pd2.At W 1 ∧ pf0.At W z ∧ rf0.At W 1 ∧ pf1.At W 1 ∧ rf1.At W 1 ∧ pf2.At W 1 ∧ rf2.At W 1 ∧ BK W (We2.heap.size) (ZcZ pd2) ∧ ZP W (We2.heap.size + 1) 176 4 none 0 0 []) ⟨EX, BZ, BZ, BZ, CX, IX, IX, IX, IX, IX, IX, IX, BZ, NZ⟩ ?_
 rintro V0 U ⟨hW, R0, Rd, Rf, Rg, hpd, ha0, ha1, ha2, ha3, ha4, ha5, Ro, hO⟩
 dsimp only [fr, frl, Nat.reduceBEq, Nat.reduceAdd, cond_true, cond_false]
 (try clear FF)
 clear Hpd
 have Nd := Nat.le_of_eq hpd.wl
 have Hpd := zH hpd
 clear hpd
 clear Ha0
 have Ha0 := zH ha0
 clear ha0
 clear Ha1
 have Ha1 := zH ha1
 clear ha1
 clear Ha2
 have Ha2 := zH ha2
 clear ha2
 clear Ha3
 have Ha3 := zH ha3
 clear ha3
 clear Ha4
 have Ha4 := zH ha4
 clear ha4
 clear Ha5
 have Ha5 := zH ha5
 clear ha5
 have L0 := R0.lt
 have Ld := Rd.lt
 have Lf := Rf.lt
 have Lg := Rg.lt
 have Lo := Ro.lt
 have FF := And.intro R0.ca (And.intro Rd.ca (And.intro Rf.ca (And.intro Rg.ca Ro.ca))); dsimp only [CA, CC, Nat.reduceAdd] at FF
 refine wp_loop_rounds 4 ?_
 rw [rounds_succ]
 go_wp2_with fail
 refine Zu 18 (fun a' w' => ∃ (A0 : Option Addr) (c0 : Nat) (pr0 : PV) (U : Nat → Value), a' = fr 69 U [(0, .slice (some ⟨g, 0, none⟩) 3 c), (2, .pointer (some ⟨w.heap.size, 0, none⟩)), (3, .pointer (some ⟨w2.heap.size, 0, none⟩)), (4, .slice (some ⟨w2.heap.size + 1, 0, none⟩) 3 3), (6, .pointer (some ⟨We2.heap.size, 0, none⟩)), (7, .int .i64 0)] ∧ Ext w w' ∧ BK w' (w.heap.size) Z26 ∧ BK w' (w2.heap.size) (ZC pd2) ∧ BK w' (w2.heap.size + 1) (zA7 pf0 rf0 pf1 rf1 pf2 rf2) ∧ CK w' g (zL4 q0 q1 q2) ∧ pd2.At w' 1 ∧ pf0.At w' z ∧ rf0.At w' 1 ∧ pf1.At w' 1 ∧ rf1.At w' 1 ∧ pf2.At w' 1 ∧ rf2.At w' 1 ∧ pr0.At w' z ∧ BK w' (We2.heap.size) (Zct A0 c0 pd2) ∧ ZP w' (We2.heap.size + 1) 176 4 A0 1 c0 [.int .i64 0, .bool pr0.s, .slice pr0.A pr0.n pr0.c, .slice pr0.C pr0.m pr0.d]) (fun w' => w'.cell? ⟨We2.heap.size, 0, none⟩ = some (.slice none 0 0) ∧ w'.cell? ⟨w2.heap.size, 0, none⟩ = some (.int .i64 0) ∧ w'.cell? ⟨w2.heap.size, 1, none⟩ = some (.bool pd2.s) ∧ w'.cell? ⟨w2.heap.size, 2, none⟩ = some (.slice pd2.A pd2.n pd2.c) ∧ w'.cell? ⟨w2.heap.size, 3, none⟩ = some (.slice pd2.C pd2.m pd2.d) ∧ w'.cell? ⟨w2.heap.size + 1, 0, none⟩ = some (.int .i64 0) ∧ w'.cell? ⟨w2.heap.size + 1, 1, none⟩ = some (.bool pf0.s) ∧ w'.cell? ⟨w2.heap.size + 1, 2, none⟩ = some (.slice pf0.A pf0.n pf0.c) ∧ w'.cell? ⟨w2.heap.size + 1, 3, none⟩ = some (.slice pf0.C pf0.m pf0.d) ∧ w'.cell? ⟨w2.heap.size + 1, 4, none⟩ = some (.int .i64 0) ∧ w'.cell? ⟨w2.heap.size + 1, 5, none⟩ = some (.bool rf0.s) ∧ w'.cell? ⟨w2.heap.size + 1, 6, none⟩ = some (.slice rf0.A rf0.n rf0.c) ∧ w'.cell? ⟨w2.heap.size + 1, 7, none⟩ = some (.slice rf0.C rf0.m rf0.d)) Z0a ?srest0 (by exact KQ) (fun hHeld => ?sexpl0)
 case sexpl0 =>
  refine TU 0 ?_; refine TU 1 ?_; refine TU 2 ?_; refine TU 3 ?_; refine TU 4 ?_; refine TU 5 ?_; refine TU 6 ?_; refine TU 7 ?_; refine TU 8 ?_; refine TU 9 ?_; refine TU 10 ?_; refine TU 11 ?_; refine TU 12 ?_
  refine R1U 13 fun K hK => ?_
  go_simp
  refine (Zm ⟨0, pd2.s, pd2.A, pd2.n, pd2.c, pd2.C, pd2.m, pd2.d⟩ rf0 _ IX).mono ?_; rintro e y1 ⟨rfl, hby1⟩; have := hby1.sz
  refine KU hK fun _ => ?_; clear hK K
  refine R1U 14 fun K hK => ?_
  go_simp
  refine (Z04 pf0 pd2 z _ IX IX (by omega)).mono ?_; rintro e y2 ⟨px, rfl, hQ, hby2⟩; have Hpx := zH hQ; clear hQ; have := hby2.sz
  refine KU hK fun _ => ?_; clear hK K
  refine R1U 15 fun K hK => ?_
  go_simp
  refine KU hK fun _ => ?_; clear hK K
  refine R1U 16 fun K hK => ?_
  (rw [if_pos (by rfl)]; refine Z3g (.tmp 51) (.tmp 65) (by rfl) (We2.heap.size + 1) none 0 0 [] NZ (by rfl) y2.heap.size 1 1 [.int .i64 0, .bool px.s, .slice px.A px.n px.c, .slice px.C px.m px.d] (by rfl) (by decide) (by rfl) (by exact (BZ : BK _ _ (ZC px)).ck) (oc4 (by rfl)) (nw4 (by rfl)) (by decide) (by (try simp only [SZ]); omega) ?_; intro An cn u hOn hB hKp; replace hOn : ZP u (We2.heap.size + 1) 176 4 An 1 cn [.int .i64 0, .bool px.s, .slice px.A px.n px.c, .slice px.C px.m px.d] := hOn; have hKy : Za y2 u := ((Za.refl y2).alloc _).trans hKp; have hxw : Ext w u := Ext.own EX hB (by omega); have hzu := hB.size; (try simp only [SZ] at hzu); have Q0 : BK u (w.heap.size) Z26 := BK.belowN BZ hB (by omega); have M0 := Q0.lt; have Qd : BK u (w2.heap.size) (ZC pd2) := BK.belowN BZ hB (by omega); have Md := Qd.lt; have Qf : BK u (w2.heap.size + 1) (zA7 pf0 rf0 pf1 rf1 pf2 rf2) := BK.belowN BZ hB (by omega); have Mf := Qf.lt; have Qo : BK u (We2.heap.size) (ZcZ pd2) := BK.belowN BZ hB (by omega); have Mo := Qo.lt; have To := Qo.ca; dsimp only [CA, Nat.reduceAdd] at To; have TFo := Qo.frozen; have Td := Qd.ca; dsimp only [CA, Nat.reduceAdd] at Td; have hk := Qf.ca; dsimp only [CA, Nat.reduceAdd] at hk; obtain ⟨Tf_0, Tf_1, Tf_2, Tf_3, Tf_4, Tf_5, Tf_6, Tf_7, _⟩ := hk; have Zpd : Hid (pd2.At u 1) := zH (by exact IAt.keep IX hKy); have Za0 : Hid (pf0.At u z) := zH (by exact IAt.keep IX hKy); have Za1 : Hid (rf0.At u 1) := zH (by exact IAt.keep IX hKy); have Za2 : Hid (pf1.At u 1) := zH (by exact IAt.keep IX hKy); have Za3 : Hid (rf1.At u 1) := zH (by exact IAt.keep IX hKy); have Za4 : Hid (pf2.At u 1) := zH (by exact IAt.keep IX hKy); have Za5 : Hid (rf2.At u 1) := zH (by exact IAt.keep IX hKy); have Zpx : Hid (px.At u z) := zH (by exact IAt.keep IX hKy))
  refine KU hK fun _ => ?_; clear hK K
  refine TU 17 ?_
  refine RDU [18] ?_
  refine ARL (fun K hK => ?_)
  go_simp
  refine KUL hK ?_; clear hK K
  refine Z0d.done (by kernel_rfl) ?_ _
  refine ⟨An, cn, px, _, Zr _ _, EX, BZ, BZ, BZ, CX, IX, IX, IX, IX, IX, IX, IX, IX, BZ, NZ⟩
 case srest0 =>
 rintro a' Ve0 ⟨A0, c0, pr0, U, rfl, hW, R0, Rd, Rf, Rg, hpd, ha0, ha1, ha2, ha3, ha4, ha5, ha6, Ro, hO⟩
 dsimp only [fr, frl, Nat.reduceBEq, Nat.reduceAdd, cond_true, cond_false]
 clear Hpd
 have Nd := Nat.le_of_eq hpd.wl
 have Hpd := zH hpd
 clear hpd
 clear Ha0
 have Ha0 := zH ha0
 clear ha0
 clear Ha1
 have Ha1 := zH ha1
 clear ha1
 clear Ha2
 have Ha2 := zH ha2
 clear ha2
 clear Ha3
 have Ha3 := zH ha3
 clear ha3
 clear Ha4
 have Ha4 := zH ha4
 clear ha4
 clear Ha5
 have Ha5 := zH ha5
 clear ha5
 have Ha6 := zH ha6
 clear ha6
 (try clear FF)
 have L0 := R0.lt
 have Ld := Rd.lt
 have Lf := Rf.lt
 have Lg := Rg.lt
 have Lo := Ro.lt
 have FF := And.intro R0.ca (And.intro Rd.ca (And.intro Rf.ca (And.intro Rg.ca Ro.ca))); dsimp only [CA, CC, Nat.reduceAdd] at FF
 go_wp2_with fail
 rw [rounds_succ]
 refine ZQ 69 [(0, .slice (some ⟨g, 0, none⟩) 3 c), (2, .pointer (some ⟨w.heap.size, 0, none⟩)), (3, .pointer (some ⟨w2.heap.size, 0, none⟩)), (4, .slice (some ⟨w2.heap.size + 1, 0, none⟩) 3 3), (6, .pointer (some ⟨We2.heap.size, 0, none⟩)), (7, .int .i64 1)] (fun W => Ext w W ∧ BK W (w.heap.size) Z26 ∧ BK W (w2.heap.size) (ZC pd2) ∧ BK W (w2.heap.size + 1) (zA7 pf0 rf0 pf1 rf1 pf2 rf2) ∧ CK W g (zL4 q0 q1 q2) ∧ pd2.At W 1 ∧ pf0.At W z ∧ rf0.At W 1 ∧ pf1.At W 1 ∧ rf1.At W 1 ∧ pf2.At W 1 ∧ rf2.At W 1 ∧ pr0.At W z ∧ BK W (We2.heap.size) (Zct A0 c0 pd2) ∧ ZP W (We2.heap.size + 1) 176 4 A0 1 c0 [.int .i64 0, .bool pr0.s, .slice pr0.A pr0.n pr0.c, .slice pr0.C pr0.m pr0.d]) ⟨EX, BZ, BZ, BZ, CX, IX, IX, IX, IX, IX, IX, IX, IX, BZ, NZ⟩ ?_
 rintro V1 U ⟨hW, R0, Rd, Rf, Rg, hpd, ha0, ha1, ha2, ha3, ha4, ha5, ha6, Ro, hO⟩
 dsimp only [fr, frl, Nat.reduceBEq, Nat.reduceAdd, cond_true, cond_false]
 (try clear FF)
 clear Hpd
 have Nd := Nat.le_of_eq hpd.wl
 have Hpd := zH hpd
 clear hpd
 clear Ha0
 have Ha0 := zH ha0
 clear ha0
 clear Ha1
 have Ha1 := zH ha1
 clear ha1
 clear Ha2
 have Ha2 := zH ha2
 clear ha2
 clear Ha3
 have Ha3 := zH ha3
 clear ha3
 clear Ha4
 have Ha4 := zH ha4
 clear ha4
 clear Ha5
 have Ha5 := zH ha5
 clear ha5
 clear Ha6
 have Ha6 := zH ha6
 clear ha6
 have L0 := R0.lt
 have Ld := Rd.lt
 have Lf := Rf.lt
 have Lg := Rg.lt
 have Lo := Ro.lt
 have FF := And.intro R0.ca (And.intro Rd.ca (And.intro Rf.ca (And.intro Rg.ca Ro.ca))); dsimp only [CA, CC, Nat.reduceAdd] at FF
 go_wp2_with fail
 refine Zu 18 (fun a' w' => ∃ (A1 : Option Addr) (c1 : Nat) (pr1 : PV) (U : Nat → Value), a' = fr 69 U [(0, .slice (some ⟨g, 0, none⟩) 3 c), (2, .pointer (some ⟨w.heap.size, 0, none⟩)), (3, .pointer (some ⟨w2.heap.size, 0, none⟩)), (4, .slice (some ⟨w2.heap.size + 1, 0, none⟩) 3 3), (6, .pointer (some ⟨We2.heap.size, 0, none⟩)), (7, .int .i64 1)] ∧ Ext w w' ∧ BK w' (w.heap.size) Z26 ∧ BK w' (w2.heap.size) (ZC pd2) ∧ BK w' (w2.heap.size + 1) (zA7 pf0 rf0 pf1 rf1 pf2 rf2) ∧ CK w' g (zL4 q0 q1 q2) ∧ pd2.At w' 1 ∧ pf0.At w' z ∧ rf0.At w' 1 ∧ pf1.At w' 1 ∧ rf1.At w' 1 ∧ pf2.At w' 1 ∧ rf2.At w' 1 ∧ pr0.At w' z ∧ pr1.At w' 1 ∧ BK w' (We2.heap.size) (Zcs A1 c1 pd2) ∧ ZP w' (We2.heap.size + 1) 176 4 A1 2 c1 [.int .i64 0, .bool pr0.s, .slice pr0.A pr0.n pr0.c, .slice pr0.C pr0.m pr0.d, .int .i64 0, .bool pr1.s, .slice pr1.A pr1.n pr1.c, .slice pr1.C pr1.m pr1.d]) (fun w' => w'.cell? ⟨We2.heap.size, 0, none⟩ = some (.slice A0 1 c0) ∧ w'.cell? ⟨w2.heap.size, 0, none⟩ = some (.int .i64 0) ∧ w'.cell? ⟨w2.heap.size, 1, none⟩ = some (.bool pd2.s) ∧ w'.cell? ⟨w2.heap.size, 2, none⟩ = some (.slice pd2.A pd2.n pd2.c) ∧ w'.cell? ⟨w2.heap.size, 3, none⟩ = some (.slice pd2.C pd2.m pd2.d) ∧ w'.cell? ⟨w2.heap.size + 1, 8, none⟩ = some (.int .i64 0) ∧ w'.cell? ⟨w2.heap.size + 1, 9, none⟩ = some (.bool pf1.s) ∧ w'.cell? ⟨w2.heap.size + 1, 10, none⟩ = some (.slice pf1.A pf1.n pf1.c) ∧ w'.cell? ⟨w2.heap.size + 1, 11, none⟩ = some (.slice pf1.C pf1.m pf1.d) ∧ w'.cell? ⟨w2.heap.size + 1, 12, none⟩ = some (.int .i64 0) ∧ w'.cell? ⟨w2.heap.size + 1, 13, none⟩ = some (.bool rf1.s) ∧ w'.cell? ⟨w2.heap.size + 1, 14, none⟩ = some (.slice rf1.A rf1.n rf1.c) ∧ w'.cell? ⟨w2.heap.size + 1, 15, none⟩ = some (.slice rf1.C rf1.m rf1.d)) Z0a ?srest1 (by exact KQ) (fun hHeld => ?sexpl1)
 case sexpl1 =>
  refine TU 0 ?_; refine TU 1 ?_; refine TU 2 ?_; refine TU 3 ?_; refine TU 4 ?_; refine TU 5 ?_; refine TU 6 ?_; refine TU 7 ?_; refine TU 8 ?_; refine TU 9 ?_; refine TU 10 ?_; refine TU 11 ?_; refine TU 12 ?_
  refine R1U 13 fun K hK => ?_
  go_simp
  refine (Zm ⟨0, pd2.s, pd2.A, pd2.n, pd2.c, pd2.C, pd2.m, pd2.d⟩ rf1 _ IX).mono ?_; rintro e y1 ⟨rfl, hby1⟩; have := hby1.sz
  refine KU hK fun _ => ?_; clear hK K
  refine R1U 14 fun K hK => ?_
  go_simp
  refine (Z04 pf1 pd2 1 _ IX IX (by omega)).mono ?_; rintro e y2 ⟨px, rfl, hQ, hby2⟩; have Hpx := zH hQ; clear hQ; have := hby2.sz
  refine KU hK fun _ => ?_; clear hK K
  refine R1U 15 fun K hK => ?_
  go_simp
  refine KU hK fun _ => ?_; clear hK K
  refine R1U 16 fun K hK => ?_
  (rw [if_pos (by rfl)]; refine Z3g (.tmp 51) (.tmp 65) (by rfl) (We2.heap.size + 1) A0 1 c0 [.int .i64 0, .bool pr0.s, .slice pr0.A pr0.n pr0.c, .slice pr0.C pr0.m pr0.d] NZ (by rfl) y2.heap.size 1 1 [.int .i64 0, .bool px.s, .slice px.A px.n px.c, .slice px.C px.m px.d] (by rfl) (by decide) (by rfl) (by exact (BZ : BK _ _ (ZC px)).ck) (oc4 (by rfl)) (nw4 (by rfl)) (by decide) (by (try simp only [SZ]); omega) ?_; intro An cn u hOn hB hKp; replace hOn : ZP u (We2.heap.size + 1) 176 4 An 2 cn [.int .i64 0, .bool pr0.s, .slice pr0.A pr0.n pr0.c, .slice pr0.C pr0.m pr0.d, .int .i64 0, .bool px.s, .slice px.A px.n px.c, .slice px.C px.m px.d] := hOn; have hKy : Za y2 u := ((Za.refl y2).alloc _).trans hKp; have hxw : Ext w u := Ext.own EX hB (by omega); have hzu := hB.size; (try simp only [SZ] at hzu); have Q0 : BK u (w.heap.size) Z26 := BK.belowN BZ hB (by omega); have M0 := Q0.lt; have Qd : BK u (w2.heap.size) (ZC pd2) := BK.belowN BZ hB (by omega); have Md := Qd.lt; have Qf : BK u (w2.heap.size + 1) (zA7 pf0 rf0 pf1 rf1 pf2 rf2) := BK.belowN BZ hB (by omega); have Mf := Qf.lt; have Qo : BK u (We2.heap.size) (Zct A0 c0 pd2) := BK.belowN BZ hB (by omega); have Mo := Qo.lt; have To := Qo.ca; dsimp only [CA, Nat.reduceAdd] at To; have TFo := Qo.frozen; have Td := Qd.ca; dsimp only [CA, Nat.reduceAdd] at Td; have Tf_8 : zC u (w2.heap.size + 1) 8 (.int .i64 0) := Qf.cell 8; have Tf_9 : zC u (w2.heap.size + 1) 9 (.bool pf1.s) := Qf.cell 9; have Tf_10 : zC u (w2.heap.size + 1) 10 (.slice pf1.A pf1.n pf1.c) := Qf.cell 10; have Tf_11 : zC u (w2.heap.size + 1) 11 (.slice pf1.C pf1.m pf1.d) := Qf.cell 11; have Tf_12 : zC u (w2.heap.size + 1) 12 (.int .i64 0) := Qf.cell 12; have Tf_13 : zC u (w2.heap.size + 1) 13 (.bool rf1.s) := Qf.cell 13; have Tf_14 : zC u (w2.heap.size + 1) 14 (.slice rf1.A rf1.n rf1.c) := Qf.cell 14; have Tf_15 : zC u (w2.heap.size + 1) 15 (.slice rf1.C rf1.m rf1.d) := Qf.cell 15; have Zpd : Hid (pd2.At u 1) := zH (by exact IAt.keep IX hKy); have Za0 : Hid (pf0.At u z) := zH (by exact IAt.keep IX hKy); have Za1 : Hid (rf0.At u 1) := zH (by exact IAt.keep IX hKy); have Za2 : Hid (pf1.At u 1) := zH (by exact IAt.keep IX hKy); have Za3 : Hid (rf1.At u 1) := zH (by exact IAt.keep IX hKy); have Za4 : Hid (pf2.At u 1) := zH (by exact IAt.keep IX hKy); have Za5 : Hid (rf2.At u 1) := zH (by exact IAt.keep IX hKy); have Za6 : Hid (pr0.At u z) := zH (by exact IAt.keep IX hKy); have Zpx : Hid (px.At u 1) := zH (by exact IAt.keep IX hKy))
  refine KU hK fun _ => ?_; clear hK K
  refine TU 17 ?_
  refine RDU [18] ?_
  refine ARL (fun K hK => ?_)
  go_simp
  refine KUL hK ?_; clear hK K
  refine Z0d.done (by kernel_rfl) ?_ _
  refine ⟨An, cn, px, _, Zr _ _, EX, BZ, BZ, BZ, CX, IX, IX, IX, IX, IX, IX, IX, IX, IX, BZ, NZ⟩
 case srest1 =>
 rintro a' Ve1 ⟨A1, c1, pr1, U, rfl, hW, R0, Rd, Rf, Rg, hpd, ha0, ha1, ha2, ha3, ha4, ha5, ha6, ha7, Ro, hO⟩
 dsimp only [fr, frl, Nat.reduceBEq, Nat.reduceAdd, cond_true, cond_false]
 clear Hpd
 have Nd := Nat.le_of_eq hpd.wl
 have Hpd := zH hpd
 clear hpd
 clear Ha0
 have Ha0 := zH ha0
 clear ha0
 clear Ha1
 have Ha1 := zH ha1
 clear ha1
 clear Ha2
 have Ha2 := zH ha2
 clear ha2
 clear Ha3
 have Ha3 := zH ha3
 clear ha3
 clear Ha4
 have Ha4 := zH ha4
 clear ha4
 clear Ha5
 have Ha5 := zH ha5
 clear ha5
 clear Ha6
 have Ha6 := zH ha6
 clear ha6
 have Ha7 := zH ha7
 clear ha7
 (try clear FF)
 have L0 := R0.lt
 have Ld := Rd.lt
 have Lf := Rf.lt
 have Lg := Rg.lt
 have Lo := Ro.lt
 have FF := And.intro R0.ca (And.intro Rd.ca (And.intro Rf.ca (And.intro Rg.ca Ro.ca))); dsimp only [CA, CC, Nat.reduceAdd] at FF
 go_wp2_with fail
 rw [rounds_succ]
 refine ZQ 69 [(0, .slice (some ⟨g, 0, none⟩) 3 c), (2, .pointer (some ⟨w.heap.size, 0, none⟩)), (3, .pointer (some ⟨w2.heap.size, 0, none⟩)), (4, .slice (some ⟨w2.heap.size + 1, 0, none⟩) 3 3), (6, .pointer (some ⟨We2.heap.size, 0, none⟩)), (7, .int .i64 2)] (fun W => Ext w W ∧ BK W (w.heap.size) Z26 ∧ BK W (w2.heap.size) (ZC pd2) ∧ BK W (w2.heap.size + 1) (zA7 pf0 rf0 pf1 rf1 pf2 rf2) ∧ CK W g (zL4 q0 q1 q2) ∧ pd2.At W 1 ∧ pf0.At W z ∧ rf0.At W 1 ∧ pf1.At W 1 ∧ rf1.At W 1 ∧ pf2.At W 1 ∧ rf2.At W 1 ∧ pr0.At W z ∧ pr1.At W 1 ∧ BK W (We2.heap.size) (Zcs A1 c1 pd2) ∧ ZP W (We2.heap.size + 1) 176 4 A1 2 c1 [.int .i64 0, .bool pr0.s, .slice pr0.A pr0.n pr0.c, .slice pr0.C pr0.m pr0.d, .int .i64 0, .bool pr1.s, .slice pr1.A pr1.n pr1.c, .slice pr1.C pr1.m pr1.d]) ⟨EX, BZ, BZ, BZ, CX, IX, IX, IX, IX, IX, IX, IX, IX, IX, BZ, NZ⟩ ?_
 rintro V2 U ⟨hW, R0, Rd, Rf, Rg, hpd, ha0, ha1, ha2, ha3, ha4, ha5, ha6, ha7, Ro, hO⟩
 dsimp only [fr, frl, Nat.reduceBEq, Nat.reduceAdd, cond_true, cond_false]
 (try clear FF)
 clear Hpd
 have Nd := Nat.le_of_eq hpd.wl
 have Hpd := zH hpd
 clear hpd
 clear Ha0
 have Ha0 := zH ha0
 clear ha0
 clear Ha1
 have Ha1 := zH ha1
 clear ha1
 clear Ha2
 have Ha2 := zH ha2
 clear ha2
 clear Ha3
 have Ha3 := zH ha3
 clear ha3
 clear Ha4
 have Ha4 := zH ha4
 clear ha4
 clear Ha5
 have Ha5 := zH ha5
 clear ha5
 clear Ha6
 have Ha6 := zH ha6
 clear ha6
 clear Ha7
 have Ha7 := zH ha7
 clear ha7
 have L0 := R0.lt
 have Ld := Rd.lt
 have Lf := Rf.lt
 have Lg := Rg.lt
 have Lo := Ro.lt
 have FF := And.intro R0.ca (And.intro Rd.ca (And.intro Rf.ca (And.intro Rg.ca Ro.ca))); dsimp only [CA, CC, Nat.reduceAdd] at FF
 go_wp2_with fail
 refine Zu 18 (fun a' w' => ∃ (A2 : Option Addr) (c2 : Nat) (pr2 : PV) (U : Nat → Value), a' = fr 69 U [(0, .slice (some ⟨g, 0, none⟩) 3 c), (2, .pointer (some ⟨w.heap.size, 0, none⟩)), (3, .pointer (some ⟨w2.heap.size, 0, none⟩)), (4, .slice (some ⟨w2.heap.size + 1, 0, none⟩) 3 3), (6, .pointer (some ⟨We2.heap.size, 0, none⟩)), (7, .int .i64 2)] ∧ Ext w w' ∧ BK w' (w.heap.size) Z26 ∧ BK w' (w2.heap.size) (ZC pd2) ∧ BK w' (w2.heap.size + 1) (zA7 pf0 rf0 pf1 rf1 pf2 rf2) ∧ CK w' g (zL4 q0 q1 q2) ∧ pd2.At w' 1 ∧ pf0.At w' z ∧ rf0.At w' 1 ∧ pf1.At w' 1 ∧ rf1.At w' 1 ∧ pf2.At w' 1 ∧ rf2.At w' 1 ∧ pr0.At w' z ∧ pr1.At w' 1 ∧ pr2.At w' 1 ∧ BK w' (We2.heap.size) #[.slice A2 3 c2, .int .i64 0, .bool pd2.s, .slice pd2.A pd2.n pd2.c, .slice pd2.C pd2.m pd2.d] ∧ ZP w' (We2.heap.size + 1) 176 4 A2 3 c2 [.int .i64 0, .bool pr0.s, .slice pr0.A pr0.n pr0.c, .slice pr0.C pr0.m pr0.d, .int .i64 0, .bool pr1.s, .slice pr1.A pr1.n pr1.c, .slice pr1.C pr1.m pr1.d, .int .i64 0, .bool pr2.s, .slice pr2.A pr2.n pr2.c, .slice pr2.C pr2.m pr2.d]) (fun w' => w'.cell? ⟨We2.heap.size, 0, none⟩ = some (.slice A1 2 c1) ∧ w'.cell? ⟨w2.heap.size, 0, none⟩ = some (.int .i64 0) ∧ w'.cell? ⟨w2.heap.size, 1, none⟩ = some (.bool pd2.s) ∧ w'.cell? ⟨w2.heap.size, 2, none⟩ = some (.slice pd2.A pd2.n pd2.c) ∧ w'.cell? ⟨w2.heap.size, 3, none⟩ = some (.slice pd2.C pd2.m pd2.d) ∧ w'.cell? ⟨w2.heap.size + 1, 16, none⟩ = some (.int .i64 0) ∧ w'.cell? ⟨w2.heap.size + 1, 17, none⟩ = some (.bool pf2.s) ∧ w'.cell? ⟨w2.heap.size + 1, 18, none⟩ = some (.slice pf2.A pf2.n pf2.c) ∧ w'.cell? ⟨w2.heap.size + 1, 19, none⟩ = some (.slice pf2.C pf2.m pf2.d) ∧ w'.cell? ⟨w2.heap.size + 1, 20, none⟩ = some (.int .i64 0) ∧ w'.cell? ⟨w2.heap.size + 1, 21, none⟩ = some (.bool rf2.s) ∧ w'.cell? ⟨w2.heap.size + 1, 22, none⟩ = some (.slice rf2.A rf2.n rf2.c) ∧ w'.cell? ⟨w2.heap.size + 1, 23, none⟩ = some (.slice rf2.C rf2.m rf2.d)) Z0a ?srest2 (by exact KQ) (fun hHeld => ?sexpl2)
 case sexpl2 =>
  refine TU 0 ?_; refine TU 1 ?_; refine TU 2 ?_; refine TU 3 ?_; refine TU 4 ?_; refine TU 5 ?_; refine TU 6 ?_; refine TU 7 ?_; refine TU 8 ?_; refine TU 9 ?_; refine TU 10 ?_; refine TU 11 ?_; refine TU 12 ?_
  refine R1U 13 fun K hK => ?_
  go_simp
  refine (Zm ⟨0, pd2.s, pd2.A, pd2.n, pd2.c, pd2.C, pd2.m, pd2.d⟩ rf2 _ IX).mono ?_; rintro e y1 ⟨rfl, hby1⟩; have := hby1.sz
  refine KU hK fun _ => ?_; clear hK K
  refine R1U 14 fun K hK => ?_
  go_simp
  refine (Z04 pf2 pd2 1 _ IX IX (by omega)).mono ?_; rintro e y2 ⟨px, rfl, hQ, hby2⟩; have Hpx := zH hQ; clear hQ; have := hby2.sz
  refine KU hK fun _ => ?_; clear hK K
  refine R1U 15 fun K hK => ?_
  go_simp
  refine KU hK fun _ => ?_; clear hK K
  refine R1U 16 fun K hK => ?_
  (rw [if_pos (by rfl)]; refine Z3g (.tmp 51) (.tmp 65) (by rfl) (We2.heap.size + 1) A1 2 c1 [.int .i64 0, .bool pr0.s, .slice pr0.A pr0.n pr0.c, .slice pr0.C pr0.m pr0.d, .int .i64 0, .bool pr1.s, .slice pr1.A pr1.n pr1.c, .slice pr1.C pr1.m pr1.d] NZ (by rfl) y2.heap.size 1 1 [.int .i64 0, .bool px.s, .slice px.A px.n px.c, .slice px.C px.m px.d] (by rfl) (by decide) (by rfl) (by exact (BZ : BK _ _ (ZC px)).ck) (oc4 (by rfl)) (nw4 (by rfl)) (by decide) (by (try simp only [SZ]); omega) ?_; intro An cn u hOn hB hKp; replace hOn : ZP u (We2.heap.size + 1) 176 4 An 3 cn [.int .i64 0, .bool pr0.s, .slice pr0.A pr0.n pr0.c, .slice pr0.C pr0.m pr0.d, .int .i64 0, .bool pr1.s, .slice pr1.A pr1.n pr1.c, .slice pr1.C pr1.m pr1.d, .int .i64 0, .bool px.s, .slice px.A px.n px.c, .slice px.C px.m px.d] := hOn; have hKy : Za y2 u := ((Za.refl y2).alloc _).trans hKp; have hxw : Ext w u := Ext.own EX hB (by omega); have hzu := hB.size; (try simp only [SZ] at hzu); have Q0 : BK u (w.heap.size) Z26 := BK.belowN BZ hB (by omega); have M0 := Q0.lt; have Qd : BK u (w2.heap.size) (ZC pd2) := BK.belowN BZ hB (by omega); have Md := Qd.lt; have Qf : BK u (w2.heap.size + 1) (zA7 pf0 rf0 pf1 rf1 pf2 rf2) := BK.belowN BZ hB (by omega); have Mf := Qf.lt; have Qo : BK u (We2.heap.size) (Zcs A1 c1 pd2) := BK.belowN BZ hB (by omega); have Mo := Qo.lt; have To := Qo.ca; dsimp only [CA, Nat.reduceAdd] at To; have TFo := Qo.frozen; have Td := Qd.ca; dsimp only [CA, Nat.reduceAdd] at Td; have Tf_16 : zC u (w2.heap.size + 1) 16 (.int .i64 0) := Qf.cell 16; have Tf_17 : zC u (w2.heap.size + 1) 17 (.bool pf2.s) := Qf.cell 17; have Tf_18 : zC u (w2.heap.size + 1) 18 (.slice pf2.A pf2.n pf2.c) := Qf.cell 18; have Tf_19 : zC u (w2.heap.size + 1) 19 (.slice pf2.C pf2.m pf2.d) := Qf.cell 19; have Tf_20 : zC u (w2.heap.size + 1) 20 (.int .i64 0) := Qf.cell 20; have Tf_21 : zC u (w2.heap.size + 1) 21 (.bool rf2.s) := Qf.cell 21; have Tf_22 : zC u (w2.heap.size + 1) 22 (.slice rf2.A rf2.n rf2.c) := Qf.cell 22; have Tf_23 : zC u (w2.heap.size + 1) 23 (.slice rf2.C rf2.m rf2.d) := Qf.cell 23; have Zpd : Hid (pd2.At u 1) := zH (by exact IAt.keep IX hKy); have Za0 : Hid (pf0.At u z) := zH (by exact IAt.keep IX hKy); have Za1 : Hid (rf0.At u 1) := zH (by exact IAt.keep IX hKy); have Za2 : Hid (pf1.At u 1) := zH (by exact IAt.keep IX hKy); have Za3 : Hid (rf1.At u 1) := zH (by exact IAt.keep IX hKy); have Za4 : Hid (pf2.At u 1) := zH (by exact IAt.keep IX hKy); have Za5 : Hid (rf2.At u 1) := zH (by exact IAt.keep IX hKy); have Za6 : Hid (pr0.At u z) := zH (by exact IAt.keep IX hKy); have Za7 : Hid (pr1.At u 1) := zH (by exact IAt.keep IX hKy); have Zpx : Hid (px.At u 1) := zH (by exact IAt.keep IX hKy))
  refine KU hK fun _ => ?_; clear hK K
  refine TU 17 ?_
  refine RDU [18] ?_
  refine ARL (fun K hK => ?_)
  go_simp
  refine KUL hK ?_; clear hK K
  refine Z0d.done (by kernel_rfl) ?_ _
  refine ⟨An, cn, px, _, Zr _ _, EX, BZ, BZ, BZ, CX, IX, IX, IX, IX, IX, IX, IX, IX, IX, IX, BZ, NZ⟩
 case srest2 =>
 rintro a' Ve2 ⟨A2, c2, pr2, U, rfl, hW, R0, Rd, Rf, Rg, hpd, ha0, ha1, ha2, ha3, ha4, ha5, ha6, ha7, ha8, Ro, hO⟩
 dsimp only [fr, frl, Nat.reduceBEq, Nat.reduceAdd, cond_true, cond_false]
 clear Hpd
 have Nd := Nat.le_of_eq hpd.wl
 have Hpd := zH hpd
 clear hpd
 clear Ha0
 have Ha0 := zH ha0
 clear ha0
 clear Ha1
 have Ha1 := zH ha1
 clear ha1
 clear Ha2
 have Ha2 := zH ha2
 clear ha2
 clear Ha3
 have Ha3 := zH ha3
 clear ha3
 clear Ha4
 have Ha4 := zH ha4
 clear ha4
 clear Ha5
 have Ha5 := zH ha5
 clear ha5
 clear Ha6
 have Ha6 := zH ha6
 clear ha6
 clear Ha7
 have Ha7 := zH ha7
 clear ha7
 have Ha8 := zH ha8
 clear ha8
 (try clear FF)
 have L0 := R0.lt
 have Ld := Rd.lt
 have Lf := Rf.lt
 have Lg := Rg.lt
 have Lo := Ro.lt
 have FF := And.intro R0.ca (And.intro Rd.ca (And.intro Rf.ca (And.intro Rg.ca Ro.ca))); dsimp only [CA, CC, Nat.reduceAdd] at FF
 go_wp2_with fail
 obtain ⟨gl, rfl, hgl, hge, hlt, hle⟩ := hO.ck (by decide)
 have Rl : CK Ve2 gl (Zbc pr0 pr1 pr2) := hgl
 clear hgl
 rw [rounds_succ]
 refine ZQ 69 [(0, .slice (some ⟨g, 0, none⟩) 3 c), (2, .pointer (some ⟨w.heap.size, 0, none⟩)), (3, .pointer (some ⟨w2.heap.size, 0, none⟩)), (4, .slice (some ⟨w2.heap.size + 1, 0, none⟩) 3 3), (6, .pointer (some ⟨We2.heap.size, 0, none⟩)), (7, .int .i64 3)] (fun W => Ext w W ∧ BK W (w.heap.size) Z26 ∧ BK W (We2.heap.size) (ZbZ gl c2 pd2) ∧ CK W gl (Zbc pr0 pr1 pr2) ∧ pr0.At W z ∧ pr1.At W 1 ∧ pr2.At W 1 ∧ pd2.At W 1 ∧ gl < W.heap.size) ⟨EX, BZ, BZ, CX, IX, IX, IX, IX, by omega⟩ ?_
 (try clear FF)
 clear R0 Rd Rf Rg Ro hO Rl hlt Ha0 Ha1 Ha2 Ha3 Ha4 Ha5 Ha6 Ha7 Ha8 Hpd
 rintro W U ⟨hW, R0, Ro, Rl, hr0, hr1, hr2, hpd, hlt⟩
 dsimp only [fr, frl, Nat.reduceBEq, Nat.reduceAdd, cond_true, cond_false]
 have Hr0 := zH hr0
 have Hr1 := zH hr1
 have Hr2 := zH hr2
 have Hpd := zH hpd
 clear hr0 hr1 hr2 hpd
 have L0 := R0.lt
 have Lo := Ro.lt
 have F0 := R0.c5
 have Fo := Ro.c5
 go_wp2_with ((with_reducible refine BK.fin3 (g := w.heap.size) (c := #[.slice (some ⟨gl, 0, none⟩) 3 c2, .int .i64 0, .bool pd2.s, .slice pd2.A pd2.n pd2.c, .slice pd2.C pd2.m pd2.d]) (w0 := w) (T := fun W => CK W gl (Zbc pr0 pr1 pr2) ∧ pr0.At W z ∧ pr1.At W 1 ∧ pr2.At W 1 ∧ pd2.At W 1 ∧ gl < W.heap.size) ?_ ?_ ?_ ?_); exact BZ; exact EX; exact ⟨CX, IX, IX, IX, IX, by (try simp only [SZ]); omega⟩; intro W U E hT; have Ft := U.c5; obtain ⟨t1, t2, t3, t4, t5, t6⟩ := hT; refine bodyPost_ret (v := .agg (ZbZ gl c2 pd2)) (by simp [ZbZ, results, results233, go_sem, Ft]) rfl ⟨gl, c2, pr0, pr1, pr2, pd2, rfl, t1, t2, t3, t4, t5, by omega, by omega, t6, E⟩)
end Go.Proofs.YtnmmncccpdffaaaGreat
