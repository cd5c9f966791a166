/- What BoundBoxes calls, part 15. -/
import Derived.Test.YtnmmncccpdffaaaGreatQ09
import Derived.Test.YtnmmncccpdffaaaGreatQ12
import Derived.Test.YtnmmncccpdffaaaGreatQ13
set_option linter.unusedVariables false
set_option linter.unusedSimpArgs false
set_option maxRecDepth 100000
set_option maxHeartbeats 16000000
namespace Go.Proofs.YtnmmncccpdffaaaGreat
open Go.Proofs.Tryz Go Go.RowKit Go.Shelf
theorem BK.fin2 {P : Program} {fn : Func} {R : Ending → World → Prop} {ex : Exit} {a : Act} {w0 w : World} {g : Nat} {c : Array Value} {T : World → Prop} (h : BK w g c) (e : Ext w0 w) (t : T w) (k : ∀ W, BK W g c → Ext w0 W → T W → bodyPost P fn R ex a W) : bodyPost P fn R ex a w := k w h e t
structure Z3N (g : Nat) (w w' : World) : Prop where
 os : w'.os = w.os
 tape : w'.tape = w.tape
 output : w'.output = w.output
 size : w.heap.size ≤ w'.heap.size
 block : ∀ b, b < w.heap.size → b ≠ g → w'.heap[b]? = w.heap[b]?
theorem Ext.b {w w' : World} (h : Ext w w') (g : Nat) : Z3N g w w' := ⟨h.os, h.tape, h.output, h.size, fun b hb _ => h.block b hb⟩
theorem Z3N.trans {g : Nat} {a b c : World} (h : Z3N g a b) (k : Z3N g b c) : Z3N g a c := ⟨k.os.trans h.os, k.tape.trans h.tape, k.output.trans h.output, Nat.le_trans h.size k.size, fun x hx hg => (k.block x (Nat.lt_of_lt_of_le hx h.size) hg).trans (h.block x hx hg)⟩
theorem Z3N.set {g : Nat} {a b : World} (h : Z3N g a b) {p : Addr} (hp : p.block = g ∨ a.heap.size ≤ p.block) (v : Value) : Z3N g a (b.setCell p v) := ⟨h.os, h.tape, h.output, by rw [World.size_setCell]; exact h.size, fun x hx hg => (Below.heap_setCell b p v x (by omega)).trans (h.block x hx hg)⟩
theorem Z3N.alloc {g : Nat} {a b : World} (h : Z3N g a b) (o : Obj) : Z3N g a (b.alloc o) := h.trans (((Ext.refl b).alloc o).b g)
theorem Z3N.out {g : Nat} {a b : World} (h : Z3N g a b) (hg : a.heap.size ≤ g) : Ext a b := ⟨h.os, h.tape, h.output, h.size, fun x hx => h.block x hx (by omega)⟩
theorem BK.extB {w w' : World} {g h : Nat} {c : Array Value} (k : BK w g c) (e : Z3N h w w') (hg : g ≠ h) : BK w' g c := by have hl := k.lt; obtain ⟨ty, k⟩ := k; exact ⟨ty, (e.block g hl hg).trans k⟩
theorem Z3N.keeps {g : Nat} {a b : World} (h : Z3N g a b) (hn : NB a g) : Za a b := by
 intro p x hx
 by_cases e : p.block = g
 ·exfalso
  obtain ⟨c, ty, h1, h2⟩ := hn
  rw [← e] at h1
  unfold World.cell? at hx
  simp only [h1] at hx
  exact h2 p.off x (by simpa using hx : p.spot = none ∧ c[p.off]? = some (.int .u32 x)).2
 ·have hb := World.block_lt_of_cell? a _ hx
  have := h.block p.block hb e
  unfold World.cell? at hx ⊢
  rw [this]; exact hx
def Zb8 (g : Nat) (w : World) (z : Rat) (v : Value) (e : Ending) (w' : World) : Prop := e = .returned v ∧ ∃ q : QC, BK w' g (zA3 q) ∧ q.At w' z ∧ Z3N g w w'
theorem Z9O (g g0 g1 g6 : Nat) (q p : QC) (x y : Rat) (w : World) (h : CK w g (Z4n q)) (h0 : BK w g0 (Z3D g)) (h1 : BK w g1 (zA3 p)) (h6 : BK w g6 zA9) (hp : p.At w x) (hq : q.At w y) (hs : 2 * (qm x + qm y) + 8 < Z8) :
  Ca 228 #[.pointer (some ⟨g0, 0, none⟩), .pointer (some ⟨g1, 0, none⟩), .pointer (some ⟨g6, 0, none⟩)] w (Zb8 g6 w (x - y) (.tuple #[])) := by
 have L0 := h0.lt
 have L1 := h1.lt
 have L6 := h6.lt
 have F0 := h0.c7
 have F1 := h1.c4
 have HP := zH hp
 have HQ := zH hq
 clear hp hq
 go_enter func228, ntmps228
 go_wp2_with (go_at_call 229; (with_reducible refine (Z8z g q p x y _ CX QX QX hs).mono ?_); refine rQz ?_; intro w1 sw1 Aw1 nw1 cw1 tw1 Bw1 mw1 dw1 Hw1 hbw1 hzw1; obtain ⟨R6, L6, F6⟩ := BC4 w1 g6)
 refine bodyPost_end (v := .tuple #[]) (by simp [results, results228, go_sem]) rfl ⟨rfl, ⟨sw1, Aw1, nw1, cw1, tw1, Bw1, mw1, dw1⟩, BY, QX, ?_⟩
 exact (((((Ext.b EX g6).set (Or.inl rfl) _).set (Or.inl rfl) _).set (Or.inl rfl) _).set (Or.inl rfl) _)
theorem Z7g (p : Option Addr) (w : World) :
  CallsD Tryz.prog 257 #[.pointer p] .returning w fun e u' w' => e = .returned (.tuple #[]) ∧ u' = .returning ∧ w' = w := by
 refine callsD_of_wpS func257 rfl fun c₀ cs hu => ?_
 apply wpS_seq
 apply wpS_region
 simp [wpOpsS, go_sem, recoverD, hu, ntmps257, Exit.thenS]
 apply wpS_seq
 apply wpS_region
 simp [wpOpsS, go_sem, Exit.thenS]
 refine wpS_cond (t := false) (by simp [Act.eval, Array.replicate]) ?_
 simp only [Bool.false_eq_true, if_false]
 refine wpS_of_wp (wp_skip ?_)
 cases c₀
 simp_all [bodyPostS, results, results257]
theorem Z8B (g0 g1 g6 : Nat) (z : Rat) (w : World) (L6 : g6 < w.heap.size) (H : ∀ W, Ext w W → Ca 228 #[.pointer (some ⟨g0, 0, none⟩), .pointer (some ⟨g1, 0, none⟩), .pointer (some ⟨g6, 0, none⟩)] W (Zb8 g6 W z (.tuple #[]))) :
  Ca 227 #[.func (.func 228) #[] #[.pointer (some ⟨g0, 0, none⟩), .pointer (some ⟨g1, 0, none⟩), .pointer (some ⟨g6, 0, none⟩)]] w (Zb8 g6 w z (.agg #[.int .i64 0, .int .i64 0])) := by
 have hmf : ∀ (fn : Fn) (first cap : Array Value) (w : World), (Instr.makeFunc fn first cap).run Tryz.prog w = .ok (.func fn first cap) w := fun _ _ _ _ => rfl
 have HH := zH H
 clear H
 go_enter_defers func227, ntmps227
 go_wp2_with (go_at_call 228; ((with_reducible refine (HH.out _ EX).mono ?_)); rintro e w1 ⟨rfl, q, B6, hQ, hxb⟩; have Hq := zH hQ; have R0 : BK w1 (w.heap.size) #[.int .i64 0, .int .i64 0] := BK.extB (BY : BK _ _ _) hxb (by omega); have L0 := R0.lt; have F0 := R0.c2)
 refine leaves_cons (f := 257) (args := #[.pointer (some ⟨w.heap.size, 0, none⟩)]) (by simp) (by simp [go_sem]) ?_
 refine (Z7g _ _).mono ?_
 rintro e u' w'' ⟨rfl, rfl, rfl⟩
 simp [Leaves, settle, results, results227, go_sem, Z6, F0]
 refine ⟨rfl, q, BY, QX, ?_⟩
 exact ((((((Ext.refl w).alloc _).b g6).trans hxb).set (Or.inr (Nat.le_refl _)) _).set (Or.inr (Nat.le_refl _)) _)
theorem ZaK (g : Nat) (q p : QC) (x y : Rat) (w : World) (h : CK w g (Z4n q)) (hp : p.At w x) (hq : q.At w y) (hs : 2 * (qm x + qm y) + 8 < Z8) :
  Ca 182 #[.agg (Z3D g), .agg (zA3 p)] w (Z29 w (x - y)) := by
 have hmf : ∀ (fn : Fn) (first cap : Array Value) (w : World), (Instr.makeFunc fn first cap).run Tryz.prog w = .ok (.func fn first cap) w := fun _ _ _ _ => rfl
 have Lg := h.lt
 have HP := zH hp
 have HQ := zH hq
 clear hp hq
 dsimp only [Z3D, zA3]
 go_enter func182, ntmps182
 go_wp2_with (go_at_call 227; ((with_reducible refine (Z8B w.heap.size (w.heap.size + 1) (w.heap.size + 1 + 1 + 1) (x - y) _ (by simp only [World.size_alloc]; omega) (fun W e => Z9O g _ _ _ q p x y W CX BY BY BY QX QX hs)).mono ?_)); rintro e w1 ⟨rfl, r, B6, hQ, hxb⟩; have Hr := zH hQ; have hx1 : Ext w w1 := (((((((Ext.refl w).alloc _).alloc _).alloc _).alloc _).b (w.heap.size + 1 + 1 + 1)).trans hxb).out (by omega); have R2 : BK w1 (w.heap.size + 1 + 1) zA9 := BK.extB (BY : BK _ _ _) hxb (by omega); have L2 := R2.lt; have L6 := B6.lt; have F2 := R2.c4; have F6 := B6.c4; clear hQ)
 refine BK.fin2 (g := w.heap.size + 1 + 1) (c := #[.bool r.s, .slice r.A r.n r.c, .bool r.t, .slice r.B r.m r.d]) (w0 := w) (T := fun W => r.At W (x - y)) BY EX QX (fun W U E hT => ?_)
 have Fu := U.c4
 refine bodyPost_ret (v := .tuple #[.agg (zA3 r), .int .i64 0]) (by simp [zA3, results, results182, go_sem, Fu]) rfl ⟨_, _, _, _, _, _, _, _, rfl, hT, E⟩
theorem Z3b (gf : Nat) (q : QC) (w : World) (hq : q.At w 1) :
  Ca 99 #[.pointer (some ⟨gf, 0, none⟩), .agg (zA3 q)] w (Z0e w 0 0) := by
 have m0 : qm (1 : Rat) + qm (1 : Rat) + 8 < Z8 := by decide +kernel
 have HC := zH (fun W (a b : QC) (h : a.At W 1) (h' : b.At W 1) => (by have := Z0U (w := W) (h1 := h) (h2 := h') (hs := m0); rw [show Z0s 1 1 = 0 from by decide +kernel] at this; exact this : Ca 59 #[.agg #[.bool a.s, .slice a.A a.n a.c, .bool a.t, .slice a.B a.m a.d], .agg #[.bool b.s, .slice b.A b.n b.c, .bool b.t, .slice b.B b.m b.d]] W fun e w' => e = .returned (.int .i64 0) ∧ Ext W w'))
 have HQ := zH hq
 clear hq
 dsimp only [zA3]
 go_enter func99, ntmps99
 go_wp2_with fail
 go_region_held3 (fun w' => zC w' w.heap.size 0 (.bool q.s) ∧ zC w' w.heap.size 1 (.slice q.A q.n q.c) ∧ zC w' w.heap.size 2 (.bool q.t) ∧ zC w' w.heap.size 3 (.slice q.B q.m q.d)) (first | (exact KQ) | (simp [go_sem, *]; done)) (first | (go_at_call 81; (with_reducible refine (Z2Y _).mono ?_); refine rQ ?_; intro w1 sw1 Aw1 nw1 cw1 tw1 Bw1 mw1 dw1 Hw1 hbw1; obtain ⟨R0, L0, F0⟩ := B40 w1 w; obtain ⟨R1, L1, F1⟩ := B81 w1 w) | (go_at_call 59; (with_reducible refine (HC.out _ q ⟨sw1, Aw1, nw1, cw1, tw1, Bw1, mw1, dw1⟩ QX QX).mono ?_); rintro e w2 ⟨rfl, hbw2⟩; obtain ⟨R0, L0, F0⟩ := B40 w2 w; obtain ⟨R1, L1, F1⟩ := B81 w2 w))
 all_goals go_wp2_with (
  first
  | (go_at_call 81; (with_reducible refine (ZaV _).mono ?_); refine rQ ?_; intro w3 sw3 Aw3 nw3 cw3 tw3 Bw3 mw3 dw3 Hw3 hbw3; obtain ⟨R0, L0, F0⟩ := B40 w3 w; obtain ⟨R1, L1, F1⟩ := B81 w3 w)
  | (go_at_call 154; (with_reducible refine (Z2g ⟨sw3, Aw3, nw3, cw3, tw3, Bw3, mw3, dw3⟩ _).mono ?_); rintro e w4 ⟨rfl, hbw4⟩; obtain ⟨R0, L0, F0⟩ := B40 w4 w; obtain ⟨R1, L1, F1⟩ := B81 w4 w))
 all_goals refine bodyPost_ret (v := .agg #[.bool sw3, .slice Aw3 nw3 cw3, .bool tw3, .slice Bw3 mw3 dw3, .bool sw3, .slice Aw3 nw3 cw3, .bool tw3, .slice Bw3 mw3 dw3]) (by simp [results, results99, go_sem, Z6, F1]) rfl ⟨⟨sw3, Aw3, nw3, cw3, tw3, Bw3, mw3, dw3⟩, ⟨sw3, Aw3, nw3, cw3, tw3, Bw3, mw3, dw3⟩, rfl, QX, QX, EX⟩
theorem Z7B (gf : Nat) (p q : QC) (w : World) (hp : p.At w 1) (hq : q.At w 1) :
  Ca 186 #[.pointer (some ⟨gf, 0, none⟩), .agg (zA0 p q)] w (Z0e w 0 0) := by
 have hmw : 100000 < Z8 := by decide
 have hi0 : ∀ (a b c d e f g h : Value) (W : World), (Instr.index 84 (.agg #[a, b, c, d, e, f, g, h]) (.int .i64 0)).run Tryz.prog W = .ok (.agg #[a, b, c, d]) W := by intros; kernel_rfl
 have hi1 : ∀ (a b c d e f g h : Value) (W : World), (Instr.index 84 (.agg #[a, b, c, d, e, f, g, h]) (.int .i64 1)).run Tryz.prog W = .ok (.agg #[e, f, g, h]) W := by intros; kernel_rfl
 have HSp := zH (fun W (h : p.At W 1) => (by have := Zy p.s p.A p.n p.c p.t p.B p.m p.d 1 W h (by have := h.n; have : qm (1 : Rat) ≤ 1 := (by decide +kernel); omega); exact this : Ca 84 #[.agg #[.bool p.s, .slice p.A p.n p.c, .bool p.t, .slice p.B p.m p.d]] W fun e w' => e = .returned (.int .i64 1) ∧ Ext W w'))
 have HSq := zH (fun W (h : q.At W 1) => (by have := Zy q.s q.A q.n q.c q.t q.B q.m q.d 1 W h (by have := h.n; have : qm (1 : Rat) ≤ 1 := (by decide +kernel); omega); exact this : Ca 84 #[.agg #[.bool q.s, .slice q.A q.n q.c, .bool q.t, .slice q.B q.m q.d]] W fun e w' => e = .returned (.int .i64 1) ∧ Ext W w'))
 have HP := zH hp
 have HQ := zH hq
 clear hp hq
 dsimp only [zA0]
 go_enter func186, ntmps186
 go_wp2_with (
  first
  | (go_at_call 84; (with_reducible refine (HSq.out _ QX).mono ?_); rintro e w1 ⟨rfl, hbw1⟩; obtain ⟨R0, L0, F0⟩ := B80 w1 w; obtain ⟨R1, L1, F1⟩ := B81 w1 w)
  | (go_at_call 84; (with_reducible refine (HSp.out _ QX).mono ?_); rintro e w2 ⟨rfl, hbw2⟩; obtain ⟨R0, L0, F0⟩ := B80 w2 w; obtain ⟨R1, L1, F1⟩ := B81 w2 w))
 go_region_held3 (fun w' => zC w' w.heap.size 0 (.bool p.s) ∧ zC w' w.heap.size 1 (.slice p.A p.n p.c) ∧ zC w' w.heap.size 2 (.bool p.t) ∧ zC w' w.heap.size 3 (.slice p.B p.m p.d) ∧ zC w' w.heap.size 4 (.bool q.s) ∧ zC w' w.heap.size 5 (.slice q.A q.n q.c) ∧ zC w' w.heap.size 6 (.bool q.t) ∧ zC w' w.heap.size 7 (.slice q.B q.m q.d)) (first | (exact KQ) | (simp [go_sem, *]; done)) (first | (go_at_call 99; (with_reducible refine (Z3b gf p _ QX).mono ?_); refine rB ?_; intro w3 pw3 qw3 Hw3 Kw3 hbw3; obtain ⟨R0, L0, F0⟩ := B80 w3 w; obtain ⟨R1, L1, F1⟩ := B81 w3 w) | (go_at_call 99; (with_reducible refine (Z3b gf q _ QX).mono ?_); refine rB ?_; intro w4 pw4 qw4 Hw4 Kw4 hbw4; obtain ⟨R0, L0, F0⟩ := B80 w4 w; obtain ⟨R1, L1, F1⟩ := B81 w4 w))
 all_goals go_wp2_with fail
 all_goals refine bodyPost_ret (v := .agg (zA0 pw3 qw4)) (by simp [zA0, results, results186, go_sem, Z6, F1]) rfl ⟨pw3, qw4, rfl, QX, QX, EX⟩
theorem Tryz.info_ends : (Tryz.prog.info? 84).map (fun i => (i.zero, i.size, i.bytes)) = some (some (.agg #[.bool false, .slice none 0 0, .bool false, .slice none 0 0, .bool false, .slice none 0 0, .bool false, .slice none 0 0]), 8, 128) := by kernel_rfl
theorem Z4o {w : World} {ops : Array Oper} {rest : List Oper} {o : Oper} {a : Act} {Q : Exit → Act → World → Prop} (hgd : o.guard = none) (s x : Operand)
  (ho : o.op = .call { callee := .builtin .append, args := #[s, x], argTypes := #[167, 167] }) (base : Nat)
  (A : Option Addr) (n c : Nat) (l : List Value) (hown : Z2w w base 84 8 A n c l) (hs : a.eval s = .slice A n c)
  (b m c2 : Nat) (news : List Value) (hx : a.eval x = .slice (some ⟨b, 0, none⟩) m c2) (hm : news.length = m * 8) (hnews : CK w b news) (hsc : ∀ u ∈ news, u.oneCell' = true)
  (hle : n + m ≤ 1000000) (hbase : base ≤ w.heap.size)
  (h : ∀ A' c' w', Z2w w' base 84 8 A' (n + m) c' (l ++ news) → Below base w w' → wpList Tryz.prog ops Q rest (a.put o.dst (.slice A' (n + m) c')) w') : wpList Tryz.prog ops Q (o :: rest) a w := by
 obtain ⟨i0, hi, hz0, hz1, hz2⟩ := info_parts Tryz.info_ends
 exact Z2y hgd s x _ _ i0 _ 8 128 Tryz.underlying167 hi hz0 hz1 hz2 rfl (by decide) (by decide) ho base A n c l hown hs b m c2 news hx hm hnews hsc hle hbase h
theorem Zdi {a b c d e f g h : Value} (h1 : a.oneCell' = true) (h2 : b.oneCell' = true) (h3 : c.oneCell' = true) (h4 : d.oneCell' = true) (h5 : e.oneCell' = true) (h6 : f.oneCell' = true) (h7 : g.oneCell' = true) (h8 : h.oneCell' = true) : ∀ u ∈ [a, b, c, d, e, f, g, h], u.oneCell' = true := by
 intro u hu
 simp only [List.mem_cons, List.not_mem_nil, or_false] at hu
 rcases hu with rfl | rfl | rfl | rfl | rfl | rfl | rfl | rfl <;> assumption
theorem Z9R (gf g : Nat) (q p : QC) (x y z : Rat) (w : World) (h : CK w g (Z4n q)) (hp : p.At w x) (hq : q.At w y) (hz : x - y = z) (hs : 2 * (qm x + qm y) + 8 < Z8) :
  Ca 109 #[.pointer (some ⟨gf, 0, none⟩), .agg (Z3D g), .agg (zA3 p)] w (Z0e w z z) := by
 rw [← hz]
 have Lg := h.lt
 have HP := zH hp
 have HQ := zH hq
 clear hp hq hz
 dsimp only [Z3D, zA3]
 go_enter func109, ntmps109
 go_wp2_with (
  first
  | (go_at_call 181; (with_reducible refine (Z8E g q _ CX).mono ?_); rintro e w1 ⟨rfl, hbw1⟩; have := hbw1.sz; obtain ⟨R0, L0, F0⟩ := BC7 w1 w.heap.size; obtain ⟨R1, L1, F1⟩ := B41 w1 w; obtain ⟨R2, L2, F2⟩ := B82 w1 w)
  | (go_at_call 182; (with_reducible refine (ZaK g q p x y _ CX QX QX hs).mono ?_); refine rQz ?_; intro w2 sw2 Aw2 nw2 cw2 tw2 Bw2 mw2 dw2 Hw2 hbw2 hzw2; obtain ⟨R0, L0, F0⟩ := BC7 w2 w.heap.size; obtain ⟨R1, L1, F1⟩ := B41 w2 w; obtain ⟨R2, L2, F2⟩ := B82 w2 w)
  | (go_at_call 154; (with_reducible refine (Z2g ⟨sw2, Aw2, nw2, cw2, tw2, Bw2, mw2, dw2⟩ _).mono ?_); rintro e w3 ⟨rfl, hbw3⟩; have := hbw3.sz; obtain ⟨R0, L0, F0⟩ := BC7 w3 w.heap.size; obtain ⟨R1, L1, F1⟩ := B41 w3 w; obtain ⟨R2, L2, F2⟩ := B82 w3 w))
 refine bodyPost_ret (v := .agg #[.bool sw2, .slice Aw2 nw2 cw2, .bool tw2, .slice Bw2 mw2 dw2, .bool sw2, .slice Aw2 nw2 cw2, .bool tw2, .slice Bw2 mw2 dw2]) (by simp [results, results109, go_sem, Z6, F2]) rfl ⟨⟨sw2, Aw2, nw2, cw2, tw2, Bw2, mw2, dw2⟩, ⟨sw2, Aw2, nw2, cw2, tw2, Bw2, mw2, dw2⟩, rfl, QX, QX, EX⟩
theorem Z9S (gf g h : Nat) (q p : QC) (x y : Rat) (w : World) (hg : CK w g (Z4n q)) (hh : CK w h (ZaU g)) (hp : p.At w x) (hq : q.At w y) (hz : x - y = 1) (hs : 2 * (qm x + qm y) + 8 < Z8) :
  Ca 109 #[.pointer (some ⟨gf, 0, none⟩), .agg (Z83 h), .agg (zA3 p)] w (Z0e w 0 0) := by
 have Lh := hh.lt
 have Lh1 : h < w.heap.size + 1 := by omega
 have Lh2 : h < w.heap.size + 1 + 1 := by omega
 have HP := zH hp
 have HQ := zH hq
 have hk := hh.ca; dsimp only [CC, Nat.reduceAdd] at hk; obtain ⟨Fh_0, Fh_1, Fh_2, Fh_3, Fh_4, Fh_5, Fh_6, _⟩ := hk
 clear hp hq
 dsimp only [Z83, zA3]
 go_enter func109, ntmps109
 go_wp2_with (go_at_call 181; (with_reducible refine (Z8G h _).mono ?_); rintro e w1 ⟨rfl, hbw1⟩; have := hbw1.sz; obtain ⟨R0, L0, F0⟩ := BC7 w1 w.heap.size; obtain ⟨R1, L1, F1⟩ := B41 w1 w; obtain ⟨R2, L2, F2⟩ := B82 w1 w; have Rh : CK w1 (h) (ZaU g) := CX; have Lh := Rh.lt; have Fh_0 := Rh 0 _ rfl; have Fh_1 := Rh 1 _ rfl; have Fh_2 := Rh 2 _ rfl; have Fh_3 := Rh 3 _ rfl; have Fh_4 := Rh 4 _ rfl; have Fh_5 := Rh 5 _ rfl; have Fh_6 := Rh 6 _ rfl)
 refine wp_loop_rounds 2 ?_
 rw [rounds_succ]
 go_wp2_with (
  first
  | (go_at_call 109; (with_reducible refine (Z9R gf g q p x y 1 _ CX QX QX hz hs).mono ?_); refine rBz ?_; intro w2 pw2 qw2 Hw2 Kw2 hbw2 hzw2; obtain ⟨R0, L0, F0⟩ := BC7 w2 w.heap.size; obtain ⟨R1, L1, F1⟩ := B41 w2 w; obtain ⟨R2, L2, F2⟩ := B82 w2 w; have Rh : CK w2 (h) (ZaU g) := CX; have Lh := Rh.lt; have Fh_0 := Rh 0 _ rfl; have Fh_1 := Rh 1 _ rfl; have Fh_2 := Rh 2 _ rfl; have Fh_3 := Rh 3 _ rfl; have Fh_4 := Rh 4 _ rfl; have Fh_5 := Rh 5 _ rfl; have Fh_6 := Rh 6 _ rfl)
  | ((with_reducible refine (id ?_ : wpList _ _ _ [⟨some 39, _, _, _, _, _⟩, _] _ _)); go_loud (refine Z4o rfl (.tmp 33) (.tmp 38) rfl (w2.heap.size + 1) _ _ _ _ (Z2w.nil _ _ _ _) rfl w2.heap.size 1 1 [.bool pw2.s, .slice pw2.A pw2.n pw2.c, .bool pw2.t, .slice pw2.B pw2.m pw2.d, .bool qw2.s, .slice qw2.A qw2.n qw2.c, .bool qw2.t, .slice qw2.B qw2.m qw2.d] rfl rfl (by exact (BY : BK _ _ (zA0 pw2 qw2)).ck) (Zdi rfl rfl rfl rfl rfl rfl rfl rfl) (by decide) (by simp only [World.size_alloc]; omega) ?_); intro A3 c3 w3 hO3 hB3; have hbw3 : Ext w2 w3 := Ext.own ((Ext.refl w2).alloc _) hB3 (by omega); obtain ⟨gl, rfl, hgl, hgb, hgl2, hcl⟩ := Z2w.ck hO3 (by decide); have Rl : CK w3 gl (Z2H pw2 qw2) := hgl; have Fl_0 := Rl 0 _ rfl; have Fl_1 := Rl 1 _ rfl; have Fl_2 := Rl 2 _ rfl; have Fl_3 := Rl 3 _ rfl; have Fl_4 := Rl 4 _ rfl; have Fl_5 := Rl 5 _ rfl; have Fl_6 := Rl 6 _ rfl; have Fl_7 := Rl 7 _ rfl; obtain ⟨R0, L0, F0⟩ := BC7 w3 w.heap.size; obtain ⟨R1, L1, F1⟩ := B41 w3 w; obtain ⟨R2, L2, F2⟩ := B82 w3 w))
 rw [rounds_succ]
 go_wp2_with (go_at_call 186; (with_reducible refine (Z7B gf pw2 qw2 _ QX QX).mono ?_); refine rBz ?_; intro w4 pw4 qw4 Hw4 Kw4 hbw4 hzw4; obtain ⟨R2, L2, F2⟩ := B82 w4 w)
 all_goals refine bodyPost_ret (v := .agg (zA0 pw4 qw4)) (by simp [zA0, results, results109, go_sem, Z6, F2]) rfl ⟨pw4, qw4, rfl, QX, QX, EX⟩
theorem Z9U (g : Nat) (k : Int) (p q : QC) (x y : Rat) (w : World) (hg : BK w g #[.int .i64 k]) (hp : p.At w x) (hq : q.At w y) (hk0 : 0 ≤ k) (hk1 : k ≤ 400) (hw : y - x ≤ Z02 (-k)) (hs : 2 * (qm x + qm y) + 20000 < Z8) :
  Ca 107 #[.agg (zA0 p q), .pointer (some ⟨g, 0, none⟩)] w (fun e w' => e = .returned (.bool true) ∧ Ext w w') := by
 have hmw : 100000 < Z8 := by decide
 have HW := zH (fun W (h1 : p.At W x) (h2 : q.At W y) => (by have := Z2s p q x y W h1 h2 k (by omega) (by omega) hs; rw [decide_eq_true hw] at this; exact this : Ca 83 #[.agg #[.bool p.s, .slice p.A p.n p.c, .bool p.t, .slice p.B p.m p.d, .bool q.s, .slice q.A q.n q.c, .bool q.t, .slice q.B q.m q.d], .int .i64 k] W fun e w' => e = .returned (.bool true) ∧ Ext W w'))
 have HP := zH hp
 have HQ := zH hq
 have Lg := hg.lt
 have Fg := hg.c1
 clear hp hq hw
 dsimp only [zA0]
 go_enter func107, ntmps107
 go_wp2_with (go_at_call 83; (with_reducible refine (HW.out _ QX QX).mono ?_); rintro e w1 ⟨rfl, hbw1⟩; obtain ⟨R0, L0, F0⟩ := B80 w1 w)
 all_goals go_ret
 all_goals exact ⟨rfl, EX⟩
theorem ZbG (g : Nat) (k : Int) (p q : QC) (x y : Rat) (w : World) (hg : BK w g #[.int .i64 k]) (hp : p.At w x) (hq : q.At w y) (hk0 : 0 ≤ k) (hk1 : k ≤ 400) (hw : y - x ≤ Z02 (-k)) (hs : 2 * (qm x + qm y) + 20000 < Z8) :
  Ca 121 #[.agg (zA0 p q), .pointer (some ⟨g, 0, none⟩)] w (fun e w' => e = .returned (.bool true) ∧ Ext w w') := by
 have hmw : 100000 < Z8 := by decide
 have HW := zH (fun W (h1 : p.At W x) (h2 : q.At W y) => (by have := Z2s p q x y W h1 h2 k (by omega) (by omega) hs; rw [decide_eq_true hw] at this; exact this : Ca 83 #[.agg #[.bool p.s, .slice p.A p.n p.c, .bool p.t, .slice p.B p.m p.d, .bool q.s, .slice q.A q.n q.c, .bool q.t, .slice q.B q.m q.d], .int .i64 k] W fun e w' => e = .returned (.bool true) ∧ Ext W w'))
 have HP := zH hp
 have HQ := zH hq
 have Lg := hg.lt
 have Fg := hg.c1
 clear hp hq hw
 dsimp only [zA0]
 go_enter func121, ntmps121
 go_wp2_with (go_at_call 83; (with_reducible refine (HW.out _ QX QX).mono ?_); rintro e w1 ⟨rfl, hbw1⟩; obtain ⟨R0, L0, F0⟩ := B80 w1 w)
 all_goals go_ret
 all_goals exact ⟨rfl, EX⟩
theorem Z9V (ge gx h g : Nat) (k : Int) (q p : QC) (x y : Rat) (w : World) (he : BK w ge (Z83 h)) (hgx : BK w gx (zA3 p)) (hg : CK w g (Z4n q)) (hh : CK w h (ZaU g)) (hp : p.At w x) (hq : q.At w y) (hz : x - y = 1) (hs : 2 * (qm x + qm y) + 8 < Z8) :
  Ca 108 #[.int .i64 k, .pointer (some ⟨ge, 0, none⟩), .pointer (some ⟨gx, 0, none⟩)] w (Z0e w 0 0) := by
 have HP := zH hp
 have HQ := zH hq
 have Le := he.lt
 have Lx := hgx.lt
 have Fe := he.c7
 have Fx := hgx.c4
 clear hp hq
 go_enter func108, ntmps108
 go_wp2_with fail
 go_region_held3 (fun w' => zC w' ge 0 (.int .i64 10) ∧ zC w' ge 1 (.bool false) ∧ zC w' ge 2 (.slice none 0 0) ∧ zC w' ge 3 (.bool false) ∧ zC w' ge 4 (.slice none 0 0) ∧ zC w' ge 5 (.int .i64 0) ∧ zC w' ge 6 (.slice (some ⟨h, 0, none⟩) 1 1) ∧ zC w' gx 0 (.bool p.s) ∧ zC w' gx 1 (.slice p.A p.n p.c) ∧ zC w' gx 2 (.bool p.t) ∧ zC w' gx 3 (.slice p.B p.m p.d)) (first | (exact KQ) | (simp [go_sem, *]; done)) (first | (go_at_call 87; (with_reducible refine (Z0L k _).mono ?_); rintro e w1 ⟨gf, f1, f2, f3, rfl, Bf, hbw1⟩; obtain ⟨R0, L0, F0⟩ := B80 w1 w) | (go_at_call 109; (with_reducible refine (Z9S gf g h q p x y _ CX CX QX QX hz hs).mono ?_); refine rB ?_; intro w2 pw2 qw2 Hw2 Kw2 hbw2; obtain ⟨R0, L0, F0⟩ := B80 w2 w))
 all_goals go_wp2_with fail
 all_goals refine BK.fin2 (g := w.heap.size) (c := #[.bool pw2.s, .slice pw2.A pw2.n pw2.c, .bool pw2.t, .slice pw2.B pw2.m pw2.d, .bool qw2.s, .slice qw2.A qw2.n qw2.c, .bool qw2.t, .slice qw2.B qw2.m qw2.d]) (w0 := w) (T := fun W => pw2.At W 0 ∧ qw2.At W 0) BY EX ⟨QX, QX⟩ (fun W U E hT => ?_)
 all_goals have Fu := U.c8
 all_goals refine bodyPost_ret (v := .agg (zA0 pw2 qw2)) (by simp [zA0, results, results108, go_sem, Fu]) rfl ⟨pw2, qw2, rfl, hT.1, hT.2, E⟩
theorem ZaP (h g : Nat) (k : Int) (q p : QC) (x y : Rat) (w : World) (hg : CK w g (Z4n q)) (hh : CK w h (ZaU g)) (hp : p.At w x) (hq : q.At w y) (hz : x - y = 1) (hs : 2 * (qm x + qm y) + 8 < Z8) (hk0 : 0 ≤ k) (hk1 : k ≤ 400) (hw : (0 : Rat) - 0 ≤ Z02 (-k)) :
  Ca 42 #[.agg (Z83 h), .agg (zA3 p), .int .i64 k] w (Z50 w 0 0) := by
 have hmf : ∀ (fn : Fn) (first cap : Array Value) (w : World), (Instr.makeFunc fn first cap).run Tryz.prog w = .ok (.func fn first cap) w := fun _ _ _ _ => rfl
 have hs0 : 2 * (qm (0 : Rat) + qm (0 : Rat)) + 20000 < Z8 := by decide +kernel
 have hz0 : (decide (0 ≤ k) && decide (k ≤ 400)) = true := by simp [hk0, hk1]
 have HP := zH hp
 have HQ := zH hq
 clear hp hq
 dsimp only [Z83, zA3]
 go_enter func42, ntmps42
 go_wp2_with (
  first
  | (go_at_call 72; (with_reducible refine (Z06 k _).mono ?_); rw [hz0]; rintro e w1 ⟨rfl, hbw1⟩; have := hbw1.sz; obtain ⟨R0, L0, F0⟩ := BC7 w1 w.heap.size; obtain ⟨R1, L1, F1⟩ := B41 w1 w; obtain ⟨R2, L2, F2⟩ := BC1 w1 (w.heap.size + 1 + 1); obtain ⟨R3, L3, F3⟩ := BC8 w1 (w.heap.size + 1 + 1 + 1))
  | (go_at_call 85; (with_reducible refine (Z1D 107 _ (fun _ _ => rfl) 108 _ (fun _ _ => rfl) k 0 0 _ hk0 (by omega) (fun W e => Z9V _ _ h g _ q p x y W BY BY CX CX QX QX hz hs) (fun W a b e h1 h2 => Z9U _ _ a b _ _ W BY h1 h2 hk0 hk1 hw hs0)).mono ?_); refine rBz ?_; intro w5 pw5 qw5 Hw5 Kw5 hbw5 hzw5; obtain ⟨R0, L0, F0⟩ := BC7 w5 w.heap.size; obtain ⟨R1, L1, F1⟩ := B41 w5 w; obtain ⟨R2, L2, F2⟩ := BC1 w5 (w.heap.size + 1 + 1); obtain ⟨R3, L3, F3⟩ := BC8 w5 (w.heap.size + 1 + 1 + 1)))
 all_goals refine bodyPost_ret (v := .tuple #[.agg (zA0 pw5 qw5), .int .i64 0]) (by simp [zA0, results, results42, go_sem, Z6, F3]) rfl ⟨pw5, qw5, rfl, QX, QX, EX⟩
def Z73 (_ : Nat) : Prop := True
theorem Zb5 {q : QC} {w : World} (h : q.At w ((0 : Int) : Rat)) : q.At w 0 := by rw [show ((0 : Int) : Rat) = 0 from by decide +kernel] at h; exact h
def Zca (PP : World → Bool → Option Addr → Nat → Nat → Bool → Option Addr → Nat → Nat → Int → Prop) (w : World) (e : Ending) (w' : World) : Prop := ∃ s A n c t B m d k, e = .returned (.tuple #[.agg #[.bool s, .slice A n c, .bool t, .slice B m d], .int .i64 k]) ∧ PP w' s A n c t B m d k ∧ Ext w w'
theorem Z9e (X vB : Rat) (PP : World → Bool → Option Addr → Nat → Nat → Bool → Option Addr → Nat → Nat → Int → Prop) (hPP : ∀ W W' s A n c t B m d k, PP W s A n c t B m d k → Za W W' → PP W' s A n c t B m d k)
  (HD : ∀ (r0 r1 : QC) (W : World), r0.At W 1 → r1.At W vB → Ca 137 #[.agg #[.bool r0.s, .slice r0.A r0.n r0.c, .bool r0.t, .slice r0.B r0.m r0.d], .agg #[.bool r1.s, .slice r1.A r1.n r1.c, .bool r1.t, .slice r1.B r1.m r1.d]] W (Zca PP W))
  (s1 : ∀ k, k ≤ 1 → 4 * (qm X + qm (Z2o (Z60 [((1 : Int) : Rat)]) X 0 k) + qm (Z2o (Z60 [((1 : Int) : Rat)]) X 0 k * X) + qm (Z60 [((1 : Int) : Rat)] k)) + 100 < Z8)
  (s2 : ∀ k, k ≤ 2 → 4 * (qm X + qm (Z2o (Z60 [((-1 : Int) : Rat), ((1 : Int) : Rat)]) X 0 k) + qm (Z2o (Z60 [((-1 : Int) : Rat), ((1 : Int) : Rat)]) X 0 k * X) + qm (Z60 [((-1 : Int) : Rat), ((1 : Int) : Rat)] k)) + 100 < Z8)
  (e1 : Z2o (Z60 [((1 : Int) : Rat)]) X 0 1 = 1) (e2 : Z2o (Z60 [((-1 : Int) : Rat), ((1 : Int) : Rat)]) X 0 2 = vB)
  (gn gd cn cd gp cp : Nat) (a b0 b1 q : QC) (w : World) (h1 : CK w gn (zL6 a)) (h2 : CK w gd (zL1 b0 b1)) (hgp : CK w gp (Z2G q)) (ha : a.At w ((1 : Int) : Rat)) (hb0 : b0.At w ((-1 : Int) : Rat)) (hb1 : b1.At w ((1 : Int) : Rat)) (hq : q.At w X) :
  Ca 244 #[.agg (Z0M gn cn gd cd), .slice (some ⟨gp, 0, none⟩) 1 cp] w (Zca PP w) := by
 have hmk1 : ∀ W : World, (Instr.makeSlice 233 (.int .i64 1) (.int .i64 1)).run Tryz.prog W = .ok (.slice (some ⟨W.heap.size, 0, none⟩) 1 1) (W.alloc (.cells #[.bool false, .slice none 0 0, .bool false, .slice none 0 0] 234)) := fun W => Z95 1 [.bool false, .slice none 0 0, .bool false, .slice none 0 0] (by decide) (by kernel_rfl) W
 have hmk2 : ∀ W : World, (Instr.makeSlice 233 (.int .i64 2) (.int .i64 2)).run Tryz.prog W = .ok (.slice (some ⟨W.heap.size, 0, none⟩) 2 2) (W.alloc (.cells #[.bool false, .slice none 0 0, .bool false, .slice none 0 0, .bool false, .slice none 0 0, .bool false, .slice none 0 0] 234)) := fun W => Z95 2 [.bool false, .slice none 0 0, .bool false, .slice none 0 0, .bool false, .slice none 0 0, .bool false, .slice none 0 0] (by decide) (by kernel_rfl) W
 have ww0 : IntKind.i64.wrap (0 + 1) = 1 := by decide
 have ww1 : IntKind.i64.wrap (1 + 1) = 2 := by decide
 have ww2 : IntKind.i64.wrap (1 - 1) = 0 := by decide
 have ww4 : IntKind.i64.wrap 0 = 0 := by decide
 have ww5 : IntKind.i64.wrap 1 = 1 := by decide
 have ww6 : IntKind.i64.wrap 2 = 2 := by decide
 have Gn := h1.lt
 have Gd := h2.lt
 have Gp := hgp.lt
 have HDh := zH HD
 have HPP := zH hPP
 clear HD hPP
 have HA := zH ha
 have HB0 := zH hb0
 have HB1 := zH hb1
 have HQ := zH hq
 clear ha hb0 hb1 hq
 dsimp only [Z0M]
 go_enter func244, ntmps244
 go_wp2_with fail
 refine ZQ 74 [(1, .slice (some ⟨gp, 0, none⟩) 1 cp), (2, .pointer (some ⟨w.heap.size, 0, none⟩)), (4, .pointer (some ⟨w.heap.size + 1, 0, none⟩)), (6, .pointer (some ⟨w.heap.size + 1 + 1, 0, none⟩)), (23, .slice (some ⟨w.heap.size + 1 + 1 + 1, 0, none⟩) 2 2), (24, .int .i64 2), (25, .int .i64 0)] (fun W => Ext w W ∧ BK W (w.heap.size) (Z0M gn cn gd cd) ∧ BK W (w.heap.size + 1) zA9 ∧ BK W (w.heap.size + 1 + 1) zA5 ∧ BK W (w.heap.size + 1 + 1 + 1) #[.slice (some ⟨gn, 0, none⟩) 1 cn, .slice (some ⟨gd, 0, none⟩) 2 cd]) ⟨EX, BY, BY, BY, BY⟩ ?_
 rintro Va U ⟨hW, Rt, Rr, Re, Rw⟩
 dsimp only [fr, frl, Nat.reduceBEq, Nat.reduceAdd, cond_true, cond_false]
 have Lt := Rt.lt
 have Lr := Rr.lt
 have Le := Re.lt
 have Lw := Rw.lt
 have FF := And.intro Rt.ca (And.intro Rr.ca (And.intro Re.ca Rw.ca)); dsimp only [CA, CC, Nat.reduceAdd] at FF
 have Lw := hW.size
 have Cn : CK Va gn (zL6 a) := CX
 have Cd : CK Va gd (zL1 b0 b1) := CX
 have Cp : CK Va gp (Z2G q) := CX
 have Ln := Cn.lt
 have Ld := Cd.lt
 have Lp := Cp.lt
 have FF := And.intro Cn.ca (And.intro Cd.ca Cp.ca); dsimp only [CA, CC, Nat.reduceAdd] at FF
 refine wp_loop_rounds 3 ?_
 rw [rounds_succ]
 go_wp2_with fail
 refine ZQ 74 [(1, .slice (some ⟨gp, 0, none⟩) 1 cp), (2, .pointer (some ⟨w.heap.size, 0, none⟩)), (4, .pointer (some ⟨w.heap.size + 1, 0, none⟩)), (6, .pointer (some ⟨w.heap.size + 1 + 1, 0, none⟩)), (7, .int .i64 0), (8, .slice (some ⟨gn, 0, none⟩) 1 cn), (9, .slice (some ⟨Va.heap.size, 0, none⟩) 1 1), (23, .slice (some ⟨w.heap.size + 1 + 1 + 1, 0, none⟩) 2 2), (24, .int .i64 2), (25, .int .i64 0), (33, .slice (some ⟨gn, 0, none⟩) 1 cn), (34, .int .i64 1), (35, .int .i64 0)] (fun W => Ext w W ∧ BK W (w.heap.size) (Z0M gn cn gd cd) ∧ BK W (w.heap.size + 1) zA9 ∧ BK W (w.heap.size + 1 + 1) zA5 ∧ BK W (w.heap.size + 1 + 1 + 1) #[.slice (some ⟨gn, 0, none⟩) 1 cn, .slice (some ⟨gd, 0, none⟩) 2 cd] ∧ BK W (Va.heap.size) zA9) ⟨EX, BY, BY, BY, BY, BY⟩ ?_
 (try clear FF)
 rintro I00 U ⟨hW, Rt, Rr, Re, Rw, Rp⟩
 dsimp only [fr, frl, Nat.reduceBEq, Nat.reduceAdd, cond_true, cond_false]
 have Lt := Rt.lt
 have Lr := Rr.lt
 have Le := Re.lt
 have Lw := Rw.lt
 have Lp := Rp.lt
 have FF := And.intro Rt.ca (And.intro Rr.ca (And.intro Re.ca (And.intro Rw.ca Rp.ca))); dsimp only [CA, CC, Nat.reduceAdd] at FF
 have Lw := hW.size
 have Cn : CK I00 gn (zL6 a) := CX
 have Cd : CK I00 gd (zL1 b0 b1) := CX
 have Cp : CK I00 gp (Z2G q) := CX
 have Ln := Cn.lt
 have Ld := Cd.lt
 have Lp := Cp.lt
 have FF := And.intro Cn.ca (And.intro Cd.ca Cp.ca); dsimp only [CA, CC, Nat.reduceAdd] at FF
 refine wp_loop_rounds 2 ?_
 rw [rounds_succ]
 have hflag : Z73 1 := trivial
 go_wp2_with (
   first
   | ((with_reducible refine (id ?_ : wpList _ _ _ [⟨none, _, _, _, _, _⟩] _ _)); (have hfl : Z73 1 := (by with_reducible assumption)); clear hfl hflag; (obtain ⟨W, hWe⟩ : ∃ W, I00.alloc (.cells #[.int .i64 0, .bool false, .slice none 0 0, .bool false, .slice none 0 0, .slice none 0 0, .slice none 0 0] 70) = W := ⟨_, rfl⟩); (have RW : BK W I00.heap.size Z1T := (by rw [← hWe]; exact BY)); (have EW : Ext I00 W := (by rw [← hWe]; exact EX)); rw [hWe]; clear hWe; have LW := RW.lt; have hzW := EW.size; have FW := RW.c7)
   | (go_at_call 244; (with_reducible refine (Z6V a (some ⟨gp, 0, none⟩) 1 cp _).mono ?_); rintro e w00 ⟨rfl, hbw00⟩; have := hbw00.sz; have QP : BK w00 (Va.heap.size) zA9 := BY; have LP := QP.lt; have FP := QP.ca; dsimp only [CA, Nat.reduceAdd] at FP; have FPf := QP.frozen))
 clear FPf FP FW
 rw [rounds_succ]
 refine ZQ 74 [(1, .slice (some ⟨gp, 0, none⟩) 1 cp), (2, .pointer (some ⟨w.heap.size, 0, none⟩)), (4, .pointer (some ⟨w.heap.size + 1, 0, none⟩)), (6, .pointer (some ⟨w.heap.size + 1 + 1, 0, none⟩)), (7, .int .i64 0), (8, .slice (some ⟨gn, 0, none⟩) 1 cn), (9, .slice (some ⟨Va.heap.size, 0, none⟩) 1 1), (23, .slice (some ⟨w.heap.size + 1 + 1 + 1, 0, none⟩) 2 2), (24, .int .i64 2), (25, .int .i64 0), (33, .slice (some ⟨gn, 0, none⟩) 1 cn), (34, .int .i64 1), (35, .int .i64 1)] (fun W => Ext w W ∧ BK W (w.heap.size) (Z0M gn cn gd cd) ∧ BK W (w.heap.size + 1) zA9 ∧ BK W (w.heap.size + 1 + 1) zA5 ∧ BK W (w.heap.size + 1 + 1 + 1) #[.slice (some ⟨gn, 0, none⟩) 1 cn, .slice (some ⟨gd, 0, none⟩) 2 cd] ∧ BK W (Va.heap.size) (zA3 a)) ⟨EX, BY, BY, BY, BY, BY⟩ ?_
 (try clear FF)
 rintro E0 U ⟨hW, Rt, Rr, Re, Rw, Rp⟩
 dsimp only [fr, frl, Nat.reduceBEq, Nat.reduceAdd, cond_true, cond_false]
 have Lt := Rt.lt
 have Lr := Rr.lt
 have Le := Re.lt
 have Lw := Rw.lt
 have Lp := Rp.lt
 have FF := And.intro Rt.ca (And.intro Rr.ca (And.intro Re.ca (And.intro Rw.ca Rp.ca))); dsimp only [CA, CC, Nat.reduceAdd] at FF
 have Lw := hW.size
 have Cn : CK E0 gn (zL6 a) := CX
 have Cd : CK E0 gd (zL1 b0 b1) := CX
 have Cp : CK E0 gp (Z2G q) := CX
 have Ln := Cn.lt
 have Ld := Cd.lt
 have Lp := Cp.lt
 have FF := And.intro Cn.ca (And.intro Cd.ca Cp.ca); dsimp only [CA, CC, Nat.reduceAdd] at FF
 go_wp2_with fail
 refine Zu 11 (fun a' w' => ∃ (r0 : QC) (U : Nat → Value), a' = fr 74 U [(1, .slice (some ⟨gp, 0, none⟩) 1 cp), (2, .pointer (some ⟨w.heap.size, 0, none⟩)), (4, .pointer (some ⟨w.heap.size + 1, 0, none⟩)), (6, .pointer (some ⟨w.heap.size + 1 + 1, 0, none⟩)), (7, .int .i64 0), (8, .slice (some ⟨gn, 0, none⟩) 1 cn), (9, .slice (some ⟨Va.heap.size, 0, none⟩) 1 1), (23, .slice (some ⟨w.heap.size + 1 + 1 + 1, 0, none⟩) 2 2), (24, .int .i64 2), (25, .int .i64 0)] ∧ Ext w w' ∧ BK w' (w.heap.size) (Z0M gn cn gd cd) ∧ BK w' (w.heap.size + 1) zA9 ∧ BK w' (w.heap.size + 1 + 1) (Z8X r0) ∧ BK w' (w.heap.size + 1 + 1 + 1) #[.slice (some ⟨gn, 0, none⟩) 1 cn, .slice (some ⟨gd, 0, none⟩) 2 cd] ∧ r0.At w' 1) (fun w' => CB w' w.heap.size 0 [.int .i64 1] ∧ CB w' gp 0 (Z2G q)) Z0a ?rest0 (by dsimp only [CB, Nat.reduceAdd]; exact KQ) ?expl0
 case expl0 =>
  dsimp only [CB, Nat.reduceAdd]
  intro hHeld
  refine TU 0 ?_; refine TU 1 ?_; refine TU 2 ?_; refine TU 3 ?_; refine TU 4 ?_; refine TU 5 ?_; refine TU 6 ?_; refine TU 7 ?_
  refine R1U 8 fun K hK => ?_
  go_simp
  refine (Z61 0 _ (by decide) (by decide)).mono ?_; refine rQz ?_; intro y1 sy1 Ay1 ny1 cy1 ty1 By1 my1 dy1 Hy1 hby1 hzy1; have Ly : Va.heap.size < y1.heap.size := (by omega)
  refine KU hK fun _ => ?_; clear hK K
  refine R1U 9 fun K hK => ?_
  go_simp
  (have hv_a : a.At y1 ((1 : Int) : Rat) := QX; go_at_call 268; (with_reducible refine (Z62 (Va.heap.size) 1 1 q ⟨sy1, Ay1, ny1, cy1, ty1, By1, my1, dy1⟩ X (Z60 [((1 : Int) : Rat)]) _ QX (by exact Zb5 QX) (fun W gq hq' e hl => Z5s gq (Va.heap.size) 1 a ((1 : Int) : Rat) _ W hq' (CK.ext (BK.ck (by exact BY : BK y1 (Va.heap.size) (zA3 a))) e) (by show ¬ (gq = _); omega) (by show ¬ ((Va.heap.size) = _); omega) (QAt.ext hv_a e)) s1).mono ?_); rw [e1]; rintro e y2 ⟨sy2, Ay2, ny2, cy2, ty2, By2, my2, dy2, rfl, hQ, hby2⟩; have Hy2 := zH hQ; clear hQ; have := hby2.sz; have QE : BK y2 (w.heap.size + 1 + 1) zA5 := BY; have TE := QE.ca; dsimp only [CA, Nat.reduceAdd] at TE; have TFe := QE.frozen; have LE := QE.lt)
  refine KU hK fun _ => ?_; clear hK K
  refine TU 10 ?_
  refine RDU [11] ?_
  refine ARL (fun K hK => ?_)
  go_simp
  refine KUL hK ?_; clear hK K
  refine Z0d.done (by kernel_rfl) ?_ _
  refine ⟨⟨sy2, Ay2, ny2, cy2, ty2, By2, my2, dy2⟩, _, Zr _ _, EX, BY, BY, BY, BY, QX⟩
 case rest0 =>
 rintro a' D0 ⟨r0, U, rfl, hW, Rt, Rr, Re, Rw, ha0⟩
 dsimp only [fr, frl, Nat.reduceBEq, Nat.reduceAdd, cond_true, cond_false]
 (try clear FF)
 have Ha0 := zH ha0
 clear ha0
 have Lt := Rt.lt
 have Lr := Rr.lt
 have Le := Re.lt
 have Lw := Rw.lt
 have FF := And.intro Rt.ca (And.intro Rr.ca (And.intro Re.ca Rw.ca)); dsimp only [CA, CC, Nat.reduceAdd] at FF
 have Lw := hW.size
 have Cn : CK D0 gn (zL6 a) := CX
 have Cd : CK D0 gd (zL1 b0 b1) := CX
 have Cp : CK D0 gp (Z2G q) := CX
 have Ln := Cn.lt
 have Ld := Cd.lt
 have Lp := Cp.lt
 have FF := And.intro Cn.ca (And.intro Cd.ca Cp.ca); dsimp only [CA, CC, Nat.reduceAdd] at FF
 go_wp2_with fail
 rw [rounds_succ]
 refine ZQ 74 [(1, .slice (some ⟨gp, 0, none⟩) 1 cp), (2, .pointer (some ⟨w.heap.size, 0, none⟩)), (4, .pointer (some ⟨w.heap.size + 1, 0, none⟩)), (6, .pointer (some ⟨w.heap.size + 1 + 1, 0, none⟩)), (23, .slice (some ⟨w.heap.size + 1 + 1 + 1, 0, none⟩) 2 2), (24, .int .i64 2), (25, .int .i64 1)] (fun W => Ext w W ∧ BK W (w.heap.size) (Z0M gn cn gd cd) ∧ BK W (w.heap.size + 1) zA9 ∧ BK W (w.heap.size + 1 + 1) (Z8X r0) ∧ BK W (w.heap.size + 1 + 1 + 1) #[.slice (some ⟨gn, 0, none⟩) 1 cn, .slice (some ⟨gd, 0, none⟩) 2 cd] ∧ r0.At W 1) ⟨EX, BY, BY, BY, BY, QX⟩ ?_
 (try clear FF)
 rintro Vb U ⟨hW, Rt, Rr, Re, Rw, ha0⟩
 dsimp only [fr, frl, Nat.reduceBEq, Nat.reduceAdd, cond_true, cond_false]
 clear Ha0
 have Ha0 := zH ha0
 clear ha0
 have Lt := Rt.lt
 have Lr := Rr.lt
 have Le := Re.lt
 have Lw := Rw.lt
 have FF := And.intro Rt.ca (And.intro Rr.ca (And.intro Re.ca Rw.ca)); dsimp only [CA, CC, Nat.reduceAdd] at FF
 have Lw := hW.size
 have Cn : CK Vb gn (zL6 a) := CX
 have Cd : CK Vb gd (zL1 b0 b1) := CX
 have Cp : CK Vb gp (Z2G q) := CX
 have Ln := Cn.lt
 have Ld := Cd.lt
 have Lp := Cp.lt
 have FF := And.intro Cn.ca (And.intro Cd.ca Cp.ca); dsimp only [CA, CC, Nat.reduceAdd] at FF
 go_wp2_with fail
 refine ZQ 74 [(1, .slice (some ⟨gp, 0, none⟩) 1 cp), (2, .pointer (some ⟨w.heap.size, 0, none⟩)), (4, .pointer (some ⟨w.heap.size + 1, 0, none⟩)), (6, .pointer (some ⟨w.heap.size + 1 + 1, 0, none⟩)), (7, .int .i64 1), (8, .slice (some ⟨gd, 0, none⟩) 2 cd), (9, .slice (some ⟨Vb.heap.size, 0, none⟩) 2 2), (23, .slice (some ⟨w.heap.size + 1 + 1 + 1, 0, none⟩) 2 2), (24, .int .i64 2), (25, .int .i64 1), (33, .slice (some ⟨gd, 0, none⟩) 2 cd), (34, .int .i64 2), (35, .int .i64 0)] (fun W => Ext w W ∧ BK W (w.heap.size) (Z0M gn cn gd cd) ∧ BK W (w.heap.size + 1) zA9 ∧ BK W (w.heap.size + 1 + 1) (Z8X r0) ∧ BK W (w.heap.size + 1 + 1 + 1) #[.slice (some ⟨gn, 0, none⟩) 1 cn, .slice (some ⟨gd, 0, none⟩) 2 cd] ∧ BK W (Vb.heap.size) zA5 ∧ r0.At W 1) ⟨EX, BY, BY, BY, BY, BY, QX⟩ ?_
 (try clear FF)
 rintro I10 U ⟨hW, Rt, Rr, Re, Rw, Rp, ha0⟩
 dsimp only [fr, frl, Nat.reduceBEq, Nat.reduceAdd, cond_true, cond_false]
 clear Ha0
 have Ha0 := zH ha0
 clear ha0
 have Lt := Rt.lt
 have Lr := Rr.lt
 have Le := Re.lt
 have Lw := Rw.lt
 have Lp := Rp.lt
 have FF := And.intro Rt.ca (And.intro Rr.ca (And.intro Re.ca (And.intro Rw.ca Rp.ca))); dsimp only [CA, CC, Nat.reduceAdd] at FF
 have Lw := hW.size
 have Cn : CK I10 gn (zL6 a) := CX
 have Cd : CK I10 gd (zL1 b0 b1) := CX
 have Cp : CK I10 gp (Z2G q) := CX
 have Ln := Cn.lt
 have Ld := Cd.lt
 have Lp := Cp.lt
 have FF := And.intro Cn.ca (And.intro Cd.ca Cp.ca); dsimp only [CA, CC, Nat.reduceAdd] at FF
 refine wp_loop_rounds 3 ?_
 rw [rounds_succ]
 have hflag : Z73 1 := trivial
 go_wp2_with (
   first
   | ((with_reducible refine (id ?_ : wpList _ _ _ [⟨none, _, _, _, _, _⟩] _ _)); (have hfl : Z73 1 := (by with_reducible assumption)); clear hfl hflag; (obtain ⟨W, hWe⟩ : ∃ W, I10.alloc (.cells #[.int .i64 0, .bool false, .slice none 0 0, .bool false, .slice none 0 0, .slice none 0 0, .slice none 0 0] 70) = W := ⟨_, rfl⟩); (have RW : BK W I10.heap.size Z1T := (by rw [← hWe]; exact BY)); (have EW : Ext I10 W := (by rw [← hWe]; exact EX)); rw [hWe]; clear hWe; have LW := RW.lt; have hzW := EW.size; have FW := RW.c7)
   | (go_at_call 244; (with_reducible refine (Z6V b0 (some ⟨gp, 0, none⟩) 1 cp _).mono ?_); rintro e w10 ⟨rfl, hbw10⟩; have := hbw10.sz; have QP : BK w10 (Vb.heap.size) zA5 := BY; have LP := QP.lt; have FP := QP.ca; dsimp only [CA, Nat.reduceAdd] at FP; have FPf := QP.frozen))
 clear FPf FP FW
 rw [rounds_succ]
 refine ZQ 74 [(1, .slice (some ⟨gp, 0, none⟩) 1 cp), (2, .pointer (some ⟨w.heap.size, 0, none⟩)), (4, .pointer (some ⟨w.heap.size + 1, 0, none⟩)), (6, .pointer (some ⟨w.heap.size + 1 + 1, 0, none⟩)), (7, .int .i64 1), (8, .slice (some ⟨gd, 0, none⟩) 2 cd), (9, .slice (some ⟨Vb.heap.size, 0, none⟩) 2 2), (23, .slice (some ⟨w.heap.size + 1 + 1 + 1, 0, none⟩) 2 2), (24, .int .i64 2), (25, .int .i64 1), (33, .slice (some ⟨gd, 0, none⟩) 2 cd), (34, .int .i64 2), (35, .int .i64 1)] (fun W => Ext w W ∧ BK W (w.heap.size) (Z0M gn cn gd cd) ∧ BK W (w.heap.size + 1) zA9 ∧ BK W (w.heap.size + 1 + 1) (Z8X r0) ∧ BK W (w.heap.size + 1 + 1 + 1) #[.slice (some ⟨gn, 0, none⟩) 1 cn, .slice (some ⟨gd, 0, none⟩) 2 cd] ∧ BK W (Vb.heap.size) (Z8X b0) ∧ r0.At W 1) ⟨EX, BY, BY, BY, BY, BY, QX⟩ ?_
 (try clear FF)
 rintro I11 U ⟨hW, Rt, Rr, Re, Rw, Rp, ha0⟩
 dsimp only [fr, frl, Nat.reduceBEq, Nat.reduceAdd, cond_true, cond_false]
 clear Ha0
 have Ha0 := zH ha0
 clear ha0
 have Lt := Rt.lt
 have Lr := Rr.lt
 have Le := Re.lt
 have Lw := Rw.lt
 have Lp := Rp.lt
 have FF := And.intro Rt.ca (And.intro Rr.ca (And.intro Re.ca (And.intro Rw.ca Rp.ca))); dsimp only [CA, CC, Nat.reduceAdd] at FF
 have Lw := hW.size
 have Cn : CK I11 gn (zL6 a) := CX
 have Cd : CK I11 gd (zL1 b0 b1) := CX
 have Cp : CK I11 gp (Z2G q) := CX
 have Ln := Cn.lt
 have Ld := Cd.lt
 have Lp := Cp.lt
 have FF := And.intro Cn.ca (And.intro Cd.ca Cp.ca); dsimp only [CA, CC, Nat.reduceAdd] at FF
 have hflag : Z73 1 := trivial
 go_wp2_with (
   first
   | ((with_reducible refine (id ?_ : wpList _ _ _ [⟨none, _, _, _, _, _⟩] _ _)); (have hfl : Z73 1 := (by with_reducible assumption)); clear hfl hflag; (obtain ⟨W, hWe⟩ : ∃ W, I11.alloc (.cells #[.int .i64 0, .bool false, .slice none 0 0, .bool false, .slice none 0 0, .slice none 0 0, .slice none 0 0] 70) = W := ⟨_, rfl⟩); (have RW : BK W I11.heap.size Z1T := (by rw [← hWe]; exact BY)); (have EW : Ext I11 W := (by rw [← hWe]; exact EX)); rw [hWe]; clear hWe; have LW := RW.lt; have hzW := EW.size; have FW := RW.c7)
   | (go_at_call 244; (with_reducible refine (Z6V b1 (some ⟨gp, 0, none⟩) 1 cp _).mono ?_); rintro e w11 ⟨rfl, hbw11⟩; have := hbw11.sz; have QP : BK w11 (Vb.heap.size) (Z8X b0) := BY; have LP := QP.lt; have FP := QP.ca; dsimp only [CA, Nat.reduceAdd] at FP; have FPf := QP.frozen))
 clear FPf FP FW
 rw [rounds_succ]
 refine ZQ 74 [(1, .slice (some ⟨gp, 0, none⟩) 1 cp), (2, .pointer (some ⟨w.heap.size, 0, none⟩)), (4, .pointer (some ⟨w.heap.size + 1, 0, none⟩)), (6, .pointer (some ⟨w.heap.size + 1 + 1, 0, none⟩)), (7, .int .i64 1), (8, .slice (some ⟨gd, 0, none⟩) 2 cd), (9, .slice (some ⟨Vb.heap.size, 0, none⟩) 2 2), (23, .slice (some ⟨w.heap.size + 1 + 1 + 1, 0, none⟩) 2 2), (24, .int .i64 2), (25, .int .i64 1), (33, .slice (some ⟨gd, 0, none⟩) 2 cd), (34, .int .i64 2), (35, .int .i64 2)] (fun W => Ext w W ∧ BK W (w.heap.size) (Z0M gn cn gd cd) ∧ BK W (w.heap.size + 1) zA9 ∧ BK W (w.heap.size + 1 + 1) (Z8X r0) ∧ BK W (w.heap.size + 1 + 1 + 1) #[.slice (some ⟨gn, 0, none⟩) 1 cn, .slice (some ⟨gd, 0, none⟩) 2 cd] ∧ BK W (Vb.heap.size) (zA0 b0 b1) ∧ r0.At W 1) ⟨EX, BY, BY, BY, BY, BY, QX⟩ ?_
 (try clear FF)
 rintro E1 U ⟨hW, Rt, Rr, Re, Rw, Rp, ha0⟩
 dsimp only [fr, frl, Nat.reduceBEq, Nat.reduceAdd, cond_true, cond_false]
 clear Ha0
 have Ha0 := zH ha0
 clear ha0
 have Lt := Rt.lt
 have Lr := Rr.lt
 have Le := Re.lt
 have Lw := Rw.lt
 have Lp := Rp.lt
 have FF := And.intro Rt.ca (And.intro Rr.ca (And.intro Re.ca (And.intro Rw.ca Rp.ca))); dsimp only [CA, CC, Nat.reduceAdd] at FF
 have Lw := hW.size
 have Cn : CK E1 gn (zL6 a) := CX
 have Cd : CK E1 gd (zL1 b0 b1) := CX
 have Cp : CK E1 gp (Z2G q) := CX
 have Ln := Cn.lt
 have Ld := Cd.lt
 have Lp := Cp.lt
 have FF := And.intro Cn.ca (And.intro Cd.ca Cp.ca); dsimp only [CA, CC, Nat.reduceAdd] at FF
 go_wp2_with fail
 refine Zu 11 (fun a' w' => ∃ (r1 : QC) (U : Nat → Value), a' = fr 74 U [(1, .slice (some ⟨gp, 0, none⟩) 1 cp), (2, .pointer (some ⟨w.heap.size, 0, none⟩)), (4, .pointer (some ⟨w.heap.size + 1, 0, none⟩)), (6, .pointer (some ⟨w.heap.size + 1 + 1, 0, none⟩)), (7, .int .i64 1), (8, .slice (some ⟨gd, 0, none⟩) 2 cd), (9, .slice (some ⟨Vb.heap.size, 0, none⟩) 2 2), (23, .slice (some ⟨w.heap.size + 1 + 1 + 1, 0, none⟩) 2 2), (24, .int .i64 2), (25, .int .i64 1)] ∧ Ext w w' ∧ BK w' (w.heap.size) (Z0M gn cn gd cd) ∧ BK w' (w.heap.size + 1) zA9 ∧ BK w' (w.heap.size + 1 + 1) (zA0 r0 r1) ∧ BK w' (w.heap.size + 1 + 1 + 1) #[.slice (some ⟨gn, 0, none⟩) 1 cn, .slice (some ⟨gd, 0, none⟩) 2 cd] ∧ r0.At w' 1 ∧ r1.At w' vB) (fun w' => CB w' w.heap.size 0 [.int .i64 1] ∧ CB w' gp 0 (Z2G q)) Z0a ?rest1 (by dsimp only [CB, Nat.reduceAdd]; exact KQ) ?expl1
 case expl1 =>
  dsimp only [CB, Nat.reduceAdd]
  intro hHeld
  refine TU 0 ?_; refine TU 1 ?_; refine TU 2 ?_; refine TU 3 ?_; refine TU 4 ?_; refine TU 5 ?_; refine TU 6 ?_; refine TU 7 ?_
  refine R1U 8 fun K hK => ?_
  go_simp
  refine (Z61 0 _ (by decide) (by decide)).mono ?_; refine rQz ?_; intro y1 sy1 Ay1 ny1 cy1 ty1 By1 my1 dy1 Hy1 hby1 hzy1; have Ly : Vb.heap.size < y1.heap.size := (by omega)
  refine KU hK fun _ => ?_; clear hK K
  refine R1U 9 fun K hK => ?_
  go_simp
  (have hv_b0 : b0.At y1 ((-1 : Int) : Rat) := QX; have hv_b1 : b1.At y1 ((1 : Int) : Rat) := QX; go_at_call 268; (with_reducible refine (Z62 (Vb.heap.size) 2 2 q ⟨sy1, Ay1, ny1, cy1, ty1, By1, my1, dy1⟩ X (Z60 [((-1 : Int) : Rat), ((1 : Int) : Rat)]) _ QX (by exact Zb5 QX) (fun W gq hq' e hl => Z5r gq (Vb.heap.size) 2 b0 b1 ((-1 : Int) : Rat) ((1 : Int) : Rat) _ W hq' (CK.ext (BK.ck (by exact BY : BK y1 (Vb.heap.size) (zA0 b0 b1))) e) (by show ¬ (gq = _); omega) (by show ¬ ((Vb.heap.size) = _); omega) (QAt.ext hv_b0 e) (QAt.ext hv_b1 e)) s2).mono ?_); rw [e2]; rintro e y2 ⟨sy2, Ay2, ny2, cy2, ty2, By2, my2, dy2, rfl, hQ, hby2⟩; have Hy2 := zH hQ; clear hQ; have := hby2.sz; have QE : BK y2 (w.heap.size + 1 + 1) (Z8X r0) := BY; have TE := QE.ca; dsimp only [CA, Nat.reduceAdd] at TE; have TFe := QE.frozen; have LE := QE.lt)
  refine KU hK fun _ => ?_; clear hK K
  refine TU 10 ?_
  refine RDU [11] ?_
  refine ARL (fun K hK => ?_)
  go_simp
  refine KUL hK ?_; clear hK K
  refine Z0d.done (by kernel_rfl) ?_ _
  refine ⟨⟨sy2, Ay2, ny2, cy2, ty2, By2, my2, dy2⟩, _, Zr _ _, EX, BY, BY, BY, BY, QX, QX⟩
 case rest1 =>
 rintro a' D1 ⟨r1, U, rfl, hW, Rt, Rr, Re, Rw, ha0, ha1⟩
 dsimp only [fr, frl, Nat.reduceBEq, Nat.reduceAdd, cond_true, cond_false]
 (try clear FF)
 clear Ha0
 have Ha0 := zH ha0
 clear ha0
 have Ha1 := zH ha1
 clear ha1
 have Lt := Rt.lt
 have Lr := Rr.lt
 have Le := Re.lt
 have Lw := Rw.lt
 have FF := And.intro Rt.ca (And.intro Rr.ca (And.intro Re.ca Rw.ca)); dsimp only [CA, CC, Nat.reduceAdd] at FF
 have Lw := hW.size
 have Cn : CK D1 gn (zL6 a) := CX
 have Cd : CK D1 gd (zL1 b0 b1) := CX
 have Cp : CK D1 gp (Z2G q) := CX
 have Ln := Cn.lt
 have Ld := Cd.lt
 have Lp := Cp.lt
 have FF := And.intro Cn.ca (And.intro Cd.ca Cp.ca); dsimp only [CA, CC, Nat.reduceAdd] at FF
 go_wp2_with fail
 rw [rounds_succ]
 refine ZQ 74 [(1, .slice (some ⟨gp, 0, none⟩) 1 cp), (2, .pointer (some ⟨w.heap.size, 0, none⟩)), (4, .pointer (some ⟨w.heap.size + 1, 0, none⟩)), (6, .pointer (some ⟨w.heap.size + 1 + 1, 0, none⟩)), (23, .slice (some ⟨w.heap.size + 1 + 1 + 1, 0, none⟩) 2 2), (24, .int .i64 2), (25, .int .i64 2)] (fun W => Ext w W ∧ BK W (w.heap.size) (Z0M gn cn gd cd) ∧ BK W (w.heap.size + 1) zA9 ∧ BK W (w.heap.size + 1 + 1) (zA0 r0 r1) ∧ BK W (w.heap.size + 1 + 1 + 1) #[.slice (some ⟨gn, 0, none⟩) 1 cn, .slice (some ⟨gd, 0, none⟩) 2 cd] ∧ r0.At W 1 ∧ r1.At W vB) ⟨EX, BY, BY, BY, BY, QX, QX⟩ ?_
 (try clear FF)
 rintro Z U ⟨hW, Rt, Rr, Re, Rw, ha0, ha1⟩
 dsimp only [fr, frl, Nat.reduceBEq, Nat.reduceAdd, cond_true, cond_false]
 clear Ha0
 have Ha0 := zH ha0
 clear ha0
 clear Ha1
 have Ha1 := zH ha1
 clear ha1
 have Lt := Rt.lt
 have Lr := Rr.lt
 have Le := Re.lt
 have Lw := Rw.lt
 have FF := And.intro Rt.ca (And.intro Rr.ca (And.intro Re.ca Rw.ca)); dsimp only [CA, CC, Nat.reduceAdd] at FF
 have Lw := hW.size
 have Cn : CK Z gn (zL6 a) := CX
 have Cd : CK Z gd (zL1 b0 b1) := CX
 have Cp : CK Z gp (Z2G q) := CX
 have Ln := Cn.lt
 have Ld := Cd.lt
 have Lp := Cp.lt
 have FF := And.intro Cn.ca (And.intro Cd.ca Cp.ca); dsimp only [CA, CC, Nat.reduceAdd] at FF
 go_wp2_with (first | (go_at_call 137; (with_reducible refine (HDh.out r0 r1 _ Ha0.out Ha1.out).mono ?_); rintro e z1 ⟨s1', A1', n1', c1', t1', B1', m1', d1', k1', rfl, hQ, hbz1⟩; clear Ha0 Ha1 HQ HA HB0 HB1 e1 e2 s1 s2; have Hz1 := zH hQ; clear hQ; have := hbz1.sz; have QR : BK z1 (w.heap.size + 1) zA9 := BY; have LR := QR.lt; have Fz := QR.c4) | ((with_reducible refine BK.fin3 (g := w.heap.size + 1) (c := #[.bool s1', .slice A1' n1' c1', .bool t1', .slice B1' m1' d1']) (w0 := w) (T := fun W => PP W s1' A1' n1' c1' t1' B1' m1' d1' k1') ?_ ?_ ?_ ?_); exact BY; exact EX; exact HPP.out _ _ _ _ _ _ _ _ _ _ _ Hz1.out KS; intro W U E hT; have Fu := U.c4; refine bodyPost_ret (v := .tuple #[.agg (Z01 s1' A1' n1' c1' t1' B1' m1' d1'), .int .i64 k1']) (by simp [Z01, results, results244, go_sem, Fu]) rfl ⟨_, _, _, _, _, _, _, _, _, rfl, hT, E⟩))
theorem Zbx (gn gd cn cd gp cp : Nat) (a b0 b1 q : QC) (w : World) (h1 : CK w gn (zL6 a)) (h2 : CK w gd (zL1 b0 b1)) (hgp : CK w gp (Z2G q)) (ha : a.At w ((1 : Int) : Rat)) (hb0 : b0.At w ((-1 : Int) : Rat)) (hb1 : b1.At w ((1 : Int) : Rat)) (hq : q.At w 3) :
  Ca 244 #[.agg (Z0M gn cn gd cd), .slice (some ⟨gp, 0, none⟩) 1 cp] w (Z29 w (1 / 2)) := by
 have := Z9e 3 2 (fun W s A n c t B m d k => QAt W s A n c t B m d (1 / 2) ∧ k = 0) (fun _ _ _ _ _ _ _ _ _ _ _ h e => ⟨h.1.keep e, h.2⟩)
  (fun r0 r1 W h0 h1 => (Z0T (x := 1) (y := 2) (h1 := h0) (h2 := h1) (hs := by decide +kernel) (hy := by decide +kernel)).mono (fun e w' h => by
   obtain ⟨s, A, n, c, t, B, m, d, rfl, hQ, hb⟩ := h
   exact ⟨s, A, n, c, t, B, m, d, 0, rfl, ⟨hQ, rfl⟩, hb⟩))
  (by decide +kernel) (by decide +kernel) (by decide +kernel) (by decide +kernel) gn gd cn cd gp cp a b0 b1 q w h1 h2 hgp ha hb0 hb1 hq
 exact this.mono (fun e w' h => by
  obtain ⟨s, A, n, c, t, B, m, d, k, rfl, ⟨hQ, rfl⟩, hb⟩ := h
  exact ⟨s, A, n, c, t, B, m, d, rfl, hQ, hb⟩)
theorem Zby (gn gd cn cd gp cp : Nat) (a b0 b1 q : QC) (w : World) (h1 : CK w gn (zL6 a)) (h2 : CK w gd (zL1 b0 b1)) (hgp : CK w gp (Z2G q)) (ha : a.At w ((1 : Int) : Rat)) (hb0 : b0.At w ((-1 : Int) : Rat)) (hb1 : b1.At w ((1 : Int) : Rat)) (hq : q.At w 1) :
  Ca 244 #[.agg (Z0M gn cn gd cd), .slice (some ⟨gp, 0, none⟩) 1 cp] w (Z3C w (.tuple #[.agg zA9, .int .i64 5])) := by
 have := Z9e 1 0 (fun _ s A n c t B m d k => s = false ∧ A = none ∧ n = 0 ∧ c = 0 ∧ t = false ∧ B = none ∧ m = 0 ∧ d = 0 ∧ k = 5) (fun _ _ _ _ _ _ _ _ _ _ _ h _ => h)
  (fun r0 r1 W h0 h1 => (Z8m r0 r1 _ h1).mono (fun e w' h => by
   obtain ⟨rfl, hb⟩ := h
   exact ⟨false, none, 0, 0, false, none, 0, 0, 5, rfl, ⟨rfl, rfl, rfl, rfl, rfl, rfl, rfl, rfl, rfl⟩, hb⟩))
  (by decide +kernel) (by decide +kernel) (by decide +kernel) (by decide +kernel) gn gd cn cd gp cp a b0 b1 q w h1 h2 hgp ha hb0 hb1 hq
 exact this.mono (fun e w' h => by
  obtain ⟨s, A, n, c, t, B, m, d, k, rfl, ⟨rfl, rfl, rfl, rfl, rfl, rfl, rfl, rfl, rfl⟩, hb⟩ := h
  exact ⟨rfl, hb⟩)
theorem Z6W (gn gd cn cd gp cp : Nat) (a b0 b1 q : QC) (w : World) (h1 : CK w gn (zL6 a)) (h2 : CK w gd (zL1 b0 b1)) (hgp : CK w gp (Z2G q)) (ha : a.At w ((1 : Int) : Rat)) (hb0 : b0.At w ((-1 : Int) : Rat)) (hb1 : b1.At w ((1 : Int) : Rat)) (hq : q.At w 3) :
  Ca 199 #[.agg (Z0M gn cn gd cd), .slice (some ⟨gp, 0, none⟩) 1 cp] w (Z29 w (1 / 2)) := by
 have Gn := h1.lt
 have Gd := h2.lt
 have Gp := hgp.lt
 have HA := zH ha
 have HB0 := zH hb0
 have HB1 := zH hb1
 have HQ := zH hq
 clear ha hb0 hb1 hq
 dsimp only [Z0M]
 go_enter func199, ntmps199
 go_wp2_with (first | (go_at_call 244; (with_reducible refine (Zbx gn gd cn cd gp cp a b0 b1 q _ CX CX CX QX QX QX QX).mono ?_); rintro e w1 ⟨sw1, Aw1, nw1, cw1, tw1, Bw1, mw1, dw1, rfl, hQ, hbw1⟩; have Hw1 := zH hQ; have hn1 : nw1 ≠ 0 := (fun h0 => by have := hQ.num.zero_iff.1 h0; revert this; decide +kernel); clear hQ; have := hbw1.sz; obtain ⟨Rr, Lr, Fr⟩ := B41 w1 w) | (go_at_call 245; (with_reducible refine (Z8k ⟨sw1, Aw1, nw1, cw1, tw1, Bw1, mw1, dw1⟩ (1 / 2) _ QX hn1 (by decide +kernel)).mono ?_); refine rQz ?_; intro w2 sw2 Aw2 nw2 cw2 tw2 Bw2 mw2 dw2 Hw2 hbw2 hzw2; obtain ⟨Rr, Lr, Fr⟩ := B41 w2 w) | ((with_reducible refine BK.fin3 (g := w.heap.size + 1) (c := #[.bool sw2, .slice Aw2 nw2 cw2, .bool tw2, .slice Bw2 mw2 dw2]) (w0 := w) (T := fun W => QAt W sw2 Aw2 nw2 cw2 tw2 Bw2 mw2 dw2 (1 / 2)) ?_ ?_ ?_ ?_); exact BY; exact EX; exact QX; intro W U E hT; have Fu := U.c4; refine bodyPost_ret (v := .tuple #[.agg (Z01 sw2 Aw2 nw2 cw2 tw2 Bw2 mw2 dw2), .int .i64 0]) (by simp [Z01, results, results199, go_sem, Fu]) rfl ⟨_, _, _, _, _, _, _, _, rfl, hT, E⟩))
theorem Z6X (gn gd cn cd gp cp : Nat) (a b0 b1 q : QC) (w : World) (h1 : CK w gn (zL6 a)) (h2 : CK w gd (zL1 b0 b1)) (hgp : CK w gp (Z2G q)) (ha : a.At w ((1 : Int) : Rat)) (hb0 : b0.At w ((-1 : Int) : Rat)) (hb1 : b1.At w ((1 : Int) : Rat)) (hq : q.At w 1) :
  Ca 199 #[.agg (Z0M gn cn gd cd), .slice (some ⟨gp, 0, none⟩) 1 cp] w (Z3C w (.tuple #[.agg zA9, .int .i64 5])) := by
 have Gn := h1.lt
 have Gd := h2.lt
 have Gp := hgp.lt
 have HA := zH ha
 have HB0 := zH hb0
 have HB1 := zH hb1
 have HQ := zH hq
 clear ha hb0 hb1 hq
 dsimp only [Z0M, zA9]
 go_enter func199, ntmps199
 go_wp2_with (first | (go_at_call 244; (with_reducible refine (Zby gn gd cn cd gp cp a b0 b1 q _ CX CX CX QX QX QX QX).mono ?_); rintro e w1 ⟨rfl, hbw1⟩; have := hbw1.sz; obtain ⟨Rr, Lr, Fr⟩ := B41 w1 w) | (go_at_call 245; (with_reducible refine (Z7h _).mono ?_); rintro e w2 ⟨rfl, hbw2⟩; have := hbw2.sz; obtain ⟨Rr, Lr, Fr⟩ := B41 w2 w) | ((with_reducible refine BK.fin3 (g := w.heap.size + 1) (c := #[.bool false, .slice none 0 0, .bool false, .slice none 0 0]) (w0 := w) (T := fun _ => True) ?_ ?_ ?_ ?_); exact BY; exact EX; trivial; intro W U E hT; have Fu := U.c4; refine bodyPost_ret (v := .tuple #[.agg zA9, .int .i64 5]) (by simp [zA9, results, results199, go_sem, Fu]) rfl ⟨rfl, E⟩))
theorem BK.c7v {w : World} {g : Nat} {a b c d e f k : Value} (h : BK w g #[a, b, c, d, e, f, k]) : CK w g [a, b, c, d, e, f, k] := h.ck
theorem Z6d (gv gt ct gn gd cn cd : Nat) (fp mp : Value) (a b0 b1 q : QC) (w : World) (hv : BK w gv #[fp, .slice (some ⟨gt, 0, none⟩) 1 ct, .bool q.s, .slice q.A q.n q.c, .bool q.t, .slice q.B q.m q.d, mp]) (ht : CK w gt [.int .i64 1]) (h1 : CK w gn (zL6 a)) (h2 : CK w gd (zL1 b0 b1)) (ha : a.At w ((1 : Int) : Rat)) (hb0 : b0.At w ((-1 : Int) : Rat)) (hb1 : b1.At w ((1 : Int) : Rat)) (hq : q.At w 3) :
  Ca 123 #[.pointer (some ⟨gv, 0, none⟩), .agg (Z0M gn cn gd cd)] w (Z0e w (1 / 2) (1 / 2)) := by
 have Lv := hv.lt
 have Lt := ht.lt
 have Ln := h1.lt
 have Ld := h2.lt
 have Lv1 : gv < w.heap.size + 1 := by omega
 have Lt1 : gt < w.heap.size + 1 := by omega
 have Lv2 : gv < w.heap.size + 1 + 1 := by omega
 have Lt2 : gt < w.heap.size + 1 + 1 := by omega
 have hk := hv.ca; dsimp only [CA, Nat.reduceAdd] at hk; obtain ⟨Fv_0, Fv_1, Fv_2, Fv_3, Fv_4, Fv_5, Fv_6, _⟩ := hk
 have Ft_0 := ht 0 _ rfl
 have HA := zH ha
 have HB0 := zH hb0
 have HB1 := zH hb1
 have HQ := zH hq
 clear ha hb0 hb1 hq
 dsimp only [Z0M]
 go_enter func123, ntmps123
 go_wp2_with fail
 refine ZQ 58 [(0, .pointer (some ⟨gv, 0, none⟩)), (3, .pointer (some ⟨w.heap.size, 0, none⟩)), (4, .pointer (some ⟨w.heap.size + 1, 0, none⟩))] (fun W => Ext w W ∧ BK W (w.heap.size) (Z0M gn cn gd cd) ∧ BK W (w.heap.size + 1) zA5 ∧ BK W gv #[fp, .slice (some ⟨gt, 0, none⟩) 1 ct, .bool q.s, .slice q.A q.n q.c, .bool q.t, .slice q.B q.m q.d, mp]) ⟨EX, BY, BY, BY⟩ ?_
 clear Fv_0 Fv_1 Fv_2 Fv_3 Fv_4 Fv_5 Fv_6 Ft_0
 rintro W U ⟨hW, R3, R4, Rv⟩
 dsimp only [fr, frl, Nat.reduceBEq, Nat.reduceAdd, cond_true, cond_false]
 have L3 := R3.lt
 have L4 := R4.lt
 have Lvv := Rv.lt
 have Lw := hW.size
 have hk := R3.ca; dsimp only [CA, Nat.reduceAdd] at hk; obtain ⟨F3_0, F3_1, F3_2, F3_3, F3_4, F3_5, F3_6, _⟩ := hk
 have hk := Rv.ca; dsimp only [CA, Nat.reduceAdd] at hk; obtain ⟨Fv_0, Fv_1, Fv_2, Fv_3, Fv_4, Fv_5, Fv_6, _⟩ := hk
 refine Zc (fun a' w' => ∃ (g5 : Nat) (r : QC) (U : Nat → Value), a' = fr 58 U [(0, .pointer (some ⟨gv, 0, none⟩)), (3, .pointer (some ⟨w.heap.size, 0, none⟩)), (4, .pointer (some ⟨w.heap.size + 1, 0, none⟩)), (5, .pointer (some ⟨g5, 0, none⟩)), (6, .int .i64 0)] ∧ BK w' g5 (zA3 r) ∧ W.heap.size ≤ g5 ∧ r.At w' (1 / 2) ∧ BK w' (w.heap.size + 1) zA5 ∧ Ext w w') (fun w' => CB w' w.heap.size 0 (Zbb gn cn gd cd) ∧ CB w' gv 2 (Z2G q)) Z0a ?rest (by dsimp only [CB, Nat.reduceAdd]; exact KQ) ?expl
 case expl =>
  dsimp only [CB, Nat.reduceAdd]
  intro hHeld
  refine TH 0 ?_; refine TH 1 ?_; refine TH 2 ?_; refine TH 3 ?_; refine TH 4 ?_
  refine RDH [5, 10] ?_
  refine ARH (fun K hK => ?_) ?_
  ·go_simp
   refine KH hK fun _ => ?_; clear hK K
   refine RDH [6, 10] ?_
   refine ARH (fun K hK => ?_) ?_
   ·go_simp
    refine (Z6W gn gd cn cd _ 1 a b0 b1 q _ CX CX (by exact (BY : BK _ _ (zA3 q)).ck) QX QX QX QX).mono ?_; refine rQz ?_; intro y sy Ay ny cy ty By my dy Hy hby hzy
    refine KH hK fun _ => ?_; clear hK K
    refine TH 7 ?_; refine TH 8 ?_; refine TH 9 ?_
    refine R1H 10 fun K hK => ?_
    go_simp
    refine KH hK fun _ => ?_; clear hK K
    refine R1H 11 fun K hK => ?_
    go_simp
    refine KH hK fun _ => ?_; clear hK K
    refine TH 12 ?_
    refine wpAnyH_done (by kernel_rfl) ?_ _
    exact ⟨_, ⟨sy, Ay, ny, cy, ty, By, my, dy⟩, _, Zh _ _, BY, by ((try simp only [SZ]); omega), QX, BY, EX⟩
   refine ARH (fun K hK => ?_) ?_
   ·go_simp
    refine KH hK fun _ => ?_; clear hK K
    refine R1H 6 fun K hK => ?_
    go_simp
    refine (Z6W gn gd cn cd _ 1 a b0 b1 q _ CX CX (by exact (BY : BK _ _ (zA3 q)).ck) QX QX QX QX).mono ?_; refine rQz ?_; intro y sy Ay ny cy ty By my dy Hy hby hzy; obtain ⟨_, _, T0, T1, T2, T3, T4⟩ := B41 y W
    refine KH hK fun _ => ?_; clear hK K
    refine TH 7 ?_; refine TH 8 ?_; refine TH 9 ?_
    refine R1H 11 fun K hK => ?_
    go_simp
    refine KH hK fun _ => ?_; clear hK K
    refine TH 12 ?_
    refine wpAnyH_done (by kernel_rfl) ?_ _
    exact ⟨_, ⟨sy, Ay, ny, cy, ty, By, my, dy⟩, _, Zh _ _, BY, by ((try simp only [SZ]); omega), QX, BY, EX⟩
   exact AllReadyH.nil
  refine ARH (fun K hK => ?_) ?_
  ·go_simp
   refine KH hK fun _ => ?_; clear hK K
   refine R1H 5 fun K hK => ?_
   go_simp
   refine KH hK fun _ => ?_; clear hK K
   refine R1H 6 fun K hK => ?_
   go_simp
   refine (Z6W gn gd cn cd _ 1 a b0 b1 q _ CX CX (by exact (BY : BK _ _ (zA3 q)).ck) QX QX QX QX).mono ?_; refine rQz ?_; intro y sy Ay ny cy ty By my dy Hy hby hzy; obtain ⟨_, _, T0, T1, T2, T3, T4⟩ := B40 y W
   refine KH hK fun _ => ?_; clear hK K
   refine TH 7 ?_; refine TH 8 ?_; refine TH 9 ?_
   refine R1H 11 fun K hK => ?_
   go_simp
   refine KH hK fun _ => ?_; clear hK K
   refine TH 12 ?_
   refine wpAnyH_done (by kernel_rfl) ?_ _
   exact ⟨_, ⟨sy, Ay, ny, cy, ty, By, my, dy⟩, _, Zh _ _, BY, by ((try simp only [SZ]); omega), QX, BY, EX⟩
  exact AllReadyH.nil
 case rest =>
  rintro a' Y ⟨g5, r, U, rfl, B5, hg5, hr, B4, hY⟩
  dsimp only [fr, frl, Nat.reduceBEq, Nat.reduceAdd, cond_true, cond_false]
  clear F3_0 Fv_0 F3_1 Fv_1 F3_2 Fv_2 F3_3 Fv_3 F3_4 Fv_4 F3_5 Fv_5 F3_6 Fv_6
  have M5 := B5.lt
  have M4 := B4.lt
  have F5 := B5.c4
  have F4 := B4.c8
  have Hr := zH hr
  clear hr
  go_wp2_with (first | (go_at_call 154; (with_reducible refine (Z2g r _).mono ?_); rintro e z1 ⟨rfl, hbz1⟩; have := hbz1.sz; have QR : BK z1 (w.heap.size + 1) zA5 := BY; have LR := QR.lt; have Fz := QR.c8) | ((with_reducible refine BK.fin3 (g := w.heap.size + 1) (c := #[.bool r.s, .slice r.A r.n r.c, .bool r.t, .slice r.B r.m r.d, .bool r.s, .slice r.A r.n r.c, .bool r.t, .slice r.B r.m r.d]) (w0 := w) (T := fun W => r.At W (1 / 2)) ?_ ?_ ?_ ?_); exact BY; exact EX; exact QX; intro W U E hT; have Fu := U.c8; refine bodyPost_ret (v := .agg (Z7G r)) (by simp [Z7G, results, results123, go_sem, Fu]) rfl ⟨r, r, rfl, hT, hT, E⟩))
theorem Z6e (gv gt ct gn gd cn cd : Nat) (fp mp : Value) (a b0 b1 q : QC) (w : World) (hv : BK w gv #[fp, .slice (some ⟨gt, 0, none⟩) 1 ct, .bool q.s, .slice q.A q.n q.c, .bool q.t, .slice q.B q.m q.d, mp]) (ht : CK w gt [.int .i64 1]) (h1 : CK w gn (zL6 a)) (h2 : CK w gd (zL1 b0 b1)) (ha : a.At w ((1 : Int) : Rat)) (hb0 : b0.At w ((-1 : Int) : Rat)) (hb1 : b1.At w ((1 : Int) : Rat)) (hq : q.At w 1) :
  Ca 123 #[.pointer (some ⟨gv, 0, none⟩), .agg (Z0M gn cn gd cd)] w (Z3d w 5) := by
 have Lv := hv.lt
 have Lt := ht.lt
 have Ln := h1.lt
 have Ld := h2.lt
 have Lv1 : gv < w.heap.size + 1 := by omega
 have Lt1 : gt < w.heap.size + 1 := by omega
 have Lv2 : gv < w.heap.size + 1 + 1 := by omega
 have Lt2 : gt < w.heap.size + 1 + 1 := by omega
 have hk := hv.ca; dsimp only [CA, Nat.reduceAdd] at hk; obtain ⟨Fv_0, Fv_1, Fv_2, Fv_3, Fv_4, Fv_5, Fv_6, _⟩ := hk
 have Ft_0 := ht 0 _ rfl
 have HA := zH ha
 have HB0 := zH hb0
 have HB1 := zH hb1
 have HQ := zH hq
 clear ha hb0 hb1 hq
 dsimp only [Z0M]
 go_enter func123, ntmps123
 go_wp2_with fail
 refine ZQ 58 [(0, .pointer (some ⟨gv, 0, none⟩)), (3, .pointer (some ⟨w.heap.size, 0, none⟩)), (4, .pointer (some ⟨w.heap.size + 1, 0, none⟩))] (fun W => Ext w W ∧ BK W (w.heap.size) (Z0M gn cn gd cd) ∧ BK W (w.heap.size + 1) zA5 ∧ BK W gv #[fp, .slice (some ⟨gt, 0, none⟩) 1 ct, .bool q.s, .slice q.A q.n q.c, .bool q.t, .slice q.B q.m q.d, mp]) ⟨EX, BY, BY, BY⟩ ?_
 clear Fv_0 Fv_1 Fv_2 Fv_3 Fv_4 Fv_5 Fv_6 Ft_0
 rintro W U ⟨hW, R3, R4, Rv⟩
 dsimp only [fr, frl, Nat.reduceBEq, Nat.reduceAdd, cond_true, cond_false]
 have L3 := R3.lt
 have L4 := R4.lt
 have Lvv := Rv.lt
 have Lw := hW.size
 have hk := R3.ca; dsimp only [CA, Nat.reduceAdd] at hk; obtain ⟨F3_0, F3_1, F3_2, F3_3, F3_4, F3_5, F3_6, _⟩ := hk
 have hk := Rv.ca; dsimp only [CA, Nat.reduceAdd] at hk; obtain ⟨Fv_0, Fv_1, Fv_2, Fv_3, Fv_4, Fv_5, Fv_6, _⟩ := hk
 refine Zc (fun a' w' => ∃ (g5 : Nat) (U : Nat → Value), a' = fr 58 U [(0, .pointer (some ⟨gv, 0, none⟩)), (3, .pointer (some ⟨w.heap.size, 0, none⟩)), (4, .pointer (some ⟨w.heap.size + 1, 0, none⟩)), (5, .pointer (some ⟨g5, 0, none⟩)), (6, .int .i64 5)] ∧ BK w' g5 zA9 ∧ W.heap.size ≤ g5 ∧ BK w' (w.heap.size + 1) zA5 ∧ Ext w w') (fun w' => CB w' w.heap.size 0 (Zbb gn cn gd cd) ∧ CB w' gv 2 (Z2G q)) Z0a ?rest (by dsimp only [CB, Nat.reduceAdd]; exact KQ) ?expl
 case expl =>
  dsimp only [CB, Nat.reduceAdd]
  intro hHeld
  refine TH 0 ?_; refine TH 1 ?_; refine TH 2 ?_; refine TH 3 ?_; refine TH 4 ?_
  refine RDH [5, 10] ?_
  refine ARH (fun K hK => ?_) ?_
  ·go_simp
   refine KH hK fun _ => ?_; clear hK K
   refine RDH [6, 10] ?_
   refine ARH (fun K hK => ?_) ?_
   ·go_simp
    refine (Z6X gn gd cn cd _ 1 a b0 b1 q _ CX CX (by exact (BY : BK _ _ (zA3 q)).ck) QX QX QX QX).mono ?_; rintro e y ⟨rfl, hby⟩; have := hby.sz
    refine KH hK fun _ => ?_; clear hK K
    refine TH 7 ?_; refine TH 8 ?_; refine TH 9 ?_
    refine R1H 10 fun K hK => ?_
    go_simp
    refine KH hK fun _ => ?_; clear hK K
    refine R1H 11 fun K hK => ?_
    go_simp
    refine KH hK fun _ => ?_; clear hK K
    refine TH 12 ?_
    refine wpAnyH_done (by kernel_rfl) ?_ _
    exact ⟨_, _, Zh _ _, BY, by ((try simp only [SZ]); omega), BY, EX⟩
   refine ARH (fun K hK => ?_) ?_
   ·go_simp
    refine KH hK fun _ => ?_; clear hK K
    refine R1H 6 fun K hK => ?_
    go_simp
    refine (Z6X gn gd cn cd _ 1 a b0 b1 q _ CX CX (by exact (BY : BK _ _ (zA3 q)).ck) QX QX QX QX).mono ?_; rintro e y ⟨rfl, hby⟩; have := hby.sz; obtain ⟨_, _, T0, T1, T2, T3, T4⟩ := B41 y W
    refine KH hK fun _ => ?_; clear hK K
    refine TH 7 ?_; refine TH 8 ?_; refine TH 9 ?_
    refine R1H 11 fun K hK => ?_
    go_simp
    refine KH hK fun _ => ?_; clear hK K
    refine TH 12 ?_
    refine wpAnyH_done (by kernel_rfl) ?_ _
    exact ⟨_, _, Zh _ _, BY, by ((try simp only [SZ]); omega), BY, EX⟩
   exact AllReadyH.nil
  refine ARH (fun K hK => ?_) ?_
  ·go_simp
   refine KH hK fun _ => ?_; clear hK K
   refine R1H 5 fun K hK => ?_
   go_simp
   refine KH hK fun _ => ?_; clear hK K
   refine R1H 6 fun K hK => ?_
   go_simp
   refine (Z6X gn gd cn cd _ 1 a b0 b1 q _ CX CX (by exact (BY : BK _ _ (zA3 q)).ck) QX QX QX QX).mono ?_; rintro e y ⟨rfl, hby⟩; have := hby.sz; obtain ⟨_, _, T0, T1, T2, T3, T4⟩ := B40 y W
   refine KH hK fun _ => ?_; clear hK K
   refine TH 7 ?_; refine TH 8 ?_; refine TH 9 ?_
   refine R1H 11 fun K hK => ?_
   go_simp
   refine KH hK fun _ => ?_; clear hK K
   refine TH 12 ?_
   refine wpAnyH_done (by kernel_rfl) ?_ _
   exact ⟨_, _, Zh _ _, BY, by ((try simp only [SZ]); omega), BY, EX⟩
  exact AllReadyH.nil
 case rest =>
  rintro a' Y ⟨g5, U, rfl, B5, hg5, B4, hY⟩
  dsimp only [fr, frl, Nat.reduceBEq, Nat.reduceAdd, cond_true, cond_false]
  clear F3_0 Fv_0 F3_1 Fv_1 F3_2 Fv_2 F3_3 Fv_3 F3_4 Fv_4 F3_5 Fv_5 F3_6 Fv_6
  have M5 := B5.lt
  have M4 := B4.lt
  have F5 := B5.c4
  have F4 := B4.c8
  go_wp2_with fail
  all_goals exact ⟨rfl, rfl, EX⟩
def ZcY (K : Act → World → Prop) (R : List PanicEntry → Act → World → Prop) : Exit → Act → World → Prop
 | .normal, a, w => K a w
 | .panic ch, a, w => R ch a w
 | _, _, _ => False
theorem Z1l (a : Act) (d : Option Tmp) (v : Value) : (a.put d v).defers = a.defers := by cases d <;> rfl
theorem Z5i {P : Program} {id : Nat} {ops : Array Oper} {Q : Exit → Act → World → Prop} {a : Act} {w : World} (N : Act → World → Prop) (R : List PanicEntry → Act → World → Prop) (S : World → Prop) (hm : P.follows .mixedOrders = true) (hN : ∀ a w, N a w → Q .normal a w) (hR : ∀ ch a w, R ch a w → Q (.panic ch) a w) (hS : S w.drew)
  (h : S w.drew → wpAnyH P .any ops (ZcY N R) S ops.size (Array.replicate ops.size false) a w.drew) : (Code.region id ops true).wp P Q a w :=
 Code.wp_mono (by
  rintro e a w h
  cases e with
  | normal => exact hN _ _ h
  | ret => exact h.elim
  | exit id => exact h.elim
  | goto t => exact h.elim
  | panic ch => exact hR _ _ _ h
  | outgrown => exact h.elim) (wp_region_held_drew hm hS h)
theorem Z9W (gT gX gE gt ct gn gd cn cd : Nat) (n : Int) (a b0 b1 q : QC) (w : World) (hT : BK w gT #[.slice (some ⟨gt, 0, none⟩) 1 ct]) (hX : BK w gX (zA3 q)) (hE : BK w gE (Z0M gn cn gd cd)) (ht : CK w gt [.int .i64 1]) (h1 : CK w gn (zL6 a)) (h2 : CK w gd (zL1 b0 b1)) (ha : a.At w ((1 : Int) : Rat)) (hb0 : b0.At w ((-1 : Int) : Rat)) (hb1 : b1.At w ((1 : Int) : Rat)) (hq : q.At w 3) :
  Ca 122 #[.int .i64 n, .pointer (some ⟨gT, 0, none⟩), .pointer (some ⟨gX, 0, none⟩), .pointer (some ⟨gE, 0, none⟩)] w (Z0e w (1 / 2) (1 / 2)) := by
 have hmm := @run_makeMap Tryz.prog
 have hbd : ∀ (x : Option Addr) (A : Option Addr) (n c : Nat) (s : Bool) (B : Option Addr) (m d : Nat) (t : Bool) (C : Option Addr) (k l : Nat) (g : Option Nat) (W : World), (Instr.build 124 #[(0, .pointer x), (1, .slice A n c), (2, .agg #[.bool s, .slice B m d, .bool t, .slice C k l]), (3, .map g)]).run Tryz.prog W = .ok (.agg #[.pointer x, .slice A n c, .bool s, .slice B m d, .bool t, .slice C k l, .map g]) W := by intros; kernel_rfl
 have LT := hT.lt
 have LX := hX.lt
 have LE := hE.lt
 have Lt := ht.lt
 have Ln := h1.lt
 have Ld := h2.lt
 have HA := zH ha
 have HB0 := zH hb0
 have HB1 := zH hb1
 have HQ := zH hq
 clear ha hb0 hb1 hq
 go_enter func122, ntmps122
 go_wp2_with fail
 refine ZQ 15 [(0, .int .i64 n), (1, .pointer (some ⟨gT, 0, none⟩)), (2, .pointer (some ⟨gX, 0, none⟩)), (3, .pointer (some ⟨gE, 0, none⟩)), (5, .pointer (some ⟨w.heap.size, 0, none⟩))] (fun W => Ext w W ∧ BK W (w.heap.size) zA5 ∧ BK W gT #[.slice (some ⟨gt, 0, none⟩) 1 ct] ∧ BK W gX (zA3 q) ∧ BK W gE (Z0M gn cn gd cd)) ⟨EX, BY, BY, BY, BY⟩ ?_
 rintro W U ⟨hW, R5, RT, RX, RE⟩
 dsimp only [fr, frl, Nat.reduceBEq, Nat.reduceAdd, cond_true, cond_false]
 have L5 := R5.lt
 have Lw := hW.size
 have FF := And.intro RT.ca (And.intro RX.ca RE.ca); dsimp only [CA, CC, Nat.reduceAdd] at FF
 refine Zc (fun a' w' => ∃ (p r : QC) (U : Nat → Value), a' = fr 15 U [(0, .int .i64 n), (1, .pointer (some ⟨gT, 0, none⟩)), (2, .pointer (some ⟨gX, 0, none⟩)), (3, .pointer (some ⟨gE, 0, none⟩)), (5, .pointer (some ⟨w.heap.size, 0, none⟩))] ∧ BK w' (w.heap.size) (zA0 p r) ∧ p.At w' (1 / 2) ∧ r.At w' (1 / 2) ∧ Ext w w') (fun w' => CB w' gT 0 [.slice (some ⟨gt, 0, none⟩) 1 ct] ∧ CB w' gX 0 (Z2G q) ∧ CB w' gE 0 (Zbb gn cn gd cd)) Z0a ?rest (by dsimp only [CB, Nat.reduceAdd]; exact KQ) ?expl
 case expl =>
  dsimp only [CB, Nat.reduceAdd]
  intro hHeld
  refine TH 0 ?_; refine TH 2 ?_; refine TH 3 ?_; refine TH 7 ?_
  refine RDH [1, 4] ?_
  refine ARH (fun K hK => ?_) ?_
  ·go_simp
   refine (Z0L n _).mono ?_; rintro e w1 ⟨gf, f1, f2, f3, rfl, Bf, hbw1⟩; have := hbw1.sz
   refine KH hK fun _ => ?_; clear hK K
   refine R1H 4 fun K hK => ?_
   go_simp
   refine KH hK fun _ => ?_; clear hK K
   refine TH 5 ?_
   refine R1H 6 fun K hK => ?_
   go_simp
   refine KH hK fun _ => ?_; clear hK K
   refine R1H 8 fun K hK => ?_
   go_simp
   refine (Z6d _ gt ct gn gd cn cd (.pointer (some ⟨gf, 0, none⟩)) (.map (some (w1.heap.size))) a b0 b1 q _ BY CX CX CX QX QX QX QX).mono ?_; rintro e y ⟨py, ry, rfl, hQ, hQ', hby⟩; have Hy := zH hQ; have Ky := zH hQ'; clear hQ hQ'; have := hby.sz; have QR : BK y (w.heap.size) zA5 := BY; have LR := QR.lt; have Fz := QR.c8
   refine KH hK fun _ => ?_; clear hK K
   refine R1H 9 fun K hK => ?_
   go_simp
   refine KH hK fun _ => ?_; clear hK K
   refine wpAnyH_done (by kernel_rfl) ?_ _
   exact ⟨py, ry, _, Zr _ _, BY, QX, QX, EX⟩
  refine ARH (fun K hK => ?_) ?_
  ·go_simp
   refine KH hK fun _ => ?_; clear hK K
   refine R1H 1 fun K hK => ?_
   go_simp
   refine (Z0L n _).mono ?_; rintro e w1 ⟨gf, f1, f2, f3, rfl, Bf, hbw1⟩; have := hbw1.sz
   refine KH hK fun _ => ?_; clear hK K
   refine TH 5 ?_
   refine R1H 6 fun K hK => ?_
   go_simp
   refine KH hK fun _ => ?_; clear hK K
   refine R1H 8 fun K hK => ?_
   go_simp
   refine (Z6d _ gt ct gn gd cn cd (.pointer (some ⟨gf, 0, none⟩)) (.map (some (W.heap.size))) a b0 b1 q _ BY CX CX CX QX QX QX QX).mono ?_; rintro e y ⟨py, ry, rfl, hQ, hQ', hby⟩; have Hy := zH hQ; have Ky := zH hQ'; clear hQ hQ'; have := hby.sz; have QR : BK y (w.heap.size) zA5 := BY; have LR := QR.lt; have Fz := QR.c8
   refine KH hK fun _ => ?_; clear hK K
   refine R1H 9 fun K hK => ?_
   go_simp
   refine KH hK fun _ => ?_; clear hK K
   refine wpAnyH_done (by kernel_rfl) ?_ _
   exact ⟨py, ry, _, Zr _ _, BY, QX, QX, EX⟩
  exact AllReadyH.nil
 case rest =>
  rintro a' Y ⟨p, r, U, rfl, B5, hp, hr, hY⟩
  dsimp only [fr, frl, Nat.reduceBEq, Nat.reduceAdd, cond_true, cond_false]
  have Hp := zH hp
  have Hr := zH hr
  have M5 := B5.lt
  have F5 := B5.c8
  go_wp2_with ((with_reducible refine BK.fin3 (g := w.heap.size) (c := #[.bool p.s, .slice p.A p.n p.c, .bool p.t, .slice p.B p.m p.d, .bool r.s, .slice r.A r.n r.c, .bool r.t, .slice r.B r.m r.d]) (w0 := w) (T := fun W => p.At W (1 / 2) ∧ r.At W (1 / 2)) ?_ ?_ ?_ ?_); exact BY; exact EX; exact ⟨QX, QX⟩; intro W U E hT; have Fu := U.c8; refine bodyPost_ret (v := .agg (zA0 p r)) (by simp [zA0, results, results122, go_sem, Fu]) rfl ⟨p, r, rfl, hT.1, hT.2, E⟩)
theorem Z9X (gT gX gE gt ct gn gd cn cd : Nat) (n : Int) (a b0 b1 q : QC) (w : World) (hT : BK w gT #[.slice (some ⟨gt, 0, none⟩) 1 ct]) (hX : BK w gX (zA3 q)) (hE : BK w gE (Z0M gn cn gd cd)) (ht : CK w gt [.int .i64 1]) (h1 : CK w gn (zL6 a)) (h2 : CK w gd (zL1 b0 b1)) (ha : a.At w ((1 : Int) : Rat)) (hb0 : b0.At w ((-1 : Int) : Rat)) (hb1 : b1.At w ((1 : Int) : Rat)) (hq : q.At w 1) :
  Ca 122 #[.int .i64 n, .pointer (some ⟨gT, 0, none⟩), .pointer (some ⟨gX, 0, none⟩), .pointer (some ⟨gE, 0, none⟩)] w (Z3d w 5) := by
 have hmm := @run_makeMap Tryz.prog
 have hbd : ∀ (x : Option Addr) (A : Option Addr) (n c : Nat) (s : Bool) (B : Option Addr) (m d : Nat) (t : Bool) (C : Option Addr) (k l : Nat) (g : Option Nat) (W : World), (Instr.build 124 #[(0, .pointer x), (1, .slice A n c), (2, .agg #[.bool s, .slice B m d, .bool t, .slice C k l]), (3, .map g)]).run Tryz.prog W = .ok (.agg #[.pointer x, .slice A n c, .bool s, .slice B m d, .bool t, .slice C k l, .map g]) W := by intros; kernel_rfl
 have LT := hT.lt
 have LX := hX.lt
 have LE := hE.lt
 have Lt := ht.lt
 have Ln := h1.lt
 have Ld := h2.lt
 have HA := zH ha
 have HB0 := zH hb0
 have HB1 := zH hb1
 have HQ := zH hq
 clear ha hb0 hb1 hq
 go_enter func122, ntmps122
 go_wp2_with fail
 refine ZQ 15 [(0, .int .i64 n), (1, .pointer (some ⟨gT, 0, none⟩)), (2, .pointer (some ⟨gX, 0, none⟩)), (3, .pointer (some ⟨gE, 0, none⟩)), (5, .pointer (some ⟨w.heap.size, 0, none⟩))] (fun W => Ext w W ∧ BK W (w.heap.size) zA5 ∧ BK W gT #[.slice (some ⟨gt, 0, none⟩) 1 ct] ∧ BK W gX (zA3 q) ∧ BK W gE (Z0M gn cn gd cd)) ⟨EX, BY, BY, BY, BY⟩ ?_
 rintro W U ⟨hW, R5, RT, RX, RE⟩
 dsimp only [fr, frl, Nat.reduceBEq, Nat.reduceAdd, cond_true, cond_false]
 have L5 := R5.lt
 have Lw := hW.size
 have FF := And.intro RT.ca (And.intro RX.ca RE.ca); dsimp only [CA, CC, Nat.reduceAdd] at FF
 refine Z5i (fun _ _ => False) (fun ch a' w' => a'.defers = [] ∧ ch = [{ v := .iface 135 (.agg #[.int .i64 5]), recovered := false }] ∧ Ext w w') (fun w' => w'.cell? ⟨gT, 0, none⟩ = some (.slice (some ⟨gt, 0, none⟩) 1 ct) ∧ w'.cell? ⟨gX, 0, none⟩ = some (.bool q.s) ∧ w'.cell? ⟨gX, 1, none⟩ = some (.slice q.A q.n q.c) ∧ w'.cell? ⟨gX, 2, none⟩ = some (.bool q.t) ∧ w'.cell? ⟨gX, 3, none⟩ = some (.slice q.B q.m q.d) ∧ w'.cell? ⟨gE, 0, none⟩ = some (.int .i64 1) ∧ w'.cell? ⟨gE, 1, none⟩ = some (.bool false) ∧ w'.cell? ⟨gE, 2, none⟩ = some (.slice none 0 0) ∧ w'.cell? ⟨gE, 3, none⟩ = some (.bool false) ∧ w'.cell? ⟨gE, 4, none⟩ = some (.slice none 0 0) ∧ w'.cell? ⟨gE, 5, none⟩ = some (.slice (some ⟨gn, 0, none⟩) 1 cn) ∧ w'.cell? ⟨gE, 6, none⟩ = some (.slice (some ⟨gd, 0, none⟩) 2 cd)) Z0a (fun _ _ h => h.elim) ?hpan (by exact KQ) (fun hHeld => ?expl)
 case hpan =>
  rintro ch a' w' ⟨h1, rfl, h3⟩
  exact ⟨h1, rfl, h3⟩
 case expl =>
  (refine TKH 0 ?_ (hQ := fun _ _ _ h => ⟨(Z1l _ _ _).symm.trans h.1, h.2⟩); (try simp only [LY]))
  (refine TKH 2 ?_ (hQ := fun _ _ _ h => ⟨(Z1l _ _ _).symm.trans h.1, h.2⟩); (try simp only [LY]))
  (refine TKH 3 ?_ (hQ := fun _ _ _ h => ⟨(Z1l _ _ _).symm.trans h.1, h.2⟩); (try simp only [LY]))
  (refine TKH 7 ?_ (hQ := fun _ _ _ h => ⟨(Z1l _ _ _).symm.trans h.1, h.2⟩); (try simp only [LY]))
  refine RDH [1, 4] ?_
  refine ARH (fun K hK => ?_) ?_
  ·go_simp
   refine (Z0L n _).mono ?_; rintro e w1 ⟨gf, f1, f2, f3, rfl, Bf, hbw1⟩; have := hbw1.sz
   refine KH hK fun _ => ?_; clear hK K
   refine R1H 4 fun K hK => ?_
   go_simp
   refine KH hK fun _ => ?_; clear hK K
   (refine TKH 5 ?_ (hQ := fun _ _ _ h => ⟨(Z1l _ _ _).symm.trans h.1, h.2⟩); (try simp only [LY]))
   refine R1H 6 fun K hK => ?_
   go_simp
   refine KH hK fun _ => ?_; clear hK K
   refine R1H 8 fun K hK => ?_
   go_simp
   refine (Z6e _ gt ct gn gd cn cd (.pointer (some ⟨gf, 0, none⟩)) (.map (some (w1.heap.size))) a b0 b1 q _ BY CX CX CX QX QX QX QX).mono ?_; rintro e y ⟨rfl, hby⟩
   exact ⟨rfl, rfl, EX⟩
  refine ARH (fun K hK => ?_) ?_
  ·go_simp
   refine KH hK fun _ => ?_; clear hK K
   refine R1H 1 fun K hK => ?_
   go_simp
   refine (Z0L n _).mono ?_; rintro e w1 ⟨gf, f1, f2, f3, rfl, Bf, hbw1⟩; have := hbw1.sz
   refine KH hK fun _ => ?_; clear hK K
   (refine TKH 5 ?_ (hQ := fun _ _ _ h => ⟨(Z1l _ _ _).symm.trans h.1, h.2⟩); (try simp only [LY]))
   refine R1H 6 fun K hK => ?_
   go_simp
   refine KH hK fun _ => ?_; clear hK K
   refine R1H 8 fun K hK => ?_
   go_simp
   refine (Z6e _ gt ct gn gd cn cd (.pointer (some ⟨gf, 0, none⟩)) (.map (some (W.heap.size))) a b0 b1 q _ BY CX CX CX QX QX QX QX).mono ?_; rintro e y ⟨rfl, hby⟩
   exact ⟨rfl, rfl, EX⟩
  exact AllReadyH.nil
theorem Z6Y (gt ct gn gd cn cd : Nat) (a b0 b1 q : QC) (w : World) (ht : CK w gt [.int .i64 1]) (h1 : CK w gn (zL6 a)) (h2 : CK w gd (zL1 b0 b1)) (ha : a.At w ((1 : Int) : Rat)) (hb0 : b0.At w ((-1 : Int) : Rat)) (hb1 : b1.At w ((1 : Int) : Rat)) (hq : q.At w 3) :
  Ca 53 #[.slice (some ⟨gt, 0, none⟩) 1 ct, .agg (Z0M gn cn gd cd), .agg (zA3 q), .int .i64 30] w (Z50 w (1 / 2) (1 / 2)) := by
 have hmf : ∀ (fn : Fn) (first cap : Array Value) (w : World), (Instr.makeFunc fn first cap).run Tryz.prog w = .ok (.func fn first cap) w := fun _ _ _ _ => rfl
 have hs0 : 2 * (qm (1 / 2 : Rat) + qm (1 / 2 : Rat)) + 20000 < Z8 := by decide +kernel
 have hw0 : (1 / 2 : Rat) - 1 / 2 ≤ Z02 (-30) := by decide +kernel
 have hz0 : (decide ((0 : Int) ≤ 30) && decide ((30 : Int) ≤ 400)) = true := by decide
 have Lt := ht.lt
 have Ln := h1.lt
 have Ld := h2.lt
 have HA := zH ha
 have HB0 := zH hb0
 have HB1 := zH hb1
 have HQ := zH hq
 clear ha hb0 hb1 hq
 dsimp only [Z0M, zA3]
 go_enter func53, ntmps53
 go_wp2_with (first | (go_at_call 72; (with_reducible refine (Z06 30 _).mono ?_); rw [hz0]; rintro e w1 ⟨rfl, hbw1⟩; have := hbw1.sz; obtain ⟨R0, L0, F0⟩ := BC1 w1 w.heap.size; obtain ⟨R1, L1, F1⟩ := BC7 w1 (w.heap.size + 1); obtain ⟨R2, L2, F2⟩ := B42 w1 w; obtain ⟨R3, L3, F3⟩ := BC1 w1 (w.heap.size + 1 + 1 + 1); obtain ⟨R4, L4, F4⟩ := BC8 w1 (w.heap.size + 1 + 1 + 1 + 1)) | (go_at_call 85; (with_reducible refine (Z1D 121 _ (fun _ _ => rfl) 122 _ (fun _ _ => rfl) 30 (1 / 2) (1 / 2) _ (by decide) (by decide) (fun W e => Z9W _ _ _ gt ct gn gd cn cd _ a b0 b1 q W BY BY BY CX CX CX QX QX QX QX) (fun W a b e h1 h2 => ZbG _ 30 a b _ _ W BY h1 h2 (by decide) (by decide) hw0 hs0)).mono ?_); refine rBz ?_; intro w5 pw5 qw5 Hw5 Kw5 hbw5 hzw5; obtain ⟨R0, L0, F0⟩ := BC1 w5 w.heap.size; obtain ⟨R1, L1, F1⟩ := BC7 w5 (w.heap.size + 1); obtain ⟨R2, L2, F2⟩ := B42 w5 w; obtain ⟨R3, L3, F3⟩ := BC1 w5 (w.heap.size + 1 + 1 + 1); obtain ⟨R4, L4, F4⟩ := BC8 w5 (w.heap.size + 1 + 1 + 1 + 1)) | ((with_reducible refine BK.fin3 (g := w.heap.size + 1 + 1 + 1 + 1) (c := #[.bool pw5.s, .slice pw5.A pw5.n pw5.c, .bool pw5.t, .slice pw5.B pw5.m pw5.d, .bool qw5.s, .slice qw5.A qw5.n qw5.c, .bool qw5.t, .slice qw5.B qw5.m qw5.d]) (w0 := w) (T := fun W => pw5.At W (1 / 2) ∧ qw5.At W (1 / 2)) ?_ ?_ ?_ ?_); exact BY; exact EX; exact ⟨QX, QX⟩; intro W U E hT; have Fu := U.c8; refine bodyPost_ret (v := .tuple #[.agg (zA0 pw5 qw5), .int .i64 0]) (by simp [zA0, results, results53, go_sem, Fu]) rfl ⟨pw5, qw5, rfl, hT.1, hT.2, E⟩))
theorem ZbH (gt ct gn gd cn cd : Nat) (a b0 b1 q : QC) (w : World) (ht : CK w gt [.int .i64 1]) (h1 : CK w gn (zL6 a)) (h2 : CK w gd (zL1 b0 b1)) (ha : a.At w ((1 : Int) : Rat)) (hb0 : b0.At w ((-1 : Int) : Rat)) (hb1 : b1.At w ((1 : Int) : Rat)) (hq : q.At w 1) :
  Ca 53 #[.slice (some ⟨gt, 0, none⟩) 1 ct, .agg (Z0M gn cn gd cd), .agg (zA3 q), .int .i64 30] w (Z3C w (.tuple #[.agg zA5, .int .i64 5])) := by
 have hmf : ∀ (fn : Fn) (first cap : Array Value) (w : World), (Instr.makeFunc fn first cap).run Tryz.prog w = .ok (.func fn first cap) w := fun _ _ _ _ => rfl
 have hs0 : 2 * (qm (1 / 2 : Rat) + qm (1 / 2 : Rat)) + 20000 < Z8 := by decide +kernel
 have hw0 : (1 / 2 : Rat) - 1 / 2 ≤ Z02 (-30) := by decide +kernel
 have hz0 : (decide ((0 : Int) ≤ 30) && decide ((30 : Int) ≤ 400)) = true := by decide
 have Lt := ht.lt
 have Ln := h1.lt
 have Ld := h2.lt
 have HA := zH ha
 have HB0 := zH hb0
 have HB1 := zH hb1
 have HQ := zH hq
 clear ha hb0 hb1 hq
 dsimp only [Z0M, zA3, zA5]
 go_enter func53, ntmps53
 go_wp2_with (first | (go_at_call 72; (with_reducible refine (Z06 30 _).mono ?_); rw [hz0]; rintro e w1 ⟨rfl, hbw1⟩; have := hbw1.sz; obtain ⟨R0, L0, F0⟩ := BC1 w1 w.heap.size; obtain ⟨R1, L1, F1⟩ := BC7 w1 (w.heap.size + 1); obtain ⟨R2, L2, F2⟩ := B42 w1 w; obtain ⟨R3, L3, F3⟩ := BC1 w1 (w.heap.size + 1 + 1 + 1); obtain ⟨R4, L4, F4⟩ := BC8 w1 (w.heap.size + 1 + 1 + 1 + 1)) | (go_at_call 85; (with_reducible refine (Z4y 121 _ (fun _ _ => rfl) 122 _ (fun _ _ => rfl) 30 5 (by decide) _ (by decide) (by decide) (fun W e => Z9X _ _ _ gt ct gn gd cn cd _ a b0 b1 q W BY BY BY CX CX CX QX QX QX QX)).mono ?_); rintro e w5 ⟨rfl, hbw5⟩; have := hbw5.sz; obtain ⟨R0, L0, F0⟩ := BC1 w5 w.heap.size; obtain ⟨R1, L1, F1⟩ := BC7 w5 (w.heap.size + 1); obtain ⟨R2, L2, F2⟩ := B42 w5 w; obtain ⟨R3, L3, F3⟩ := BC1 w5 (w.heap.size + 1 + 1 + 1); obtain ⟨R4, L4, F4⟩ := BC8 w5 (w.heap.size + 1 + 1 + 1 + 1)) | ((with_reducible refine BK.fin3 (g := w.heap.size + 1 + 1 + 1 + 1) (c := #[.bool false, .slice none 0 0, .bool false, .slice none 0 0, .bool false, .slice none 0 0, .bool false, .slice none 0 0]) (w0 := w) (T := fun _ => True) ?_ ?_ ?_ ?_); exact BY; exact EX; trivial; intro W U E hT; have Fu := U.c8; refine bodyPost_ret (v := .tuple #[.agg zA5, .int .i64 5]) (by simp [zA5, results, results53, go_sem, Fu]) rfl ⟨rfl, E⟩))
end Go.Proofs.YtnmmncccpdffaaaGreat
