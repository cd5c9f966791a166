/- For all data quadratrixlaw22.BoundBoxes returns true, and changes nothing: whatever two intervals and an integer come in. -/
import Derived.ProofKit
import Derived.OpenShut
import Derived.Carry
import Derived.Test.YtnmmncccpdffaaaGreatRows
import Derived.ShutString
import Derived.ChangeOld
import Derived.SizedLaws
import Derived.Test.YtnmmncccpdffaaaGreatQ16
set_option linter.unusedVariables false
set_option linter.unusedSimpArgs false
set_option maxRecDepth 100000
set_option maxHeartbeats 16000000
namespace Go.Proofs.YtnmmncccpdffaaaGreat
open Go.Proofs.Tryz Go Go.RowKit Go.Shelf
theorem Z8K (p q r s : QC) (n : Int) (w : World)  (hp : (decide ((p.n : Int) ≤ 20) && decide ((p.m : Int) ≤ 20)) = false) :
  Ca 3 #[.agg (zA0 p q), .agg (zA0 r s), .int .i64 n] w (fun e w' => e = .returned (.bool true) ∧ Ext w w') := by
 have HSp := zH (fun W => (by have := ZE p 20 W; rw [hp] at this; exact this : Ca 8 #[.agg #[.bool p.s, .slice p.A p.n p.c, .bool p.t, .slice p.B p.m p.d], .int .i64 20] W fun e w' => e = .returned (.bool false) ∧ Ext W w'))
 clear hp
 dsimp only [zA0]
 go_enter func3, ntmps3
 go_wp2_with (
  first
  | (go_at_call 8; (with_reducible refine (HSp.out _).mono ?_); rintro e w0 ⟨rfl, hbw0⟩; have := hbw0.sz; have Ra : BK w0 (w.heap.size) (zA0 p q) := BY; (have hk := Ra.ca; dsimp only [CA, Nat.reduceAdd] at hk; repeat (obtain ⟨_, hk⟩ := hk)); have LRa := Ra.lt; have Rb : BK w0 (w.heap.size + 1) (zA0 r s) := BY; (have hk := Rb.ca; dsimp only [CA, Nat.reduceAdd] at hk; repeat (obtain ⟨_, hk⟩ := hk)); have LRb := Rb.lt)
  | (go_at_call 9; (with_reducible refine (Z0i _).mono ?_); rintro e w9 ⟨rfl, hbw9⟩; have := hbw9.sz))
 all_goals go_ret
 all_goals exact ⟨rfl, EX⟩
theorem Z8J (p q r s : QC) (n : Int) (w : World) (hp : (decide ((p.n : Int) ≤ 20) && decide ((p.m : Int) ≤ 20)) = true) (hq : (decide ((q.n : Int) ≤ 20) && decide ((q.m : Int) ≤ 20)) = false) :
  Ca 3 #[.agg (zA0 p q), .agg (zA0 r s), .int .i64 n] w (fun e w' => e = .returned (.bool true) ∧ Ext w w') := by
 have HSp := zH (fun W => (by have := ZE p 20 W; rw [hp] at this; exact this : Ca 8 #[.agg #[.bool p.s, .slice p.A p.n p.c, .bool p.t, .slice p.B p.m p.d], .int .i64 20] W fun e w' => e = .returned (.bool true) ∧ Ext W w'))
 have HSq := zH (fun W => (by have := ZE q 20 W; rw [hq] at this; exact this : Ca 8 #[.agg #[.bool q.s, .slice q.A q.n q.c, .bool q.t, .slice q.B q.m q.d], .int .i64 20] W fun e w' => e = .returned (.bool false) ∧ Ext W w'))
 clear hp hq
 dsimp only [zA0]
 go_enter func3, ntmps3
 go_wp2_with (
  first
  | (go_at_call 8; (with_reducible refine (HSp.out _).mono ?_); rintro e w0 ⟨rfl, hbw0⟩; have := hbw0.sz; have Ra : BK w0 (w.heap.size) (zA0 p q) := BY; (have hk := Ra.ca; dsimp only [CA, Nat.reduceAdd] at hk; repeat (obtain ⟨_, hk⟩ := hk)); have LRa := Ra.lt; have Rb : BK w0 (w.heap.size + 1) (zA0 r s) := BY; (have hk := Rb.ca; dsimp only [CA, Nat.reduceAdd] at hk; repeat (obtain ⟨_, hk⟩ := hk)); have LRb := Rb.lt)
  | (go_at_call 8; (with_reducible refine (HSq.out _).mono ?_); rintro e w1 ⟨rfl, hbw1⟩; have := hbw1.sz; have Ra : BK w1 (w.heap.size) (zA0 p q) := BY; (have hk := Ra.ca; dsimp only [CA, Nat.reduceAdd] at hk; repeat (obtain ⟨_, hk⟩ := hk)); have LRa := Ra.lt; have Rb : BK w1 (w.heap.size + 1) (zA0 r s) := BY; (have hk := Rb.ca; dsimp only [CA, Nat.reduceAdd] at hk; repeat (obtain ⟨_, hk⟩ := hk)); have LRb := Rb.lt)
  | (go_at_call 9; (with_reducible refine (Z0i _).mono ?_); rintro e w9 ⟨rfl, hbw9⟩; have := hbw9.sz))
 all_goals go_ret
 all_goals exact ⟨rfl, EX⟩
theorem Z8I (p q r s : QC) (n : Int) (w : World) (hp : (decide ((p.n : Int) ≤ 20) && decide ((p.m : Int) ≤ 20)) = true) (hq : (decide ((q.n : Int) ≤ 20) && decide ((q.m : Int) ≤ 20)) = true) (hr : (decide ((r.n : Int) ≤ 20) && decide ((r.m : Int) ≤ 20)) = false) :
  Ca 3 #[.agg (zA0 p q), .agg (zA0 r s), .int .i64 n] w (fun e w' => e = .returned (.bool true) ∧ Ext w w') := by
 have HSp := zH (fun W => (by have := ZE p 20 W; rw [hp] at this; exact this : Ca 8 #[.agg #[.bool p.s, .slice p.A p.n p.c, .bool p.t, .slice p.B p.m p.d], .int .i64 20] W fun e w' => e = .returned (.bool true) ∧ Ext W w'))
 have HSq := zH (fun W => (by have := ZE q 20 W; rw [hq] at this; exact this : Ca 8 #[.agg #[.bool q.s, .slice q.A q.n q.c, .bool q.t, .slice q.B q.m q.d], .int .i64 20] W fun e w' => e = .returned (.bool true) ∧ Ext W w'))
 have HSr := zH (fun W => (by have := ZE r 20 W; rw [hr] at this; exact this : Ca 8 #[.agg #[.bool r.s, .slice r.A r.n r.c, .bool r.t, .slice r.B r.m r.d], .int .i64 20] W fun e w' => e = .returned (.bool false) ∧ Ext W w'))
 clear hp hq hr
 dsimp only [zA0]
 go_enter func3, ntmps3
 go_wp2_with (
  first
  | (go_at_call 8; (with_reducible refine (HSp.out _).mono ?_); rintro e w0 ⟨rfl, hbw0⟩; have := hbw0.sz; have Ra : BK w0 (w.heap.size) (zA0 p q) := BY; (have hk := Ra.ca; dsimp only [CA, Nat.reduceAdd] at hk; repeat (obtain ⟨_, hk⟩ := hk)); have LRa := Ra.lt; have Rb : BK w0 (w.heap.size + 1) (zA0 r s) := BY; (have hk := Rb.ca; dsimp only [CA, Nat.reduceAdd] at hk; repeat (obtain ⟨_, hk⟩ := hk)); have LRb := Rb.lt)
  | (go_at_call 8; (with_reducible refine (HSq.out _).mono ?_); rintro e w1 ⟨rfl, hbw1⟩; have := hbw1.sz; have Ra : BK w1 (w.heap.size) (zA0 p q) := BY; (have hk := Ra.ca; dsimp only [CA, Nat.reduceAdd] at hk; repeat (obtain ⟨_, hk⟩ := hk)); have LRa := Ra.lt; have Rb : BK w1 (w.heap.size + 1) (zA0 r s) := BY; (have hk := Rb.ca; dsimp only [CA, Nat.reduceAdd] at hk; repeat (obtain ⟨_, hk⟩ := hk)); have LRb := Rb.lt)
  | (go_at_call 8; (with_reducible refine (HSr.out _).mono ?_); rintro e w2 ⟨rfl, hbw2⟩; have := hbw2.sz; have Ra : BK w2 (w.heap.size) (zA0 p q) := BY; (have hk := Ra.ca; dsimp only [CA, Nat.reduceAdd] at hk; repeat (obtain ⟨_, hk⟩ := hk)); have LRa := Ra.lt; have Rb : BK w2 (w.heap.size + 1) (zA0 r s) := BY; (have hk := Rb.ca; dsimp only [CA, Nat.reduceAdd] at hk; repeat (obtain ⟨_, hk⟩ := hk)); have LRb := Rb.lt)
  | (go_at_call 9; (with_reducible refine (Z0i _).mono ?_); rintro e w9 ⟨rfl, hbw9⟩; have := hbw9.sz))
 all_goals go_ret
 all_goals exact ⟨rfl, EX⟩
theorem Z8H (p q r s : QC) (n : Int) (w : World) (hp : (decide ((p.n : Int) ≤ 20) && decide ((p.m : Int) ≤ 20)) = true) (hq : (decide ((q.n : Int) ≤ 20) && decide ((q.m : Int) ≤ 20)) = true) (hr : (decide ((r.n : Int) ≤ 20) && decide ((r.m : Int) ≤ 20)) = true) (hs : (decide ((s.n : Int) ≤ 20) && decide ((s.m : Int) ≤ 20)) = false) :
  Ca 3 #[.agg (zA0 p q), .agg (zA0 r s), .int .i64 n] w (fun e w' => e = .returned (.bool true) ∧ Ext w w') := by
 have HSp := zH (fun W => (by have := ZE p 20 W; rw [hp] at this; exact this : Ca 8 #[.agg #[.bool p.s, .slice p.A p.n p.c, .bool p.t, .slice p.B p.m p.d], .int .i64 20] W fun e w' => e = .returned (.bool true) ∧ Ext W w'))
 have HSq := zH (fun W => (by have := ZE q 20 W; rw [hq] at this; exact this : Ca 8 #[.agg #[.bool q.s, .slice q.A q.n q.c, .bool q.t, .slice q.B q.m q.d], .int .i64 20] W fun e w' => e = .returned (.bool true) ∧ Ext W w'))
 have HSr := zH (fun W => (by have := ZE r 20 W; rw [hr] at this; exact this : Ca 8 #[.agg #[.bool r.s, .slice r.A r.n r.c, .bool r.t, .slice r.B r.m r.d], .int .i64 20] W fun e w' => e = .returned (.bool true) ∧ Ext W w'))
 have HSs := zH (fun W => (by have := ZE s 20 W; rw [hs] at this; exact this : Ca 8 #[.agg #[.bool s.s, .slice s.A s.n s.c, .bool s.t, .slice s.B s.m s.d], .int .i64 20] W fun e w' => e = .returned (.bool false) ∧ Ext W w'))
 clear hp hq hr hs
 dsimp only [zA0]
 go_enter func3, ntmps3
 go_wp2_with (
  first
  | (go_at_call 8; (with_reducible refine (HSp.out _).mono ?_); rintro e w0 ⟨rfl, hbw0⟩; have := hbw0.sz; have Ra : BK w0 (w.heap.size) (zA0 p q) := BY; (have hk := Ra.ca; dsimp only [CA, Nat.reduceAdd] at hk; repeat (obtain ⟨_, hk⟩ := hk)); have LRa := Ra.lt; have Rb : BK w0 (w.heap.size + 1) (zA0 r s) := BY; (have hk := Rb.ca; dsimp only [CA, Nat.reduceAdd] at hk; repeat (obtain ⟨_, hk⟩ := hk)); have LRb := Rb.lt)
  | (go_at_call 8; (with_reducible refine (HSq.out _).mono ?_); rintro e w1 ⟨rfl, hbw1⟩; have := hbw1.sz; have Ra : BK w1 (w.heap.size) (zA0 p q) := BY; (have hk := Ra.ca; dsimp only [CA, Nat.reduceAdd] at hk; repeat (obtain ⟨_, hk⟩ := hk)); have LRa := Ra.lt; have Rb : BK w1 (w.heap.size + 1) (zA0 r s) := BY; (have hk := Rb.ca; dsimp only [CA, Nat.reduceAdd] at hk; repeat (obtain ⟨_, hk⟩ := hk)); have LRb := Rb.lt)
  | (go_at_call 8; (with_reducible refine (HSr.out _).mono ?_); rintro e w2 ⟨rfl, hbw2⟩; have := hbw2.sz; have Ra : BK w2 (w.heap.size) (zA0 p q) := BY; (have hk := Ra.ca; dsimp only [CA, Nat.reduceAdd] at hk; repeat (obtain ⟨_, hk⟩ := hk)); have LRa := Ra.lt; have Rb : BK w2 (w.heap.size + 1) (zA0 r s) := BY; (have hk := Rb.ca; dsimp only [CA, Nat.reduceAdd] at hk; repeat (obtain ⟨_, hk⟩ := hk)); have LRb := Rb.lt)
  | (go_at_call 8; (with_reducible refine (HSs.out _).mono ?_); rintro e w3 ⟨rfl, hbw3⟩; have := hbw3.sz; have Ra : BK w3 (w.heap.size) (zA0 p q) := BY; (have hk := Ra.ca; dsimp only [CA, Nat.reduceAdd] at hk; repeat (obtain ⟨_, hk⟩ := hk)); have LRa := Ra.lt; have Rb : BK w3 (w.heap.size + 1) (zA0 r s) := BY; (have hk := Rb.ca; dsimp only [CA, Nat.reduceAdd] at hk; repeat (obtain ⟨_, hk⟩ := hk)); have LRb := Rb.lt)
  | (go_at_call 9; (with_reducible refine (Z0i _).mono ?_); rintro e w9 ⟨rfl, hbw9⟩; have := hbw9.sz))
 all_goals go_ret
 all_goals exact ⟨rfl, EX⟩
def stm : Nat → Code → Code
 | 0, .seq a _ => a
 | k + 1, .seq _ b => stm k b
 | _, c => c
def suf : Nat → Code → Code
 | 0, c => c
 | k + 1, .seq _ b => suf k b
 | _, c => c
def Zq (f : Func) : Code := match f.body with | some c => c | none => .skip
theorem Zd5 {P : Program} {Q : Exit → Act → World → Prop} {a : Act} {w : World} {x y : Code} (N : Act → World → Prop) (h : Code.wp P x (ZW N) a w) (k : ∀ a w, N a w → Code.wp P y Q a w) : Code.wp P (x.seq y) Q a w :=
 wp_seq (Code.wp_mono (by
  rintro e a w h
  cases e with
  | normal => exact k _ _ h
  | ret => exact h.elim
  | exit id => exact h.elim
  | goto t => exact h.elim
  | panic ch => exact h.elim
  | outgrown => exact h.elim) h)
def Z1v (p q r s : QC) (n : Int) (w : World) : Act → World → Prop := Su 144 [(2, .int .i64 n), (3, .pointer (some ⟨w.heap.size, 0, none⟩)), (4, .pointer (some ⟨w.heap.size + 1, 0, none⟩))] (fun W => Ext w W ∧ BK W w.heap.size (zA0 p q) ∧ BK W (w.heap.size + 1) (zA0 r s))
theorem Z0b {Q : Exit → Act → World → Prop} {N M : Act → World → Prop} (k : Nat) (h : ∀ a W, N a W → Code.wp Tryz.prog (stm k (Zq Tryz.f3)) (ZW M) a W) (g : ∀ a W, M a W → Code.wp Tryz.prog (suf (k + 1) (Zq Tryz.f3)) Q a W)
  (hk : suf k (Zq Tryz.f3) = .seq (stm k (Zq Tryz.f3)) (suf (k + 1) (Zq Tryz.f3)) := by kernel_rfl) : ∀ a W, N a W → Code.wp Tryz.prog (suf k (Zq Tryz.f3)) Q a W := fun a W hN => by
 rw [hk]; exact Zd5 M (h a W hN) g
theorem ZcA (p q r s : QC) (n : Int) (w : World) (R : Ending → World → Prop) (hR : ∀ a W, Z1v p q r s n w a W → Code.wp Tryz.prog (suf 1 (Zq Tryz.f3)) (bodyPost Tryz.prog Tryz.f3 R) a W) :
  Ca 3 #[.agg (zA0 p q), .agg (zA0 r s), .int .i64 n] w R := by
 dsimp only [zA0]
 go_enter func3, ntmps3
 refine Zd5 (Z1v p q r s n w) ?_ hR
 go_wp2_with fail
 show Z1v p q r s n w _ _
 unfold Z1v
 exact Su.mk ⟨EX, BY, BY⟩
theorem Zcz (p q r s : QC) (n : Int) (w : World) (hSp : ∀ W, Ca 8 #[.agg #[.bool p.s, .slice p.A p.n p.c, .bool p.t, .slice p.B p.m p.d], .int .i64 20] W fun e w' => e = .returned (.bool true) ∧ Ext W w') (hSq : ∀ W, Ca 8 #[.agg #[.bool q.s, .slice q.A q.n q.c, .bool q.t, .slice q.B q.m q.d], .int .i64 20] W fun e w' => e = .returned (.bool true) ∧ Ext W w') (hSr : ∀ W, Ca 8 #[.agg #[.bool r.s, .slice r.A r.n r.c, .bool r.t, .slice r.B r.m r.d], .int .i64 20] W fun e w' => e = .returned (.bool true) ∧ Ext W w') (hSs : ∀ W, Ca 8 #[.agg #[.bool s.s, .slice s.A s.n s.c, .bool s.t, .slice s.B s.m s.d], .int .i64 20] W fun e w' => e = .returned (.bool true) ∧ Ext W w') : ∀ a W, Z1v p q r s n w a W → Code.wp Tryz.prog (stm 1 (Zq Tryz.f3)) (ZW (Z1v p q r s n w)) a W := by
 have hmw : 200000 < Z8 := by decide
 have HSp := zH hSp
 clear hSp
 have HSq := zH hSq
 clear hSq
 have HSr := zH hSr
 clear hSr
 have HSs := zH hSs
 clear hSs
 rintro a V ⟨U, rfl, hW, Ra, Rb⟩
 have LwV := hW.size
 dsimp only [suf, stm, Zq, Tryz.f3]
 dsimp only [fr, frl, Nat.reduceBEq, Nat.reduceAdd, cond_true, cond_false]
 (have hk := Ra.ca; dsimp only [CA, Nat.reduceAdd] at hk; repeat (obtain ⟨_, hk⟩ := hk)); have LRa := Ra.lt
 (have hk := Rb.ca; dsimp only [CA, Nat.reduceAdd] at hk; repeat (obtain ⟨_, hk⟩ := hk)); have LRb := Rb.lt
 go_wp2_with (
   first
   | (go_at_call 8; (with_reducible refine (HSp.out _).mono ?_); rintro e w0 ⟨rfl, hbw0⟩; have := hbw0.sz; have Ra : BK w0 (w.heap.size) (zA0 p q) := BY; (have hk := Ra.ca; dsimp only [CA, Nat.reduceAdd] at hk; repeat (obtain ⟨_, hk⟩ := hk)); have LRa := Ra.lt; have Rb : BK w0 (w.heap.size + 1) (zA0 r s) := BY; (have hk := Rb.ca; dsimp only [CA, Nat.reduceAdd] at hk; repeat (obtain ⟨_, hk⟩ := hk)); have LRb := Rb.lt)
   | (go_at_call 8; (with_reducible refine (HSq.out _).mono ?_); rintro e w1 ⟨rfl, hbw1⟩; have := hbw1.sz; have Ra : BK w1 (w.heap.size) (zA0 p q) := BY; (have hk := Ra.ca; dsimp only [CA, Nat.reduceAdd] at hk; repeat (obtain ⟨_, hk⟩ := hk)); have LRa := Ra.lt; have Rb : BK w1 (w.heap.size + 1) (zA0 r s) := BY; (have hk := Rb.ca; dsimp only [CA, Nat.reduceAdd] at hk; repeat (obtain ⟨_, hk⟩ := hk)); have LRb := Rb.lt)
   | (go_at_call 8; (with_reducible refine (HSr.out _).mono ?_); rintro e w2 ⟨rfl, hbw2⟩; have := hbw2.sz; have Ra : BK w2 (w.heap.size) (zA0 p q) := BY; (have hk := Ra.ca; dsimp only [CA, Nat.reduceAdd] at hk; repeat (obtain ⟨_, hk⟩ := hk)); have LRa := Ra.lt; have Rb : BK w2 (w.heap.size + 1) (zA0 r s) := BY; (have hk := Rb.ca; dsimp only [CA, Nat.reduceAdd] at hk; repeat (obtain ⟨_, hk⟩ := hk)); have LRb := Rb.lt)
   | (go_at_call 8; (with_reducible refine (HSs.out _).mono ?_); rintro e w3 ⟨rfl, hbw3⟩; have := hbw3.sz; have Ra : BK w3 (w.heap.size) (zA0 p q) := BY; (have hk := Ra.ca; dsimp only [CA, Nat.reduceAdd] at hk; repeat (obtain ⟨_, hk⟩ := hk)); have LRa := Ra.lt; have Rb : BK w3 (w.heap.size + 1) (zA0 r s) := BY; (have hk := Rb.ca; dsimp only [CA, Nat.reduceAdd] at hk; repeat (obtain ⟨_, hk⟩ := hk)); have LRb := Rb.lt))
 show Z1v p q r s n w _ _
 unfold Z1v
 exact Su.mk ⟨EX, BY, BY⟩
theorem Zcy (p q r s : QC) (n : Int) (w : World) (va vb : Bool) (Ibp : ∀ W, Ext w W → Ca 10 #[.agg #[.bool p.s, .slice p.A p.n p.c, .bool p.t, .slice p.B p.m p.d, .bool q.s, .slice q.A q.n q.c, .bool q.t, .slice q.B q.m q.d]] W fun e w' => e = .returned (.bool va) ∧ Ext W w') (Ibr : ∀ W, Ext w W → Ca 10 #[.agg #[.bool r.s, .slice r.A r.n r.c, .bool r.t, .slice r.B r.m r.d, .bool s.s, .slice s.A s.n s.c, .bool s.t, .slice s.B s.m s.d]] W fun e w' => e = .returned (.bool vb) ∧ Ext W w') (Irp : ∀ W, Ext w W → Ca 11 #[.agg #[.bool p.s, .slice p.A p.n p.c, .bool p.t, .slice p.B p.m p.d, .bool q.s, .slice q.A q.n q.c, .bool q.t, .slice q.B q.m q.d]] W fun e w' => e = .returned (.bool va) ∧ Ext W w') (Irr : ∀ W, Ext w W → Ca 11 #[.agg #[.bool r.s, .slice r.A r.n r.c, .bool r.t, .slice r.B r.m r.d, .bool s.s, .slice s.A s.n s.c, .bool s.t, .slice s.B s.m s.d]] W fun e w' => e = .returned (.bool vb) ∧ Ext W w') : ∀ a W, Z1v p q r s n w a W → Code.wp Tryz.prog (stm 2 (Zq Tryz.f3)) (ZW (Z1v p q r s n w)) a W := by
 have hmw : 200000 < Z8 := by decide
 have Jbp := zH Ibp
 clear Ibp
 have Jbr := zH Ibr
 clear Ibr
 have Jrp := zH Irp
 clear Irp
 have Jrr := zH Irr
 clear Irr
 have ba : (va != va) = false := bne_self_eq_false va
 have bb : (vb != vb) = false := bne_self_eq_false vb
 rintro a V ⟨U, rfl, hW, Ra, Rb⟩
 have LwV := hW.size
 dsimp only [suf, stm, Zq, Tryz.f3]
 dsimp only [fr, frl, Nat.reduceBEq, Nat.reduceAdd, cond_true, cond_false]
 (have hk := Ra.ca; dsimp only [CA, Nat.reduceAdd] at hk; repeat (obtain ⟨_, hk⟩ := hk)); have LRa := Ra.lt
 (have hk := Rb.ca; dsimp only [CA, Nat.reduceAdd] at hk; repeat (obtain ⟨_, hk⟩ := hk)); have LRb := Rb.lt
 refine wp_seq ?_
 refine Zc _ (fun w' => CB w' (w.heap.size) 0 (Z2H p q) ∧ CB w' (w.heap.size + 1) 0 (Z2H r s)) Z0a (fun _ _ h => h) (by dsimp only [CB, Nat.reduceAdd]; exact KQ) ?_
 dsimp only [CB, Nat.reduceAdd]
 intro hHeld
 refine TH 0 ?_; refine TH 2 ?_
 refine R1H 1 fun K hK => ?_
 go_simp
 refine (Jbp.out _ EX).mono ?_; rintro e x1 ⟨rfl, hbx1⟩; have := hbx1.sz
 refine KH hK fun _ => ?_; clear hK K
 refine R1H 3 fun K hK => ?_
 go_simp
 refine (Jrp.out _ EX).mono ?_; rintro e x3 ⟨rfl, hbx3⟩; have := hbx3.sz
 refine KH hK fun _ => ?_; clear hK K
 refine TH 4 ?_; refine TH 5 ?_; refine TH 6 ?_; refine TH 8 ?_
 refine R1H 7 fun K hK => ?_
 go_simp
 refine (Jbr.out _ EX).mono ?_; rintro e x7 ⟨rfl, hbx7⟩; have := hbx7.sz
 refine KH hK fun _ => ?_; clear hK K
 refine R1H 9 fun K hK => ?_
 go_simp
 refine (Jrr.out _ EX).mono ?_; rintro e x9 ⟨rfl, hbx9⟩; have := hbx9.sz
 refine KH hK fun _ => ?_; clear hK K
 refine TH 10 ?_; refine TH 11 ?_
 refine wpAnyH_done (by kernel_rfl) ?_ _
 dsimp only [ZW, Exit.then]
 go_wp2_with fail
 show Z1v p q r s n w _ _
 unfold Z1v
 exact Su.mk ⟨EX, BY, BY⟩
theorem Zdn (p q r s : QC) (n : Int) (w : World) (Irp : ∀ W, Ext w W → Ca 11 #[.agg #[.bool p.s, .slice p.A p.n p.c, .bool p.t, .slice p.B p.m p.d, .bool q.s, .slice q.A q.n q.c, .bool q.t, .slice q.B q.m q.d]] W fun e w' => e = .returned (.bool true) ∧ Ext W w') (Irr : ∀ W, Ext w W → Ca 11 #[.agg #[.bool r.s, .slice r.A r.n r.c, .bool r.t, .slice r.B r.m r.d, .bool s.s, .slice s.A s.n s.c, .bool s.t, .slice s.B s.m s.d]] W fun e w' => e = .returned (.bool true) ∧ Ext W w') : ∀ a W, Z1v p q r s n w a W → Code.wp Tryz.prog (stm 3 (Zq Tryz.f3)) (ZW (Z1v p q r s n w)) a W := by
 have hmw : 200000 < Z8 := by decide
 have Jrp := zH Irp
 clear Irp
 have Jrr := zH Irr
 clear Irr
 rintro a V ⟨U, rfl, hW, Ra, Rb⟩
 have LwV := hW.size
 dsimp only [suf, stm, Zq, Tryz.f3]
 dsimp only [fr, frl, Nat.reduceBEq, Nat.reduceAdd, cond_true, cond_false]
 (have hk := Ra.ca; dsimp only [CA, Nat.reduceAdd] at hk; repeat (obtain ⟨_, hk⟩ := hk)); have LRa := Ra.lt
 (have hk := Rb.ca; dsimp only [CA, Nat.reduceAdd] at hk; repeat (obtain ⟨_, hk⟩ := hk)); have LRb := Rb.lt
 go_wp2_with (
   first
   | (go_at_call 11; (with_reducible refine (Jrp.out _ EX).mono ?_); rintro e z1 ⟨rfl, hbz1⟩; have := hbz1.sz; have Ra : BK z1 (w.heap.size) (zA0 p q) := BY; (have hk := Ra.ca; dsimp only [CA, Nat.reduceAdd] at hk; repeat (obtain ⟨_, hk⟩ := hk)); have LRa := Ra.lt; have Rb : BK z1 (w.heap.size + 1) (zA0 r s) := BY; (have hk := Rb.ca; dsimp only [CA, Nat.reduceAdd] at hk; repeat (obtain ⟨_, hk⟩ := hk)); have LRb := Rb.lt)
   | (go_at_call 11; (with_reducible refine (Jrr.out _ EX).mono ?_); rintro e z2 ⟨rfl, hbz2⟩; have := hbz2.sz; have Ra : BK z2 (w.heap.size) (zA0 p q) := BY; (have hk := Ra.ca; dsimp only [CA, Nat.reduceAdd] at hk; repeat (obtain ⟨_, hk⟩ := hk)); have LRa := Ra.lt; have Rb : BK z2 (w.heap.size + 1) (zA0 r s) := BY; (have hk := Rb.ca; dsimp only [CA, Nat.reduceAdd] at hk; repeat (obtain ⟨_, hk⟩ := hk)); have LRb := Rb.lt))
 show Z1v p q r s n w _ _
 unfold Z1v
 exact Su.mk ⟨EX, BY, BY⟩
theorem ZcS (p q r s : QC) (n : Int) (w : World) (vb : Bool) (Irp : ∀ W, Ext w W → Ca 11 #[.agg #[.bool p.s, .slice p.A p.n p.c, .bool p.t, .slice p.B p.m p.d, .bool q.s, .slice q.A q.n q.c, .bool q.t, .slice q.B q.m q.d]] W fun e w' => e = .returned (.bool false) ∧ Ext W w') (Irr : ∀ W, Ext w W → Ca 11 #[.agg #[.bool r.s, .slice r.A r.n r.c, .bool r.t, .slice r.B r.m r.d, .bool s.s, .slice s.A s.n s.c, .bool s.t, .slice s.B s.m s.d]] W fun e w' => e = .returned (.bool vb) ∧ Ext W w') : ∀ a W, Z1v p q r s n w a W → Code.wp Tryz.prog (suf 3 (Zq Tryz.f3)) (bodyPost Tryz.prog Tryz.f3 (fun e w' => e = .returned (.bool true) ∧ Ext w w')) a W := by
 have hmw : 200000 < Z8 := by decide
 have Jrp := zH Irp
 clear Irp
 have Jrr := zH Irr
 clear Irr
 rintro a V ⟨U, rfl, hW, Ra, Rb⟩
 have LwV := hW.size
 dsimp only [suf, stm, Zq, Tryz.f3]
 dsimp only [fr, frl, Nat.reduceBEq, Nat.reduceAdd, cond_true, cond_false]
 (have hk := Ra.ca; dsimp only [CA, Nat.reduceAdd] at hk; repeat (obtain ⟨_, hk⟩ := hk)); have LRa := Ra.lt
 (have hk := Rb.ca; dsimp only [CA, Nat.reduceAdd] at hk; repeat (obtain ⟨_, hk⟩ := hk)); have LRb := Rb.lt
 go_wp2_with (
   first
   | (go_at_call 11; (with_reducible refine (Jrp.out _ EX).mono ?_); rintro e z1 ⟨rfl, hbz1⟩; have := hbz1.sz; have Ra : BK z1 (w.heap.size) (zA0 p q) := BY; (have hk := Ra.ca; dsimp only [CA, Nat.reduceAdd] at hk; repeat (obtain ⟨_, hk⟩ := hk)); have LRa := Ra.lt; have Rb : BK z1 (w.heap.size + 1) (zA0 r s) := BY; (have hk := Rb.ca; dsimp only [CA, Nat.reduceAdd] at hk; repeat (obtain ⟨_, hk⟩ := hk)); have LRb := Rb.lt)
   | (go_at_call 11; (with_reducible refine (Jrr.out _ EX).mono ?_); rintro e z2 ⟨rfl, hbz2⟩; have := hbz2.sz; have Ra : BK z2 (w.heap.size) (zA0 p q) := BY; (have hk := Ra.ca; dsimp only [CA, Nat.reduceAdd] at hk; repeat (obtain ⟨_, hk⟩ := hk)); have LRa := Ra.lt; have Rb : BK z2 (w.heap.size + 1) (zA0 r s) := BY; (have hk := Rb.ca; dsimp only [CA, Nat.reduceAdd] at hk; repeat (obtain ⟨_, hk⟩ := hk)); have LRb := Rb.lt)
   | (go_at_call 9; (with_reducible refine (Z0i _).mono ?_); rintro e z3 ⟨rfl, hbz3⟩; have := hbz3.sz))
 all_goals go_ret
 all_goals exact ⟨rfl, EX⟩
theorem ZcR (p q r s : QC) (n : Int) (w : World) (Irp : ∀ W, Ext w W → Ca 11 #[.agg #[.bool p.s, .slice p.A p.n p.c, .bool p.t, .slice p.B p.m p.d, .bool q.s, .slice q.A q.n q.c, .bool q.t, .slice q.B q.m q.d]] W fun e w' => e = .returned (.bool true) ∧ Ext W w') (Irr : ∀ W, Ext w W → Ca 11 #[.agg #[.bool r.s, .slice r.A r.n r.c, .bool r.t, .slice r.B r.m r.d, .bool s.s, .slice s.A s.n s.c, .bool s.t, .slice s.B s.m s.d]] W fun e w' => e = .returned (.bool false) ∧ Ext W w') : ∀ a W, Z1v p q r s n w a W → Code.wp Tryz.prog (suf 3 (Zq Tryz.f3)) (bodyPost Tryz.prog Tryz.f3 (fun e w' => e = .returned (.bool true) ∧ Ext w w')) a W := by
 have hmw : 200000 < Z8 := by decide
 have Jrp := zH Irp
 clear Irp
 have Jrr := zH Irr
 clear Irr
 rintro a V ⟨U, rfl, hW, Ra, Rb⟩
 have LwV := hW.size
 dsimp only [suf, stm, Zq, Tryz.f3]
 dsimp only [fr, frl, Nat.reduceBEq, Nat.reduceAdd, cond_true, cond_false]
 (have hk := Ra.ca; dsimp only [CA, Nat.reduceAdd] at hk; repeat (obtain ⟨_, hk⟩ := hk)); have LRa := Ra.lt
 (have hk := Rb.ca; dsimp only [CA, Nat.reduceAdd] at hk; repeat (obtain ⟨_, hk⟩ := hk)); have LRb := Rb.lt
 go_wp2_with (
   first
   | (go_at_call 11; (with_reducible refine (Jrp.out _ EX).mono ?_); rintro e z1 ⟨rfl, hbz1⟩; have := hbz1.sz; have Ra : BK z1 (w.heap.size) (zA0 p q) := BY; (have hk := Ra.ca; dsimp only [CA, Nat.reduceAdd] at hk; repeat (obtain ⟨_, hk⟩ := hk)); have LRa := Ra.lt; have Rb : BK z1 (w.heap.size + 1) (zA0 r s) := BY; (have hk := Rb.ca; dsimp only [CA, Nat.reduceAdd] at hk; repeat (obtain ⟨_, hk⟩ := hk)); have LRb := Rb.lt)
   | (go_at_call 11; (with_reducible refine (Jrr.out _ EX).mono ?_); rintro e z2 ⟨rfl, hbz2⟩; have := hbz2.sz; have Ra : BK z2 (w.heap.size) (zA0 p q) := BY; (have hk := Ra.ca; dsimp only [CA, Nat.reduceAdd] at hk; repeat (obtain ⟨_, hk⟩ := hk)); have LRa := Ra.lt; have Rb : BK z2 (w.heap.size + 1) (zA0 r s) := BY; (have hk := Rb.ca; dsimp only [CA, Nat.reduceAdd] at hk; repeat (obtain ⟨_, hk⟩ := hk)); have LRb := Rb.lt)
   | (go_at_call 9; (with_reducible refine (Z0i _).mono ?_); rintro e z3 ⟨rfl, hbz3⟩; have := hbz3.sz))
 all_goals go_ret
 all_goals exact ⟨rfl, EX⟩
theorem Z9B {u v : Rat} (h : u ≤ v) (hz : (decide (u.num ≤ 0) && decide (0 ≤ v.num)) = false) : u ≠ 0 ∧ v ≠ 0 := by
 constructor
 ·rintro rfl
  have : (0 : Int) ≤ v.num := Rat.num_nonneg.2 h
  simp [this] at hz
 ·rintro rfl
  have h1 : ¬ u.num ≤ 0 := by
   intro h2
   simp [h2] at hz
  have h3 : (0 : Rat) ≤ u := Rat.num_nonneg.1 (by omega)
  have h4 : u = 0 := Rat.le_antisymm h h3
  rw [h4] at h1
  exact h1 (by decide)
theorem Zcj {n : Int} (h : n < 0) : (decide (0 ≤ n) && decide (n ≤ 400)) = false := by simp; omega
theorem Zap {n : Int} (h : 400 < n) : (decide (0 ≤ n) && decide (n ≤ 400)) = false := by simp; omega
theorem Zc3 {n : Int} (h : 0 ≤ n) (k : n ≤ 400) : (decide (0 ≤ n) && decide (n ≤ 400)) = true := by simp; omega
theorem Z5S (a b c d : Rat) : qm (Z1m a b c d) ≤ qm a + qm b + qm c + qm d := by
 unfold Z1m
 have h1 := Z2c a b
 have h2 := Z2c c d
 have h3 := Z2c (Z0q a b) (Z0q c d)
 omega
theorem Z7L (a b c d : Rat) : qm (Z2n a b c d) ≤ qm a + qm b + qm c + qm d := by
 unfold Z2n
 have h1 := Z1z a b
 have h2 := Z1z c d
 have h3 := Z1z (Z0h a b) (Z0h c d)
 omega
theorem Zat (x y u v : Rat) (hu : u ≠ 0) (hv : v ≠ 0) (gx : qm x ≤ 40) (gy : qm y ≤ 40) (gu : qm u ≤ 40) (gv : qm v ≤ 40) : qm (Z5y x y u v) ≤ 1000 ∧ qm (Z5z x y u v) ≤ 1000 := by
 have i1 := Z31 v hv
 have i2 := Z31 u hu
 unfold Z5y Z5z
 generalize ((1 : Int) : Rat) / v = iv at *
 generalize ((1 : Int) : Rat) / u = iu at *
 have f1 := Z09 x iv
 have f2 := Z09 x iu
 have f3 := Z09 y iv
 have f4 := Z09 y iu
 have f5 := Z5S (x * iv) (x * iu) (y * iv) (y * iu)
 have f6 := Z7L (x * iv) (x * iu) (y * iv) (y * iu)
 omega
theorem Zas (x y : Rat) (n : Int) (h0 : 0 ≤ n) (h1 : n ≤ 400) (gx : qm x ≤ 40) (gy : qm y ≤ 40) : qm (Zl x n) ≤ 1000 ∧ qm (-Zl (-y) n) ≤ 1000 := by
 have gd1 := Z4F x n
 have gd2 := Z4F (-y) n
 rw [Z22] at gd2
 have gd3 := Z22 (Zl (-y) n)
 have : n.natAbs / 32 ≤ 13 := by omega
 omega
theorem Zdm (p q r s : QC) (n : Int) (w : World) (x y u v : Rat) (hp : p.At w x) (hq : q.At w y) (hr : r.At w u) (hs : s.At w v) (gx : qm x ≤ 40) (gy : qm y ≤ 40) (gu : qm u ≤ 40) (gv : qm v ≤ 40) : ∀ a W, Z1v p q r s n w a W → Code.wp Tryz.prog (stm 4 (Zq Tryz.f3)) (ZW (Z1v p q r s n w)) a W := by
 have hmw : 200000 < Z8 := by decide
 have HP := zH hp
 have HQ := zH hq
 have HR := zH hr
 have HatS := zH hs
 clear hp hq hr hs
 have e1 := Z4l x u
 have e2 := Z4l y v
 have e3 := Z5n x v
 have e4 := Z5n y u
 have e5 := Z09 x u
 have e6 := Z09 x v
 have e7 := Z09 y u
 have e8 := Z09 y v
 have e9 := Z5S (x * u) (x * v) (y * u) (y * v)
 have e10 := Z7L (x * u) (x * v) (y * u) (y * v)
 rintro a V ⟨U, rfl, hW, Ra, Rb⟩
 have LwV := hW.size
 dsimp only [suf, stm, Zq, Tryz.f3]
 dsimp only [fr, frl, Nat.reduceBEq, Nat.reduceAdd, cond_true, cond_false]
 (have hk := Ra.ca; dsimp only [CA, Nat.reduceAdd] at hk; repeat (obtain ⟨_, hk⟩ := hk)); have LRa := Ra.lt
 (have hk := Rb.ca; dsimp only [CA, Nat.reduceAdd] at hk; repeat (obtain ⟨_, hk⟩ := hk)); have LRb := Rb.lt
 refine wp_seq ?_
 refine Zc _ (fun w' => CB w' (w.heap.size) 0 (Z2H p q) ∧ CB w' (w.heap.size + 1) 0 (Z2H r s)) Z0a (fun _ _ h => h) (by dsimp only [CB, Nat.reduceAdd]; exact KQ) ?_
 dsimp only [CB, Nat.reduceAdd]
 intro hHeld
 refine TH 0 ?_; refine TH 1 ?_; refine TH 3 ?_; refine TH 4 ?_
 refine R1H 2 fun K hK => ?_
 go_simp
 refine (Z9i p q r s x y u v _ QX QX QX QX (by omega)).mono ?_; refine rBz ?_; intro x2 px2 qx2 Hx2 Kx2 hbx2 hzx2
 refine KH hK fun _ => ?_; clear hK K
 refine R1H 5 fun K hK => ?_
 go_simp
 refine (Z9H p q r s x y u v _ QX QX QX QX (by omega)).mono ?_; refine rBz ?_; intro x5 px5 qx5 Hx5 Kx5 hbx5 hzx5
 refine KH hK fun _ => ?_; clear hK K
 refine R1H 6 fun K hK => ?_
 go_simp
 refine (Z0S px2 qx2 px5 qx5 (x + u) (y + v) (x + u) (y + v) _ QX QX QX QX rfl rfl (by omega)).mono ?_; rintro e x6 ⟨rfl, hbx6⟩; have := hbx6.sz
 refine KH hK fun _ => ?_; clear hK K
 refine TH 7 ?_; refine TH 8 ?_; refine TH 9 ?_; refine TH 10 ?_; refine TH 12 ?_; refine TH 13 ?_
 refine R1H 11 fun K hK => ?_
 go_simp
 refine (Z9f p q r s x y u v _ QX QX QX QX (by omega)).mono ?_; refine rBz ?_; intro x11 px11 qx11 Hx11 Kx11 hbx11 hzx11
 refine KH hK fun _ => ?_; clear hK K
 refine R1H 14 fun K hK => ?_
 go_simp
 refine (Z9E p q r s x y u v _ QX QX QX QX (by omega)).mono ?_; refine rBz ?_; intro x14 px14 qx14 Hx14 Kx14 hbx14 hzx14
 refine KH hK fun _ => ?_; clear hK K
 refine R1H 15 fun K hK => ?_
 go_simp
 refine (Z0S px11 qx11 px14 qx14 (x - v) (y - u) (x - v) (y - u) _ QX QX QX QX rfl rfl (by omega)).mono ?_; rintro e x15 ⟨rfl, hbx15⟩; have := hbx15.sz
 refine KH hK fun _ => ?_; clear hK K
 refine TH 16 ?_; refine TH 17 ?_; refine TH 18 ?_; refine TH 19 ?_; refine TH 20 ?_; refine TH 22 ?_; refine TH 23 ?_
 refine R1H 21 fun K hK => ?_
 go_simp
 refine (Z9g p q r s x y u v _ QX QX QX QX (by omega)).mono ?_; refine rBz ?_; intro x21 px21 qx21 Hx21 Kx21 hbx21 hzx21
 refine KH hK fun _ => ?_; clear hK K
 refine R1H 24 fun K hK => ?_
 go_simp
 refine (Z65 p q r s x y u v _ QX QX QX QX (by omega)).mono ?_; refine rBz ?_; intro x24 px24 qx24 Hx24 Kx24 hbx24 hzx24
 refine KH hK fun _ => ?_; clear hK K
 refine R1H 25 fun K hK => ?_
 go_simp
 refine (Z0S px21 qx21 px24 qx24 (Z1m (x * u) (x * v) (y * u) (y * v)) (Z2n (x * u) (x * v) (y * u) (y * v)) (Z1m (x * u) (x * v) (y * u) (y * v)) (Z2n (x * u) (x * v) (y * u) (y * v)) _ QX QX QX QX rfl rfl (by omega)).mono ?_; rintro e x25 ⟨rfl, hbx25⟩; have := hbx25.sz
 refine KH hK fun _ => ?_; clear hK K
 refine TH 26 ?_; refine TH 27 ?_
 refine wpAnyH_done (by kernel_rfl) ?_ _
 dsimp only [ZW, Exit.then]
 go_wp2_with fail
 show Z1v p q r s n w _ _
 unfold Z1v
 exact Su.mk ⟨EX, BY, BY⟩
def Zcf (p q r s : QC) (n : Int) (w : World) : Act → World → Prop := Su 144 [(2, .int .i64 n), (3, .pointer (some ⟨w.heap.size, 0, none⟩)), (4, .pointer (some ⟨w.heap.size + 1, 0, none⟩)), (8, .int .i64 5)] (fun W => Ext w W ∧ BK W w.heap.size (zA0 p q) ∧ BK W (w.heap.size + 1) (zA0 r s))
def Zde (p q r s : QC) (n : Int) (w : World) (lo hi : Rat) (A : Act) (W : World) : Prop := ∃ (g : Nat) (a b : QC) (U : Nat → Value), A = fr 144 U [(2, .int .i64 n), (3, .pointer (some ⟨w.heap.size, 0, none⟩)), (4, .pointer (some ⟨w.heap.size + 1, 0, none⟩)), (7, .pointer (some ⟨g, 0, none⟩)), (8, .int .i64 0)] ∧ Ext w W ∧ BK W w.heap.size (zA0 p q) ∧ BK W (w.heap.size + 1) (zA0 r s) ∧ BK W g (zA0 a b) ∧ a.At W lo ∧ b.At W hi
def ZbU (p q r s : QC) (n : Int) (w : World) (lo hi : Rat) (A : Act) (W : World) : Prop := ∃ (g : Nat) (a b : QC) (U : Nat → Value), A = fr 144 U [(2, .int .i64 n), (3, .pointer (some ⟨w.heap.size, 0, none⟩)), (4, .pointer (some ⟨w.heap.size + 1, 0, none⟩)), (8, .int .i64 0), (9, .pointer (some ⟨g, 0, none⟩))] ∧ Ext w W ∧ BK W w.heap.size (zA0 p q) ∧ BK W (w.heap.size + 1) (zA0 r s) ∧ BK W g (zA0 a b) ∧ a.At W lo ∧ b.At W hi
def ZbV (p q r s : QC) (n : Int) (w : World) : Act → World → Prop := Su 144 [(2, .int .i64 n), (3, .pointer (some ⟨w.heap.size, 0, none⟩)), (4, .pointer (some ⟨w.heap.size + 1, 0, none⟩)), (8, .int .i64 1)] (fun W => Ext w W ∧ BK W w.heap.size (zA0 p q) ∧ BK W (w.heap.size + 1) (zA0 r s))
theorem ZcQ (p q r s : QC) (n : Int) (w : World) (x y u v : Rat) (hp : p.At w x) (hq : q.At w y) (hr : r.At w u) (hs : s.At w v) (gx : qm x ≤ 40) (gy : qm y ≤ 40) (gu : qm u ≤ 40) (gv : qm v ≤ 40) (hz : (decide (u.num ≤ 0) && decide (0 ≤ v.num)) = true) : ∀ a W, Z1v p q r s n w a W → Code.wp Tryz.prog (stm 5 (Zq Tryz.f3)) (ZW (Zcf p q r s n w)) a W := by
 have hmw : 200000 < Z8 := by decide
 have HP := zH hp
 have HQ := zH hq
 have HR := zH hr
 have HatS := zH hs
 clear hp hq hr hs
 have hflag1 : Ze 1 := trivial
 rintro a V ⟨U, rfl, hW, Ra, Rb⟩
 have LwV := hW.size
 dsimp only [suf, stm, Zq, Tryz.f3]
 dsimp only [fr, frl, Nat.reduceBEq, Nat.reduceAdd, cond_true, cond_false]
 (have hk := Ra.ca; dsimp only [CA, Nat.reduceAdd] at hk; repeat (obtain ⟨_, hk⟩ := hk)); have LRa := Ra.lt
 (have hk := Rb.ca; dsimp only [CA, Nat.reduceAdd] at hk; repeat (obtain ⟨_, hk⟩ := hk)); have LRb := Rb.lt
 go_wp2_with (
   first
   | (go_at_call 19; (with_reducible refine (Z3v p q r s x y u v _ QX QX QX QX (by omega) hz).mono ?_); rintro e y9 ⟨rfl, hby9⟩; have := hby9.sz)
   | ((have hfl : Ze 1 := (by with_reducible assumption)); clear hfl hflag1; (with_reducible refine (id ?_ : wpList _ _ _ (⟨none, _, _, _, _, _⟩ :: _) _ _)); (obtain ⟨WD, hWe⟩ : ∃ WD, y9.alloc (.cells #[.bool false, .slice none 0 0, .bool false, .slice none 0 0, .bool false, .slice none 0 0, .bool false, .slice none 0 0] 28) = WD := ⟨_, rfl⟩); (have RWD : BK WD y9.heap.size zA5 := (by rw [← hWe]; exact BY)); (have EWD : Ext y9 WD := (by rw [← hWe]; exact EX)); rw [hWe]; clear hWe; have hzWD := EWD.size; (have hk := RWD.ca; dsimp only [CA, Nat.reduceAdd] at hk; repeat (obtain ⟨_, hk⟩ := hk)); have LRWD := RWD.lt))
 show Zcf p q r s n w _ _
 unfold Zcf
 exact Su.mk ⟨EX, BY, BY⟩
theorem Zdl (p q r s : QC) (n : Int) (w : World) (x y u v : Rat) (hp : p.At w x) (hq : q.At w y) (hr : r.At w u) (hs : s.At w v) (gx : qm x ≤ 40) (gy : qm y ≤ 40) (gu : qm u ≤ 40) (gv : qm v ≤ 40) (hz : (decide (u.num ≤ 0) && decide (0 ≤ v.num)) = false) (hu : u ≠ 0) (hv : v ≠ 0) : ∀ a W, Z1v p q r s n w a W → Code.wp Tryz.prog (stm 5 (Zq Tryz.f3)) (ZW (Zde p q r s n w (Z5y x y u v) (Z5z x y u v))) a W := by
 have hmw : 200000 < Z8 := by decide
 have HP := zH hp
 have HQ := zH hq
 have HR := zH hr
 have HatS := zH hs
 clear hp hq hr hs
 have hflag1 : Ze 1 := trivial
 rintro a V ⟨U, rfl, hW, Ra, Rb⟩
 have LwV := hW.size
 dsimp only [suf, stm, Zq, Tryz.f3]
 dsimp only [fr, frl, Nat.reduceBEq, Nat.reduceAdd, cond_true, cond_false]
 (have hk := Ra.ca; dsimp only [CA, Nat.reduceAdd] at hk; repeat (obtain ⟨_, hk⟩ := hk)); have LRa := Ra.lt
 (have hk := Rb.ca; dsimp only [CA, Nat.reduceAdd] at hk; repeat (obtain ⟨_, hk⟩ := hk)); have LRb := Rb.lt
 go_wp2_with (
   first
   | (go_at_call 19; (with_reducible refine (Z9h p q r s x y u v _ QX QX QX QX (by omega) hu hv hz).mono ?_); refine rBz ?_; intro y9 py9 qy9 Hy9 Ky9 hby9 hzy9)
   | ((have hfl : Ze 1 := (by with_reducible assumption)); clear hfl hflag1; (with_reducible refine (id ?_ : wpList _ _ _ (⟨none, _, _, _, _, _⟩ :: _) _ _)); (obtain ⟨WD, hWe⟩ : ∃ WD, y9.alloc (.cells #[.bool false, .slice none 0 0, .bool false, .slice none 0 0, .bool false, .slice none 0 0, .bool false, .slice none 0 0] 28) = WD := ⟨_, rfl⟩); (have RWD : BK WD y9.heap.size zA5 := (by rw [← hWe]; exact BY)); (have EWD : Ext y9 WD := (by rw [← hWe]; exact EX)); rw [hWe]; clear hWe; have hzWD := EWD.size; (have hk := RWD.ca; dsimp only [CA, Nat.reduceAdd] at hk; repeat (obtain ⟨_, hk⟩ := hk)); have LRWD := RWD.lt))
 exact ⟨_, py9, qy9, _, Zr _ _, EX, BY, BY, BY, QX, QX⟩
theorem ZcP (p q r s : QC) (n : Int) (w : World) (x y u v : Rat) (hp : p.At w x) (hq : q.At w y) (hr : r.At w u) (hs : s.At w v) (gx : qm x ≤ 40) (gy : qm y ≤ 40) (gu : qm u ≤ 40) (gv : qm v ≤ 40) (hz : (decide (u.num ≤ 0) && decide (0 ≤ v.num)) = true) : ∀ a W, Zcf p q r s n w a W → Code.wp Tryz.prog (stm 6 (Zq Tryz.f3)) (ZW (Z1v p q r s n w)) a W := by
 have hmw : 200000 < Z8 := by decide
 have HZ := zH (fun W (h1 : r.At W u) (h2 : s.At W v) => (by have := Z23 r s u v W h1 h2 (by omega); rw [hz] at this; exact this : Ca 20 #[.agg #[.bool r.s, .slice r.A r.n r.c, .bool r.t, .slice r.B r.m r.d, .bool s.s, .slice s.A s.n s.c, .bool s.t, .slice s.B s.m s.d]] W fun e w' => e = .returned (.bool true) ∧ Ext W w'))
 have HP := zH hp
 have HQ := zH hq
 have HR := zH hr
 have HatS := zH hs
 clear hp hq hr hs
 rintro a V ⟨U, rfl, hW, Ra, Rb⟩
 have LwV := hW.size
 dsimp only [suf, stm, Zq, Tryz.f3]
 dsimp only [fr, frl, Nat.reduceBEq, Nat.reduceAdd, cond_true, cond_false]
 (have hk := Ra.ca; dsimp only [CA, Nat.reduceAdd] at hk; repeat (obtain ⟨_, hk⟩ := hk)); have LRa := Ra.lt
 (have hk := Rb.ca; dsimp only [CA, Nat.reduceAdd] at hk; repeat (obtain ⟨_, hk⟩ := hk)); have LRb := Rb.lt
 refine wp_seq ?_
 refine Zc _ (fun w' => CB w' (w.heap.size + 1) 0 (Z2H r s)) Z0a (fun _ _ h => h) (by dsimp only [CB, Nat.reduceAdd]; exact KQ) ?_
 dsimp only [CB, Nat.reduceAdd]
 intro hHeld
 refine TH 0 ?_
 refine R1H 1 fun K hK => ?_
 go_simp
 refine (HZ.out _ QX QX).mono ?_; rintro e x1 ⟨rfl, hbx1⟩; have := hbx1.sz
 refine KH hK fun _ => ?_; clear hK K
 refine TH 2 ?_; refine TH 3 ?_; refine TH 4 ?_; refine TH 5 ?_; refine TH 6 ?_; refine TH 7 ?_
 refine R1H 8 fun K hK => ?_
 go_simp
 refine (HZ.out _ QX QX).mono ?_; rintro e x8 ⟨rfl, hbx8⟩; have := hbx8.sz
 refine KH hK fun _ => ?_; clear hK K
 refine TH 9 ?_; refine TH 10 ?_; refine TN 11 ?_; refine TN 12 ?_; refine TN 13 ?_; refine TN 14 ?_; refine TN 15 ?_; refine TN 16 ?_; refine TN 17 ?_; refine TN 18 ?_; refine TN 19 ?_; refine TN 20 ?_; refine TH 21 ?_; refine TH 22 ?_
 refine wpAnyH_done (by kernel_rfl) ?_ _
 dsimp only [ZW, Exit.then]
 go_wp2_with fail
 show Z1v p q r s n w _ _
 unfold Z1v
 exact Su.mk ⟨EX, BY, BY⟩
theorem Zdk (p q r s : QC) (n : Int) (w : World) (x y u v : Rat) (hp : p.At w x) (hq : q.At w y) (hr : r.At w u) (hs : s.At w v) (gx : qm x ≤ 40) (gy : qm y ≤ 40) (gu : qm u ≤ 40) (gv : qm v ≤ 40) (hz : (decide (u.num ≤ 0) && decide (0 ≤ v.num)) = false) (hu : u ≠ 0) (hv : v ≠ 0) (gl : qm (Z5y x y u v) ≤ 1000) (gh : qm (Z5z x y u v) ≤ 1000) : ∀ A W, Zde p q r s n w (Z5y x y u v) (Z5z x y u v) A W → Code.wp Tryz.prog (stm 6 (Zq Tryz.f3)) (ZW (Z1v p q r s n w)) A W := by
 have hmw : 200000 < Z8 := by decide
 have HZ := zH (fun W (h1 : r.At W u) (h2 : s.At W v) => (by have := Z23 r s u v W h1 h2 (by omega); rw [hz] at this; exact this : Ca 20 #[.agg #[.bool r.s, .slice r.A r.n r.c, .bool r.t, .slice r.B r.m r.d, .bool s.s, .slice s.A s.n s.c, .bool s.t, .slice s.B s.m s.d]] W fun e w' => e = .returned (.bool false) ∧ Ext W w'))
 have HP := zH hp
 have HQ := zH hq
 have HR := zH hr
 have HatS := zH hs
 clear hp hq hr hs
 rintro A V ⟨g, a, b, U, rfl, hW, Ra, Rb, Rd, ha, hb⟩
 have HDa := zH ha
 have HDb := zH hb
 clear ha hb
 have LwV := hW.size
 dsimp only [suf, stm, Zq, Tryz.f3]
 dsimp only [fr, frl, Nat.reduceBEq, Nat.reduceAdd, cond_true, cond_false]
 (have hk := Ra.ca; dsimp only [CA, Nat.reduceAdd] at hk; repeat (obtain ⟨_, hk⟩ := hk)); have LRa := Ra.lt
 (have hk := Rb.ca; dsimp only [CA, Nat.reduceAdd] at hk; repeat (obtain ⟨_, hk⟩ := hk)); have LRb := Rb.lt
 (have hk := Rd.ca; dsimp only [CA, Nat.reduceAdd] at hk; repeat (obtain ⟨_, hk⟩ := hk)); have LRd := Rd.lt
 refine wp_seq ?_
 refine Zc _ (fun w' => CB w' (w.heap.size) 0 (Z2H p q) ∧ CB w' (w.heap.size + 1) 0 (Z2H r s) ∧ CB w' (g) 0 (Z2H a b)) Z0a (fun _ _ h => h) (by dsimp only [CB, Nat.reduceAdd]; exact KQ) ?_
 dsimp only [CB, Nat.reduceAdd]
 intro hHeld
 refine TH 0 ?_
 refine R1H 1 fun K hK => ?_
 go_simp
 refine (HZ.out _ QX QX).mono ?_; rintro e x1 ⟨rfl, hbx1⟩; have := hbx1.sz
 refine KH hK fun _ => ?_; clear hK K
 refine TH 2 ?_; refine TN 3 ?_; refine TN 4 ?_; refine TH 5 ?_; refine TH 6 ?_; refine TH 7 ?_
 refine R1H 8 fun K hK => ?_
 go_simp
 refine (HZ.out _ QX QX).mono ?_; rintro e x8 ⟨rfl, hbx8⟩; have := hbx8.sz
 refine KH hK fun _ => ?_; clear hK K
 refine TH 9 ?_; refine TH 10 ?_; refine TH 11 ?_; refine TH 12 ?_; refine TH 13 ?_; refine TH 14 ?_; refine TH 15 ?_; refine TH 16 ?_
 refine R1H 17 fun K hK => ?_
 go_simp
 refine (Z9G p q r s x y u v _ QX QX QX QX hu hv (by omega)).mono ?_; refine rBz ?_; intro x17 px17 qx17 Hx17 Kx17 hbx17 hzx17
 refine KH hK fun _ => ?_; clear hK K
 refine R1H 18 fun K hK => ?_
 go_simp
 refine (Z0S a b px17 qx17 (Z5y x y u v) (Z5z x y u v) (Z5y x y u v) (Z5z x y u v) _ QX QX QX QX rfl rfl (by omega)).mono ?_; rintro e x18 ⟨rfl, hbx18⟩; have := hbx18.sz
 refine KH hK fun _ => ?_; clear hK K
 refine TH 19 ?_; refine TH 20 ?_; refine TH 21 ?_; refine TH 22 ?_
 refine wpAnyH_done (by kernel_rfl) ?_ _
 dsimp only [ZW, Exit.then]
 go_wp2_with fail
 show Z1v p q r s n w _ _
 unfold Z1v
 exact Su.mk ⟨EX, BY, BY⟩
theorem Zc7 (p q r s : QC) (n : Int) (w : World) (x y : Rat) (hp : p.At w x) (hq : q.At w y) (gx : qm x ≤ 40) (gy : qm y ≤ 40) (hrk : (decide (0 ≤ n) && decide (n ≤ 400)) = false) : ∀ a W, Z1v p q r s n w a W → Code.wp Tryz.prog (stm 7 (Zq Tryz.f3)) (ZW (ZbV p q r s n w)) a W := by
 have hmw : 200000 < Z8 := by decide
 have HP := zH hp
 have HQ := zH hq
 clear hp hq
 have hflag1 : Ze 1 := trivial
 rintro a V ⟨U, rfl, hW, Ra, Rb⟩
 have LwV := hW.size
 dsimp only [suf, stm, Zq, Tryz.f3]
 dsimp only [fr, frl, Nat.reduceBEq, Nat.reduceAdd, cond_true, cond_false]
 (have hk := Ra.ca; dsimp only [CA, Nat.reduceAdd] at hk; repeat (obtain ⟨_, hk⟩ := hk)); have LRa := Ra.lt
 (have hk := Rb.ca; dsimp only [CA, Nat.reduceAdd] at hk; repeat (obtain ⟨_, hk⟩ := hk)); have LRb := Rb.lt
 go_wp2_with (
   first
   | (go_at_call 22; (with_reducible refine (Z5K p q x y n _ hrk).mono ?_); rintro e y12 ⟨rfl, hby12⟩; have := hby12.sz)
   | ((have hfl : Ze 1 := (by with_reducible assumption)); clear hfl hflag1; (with_reducible refine (id ?_ : wpList _ _ _ (⟨none, _, _, _, _, _⟩ :: _) _ _)); (obtain ⟨WR, hWe⟩ : ∃ WR, y12.alloc (.cells #[.bool false, .slice none 0 0, .bool false, .slice none 0 0, .bool false, .slice none 0 0, .bool false, .slice none 0 0] 28) = WR := ⟨_, rfl⟩); (have RWR : BK WR y12.heap.size zA5 := (by rw [← hWe]; exact BY)); (have EWR : Ext y12 WR := (by rw [← hWe]; exact EX)); rw [hWe]; clear hWe; have hzWR := EWR.size; (have hk := RWR.ca; dsimp only [CA, Nat.reduceAdd] at hk; repeat (obtain ⟨_, hk⟩ := hk)); have LRWR := RWR.lt))
 show ZbV p q r s n w _ _
 unfold ZbV
 exact Su.mk ⟨EX, BY, BY⟩
theorem Zdb (p q r s : QC) (n : Int) (w : World) (x y : Rat) (hp : p.At w x) (hq : q.At w y) (gx : qm x ≤ 40) (gy : qm y ≤ 40) (gn : n.natAbs / 32 ≤ 13) (hrk : (decide (0 ≤ n) && decide (n ≤ 400)) = true) : ∀ a W, Z1v p q r s n w a W → Code.wp Tryz.prog (stm 7 (Zq Tryz.f3)) (ZW (ZbU p q r s n w (Zl x n) (-Zl (-y) n))) a W := by
 have hmw : 200000 < Z8 := by decide
 have HP := zH hp
 have HQ := zH hq
 clear hp hq
 have hflag1 : Ze 1 := trivial
 rintro a V ⟨U, rfl, hW, Ra, Rb⟩
 have LwV := hW.size
 dsimp only [suf, stm, Zq, Tryz.f3]
 dsimp only [fr, frl, Nat.reduceBEq, Nat.reduceAdd, cond_true, cond_false]
 (have hk := Ra.ca; dsimp only [CA, Nat.reduceAdd] at hk; repeat (obtain ⟨_, hk⟩ := hk)); have LRa := Ra.lt
 (have hk := Rb.ca; dsimp only [CA, Nat.reduceAdd] at hk; repeat (obtain ⟨_, hk⟩ := hk)); have LRb := Rb.lt
 go_wp2_with (
   first
   | (go_at_call 22; (with_reducible refine (Z6f p q x y n _ QX QX hrk (by omega)).mono ?_); refine rBz ?_; intro y12 py12 qy12 Hy12 Ky12 hby12 hzy12)
   | ((have hfl : Ze 1 := (by with_reducible assumption)); clear hfl hflag1; (with_reducible refine (id ?_ : wpList _ _ _ (⟨none, _, _, _, _, _⟩ :: _) _ _)); (obtain ⟨WR, hWe⟩ : ∃ WR, y12.alloc (.cells #[.bool false, .slice none 0 0, .bool false, .slice none 0 0, .bool false, .slice none 0 0, .bool false, .slice none 0 0] 28) = WR := ⟨_, rfl⟩); (have RWR : BK WR y12.heap.size zA5 := (by rw [← hWe]; exact BY)); (have EWR : Ext y12 WR := (by rw [← hWe]; exact EX)); rw [hWe]; clear hWe; have hzWR := EWR.size; (have hk := RWR.ca; dsimp only [CA, Nat.reduceAdd] at hk; repeat (obtain ⟨_, hk⟩ := hk)); have LRWR := RWR.lt))
 exact ⟨_, py12, qy12, _, Zr _ _, EX, BY, BY, BY, QX, QX⟩
theorem ZcN (p q r s : QC) (n : Int) (w : World) (d1 : decide (n < 0) = true) : ∀ a W, ZbV p q r s n w a W → Code.wp Tryz.prog (suf 8 (Zq Tryz.f3)) (bodyPost Tryz.prog Tryz.f3 (fun e w' => e = .returned (.bool true) ∧ Ext w w')) a W := by
 have hmw : 200000 < Z8 := by decide
 rintro a V ⟨U, rfl, hW, Ra, Rb⟩
 have LwV := hW.size
 dsimp only [suf, stm, Zq, Tryz.f3]
 dsimp only [fr, frl, Nat.reduceBEq, Nat.reduceAdd, cond_true, cond_false]
 (have hk := Ra.ca; dsimp only [CA, Nat.reduceAdd] at hk; repeat (obtain ⟨_, hk⟩ := hk)); have LRa := Ra.lt
 (have hk := Rb.ca; dsimp only [CA, Nat.reduceAdd] at hk; repeat (obtain ⟨_, hk⟩ := hk)); have LRb := Rb.lt
 go_wp2_with (go_at_call 9; (with_reducible refine (Z0i _).mono ?_); rintro e s14 ⟨rfl, hbs14⟩; have := hbs14.sz)
 all_goals go_ret
 all_goals exact ⟨rfl, EX⟩
theorem ZcO (p q r s : QC) (n : Int) (w : World) (d1 : decide (n < 0) = false) (d2 : decide (400 < n) = true) : ∀ a W, ZbV p q r s n w a W → Code.wp Tryz.prog (suf 8 (Zq Tryz.f3)) (bodyPost Tryz.prog Tryz.f3 (fun e w' => e = .returned (.bool true) ∧ Ext w w')) a W := by
 have hmw : 200000 < Z8 := by decide
 rintro a V ⟨U, rfl, hW, Ra, Rb⟩
 have LwV := hW.size
 dsimp only [suf, stm, Zq, Tryz.f3]
 dsimp only [fr, frl, Nat.reduceBEq, Nat.reduceAdd, cond_true, cond_false]
 (have hk := Ra.ca; dsimp only [CA, Nat.reduceAdd] at hk; repeat (obtain ⟨_, hk⟩ := hk)); have LRa := Ra.lt
 (have hk := Rb.ca; dsimp only [CA, Nat.reduceAdd] at hk; repeat (obtain ⟨_, hk⟩ := hk)); have LRb := Rb.lt
 go_wp2_with (go_at_call 9; (with_reducible refine (Z0i _).mono ?_); rintro e s14 ⟨rfl, hbs14⟩; have := hbs14.sz)
 all_goals go_ret
 all_goals exact ⟨rfl, EX⟩
theorem Zda (p q r s : QC) (n : Int) (w : World) (lo hi : Rat) (d1 : decide (n < 0) = false) (d2 : decide (400 < n) = false) : ∀ A W, ZbU p q r s n w lo hi A W → Code.wp Tryz.prog (stm 8 (Zq Tryz.f3)) (ZW (ZbU p q r s n w lo hi)) A W := by
 have hmw : 200000 < Z8 := by decide
 rintro A V ⟨g, a, b, U, rfl, hW, Ra, Rb, Rd, ha, hb⟩
 have HDa := zH ha
 have HDb := zH hb
 clear ha hb
 have LwV := hW.size
 dsimp only [suf, stm, Zq, Tryz.f3]
 dsimp only [fr, frl, Nat.reduceBEq, Nat.reduceAdd, cond_true, cond_false]
 (have hk := Ra.ca; dsimp only [CA, Nat.reduceAdd] at hk; repeat (obtain ⟨_, hk⟩ := hk)); have LRa := Ra.lt
 (have hk := Rb.ca; dsimp only [CA, Nat.reduceAdd] at hk; repeat (obtain ⟨_, hk⟩ := hk)); have LRb := Rb.lt
 (have hk := Rd.ca; dsimp only [CA, Nat.reduceAdd] at hk; repeat (obtain ⟨_, hk⟩ := hk)); have LRd := Rd.lt
 go_wp2_with fail
 exact ⟨g, a, b, _, Zr _ _, EX, BY, BY, BY, QX, QX⟩
theorem ZcM (p q r s : QC) (n : Int) (w : World) (lo hi : Rat) (d3 : decide (300 ≤ n) = true) : ∀ A W, ZbU p q r s n w lo hi A W → Code.wp Tryz.prog (suf 9 (Zq Tryz.f3)) (bodyPost Tryz.prog Tryz.f3 (fun e w' => e = .returned (.bool true) ∧ Ext w w')) A W := by
 have hmw : 200000 < Z8 := by decide
 rintro A V ⟨g, a, b, U, rfl, hW, Ra, Rb, Rd, ha, hb⟩
 have HDa := zH ha
 have HDb := zH hb
 clear ha hb
 have LwV := hW.size
 dsimp only [suf, stm, Zq, Tryz.f3]
 dsimp only [fr, frl, Nat.reduceBEq, Nat.reduceAdd, cond_true, cond_false]
 (have hk := Ra.ca; dsimp only [CA, Nat.reduceAdd] at hk; repeat (obtain ⟨_, hk⟩ := hk)); have LRa := Ra.lt
 (have hk := Rb.ca; dsimp only [CA, Nat.reduceAdd] at hk; repeat (obtain ⟨_, hk⟩ := hk)); have LRb := Rb.lt
 (have hk := Rd.ca; dsimp only [CA, Nat.reduceAdd] at hk; repeat (obtain ⟨_, hk⟩ := hk)); have LRd := Rd.lt
 refine wp_seq ?_
 refine Zc _ (fun w' => CB w' (w.heap.size) 0 (Z2H p q) ∧ CB w' (g) 0 (Z2H a b)) Z0a (fun _ _ h => h) (by dsimp only [CB, Nat.reduceAdd]; exact KQ) ?_
 dsimp only [CB, Nat.reduceAdd]
 intro hHeld
 refine R1H 0 fun K hK => ?_
 go_simp
 refine (Z0i _).mono ?_; rintro e s15 ⟨rfl, hbs15⟩; have := hbs15.sz
 refine KH hK fun _ => ?_; clear hK K
 refine TH 1 ?_; refine TH 2 ?_; refine TH 3 ?_; refine TH 4 ?_; refine TN 5 ?_; refine TN 6 ?_; refine TN 7 ?_; refine TN 8 ?_; refine TN 9 ?_; refine TN 10 ?_; refine TN 11 ?_; refine TN 12 ?_; refine TN 13 ?_; refine TH 14 ?_; refine TH 15 ?_; refine TH 16 ?_
 refine wpAnyH_done (by kernel_rfl) ?_ _
 dsimp only [ZW, Exit.then]
 go_wp2_with fail
 all_goals go_ret
 all_goals exact ⟨rfl, EX⟩
theorem ZcL (p q r s : QC) (n : Int) (w : World) (x y : Rat) (hp : p.At w x) (hq : q.At w y) (gx : qm x ≤ 40) (gy : qm y ≤ 40) (gn : n.natAbs / 32 ≤ 13) (h0 : 0 ≤ n) (h3 : n < 300) (d3 : decide (300 ≤ n) = false) (gl : qm (Zl x n) ≤ 1000) (gh : qm (-Zl (-y) n) ≤ 1000) : ∀ A W, ZbU p q r s n w (Zl x n) (-Zl (-y) n) A W → Code.wp Tryz.prog (suf 9 (Zq Tryz.f3)) (bodyPost Tryz.prog Tryz.f3 (fun e w' => e = .returned (.bool true) ∧ Ext w w')) A W := by
 have hmw : 200000 < Z8 := by decide
 have HP := zH hp
 have HQ := zH hq
 clear hp hq
 rintro A V ⟨g, a, b, U, rfl, hW, Ra, Rb, Rd, ha, hb⟩
 have HDa := zH ha
 have HDb := zH hb
 clear ha hb
 have LwV := hW.size
 dsimp only [suf, stm, Zq, Tryz.f3]
 dsimp only [fr, frl, Nat.reduceBEq, Nat.reduceAdd, cond_true, cond_false]
 (have hk := Ra.ca; dsimp only [CA, Nat.reduceAdd] at hk; repeat (obtain ⟨_, hk⟩ := hk)); have LRa := Ra.lt
 (have hk := Rb.ca; dsimp only [CA, Nat.reduceAdd] at hk; repeat (obtain ⟨_, hk⟩ := hk)); have LRb := Rb.lt
 (have hk := Rd.ca; dsimp only [CA, Nat.reduceAdd] at hk; repeat (obtain ⟨_, hk⟩ := hk)); have LRd := Rd.lt
 refine wp_seq ?_
 refine Zc _ (fun w' => CB w' (w.heap.size) 0 (Z2H p q) ∧ CB w' (g) 0 (Z2H a b)) Z0a (fun _ _ h => h) (by dsimp only [CB, Nat.reduceAdd]; exact KQ) ?_
 dsimp only [CB, Nat.reduceAdd]
 intro hHeld
 refine R1H 0 fun K hK => ?_
 go_simp
 refine (Z0i _).mono ?_; rintro e s15 ⟨rfl, hbs15⟩; have := hbs15.sz
 refine KH hK fun _ => ?_; clear hK K
 refine TH 1 ?_; refine TH 2 ?_; refine TH 3 ?_; refine TH 4 ?_; refine TH 5 ?_; refine TH 6 ?_; refine TH 7 ?_; refine TH 8 ?_; refine TH 9 ?_; refine TH 10 ?_
 refine R1H 11 fun K hK => ?_
 go_simp
 refine (Z7k p q x y n _ QX QX (by omega) (by omega) (by omega)).mono ?_; refine rBz ?_; intro x11 px11 qx11 Hx11 Kx11 hbx11 hzx11
 refine KH hK fun _ => ?_; clear hK K
 refine R1H 12 fun K hK => ?_
 go_simp
 refine (Z0S a b px11 qx11 (Zl x n) (-Zl (-y) n) (Zl x n) (-Zl (-y) n) _ QX QX QX QX rfl rfl (by omega)).mono ?_; rintro e x12 ⟨rfl, hbx12⟩; have := hbx12.sz
 refine KH hK fun _ => ?_; clear hK K
 refine TH 13 ?_; refine TH 14 ?_; refine TH 15 ?_; refine TH 16 ?_
 refine wpAnyH_done (by kernel_rfl) ?_ _
 dsimp only [ZW, Exit.then]
 go_wp2_with fail
 all_goals go_ret
 all_goals exact ⟨rfl, EX⟩
theorem isB (p q : QC) (l k l' k' : List Nat) (w : World) (h1 : WAt w p.A p.n p.c l) (h2 : WAt w p.B p.m p.d k) (h3 : WAt w q.A q.n q.c l') (h4 : WAt w q.B q.m q.d k') (zp : p.n ≤ 20 ∧ p.m ≤ 20) (zq : q.n ≤ 20 ∧ q.m ≤ 20) (v : Bool) (hv : Z6O p.s l p.t k q.s l' q.t k' = v) :
  (∀ W, Ext w W → Ca 10 #[.agg #[.bool p.s, .slice p.A p.n p.c, .bool p.t, .slice p.B p.m p.d, .bool q.s, .slice q.A q.n q.c, .bool q.t, .slice q.B q.m q.d]] W fun e w' => e = .returned (.bool v) ∧ Ext W w') ∧ (∀ W, Ext w W → Ca 11 #[.agg #[.bool p.s, .slice p.A p.n p.c, .bool p.t, .slice p.B p.m p.d, .bool q.s, .slice q.A q.n q.c, .bool q.t, .slice q.B q.m q.d]] W fun e w' => e = .returned (.bool v) ∧ Ext W w') := by
 have hmw : 200000 < Z8 := by decide
 subst hv
 exact ⟨fun W e => Zb0 p q l k l' k' W (h1.ext e) (h2.ext e) (h3.ext e) (h4.ext e) (by omega) (by omega) (by omega) (by omega) (by omega), fun W e => Z7U p q l k l' k' W (h1.ext e) (h2.ext e) (h3.ext e) (h4.ext e) (by omega) (by omega) (by omega) (by omega) (by omega)⟩
theorem Z99 {p q : QC} {l k l' k' : List Nat} {w : World} (h1 : WAt w p.A p.n p.c l) (h2 : WAt w p.B p.m p.d k) (h3 : WAt w q.A q.n q.c l') (h4 : WAt w q.B q.m q.d k') (hv : Z6O p.s l p.t k q.s l' q.t k' = true) : ∃ x y : Rat, p.At w x ∧ q.At w y ∧ x ≤ y := by
 unfold Z6O at hv
 simp only [Bool.and_eq_true, decide_eq_true_eq] at hv
 exact ⟨_, _, QAt.of_words h1 h2 hv.1.1, QAt.of_words h3 h4 hv.1.2, hv.2⟩
theorem Z1w {p : QC} (h : (decide ((p.n : Int) ≤ 20) && decide ((p.m : Int) ≤ 20)) = true) : p.n ≤ 20 ∧ p.m ≤ 20 := by simp at h; omega
theorem Zdj (p q r s : QC) (n : Int) (w : World) (hS : (decide ((p.n : Int) ≤ 20) && decide ((p.m : Int) ≤ 20)) = true ∧ (decide ((q.n : Int) ≤ 20) && decide ((q.m : Int) ≤ 20)) = true ∧ (decide ((r.n : Int) ≤ 20) && decide ((r.m : Int) ≤ 20)) = true ∧ (decide ((s.n : Int) ≤ 20) && decide ((s.m : Int) ≤ 20)) = true) (x y u v : Rat) (hp : p.At w x) (hq : q.At w y) (hr : r.At w u) (hs : s.At w v) (huv : u ≤ v)
  (Ia : (∀ W, Ext w W → Ca 10 #[.agg #[.bool p.s, .slice p.A p.n p.c, .bool p.t, .slice p.B p.m p.d, .bool q.s, .slice q.A q.n q.c, .bool q.t, .slice q.B q.m q.d]] W fun e w' => e = .returned (.bool true) ∧ Ext W w') ∧ (∀ W, Ext w W → Ca 11 #[.agg #[.bool p.s, .slice p.A p.n p.c, .bool p.t, .slice p.B p.m p.d, .bool q.s, .slice q.A q.n q.c, .bool q.t, .slice q.B q.m q.d]] W fun e w' => e = .returned (.bool true) ∧ Ext W w')) (Ib : (∀ W, Ext w W → Ca 10 #[.agg #[.bool r.s, .slice r.A r.n r.c, .bool r.t, .slice r.B r.m r.d, .bool s.s, .slice s.A s.n s.c, .bool s.t, .slice s.B s.m s.d]] W fun e w' => e = .returned (.bool true) ∧ Ext W w') ∧ (∀ W, Ext w W → Ca 11 #[.agg #[.bool r.s, .slice r.A r.n r.c, .bool r.t, .slice r.B r.m r.d, .bool s.s, .slice s.A s.n s.c, .bool s.t, .slice s.B s.m s.d]] W fun e w' => e = .returned (.bool true) ∧ Ext W w')) :
  Ca 3 #[.agg (zA0 p q), .agg (zA0 r s), .int .i64 n] w (fun e w' => e = .returned (.bool true) ∧ Ext w w') := by
 have hmw : 200000 < Z8 := by decide
 have sh : ∀ {x : QC}, (decide ((x.n : Int) ≤ 20) && decide ((x.m : Int) ≤ 20)) = true → ∀ W, Ca 8 #[.agg #[.bool x.s, .slice x.A x.n x.c, .bool x.t, .slice x.B x.m x.d], .int .i64 20] W fun e w' => e = .returned (.bool true) ∧ Ext W w' := fun {x} h W => by
  have := ZE x 20 W
  rw [h] at this
  exact this
 have gx : qm x ≤ 40 := by have := hp.qm_le; have := Z1w hS.1; omega
 have gy : qm y ≤ 40 := by have := hq.qm_le; have := Z1w hS.2.1; omega
 have gu : qm u ≤ 40 := by have := hr.qm_le; have := Z1w hS.2.2.1; omega
 have gv : qm v ≤ 40 := by have := hs.qm_le; have := Z1w hS.2.2.2; omega
 refine ZcA p q r s n w _ (Z0b 1 (Zcz p q r s n w (sh hS.1) (sh hS.2.1) (sh hS.2.2.1) (sh hS.2.2.2)) (Z0b 2 (Zcy p q r s n w true true Ia.1 Ib.1 Ia.2 Ib.2) (Z0b 3 (Zdn p q r s n w Ia.2 Ib.2) (Z0b 4 (Zdm p q r s n w x y u v hp hq hr hs gx gy gu gv) ?_))))
 have tail : ∀ a W, Z1v p q r s n w a W → Code.wp Tryz.prog (suf 7 (Zq Tryz.f3)) (bodyPost Tryz.prog Tryz.f3 (fun e w' => e = .returned (.bool true) ∧ Ext w w')) a W := by
  rcases (by omega : n < 0 ∨ 400 < n ∨ (0 ≤ n ∧ n ≤ 400 ∧ 300 ≤ n) ∨ (0 ≤ n ∧ n < 300)) with hn | hn | ⟨h0, h1, h3⟩ | ⟨h0, h3⟩
  ·exact Z0b 7 (Zc7 p q r s n w x y hp hq gx gy (Zcj hn)) (ZcN p q r s n w (decide_eq_true hn))
  ·exact Z0b 7 (Zc7 p q r s n w x y hp hq gx gy (Zap hn)) (ZcO p q r s n w (decide_eq_false (by omega)) (decide_eq_true hn))
  ·exact Z0b 7 (Zdb p q r s n w x y hp hq gx gy (by omega) (Zc3 h0 h1)) (Z0b 8 (Zda p q r s n w _ _ (decide_eq_false (by omega)) (decide_eq_false (by omega))) (ZcM p q r s n w _ _ (decide_eq_true h3)))
  ·have g := Zas x y n h0 (by omega) gx gy
   exact Z0b 7 (Zdb p q r s n w x y hp hq gx gy (by omega) (Zc3 h0 (by omega))) (Z0b 8 (Zda p q r s n w _ _ (decide_eq_false (by omega)) (decide_eq_false (by omega))) (ZcL p q r s n w x y hp hq gx gy (by omega) h0 h3 (decide_eq_false (by omega)) g.1 g.2))
 rcases hz : (decide (u.num ≤ 0) && decide (0 ≤ v.num)) with _ | _
 ·have hd := Z9B huv hz
  have g := Zat x y u v hd.1 hd.2 gx gy gu gv
  exact Z0b 5 (Zdl p q r s n w x y u v hp hq hr hs gx gy gu gv hz hd.1 hd.2) (Z0b 6 (Zdk p q r s n w x y u v hp hq hr hs gx gy gu gv hz hd.1 hd.2 g.1 g.2) tail)
 ·exact Z0b 5 (ZcQ p q r s n w x y u v hp hq hr hs gx gy gu gv hz) (Z0b 6 (ZcP p q r s n w x y u v hp hq hr hs gx gy gu gv hz) tail)
theorem ZbJ (p q r s : QC) (n : Int) (w : World) (l1 l2 l3 l4 k1 k2 k3 k4 : List Nat) (wp : WAt w p.A p.n p.c l1) (wp' : WAt w p.B p.m p.d l2) (wq : WAt w q.A q.n q.c l3) (wq' : WAt w q.B q.m q.d l4) (wr : WAt w r.A r.n r.c k1) (wr' : WAt w r.B r.m r.d k2) (ws : WAt w s.A s.n s.c k3) (ws' : WAt w s.B s.m s.d k4) :
  Ca 3 #[.agg (zA0 p q), .agg (zA0 r s), .int .i64 n] w (fun e w' => e = .returned (.bool true) ∧ Ext w w') := by
 rcases hp : (decide ((p.n : Int) ≤ 20) && decide ((p.m : Int) ≤ 20)) with _ | _
 ·exact Z8K p q r s n w hp
 rcases hq : (decide ((q.n : Int) ≤ 20) && decide ((q.m : Int) ≤ 20)) with _ | _
 ·exact Z8J p q r s n w hp hq
 rcases hr : (decide ((r.n : Int) ≤ 20) && decide ((r.m : Int) ≤ 20)) with _ | _
 ·exact Z8I p q r s n w hp hq hr
 rcases hs : (decide ((s.n : Int) ≤ 20) && decide ((s.m : Int) ≤ 20)) with _ | _
 ·exact Z8H p q r s n w hp hq hr hs
 have sh : ∀ {x : QC}, (decide ((x.n : Int) ≤ 20) && decide ((x.m : Int) ≤ 20)) = true → ∀ W, Ca 8 #[.agg #[.bool x.s, .slice x.A x.n x.c, .bool x.t, .slice x.B x.m x.d], .int .i64 20] W fun e w' => e = .returned (.bool true) ∧ Ext W w' := fun {x} h W => by
  have := ZE x 20 W
  rw [h] at this
  exact this
 have Ia := fun v => isB p q l1 l2 l3 l4 w wp wp' wq wq' (Z1w hp) (Z1w hq) v
 have Ib := fun v => isB r s k1 k2 k3 k4 w wr wr' ws ws' (Z1w hr) (Z1w hs) v
 rcases ia : Z6O p.s l1 p.t l2 q.s l3 q.t l4 with _ | _
 ·have ib := Ib _ rfl
  exact ZcA p q r s n w _ (Z0b 1 (Zcz p q r s n w (sh hp) (sh hq) (sh hr) (sh hs)) (Z0b 2 (Zcy p q r s n w false _ (Ia _ ia).1 ib.1 (Ia _ ia).2 ib.2) (ZcS p q r s n w _ (Ia _ ia).2 ib.2)))
 rcases ib : Z6O r.s k1 r.t k2 s.s k3 s.t k4 with _ | _
 ·exact ZcA p q r s n w _ (Z0b 1 (Zcz p q r s n w (sh hp) (sh hq) (sh hr) (sh hs)) (Z0b 2 (Zcy p q r s n w true false (Ia _ ia).1 (Ib _ ib).1 (Ia _ ia).2 (Ib _ ib).2) (ZcR p q r s n w (Ia _ ia).2 (Ib _ ib).2)))
 obtain ⟨x, y, h1, h2, _⟩ := Z99 wp wp' wq wq' ia
 obtain ⟨u, v, h3, h4, huv⟩ := Z99 wr wr' ws ws' ib
 exact Zdj p q r s n w ⟨hp, hq, hr, hs⟩ x y u v h1 h2 h3 h4 huv (Ia _ ia) (Ib _ ib)
open Go.ChangeShapes Go.WideShapes Go.ChangeAt
section
variable {H : Type} {enc : TypeId × Value → H} {W : World} {sp : Nat → Bool} {hd : Bool}
theorem Zae {a : Addr} {len cap : Nat} {zs : List Int} (h1 : len ≤ cap) (hz : len ≤ zs.length) (hc : ∀ i, i < zs.length → W.cell? (a.add i) = some (.int .u32 (zs.getD i 0))) (hw : ∀ n ∈ zs, (Lit.int .u32 n).wf = true) : ∃ l, WAt W (some a) len cap l := by
 have hb : ∀ n ∈ zs, 0 ≤ n ∧ n < 4294967296 := fun n hn => by
  have := bounds_u32 (hw n hn)
  omega
 refine ⟨(zs.take len).map Int.toNat, ⟨by simp; omega, ⟨fun hl => ?_, by simp; omega, ?_⟩⟩⟩
 ·have hl' : 0 < zs.length := by simp at hl; omega
  have h0 := hc 0 hl'
  obtain ⟨b, off, s⟩ := a
  have hs : s = none := by
   cases s with
   | none => rfl
   | some s =>
    simp only [Addr.add, if_true, World.cell?] at h0
    split at h0 <;> simp at h0
  subst hs
  refine ⟨b, off, rfl, fun j hj => ?_⟩
  simp at hj
  have hj2 : j < zs.length := by omega
  have h := hc j hj2
  have e : (⟨b, off, none⟩ : Addr).add j = ⟨b, off + j, none⟩ := by unfold Addr.add; split <;> simp_all
  rw [e] at h
  rw [h]
  have hm := hb _ (List.getElem_mem hj2)
  have hj3 : j < len := by omega
  simp [List.getD_eq_getElem?_getD, hj2, hj3, List.getElem?_take]
  omega
 ·intro x hx
  obtain ⟨z, hz1, rfl⟩ := List.mem_map.1 hx
  have := hb z (List.mem_of_mem_take hz1)
  show z.toNat < 4294967296
  omega
theorem Z5U {fuel : Nat} {cs : List Value} {y : DataW H × List MemPlace} (h : DataW.trod enc Tryz.prog W 0 sp hd fuel 24 cs = some y) (hsp : sp = fun _ => true) : ∃ s A n c l, cs = [.bool s, .slice A n c] ∧ WAt W A n c l := by
 obtain ⟨y0, y1, n, _, hl, h0, h1⟩ := trod_struct2 Tryz.underlying24 h
 have hl2 : cs.length = 2 := hl.trans (by kernel_rfl)
 match cs, hl2 with
 | [c0, c1], _ =>
  rw [show Tryz.prog.cellsOf 4 = 1 from by kernel_rfl] at h0
  rw [show Tryz.prog.cellsOf 22 = 1 from by kernel_rfl] at h1
  have h0' : DataW.trod enc Tryz.prog W 0 sp hd n 4 [c0] = some y0 := h0
  have h1' : DataW.trod enc Tryz.prog W 0 sp hd n 22 [c1] = some y1 := h1
  obtain ⟨s, hs, _⟩ := DataW.trod_bool Tryz.underlying4 h0'
  cases hs
  rcases open_ints Tryz.underlying22 Tryz.underlying131 (by kernel_rfl) h1' with ⟨hcs, _⟩ | ⟨a, len, cap, zs, hcs, _, hle, _, hz, _, hcell, hwf⟩
  ·cases hcs
   exact ⟨s, none, 0, 0, [], rfl, ⟨rfl, LR.nil _ _ _⟩⟩
  ·cases hcs
   subst hsp
   simp only [if_true] at hz
   obtain ⟨l, hw⟩ := Zae hle (by omega) hcell hwf
   exact ⟨s, some a, len, cap, l, rfl, hw⟩
theorem Z5T {fuel : Nat} {cs : List Value} {y : DataW H × List MemPlace} (h : DataW.trod enc Tryz.prog W 0 sp hd fuel 26 cs = some y) (hsp : sp = fun _ => true) : ∃ s A n c t B m d l k, cs = [.bool s, .slice A n c, .bool t, .slice B m d] ∧ WAt W A n c l ∧ WAt W B m d k := by
 obtain ⟨y0, y1, n, _, hl, h0, h1⟩ := trod_struct2 Tryz.underlying26 h
 have hl2 : cs.length = 4 := hl.trans (by kernel_rfl)
 match cs, hl2 with
 | [c0, c1, c2, c3], _ =>
  rw [show Tryz.prog.cellsOf 24 = 2 from by kernel_rfl] at h0 h1
  obtain ⟨s, A, n', c, l, e0, w0⟩ := Z5U (cs := [c0, c1]) h0 hsp
  obtain ⟨t, B, m, d, k, e1, w1⟩ := Z5U (cs := [c2, c3]) h1 hsp
  cases e0
  cases e1
  exact ⟨s, A, n', c, t, B, m, d, l, k, rfl, w0, w1⟩
theorem Z7N {r : Reach} {b0 : Nat} {v : Value} {d : DataW H} {p : List MemPlace} (hv : Value.okWide Tryz.prog W r b0 28 v) (h : DataW.Trod enc Tryz.prog W 0 (fun _ => true) true 28 v d p) :
  ∃ s A n c t B m d s' A' n' c' t' B' m' d' l k l' k', v = .agg #[.bool s, .slice A n c, .bool t, .slice B m d, .bool s', .slice A' n' c', .bool t', .slice B' m' d'] ∧ WAt W A n c l ∧ WAt W B m d k ∧ WAt W A' n' c' l' ∧ WAt W B' m' d' k' := by
 obtain ⟨⟨cs⟩, rfl, hsz⟩ := okWide_struct Tryz.underlying28 hv
 obtain ⟨fuel, hf⟩ := h
 obtain ⟨y0, y1, n, _, hl, h0, h1⟩ := trod_struct2 Tryz.underlying28 hf
 have hl2 : cs.length = 8 := hsz.trans (by kernel_rfl)
 match cs, hl2 with
 | [c0, c1, c2, c3, c4, c5, c6, c7], _ =>
  rw [show Tryz.prog.cellsOf 26 = 4 from by kernel_rfl] at h0 h1
  obtain ⟨s, A, n', c, t, B, m, d, l, k, e0, w0, w1⟩ := Z5T (cs := [c0, c1, c2, c3]) h0 rfl
  obtain ⟨s', A', n'', c', t', B', m', d', l', k', e1, w0', w1'⟩ := Z5T (cs := [c4, c5, c6, c7]) h1 rfl
  cases e0
  cases e1
  exact ⟨s, A, n', c, t, B, m, d, s', A', n'', c', t', B', m', d', l, k, l', k', rfl, w0, w1, w0', w1'⟩
end
theorem own : ownKnob Tryz.prog.godebug = none := by kernel_rfl
theorem Z97 : laidOutB Tryz.prog = true := by kernel_rfl
theorem lifted (os : Os) (started : os.Started) (H : Type) (enc : TypeId × Value → H) :
  ReturnsInHanded {} Tryz.checked os 3 .any (Rows.boundBoxesSpec.pre6 enc Tryz.prog Tryz.f3 Rows.boundBoxesRow.domain false) (Rows.boundBoxesSpec.post enc Tryz.prog Tryz.f3 false true false false) := by
 refine returnsInHanded_of_change_sized (C := Tryz.checked) own started (by kernel_rfl) func3
  (ChangeSpec.witness6 (enc := enc) (C := Tryz.checked) false ⟨#[], #[.agg #[.bool false, .slice none 0 0, .bool false, .slice none 0 0, .bool false, .slice none 0 0, .bool false, .slice none 0 0], .agg #[.bool false, .slice none 0 0, .bool false, .slice none 0 0, .bool false, .slice none 0 0, .bool false, .slice none 0 0], .int .i64 0], []⟩ 8 (by kernel_rfl) (by kernel_rfl) (by kernel_rfl) (by kernel_rfl)) ?_
 intro W base args ds gs before hval0 hW hcnd hsz0 _
 have hval : ∀ (j : Nat) t v, Tryz.f3.params[j]? = some t → args[j]? = some v → Value.okWide Tryz.prog W .any base t v := hval0
 have hW' := hW
 obtain ⟨p, q, hA0, hV, rfl, hfz, hnd⟩ := hW
 have hA : DataW.TrodAll enc Tryz.prog W 0 (fun _ => true) true Tryz.f3.params.toList args.toList ds p := hA0
 rw [Tryz.params3] at hA hval
 obtain ⟨v0, vs0, d0, ds0, p0, q0, hargs, rfl, rfl, h0, r0⟩ := trodAll_cons hA
 obtain ⟨v1, vs1, d1, ds1, p1, q1, rfl, rfl, rfl, h1, r1⟩ := trodAll_cons r0
 obtain ⟨v2, vs2, d2, ds2, p2, q2, rfl, rfl, rfl, h2, r2⟩ := trodAll_cons r1
 obtain ⟨rfl, rfl, rfl⟩ := trodAll_nil r2
 obtain rfl : args = #[v0, v1, v2] := by cases args; simp_all
 obtain ⟨rfl, rfl⟩ := trodVars_none hV
 have lt0 : ∀ x ∈ p0, x.block < W.heap.size := by obtain ⟨m, hm⟩ := h0; exact DataW.trod_lt m _ _ _ hm
 have lt1 : ∀ x ∈ p1, x.block < W.heap.size := by obtain ⟨m, hm⟩ := h1; exact DataW.trod_lt m _ _ _ hm
 obtain ⟨a2, rfl, rfl, rfl, w2⟩ := open_int Tryz.underlying3 (hval 2 3 v2 rfl rfl) h2
 obtain ⟨s1, A1, n1, c1, t1, B1, m1, e1, s2, A2, n2, c2, t2, B2, m2, e2, l1, l2, l3, l4, rfl, wa1, wa2, wa3, wa4⟩ := Z7N (hval 0 28 v0 rfl rfl) h0
 obtain ⟨s3, A3, n3, c3, t3, B3, m3, e3, s4, A4, n4, c4, t4, B4, m4, e4, k1, k2, k3, k4, rfl, wb1, wb2, wb3, wb4⟩ := Z7N (hval 1 28 v1 rfl rfl) h1
 refine (ZbJ ⟨s1, A1, n1, c1, t1, B1, m1, e1⟩ ⟨s2, A2, n2, c2, t2, B2, m2, e2⟩ ⟨s3, A3, n3, c3, t3, B3, m3, e3⟩ ⟨s4, A4, n4, c4, t4, B4, m4, e4⟩ a2 W l1 l2 l3 l4 k1 k2 k3 k4 wa1 wa2 wa3 wa4 wb1 wb2 wb3 wb4).mono fun e W' ⟨he, bel⟩ => ?_
 subst he
 have bel : Below W.heap.size W W' := bel
 exact ⟨_, rfl, _, _, _, [], _, [], hW', trodAll_mk1 (shut_bool Tryz.underlying4 _), (trodAll_cons_mk (Below.trod Z97 (by kernel_rfl) (of_decide_eq_true (by kernel_rfl)) h0 bel lt0) (trodAll_cons_mk (Below.trod Z97 (by kernel_rfl) (of_decide_eq_true (by kernel_rfl)) h1 bel lt1) (trodAll_cons_mk (shut_int Tryz.underlying3 w2) trodAll_mk0))), rfl, bel.frame _, fun h => by cases h⟩
theorem boundBoxes_holds : Rows.BoundBoxesSaid :=
 OpenClaim.holds_of_wide 3 Tryz.f3 rfl rfl rfl rfl rfl rfl rfl ⟨rfl, rfl, rfl, rfl, rfl⟩ rfl rfl rfl rfl rfl (by kernel_rfl) func3 (by kernel_rfl)
  (of_decide_eq_true (by kernel_rfl)) (by unfold Func.isWrapper; first | (rw [if_pos (by decide +kernel)]; kernel_rfl) | (rw [if_neg (by decide +kernel)]; exact ⟨rfl, rfl⟩))
  (fun os started H enc _ => lifted os started H enc)
#print axioms boundBoxes_holds
end Go.Proofs.YtnmmncccpdffaaaGreat
