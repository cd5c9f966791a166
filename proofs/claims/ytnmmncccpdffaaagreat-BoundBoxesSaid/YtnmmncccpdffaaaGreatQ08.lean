/- What BoundBoxes calls, part 8. -/
import Derived.RangeFuncBound
import Derived.Shelf.RegionOpen
import Derived.OwnWalkIn
import Derived.TacticsInMore
import Derived.LoopNIn
import Derived.LoopIn
import Derived.Handy
import Derived.Defers
import Derived.Recover
import Derived.Test.YtnmmncccpdffaaaGreatQ07
set_option linter.unusedVariables false
set_option linter.unusedSimpArgs false
set_option maxRecDepth 100000
set_option maxHeartbeats 16000000
namespace Go.Proofs.YtnmmncccpdffaaaGreat
open Go.Proofs.Tryz Go Go.RowKit Go.Shelf
attribute [local go_sem] Oper.semAt_some
def TAt (lo hi : Nat → Int) (k : Nat) (v : Value) (W : World) : Prop := ∃ p : QC, v = .agg #[.bool p.s, .slice p.A p.n p.c, .bool p.t, .slice p.B p.m p.d] ∧ SAt W p (lo k) (hi k)
def ZcD (gf : Nat) (lb : Array Value) (T : Nat → Value → World → Prop) (n0 N : Nat) (w : World) : Prop :=
 ∀ (l : Nat) (J : Nat → World → Prop) (Jx : World → Prop) (W : World), Ext w W → w.heap.size + 2 ≤ W.heap.size →
  (∀ k A B, J k A → Below W.heap.size A B → Za A B → J k B) → (∀ A B, Jx A → Below W.heap.size A B → Za A B → Jx B) →
  (∀ k W1 v, J k W1 → T k v W1 → YieldAt Fence.wide (3 - 1 - 1) Tryz.prog l #[v] W1 fun e W' => Kp n0 W.heap.size W1 W' ∧ ((e = .returned (.bool true) ∧ k + 1 ≤ N ∧ J (k + 1) W') ∨ (e = .returned (.bool false) ∧ Jx W'))) →
  J 0 W → CallsIn Fence.wide (3 - 1) Tryz.prog gf (#[.func (.yield l) #[] #[]] ++ lb) W fun e W' => (∃ v, e = .returned v) ∧ Jx W'
def Z3E (f : Nat → Int) : Nat → Int
 | 0 => 0
 | k + 1 => Z3E f k + f k
theorem Kp.ext {n0 B : Nat} {a b c : World} (h : Kp n0 B a b) (k : Ext b c) (hn : n0 ≤ a.heap.size) : Kp n0 B a c := h.trans (Kp.of_ext k (Nat.le_trans hn h.below.size))
theorem Kp.drew {n0 B : Nat} {a b : World} (h : Kp n0 B a b) : Kp n0 B a b.drew := ⟨h.below.drew, h.words, h.own⟩
theorem Kp.alloc {n0 B : Nat} {a b : World} (h : Kp n0 B a b) (o : Obj) (hn : n0 ≤ a.heap.size) : Kp n0 B a (b.alloc o) := h.ext ((Ext.refl b).alloc o) hn
theorem Kp.setCell {n0 B : Nat} {a b : World} (h : Kp n0 B a b) {p : Addr} (h1 : n0 ≤ p.block) (h2 : p.block < B) (hp : ∀ x, b.cell? p ≠ some (.int .u32 x)) (v : Value) : Kp n0 B a (b.setCell p v) :=
 h.trans ⟨(Below.refl n0 b).setCell h1 v, (Za.refl b).setCell hp v, fun i hi _ => Below.heap_setCell b p v i (by omega)⟩
theorem KPX {n0 B : Nat} {a b : World} (h : Kp n0 B a b := by (repeat' (first | (with_reducible exact Kp.refl _ _ _) | (with_reducible refine Kp.drew ?_) | (with_reducible refine Kp.alloc ?_ _ ?_) | (with_reducible refine Kp.setCell ?_ ?_ ?_ (NB.nw ?_ _) _) | (with_reducible refine Kp.ext ?_ (by assumption) ?_) | (with_reducible assumption) | (apply BK.nb; (focus (first | (with_reducible refine BK.new _ _ ?_; first | rfl | (simp only [SZ]; done)) | (with_reducible assumption))); (focus (simp; done))) | (with_reducible refine NB.alloc ?_ _) | (with_reducible refine NB.drew ?_) | ((refine NB.set ?_ _ _ rfl ?_); rotate_left; (focus (with_unfolding_all (intro x h; cases h; done)))) | (with_reducible refine NB.ext ?_ (by assumption)) | (simp only []; omega) | omega))) : Kp n0 B a b := h
theorem SAt.keep {w w' : World} {p : QC} {x y : Int} (h : SAt w p x y) (k : Za w w') : SAt w' p x y := ⟨h.1.keep k, h.2.keep k⟩
theorem BK.below {n : Nat} {A B : World} {g : Nat} {c : Array Value} (h : BK A g c) (k : Below n A B) (hg : g < n) : BK B g c := by obtain ⟨ty, h⟩ := h; exact ⟨ty, (k.block g hg).trans h⟩
theorem BK.putObj {A : World} {g l : Nat} {c : Array Value} (h : BK A g c) (o : Obj) (hl : ∃ r, A.heap[l]? = some (.loop r)) : BK (A.putObj l o) g c := by
 obtain ⟨ty, h⟩ := h
 obtain ⟨r, hl⟩ := hl
 have hne : g ≠ l := by rintro rfl; rw [h] at hl; cases hl
 exact ⟨ty, (Zg hne).trans h⟩
theorem Z9d {x y : Int} : Z47 x y ≤ 0 ↔ x ≤ y := by
 unfold Z47
 split
 ·exact ⟨fun _ => by omega, fun _ => by decide⟩
 ·split
  ·exact ⟨fun e => by omega, fun e => by omega⟩
  ·exact ⟨fun _ => by omega, fun _ => by decide⟩
theorem Z6c (gf : Nat) (lb : Array Value) (eg : ∀ args w, (callFunc gf args).run Tryz.prog w = .ok (.enter gf args) w) (lo hi : Nat → Int) (N : Nat) (w : World) (h : ∀ w1, Ext w w1 → ZcD gf lb (TAt lo hi) w.heap.size N w1)
  (hN : ∀ k, k < N → ¬ hi k ≤ 4) (hN' : hi N ≤ 4) (hs : ∀ k, k ≤ N → wl (lo k) + wl (hi k) + wl (Z3E lo k) + wl (Z3E hi k) + 20 < Z8) :
  Ca 158 #[.func (.func gf) #[] lb] w (Z5N w (Z3E lo N) (Z3E hi N + 16)) := by
 refine (callsIn_wide (n := 3)).1 ?_
 refine callsIn_of_wp_marks func158 rfl trivial ?_ rfl
 simp only [ntmps158, List.size_toArray, List.length_cons, List.length_nil, Nat.reduceAdd, Nat.reduceSub, Array.replicate_succ, Array.replicate_zero, List.push_toArray, List.append_toArray, List.nil_append, List.cons_append]
 gi_wp2
 obtain ⟨W0, hW0⟩ : ∃ W0, ((w.alloc (.cells #[.bool false, .slice none 0 0, .bool false, .slice none 0 0] 148)).alloc (.cells #[.bool false, .slice none 0 0, .bool false, .slice none 0 0] 148)) = W0 := ⟨_, rfl⟩
 have B0 : BK W0 (w.heap.size) zA9 := by rw [← hW0]; exact BX
 have B1 : BK W0 (w.heap.size + 1) zA9 := by rw [← hW0]; exact BX
 have x0 : Ext w W0 := by rw [← hW0]; exact EX
 have z0 : W0.heap.size = w.heap.size + 2 := by rw [← hW0]; simp only [World.size_alloc]
 rw [hW0]
 clear hW0
 refine Z9v rfl (by omega) (gf := gf) (lb := lb) rfl trivial eg w.heap.size (by omega) (TAt lo hi) (fun k W => k ≤ N ∧ (∃ o : QC, BK W (w.heap.size + 1) (zA3 o) ∧ SAt W o (Z3E lo k) (Z3E hi k)) ∧ BK W (w.heap.size) zA9 ∧ Ext w W) (fun W => (∃ o : QC, BK W (w.heap.size) (zA3 o) ∧ SAt W o (Z3E lo N) (Z3E hi N + 16)) ∧ Ext w W) (fun k v a' W => ∃ (g4 : Nat) (p : QC), BK W g4 (zA3 p) ∧ v = .agg #[.bool p.s, .slice p.A p.n p.c, .bool p.t, .slice p.B p.m p.d] ∧ w.heap.size + 2 ≤ g4 ∧ a' = { tmps := #[.func (.func gf) #[] lb, undef, .pointer (some ⟨w.heap.size, 0, none⟩), .pointer (some ⟨w.heap.size + 1, 0, none⟩), .pointer (some ⟨g4, 0, none⟩), .func (.func gf) #[] lb, v, undef, undef, undef, undef, undef, undef, undef, undef, undef, undef, undef, undef, undef, undef, undef, undef, undef, undef, undef, undef, undef, undef, undef, undef], defers := [] }) ?_ ?_ ?_ ?_ N (fun _ _ h => h.1) ?_ ?_ ?_ ?_ ?_
 ·rintro k v A B ⟨p, rfl, hp⟩ hk
  exact ⟨p, rfl, hp.keep hk⟩
 ·rintro k A B ⟨hk, ⟨o, ho, hs⟩, hz, hx⟩ hb hw
  exact ⟨hk, ⟨o, ho.below hb (by omega), hs.keep hw⟩, hz.below hb (by omega), Below.trans hx (Below.mono hb (by omega))⟩
 ·rintro A B ⟨⟨o, ho, hs⟩, hx⟩ hb hw
  exact ⟨⟨o, ho.below hb (by omega), hs.keep hw⟩, Below.trans hx (Below.mono hb (by omega))⟩
 ·rintro k v a' A l o ⟨g4, p, h4, hv, hg, ha⟩ hl
  exact ⟨g4, p, h4.putObj o hl, hv, hg, ha⟩
 ·exact ⟨by omega, ⟨⟨false, none, 0, 0, false, none, 0, 0⟩, B1, IAt.zero _ false, IAt.zero _ false⟩, B0, x0⟩
 ·intro l J Jx W hx hsz hJ hJx hY hJ0
  exact h W0 x0 l J Jx W hx (by omega) hJ hJx hY hJ0
 ·rintro l k v W ⟨hk, ⟨o, ho, hs'⟩, hz, hx⟩ ⟨p, rfl, hp⟩ hW
  have hzs := hz.lt
  have hos := ho.lt
  gi_wp2
  exact ⟨by exact KPX, ⟨hk, ⟨o, BX, hs'.keep KS⟩, BX, EX⟩, ⟨p, rfl, hp.keep KS⟩, ⟨W.heap.size, p, BX, rfl, by omega, rfl⟩⟩
 ·rintro l k v a' W ⟨hk, ⟨o, ho, hs'⟩, hz, hx⟩ ⟨p', hp', hp⟩ ⟨g4, p, h4, rfl, hg4, rfl⟩ hW
  obtain rfl : p = p' := by
   obtain ⟨s, A, n, c, t, B, m, d⟩ := p
   obtain ⟨s', A', n', c', t', B', m', d'⟩ := p'
   simp at hp'
   simp [hp']
  have hsk := hs k hk
  have H1 := zH hp.1
  have H2 := zH hp.2
  have H3 := zH hs'.1
  have H4 := zH hs'.2
  have k1 := Nat.le_of_eq hp.1.wl
  have k2 := Nat.le_of_eq hp.2.wl
  have k3 := Nat.le_of_eq hs'.1.wl
  have k4 := Nat.le_of_eq hs'.2.wl
  have w4 := Zo (z := 4) (by decide) (by decide)
  have w16 := Zo (z := 16) (by decide) (by decide)
  have F4 := h4.c4
  have F1 := ho.c4
  have F0 := hz.c4
  have L4 := h4.lt
  clear hp hs' hp'
  by_cases hkN : k = N
  ·subst hkN
   have C := zH (Z9d.2 hN')
   obtain ⟨z, hz1⟩ : ∃ z, Z47 (hi k) 4 = z := ⟨_, rfl⟩
   have HZ := zH hz1
   have hzle : z ≤ 0 := by rw [← hz1]; exact C.out
   clear hz1 C
   gi_wp2_with fail
   (refine Z0Z (fun w' => zC w' g4 0 (.bool p.s) ∧ zC w' g4 1 (.slice p.A p.n p.c) ∧ zC w' g4 2 (.bool p.t) ∧ zC w' g4 3 (.slice p.B p.m p.d) ∧ zC w' (w.heap.size + 1) 0 (.bool o.s) ∧ zC w' (w.heap.size + 1) 1 (.slice o.A o.n o.c) ∧ zC w' (w.heap.size + 1) 2 (.bool o.t) ∧ zC w' (w.heap.size + 1) 3 (.slice o.B o.m o.d)) Z0a (by kernel_rfl) (by (try dsimp only); (first | (exact KQ) | (simp [go_sem, *]; done))) (fun hHeld => ?_)); refine TH 0 ?_; refine TH 1 ?_; (refine RDH [2] ?_; refine ARH (fun K hK => ?_) ?_; rotate_left; exact AllReadyH.nil; go_simp; (go_at_call 148; (with_reducible refine (Zk 4 _ (by decide) (by decide)).mono ?_); refine rI ?_; intro w1 sw1 Aw1 nw1 cw1 Hw1 hbw1; obtain ⟨R4, L4, F4⟩ := BC4 w1 g4; obtain ⟨R1, L1, F1⟩ := B41 w1 w; obtain ⟨R0, L0, F0⟩ := B40 w1 w; have N1 := Nat.le_of_eq Hw1.out.wl); refine hK.out _ _ ?_ (fun hHeld => ?_); (focus ((try dsimp only); (first | (exact KQ) | (simp [go_sem, *]; done)))); clear hK K; (try simp only [LY])); (refine RDH [3] ?_; refine ARH (fun K hK => ?_) ?_; rotate_left; exact AllReadyH.nil; go_simp; (go_at_call 127; (with_reducible refine (Z2e (h1 := IX) (h2 := IX) (hs1 := by omega) (hs2 := by omega)).mono ?_); rw [HZ.out]; rintro e w2 ⟨rfl, hbw2⟩; (try clear F4 F1 F0); obtain ⟨R4, L4, F4⟩ := BC4 w2 g4; obtain ⟨R1, L1, F1⟩ := B41 w2 w; obtain ⟨R0, L0, F0⟩ := B40 w2 w); refine hK.out _ _ ?_ (fun hHeld => ?_); (focus ((try dsimp only); (first | (exact KQ) | (simp [go_sem, *]; done)))); clear hK K; (try simp only [LY])); refine TH 4 ?_; (refine wpAnyH_done (by kernel_rfl) ?_ _); (try dsimp only [ZW])
   gi_wp2_with fail
   (refine Z0Z (fun w' => zC w' g4 0 (.bool p.s) ∧ zC w' g4 1 (.slice p.A p.n p.c) ∧ zC w' g4 2 (.bool p.t) ∧ zC w' g4 3 (.slice p.B p.m p.d) ∧ zC w' (w.heap.size + 1) 0 (.bool o.s) ∧ zC w' (w.heap.size + 1) 1 (.slice o.A o.n o.c) ∧ zC w' (w.heap.size + 1) 2 (.bool o.t) ∧ zC w' (w.heap.size + 1) 3 (.slice o.B o.m o.d)) Z0a (by kernel_rfl) (by (try dsimp only); (first | (exact KQ) | (simp [go_sem, *]; done))) (fun hHeld => ?_)); refine TH 0 ?_; refine TH 1 ?_; refine TH 2 ?_; refine TH 3 ?_; (refine RDH [4] ?_; refine ARH (fun K hK => ?_) ?_; rotate_left; exact AllReadyH.nil; go_simp; (go_at_call 148; (with_reducible refine (Zk 16 _ (by decide) (by decide)).mono ?_); refine rI ?_; intro w3 sw3 Aw3 nw3 cw3 Hw3 hbw3; (try clear F4 F1 F0); obtain ⟨R4, L4, F4⟩ := BC4 w3 g4; obtain ⟨R1, L1, F1⟩ := B41 w3 w; obtain ⟨R0, L0, F0⟩ := B40 w3 w; have N3 := Nat.le_of_eq Hw3.out.wl); refine hK.out _ _ ?_ (fun hHeld => ?_); (focus ((try dsimp only); (first | (exact KQ) | (simp [go_sem, *]; done)))); clear hK K; (try simp only [LY])); (refine RDH [5] ?_; refine ARH (fun K hK => ?_) ?_; rotate_left; exact AllReadyH.nil; go_simp; (go_at_call 209; (with_reducible refine (Z0B o.t sw3 o.B Aw3 o.m o.d nw3 cw3 _ _ _ IX IX (by omega) (by omega)).mono ?_); refine rI ?_; intro w4 sw4 Aw4 nw4 cw4 Hw4 hbw4; (try clear F4 F1 F0); obtain ⟨R4, L4, F4⟩ := BC4 w4 g4; obtain ⟨R1, L1, F1⟩ := B41 w4 w; obtain ⟨R0, L0, F0⟩ := B40 w4 w); refine hK.out _ _ ?_ (fun hHeld => ?_); (focus ((try dsimp only); (first | (exact KQ) | (simp [go_sem, *]; done)))); clear hK K; (try simp only [LY])); refine TH 6 ?_; (refine RDH [7] ?_; refine ARH (fun K hK => ?_) ?_; rotate_left; exact AllReadyH.nil; go_simp; skip; refine hK.out _ _ ?_ (fun hHeld => ?_); (focus ((try dsimp only); (first | (exact KQ) | (simp [go_sem, *]; done)))); clear hK K; (try simp only [LY])); (refine wpAnyH_done (by kernel_rfl) ?_ _); (try dsimp only [ZW])
   gi_wp2_with fail
   exact ⟨by exact KPX, ⟨⟨o.s, o.A, o.n, o.c, sw4, Aw4, nw4, cw4⟩, BX, IX, IX⟩, EX⟩
  ·have hlt : k < N := by omega
   have C : ¬ Z47 (hi k) 4 ≤ 0 := fun e => absurd (Z9d.1 e) (by have := hN k hlt; omega)
   obtain ⟨z, hz1⟩ : ∃ z, Z47 (hi k) 4 = z := ⟨_, rfl⟩
   have HZ := zH hz1
   have hzle : ¬ z ≤ 0 := by rw [← hz1]; exact C
   clear hz1 C
   gi_wp2_with fail
   (refine Z0Z (fun w' => zC w' g4 0 (.bool p.s) ∧ zC w' g4 1 (.slice p.A p.n p.c) ∧ zC w' g4 2 (.bool p.t) ∧ zC w' g4 3 (.slice p.B p.m p.d) ∧ zC w' (w.heap.size + 1) 0 (.bool o.s) ∧ zC w' (w.heap.size + 1) 1 (.slice o.A o.n o.c) ∧ zC w' (w.heap.size + 1) 2 (.bool o.t) ∧ zC w' (w.heap.size + 1) 3 (.slice o.B o.m o.d)) Z0a (by kernel_rfl) (by (try dsimp only); (first | (exact KQ) | (simp [go_sem, *]; done))) (fun hHeld => ?_)); refine TH 0 ?_; refine TH 1 ?_; (refine RDH [2] ?_; refine ARH (fun K hK => ?_) ?_; rotate_left; exact AllReadyH.nil; go_simp; (go_at_call 148; (with_reducible refine (Zk 4 _ (by decide) (by decide)).mono ?_); refine rI ?_; intro w1 sw1 Aw1 nw1 cw1 Hw1 hbw1; obtain ⟨R4, L4, F4⟩ := BC4 w1 g4; obtain ⟨R1, L1, F1⟩ := B41 w1 w; obtain ⟨R0, L0, F0⟩ := B40 w1 w; have N1 := Nat.le_of_eq Hw1.out.wl); refine hK.out _ _ ?_ (fun hHeld => ?_); (focus ((try dsimp only); (first | (exact KQ) | (simp [go_sem, *]; done)))); clear hK K; (try simp only [LY])); (refine RDH [3] ?_; refine ARH (fun K hK => ?_) ?_; rotate_left; exact AllReadyH.nil; go_simp; (go_at_call 127; (with_reducible refine (Z2e (h1 := IX) (h2 := IX) (hs1 := by omega) (hs2 := by omega)).mono ?_); rw [HZ.out]; rintro e w2 ⟨rfl, hbw2⟩; (try clear F4 F1 F0); obtain ⟨R4, L4, F4⟩ := BC4 w2 g4; obtain ⟨R1, L1, F1⟩ := B41 w2 w; obtain ⟨R0, L0, F0⟩ := B40 w2 w); refine hK.out _ _ ?_ (fun hHeld => ?_); (focus ((try dsimp only); (first | (exact KQ) | (simp [go_sem, *]; done)))); clear hK K; (try simp only [LY])); refine TH 4 ?_; (refine wpAnyH_done (by kernel_rfl) ?_ _); (try dsimp only [ZW])
   gi_wp2_with fail
   (refine Z0Z (fun w' => zC w' g4 0 (.bool p.s) ∧ zC w' g4 1 (.slice p.A p.n p.c) ∧ zC w' g4 2 (.bool p.t) ∧ zC w' g4 3 (.slice p.B p.m p.d)) Z0a (by kernel_rfl) (by (try dsimp only); (first | (exact KQ) | (simp [go_sem, *]; done))) (fun hHeld => ?_)); refine TH 0 ?_; refine TH 2 ?_; refine TH 3 ?_; refine TH 5 ?_; refine TH 7 ?_; refine TH 8 ?_
   refine RDH [1, 6] ?_
   refine ARH (fun K hK => ?_) ?_
   ·go_simp
    refine KH hK (fun hHeld => ?_) KQ; clear hK K
    refine RDH [4, 6] ?_
    refine ARH (fun K hK => ?_) ?_
    ·go_simp
     (go_at_call 209; (with_reducible apply Calls.mono (args := #[.agg #[.bool o.s, .slice o.A o.n o.c], .agg #[.bool p.s, .slice p.A p.n p.c]])); (focus (go_loud (with_reducible exact Z0B o.s p.s o.A p.A o.n o.c p.n p.c _ _ _ IX IX (by omega) (by omega)))); rintro e w3 ⟨sw3, Aw3, nw3, cw3, rfl, hQ, hbw3⟩; have Hw3 := zH hQ; clear hQ; (try clear F4 F1 F0); obtain ⟨R4, L4, F4⟩ := BC4 w3 g4; obtain ⟨R1, L1, F1⟩ := B41 w3 w; obtain ⟨R0, L0, F0⟩ := B40 w3 w)
     refine KH hK (fun hHeld => ?_) KQ; clear hK K
     refine R1H 6 fun K hK => ?_
     go_simp
     refine KH hK (fun hHeld => ?_) KQ; clear hK K
     refine R1H 9 fun K hK => ?_
     go_simp
     (go_at_call 209; (with_reducible apply Calls.mono (args := #[.agg #[.bool o.t, .slice o.B o.m o.d], .agg #[.bool p.t, .slice p.B p.m p.d]])); (focus (go_loud (with_reducible exact Z0B o.t p.t o.B p.B o.m o.d p.m p.d _ _ _ IX IX (by omega) (by omega)))); rintro e w4 ⟨sw4, Aw4, nw4, cw4, rfl, hQ, hbw4⟩; have Hw4 := zH hQ; clear hQ; (try clear F4 F1 F0); obtain ⟨R4, L4, F4⟩ := BC4 w4 g4; obtain ⟨R1, L1, F1⟩ := B41 w4 w; obtain ⟨R0, L0, F0⟩ := B40 w4 w)
     refine KH hK (fun hHeld => ?_) KQ; clear hK K
     refine TH 10 ?_
     refine R1H 11 fun K hK => ?_
     go_simp
     refine KH hK (fun hHeld => ?_) KQ; clear hK K
     refine wpAnyH_done (by kernel_rfl) ?_ _
     (try dsimp only [ZW])
     gi_wp2_with fail
     exact ⟨by exact KPX, by omega, ⟨⟨sw3, Aw3, nw3, cw3, sw4, Aw4, nw4, cw4⟩, BX, IX, IX⟩, BX, EX⟩
    refine ARH (fun K hK => ?_) ?_
    ·go_simp
     refine KH hK (fun hHeld => ?_) KQ; clear hK K
     refine R1H 4 fun K hK => ?_
     go_simp
     (go_at_call 209; (with_reducible apply Calls.mono (args := #[.agg #[.bool o.s, .slice o.A o.n o.c], .agg #[.bool p.s, .slice p.A p.n p.c]])); (focus (go_loud (with_reducible exact Z0B o.s p.s o.A p.A o.n o.c p.n p.c _ _ _ IX IX (by omega) (by omega)))); rintro e w3 ⟨sw3, Aw3, nw3, cw3, rfl, hQ, hbw3⟩; have Hw3 := zH hQ; clear hQ; (try clear F4 F1 F0); obtain ⟨R4, L4, F4⟩ := BC4 w3 g4; obtain ⟨R1, L1, F1⟩ := B41 w3 w; obtain ⟨R0, L0, F0⟩ := B40 w3 w)
     refine KH hK (fun hHeld => ?_) KQ; clear hK K
     refine R1H 9 fun K hK => ?_
     go_simp
     (go_at_call 209; (with_reducible apply Calls.mono (args := #[.agg #[.bool o.t, .slice o.B o.m o.d], .agg #[.bool p.t, .slice p.B p.m p.d]])); (focus (go_loud (with_reducible exact Z0B o.t p.t o.B p.B o.m o.d p.m p.d _ _ _ IX IX (by omega) (by omega)))); rintro e w4 ⟨sw4, Aw4, nw4, cw4, rfl, hQ, hbw4⟩; have Hw4 := zH hQ; clear hQ; (try clear F4 F1 F0); obtain ⟨R4, L4, F4⟩ := BC4 w4 g4; obtain ⟨R1, L1, F1⟩ := B41 w4 w; obtain ⟨R0, L0, F0⟩ := B40 w4 w)
     refine KH hK (fun hHeld => ?_) KQ; clear hK K
     refine TH 10 ?_
     refine R1H 11 fun K hK => ?_
     go_simp
     refine KH hK (fun hHeld => ?_) KQ; clear hK K
     refine wpAnyH_done (by kernel_rfl) ?_ _
     (try dsimp only [ZW])
     gi_wp2_with fail
     exact ⟨by exact KPX, by omega, ⟨⟨sw3, Aw3, nw3, cw3, sw4, Aw4, nw4, cw4⟩, BX, IX, IX⟩, BX, EX⟩
    exact AllReadyH.nil
   refine ARH (fun K hK => ?_) ?_
   ·go_simp
    refine KH hK (fun hHeld => ?_) KQ; clear hK K
    refine R1H 1 fun K hK => ?_
    go_simp
    refine KH hK (fun hHeld => ?_) KQ; clear hK K
    refine R1H 4 fun K hK => ?_
    go_simp
    (go_at_call 209; (with_reducible apply Calls.mono (args := #[.agg #[.bool o.s, .slice o.A o.n o.c], .agg #[.bool p.s, .slice p.A p.n p.c]])); (focus (go_loud (with_reducible exact Z0B o.s p.s o.A p.A o.n o.c p.n p.c _ _ _ IX IX (by omega) (by omega)))); rintro e w3 ⟨sw3, Aw3, nw3, cw3, rfl, hQ, hbw3⟩; have Hw3 := zH hQ; clear hQ; (try clear F4 F1 F0); obtain ⟨R4, L4, F4⟩ := BC4 w3 g4; obtain ⟨R1, L1, F1⟩ := B41 w3 w; obtain ⟨R0, L0, F0⟩ := B40 w3 w)
    refine KH hK (fun hHeld => ?_) KQ; clear hK K
    refine R1H 9 fun K hK => ?_
    go_simp
    (go_at_call 209; (with_reducible apply Calls.mono (args := #[.agg #[.bool o.t, .slice o.B o.m o.d], .agg #[.bool p.t, .slice p.B p.m p.d]])); (focus (go_loud (with_reducible exact Z0B o.t p.t o.B p.B o.m o.d p.m p.d _ _ _ IX IX (by omega) (by omega)))); rintro e w4 ⟨sw4, Aw4, nw4, cw4, rfl, hQ, hbw4⟩; have Hw4 := zH hQ; clear hQ; (try clear F4 F1 F0); obtain ⟨R4, L4, F4⟩ := BC4 w4 g4; obtain ⟨R1, L1, F1⟩ := B41 w4 w; obtain ⟨R0, L0, F0⟩ := B40 w4 w)
    refine KH hK (fun hHeld => ?_) KQ; clear hK K
    refine TH 10 ?_
    refine R1H 11 fun K hK => ?_
    go_simp
    refine KH hK (fun hHeld => ?_) KQ; clear hK K
    refine wpAnyH_done (by kernel_rfl) ?_ _
    (try dsimp only [ZW])
    gi_wp2_with fail
    exact ⟨by exact KPX, by omega, ⟨⟨sw3, Aw3, nw3, cw3, sw4, Aw4, nw4, cw4⟩, BX, IX, IX⟩, BX, EX⟩
   exact AllReadyH.nil
 ·rintro D W hD ⟨⟨o, ho, hs'⟩, hx⟩ hdd
  gi_wp2
  have hne : w.heap.size ≠ D := by omega
  have ho' : BK (W.putObj D (.deferred none)) (w.heap.size) #[.bool o.s, .slice o.A o.n o.c, .bool o.t, .slice o.B o.m o.d] := by
   obtain ⟨ty, ho⟩ := ho
   exact ⟨ty, (Zg hne).trans ho⟩
  have hk : Za W (W.putObj D (.deferred none)) := by
   intro a x ha
   have hne' : a.block ≠ D := by rintro rfl; simp [World.cell?, hdd] at ha
   exact (World.cell?_of_block (w := W) (Zg hne')).trans ha
  have hx' : Ext w (W.putObj D (.deferred none)) := Below.trans hx (ZV hdd (by omega))
  have F0 := ho'.c4
  refine ⟨by simp, .inl ⟨_, _, rfl, run_takeDeferred hdd, ?_⟩⟩
  refine ⟨.agg #[.bool o.s, .slice o.A o.n o.c, .bool o.t, .slice o.B o.m o.d], by simp [results, results158, go_sem, F0], ⟨o, rfl, hs'.1.keep hk, hs'.2.keep hk, hx'⟩⟩
def Z8b (one y0 y1 : Int) : Nat → Int × Int
 | 0 => (one, one)
 | i + 1 => ((Z8b one y0 y1 i).1 * y0 / (one * ((i : Int) + 1)), upI ((Z8b one y0 y1 i).2 * y1) (one * ((i : Int) + 1)))
theorem Z1Q (kk : Int) (s3 : Bool) (A3 : Option Addr) (n3 c3 : Nat) (y : QC) (w : World) :
  Ca 159 #[.agg #[.int .i64 kk, .bool s3, .slice A3 n3 c3], .agg (zA3 y)] w fun e w' => e = .returned (.func (.func 220) #[] #[.pointer (some ⟨w.heap.size, 0, none⟩), .pointer (some ⟨w.heap.size + 1, 0, none⟩)]) ∧ BK w' (w.heap.size) #[.int .i64 kk, .bool s3, .slice A3 n3 c3] ∧ BK w' (w.heap.size + 1) (zA3 y) ∧ Ext w w' := by
 have hmf : ∀ (fn : Fn) (first cap : Array Value) (w : World), (Instr.makeFunc fn first cap).run Tryz.prog w = .ok (.func fn first cap) w := fun _ _ _ _ => rfl
 dsimp only [zA3]
 go_enter func159, ntmps159
 go_wp2
 go_ret
 exact ⟨rfl, BX, BX, EX⟩
theorem BK.own {n0 B : Nat} {a b : World} {g : Nat} {c : Array Value} (h : BK a g c) (k : Kp n0 B a b) (hg : B ≤ g) : BK b g c := by have hl := h.lt; obtain ⟨ty, h⟩ := h; exact ⟨ty, (k.own g hg hl).trans h⟩
theorem Z7c (g2 g3 : Nat) (kk : Int) (s3 : Bool) (A3 : Option Addr) (n3 c3 : Nat) (y : QC) (one y0 y1 : Int) (n0 N : Nat) (w : World)
  (h2 : BK w g2 #[.int .i64 kk, .bool s3, .slice A3 n3 c3]) (h3 : BK w g3 (zA3 y)) (ho : IAt w s3 A3 n3 c3 one) (hy : SAt w y y0 y1) (hone : 0 < one) (hg2 : g2 < n0) (hg3 : g3 < n0) (hn0 : n0 ≤ w.heap.size) (hN : N ≤ 1000000)
  (hs : ∀ i, i ≤ N → wl one + wl y0 + wl y1 + wl (Z8b one y0 y1 i).1 + wl (Z8b one y0 y1 i).2 + wl (one * ((i : Int) + 1)) + 40 < Z8) :
  ZcD 220 #[.pointer (some ⟨g2, 0, none⟩), .pointer (some ⟨g3, 0, none⟩)] (TAt (fun i => (Z8b one y0 y1 i).1) (fun i => (Z8b one y0 y1 i).2)) n0 N w := by
 intro l J Jx W hx hsz hJ hJx hY hJ0
 have b2 := h2.ext hx
 have b3 := h3.ext hx
 have F2 := b2.c3
 have F3 := b3.c4
 have L2 := b2.lt
 have L3 := b3.lt
 have HO := zH (ho.ext hx)
 have HY1 := zH (hy.1.ext hx)
 have HY2 := zH (hy.2.ext hx)
 refine callsIn_of_wp func220 rfl trivial ?_ rfl
 simp only [ntmps220, List.size_toArray, List.length_cons, List.length_nil, Nat.reduceAdd, Nat.reduceSub, Array.replicate_succ, Array.replicate_zero, List.push_toArray, List.append_toArray, List.nil_append, List.cons_append]
 gi_wp2_with fail
 gi_loopw [5] (fun iv wr => ∃ (k : Nat) (p : QC), iv = .int .i64 ((k : Int) + 1) ∧ k ≤ N ∧ J k wr ∧ BK wr W.heap.size (zA3 p) ∧ IAt wr p.s p.A p.n p.c (Z8b one y0 y1 k).1 ∧ IAt wr p.t p.B p.m p.d (Z8b one y0 y1 k).2 ∧ BK wr g2 #[.int .i64 kk, .bool s3, .slice A3 n3 c3] ∧ BK wr g3 (zA3 y) ∧ IAt wr s3 A3 n3 c3 one ∧ IAt wr y.s y.A y.n y.c y0 ∧ IAt wr y.t y.B y.m y.d y1) (fun iv _ => ((N : Int) + 2 - intOf iv).toNat)
 case atStart => exact ⟨0, ⟨s3, A3, n3, c3, s3, A3, n3, c3⟩, by simp, by omega, hJ 0 _ _ hJ0 ((Below.refl _ _).alloc (Nat.le_refl _) _) ((Za.refl _).alloc _), BX, IX, IX, BX, BX, IX, IX, IX⟩
 case round =>
  obtain ⟨k, p, rfl, hk, hJk, hX, hp1, hp2, hG, hYb, ho', hy1, hy2⟩ := hrel
  obtain ⟨fn, tmps, assign, body, hyl, hR⟩ := hY k wr (.agg #[.bool p.s, .slice p.A p.n p.c, .bool p.t, .slice p.B p.m p.d]) hJk ⟨p, rfl, hp1, hp2⟩
  clear HO HY1 HY2 hY
  (try clear FF)
  have F4 := hX.c4
  gi_wp2_with fail
  refine hR.mono ?_
  rintro e W' ⟨hk', (⟨rfl, hkN, hJ'⟩ | ⟨rfl, hJx'⟩)⟩
  ·have hpos : 0 < one * ((k : Int) + 1) := Int.mul_pos hone (by omega)
   have hsk := hs k hk
   have hone1 := Zo (z := (k : Int) + 1) (by omega) (by omega)
   have k1 := Nat.le_of_eq ho'.wl
   have X4 : BK W' W.heap.size (zA3 p) := hX.own hk' (Nat.le_refl _)
   have Y3 : BK W' g3 (zA3 y) := hYb.below hk'.below hg3
   have C2 : BK W' g2 #[.int .i64 kk, .bool s3, .slice A3 n3 c3] := hG.below hk'.below hg2
   have HO := zH (ho'.keep hk'.words)
   have HY1 := zH (hy1.keep hk'.words)
   have HY2 := zH (hy2.keep hk'.words)
   have HP1 := zH (hp1.keep hk'.words)
   have HP2 := zH (hp2.keep hk'.words)
   clear ho' hy1 hy2 hp1 hp2 hX hYb hG hR hyl
   (try clear FF)
   have L4 := X4.lt
   have FF := And.intro C2.ca (And.intro Y3.ca X4.ca); dsimp only [CA, CC, Nat.reduceAdd] at FF
   gi_wp2_with fail
   refine wpIn_wide.2 (wp_region_noPanic ?_)
   refine wp_region_held_drew (S := (fun w' => w'.cell? ⟨g2, 0, none⟩ = some (.int .i64 kk) ∧ w'.cell? ⟨g2, 1, none⟩ = some (.bool s3) ∧ w'.cell? ⟨g2, 2, none⟩ = some (.slice A3 n3 c3) ∧ w'.cell? ⟨g3, 0, none⟩ = some (.bool y.s) ∧ w'.cell? ⟨g3, 1, none⟩ = some (.slice y.A y.n y.c) ∧ w'.cell? ⟨g3, 2, none⟩ = some (.bool y.t) ∧ w'.cell? ⟨g3, 3, none⟩ = some (.slice y.B y.m y.d))) Z0a (by (try dsimp only); (first | (exact KQ) | (simp [go_sem, *]; done))) (fun hHeld => ?_)
   refine TH 1 ?_; refine TH 2 ?_; refine TH 3 ?_; refine TH 4 ?_
   refine RDH [0, 5] ?_
   refine ARH (fun K hK => ?_) ?_
   ·go_simp
    refine KH hK (fun hHeld => ?_) KQ; clear hK K
    refine R1H 5 fun K hK => ?_
    go_simp
    refine (Zk ((k : Int) + 1) _ (by omega) (by omega)).mono ?_; refine rI ?_; intro w5 sw5 Aw5 nw5 cw5 Hw5 hbw5; (try clear F2 F3 F4); obtain ⟨R2, L2, F2⟩ := BC3 w5 g2; obtain ⟨R3, L3, F3⟩ := BC4 w5 g3; obtain ⟨R4, L4, F4⟩ := B40 w5 W; have N5 := Nat.le_of_eq Hw5.out.wl
    refine KH hK (fun hHeld => ?_) KQ; clear hK K
    refine R1H 6 fun K hK => ?_
    go_simp
    refine (Zt (h1 := IX) (h2 := IX) (hs := by omega)).mono ?_; refine rI ?_; intro w6 sw6 Aw6 nw6 cw6 Hw6 hbw6; (try clear F2 F3 F4); obtain ⟨R2, L2, F2⟩ := BC3 w6 g2; obtain ⟨R3, L3, F3⟩ := BC4 w6 g3; obtain ⟨R4, L4, F4⟩ := B40 w6 W; have N6 := Nat.le_of_eq Hw6.out.wl
    refine KH hK (fun hHeld => ?_) KQ; clear hK K
    refine R1H 7 fun K hK => ?_
    go_simp
    refine (Z0E p y sw6 Aw6 nw6 cw6 _ _ _ _ _ _ IX IX IX IX IX hpos (by omega)).mono ?_; rintro e w7 ⟨pw7, rfl, hQ, hQ', hbw7⟩; have Hw7 := zH hQ; have Kw7 := zH hQ'; clear hQ hQ'; (try clear F2 F3 F4); obtain ⟨R2, L2, F2⟩ := BC3 w7 g2; obtain ⟨R3, L3, F3⟩ := BC4 w7 g3; obtain ⟨R4, L4, F4⟩ := B40 w7 W
    refine KH hK (fun hHeld => ?_) KQ; clear hK K
    refine R1H 8 fun K hK => ?_
    go_simp
    refine KH hK (fun hHeld => ?_) KQ; clear hK K
    refine wpAnyH_done (by kernel_rfl) ?_ _
    refine NoPanic.normal ?_
    gi_wp2_with fail
    go_roundw
    case measure => simp [intOf]; omega
    case rel => exact ⟨k + 1, pw7, by simp, hkN, hJ (k + 1) W' _ hJ' (by exact (KPX (n0 := W.heap.size) (B := W.heap.size + 1)).below) (by exact (KPX (n0 := W.heap.size) (B := W.heap.size + 1)).words), BX, IX, IX, BX, BX, IX, IX, IX⟩
   refine ARH (fun K hK => ?_) ?_
   ·go_simp
    refine (Zk ((k : Int) + 1) _ (by omega) (by omega)).mono ?_; refine rI ?_; intro w5 sw5 Aw5 nw5 cw5 Hw5 hbw5; (try clear F2 F3 F4); obtain ⟨R2, L2, F2⟩ := BC3 w5 g2; obtain ⟨R3, L3, F3⟩ := BC4 w5 g3; obtain ⟨R4, L4, F4⟩ := B40 w5 W; have N5 := Nat.le_of_eq Hw5.out.wl
    refine KH hK (fun hHeld => ?_) KQ; clear hK K
    refine RDH [0, 6] ?_
    refine ARH (fun K hK => ?_) ?_
    ·go_simp
     refine KH hK (fun hHeld => ?_) KQ; clear hK K
     refine R1H 6 fun K hK => ?_
     go_simp
     refine (Zt (h1 := IX) (h2 := IX) (hs := by omega)).mono ?_; refine rI ?_; intro w6 sw6 Aw6 nw6 cw6 Hw6 hbw6; (try clear F2 F3 F4); obtain ⟨R2, L2, F2⟩ := BC3 w6 g2; obtain ⟨R3, L3, F3⟩ := BC4 w6 g3; obtain ⟨R4, L4, F4⟩ := B40 w6 W; have N6 := Nat.le_of_eq Hw6.out.wl
     refine KH hK (fun hHeld => ?_) KQ; clear hK K
     refine R1H 7 fun K hK => ?_
     go_simp
     refine (Z0E p y sw6 Aw6 nw6 cw6 _ _ _ _ _ _ IX IX IX IX IX hpos (by omega)).mono ?_; rintro e w7 ⟨pw7, rfl, hQ, hQ', hbw7⟩; have Hw7 := zH hQ; have Kw7 := zH hQ'; clear hQ hQ'; (try clear F2 F3 F4); obtain ⟨R2, L2, F2⟩ := BC3 w7 g2; obtain ⟨R3, L3, F3⟩ := BC4 w7 g3; obtain ⟨R4, L4, F4⟩ := B40 w7 W
     refine KH hK (fun hHeld => ?_) KQ; clear hK K
     refine R1H 8 fun K hK => ?_
     go_simp
     refine KH hK (fun hHeld => ?_) KQ; clear hK K
     refine wpAnyH_done (by kernel_rfl) ?_ _
     refine NoPanic.normal ?_
     gi_wp2_with fail
     go_roundw
     case measure => simp [intOf]; omega
     case rel => exact ⟨k + 1, pw7, by simp, hkN, hJ (k + 1) W' _ hJ' (by exact (KPX (n0 := W.heap.size) (B := W.heap.size + 1)).below) (by exact (KPX (n0 := W.heap.size) (B := W.heap.size + 1)).words), BX, IX, IX, BX, BX, IX, IX, IX⟩
    refine ARH (fun K hK => ?_) ?_
    ·go_simp
     refine (Zt (h1 := IX) (h2 := IX) (hs := by omega)).mono ?_; refine rI ?_; intro w6 sw6 Aw6 nw6 cw6 Hw6 hbw6; (try clear F2 F3 F4); obtain ⟨R2, L2, F2⟩ := BC3 w6 g2; obtain ⟨R3, L3, F3⟩ := BC4 w6 g3; obtain ⟨R4, L4, F4⟩ := B40 w6 W; have N6 := Nat.le_of_eq Hw6.out.wl
     refine KH hK (fun hHeld => ?_) KQ; clear hK K
     refine R1H 0 fun K hK => ?_
     go_simp
     refine KH hK (fun hHeld => ?_) KQ; clear hK K
     refine R1H 7 fun K hK => ?_
     go_simp
     refine (Z0E p y sw6 Aw6 nw6 cw6 _ _ _ _ _ _ IX IX IX IX IX hpos (by omega)).mono ?_; rintro e w7 ⟨pw7, rfl, hQ, hQ', hbw7⟩; have Hw7 := zH hQ; have Kw7 := zH hQ'; clear hQ hQ'; (try clear F2 F3 F4); obtain ⟨R2, L2, F2⟩ := BC3 w7 g2; obtain ⟨R3, L3, F3⟩ := BC4 w7 g3; obtain ⟨R4, L4, F4⟩ := B40 w7 W
     refine KH hK (fun hHeld => ?_) KQ; clear hK K
     refine R1H 8 fun K hK => ?_
     go_simp
     refine KH hK (fun hHeld => ?_) KQ; clear hK K
     refine wpAnyH_done (by kernel_rfl) ?_ _
     refine NoPanic.normal ?_
     gi_wp2_with fail
     go_roundw
     case measure => simp [intOf]; omega
     case rel => exact ⟨k + 1, pw7, by simp, hkN, hJ (k + 1) W' _ hJ' (by exact (KPX (n0 := W.heap.size) (B := W.heap.size + 1)).below) (by exact (KPX (n0 := W.heap.size) (B := W.heap.size + 1)).words), BX, IX, IX, BX, BX, IX, IX, IX⟩
    exact AllReadyH.nil
   exact AllReadyH.nil
  ·gi_wp2_with fail
   first | exact ⟨⟨_, rfl⟩, hJx'⟩ | (go_end0; exact ⟨⟨_, rfl⟩, hJx'⟩)
def Z7O (one z0 z1 : Int) : Nat → Int × Int
 | 0 => (z0, z1)
 | i + 1 => ((Z7O one z0 z1 i).1 * (z0 * z0 / one) / one, upI ((Z7O one z0 z1 i).2 * upI (z1 * z1) one) one)
def Zcx (one z0 z1 : Int) (i : Nat) : Int × Int := ((Z7O one z0 z1 i).1 / (2 * (i : Int) + 1), upI (Z7O one z0 z1 i).2 (2 * (i : Int) + 1))
theorem Z2f (kk : Int) (s3 : Bool) (A3 : Option Addr) (n3 c3 : Nat) (z : QC) (w : World) :
  Ca 173 #[.agg #[.int .i64 kk, .bool s3, .slice A3 n3 c3], .agg (zA3 z)] w fun e w' => e = .returned (.func (.func 226) #[] #[.pointer (some ⟨w.heap.size + 1, 0, none⟩), .pointer (some ⟨w.heap.size, 0, none⟩)]) ∧ BK w' (w.heap.size) #[.int .i64 kk, .bool s3, .slice A3 n3 c3] ∧ BK w' (w.heap.size + 1) (zA3 z) ∧ Ext w w' := by
 have hmf : ∀ (fn : Fn) (first cap : Array Value) (w : World), (Instr.makeFunc fn first cap).run Tryz.prog w = .ok (.func fn first cap) w := fun _ _ _ _ => rfl
 dsimp only [zA3]
 go_enter func173, ntmps173
 go_wp2
 go_ret
 exact ⟨rfl, BX, BX, EX⟩
theorem Z9A (g1 g2 : Nat) (kk : Int) (s3 : Bool) (A3 : Option Addr) (n3 c3 : Nat) (z : QC) (one z0 z1 : Int) (n0 N : Nat) (w : World)
  (h2 : BK w g2 #[.int .i64 kk, .bool s3, .slice A3 n3 c3]) (h1 : BK w g1 (zA3 z)) (ho : IAt w s3 A3 n3 c3 one) (hz : SAt w z z0 z1) (hone : 0 < one) (hg1 : g1 < n0) (hg2 : g2 < n0) (hn0 : n0 ≤ w.heap.size) (hN : N ≤ 1000000)
  (hs0 : 2 * wl z0 + 2 * wl z1 + wl one + 8 < Z8) (hs : ∀ i, i ≤ N → wl (Z7O one z0 z1 i).1 + wl (Z7O one z0 z1 i).2 + wl (z0 * z0 / one) + wl (upI (z1 * z1) one) + wl one + 40 < Z8) :
  ZcD 226 #[.pointer (some ⟨g1, 0, none⟩), .pointer (some ⟨g2, 0, none⟩)] (TAt (fun i => (Zcx one z0 z1 i).1) (fun i => (Zcx one z0 z1 i).2)) n0 N w := by
 intro l J Jx W hx hsz hJ hJx hY hJ0
 have b2 := h2.ext hx
 have b1 := h1.ext hx
 have F1 := b1.c4
 have F2 := b2.c3
 have L2 := b2.lt
 have L1 := b1.lt
 have HO := zH (ho.ext hx)
 have HZ1 := zH (hz.1.ext hx)
 have HZ2 := zH (hz.2.ext hx)
 have ks := hx.size
 have k1 := Nat.le_of_eq ho.wl
 refine callsIn_of_wp func226 rfl trivial ?_ rfl
 simp only [ntmps226, List.size_toArray, List.length_cons, List.length_nil, Nat.reduceAdd, Nat.reduceSub, Array.replicate_succ, Array.replicate_zero, List.push_toArray, List.append_toArray, List.nil_append, List.cons_append]
 gi_wp2_with fail
 refine wpIn_wide.2 ?_
 refine Zc (fun a' w' => ∃ (g4 g5 : Nat) (q : QC) (u7 u8 u9 u10 u11 u12 : Value), a' = { tmps := #[.func (.yield l) #[] #[], .pointer (some ⟨g1, 0, none⟩), .pointer (some ⟨g2, 0, none⟩), undef, .pointer (some ⟨g4, 0, none⟩), .pointer (some ⟨g5, 0, none⟩), undef, u7, u8, u9, u10, u11, u12, undef, undef, undef, undef, undef, undef, undef, undef, undef, undef, undef, undef, undef, undef, undef, undef, undef, undef, undef, undef], defers := [] } ∧ BK w' g4 (zA3 z) ∧ BK w' g5 (zA3 q) ∧ IAt w' q.s q.A q.n q.c (z0 * z0 / one) ∧ IAt w' q.t q.B q.m q.d (upI (z1 * z1) one) ∧ g4 ≠ g5 ∧ W.heap.size ≤ g4 ∧ W.heap.size ≤ g5 ∧ Ext W w') (fun w' => w'.cell? ⟨g1, 0, none⟩ = some (.bool z.s) ∧ w'.cell? ⟨g1, 1, none⟩ = some (.slice z.A z.n z.c) ∧ w'.cell? ⟨g1, 2, none⟩ = some (.bool z.t) ∧ w'.cell? ⟨g1, 3, none⟩ = some (.slice z.B z.m z.d) ∧ w'.cell? ⟨g2, 0, none⟩ = some (.int .i64 kk) ∧ w'.cell? ⟨g2, 1, none⟩ = some (.bool s3) ∧ w'.cell? ⟨g2, 2, none⟩ = some (.slice A3 n3 c3)) Z0a ?_ (by (try dsimp only); (first | (exact KQ) | (simp [go_sem, *]; done))) (fun hHeld => ?_)
 rotate_left
 ·skip
  refine TH 0 ?_; refine TH 1 ?_; refine TH 2 ?_; refine TH 3 ?_; refine TH 4 ?_
  refine RDH [5, 6, 7] ?_
  refine ARH (fun K hK => ?_) ?_
  ·go_simp
   refine (Z0E z z s3 A3 n3 c3 _ _ _ _ _ _ IX IX IX IX IX hone (by omega)).mono ?_; rintro e w5 ⟨pw5, rfl, hQ, hQ', hbw5⟩; have Hw5 := zH hQ; have Kw5 := zH hQ'; clear hQ hQ'; (try clear F1 F2); obtain ⟨R1, L1, F1⟩ := BC4 w5 g1; obtain ⟨R2, L2, F2⟩ := BC3 w5 g2; have := hbw5.sz; (try have zw50 : W.heap.size < w5.heap.size := (by omega)); (try have zw51 : W.heap.size + 1 < w5.heap.size := (by omega)); (try (refine (fun Tw50 => ?_ : BK w5 (W.heap.size) zA9 → _) ?_; rotate_left; (focus (with_reducible (repeat (first | assumption | (refine BK.new _ _ ?_; first | rfl | (simp only [SZ]; done)) | refine BK.alloc ?_ _ | refine BK.drew ?_ | apply BK.st8 | apply BK.st4 | apply BK.st2 | refine BK.other ?_ (by simp only; omega) _ | refine BK.ext ?_ (by assumption))); done)); obtain ⟨Tw50_0, Tw50_1, Tw50_2, Tw50_3, Tw50_4⟩ := Tw50.c4)); (try (refine (fun Tw51 => ?_ : BK w5 (W.heap.size + 1) zA9 → _) ?_; rotate_left; (focus (with_reducible (repeat (first | assumption | (refine BK.new _ _ ?_; first | rfl | (simp only [SZ]; done)) | refine BK.alloc ?_ _ | refine BK.drew ?_ | apply BK.st8 | apply BK.st4 | apply BK.st2 | refine BK.other ?_ (by simp only; omega) _ | refine BK.ext ?_ (by assumption))); done)); obtain ⟨Tw51_0, Tw51_1, Tw51_2, Tw51_3, Tw51_4⟩ := Tw51.c4))
   refine KH hK (fun hHeld => ?_) KQ; clear hK K
   refine RDH [6, 7] ?_
   refine ARH (fun K hK => ?_) ?_
   ·go_simp
    refine KH hK (fun hHeld => ?_) KQ; clear hK K
    refine R1H 7 fun K hK => ?_
    go_simp
    refine KH hK (fun hHeld => ?_) KQ; clear hK K
    refine R1H 8 fun K hK => ?_
    go_simp
    refine KH hK (fun hHeld => ?_) KQ; clear hK K
    refine R1H 9 fun K hK => ?_
    go_simp
    refine KH hK (fun hHeld => ?_) KQ; clear hK K
    refine wpAnyH_done (by kernel_rfl) ?_ _
    exact ⟨_, _, pw5, _, _, _, _, _, _, rfl, BX, BX, IX, IX, by omega, by omega, by omega, EX⟩
   refine ARH (fun K hK => ?_) ?_
   ·go_simp
    refine KH hK (fun hHeld => ?_) KQ; clear hK K
    refine R1H 6 fun K hK => ?_
    go_simp
    refine KH hK (fun hHeld => ?_) KQ; clear hK K
    refine R1H 8 fun K hK => ?_
    go_simp
    refine KH hK (fun hHeld => ?_) KQ; clear hK K
    refine R1H 9 fun K hK => ?_
    go_simp
    refine KH hK (fun hHeld => ?_) KQ; clear hK K
    refine wpAnyH_done (by kernel_rfl) ?_ _
    exact ⟨_, _, pw5, _, _, _, _, _, _, rfl, BX, BX, IX, IX, by omega, by omega, by omega, EX⟩
   exact AllReadyH.nil
  refine ARH (fun K hK => ?_) ?_
  ·go_simp
   refine KH hK (fun hHeld => ?_) KQ; clear hK K
   refine RDH [5, 7] ?_
   refine ARH (fun K hK => ?_) ?_
   ·go_simp
    refine (Z0E z z s3 A3 n3 c3 _ _ _ _ _ _ IX IX IX IX IX hone (by omega)).mono ?_; rintro e w5 ⟨pw5, rfl, hQ, hQ', hbw5⟩; have Hw5 := zH hQ; have Kw5 := zH hQ'; clear hQ hQ'; (try clear F1 F2); obtain ⟨R1, L1, F1⟩ := BC4 w5 g1; obtain ⟨R2, L2, F2⟩ := BC3 w5 g2; have := hbw5.sz; (try have zw50 : W.heap.size < w5.heap.size := (by omega)); (try have zw51 : W.heap.size + 1 < w5.heap.size := (by omega)); (try (refine (fun Tw50 => ?_ : BK w5 (W.heap.size) zA9 → _) ?_; rotate_left; (focus (with_reducible (repeat (first | assumption | (refine BK.new _ _ ?_; first | rfl | (simp only [SZ]; done)) | refine BK.alloc ?_ _ | refine BK.drew ?_ | apply BK.st8 | apply BK.st4 | apply BK.st2 | refine BK.other ?_ (by simp only; omega) _ | refine BK.ext ?_ (by assumption))); done)); obtain ⟨Tw50_0, Tw50_1, Tw50_2, Tw50_3, Tw50_4⟩ := Tw50.c4)); (try (refine (fun Tw51 => ?_ : BK w5 (W.heap.size + 1) zA9 → _) ?_; rotate_left; (focus (with_reducible (repeat (first | assumption | (refine BK.new _ _ ?_; first | rfl | (simp only [SZ]; done)) | refine BK.alloc ?_ _ | refine BK.drew ?_ | apply BK.st8 | apply BK.st4 | apply BK.st2 | refine BK.other ?_ (by simp only; omega) _ | refine BK.ext ?_ (by assumption))); done)); obtain ⟨Tw51_0, Tw51_1, Tw51_2, Tw51_3, Tw51_4⟩ := Tw51.c4))
    refine KH hK (fun hHeld => ?_) KQ; clear hK K
    refine R1H 7 fun K hK => ?_
    go_simp
    refine KH hK (fun hHeld => ?_) KQ; clear hK K
    refine R1H 8 fun K hK => ?_
    go_simp
    refine KH hK (fun hHeld => ?_) KQ; clear hK K
    refine R1H 9 fun K hK => ?_
    go_simp
    refine KH hK (fun hHeld => ?_) KQ; clear hK K
    refine wpAnyH_done (by kernel_rfl) ?_ _
    exact ⟨_, _, pw5, _, _, _, _, _, _, rfl, BX, BX, IX, IX, by omega, by omega, by omega, EX⟩
   refine ARH (fun K hK => ?_) ?_
   ·go_simp
    refine KH hK (fun hHeld => ?_) KQ; clear hK K
    refine R1H 5 fun K hK => ?_
    go_simp
    refine (Z0E z z s3 A3 n3 c3 _ _ _ _ _ _ IX IX IX IX IX hone (by omega)).mono ?_; rintro e w5 ⟨pw5, rfl, hQ, hQ', hbw5⟩; have Hw5 := zH hQ; have Kw5 := zH hQ'; clear hQ hQ'; (try clear F1 F2); obtain ⟨R1, L1, F1⟩ := BC4 w5 g1; obtain ⟨R2, L2, F2⟩ := BC3 w5 g2; have := hbw5.sz; (try have zw50 : W.heap.size < w5.heap.size := (by omega)); (try have zw51 : W.heap.size + 1 < w5.heap.size := (by omega)); (try (refine (fun Tw50 => ?_ : BK w5 (W.heap.size) zA9 → _) ?_; rotate_left; (focus (with_reducible (repeat (first | assumption | (refine BK.new _ _ ?_; first | rfl | (simp only [SZ]; done)) | refine BK.alloc ?_ _ | refine BK.drew ?_ | apply BK.st8 | apply BK.st4 | apply BK.st2 | refine BK.other ?_ (by simp only; omega) _ | refine BK.ext ?_ (by assumption))); done)); obtain ⟨Tw50_0, Tw50_1, Tw50_2, Tw50_3, Tw50_4⟩ := Tw50.c4)); (try (refine (fun Tw51 => ?_ : BK w5 (W.heap.size + 1) zA9 → _) ?_; rotate_left; (focus (with_reducible (repeat (first | assumption | (refine BK.new _ _ ?_; first | rfl | (simp only [SZ]; done)) | refine BK.alloc ?_ _ | refine BK.drew ?_ | apply BK.st8 | apply BK.st4 | apply BK.st2 | refine BK.other ?_ (by simp only; omega) _ | refine BK.ext ?_ (by assumption))); done)); obtain ⟨Tw51_0, Tw51_1, Tw51_2, Tw51_3, Tw51_4⟩ := Tw51.c4))
    refine KH hK (fun hHeld => ?_) KQ; clear hK K
    refine R1H 8 fun K hK => ?_
    go_simp
    refine KH hK (fun hHeld => ?_) KQ; clear hK K
    refine R1H 9 fun K hK => ?_
    go_simp
    refine KH hK (fun hHeld => ?_) KQ; clear hK K
    refine wpAnyH_done (by kernel_rfl) ?_ _
    exact ⟨_, _, pw5, _, _, _, _, _, _, rfl, BX, BX, IX, IX, by omega, by omega, by omega, EX⟩
   exact AllReadyH.nil
  refine ARH (fun K hK => ?_) ?_
  ·go_simp
   refine KH hK (fun hHeld => ?_) KQ; clear hK K
   refine RDH [5, 6] ?_
   refine ARH (fun K hK => ?_) ?_
   ·go_simp
    refine (Z0E z z s3 A3 n3 c3 _ _ _ _ _ _ IX IX IX IX IX hone (by omega)).mono ?_; rintro e w5 ⟨pw5, rfl, hQ, hQ', hbw5⟩; have Hw5 := zH hQ; have Kw5 := zH hQ'; clear hQ hQ'; (try clear F1 F2); obtain ⟨R1, L1, F1⟩ := BC4 w5 g1; obtain ⟨R2, L2, F2⟩ := BC3 w5 g2; have := hbw5.sz; (try have zw50 : W.heap.size < w5.heap.size := (by omega)); (try have zw51 : W.heap.size + 1 < w5.heap.size := (by omega)); (try (refine (fun Tw50 => ?_ : BK w5 (W.heap.size) zA9 → _) ?_; rotate_left; (focus (with_reducible (repeat (first | assumption | (refine BK.new _ _ ?_; first | rfl | (simp only [SZ]; done)) | refine BK.alloc ?_ _ | refine BK.drew ?_ | apply BK.st8 | apply BK.st4 | apply BK.st2 | refine BK.other ?_ (by simp only; omega) _ | refine BK.ext ?_ (by assumption))); done)); obtain ⟨Tw50_0, Tw50_1, Tw50_2, Tw50_3, Tw50_4⟩ := Tw50.c4)); (try (refine (fun Tw51 => ?_ : BK w5 (W.heap.size + 1) zA9 → _) ?_; rotate_left; (focus (with_reducible (repeat (first | assumption | (refine BK.new _ _ ?_; first | rfl | (simp only [SZ]; done)) | refine BK.alloc ?_ _ | refine BK.drew ?_ | apply BK.st8 | apply BK.st4 | apply BK.st2 | refine BK.other ?_ (by simp only; omega) _ | refine BK.ext ?_ (by assumption))); done)); obtain ⟨Tw51_0, Tw51_1, Tw51_2, Tw51_3, Tw51_4⟩ := Tw51.c4))
    refine KH hK (fun hHeld => ?_) KQ; clear hK K
    refine R1H 6 fun K hK => ?_
    go_simp
    refine KH hK (fun hHeld => ?_) KQ; clear hK K
    refine R1H 8 fun K hK => ?_
    go_simp
    refine KH hK (fun hHeld => ?_) KQ; clear hK K
    refine R1H 9 fun K hK => ?_
    go_simp
    refine KH hK (fun hHeld => ?_) KQ; clear hK K
    refine wpAnyH_done (by kernel_rfl) ?_ _
    exact ⟨_, _, pw5, _, _, _, _, _, _, rfl, BX, BX, IX, IX, by omega, by omega, by omega, EX⟩
   refine ARH (fun K hK => ?_) ?_
   ·go_simp
    refine KH hK (fun hHeld => ?_) KQ; clear hK K
    refine R1H 5 fun K hK => ?_
    go_simp
    refine (Z0E z z s3 A3 n3 c3 _ _ _ _ _ _ IX IX IX IX IX hone (by omega)).mono ?_; rintro e w5 ⟨pw5, rfl, hQ, hQ', hbw5⟩; have Hw5 := zH hQ; have Kw5 := zH hQ'; clear hQ hQ'; (try clear F1 F2); obtain ⟨R1, L1, F1⟩ := BC4 w5 g1; obtain ⟨R2, L2, F2⟩ := BC3 w5 g2; have := hbw5.sz; (try have zw50 : W.heap.size < w5.heap.size := (by omega)); (try have zw51 : W.heap.size + 1 < w5.heap.size := (by omega)); (try (refine (fun Tw50 => ?_ : BK w5 (W.heap.size) zA9 → _) ?_; rotate_left; (focus (with_reducible (repeat (first | assumption | (refine BK.new _ _ ?_; first | rfl | (simp only [SZ]; done)) | refine BK.alloc ?_ _ | refine BK.drew ?_ | apply BK.st8 | apply BK.st4 | apply BK.st2 | refine BK.other ?_ (by simp only; omega) _ | refine BK.ext ?_ (by assumption))); done)); obtain ⟨Tw50_0, Tw50_1, Tw50_2, Tw50_3, Tw50_4⟩ := Tw50.c4)); (try (refine (fun Tw51 => ?_ : BK w5 (W.heap.size + 1) zA9 → _) ?_; rotate_left; (focus (with_reducible (repeat (first | assumption | (refine BK.new _ _ ?_; first | rfl | (simp only [SZ]; done)) | refine BK.alloc ?_ _ | refine BK.drew ?_ | apply BK.st8 | apply BK.st4 | apply BK.st2 | refine BK.other ?_ (by simp only; omega) _ | refine BK.ext ?_ (by assumption))); done)); obtain ⟨Tw51_0, Tw51_1, Tw51_2, Tw51_3, Tw51_4⟩ := Tw51.c4))
    refine KH hK (fun hHeld => ?_) KQ; clear hK K
    refine R1H 8 fun K hK => ?_
    go_simp
    refine KH hK (fun hHeld => ?_) KQ; clear hK K
    refine R1H 9 fun K hK => ?_
    go_simp
    refine KH hK (fun hHeld => ?_) KQ; clear hK K
    refine wpAnyH_done (by kernel_rfl) ?_ _
    exact ⟨_, _, pw5, _, _, _, _, _, _, rfl, BX, BX, IX, IX, by omega, by omega, by omega, EX⟩
   exact AllReadyH.nil
  exact AllReadyH.nil
 rintro a' Wb ⟨g4, g5, q, u7, u8, u9, u10, u11, u12, rfl, B4, B5, hq1, hq2, hne, hg4, hg5, hxb⟩
 dsimp only
 have HQ1 := zH hq1
 have HQ2 := zH hq2
 gi_wp2_with fail
 gi_loopw [6] (fun iv wr => ∃ (k : Nat) (p : QC), iv = .int .i64 (2 * (k : Int) + 1) ∧ k ≤ N ∧ J k wr ∧ BK wr g4 (zA3 p) ∧ IAt wr p.s p.A p.n p.c (Z7O one z0 z1 k).1 ∧ IAt wr p.t p.B p.m p.d (Z7O one z0 z1 k).2 ∧ BK wr g5 (zA3 q) ∧ IAt wr q.s q.A q.n q.c (z0 * z0 / one) ∧ IAt wr q.t q.B q.m q.d (upI (z1 * z1) one) ∧ BK wr g2 #[.int .i64 kk, .bool s3, .slice A3 n3 c3] ∧ IAt wr s3 A3 n3 c3 one ∧ W.heap.size ≤ wr.heap.size) (fun iv _ => (2 * (N : Int) + 3 - intOf iv).toNat)
 case atStart => exact ⟨0, z, by simp, by omega, hJ 0 _ _ hJ0 (by exact (KPX (n0 := W.heap.size) (B := W.heap.size)).below) (by exact (KPX (n0 := W.heap.size) (B := W.heap.size)).words), B4, IX, IX, B5, IX, IX, b2.ext hxb, IX, hxb.size⟩
 case round =>
  obtain ⟨k, p, rfl, hk, hJk, hX, hp1, hp2, hSq, hq1, hq2, hG, ho', hszr⟩ := hrel
  clear HO HZ1 HZ2 HQ1 HQ2 F1
  (try clear FF)
  have HP1 := zH hp1
  have HP2 := zH hp2
  have k2 := Nat.le_of_eq hp1.wl
  have k3 := Nat.le_of_eq hp2.wl
  have hsk := hs k hk
  have hpos : 0 < 2 * (k : Int) + 1 := by omega
  have hne0 : 2 * (k : Int) + 1 ≠ 0 := by omega
  have hw1 := Zo (z := 2 * (k : Int) + 1) (by omega) (by omega)
  have F4 := hX.c4
  have L4 := hX.lt
  gi_wp2_with fail
  refine Z75 (fun a' w' => ∃ (b : Bool) (v13 v14 v15 v16 v17 v18 v19 v20 v21 v22 v23 v24 v26 v27 v28 v29 v30 v31 v32 : Value), a' = { tmps := #[.func (.yield l) #[] #[], .pointer (some ⟨g1, 0, none⟩), .pointer (some ⟨g2, 0, none⟩), undef, .pointer (some ⟨g4, 0, none⟩), .pointer (some ⟨g5, 0, none⟩), .int .i64 (2 * (k : Int) + 1), u7, u8, u9, u10, u11, u12, v13, v14, v15, v16, v17, v18, v19, v20, v21, v22, v23, v24, .bool b, v26, v27, v28, v29, v30, v31, v32], defers := [] } ∧ Kp n0 W.heap.size wr w' ∧ ((b = true ∧ k + 1 ≤ N ∧ J (k + 1) w') ∨ (b = false ∧ Jx w'))) Z0a ?_ ?_
  rotate_left
  ·skip
   refine TI 0 ?_; refine TI 1 ?_; refine TI 3 ?_; refine TI 6 ?_; refine TI 8 ?_
   refine RDI [2, 4, 7] ?_
   refine ARI (fun K hK => ?_) ?_
   ·skip
    go_simp
    refine KI hK ?_; clear hK K
    refine RDI [4, 7] ?_
    refine ARI (fun K hK => ?_) ?_
    ·skip
     go_simp
     (refine ⟨trivial, ?_⟩; gi_at_call 148; (with_reducible refine (callsIn_wide.2 (Zk (2 * (k : Int) + 1) _ (by omega) (by omega))).mono ?_); refine rI ?_; intro w4 sw4 Aw4 nw4 cw4 Hw4 hbw4; (try clear F4); obtain ⟨R4, L4, F4⟩ := BC4 w4 g4; have Nw4 := Nat.le_of_eq Hw4.out.wl)
     refine KI hK ?_; clear hK K
     refine RDI [5, 7] ?_
     refine ARI (fun K hK => ?_) ?_
     ·skip
      go_simp
      (refine ⟨trivial, ?_⟩; gi_at_call 221; (with_reducible refine (callsIn_wide.2 (Z0F (h1 := IX) (h2 := IX) (hs1 := by omega) (hs2 := by omega) (hy := hne0))).mono ?_); refine rI ?_; intro w5 sw5 Aw5 nw5 cw5 Hw5 hbw5; (try clear F4); obtain ⟨R4, L4, F4⟩ := BC4 w5 g4)
      refine KI hK ?_; clear hK K
      refine RDI [7, 9] ?_
      refine ARI (fun K hK => ?_) ?_
      ·skip
       go_simp
       refine KI hK ?_; clear hK K
       refine R1I 9 fun K hK => ?_
       go_simp
       (refine ⟨trivial, ?_⟩; gi_at_call 148; (with_reducible refine (callsIn_wide.2 (Zk (2 * (k : Int) + 1) _ (by omega) (by omega))).mono ?_); refine rI ?_; intro w9 sw9 Aw9 nw9 cw9 Hw9 hbw9; (try clear F4); obtain ⟨R4, L4, F4⟩ := BC4 w9 g4; have Nw9 := Nat.le_of_eq Hw9.out.wl)
       refine KI hK ?_; clear hK K
       refine R1I 10 fun K hK => ?_
       go_simp
       (refine ⟨trivial, ?_⟩; gi_at_call 222; (with_reducible refine (callsIn_wide.2 (Z1h (h1 := IX) (h2 := IX) (hs1 := by omega) (hs2 := by omega) (hy := hpos))).mono ?_); refine rI ?_; intro w10 sw10 Aw10 nw10 cw10 Hw10 hbw10; (try clear F4); obtain ⟨R4, L4, F4⟩ := BC4 w10 g4)
       refine KI hK ?_; clear hK K
       refine TI 11 ?_
       refine R1I 12 fun K hK => ?_
       have hk10 : Kp n0 W.heap.size wr w10 := KPX
       obtain ⟨fn, tmps, assign, body, hyl, hR⟩ := hY k w10 (.agg #[.bool sw5, .slice Aw5 nw5 cw5, .bool sw10, .slice Aw10 nw10 cw10]) (hJ k wr w10 hJk (by exact (KPX (n0 := W.heap.size) (B := W.heap.size)).below) (by exact (KPX (n0 := W.heap.size) (B := W.heap.size)).words)) ⟨⟨sw5, Aw5, nw5, cw5, sw10, Aw10, nw10, cw10⟩, rfl, IX, IX⟩
       go_simp
       refine hR.mono ?_
       rintro e W' ⟨hk', (⟨rfl, hkN, hJ'⟩ | ⟨rfl, hJx'⟩)⟩
       ·refine hK _ _ ?_
        (try simp only [LY])
        refine wpAnyIn_done (by kernel_rfl) ?_ _
        exact ⟨true, _, _, _, _, _, _, _, _, _, _, _, _, _, _, _, _, _, _, _, rfl, hk10.trans hk', .inl ⟨rfl, hkN, hJ'⟩⟩
       ·refine hK _ _ ?_
        (try simp only [LY])
        refine wpAnyIn_done (by kernel_rfl) ?_ _
        exact ⟨false, _, _, _, _, _, _, _, _, _, _, _, _, _, _, _, _, _, _, _, rfl, hk10.trans hk', .inr ⟨rfl, hJx'⟩⟩
      refine ARI (fun K hK => ?_) ?_
      ·skip
       go_simp
       (refine ⟨trivial, ?_⟩; gi_at_call 148; (with_reducible refine (callsIn_wide.2 (Zk (2 * (k : Int) + 1) _ (by omega) (by omega))).mono ?_); refine rI ?_; intro w9 sw9 Aw9 nw9 cw9 Hw9 hbw9; (try clear F4); obtain ⟨R4, L4, F4⟩ := BC4 w9 g4; have Nw9 := Nat.le_of_eq Hw9.out.wl)
       refine KI hK ?_; clear hK K
       refine R1I 7 fun K hK => ?_
       go_simp
       refine KI hK ?_; clear hK K
       refine R1I 10 fun K hK => ?_
       go_simp
       (refine ⟨trivial, ?_⟩; gi_at_call 222; (with_reducible refine (callsIn_wide.2 (Z1h (h1 := IX) (h2 := IX) (hs1 := by omega) (hs2 := by omega) (hy := hpos))).mono ?_); refine rI ?_; intro w10 sw10 Aw10 nw10 cw10 Hw10 hbw10; (try clear F4); obtain ⟨R4, L4, F4⟩ := BC4 w10 g4)
       refine KI hK ?_; clear hK K
       refine TI 11 ?_
       refine R1I 12 fun K hK => ?_
       have hk10 : Kp n0 W.heap.size wr w10 := KPX
       obtain ⟨fn, tmps, assign, body, hyl, hR⟩ := hY k w10 (.agg #[.bool sw5, .slice Aw5 nw5 cw5, .bool sw10, .slice Aw10 nw10 cw10]) (hJ k wr w10 hJk (by exact (KPX (n0 := W.heap.size) (B := W.heap.size)).below) (by exact (KPX (n0 := W.heap.size) (B := W.heap.size)).words)) ⟨⟨sw5, Aw5, nw5, cw5, sw10, Aw10, nw10, cw10⟩, rfl, IX, IX⟩
       go_simp
       refine hR.mono ?_
       rintro e W' ⟨hk', (⟨rfl, hkN, hJ'⟩ | ⟨rfl, hJx'⟩)⟩
       ·refine hK _ _ ?_
        (try simp only [LY])
        refine wpAnyIn_done (by kernel_rfl) ?_ _
        exact ⟨true, _, _, _, _, _, _, _, _, _, _, _, _, _, _, _, _, _, _, _, rfl, hk10.trans hk', .inl ⟨rfl, hkN, hJ'⟩⟩
       ·refine hK _ _ ?_
        (try simp only [LY])
        refine wpAnyIn_done (by kernel_rfl) ?_ _
        exact ⟨false, _, _, _, _, _, _, _, _, _, _, _, _, _, _, _, _, _, _, _, rfl, hk10.trans hk', .inr ⟨rfl, hJx'⟩⟩
      exact AllReadyIn.nil
     refine ARI (fun K hK => ?_) ?_
     ·skip
      go_simp
      refine KI hK ?_; clear hK K
      refine R1I 5 fun K hK => ?_
      go_simp
      (refine ⟨trivial, ?_⟩; gi_at_call 221; (with_reducible refine (callsIn_wide.2 (Z0F (h1 := IX) (h2 := IX) (hs1 := by omega) (hs2 := by omega) (hy := hne0))).mono ?_); refine rI ?_; intro w5 sw5 Aw5 nw5 cw5 Hw5 hbw5; (try clear F4); obtain ⟨R4, L4, F4⟩ := BC4 w5 g4)
      refine KI hK ?_; clear hK K
      refine R1I 9 fun K hK => ?_
      go_simp
      (refine ⟨trivial, ?_⟩; gi_at_call 148; (with_reducible refine (callsIn_wide.2 (Zk (2 * (k : Int) + 1) _ (by omega) (by omega))).mono ?_); refine rI ?_; intro w9 sw9 Aw9 nw9 cw9 Hw9 hbw9; (try clear F4); obtain ⟨R4, L4, F4⟩ := BC4 w9 g4; have Nw9 := Nat.le_of_eq Hw9.out.wl)
      refine KI hK ?_; clear hK K
      refine R1I 10 fun K hK => ?_
      go_simp
      (refine ⟨trivial, ?_⟩; gi_at_call 222; (with_reducible refine (callsIn_wide.2 (Z1h (h1 := IX) (h2 := IX) (hs1 := by omega) (hs2 := by omega) (hy := hpos))).mono ?_); refine rI ?_; intro w10 sw10 Aw10 nw10 cw10 Hw10 hbw10; (try clear F4); obtain ⟨R4, L4, F4⟩ := BC4 w10 g4)
      refine KI hK ?_; clear hK K
      refine TI 11 ?_
      refine R1I 12 fun K hK => ?_
      have hk10 : Kp n0 W.heap.size wr w10 := KPX
      obtain ⟨fn, tmps, assign, body, hyl, hR⟩ := hY k w10 (.agg #[.bool sw5, .slice Aw5 nw5 cw5, .bool sw10, .slice Aw10 nw10 cw10]) (hJ k wr w10 hJk (by exact (KPX (n0 := W.heap.size) (B := W.heap.size)).below) (by exact (KPX (n0 := W.heap.size) (B := W.heap.size)).words)) ⟨⟨sw5, Aw5, nw5, cw5, sw10, Aw10, nw10, cw10⟩, rfl, IX, IX⟩
      go_simp
      refine hR.mono ?_
      rintro e W' ⟨hk', (⟨rfl, hkN, hJ'⟩ | ⟨rfl, hJx'⟩)⟩
      ·refine hK _ _ ?_
       (try simp only [LY])
       refine wpAnyIn_done (by kernel_rfl) ?_ _
       exact ⟨true, _, _, _, _, _, _, _, _, _, _, _, _, _, _, _, _, _, _, _, rfl, hk10.trans hk', .inl ⟨rfl, hkN, hJ'⟩⟩
      ·refine hK _ _ ?_
       (try simp only [LY])
       refine wpAnyIn_done (by kernel_rfl) ?_ _
       exact ⟨false, _, _, _, _, _, _, _, _, _, _, _, _, _, _, _, _, _, _, _, rfl, hk10.trans hk', .inr ⟨rfl, hJx'⟩⟩
     exact AllReadyIn.nil
    refine ARI (fun K hK => ?_) ?_
    ·skip
     go_simp
     refine KI hK ?_; clear hK K
     refine R1I 4 fun K hK => ?_
     go_simp
     (refine ⟨trivial, ?_⟩; gi_at_call 148; (with_reducible refine (callsIn_wide.2 (Zk (2 * (k : Int) + 1) _ (by omega) (by omega))).mono ?_); refine rI ?_; intro w4 sw4 Aw4 nw4 cw4 Hw4 hbw4; (try clear F4); obtain ⟨R4, L4, F4⟩ := BC4 w4 g4; have Nw4 := Nat.le_of_eq Hw4.out.wl)
     refine KI hK ?_; clear hK K
     refine R1I 5 fun K hK => ?_
     go_simp
     (refine ⟨trivial, ?_⟩; gi_at_call 221; (with_reducible refine (callsIn_wide.2 (Z0F (h1 := IX) (h2 := IX) (hs1 := by omega) (hs2 := by omega) (hy := hne0))).mono ?_); refine rI ?_; intro w5 sw5 Aw5 nw5 cw5 Hw5 hbw5; (try clear F4); obtain ⟨R4, L4, F4⟩ := BC4 w5 g4)
     refine KI hK ?_; clear hK K
     refine R1I 9 fun K hK => ?_
     go_simp
     (refine ⟨trivial, ?_⟩; gi_at_call 148; (with_reducible refine (callsIn_wide.2 (Zk (2 * (k : Int) + 1) _ (by omega) (by omega))).mono ?_); refine rI ?_; intro w9 sw9 Aw9 nw9 cw9 Hw9 hbw9; (try clear F4); obtain ⟨R4, L4, F4⟩ := BC4 w9 g4; have Nw9 := Nat.le_of_eq Hw9.out.wl)
     refine KI hK ?_; clear hK K
     refine R1I 10 fun K hK => ?_
     go_simp
     (refine ⟨trivial, ?_⟩; gi_at_call 222; (with_reducible refine (callsIn_wide.2 (Z1h (h1 := IX) (h2 := IX) (hs1 := by omega) (hs2 := by omega) (hy := hpos))).mono ?_); refine rI ?_; intro w10 sw10 Aw10 nw10 cw10 Hw10 hbw10; (try clear F4); obtain ⟨R4, L4, F4⟩ := BC4 w10 g4)
     refine KI hK ?_; clear hK K
     refine TI 11 ?_
     refine R1I 12 fun K hK => ?_
     have hk10 : Kp n0 W.heap.size wr w10 := KPX
     obtain ⟨fn, tmps, assign, body, hyl, hR⟩ := hY k w10 (.agg #[.bool sw5, .slice Aw5 nw5 cw5, .bool sw10, .slice Aw10 nw10 cw10]) (hJ k wr w10 hJk (by exact (KPX (n0 := W.heap.size) (B := W.heap.size)).below) (by exact (KPX (n0 := W.heap.size) (B := W.heap.size)).words)) ⟨⟨sw5, Aw5, nw5, cw5, sw10, Aw10, nw10, cw10⟩, rfl, IX, IX⟩
     go_simp
     refine hR.mono ?_
     rintro e W' ⟨hk', (⟨rfl, hkN, hJ'⟩ | ⟨rfl, hJx'⟩)⟩
     ·refine hK _ _ ?_
      (try simp only [LY])
      refine wpAnyIn_done (by kernel_rfl) ?_ _
      exact ⟨true, _, _, _, _, _, _, _, _, _, _, _, _, _, _, _, _, _, _, _, rfl, hk10.trans hk', .inl ⟨rfl, hkN, hJ'⟩⟩
     ·refine hK _ _ ?_
      (try simp only [LY])
      refine wpAnyIn_done (by kernel_rfl) ?_ _
      exact ⟨false, _, _, _, _, _, _, _, _, _, _, _, _, _, _, _, _, _, _, _, rfl, hk10.trans hk', .inr ⟨rfl, hJx'⟩⟩
    exact AllReadyIn.nil
   refine ARI (fun K hK => ?_) ?_
   ·skip
    go_simp
    (refine ⟨trivial, ?_⟩; gi_at_call 148; (with_reducible refine (callsIn_wide.2 (Zk (2 * (k : Int) + 1) _ (by omega) (by omega))).mono ?_); refine rI ?_; intro w4 sw4 Aw4 nw4 cw4 Hw4 hbw4; (try clear F4); obtain ⟨R4, L4, F4⟩ := BC4 w4 g4; have Nw4 := Nat.le_of_eq Hw4.out.wl)
    refine KI hK ?_; clear hK K
    refine RDI [2, 7] ?_
    refine ARI (fun K hK => ?_) ?_
    ·skip
     go_simp
     refine KI hK ?_; clear hK K
     refine RDI [5, 7] ?_
     refine ARI (fun K hK => ?_) ?_
     ·skip
      go_simp
      (refine ⟨trivial, ?_⟩; gi_at_call 221; (with_reducible refine (callsIn_wide.2 (Z0F (h1 := IX) (h2 := IX) (hs1 := by omega) (hs2 := by omega) (hy := hne0))).mono ?_); refine rI ?_; intro w5 sw5 Aw5 nw5 cw5 Hw5 hbw5; (try clear F4); obtain ⟨R4, L4, F4⟩ := BC4 w5 g4)
      refine KI hK ?_; clear hK K
      refine RDI [7, 9] ?_
      refine ARI (fun K hK => ?_) ?_
      ·skip
       go_simp
       refine KI hK ?_; clear hK K
       refine R1I 9 fun K hK => ?_
       go_simp
       (refine ⟨trivial, ?_⟩; gi_at_call 148; (with_reducible refine (callsIn_wide.2 (Zk (2 * (k : Int) + 1) _ (by omega) (by omega))).mono ?_); refine rI ?_; intro w9 sw9 Aw9 nw9 cw9 Hw9 hbw9; (try clear F4); obtain ⟨R4, L4, F4⟩ := BC4 w9 g4; have Nw9 := Nat.le_of_eq Hw9.out.wl)
       refine KI hK ?_; clear hK K
       refine R1I 10 fun K hK => ?_
       go_simp
       (refine ⟨trivial, ?_⟩; gi_at_call 222; (with_reducible refine (callsIn_wide.2 (Z1h (h1 := IX) (h2 := IX) (hs1 := by omega) (hs2 := by omega) (hy := hpos))).mono ?_); refine rI ?_; intro w10 sw10 Aw10 nw10 cw10 Hw10 hbw10; (try clear F4); obtain ⟨R4, L4, F4⟩ := BC4 w10 g4)
       refine KI hK ?_; clear hK K
       refine TI 11 ?_
       refine R1I 12 fun K hK => ?_
       have hk10 : Kp n0 W.heap.size wr w10 := KPX
       obtain ⟨fn, tmps, assign, body, hyl, hR⟩ := hY k w10 (.agg #[.bool sw5, .slice Aw5 nw5 cw5, .bool sw10, .slice Aw10 nw10 cw10]) (hJ k wr w10 hJk (by exact (KPX (n0 := W.heap.size) (B := W.heap.size)).below) (by exact (KPX (n0 := W.heap.size) (B := W.heap.size)).words)) ⟨⟨sw5, Aw5, nw5, cw5, sw10, Aw10, nw10, cw10⟩, rfl, IX, IX⟩
       go_simp
       refine hR.mono ?_
       rintro e W' ⟨hk', (⟨rfl, hkN, hJ'⟩ | ⟨rfl, hJx'⟩)⟩
       ·refine hK _ _ ?_
        (try simp only [LY])
        refine wpAnyIn_done (by kernel_rfl) ?_ _
        exact ⟨true, _, _, _, _, _, _, _, _, _, _, _, _, _, _, _, _, _, _, _, rfl, hk10.trans hk', .inl ⟨rfl, hkN, hJ'⟩⟩
       ·refine hK _ _ ?_
        (try simp only [LY])
        refine wpAnyIn_done (by kernel_rfl) ?_ _
        exact ⟨false, _, _, _, _, _, _, _, _, _, _, _, _, _, _, _, _, _, _, _, rfl, hk10.trans hk', .inr ⟨rfl, hJx'⟩⟩
      refine ARI (fun K hK => ?_) ?_
      ·skip
       go_simp
       (refine ⟨trivial, ?_⟩; gi_at_call 148; (with_reducible refine (callsIn_wide.2 (Zk (2 * (k : Int) + 1) _ (by omega) (by omega))).mono ?_); refine rI ?_; intro w9 sw9 Aw9 nw9 cw9 Hw9 hbw9; (try clear F4); obtain ⟨R4, L4, F4⟩ := BC4 w9 g4; have Nw9 := Nat.le_of_eq Hw9.out.wl)
       refine KI hK ?_; clear hK K
       refine R1I 7 fun K hK => ?_
       go_simp
       refine KI hK ?_; clear hK K
       refine R1I 10 fun K hK => ?_
       go_simp
       (refine ⟨trivial, ?_⟩; gi_at_call 222; (with_reducible refine (callsIn_wide.2 (Z1h (h1 := IX) (h2 := IX) (hs1 := by omega) (hs2 := by omega) (hy := hpos))).mono ?_); refine rI ?_; intro w10 sw10 Aw10 nw10 cw10 Hw10 hbw10; (try clear F4); obtain ⟨R4, L4, F4⟩ := BC4 w10 g4)
       refine KI hK ?_; clear hK K
       refine TI 11 ?_
       refine R1I 12 fun K hK => ?_
       have hk10 : Kp n0 W.heap.size wr w10 := KPX
       obtain ⟨fn, tmps, assign, body, hyl, hR⟩ := hY k w10 (.agg #[.bool sw5, .slice Aw5 nw5 cw5, .bool sw10, .slice Aw10 nw10 cw10]) (hJ k wr w10 hJk (by exact (KPX (n0 := W.heap.size) (B := W.heap.size)).below) (by exact (KPX (n0 := W.heap.size) (B := W.heap.size)).words)) ⟨⟨sw5, Aw5, nw5, cw5, sw10, Aw10, nw10, cw10⟩, rfl, IX, IX⟩
       go_simp
       refine hR.mono ?_
       rintro e W' ⟨hk', (⟨rfl, hkN, hJ'⟩ | ⟨rfl, hJx'⟩)⟩
       ·refine hK _ _ ?_
        (try simp only [LY])
        refine wpAnyIn_done (by kernel_rfl) ?_ _
        exact ⟨true, _, _, _, _, _, _, _, _, _, _, _, _, _, _, _, _, _, _, _, rfl, hk10.trans hk', .inl ⟨rfl, hkN, hJ'⟩⟩
       ·refine hK _ _ ?_
        (try simp only [LY])
        refine wpAnyIn_done (by kernel_rfl) ?_ _
        exact ⟨false, _, _, _, _, _, _, _, _, _, _, _, _, _, _, _, _, _, _, _, rfl, hk10.trans hk', .inr ⟨rfl, hJx'⟩⟩
      exact AllReadyIn.nil
     refine ARI (fun K hK => ?_) ?_
     ·skip
      go_simp
      refine KI hK ?_; clear hK K
      refine R1I 5 fun K hK => ?_
      go_simp
      (refine ⟨trivial, ?_⟩; gi_at_call 221; (with_reducible refine (callsIn_wide.2 (Z0F (h1 := IX) (h2 := IX) (hs1 := by omega) (hs2 := by omega) (hy := hne0))).mono ?_); refine rI ?_; intro w5 sw5 Aw5 nw5 cw5 Hw5 hbw5; (try clear F4); obtain ⟨R4, L4, F4⟩ := BC4 w5 g4)
      refine KI hK ?_; clear hK K
      refine R1I 9 fun K hK => ?_
      go_simp
      (refine ⟨trivial, ?_⟩; gi_at_call 148; (with_reducible refine (callsIn_wide.2 (Zk (2 * (k : Int) + 1) _ (by omega) (by omega))).mono ?_); refine rI ?_; intro w9 sw9 Aw9 nw9 cw9 Hw9 hbw9; (try clear F4); obtain ⟨R4, L4, F4⟩ := BC4 w9 g4; have Nw9 := Nat.le_of_eq Hw9.out.wl)
      refine KI hK ?_; clear hK K
      refine R1I 10 fun K hK => ?_
      go_simp
      (refine ⟨trivial, ?_⟩; gi_at_call 222; (with_reducible refine (callsIn_wide.2 (Z1h (h1 := IX) (h2 := IX) (hs1 := by omega) (hs2 := by omega) (hy := hpos))).mono ?_); refine rI ?_; intro w10 sw10 Aw10 nw10 cw10 Hw10 hbw10; (try clear F4); obtain ⟨R4, L4, F4⟩ := BC4 w10 g4)
      refine KI hK ?_; clear hK K
      refine TI 11 ?_
      refine R1I 12 fun K hK => ?_
      have hk10 : Kp n0 W.heap.size wr w10 := KPX
      obtain ⟨fn, tmps, assign, body, hyl, hR⟩ := hY k w10 (.agg #[.bool sw5, .slice Aw5 nw5 cw5, .bool sw10, .slice Aw10 nw10 cw10]) (hJ k wr w10 hJk (by exact (KPX (n0 := W.heap.size) (B := W.heap.size)).below) (by exact (KPX (n0 := W.heap.size) (B := W.heap.size)).words)) ⟨⟨sw5, Aw5, nw5, cw5, sw10, Aw10, nw10, cw10⟩, rfl, IX, IX⟩
      go_simp
      refine hR.mono ?_
      rintro e W' ⟨hk', (⟨rfl, hkN, hJ'⟩ | ⟨rfl, hJx'⟩)⟩
      ·refine hK _ _ ?_
       (try simp only [LY])
       refine wpAnyIn_done (by kernel_rfl) ?_ _
       exact ⟨true, _, _, _, _, _, _, _, _, _, _, _, _, _, _, _, _, _, _, _, rfl, hk10.trans hk', .inl ⟨rfl, hkN, hJ'⟩⟩
      ·refine hK _ _ ?_
       (try simp only [LY])
       refine wpAnyIn_done (by kernel_rfl) ?_ _
       exact ⟨false, _, _, _, _, _, _, _, _, _, _, _, _, _, _, _, _, _, _, _, rfl, hk10.trans hk', .inr ⟨rfl, hJx'⟩⟩
     exact AllReadyIn.nil
    refine ARI (fun K hK => ?_) ?_
    ·skip
     go_simp
     refine KI hK ?_; clear hK K
     refine R1I 2 fun K hK => ?_
     go_simp
     refine KI hK ?_; clear hK K
     refine R1I 5 fun K hK => ?_
     go_simp
     (refine ⟨trivial, ?_⟩; gi_at_call 221; (with_reducible refine (callsIn_wide.2 (Z0F (h1 := IX) (h2 := IX) (hs1 := by omega) (hs2 := by omega) (hy := hne0))).mono ?_); refine rI ?_; intro w5 sw5 Aw5 nw5 cw5 Hw5 hbw5; (try clear F4); obtain ⟨R4, L4, F4⟩ := BC4 w5 g4)
     refine KI hK ?_; clear hK K
     refine R1I 9 fun K hK => ?_
     go_simp
     (refine ⟨trivial, ?_⟩; gi_at_call 148; (with_reducible refine (callsIn_wide.2 (Zk (2 * (k : Int) + 1) _ (by omega) (by omega))).mono ?_); refine rI ?_; intro w9 sw9 Aw9 nw9 cw9 Hw9 hbw9; (try clear F4); obtain ⟨R4, L4, F4⟩ := BC4 w9 g4; have Nw9 := Nat.le_of_eq Hw9.out.wl)
     refine KI hK ?_; clear hK K
     refine R1I 10 fun K hK => ?_
     go_simp
     (refine ⟨trivial, ?_⟩; gi_at_call 222; (with_reducible refine (callsIn_wide.2 (Z1h (h1 := IX) (h2 := IX) (hs1 := by omega) (hs2 := by omega) (hy := hpos))).mono ?_); refine rI ?_; intro w10 sw10 Aw10 nw10 cw10 Hw10 hbw10; (try clear F4); obtain ⟨R4, L4, F4⟩ := BC4 w10 g4)
     refine KI hK ?_; clear hK K
     refine TI 11 ?_
     refine R1I 12 fun K hK => ?_
     have hk10 : Kp n0 W.heap.size wr w10 := KPX
     obtain ⟨fn, tmps, assign, body, hyl, hR⟩ := hY k w10 (.agg #[.bool sw5, .slice Aw5 nw5 cw5, .bool sw10, .slice Aw10 nw10 cw10]) (hJ k wr w10 hJk (by exact (KPX (n0 := W.heap.size) (B := W.heap.size)).below) (by exact (KPX (n0 := W.heap.size) (B := W.heap.size)).words)) ⟨⟨sw5, Aw5, nw5, cw5, sw10, Aw10, nw10, cw10⟩, rfl, IX, IX⟩
     go_simp
     refine hR.mono ?_
     rintro e W' ⟨hk', (⟨rfl, hkN, hJ'⟩ | ⟨rfl, hJx'⟩)⟩
     ·refine hK _ _ ?_
      (try simp only [LY])
      refine wpAnyIn_done (by kernel_rfl) ?_ _
      exact ⟨true, _, _, _, _, _, _, _, _, _, _, _, _, _, _, _, _, _, _, _, rfl, hk10.trans hk', .inl ⟨rfl, hkN, hJ'⟩⟩
     ·refine hK _ _ ?_
      (try simp only [LY])
      refine wpAnyIn_done (by kernel_rfl) ?_ _
      exact ⟨false, _, _, _, _, _, _, _, _, _, _, _, _, _, _, _, _, _, _, _, rfl, hk10.trans hk', .inr ⟨rfl, hJx'⟩⟩
    exact AllReadyIn.nil
   refine ARI (fun K hK => ?_) ?_
   ·skip
    go_simp
    refine KI hK ?_; clear hK K
    refine RDI [2, 4] ?_
    refine ARI (fun K hK => ?_) ?_
    ·skip
     go_simp
     refine KI hK ?_; clear hK K
     refine R1I 4 fun K hK => ?_
     go_simp
     (refine ⟨trivial, ?_⟩; gi_at_call 148; (with_reducible refine (callsIn_wide.2 (Zk (2 * (k : Int) + 1) _ (by omega) (by omega))).mono ?_); refine rI ?_; intro w4 sw4 Aw4 nw4 cw4 Hw4 hbw4; (try clear F4); obtain ⟨R4, L4, F4⟩ := BC4 w4 g4; have Nw4 := Nat.le_of_eq Hw4.out.wl)
     refine KI hK ?_; clear hK K
     refine R1I 5 fun K hK => ?_
     go_simp
     (refine ⟨trivial, ?_⟩; gi_at_call 221; (with_reducible refine (callsIn_wide.2 (Z0F (h1 := IX) (h2 := IX) (hs1 := by omega) (hs2 := by omega) (hy := hne0))).mono ?_); refine rI ?_; intro w5 sw5 Aw5 nw5 cw5 Hw5 hbw5; (try clear F4); obtain ⟨R4, L4, F4⟩ := BC4 w5 g4)
     refine KI hK ?_; clear hK K
     refine R1I 9 fun K hK => ?_
     go_simp
     (refine ⟨trivial, ?_⟩; gi_at_call 148; (with_reducible refine (callsIn_wide.2 (Zk (2 * (k : Int) + 1) _ (by omega) (by omega))).mono ?_); refine rI ?_; intro w9 sw9 Aw9 nw9 cw9 Hw9 hbw9; (try clear F4); obtain ⟨R4, L4, F4⟩ := BC4 w9 g4; have Nw9 := Nat.le_of_eq Hw9.out.wl)
     refine KI hK ?_; clear hK K
     refine R1I 10 fun K hK => ?_
     go_simp
     (refine ⟨trivial, ?_⟩; gi_at_call 222; (with_reducible refine (callsIn_wide.2 (Z1h (h1 := IX) (h2 := IX) (hs1 := by omega) (hs2 := by omega) (hy := hpos))).mono ?_); refine rI ?_; intro w10 sw10 Aw10 nw10 cw10 Hw10 hbw10; (try clear F4); obtain ⟨R4, L4, F4⟩ := BC4 w10 g4)
     refine KI hK ?_; clear hK K
     refine TI 11 ?_
     refine R1I 12 fun K hK => ?_
     have hk10 : Kp n0 W.heap.size wr w10 := KPX
     obtain ⟨fn, tmps, assign, body, hyl, hR⟩ := hY k w10 (.agg #[.bool sw5, .slice Aw5 nw5 cw5, .bool sw10, .slice Aw10 nw10 cw10]) (hJ k wr w10 hJk (by exact (KPX (n0 := W.heap.size) (B := W.heap.size)).below) (by exact (KPX (n0 := W.heap.size) (B := W.heap.size)).words)) ⟨⟨sw5, Aw5, nw5, cw5, sw10, Aw10, nw10, cw10⟩, rfl, IX, IX⟩
     go_simp
     refine hR.mono ?_
     rintro e W' ⟨hk', (⟨rfl, hkN, hJ'⟩ | ⟨rfl, hJx'⟩)⟩
     ·refine hK _ _ ?_
      (try simp only [LY])
      refine wpAnyIn_done (by kernel_rfl) ?_ _
      exact ⟨true, _, _, _, _, _, _, _, _, _, _, _, _, _, _, _, _, _, _, _, rfl, hk10.trans hk', .inl ⟨rfl, hkN, hJ'⟩⟩
     ·refine hK _ _ ?_
      (try simp only [LY])
      refine wpAnyIn_done (by kernel_rfl) ?_ _
      exact ⟨false, _, _, _, _, _, _, _, _, _, _, _, _, _, _, _, _, _, _, _, rfl, hk10.trans hk', .inr ⟨rfl, hJx'⟩⟩
    refine ARI (fun K hK => ?_) ?_
    ·skip
     go_simp
     (refine ⟨trivial, ?_⟩; gi_at_call 148; (with_reducible refine (callsIn_wide.2 (Zk (2 * (k : Int) + 1) _ (by omega) (by omega))).mono ?_); refine rI ?_; intro w4 sw4 Aw4 nw4 cw4 Hw4 hbw4; (try clear F4); obtain ⟨R4, L4, F4⟩ := BC4 w4 g4; have Nw4 := Nat.le_of_eq Hw4.out.wl)
     refine KI hK ?_; clear hK K
     refine R1I 2 fun K hK => ?_
     go_simp
     refine KI hK ?_; clear hK K
     refine R1I 5 fun K hK => ?_
     go_simp
     (refine ⟨trivial, ?_⟩; gi_at_call 221; (with_reducible refine (callsIn_wide.2 (Z0F (h1 := IX) (h2 := IX) (hs1 := by omega) (hs2 := by omega) (hy := hne0))).mono ?_); refine rI ?_; intro w5 sw5 Aw5 nw5 cw5 Hw5 hbw5; (try clear F4); obtain ⟨R4, L4, F4⟩ := BC4 w5 g4)
     refine KI hK ?_; clear hK K
     refine R1I 9 fun K hK => ?_
     go_simp
     (refine ⟨trivial, ?_⟩; gi_at_call 148; (with_reducible refine (callsIn_wide.2 (Zk (2 * (k : Int) + 1) _ (by omega) (by omega))).mono ?_); refine rI ?_; intro w9 sw9 Aw9 nw9 cw9 Hw9 hbw9; (try clear F4); obtain ⟨R4, L4, F4⟩ := BC4 w9 g4; have Nw9 := Nat.le_of_eq Hw9.out.wl)
     refine KI hK ?_; clear hK K
     refine R1I 10 fun K hK => ?_
     go_simp
     (refine ⟨trivial, ?_⟩; gi_at_call 222; (with_reducible refine (callsIn_wide.2 (Z1h (h1 := IX) (h2 := IX) (hs1 := by omega) (hs2 := by omega) (hy := hpos))).mono ?_); refine rI ?_; intro w10 sw10 Aw10 nw10 cw10 Hw10 hbw10; (try clear F4); obtain ⟨R4, L4, F4⟩ := BC4 w10 g4)
     refine KI hK ?_; clear hK K
     refine TI 11 ?_
     refine R1I 12 fun K hK => ?_
     have hk10 : Kp n0 W.heap.size wr w10 := KPX
     obtain ⟨fn, tmps, assign, body, hyl, hR⟩ := hY k w10 (.agg #[.bool sw5, .slice Aw5 nw5 cw5, .bool sw10, .slice Aw10 nw10 cw10]) (hJ k wr w10 hJk (by exact (KPX (n0 := W.heap.size) (B := W.heap.size)).below) (by exact (KPX (n0 := W.heap.size) (B := W.heap.size)).words)) ⟨⟨sw5, Aw5, nw5, cw5, sw10, Aw10, nw10, cw10⟩, rfl, IX, IX⟩
     go_simp
     refine hR.mono ?_
     rintro e W' ⟨hk', (⟨rfl, hkN, hJ'⟩ | ⟨rfl, hJx'⟩)⟩
     ·refine hK _ _ ?_
      (try simp only [LY])
      refine wpAnyIn_done (by kernel_rfl) ?_ _
      exact ⟨true, _, _, _, _, _, _, _, _, _, _, _, _, _, _, _, _, _, _, _, rfl, hk10.trans hk', .inl ⟨rfl, hkN, hJ'⟩⟩
     ·refine hK _ _ ?_
      (try simp only [LY])
      refine wpAnyIn_done (by kernel_rfl) ?_ _
      exact ⟨false, _, _, _, _, _, _, _, _, _, _, _, _, _, _, _, _, _, _, _, rfl, hk10.trans hk', .inr ⟨rfl, hJx'⟩⟩
    exact AllReadyIn.nil
   exact AllReadyIn.nil
  rintro a' W' ⟨b, v13, v14, v15, v16, v17, v18, v19, v20, v21, v22, v23, v24, v26, v27, v28, v29, v30, v31, v32, rfl, hkp, hb⟩
  dsimp only
  rcases hb with ⟨rfl, hkN, hJ'⟩ | ⟨rfl, hJx'⟩
  ·have X4 : BK W' g4 (zA3 p) := hX.own hkp hg4
   have Q5 : BK W' g5 (zA3 q) := hSq.own hkp hg5
   have C2 : BK W' g2 #[.int .i64 kk, .bool s3, .slice A3 n3 c3] := hG.below hkp.below hg2
   have L4' := X4.lt
   have H1 := zH (hp1.keep hkp.words)
   have H2 := zH (hp2.keep hkp.words)
   have H3 := zH (hq1.keep hkp.words)
   have H4 := zH (hq2.keep hkp.words)
   have H5 := zH (ho'.keep hkp.words)
   clear HP1 HP2 hp1 hp2 hq1 hq2 ho' hX hSq hG
   (try clear FF)
   have FF := And.intro C2.ca (And.intro X4.ca Q5.ca); dsimp only [CA, CC, Nat.reduceAdd] at FF
   gi_wp2_with (refine ⟨trivial, ?_⟩; gi_at_call 161; (with_reducible refine (callsIn_wide.2 (Z0E p q s3 A3 n3 c3 _ _ _ _ _ _ IX IX IX IX IX hone (by omega))).mono ?_); rintro e w7 ⟨pw7, rfl, hQ, hQ', hbw7⟩; have Hw7 := zH hQ; have Kw7 := zH hQ'; clear hQ hQ'; have X7 : BK w7 g4 (zA3 p) := BX; have F6 := X7.c4; have L7 := X7.lt)
   go_roundw
   case measure => simp [intOf]; omega
   case rel => exact ⟨k + 1, pw7, by simp; omega, hkN, hJ (k + 1) W' _ hJ' (by exact (KPX (n0 := W.heap.size) (B := w7.heap.size)).below) (by exact (KPX (n0 := W.heap.size) (B := w7.heap.size)).words), BX, IX, IX, BX, IX, IX, BX, IX, by simp only [World.size_setCell]; have := hkp.below.size; have := hbw7.size; omega⟩
  ·gi_wp2_with fail
   first | exact ⟨⟨_, rfl⟩, hJx'⟩ | (go_end0; exact ⟨⟨_, rfl⟩, hJx'⟩)
def Zds (w : World) (k : Int) (e : Ending) (w' : World) : Prop := ∃ (gf : Nat) (f1 f2 f3 : Value), e = .returned (.pointer (some ⟨gf, 0, none⟩)) ∧ BK w' gf #[.int .i64 k, f1, f2, f3] ∧ Ext w w'
theorem BK.c1 {w : World} {g : Nat} {a : Value} (h : BK w g #[a]) : w.cell? ⟨g, 0, none⟩ = some a ∧ ∀ o, w.frozen? ⟨g, o, none⟩ = false := ⟨h.cell 0, h.frozen⟩
theorem Z6C (n : Nat) (p : Option Addr) (w : World) :
  Ca 151 #[.func (.func n) #[] #[], .pointer p] w fun e w' => ∃ v, e = .returned v ∧ (∃ x y z, v = .func x y z) ∧ Ext w w' := by
 have hmf : ∀ (fn : Fn) (first cap : Array Value) (w : World), (Instr.makeFunc fn first cap).run Tryz.prog w = .ok (.func fn first cap) w := fun _ _ _ _ => rfl
 go_enter func151, ntmps151
 go_wp2
 go_ret
 exact ⟨_, rfl, ⟨_, _, _, rfl⟩, EX⟩
theorem Z0L (k : Int) (w : World) :
  Ca 87 #[.int .i64 k] w (Zds w k) := by
 have hmf : ∀ (fn : Fn) (first cap : Array Value) (w : World), (Instr.makeFunc fn first cap).run Tryz.prog w = .ok (.func fn first cap) w := fun _ _ _ _ => rfl
 go_enter func87, ntmps87
 go_wp2_with fail
 go_region_held3 (fun w' => zC w' w.heap.size 0 (.int .i64 k)) (first | (with_reducible exact hxl.cell (by assumption)) | (simp [go_sem]; done) | (with_reducible (repeat (first | assumption | refine Z0t ?_ _)); done) | (simp [go_sem, *]; done)) (first | (go_at_call 151; (with_reducible refine (Z6C _ _ _).mono ?_); rintro e w1 ⟨vw1, rfl, ⟨xw1, yw1, zw1, rfl⟩, hbw1⟩; have hxl := hbw1; (try clear F0); obtain ⟨R0, L0, F0⟩ := BC1 w1 w.heap.size))
 all_goals go_wp2_with fail
 all_goals go_ret
 all_goals exact ⟨_, _, _, _, rfl, BX, EX⟩
theorem Z7A (s : Bool) (A : Option Addr) (n c : Nat) (z : Int) (w : World) (h : IAt w s A n c z) (h0 : 0 ≤ z) (h1 : z < 4294967296) :
  Ca 155 #[.agg #[.bool s, .slice A n c]] w fun e w' => e = .returned (.tuple #[.int .i64 z, .int .i64 0]) ∧ Ext w w' := by
 have hsg : s = false := by rw [h.sgn]; exact decide_eq_false (by omega)
 subst hsg
 have hI := zH (fun W (k1 : IAt W false A n c z) => Z0p false A n c z W k1 (by rw [k1.wl]; exact Nat.le_trans (Zo (by omega) (by omega)) (by decide)))
 have H1 := zH h
 by_cases hn : n = 0
 ·have hz : z = 0 := h.zero_iff.1 hn
  subst hn hz
  clear h
  go_enter func155, ntmps155
  go_wp2_with (go_at_call 125; (with_reducible refine (hI.out _ (H1.out.ext EX)).mono ?_); rintro e w1 ⟨rfl, hbw1⟩; (try clear hc hf); obtain ⟨hBw1, hc, hf⟩ := EC1 w1 w)
  go_rounds 1
  all_goals go_wp2
  all_goals go_ret2
  all_goals exact ⟨rfl, EX⟩
 ·have hwl : wl z ≤ 1 := Z0K (by show z.natAbs < 4294967296 ^ 1; omega)
  have hn1 : n = 1 := by have := h.wl; omega
  obtain ⟨a, ha, hz⟩ := h.one_word hn1
  obtain ⟨b1, f1, rfl, hb1, hc1⟩ := h.rep.at (by omega)
  have g1 := hc1 0 (by omega)
  rw [ha] at g1
  simp only [List.getD_cons_zero, Nat.add_zero] at g1
  have hza : (a : Int) = z := by omega
  rw [hza] at g1
  subst hn1
  have hab : z ≤ 4294967295 := by omega
  have hor : bits .or .u64 0 z = z := by
   have h9 := Z4d a 0 (by omega) (by omega)
   rw [hza] at h9
   simpa using h9
  clear h hc1 ha hz hwl h1 hn hza
  go_enter func155, ntmps155
  go_wp2_with (go_at_call 125; (with_reducible refine (hI.out _ (H1.out.ext EX)).mono ?_); rintro e w1 ⟨rfl, hbw1⟩; (try clear hc hf); obtain ⟨hBw1, hc, hf⟩ := EC1 w1 w; have g1' := hbw1.cell (Z0t g1 _))
  refine wp_loop_rounds 2 ?_
  rw [rounds_succ]
  go_upto_if 27 with fail
  rw [rounds_succ]
  go_wp2_with fail
  all_goals go_ret2
  all_goals exact ⟨rfl, EX⟩
theorem Z8C (kd : Nat) (caps : Array Value) (eg : ∀ args w, (callFunc kd args).run Tryz.prog w = .ok (.enter kd args) w) (g0 g1 : Nat) (n : Int) (x y : Rat) (w : World) (h0 : BK w g0 #[.func (.func kd) #[] caps]) (h1 : BK w g1 #[.int .i64 n]) (H : ∀ W, Ext w W → Ca kd (#[.int .i64 n] ++ caps) W (Z0e W x y)) :
  Ca 150 #[.pointer (some ⟨g0, 0, none⟩), .pointer (some ⟨g1, 0, none⟩)] w (Z0e w x y) := by
 have L0 := h0.lt
 have L1 := h1.lt
 obtain ⟨a0, a1⟩ := h0.c1
 obtain ⟨b0, b1⟩ := h1.c1
 have HH := zH H
 clear h0 h1 H
 go_enter func150, ntmps150
 go_wp2_with (((with_reducible refine (HH.out _ EX).mono ?_)); rintro e w1 ⟨pw1, qw1, rfl, hQ, hQ', hbw1⟩; have Hw1 := zH hQ; have Kw1 := zH hQ'; clear hQ hQ'; obtain ⟨R0, L0, F0⟩ := B80 w1 w)
 refine bodyPost_ret (v := .agg (zA0 pw1 qw1)) (by simp [zA0, results, results150, go_sem, Z6, F0]) rfl ⟨_, _, rfl, QX, QX, EX⟩
theorem Z8j (p q : Option Addr) (w : World) :
  CallsD Tryz.prog 217 #[.pointer p, .pointer q] .returning w fun e u' w' => e = .returned (.tuple #[]) ∧ u' = .returning ∧ w' = w := by
 refine callsD_of_wpS func217 rfl fun c₀ cs hu => ?_
 apply wpS_seq
 apply wpS_region
 simp [wpOpsS, go_sem, recoverD, hu, ntmps217, Exit.thenS]
 apply wpS_seq
 apply wpS_region
 simp [wpOpsS, go_sem, Exit.thenS]
 refine wpS_cond (t := false) (by simp [Act.eval, Array.replicate]) ?_
 simp only [Bool.false_eq_true, if_false]
 refine wpS_of_wp (wp_skip ?_)
 cases c₀
 simp_all [bodyPostS, results, results217]
theorem BK.st1 {w : World} {g : Nat} {a : Value} (h : BK w g #[a]) (x : Value) : BK (w.setCell ⟨g, 0, none⟩ x) g #[x] := h.set 0 x
theorem Z7E (W : World) (v : Value) : (Instr.typeAssert (.iface 135 v) 20 135 true).run Tryz.prog W = .ok (.tuple #[v, .bool true]) W := by kernel_rfl
theorem Z8i (gp gq : Nat) (v0 v1 : Value) (k : Int) (older : List PanicEntry) (w : World) (hp : BK w gp #[v0]) (hq : BK w gq #[v1]) (hne : gq ≠ gp) :
  CallsD Tryz.prog 217 #[.pointer (some ⟨gp, 0, none⟩), .pointer (some ⟨gq, 0, none⟩)] (.panicking ({ v := .iface 135 (.agg #[.int .i64 k]), recovered := false } :: older)) w fun e u' w' =>
   e = .returned (.tuple #[]) ∧ u' = .panicking ({ v := .iface 135 (.agg #[.int .i64 k]), recovered := true } :: older) ∧ w' = ((w.alloc (.cells #[.int .i64 k] 135)).setCell ⟨gp, 0, none⟩ (.int .i64 k)).setCell ⟨gq, 0, none⟩ (.bool false) := by
 refine callsD_of_wpS func217 rfl fun c₀ cs hu => ?_
 apply wpS_seq
 apply wpS_region
 simp [wpOpsS, go_sem, recoverD, hu, ntmps217, Exit.thenS]
 apply wpS_seq
 apply wpS_region
 simp [wpOpsS, go_sem, Exit.thenS]
 refine wpS_cond (t := true) (by simp [Act.eval, Array.replicate]) ?_
 simp only [if_true]
 apply wpS_seq
 apply wpS_region
 have hta := Z7E w (.agg #[.int .i64 k])
 simp [wpOpsS, go_sem, Exit.thenS, hta]
 apply wpS_seq
 apply wpS_seq
 apply wpS_region
 simp [wpOpsS, go_sem, Exit.thenS]
 refine wpS_cond (t := false) (by simp [Act.eval, Array.replicate]) ?_
 simp only [Bool.false_eq_true, if_false]
 refine wpS_of_wp (wp_skip ?_)
 simp only [Exit.thenS]
 apply wpS_region
 have Ap : BK (w.alloc (.cells #[.int .i64 k] 135)) gp #[v0] := BX
 have Aq : BK ((w.alloc (.cells #[.int .i64 k] 135)).setCell ⟨gp, 0, none⟩ (.int .i64 k)) gq #[v1] := BX
 have p1 := Ap.c1.1
 have p2 := Ap.c1.2
 have q1 := Aq.c1.1
 have q2 := Aq.c1.2
 simp [wpOpsS, go_sem, Exit.thenS, bodyPostS, results, results217, p1, p2, q1, q2]
def Zdt (w : World) (x y : Rat) (e : Ending) (w' : World) : Prop := ∃ p q : QC, e = .returned (.tuple #[.agg #[.bool p.s, .slice p.A p.n p.c, .bool p.t, .slice p.B p.m p.d, .bool q.s, .slice q.A q.n q.c, .bool q.t, .slice q.B q.m q.d], .agg #[.int .i64 0], .bool true]) ∧ p.At w' x ∧ q.At w' y ∧ Ext w w'
theorem Z7C (g0 g1 : Nat) (x y : Rat) (w : World) (H : ∀ W, Ext w W → Ca 150 #[.pointer (some ⟨g0, 0, none⟩), .pointer (some ⟨g1, 0, none⟩)] W (Z0e W x y)) :
  Ca 149 #[.func (.func 150) #[] #[.pointer (some ⟨g0, 0, none⟩), .pointer (some ⟨g1, 0, none⟩)]] w (Zdt w x y) := by
 have hmf : ∀ (fn : Fn) (first cap : Array Value) (w : World), (Instr.makeFunc fn first cap).run Tryz.prog w = .ok (.func fn first cap) w := fun _ _ _ _ => rfl
 have HH := zH H
 clear H
 go_enter_defers func149, ntmps149
 go_wp2_with (go_at_call 150; ((with_reducible refine (HH.out _ EX).mono ?_)); rintro e w1 ⟨pw1, qw1, rfl, hQ, hQ', hbw1⟩; have Hw1 := zH hQ; have Kw1 := zH hQ'; clear hQ hQ'; obtain ⟨R0, L0, F0⟩ := B80 w1 w; obtain ⟨R1, L1, F1⟩ := BC1 w1 (w.heap.size + 1); obtain ⟨R2, L2, F2⟩ := BC1 w1 (w.heap.size + 1 + 1))
 refine leaves_cons (f := 217) (args := #[.pointer (some ⟨w.heap.size+1, 0, none⟩), .pointer (some ⟨w.heap.size+1+1, 0, none⟩)]) (by simp) (by simp [go_sem]) ?_
 refine (Z8j _ _ _).mono ?_
 rintro e u' w'' ⟨rfl, rfl, rfl⟩
 simp [Leaves, settle, results, results149, go_sem, Z6, F0, F1, F2]
 refine ⟨pw1, qw1, ?_, ?_, ?_, ?_⟩
 ·rfl
 ·exact QX
 ·exact QX
 ·exact EX
def Z3d (w : World) (k : Int) (e : Ending) (w' : World) : Prop := e = .panicked [{ v := .iface 135 (.agg #[.int .i64 k]), recovered := false }] ∧ Ext w w'
def ZcX (w : World) (k : Int) (e : Ending) (w' : World) : Prop := e = .returned (.tuple #[.agg #[.bool false, .slice none 0 0, .bool false, .slice none 0 0, .bool false, .slice none 0 0, .bool false, .slice none 0 0], .agg #[.int .i64 k], .bool false]) ∧ Ext w w'
theorem Z4i (kd : Nat) (caps : Array Value) (eg : ∀ args w, (callFunc kd args).run Tryz.prog w = .ok (.enter kd args) w) (g0 g1 : Nat) (n k : Int) (w : World) (h0 : BK w g0 #[.func (.func kd) #[] caps]) (h1 : BK w g1 #[.int .i64 n]) (H : ∀ W, Ext w W → Ca kd (#[.int .i64 n] ++ caps) W (Z3d W k)) :
  Ca 150 #[.pointer (some ⟨g0, 0, none⟩), .pointer (some ⟨g1, 0, none⟩)] w (Z3d w k) := by
 have L0 := h0.lt
 have L1 := h1.lt
 obtain ⟨a0, a1⟩ := h0.c1
 obtain ⟨b0, b1⟩ := h1.c1
 have HH := zH H
 clear h0 h1 H
 go_enter func150, ntmps150
 go_wp2_with (((with_reducible refine (HH.out _ EX).mono ?_)); rintro e w1 ⟨rfl, hbw1⟩)
 exact ⟨rfl, rfl, EX⟩
theorem Z3J (g0 g1 : Nat) (k : Int) (w : World) (H : ∀ W, Ext w W → Ca 150 #[.pointer (some ⟨g0, 0, none⟩), .pointer (some ⟨g1, 0, none⟩)] W (Z3d W k)) :
  Ca 149 #[.func (.func 150) #[] #[.pointer (some ⟨g0, 0, none⟩), .pointer (some ⟨g1, 0, none⟩)]] w (ZcX w k) := by
 have hmf : ∀ (fn : Fn) (first cap : Array Value) (w : World), (Instr.makeFunc fn first cap).run Tryz.prog w = .ok (.func fn first cap) w := fun _ _ _ _ => rfl
 have HH := zH H
 clear H
 go_enter_defers func149, ntmps149
 go_wp2_with (go_at_call 150; ((with_reducible refine (HH.out _ EX).mono ?_)); rintro e w1 ⟨rfl, hbw1⟩; obtain ⟨R0, L0, F0⟩ := B80 w1 w; obtain ⟨R1, L1, F1⟩ := BC1 w1 (w.heap.size + 1); obtain ⟨R2, L2, F2⟩ := BC1 w1 (w.heap.size + 1 + 1))
 refine leaves_cons (f := 217) (args := #[.pointer (some ⟨w.heap.size+1, 0, none⟩), .pointer (some ⟨w.heap.size+1+1, 0, none⟩)]) (by simp) (by simp [go_sem]) ?_
 refine (Z8i (w.heap.size+1) (w.heap.size+1+1) _ _ k [] _ R1 R2 (by omega)).mono ?_
 rintro e u' w'' ⟨rfl, rfl, rfl⟩
 have Z0 : BK (w1.alloc (.cells #[.int .i64 k] 135)) (w.heap.size) #[.bool false, .slice none 0 0, .bool false, .slice none 0 0, .bool false, .slice none 0 0, .bool false, .slice none 0 0] := BX
 have Z1 : BK ((w1.alloc (.cells #[.int .i64 k] 135)).setCell ⟨w.heap.size+1, 0, none⟩ (.int .i64 k)) (w.heap.size) #[.bool false, .slice none 0 0, .bool false, .slice none 0 0, .bool false, .slice none 0 0, .bool false, .slice none 0 0] := BX
 have Fz := Z0.c8
 have Z2 : BK (w1.alloc (.cells #[.int .i64 k] 135)) (w.heap.size+1) #[.int .i64 0] := BX
 have Z3 : BK ((w1.alloc (.cells #[.int .i64 k] 135)).setCell ⟨w.heap.size+1, 0, none⟩ (.int .i64 k)) (w.heap.size+1+1) #[.bool false] := BX
 have Z4 := (Z2.st1 (.int .i64 k)).c1.1
 have Z5 := (Z3.st1 (.bool false)).c1.1
 simp [Leaves, settle, results, results149, go_sem, Z6, Fz, Z4, Z5]
 exact ⟨rfl, EX⟩
end Go.Proofs.YtnmmncccpdffaaaGreat
