/- What BoundBoxes calls, part 5. -/
import Derived.Test.YtnmmncccpdffaaaGreatQ04
set_option linter.unusedVariables false
set_option linter.unusedSimpArgs false
set_option maxRecDepth 100000
set_option maxHeartbeats 16000000
namespace Go.Proofs.YtnmmncccpdffaaaGreat
open Go.Proofs.Tryz Go Go.RowKit Go.Shelf
theorem ZK (n d : Int) (w : World) (h0 : -9223372036854775808 ≤ n) (h1 : n ≤ 9223372036854775807) (h2 : -9223372036854775808 ≤ d) (h3 : d ≤ 9223372036854775807) (hd : d ≠ 0) :
  Ca 48 #[.int .i64 n, .int .i64 d] w (Z0G w (Rat.divInt n d)) := by
 go_enter func48, ntmps48
 go_wp2_with (go_at_call 116; (with_reducible refine (ZaI n d _ h0 h1 h2 h3 hd).mono ?_); rintro e w6 ⟨sw6, Aw6, nw6, cw6, tw6, Bw6, mw6, dw6, rfl, hQw6, hbw6⟩; (try clear hc hf); obtain ⟨hBw6, hc, hf⟩ := EC1 w6 w; have hszw6 := hBw6.size; simp only [World.size_alloc] at hszw6; have hq0w6 : w.heap.size < w6.heap.size := (by omega))
 refine bodyPost_ret (v := .agg (Z01 sw6 Aw6 nw6 cw6 tw6 Bw6 mw6 dw6)) (by simp [Z01, results, results48, go_sem, Z6, hc, hf, hq0w6]) rfl ⟨_, _, _, _, _, _, _, _, rfl, hQw6.keep (by have kf := hq0w6; exact KPD), EX⟩
theorem Z8x (a b c d : QC) (x y u v : Rat) (w : World) (ha : a.At w x) (hb : b.At w y) (hc0 : c.At w u) (hd : d.At w v) (hs : qm x + qm y + qm u + qm v + 8 < Z8) :
  Ca 12 #[.agg (zA0 a b), .agg (zA0 c d)] w fun e w' => e = .returned (.bool (decide (x = u) && decide (y = v))) ∧ Ext w w' := by
 have S1 := zH (fun W (k1 : a.At W x) (k2 : c.At W u) => Z4U a.s c.s a.t c.t a.A c.A a.B c.B a.n a.c a.m a.d c.n c.c c.m c.d x u W k1 k2 (by omega))
 have S2 := zH (fun W (k1 : b.At W y) (k2 : d.At W v) => Z4U b.s d.s b.t d.t b.A d.A b.B d.B b.n b.c b.m b.d d.n d.c d.m d.d y v W k1 k2 (by omega))
 obtain ⟨b1, hb1⟩ : ∃ z, decide (x = u) = z := ⟨_, rfl⟩
 obtain ⟨b2, hb2⟩ : ∃ z, decide (y = v) = z := ⟨_, rfl⟩
 rw [hb1] at S1 ⊢
 rw [hb2] at S2 ⊢
 have HA := zH ha
 have HB := zH hb
 have HC := zH hc0
 have HD := zH hd
 clear ha hb hc0 hd hb1 hb2
 dsimp only [zA0]
 go_enter func12, ntmps12
 go_wp2_with (
  first
  | (go_at_call 60; (with_reducible refine (S1.out _ (QAt.ext HA.out EX) (QAt.ext HC.out EX)).mono ?_); rintro e w1 ⟨rfl, hbw1⟩; (try clear hc hf); obtain ⟨hBw1, hc, hf⟩ := EC2 w1 w)
  | (go_at_call 60; (with_reducible refine (S2.out _ (QAt.ext HB.out EX) (QAt.ext HD.out EX)).mono ?_); rintro e w2 ⟨rfl, hbw2⟩; (try clear hc hf); obtain ⟨hBw2, hc, hf⟩ := EC2 w2 w))
 all_goals go_ret
 all_goals refine ⟨?_, EX⟩
 all_goals (cases b1 <;> cases b2 <;> simp_all)
def BK (w : World) (g : Nat) (c : Array Value) : Prop := ∃ ty, w.heap[g]? = some (.cells c ty)
theorem BK.lt {w : World} {g : Nat} {c : Array Value} (h : BK w g c) : g < w.heap.size := by obtain ⟨_, h⟩ := h; exact (Array.getElem?_eq_some_iff.1 h).1
theorem BK.ext {w w' : World} {g : Nat} {c : Array Value} (h : BK w g c) (k : Ext w w') : BK w' g c := by have hl := h.lt; obtain ⟨ty, h⟩ := h; exact ⟨ty, (k.below.block g hl).trans h⟩
theorem BK.drew {w : World} {g : Nat} {c : Array Value} (h : BK w g c) : BK w.drew g c := h
theorem BK.alloc {w : World} {g : Nat} {c : Array Value} (h : BK w g c) (o : Obj) : BK (w.alloc o) g c := h.ext ((Ext.refl w).alloc o)
theorem BK.new {w : World} {g : Nat} (c : Array Value) (ty : TypeId) (h : g = w.heap.size) : BK (w.alloc (.cells c ty)) g c := ⟨ty, by subst h; show (w.heap.push _)[w.heap.size]? = _; simp⟩
theorem BK.other {w : World} {g : Nat} {c : Array Value} (h : BK w g c) {p : Addr} (hp : g ≠ p.block) (u : Value) : BK (w.setCell p u) g c := by obtain ⟨ty, h⟩ := h; exact ⟨ty, (Below.heap_setCell w p u g hp).trans h⟩
theorem BK.set {w : World} {g : Nat} {c : Array Value} (h : BK w g c) (i : Nat) (v : Value) : BK (w.setCell ⟨g, i, none⟩ v) g (c.setIfInBounds i v) := by
 obtain ⟨ty, h⟩ := h
 refine ⟨ty, ?_⟩
 simp [World.setCell, Array.getElem?_modify, h]
theorem BK.cell {w : World} {g : Nat} {c : Array Value} (h : BK w g c) (i : Nat) : w.cell? ⟨g, i, none⟩ = c[i]? := by
 obtain ⟨ty, h⟩ := h; simp [World.cell?, h]
theorem BK.frozen {w : World} {g : Nat} {c : Array Value} (h : BK w g c) (o : Nat) : w.frozen? ⟨g, o, none⟩ = false := by
 obtain ⟨ty, h⟩ := h; simp [World.frozen?, h]
theorem BK.st2 {w : World} {g : Nat} {a b : Value} (h : BK w g #[a, b]) (x y : Value) : BK ((w.setCell ⟨g, 0, none⟩ x).setCell ⟨g, 1, none⟩ y) g #[x, y] := (h.set 0 x).set 1 y
theorem BK.st4 {w : World} {g : Nat} {a b c d : Value} (h : BK w g #[a, b, c, d]) (x y z u : Value) : BK ((((w.setCell ⟨g, 0, none⟩ x).setCell ⟨g, 1, none⟩ y).setCell ⟨g, 2, none⟩ z).setCell ⟨g, 3, none⟩ u) g #[x, y, z, u] := by
 have h0 : BK _ g #[x, b, c, d] := h.set 0 x
 have h1 : BK _ g #[x, y, c, d] := h0.set 1 y
 have h2 : BK _ g #[x, y, z, d] := h1.set 2 z
 have h3 : BK _ g #[x, y, z, u] := h2.set 3 u
 exact h3
theorem BK.st8 {w : World} {g : Nat} {a b c d a' b' c' d' : Value} (h : BK w g #[a, b, c, d, a', b', c', d']) (x y z u x' y' z' u' : Value) : BK ((((((((w.setCell ⟨g, 0, none⟩ x).setCell ⟨g, 1, none⟩ y).setCell ⟨g, 2, none⟩ z).setCell ⟨g, 3, none⟩ u).setCell ⟨g, 4, none⟩ x').setCell ⟨g, 5, none⟩ y').setCell ⟨g, 6, none⟩ z').setCell ⟨g, 7, none⟩ u') g #[x, y, z, u, x', y', z', u'] := by
 have h0 : BK _ g #[x, b, c, d, a', b', c', d'] := h.set 0 x
 have h1 : BK _ g #[x, y, c, d, a', b', c', d'] := h0.set 1 y
 have h2 : BK _ g #[x, y, z, d, a', b', c', d'] := h1.set 2 z
 have h3 : BK _ g #[x, y, z, u, a', b', c', d'] := h2.set 3 u
 have h4 : BK _ g #[x, y, z, u, x', b', c', d'] := h3.set 4 x'
 have h5 : BK _ g #[x, y, z, u, x', y', c', d'] := h4.set 5 y'
 have h6 : BK _ g #[x, y, z, u, x', y', z', d'] := h5.set 6 z'
 have h7 : BK _ g #[x, y, z, u, x', y', z', u'] := h6.set 7 u'
 exact h7
theorem BK.c2 {w : World} {g : Nat} {a b : Value} (h : BK w g #[a, b]) : w.cell? ⟨g, 0, none⟩ = some a ∧ w.cell? ⟨g, 1, none⟩ = some b ∧ ∀ o, w.frozen? ⟨g, o, none⟩ = false := ⟨h.cell 0, h.cell 1, h.frozen⟩
theorem BK.c4 {w : World} {g : Nat} {a b c d : Value} (h : BK w g #[a, b, c, d]) : w.cell? ⟨g, 0, none⟩ = some a ∧ w.cell? ⟨g, 1, none⟩ = some b ∧ w.cell? ⟨g, 2, none⟩ = some c ∧ w.cell? ⟨g, 3, none⟩ = some d ∧ ∀ o, w.frozen? ⟨g, o, none⟩ = false := ⟨h.cell 0, h.cell 1, h.cell 2, h.cell 3, h.frozen⟩
theorem BK.c8 {w : World} {g : Nat} {a b c d a' b' c' d' : Value} (h : BK w g #[a, b, c, d, a', b', c', d']) : w.cell? ⟨g, 0, none⟩ = some a ∧ w.cell? ⟨g, 1, none⟩ = some b ∧ w.cell? ⟨g, 2, none⟩ = some c ∧ w.cell? ⟨g, 3, none⟩ = some d ∧ w.cell? ⟨g, 4, none⟩ = some a' ∧ w.cell? ⟨g, 5, none⟩ = some b' ∧ w.cell? ⟨g, 6, none⟩ = some c' ∧ w.cell? ⟨g, 7, none⟩ = some d' ∧ ∀ o, w.frozen? ⟨g, o, none⟩ = false := ⟨h.cell 0, h.cell 1, h.cell 2, h.cell 3, h.cell 4, h.cell 5, h.cell 6, h.cell 7, h.frozen⟩
def NB (w : World) (g : Nat) : Prop := ∃ c ty, w.heap[g]? = some (.cells c ty) ∧ ∀ (i : Nat) x, c[i]? ≠ some (.int .u32 x)
theorem NB.lt {w : World} {g : Nat} (h : NB w g) : g < w.heap.size := by obtain ⟨_, _, h, _⟩ := h; exact (Array.getElem?_eq_some_iff.1 h).1
theorem NB.ext {w w' : World} {g : Nat} (h : NB w g) (k : Ext w w') : NB w' g := by have hl := h.lt; obtain ⟨c, ty, h, hc⟩ := h; exact ⟨c, ty, (k.below.block g hl).trans h, hc⟩
theorem NB.alloc {w : World} {g : Nat} (h : NB w g) (o : Obj) : NB (w.alloc o) g := h.ext ((Ext.refl w).alloc o)
theorem NB.drew {w : World} {g : Nat} (h : NB w g) : NB w.drew g := h
theorem NB.set {w : World} {g : Nat} (h : NB w g) (p : Addr) (v : Value) (hp : p.spot = none) (hv : ∀ x, v ≠ .int .u32 x) : NB (w.setCell p v) g := by
 obtain ⟨c, ty, h, hc⟩ := h
 by_cases e : g = p.block
 ·subst e
  obtain ⟨pb, po, ps⟩ := p
  simp only at hp
  subst hp
  refine ⟨c.setIfInBounds po v, ty, by simp [World.setCell, Array.getElem?_modify] at h ⊢; simp [h], fun i x hi => ?_⟩
  rw [Array.getElem?_setIfInBounds] at hi
  split at hi
  ·split at hi
   ·exact hv x (Option.some.inj hi)
   ·cases hi
  ·exact hc i x hi
 ·exact ⟨c, ty, (Below.heap_setCell w p v g e).trans h, hc⟩
theorem BK.nb {w : World} {g : Nat} {c : Array Value} (h : BK w g c) (hc : ∀ v ∈ c, ∀ x, v ≠ .int .u32 x) : NB w g := by
 obtain ⟨ty, h⟩ := h
 exact ⟨c, ty, h, fun i x e => hc _ (Array.mem_of_getElem? e) x rfl⟩
theorem NB.nw {w : World} {g : Nat} (h : NB w g) (o : Nat) : ∀ x, w.cell? ⟨g, o, none⟩ ≠ some (.int .u32 x) := by
 obtain ⟨c, ty, h, hc⟩ := h
 intro x e
 simp only [World.cell?, h] at e
 exact hc o x (by simpa using e)
theorem BX {w : World} {g : Nat} {c : Array Value} (h : BK w g c := by with_reducible (repeat (first | assumption | (refine BK.new _ _ ?_; first | rfl | (simp only [SZ]; done)) | refine BK.alloc ?_ _ | refine BK.drew ?_ | apply BK.st8 | apply BK.st4 | apply BK.st2 | refine BK.other ?_ (by simp only; omega) _ | refine BK.ext ?_ (by assumption)))) : BK w g c := h
theorem NX {w : World} {g : Nat} (h : NB w g := by (repeat (first | (with_reducible assumption) | (apply BK.nb; (focus (first | (with_reducible refine BK.new _ _ ?_; first | rfl | (simp only [SZ]; done)) | (with_reducible assumption))); (focus (simp; done))) | (with_reducible refine NB.alloc ?_ _) | (with_reducible refine NB.drew ?_) | ((refine NB.set ?_ _ _ rfl ?_); rotate_left; (focus (with_unfolding_all (intro x h; cases h; done)))) | (with_reducible refine NB.ext ?_ (by assumption))))) : NB w g := h
theorem KS {a b : World} (h : Za a b := by (repeat' (first | (with_reducible exact Za.refl _) | (with_reducible refine Za.alloc ?_ _) | (with_reducible refine Za.drewN ?_ _) | (with_reducible refine Za.drew ?_) | (with_reducible refine Za.setCell ?_ (NB.nw ?_ _) _) | (with_reducible refine Ext.keeps ?_; with_reducible assumption) | (with_reducible refine Za.trans ?_ (Ext.keeps (by assumption))) | (with_reducible assumption) | (apply BK.nb; (focus (first | (with_reducible refine BK.new _ _ ?_; first | rfl | (simp only [SZ]; done)) | (with_reducible assumption))); (focus (simp; done))) | (with_reducible refine NB.alloc ?_ _) | (with_reducible refine NB.drew ?_) | ((refine NB.set ?_ _ _ rfl ?_); rotate_left; (focus (with_unfolding_all (intro x h; cases h; done)))) | (with_reducible refine NB.ext ?_ (by assumption))))) : Za a b := h
theorem QX {w : World} {s : Bool} {A : Option Addr} {n c : Nat} {t : Bool} {B : Option Addr} {m d : Nat} {x : Rat} (h : QAt w s A n c t B m d x := by first | (refine QAt.ext (Hid.out (by assumption)) ?_; (with_reducible (repeat (first | exact Ext.refl _ | refine Ext.alloc ?_ _ | refine Ext.drewN ?_ _ | refine Ext.drew ?_ | refine Ext.setCell ?_ (by first | exact Nat.le_refl _ | (dsimp only; omega) | omega) _ | assumption | refine Ext.trans ?_ (by assumption)))); done) | (refine QAt.keep (Hid.out (by assumption)) ?_; (repeat' (first | (with_reducible exact Za.refl _) | (with_reducible refine Za.alloc ?_ _) | (with_reducible refine Za.drewN ?_ _) | (with_reducible refine Za.drew ?_) | (with_reducible refine Za.setCell ?_ (NB.nw ?_ _) _) | (with_reducible refine Ext.keeps ?_; with_reducible assumption) | (with_reducible refine Za.trans ?_ (Ext.keeps (by assumption))) | (with_reducible assumption) | (apply BK.nb; (focus (first | (with_reducible refine BK.new _ _ ?_; first | rfl | (simp only [SZ]; done)) | (with_reducible assumption))); (focus (simp; done))) | (with_reducible refine NB.alloc ?_ _) | (with_reducible refine NB.drew ?_) | ((refine NB.set ?_ _ _ rfl ?_); rotate_left; (focus (with_unfolding_all (intro x h; cases h; done)))) | (with_reducible refine NB.ext ?_ (by assumption)))); done)) : QAt w s A n c t B m d x := h
theorem IX {w : World} {s : Bool} {A : Option Addr} {n c : Nat} {x : Int} (h : IAt w s A n c x := by first | (refine IAt.ext (Hid.out (by assumption)) ?_; (with_reducible (repeat (first | exact Ext.refl _ | refine Ext.alloc ?_ _ | refine Ext.drewN ?_ _ | refine Ext.drew ?_ | refine Ext.setCell ?_ (by first | exact Nat.le_refl _ | (dsimp only; omega) | omega) _ | assumption | refine Ext.trans ?_ (by assumption)))); done) | (refine IAt.keep (Hid.out (by assumption)) ?_; (repeat' (first | (with_reducible exact Za.refl _) | (with_reducible refine Za.alloc ?_ _) | (with_reducible refine Za.drewN ?_ _) | (with_reducible refine Za.drew ?_) | (with_reducible refine Za.setCell ?_ (NB.nw ?_ _) _) | (with_reducible refine Ext.keeps ?_; with_reducible assumption) | (with_reducible refine Za.trans ?_ (Ext.keeps (by assumption))) | (with_reducible assumption) | (apply BK.nb; (focus (first | (with_reducible refine BK.new _ _ ?_; first | rfl | (simp only [SZ]; done)) | (with_reducible assumption))); (focus (simp; done))) | (with_reducible refine NB.alloc ?_ _) | (with_reducible refine NB.drew ?_) | ((refine NB.set ?_ _ _ rfl ?_); rotate_left; (focus (with_unfolding_all (intro x h; cases h; done)))) | (with_reducible refine NB.ext ?_ (by assumption)))); done)) : IAt w s A n c x := h
def Z02 (k : Int) : Rat := Rat.divInt ((2 : Int) ^ k.toNat) ((2 : Int) ^ (-k).toNat)
theorem Z85 (n : Nat) : ((2 : Int) ^ n) ≠ 0 := Int.pow_ne_zero (by decide)
theorem Z43 (n : Nat) : 0 < ((2 : Int) ^ n) := Int.pow_pos (by decide)
theorem Z4G (k : Int) : (Z02 k).num = (2 : Int) ^ k.toNat ∧ (((Z02 k).den : Nat) : Int) = (2 : Int) ^ (-k).toNat := by
 refine Z17 ?_ (Z43 _)
 rcases Int.le_total k 0 with h | h
 ·rw [show k.toNat = 0 from by omega]; simp
 ·rw [show (-k).toNat = 0 from by omega]; simp
theorem Z1j (n : Nat) : wl ((2 : Int) ^ n) ≤ n / 32 + 1 := Z0K (by
 rw [Int.natAbs_pow]
 show 2 ^ n < (2 ^ 32) ^ (n / 32 + 1)
 rw [← Nat.pow_mul]
 exact Nat.pow_lt_pow_right (by decide) (by omega))
theorem Z1y (k : Int) : qm (Z02 k) ≤ k.natAbs / 32 + 1 := by
 obtain ⟨h1, h2⟩ := Z4G k
 have a := Z1j k.toNat
 have b := Z1j (-k).toNat
 refine Z9Y ?_ ?_
 ·rw [h1]; omega
 ·rw [h2]; omega
theorem Z32 (z : Int) : qm (z : Rat) ≤ max (wl z) 1 := by
 refine Z9Y ?_ ?_
 ·rw [Rat.num_intCast]; omega
 ·rw [Rat.den_intCast]; show wl 1 ≤ _; rw [Z1c]; omega
theorem Z8N (x y : Int) (hy : 0 < y) : wl (x / y) ≤ wl x := ZG (by
 have := Int.natAbs_ediv_le_natAbs x y; exact this)
def CK (w : World) (g : Nat) (c : List Value) : Prop := ∀ i v, c[i]? = some v → w.cell? ⟨g, i, none⟩ = some v
theorem CK.ext {w w' : World} {g : Nat} {c : List Value} (h : CK w g c) (k : Ext w w') : CK w' g c := fun i v hv => k.cell (h i v hv)
theorem CK.alloc {w : World} {g : Nat} {c : List Value} (h : CK w g c) (o : Obj) : CK (w.alloc o) g c := h.ext ((Ext.refl w).alloc o)
theorem CK.drew {w : World} {g : Nat} {c : List Value} (h : CK w g c) : CK w.drew g c := h
theorem CK.other {w : World} {g : Nat} {c : List Value} (h : CK w g c) {p : Addr} (hp : g ≠ p.block) (u : Value) : CK (w.setCell p u) g c := fun i v hv => by
 have h0 := h i v hv
 have e := Below.heap_setCell w p u g hp
 unfold World.cell? at h0 ⊢
 simp only [e]
 exact h0
theorem BK.ck {w : World} {g : Nat} {c : Array Value} (h : BK w g c) : CK w g c.toList := fun i v hv => by
 rw [h.cell i]; rwa [Array.getElem?_toList] at hv
theorem BK.st8a {w : World} {g : Nat} {a b c d a' b' c' d' : Value} (h : BK w g #[a, b, c, d, a', b', c', d']) (x y z u : Value) : BK ((((w.setCell ⟨g, 0, none⟩ x).setCell ⟨g, 1, none⟩ y).setCell ⟨g, 2, none⟩ z).setCell ⟨g, 3, none⟩ u) g #[x, y, z, u, a', b', c', d'] := by
 have h0 : BK _ g #[x, b, c, d, a', b', c', d'] := h.set 0 x
 have h1 : BK _ g #[x, y, c, d, a', b', c', d'] := h0.set 1 y
 have h2 : BK _ g #[x, y, z, d, a', b', c', d'] := h1.set 2 z
 exact (h2.set 3 u : BK _ g #[x, y, z, u, a', b', c', d'])
theorem BK.st8b {w : World} {g : Nat} {a b c d a' b' c' d' : Value} (h : BK w g #[a, b, c, d, a', b', c', d']) (x y z u : Value) : BK ((((w.setCell ⟨g, 4, none⟩ x).setCell ⟨g, 5, none⟩ y).setCell ⟨g, 6, none⟩ z).setCell ⟨g, 7, none⟩ u) g #[a, b, c, d, x, y, z, u] := by
 have h0 : BK _ g #[a, b, c, d, x, b', c', d'] := h.set 4 x
 have h1 : BK _ g #[a, b, c, d, x, y, c', d'] := h0.set 5 y
 have h2 : BK _ g #[a, b, c, d, x, y, z, d'] := h1.set 6 z
 exact (h2.set 7 u : BK _ g #[a, b, c, d, x, y, z, u])
theorem BK.st3 {w : World} {g : Nat} {a b c : Value} (h : BK w g #[a, b, c]) (x y z : Value) : BK (((w.setCell ⟨g, 0, none⟩ x).setCell ⟨g, 1, none⟩ y).setCell ⟨g, 2, none⟩ z) g #[x, y, z] := by
 have h0 : BK _ g #[x, b, c] := h.set 0 x
 have h1 : BK _ g #[x, y, c] := h0.set 1 y
 exact (h1.set 2 z : BK _ g #[x, y, z])
theorem BK.st7 {w : World} {g : Nat} {a b c d e f k : Value} (h : BK w g #[a, b, c, d, e, f, k]) (x1 x2 x3 x4 x5 x6 x7 : Value) : BK (((((((w.setCell ⟨g, 0, none⟩ x1).setCell ⟨g, 1, none⟩ x2).setCell ⟨g, 2, none⟩ x3).setCell ⟨g, 3, none⟩ x4).setCell ⟨g, 4, none⟩ x5).setCell ⟨g, 5, none⟩ x6).setCell ⟨g, 6, none⟩ x7) g #[x1, x2, x3, x4, x5, x6, x7] := by
 have h0 : BK _ g #[x1, b, c, d, e, f, k] := h.set 0 x1
 have h1 : BK _ g #[x1, x2, c, d, e, f, k] := h0.set 1 x2
 have h2 : BK _ g #[x1, x2, x3, d, e, f, k] := h1.set 2 x3
 have h3 : BK _ g #[x1, x2, x3, x4, e, f, k] := h2.set 3 x4
 have h4 : BK _ g #[x1, x2, x3, x4, x5, f, k] := h3.set 4 x5
 have h5 : BK _ g #[x1, x2, x3, x4, x5, x6, k] := h4.set 5 x6
 exact (h5.set 6 x7 : BK _ g #[x1, x2, x3, x4, x5, x6, x7])
theorem BK.c7 {w : World} {g : Nat} {a b c d a' b' c' : Value} (h : BK w g #[a, b, c, d, a', b', c']) : w.cell? ⟨g, 0, none⟩ = some a ∧ w.cell? ⟨g, 1, none⟩ = some b ∧ w.cell? ⟨g, 2, none⟩ = some c ∧ w.cell? ⟨g, 3, none⟩ = some d ∧ w.cell? ⟨g, 4, none⟩ = some a' ∧ w.cell? ⟨g, 5, none⟩ = some b' ∧ w.cell? ⟨g, 6, none⟩ = some c' ∧ ∀ o, w.frozen? ⟨g, o, none⟩ = false := ⟨h.cell 0, h.cell 1, h.cell 2, h.cell 3, h.cell 4, h.cell 5, h.cell 6, h.frozen⟩
theorem BK.st1' {w : World} {g : Nat} {a : Value} (h : BK w g #[a]) (x : Value) : BK (w.setCell ⟨g, 0, none⟩ x) g #[x] := h.set 0 x
theorem BY {w : World} {g : Nat} {c : Array Value} (h : BK w g c := by with_reducible (repeat (first | assumption | (refine BK.new _ _ ?_; first | rfl | (simp only [SZ]; done)) | refine BK.alloc ?_ _ | refine BK.drew ?_ | apply BK.st8 | apply BK.st8a | apply BK.st8b | apply BK.st7 | apply BK.st4 | apply BK.st3 | apply BK.st2 | apply BK.st1' | refine BK.other ?_ (by simp only; omega) _ | refine BK.ext ?_ (by assumption)))) : BK w g c := h
theorem CX {w : World} {g : Nat} {c : List Value} (h : CK w g c := by with_reducible (repeat (first | assumption | refine CK.alloc ?_ _ | refine CK.drew ?_ | refine CK.other ?_ (by simp only; omega) _ | refine CK.ext ?_ (by assumption)))) : CK w g c := h
theorem CK.lt {w : World} {g : Nat} {v : Value} {c : List Value} (h : CK w g (v :: c)) : g < w.heap.size := World.block_lt_of_cell? w _ (h 0 v rfl)
abbrev Z2w (w : World) (base : Nat) (ty : TypeId) (k : Nat) (A : Option Addr) (n c : Nat) (l : List Value) : Prop := w.ownsRow base ty k (.slice A n c) n l
theorem Z2w.nil (w : World) (base : Nat) (ty : TypeId) (k : Nat) : Z2w w base ty k none 0 0 [] := ⟨by simp, .inl ⟨rfl, rfl⟩⟩
theorem Z2w.ext {w w' : World} {base : Nat} {ty : TypeId} {k : Nat} {A : Option Addr} {n c : Nat} {l : List Value} (h : Z2w w base ty k A n c l) (x : Ext w w') : Z2w w' base ty k A n c l := by
 refine ⟨h.1, ?_⟩
 rcases h.2 with e | ⟨g, cap, cur, e1, e2, e3, e4⟩
 ·exact .inl e
 ·exact .inr ⟨g, cap, cur, e1, e2, (x.below.block g (Array.getElem?_eq_some_iff.1 e3).1).trans e3, e4⟩
theorem Z2w.new0 (w : World) (base g : Nat) (ty : TypeId) (k : Nat) (hg : w.heap.size = g) (hb : base ≤ g) : Z2w (w.alloc (.cells #[] ty)) base ty k (some ⟨g, 0, none⟩) 0 0 [] := by
 subst hg
 refine ⟨by simp, .inr ⟨w.heap.size, 0, #[], rfl, hb, ?_, by omega, by decide, by simp, by simp⟩⟩
 show (w.heap.push _)[w.heap.size]? = _; simp
theorem Z2w.ck {w : World} {base : Nat} {ty : TypeId} {k : Nat} {A : Option Addr} {n c : Nat} {l : List Value} (h : Z2w w base ty k A n c l) (hn : 0 < n) : ∃ g, A = some ⟨g, 0, none⟩ ∧ CK w g l ∧ base ≤ g ∧ g < w.heap.size ∧ n ≤ c := by
 rcases h.2 with ⟨_, e⟩ | ⟨g, cap, cur, e1, e2, e3, e4, e5, e6, e7⟩
 ·omega
 ·cases e1
  refine ⟨g, rfl, fun i v hv => ?_, e2, (Array.getElem?_eq_some_iff.1 e3).1, e4⟩
  have hi : i < n * k := by
   have := (List.getElem?_eq_some_iff.1 hv).1
   rw [h.1] at this; exact this
  rw [← e7, List.getElem?_take_of_lt hi, Array.getElem?_toList] at hv
  show (match w.heap[g]? with | some (.cells c _ _) => _ | _ => _) = _
  rw [e3]
  simpa using hv
theorem CK.c8 {w : World} {g : Nat} {a b c d a' b' c' d' : Value} (h : CK w g [a, b, c, d, a', b', c', d']) : w.cell? ⟨g, 0, none⟩ = some a ∧ w.cell? ⟨g, 1, none⟩ = some b ∧ w.cell? ⟨g, 2, none⟩ = some c ∧ w.cell? ⟨g, 3, none⟩ = some d ∧ w.cell? ⟨g, 4, none⟩ = some a' ∧ w.cell? ⟨g, 5, none⟩ = some b' ∧ w.cell? ⟨g, 6, none⟩ = some c' ∧ w.cell? ⟨g, 7, none⟩ = some d' := ⟨h 0 _ rfl, h 1 _ rfl, h 2 _ rfl, h 3 _ rfl, h 4 _ rfl, h 5 _ rfl, h 6 _ rfl, h 7 _ rfl⟩
theorem CK.c4 {w : World} {g : Nat} {a b c d : Value} (h : CK w g [a, b, c, d]) : w.cell? ⟨g, 0, none⟩ = some a ∧ w.cell? ⟨g, 1, none⟩ = some b ∧ w.cell? ⟨g, 2, none⟩ = some c ∧ w.cell? ⟨g, 3, none⟩ = some d := ⟨h 0 _ rfl, h 1 _ rfl, h 2 _ rfl, h 3 _ rfl⟩
theorem Z2y {w : World} {ops : Array Oper} {rest : List Oper} {o : Oper} {a : Act} {Q : Exit → Act → World → Prop} (hgd : o.guard = none) (s x : Operand) (ts ty : TypeId) (i0 : TypeInfo) (z : Value) (k by' : Nat)
  (hu : Tryz.prog.underlying ts = some (TypeDesc.slice ty)) (hi : Tryz.prog.info? ty = some i0) (hz0 : i0.zero = some z) (hz1 : i0.size = k) (hz2 : i0.bytes = by') (hzk : z.cells.size = k) (hk : 0 < k) (hkb : by' ≤ 200)
  (ho : o.op = .call { callee := .builtin .append, args := #[s, x], argTypes := #[ts, ts] }) (base : Nat)
  (A : Option Addr) (n c : Nat) (l : List Value) (hown : Z2w w base ty k A n c l) (hs : a.eval s = .slice A n c)
  (b m c2 : Nat) (news : List Value) (hx : a.eval x = .slice (some ⟨b, 0, none⟩) m c2) (hm : news.length = m * k) (hnews : CK w b news) (hsc : ∀ u ∈ news, u.oneCell' = true)
  (hle : n + m ≤ 1000000) (hbase : base ≤ w.heap.size)
  (h : ∀ A' c' w', Z2w w' base ty k A' (n + m) c' (l ++ news) → Below base w w' → wpList Tryz.prog ops Q rest (a.put o.dst (.slice A' (n + m) c')) w') : wpList Tryz.prog ops Q (o :: rest) a w := by
 refine wpList_append_own w hgd s x ts ho base ty i0 z k by' hu hi hz0 hz1 hz2 hzk hk _ n _ hs hown ⟨b, 0, none⟩ m c2 news hx hm ?_ hsc (by simp only [maxLen]; omega) ?_ hbase ?_
 ·intro j u hj
  have := hnews j u hj
  rw [show (⟨b, 0, none⟩ : Addr).add j = ⟨b, j, none⟩ from by unfold Addr.add; split <;> simp_all]
  exact this
 ·exact Nat.le_trans (Nat.mul_le_mul hle hkb) (by decide)
 ·intro v' w' h1 h2 h3
  have hB : Below base w w' := Below.grown (Below.refl _ _) h2 hbase (fun k hk => by
   rcases hown.2 with ⟨e1, e2⟩ | ⟨g, cap, cur, e1, e2, e3, e4, e5, e6, e7⟩
   ·rw [e1] at hk; cases hk
   ·rw [e1] at hk; cases hk; exact e2)
  rcases h1.2 with ⟨e1, e2⟩ | ⟨g, cap, cur, e1, e2, e3, e4, e5, e6, e7⟩
  ·have e3 : v' = .slice none (n + m) 0 := by rw [e1, e2]
   have := h _ _ w' (by rw [e3] at h1; exact h1) hB
   rw [e3]; exact this
  ·have := h _ _ w' (by rw [e1] at h1; exact h1) hB
   rw [e1]; exact this
theorem Z6L (ts ty : TypeId) (i0 : TypeInfo) (z : Value) (k : Nat) (hu : Tryz.prog.underlying ts = some (TypeDesc.slice ty)) (hi : Tryz.prog.info? ty = some i0) (hz : i0.zero = some z) (hk : i0.size = k) (hb : i0.bytes ≤ 200) (n : Nat) (hn : n ≤ 1000) (W : World) :
  (Instr.makeSlice ts (.int .i64 (n : Int)) (.int .i64 (n : Int))).run Tryz.prog W = .ok (.slice (some ⟨W.heap.size, 0, none⟩) n n) (W.alloc (.cells (madeCells z.cells (n * k)) ty)) := by
 have hb : (i0.bytes : Int) * (n : Int) ≤ 281474976710656 := by
  have : i0.bytes * n ≤ 200 * 1000 := Nat.mul_le_mul hb hn
  have h2 : ((i0.bytes * n : Nat) : Int) ≤ 200000 := by omega
  rw [Int.natCast_mul] at h2
  omega
 have := run_make (P := Tryz.prog) W ts ty i0 _ hu hi hz .i64 .i64 n n (by omega) (by omega) hb (by omega)
 rw [this, Int.toNat_natCast, hk]
theorem Tryz.info_poly : (Tryz.prog.info? 176).map (fun i => (i.zero, i.size, i.bytes)) = some (some (.agg #[.int .i64 0, .bool false, .slice none 0 0, .slice none 0 0]), 4, 64) := by kernel_rfl
theorem Tryz.info_elem : (Tryz.prog.info? 70).map (fun i => (i.zero, i.size, i.bytes)) = some (some (.agg #[.int .i64 0, .bool false, .slice none 0 0, .bool false, .slice none 0 0, .slice none 0 0, .slice none 0 0]), 7, 120) := by kernel_rfl
theorem Tryz.info_frac : (Tryz.prog.info? 178).map (fun i => (i.zero, i.size, i.bytes)) = some (some (.agg #[.int .i64 0, .bool false, .slice none 0 0, .slice none 0 0, .int .i64 0, .bool false, .slice none 0 0, .slice none 0 0]), 8, 128) := by kernel_rfl
theorem Z4J (n : Nat) (c : List Value) (hn : n ≤ 1000) (hc : (madeCells #[Value.int .i64 0, .bool false, .slice none 0 0, .slice none 0 0] (n * 4)) = c.toArray) (W : World) : (Instr.makeSlice 174 (.int .i64 (n : Int)) (.int .i64 (n : Int))).run Tryz.prog W = .ok (.slice (some ⟨W.heap.size, 0, none⟩) n n) (W.alloc (.cells c.toArray 176)) := by
 obtain ⟨i0, hi, hz0, hz1, hz2⟩ := info_parts Tryz.info_poly
 have := Z6L _ _ i0 _ 4 Tryz.underlying174 hi hz0 hz1 (by omega) n hn W
 rw [this, ← hc]; rfl
theorem Zbo (n : Nat) (c : List Value) (hn : n ≤ 1000) (hc : (madeCells #[Value.int .i64 0, .bool false, .slice none 0 0, .slice none 0 0, .int .i64 0, .bool false, .slice none 0 0, .slice none 0 0] (n * 8)) = c.toArray) (W : World) : (Instr.makeSlice 226 (.int .i64 (n : Int)) (.int .i64 (n : Int))).run Tryz.prog W = .ok (.slice (some ⟨W.heap.size, 0, none⟩) n n) (W.alloc (.cells c.toArray 178)) := by
 obtain ⟨i0, hi, hz0, hz1, hz2⟩ := info_parts Tryz.info_frac
 have := Z6L _ _ i0 _ 8 Tryz.underlying226 hi hz0 hz1 (by omega) n hn W
 rw [this, ← hc]; rfl
example (W : World) := Z4J 2 [Value.int .i64 0, .bool false, .slice none 0 0, .slice none 0 0, Value.int .i64 0, .bool false, .slice none 0 0, .slice none 0 0] (by decide) (by kernel_rfl) W
theorem BC1 (w : World) (g : Nat) {a0 : Value} (h : BK w g #[a0] := by with_reducible (repeat (first | assumption | (refine BK.new _ _ ?_; first | rfl | (simp only [SZ]; done)) | refine BK.alloc ?_ _ | refine BK.drew ?_ | apply BK.st8 | apply BK.st8a | apply BK.st8b | apply BK.st7 | apply BK.st4 | apply BK.st3 | apply BK.st2 | apply BK.st1' | refine BK.other ?_ (by simp only; omega) _ | refine BK.ext ?_ (by assumption)))) : BK w g #[a0] ∧ g < w.heap.size ∧ w.cell? ⟨g, 0, none⟩ = some a0 ∧ ∀ o, w.frozen? ⟨g, o, none⟩ = false := ⟨h, h.lt, h.cell 0, h.frozen⟩
theorem BC2 (w : World) (g : Nat) {a0 a1 : Value} (h : BK w g #[a0, a1] := by with_reducible (repeat (first | assumption | (refine BK.new _ _ ?_; first | rfl | (simp only [SZ]; done)) | refine BK.alloc ?_ _ | refine BK.drew ?_ | apply BK.st8 | apply BK.st8a | apply BK.st8b | apply BK.st7 | apply BK.st4 | apply BK.st3 | apply BK.st2 | apply BK.st1' | refine BK.other ?_ (by simp only; omega) _ | refine BK.ext ?_ (by assumption)))) : BK w g #[a0, a1] ∧ g < w.heap.size ∧ w.cell? ⟨g, 0, none⟩ = some a0 ∧ w.cell? ⟨g, 1, none⟩ = some a1 ∧ ∀ o, w.frozen? ⟨g, o, none⟩ = false := ⟨h, h.lt, h.cell 0, h.cell 1, h.frozen⟩
theorem BC3 (w : World) (g : Nat) {a0 a1 a2 : Value} (h : BK w g #[a0, a1, a2] := by with_reducible (repeat (first | assumption | (refine BK.new _ _ ?_; first | rfl | (simp only [SZ]; done)) | refine BK.alloc ?_ _ | refine BK.drew ?_ | apply BK.st8 | apply BK.st8a | apply BK.st8b | apply BK.st7 | apply BK.st4 | apply BK.st3 | apply BK.st2 | apply BK.st1' | refine BK.other ?_ (by simp only; omega) _ | refine BK.ext ?_ (by assumption)))) : BK w g #[a0, a1, a2] ∧ g < w.heap.size ∧ w.cell? ⟨g, 0, none⟩ = some a0 ∧ w.cell? ⟨g, 1, none⟩ = some a1 ∧ w.cell? ⟨g, 2, none⟩ = some a2 ∧ ∀ o, w.frozen? ⟨g, o, none⟩ = false := ⟨h, h.lt, h.cell 0, h.cell 1, h.cell 2, h.frozen⟩
theorem BC4 (w : World) (g : Nat) {a0 a1 a2 a3 : Value} (h : BK w g #[a0, a1, a2, a3] := by with_reducible (repeat (first | assumption | (refine BK.new _ _ ?_; first | rfl | (simp only [SZ]; done)) | refine BK.alloc ?_ _ | refine BK.drew ?_ | apply BK.st8 | apply BK.st8a | apply BK.st8b | apply BK.st7 | apply BK.st4 | apply BK.st3 | apply BK.st2 | apply BK.st1' | refine BK.other ?_ (by simp only; omega) _ | refine BK.ext ?_ (by assumption)))) : BK w g #[a0, a1, a2, a3] ∧ g < w.heap.size ∧ w.cell? ⟨g, 0, none⟩ = some a0 ∧ w.cell? ⟨g, 1, none⟩ = some a1 ∧ w.cell? ⟨g, 2, none⟩ = some a2 ∧ w.cell? ⟨g, 3, none⟩ = some a3 ∧ ∀ o, w.frozen? ⟨g, o, none⟩ = false := ⟨h, h.lt, h.cell 0, h.cell 1, h.cell 2, h.cell 3, h.frozen⟩
theorem BC5 (w : World) (g : Nat) {a0 a1 a2 a3 a4 : Value} (h : BK w g #[a0, a1, a2, a3, a4] := by with_reducible (repeat (first | assumption | (refine BK.new _ _ ?_; first | rfl | (simp only [SZ]; done)) | refine BK.alloc ?_ _ | refine BK.drew ?_ | apply BK.st8 | apply BK.st8a | apply BK.st8b | apply BK.st7 | apply BK.st4 | apply BK.st3 | apply BK.st2 | apply BK.st1' | refine BK.other ?_ (by simp only; omega) _ | refine BK.ext ?_ (by assumption)))) : BK w g #[a0, a1, a2, a3, a4] ∧ g < w.heap.size ∧ w.cell? ⟨g, 0, none⟩ = some a0 ∧ w.cell? ⟨g, 1, none⟩ = some a1 ∧ w.cell? ⟨g, 2, none⟩ = some a2 ∧ w.cell? ⟨g, 3, none⟩ = some a3 ∧ w.cell? ⟨g, 4, none⟩ = some a4 ∧ ∀ o, w.frozen? ⟨g, o, none⟩ = false := ⟨h, h.lt, h.cell 0, h.cell 1, h.cell 2, h.cell 3, h.cell 4, h.frozen⟩
theorem BC7 (w : World) (g : Nat) {a0 a1 a2 a3 a4 a5 a6 : Value} (h : BK w g #[a0, a1, a2, a3, a4, a5, a6] := by with_reducible (repeat (first | assumption | (refine BK.new _ _ ?_; first | rfl | (simp only [SZ]; done)) | refine BK.alloc ?_ _ | refine BK.drew ?_ | apply BK.st8 | apply BK.st8a | apply BK.st8b | apply BK.st7 | apply BK.st4 | apply BK.st3 | apply BK.st2 | apply BK.st1' | refine BK.other ?_ (by simp only; omega) _ | refine BK.ext ?_ (by assumption)))) : BK w g #[a0, a1, a2, a3, a4, a5, a6] ∧ g < w.heap.size ∧ w.cell? ⟨g, 0, none⟩ = some a0 ∧ w.cell? ⟨g, 1, none⟩ = some a1 ∧ w.cell? ⟨g, 2, none⟩ = some a2 ∧ w.cell? ⟨g, 3, none⟩ = some a3 ∧ w.cell? ⟨g, 4, none⟩ = some a4 ∧ w.cell? ⟨g, 5, none⟩ = some a5 ∧ w.cell? ⟨g, 6, none⟩ = some a6 ∧ ∀ o, w.frozen? ⟨g, o, none⟩ = false := ⟨h, h.lt, h.cell 0, h.cell 1, h.cell 2, h.cell 3, h.cell 4, h.cell 5, h.cell 6, h.frozen⟩
theorem BC8 (w : World) (g : Nat) {a0 a1 a2 a3 a4 a5 a6 a7 : Value} (h : BK w g #[a0, a1, a2, a3, a4, a5, a6, a7] := by with_reducible (repeat (first | assumption | (refine BK.new _ _ ?_; first | rfl | (simp only [SZ]; done)) | refine BK.alloc ?_ _ | refine BK.drew ?_ | apply BK.st8 | apply BK.st8a | apply BK.st8b | apply BK.st7 | apply BK.st4 | apply BK.st3 | apply BK.st2 | apply BK.st1' | refine BK.other ?_ (by simp only; omega) _ | refine BK.ext ?_ (by assumption)))) : BK w g #[a0, a1, a2, a3, a4, a5, a6, a7] ∧ g < w.heap.size ∧ w.cell? ⟨g, 0, none⟩ = some a0 ∧ w.cell? ⟨g, 1, none⟩ = some a1 ∧ w.cell? ⟨g, 2, none⟩ = some a2 ∧ w.cell? ⟨g, 3, none⟩ = some a3 ∧ w.cell? ⟨g, 4, none⟩ = some a4 ∧ w.cell? ⟨g, 5, none⟩ = some a5 ∧ w.cell? ⟨g, 6, none⟩ = some a6 ∧ w.cell? ⟨g, 7, none⟩ = some a7 ∧ ∀ o, w.frozen? ⟨g, o, none⟩ = false := ⟨h, h.lt, h.cell 0, h.cell 1, h.cell 2, h.cell 3, h.cell 4, h.cell 5, h.cell 6, h.cell 7, h.frozen⟩
theorem B40 (w' w : World) {a0 a1 a2 a3 : Value} (h : BK w' (w.heap.size) #[a0, a1, a2, a3] := by exact BY) : BK w' (w.heap.size) #[a0, a1, a2, a3] ∧ w.heap.size < w'.heap.size ∧ zC w' (w.heap.size) 0 a0 ∧ zC w' (w.heap.size) 1 a1 ∧ zC w' (w.heap.size) 2 a2 ∧ zC w' (w.heap.size) 3 a3 ∧ ∀ o, w'.frozen? ⟨w.heap.size, o, none⟩ = false := BC4 w' _ h
theorem B41 (w' w : World) {a0 a1 a2 a3 : Value} (h : BK w' (w.heap.size + 1) #[a0, a1, a2, a3] := by exact BY) : BK w' (w.heap.size + 1) #[a0, a1, a2, a3] ∧ w.heap.size + 1 < w'.heap.size ∧ zC w' (w.heap.size + 1) 0 a0 ∧ zC w' (w.heap.size + 1) 1 a1 ∧ zC w' (w.heap.size + 1) 2 a2 ∧ zC w' (w.heap.size + 1) 3 a3 ∧ ∀ o, w'.frozen? ⟨w.heap.size + 1, o, none⟩ = false := BC4 w' _ h
theorem B42 (w' w : World) {a0 a1 a2 a3 : Value} (h : BK w' (w.heap.size + 1 + 1) #[a0, a1, a2, a3] := by exact BY) : BK w' (w.heap.size + 1 + 1) #[a0, a1, a2, a3] ∧ w.heap.size + 1 + 1 < w'.heap.size ∧ zC w' (w.heap.size + 1 + 1) 0 a0 ∧ zC w' (w.heap.size + 1 + 1) 1 a1 ∧ zC w' (w.heap.size + 1 + 1) 2 a2 ∧ zC w' (w.heap.size + 1 + 1) 3 a3 ∧ ∀ o, w'.frozen? ⟨w.heap.size + 1 + 1, o, none⟩ = false := BC4 w' _ h
theorem B80 (w' w : World) {a0 a1 a2 a3 a4 a5 a6 a7 : Value} (h : BK w' (w.heap.size) #[a0, a1, a2, a3, a4, a5, a6, a7] := by exact BY) : BK w' (w.heap.size) #[a0, a1, a2, a3, a4, a5, a6, a7] ∧ w.heap.size < w'.heap.size ∧ zC w' (w.heap.size) 0 a0 ∧ zC w' (w.heap.size) 1 a1 ∧ zC w' (w.heap.size) 2 a2 ∧ zC w' (w.heap.size) 3 a3 ∧ zC w' (w.heap.size) 4 a4 ∧ zC w' (w.heap.size) 5 a5 ∧ zC w' (w.heap.size) 6 a6 ∧ zC w' (w.heap.size) 7 a7 ∧ ∀ o, w'.frozen? ⟨w.heap.size, o, none⟩ = false := BC8 w' _ h
theorem B81 (w' w : World) {a0 a1 a2 a3 a4 a5 a6 a7 : Value} (h : BK w' (w.heap.size + 1) #[a0, a1, a2, a3, a4, a5, a6, a7] := by exact BY) : BK w' (w.heap.size + 1) #[a0, a1, a2, a3, a4, a5, a6, a7] ∧ w.heap.size + 1 < w'.heap.size ∧ zC w' (w.heap.size + 1) 0 a0 ∧ zC w' (w.heap.size + 1) 1 a1 ∧ zC w' (w.heap.size + 1) 2 a2 ∧ zC w' (w.heap.size + 1) 3 a3 ∧ zC w' (w.heap.size + 1) 4 a4 ∧ zC w' (w.heap.size + 1) 5 a5 ∧ zC w' (w.heap.size + 1) 6 a6 ∧ zC w' (w.heap.size + 1) 7 a7 ∧ ∀ o, w'.frozen? ⟨w.heap.size + 1, o, none⟩ = false := BC8 w' _ h
theorem B82 (w' w : World) {a0 a1 a2 a3 a4 a5 a6 a7 : Value} (h : BK w' (w.heap.size + 1 + 1) #[a0, a1, a2, a3, a4, a5, a6, a7] := by exact BY) : BK w' (w.heap.size + 1 + 1) #[a0, a1, a2, a3, a4, a5, a6, a7] ∧ w.heap.size + 1 + 1 < w'.heap.size ∧ zC w' (w.heap.size + 1 + 1) 0 a0 ∧ zC w' (w.heap.size + 1 + 1) 1 a1 ∧ zC w' (w.heap.size + 1 + 1) 2 a2 ∧ zC w' (w.heap.size + 1 + 1) 3 a3 ∧ zC w' (w.heap.size + 1 + 1) 4 a4 ∧ zC w' (w.heap.size + 1 + 1) 5 a5 ∧ zC w' (w.heap.size + 1 + 1) 6 a6 ∧ zC w' (w.heap.size + 1 + 1) 7 a7 ∧ ∀ o, w'.frozen? ⟨w.heap.size + 1 + 1, o, none⟩ = false := BC8 w' _ h
theorem BT {w : World} {g : Nat} {c : Array Value} (h : BK w g c := by (with_reducible (repeat (first | assumption | (refine BK.new _ _ ?_; first | rfl | (simp only [SZ]; done)) | refine BK.alloc ?_ _ | refine BK.drew ?_ | apply BK.st8 | apply BK.st4 | apply BK.st2 | refine BK.other ?_ (by simp only; omega) _ | refine BK.ext ?_ (by assumption)))); done) : BK w g c := h
theorem rB {V : QC → QC → Value} {w : World} {x y : Rat} {R : Ending → World → Prop} (k : ∀ w' p q, Hid (p.At w' x) → Hid (q.At w' y) → Ext w w' → R (.returned (V p q)) w') : ∀ e w', (∃ p q : QC, e = .returned (V p q) ∧ p.At w' x ∧ q.At w' y ∧ Ext w w') → R e w' :=
 fun e w' h => by obtain ⟨p, q, rfl, h1, h2, h3⟩ := h; exact k _ _ _ (Lib.hid h1) (Lib.hid h2) h3
theorem rBz {V : QC → QC → Value} {w : World} {l : Nat} {x y : Rat} {R : Ending → World → Prop} (k : ∀ w' p q, Hid (p.At w' x) → Hid (q.At w' y) → Ext w w' → l ≤ w'.heap.size → R (.returned (V p q)) w') (e : w.heap.size = l := by first | (simp only [SZ]; rfl) | rfl) : ∀ e w', (∃ p q : QC, e = .returned (V p q) ∧ p.At w' x ∧ q.At w' y ∧ Ext w w') → R e w' :=
 rB (fun w' p q h1 h2 h3 => k w' p q h1 h2 h3 (e ▸ h3.size))
def Z2W (w : World) (x : Int) (e : Ending) (w' : World) : Prop := ∃ s A n c, e = .returned (.tuple #[.agg #[.bool s, .slice A n c], .int .i64 0]) ∧ IAt w' s A n c x ∧ Ext w w'
theorem Z4j {a b : Int} (h : a ∣ b) (hb : b ≠ 0) : wl a ≤ wl b := ZG (Nat.le_of_dvd (by omega) (Int.natAbs_dvd_natAbs.2 h))
theorem Z55 (m : Nat) : Int.tmod (m : Int) 2 = ((m % 2 : Nat) : Int) := by rw [Int.tmod_eq_emod_of_nonneg (by omega)]; omega
theorem Zah (m : Nat) : Int.tdiv (m : Int) 2 = ((m / 2 : Nat) : Int) := by rw [Int.tdiv_eq_ediv_of_nonneg (by omega)]; omega
theorem Z3P (m : Nat) (h : m ≤ 9223372036854775807) : IntKind.i64.wrap (Int.tdiv (m : Int) 2) = ((m / 2 : Nat) : Int) := by
 rw [Zah, IntKind.wrap_i64]; omega
theorem Z6K (o x : Int) (m : Nat) (h : m % 2 = 1) : o * x * (x * x) ^ (m / 2) = o * x ^ m := by
 have e : m = 2 * (m / 2) + 1 := by omega
 conv => rhs; rw [e, Int.pow_succ, Int.pow_mul, Int.pow_succ, Int.pow_succ, Int.pow_zero, Int.one_mul]
 rw [Int.mul_assoc, Int.mul_comm x]
theorem Z59 (o x : Int) (m : Nat) (h : m % 2 = 0) : o * (x * x) ^ (m / 2) = o * x ^ m := by
 have e : m = 2 * (m / 2) := by omega
 conv => rhs; rw [e, Int.pow_mul, Int.pow_succ, Int.pow_succ, Int.pow_zero, Int.one_mul]
theorem Z6S {o x R : Int} {m : Nat} (h : o * x ^ m = R) : o ∣ R := ⟨x ^ m, h.symm⟩
theorem Z5a {o x R : Int} {m : Nat} (h : o * x ^ m = R) (hm : m ≠ 0) : x ∣ R := by
 obtain ⟨j, rfl⟩ : ∃ j, m = j + 1 := ⟨m - 1, by omega⟩
 exact ⟨o * x ^ j, by rw [← h, Int.pow_succ, ← Int.mul_assoc, Int.mul_comm]⟩
theorem Z5I (s : Bool) (A : Option Addr) (n c : Nat) (x : Int) (k : Nat) (w : World) (h : IAt w s A n c x) (hx : x = 1) (hk : k ≤ 1048576) (hs : 2 * wl (x ^ k) + 8 < Z8) (hn : n ≤ Z8) :
  Ca 219 #[.agg #[.bool s, .slice A n c], .int .i64 (k : Int)] w (Z2W w (x ^ k)) := by
 obtain ⟨R, hR⟩ : ∃ R, x ^ k = R := ⟨_, rfl⟩
 rw [hR] at hs ⊢
 have HR := zH hR
 clear hR
 subst hx
 have HB := zH (fun W (k1 : IAt W s A n c 1) => ZU s A n c 1 W k1 hn)
 have hR1 : R = 1 := by rw [← HR.out]; exact Int.one_pow
 have HR0 : Hid (R ≠ 0) := by show R ≠ 0; omega
 rw [show nb (1 : Int).natAbs = 1 from by decide] at HB
 have H1 := zH h
 clear h
 go_enter func219, ntmps219
 go_wp2_with (
  first
  | (go_at_call 125; (with_reducible refine (Z0p s A n c 1 _ (H1.out.ext EX) hn).mono ?_); rintro e w1 ⟨rfl, hbw1⟩; (try clear hc hf); obtain ⟨hBw1, hc, hf⟩ := EC2 w1 w)
  | (go_at_call 156; (with_reducible refine (HB.out _ (H1.out.ext EX)).mono ?_); rintro e w2 ⟨rfl, hbw2⟩; (try clear hc hf); obtain ⟨hBw2, hc, hf⟩ := EC2 w2 w))
 go_cut [6, 7] (fun p6 p7 wx => ∃ g6 g7 sa Aa na ca, p6 = .pointer (some ⟨g6, 0, none⟩) ∧ p7 = .pointer (some ⟨g7, 0, none⟩) ∧ Loc wx g6 sa Aa na ca ∧ Loc wx g7 s A n c ∧ g6 ≠ g7 ∧ w.heap.size + 2 ≤ g6 ∧ w.heap.size + 2 ≤ g7 ∧ IAt wx sa Aa na ca 1 ∧ Loc wx w.heap.size s A n c ∧ IsL wx (w.heap.size + 1) ∧ Ext w wx)
 case first =>
  have m0 : zC w2 w.heap.size 0 (.bool s) := by simp [go_sem, hc]
  have m1 : zC w2 w.heap.size 1 (.slice A n c) := by simp [go_sem, hc]
  have hL2 : Loc w2 w.heap.size s A n c := by exact LC
  have hR4 : IsL w2 (w.heap.size + 1) := by exact LC
  have hszB : w.heap.size + 2 ≤ w2.heap.size := by have := hBw2.size; simpa only [World.size_alloc] using this
  have zb : w.heap.size < w2.heap.size := by omega
  have zb1 : w.heap.size + 1 < w2.heap.size := by omega
  go_region_held3 (fun w' => zC w' w.heap.size 0 (.bool s) ∧ zC w' w.heap.size 1 (.slice A n c)) (first | (exact HXC) | (simp [go_sem, *]; done) | simp [go_sem, hc]) ((go_at_call 148; (with_reducible refine (Zk 1 _ (by omega) (by omega)).mono ?_); rintro e w6 ⟨s6, A6, n6, c6, rfl, hI6, hb6⟩; obtain ⟨hc6, hf6⟩ := hb6.cells; (try simp only [SA, Nat.add_assoc, Nat.reduceAdd] at hc6 hf6); have hxl := hb6; have HI6 := zH hI6; clear hI6; have hx6 : Ext w2 w6 := EX; have k0 := hx6.cell m0; have k1 := hx6.cell m1; have hz6 := hb6.size; (try simp only [World.size_alloc, Z3i] at hz6); have z0 : w.heap.size < w6.heap.size := (by omega); (try have z1 : w2.heap.size < w6.heap.size := (by omega)); (try have z2 : w2.heap.size + 1 < w6.heap.size := (by omega))))
  all_goals clear hxl hx6
  all_goals go_wp2_with fail
  all_goals go_meet
  all_goals go_light
  all_goals (first | exact ⟨_, _, s6, A6, n6, c6, rfl, rfl, LC, LC, (by omega), (by omega), (by omega), HI6.out.keep KL, LC, LC, EX⟩ | ((repeat apply Exists.intro); refine ⟨?_, rfl⟩; exact ⟨_, _, s6, A6, n6, c6, rfl, rfl, LC, LC, (by omega), (by omega), (by omega), HI6.out.keep KL, LC, LC, EX⟩))
 case rest =>
  obtain ⟨g6, g7, sa, Aa, na, ca, rfl, rfl, hL6, hL7, hne, hg6, hg7, hIa, hL2, hR4, hxw⟩ := hcut
  have hne' : g7 ≠ g6 := fun e => hne e.symm
  have HIA := zH hIa
  have l0 := hL2.cell0
  have l1 := hL2.cell1
  clear hIa hc hf hbw1 hBw2 hbw2
  obtain ⟨k', hk', hke⟩ : ∃ k' : Nat, k' ≤ 4 ∧ (k : Int) % 2 + 2 * min ((k : Int) / 2) 1 = (k' : Int) := ⟨k % 2 + 2 * min (k / 2) 1, by omega, by omega⟩
  go_wp2_with (go_at_call 156; (with_reducible refine (HB.out _ (H1.out.ext EX)).mono ?_); rintro e w5 ⟨rfl, hb5⟩)
  try rw [hke]
  have hx5 : Ext w w5 := by exact EX
  have HI : Hid (∃ (m : Nat) (y o : Int) (sa : Bool) (Aa : Option Addr) (na ca : Nat) (sb : Bool) (Ab : Option Addr) (nb' cb : Nat), Value.int .i64 (k' : Int) = .int .i64 (m : Int) ∧ m ≤ 1048578 ∧ Loc w5 g6 sa Aa na ca ∧ Loc w5 g7 sb Ab nb' cb ∧ Hid (IAt w5 sa Aa na ca o) ∧ Hid (IAt w5 sb Ab nb' cb y) ∧ Hid (o * y ^ m = R) ∧ IsL w5 (w.heap.size + 1) ∧ Ext w w5) :=
   ⟨k', 1, 1, sa, Aa, na, ca, s, A, n, c, rfl, by omega, hL6.ext hb5, hL7.ext hb5, HIA.out.ext hb5, H1.out.ext hx5, (by show _ = _; rw [Int.one_pow, hR1]; rfl), hR4.ext hb5, hx5⟩
  clear hL6 hL7 hL2 hR4 hxw l0 l1 H1 HIA hb5 hx5 hke
  go_loopw [1] (fun nv wr => ∃ (m : Nat) (y o : Int) (sa : Bool) (Aa : Option Addr) (na ca : Nat) (sb : Bool) (Ab : Option Addr) (nb' cb : Nat), nv = .int .i64 (m : Int) ∧ m ≤ 1048578 ∧ Loc wr g6 sa Aa na ca ∧ Loc wr g7 sb Ab nb' cb ∧ Hid (IAt wr sa Aa na ca o) ∧ Hid (IAt wr sb Ab nb' cb y) ∧ Hid (o * y ^ m = R) ∧ IsL wr (w.heap.size + 1) ∧ Ext w wr) (fun nv _ => (intOf nv).toNat)
  case atStart => exact HI.out
  case round =>
   obtain ⟨m, y, o, sa, Aa, na, ca, sb, Ab, nb', cb, rfl, hm, hLa, hLb, HA, HB, HM, hR4, hxw⟩ := hrel
   clear HI
   have c6 := hLa.cell0
   have c6' := hLa.cell1
   have c7 := hLb.cell0
   have c7' := hLb.cell1
   have f6 := hLa.frozen
   have f7 := hLb.frozen
   have i6 : IsL wr g6 := ⟨_, _, _, _, hLa⟩
   have i7 : IsL wr g7 := ⟨_, _, _, _, hLb⟩
   have hw2 := hxw.size
   have hna : na ≤ wl R := by rw [HA.out.wl]; exact Z4j (Z6S HM.out) HR0.out
   by_cases hm0 : m = 0
   ·subst hm0
    have hf4 : ∀ o, wr.frozen? ⟨w.heap.size + 1, o, none⟩ = false := by obtain ⟨_, _, _, _, h⟩ := hR4; exact h.frozen
    obtain ⟨s4, A4, n4, c4, h4⟩ := hR4
    have c4' := h4.cell0
    have c4'' := h4.cell1
    go_wp2_with fail
    have h4' : IsL wr (w.heap.size + 1) := ⟨_, _, _, _, h4⟩
    refine bodyPost_ret (v := .tuple #[.agg #[.bool sa, .slice Aa na ca], .int .i64 0]) (by simp [results, results219, go_sem, c4', c4'', Z6]) rfl ⟨_, _, _, _, rfl, ?_, EX⟩
    have e : o = R := by have := HM.out; rw [Int.pow_zero, Int.mul_one] at this; exact this
    exact (e ▸ HA.out).keep KL
   ·have hnb : nb' ≤ wl R := by rw [HB.out.wl]; exact Z4j (Z5a HM.out hm0) HR0.out
    have hp : 0 < (m : Int) := by omega
    have et := Z55 m
    have em : ((m : Int) % 2) = ((m % 2 : Nat) : Int) := by omega
    have ev := Z3P m (by omega)
    have hlt : m / 2 < m := by omega
    by_cases hm1 : m = 1
    ·subst hm1
     go_wp2_with (go_at_call 131; (with_reducible refine (Zt sa sb Aa Ab na ca nb' cb o y _ (HA.out.ext EX) (HB.out.ext EX) (by omega)).mono ?_); rintro e w8 ⟨s8, A8, n8, c8, rfl, hI8, hb8⟩; have HI8 := zH hI8; clear hI8; have p6 := (hLa.ext hb8).cell0; have p6' := (hLa.ext hb8).cell1; have q6 := (hLa.ext hb8).frozen)
     go_roundw
     case measure => simp [intOf]
     case rel => exact ⟨0, y, o * y, _, _, _, _, _, _, _, _, rfl, by omega, LC, LC, HI8.out.keep KL, HB.out.keep KL, (by have := HM.out; rw [Int.pow_succ, Int.pow_zero, Int.one_mul] at this; show _ = _; rw [Int.pow_zero, Int.mul_one]; exact this), LC, EX⟩
    ·by_cases ho : m % 2 = 1
     ·rw [ho] at em et
      have hm2 : 1 < (m : Int) := by omega
      have hv0 : 0 < m / 2 := by omega
      have hv1 : ((m / 2 : Nat) : Int) > 0 := by omega
      go_wp2_with (
       first
       | (go_at_call 131; (with_reducible refine (Zt sa sb Aa Ab na ca nb' cb o y _ (HA.out.ext EX) (HB.out.ext EX) (by omega)).mono ?_); rintro e w8 ⟨s8, A8, n8, c8, rfl, hI8, hb8⟩; have HI8 := zH hI8; clear hI8; have p6 := (hLa.ext hb8).cell0; have p6' := (hLa.ext hb8).cell1; have q6 := (hLa.ext hb8).frozen; have p7 := (hLb.ext hb8).cell0; have p7' := (hLb.ext hb8).cell1)
       | (go_at_call 131; (with_reducible refine (Zt sb sb Ab Ab nb' cb nb' cb y y _ (HB.out.keep KL) (HB.out.keep KL) (by omega)).mono ?_); rintro e w9 ⟨s9, A9, n9, c9, rfl, hI9, hb9⟩; have HI9 := zH hI9; clear hI9; have L7 : Loc w9 g7 sb Ab nb' cb := LC; have p7 := L7.cell0; have p7' := L7.cell1; have q7 := L7.frozen))
      go_roundw
      case measure => simp [intOf]; omega
      case rel => exact ⟨m / 2, y * y, o * y, _, _, _, _, _, _, _, _, rfl, by omega, LC, LC, HI8.out.keep KL, HI9.out.keep KL, (by show _ = _; rw [Z6K _ _ _ ho]; exact HM.out), LC, EX⟩
     ·have ho' : m % 2 = 0 := by omega
      rw [ho'] at em et
      have hm2 : 1 < (m : Int) := by omega
      have hv0 : 0 < m / 2 := by omega
      have hv1 : ((m / 2 : Nat) : Int) > 0 := by omega
      go_wp2_with (go_at_call 131; (with_reducible refine (Zt sb sb Ab Ab nb' cb nb' cb y y _ (HB.out.ext EX) (HB.out.ext EX) (by omega)).mono ?_); rintro e w9 ⟨s9, A9, n9, c9, rfl, hI9, hb9⟩; have HI9 := zH hI9; clear hI9; have p7 := (hLb.ext hb9).cell0; have p7' := (hLb.ext hb9).cell1; have q7 := (hLb.ext hb9).frozen)
      go_roundw
      case measure => simp [intOf]; omega
      case rel => exact ⟨m / 2, y * y, o, _, _, _, _, _, _, _, _, rfl, by omega, LC, LC, HA.out.keep KL, HI9.out.keep KL, (by show _ = _; rw [Z59 _ _ _ ho']; exact HM.out), LC, EX⟩
theorem Z5J (s : Bool) (A : Option Addr) (n c : Nat) (x : Int) (k : Nat) (w : World) (h : IAt w s A n c x) (hx : 1 < nb x.natAbs ∧ k * nb x.natAbs ≤ 1048576) (hk : k ≤ 1048576) (hs : 2 * wl (x ^ k) + 8 < Z8) (hn : n ≤ Z8) :
  Ca 219 #[.agg #[.bool s, .slice A n c], .int .i64 (k : Int)] w (Z2W w (x ^ k)) := by
 obtain ⟨R, hR⟩ : ∃ R, x ^ k = R := ⟨_, rfl⟩
 rw [hR] at hs ⊢
 have HR := zH hR
 clear hR
 have hx0 : x ≠ 0 := by rintro rfl; have := hx.1; simp [nb] at this
 have HR0 : Hid (R ≠ 0) := by show R ≠ 0; rw [← HR.out]; exact Int.pow_ne_zero hx0
 have HB := zH (fun W (k1 : IAt W s A n c x) => ZU s A n c x W k1 hn)
 obtain ⟨b, hb⟩ : ∃ b, nb x.natAbs = b := ⟨_, rfl⟩
 rw [hb] at HB hx
 obtain ⟨hb1, hb2⟩ := hx
 have hb1' : 1 < (b : Int) := by omega
 have hbz : ((b : Int) == 0) = false := by simp; omega
 have hbl : ¬ (b : Int) ≤ 1 := by omega
 have hb2' : ¬ (b : Int) < 2 := by omega
 have hkq : k ≤ 1048576 / b := (Nat.le_div_iff_mul_le (by omega)).2 hb2
 have hv1 : 1048576 / b ≤ 1048576 := Nat.div_le_self _ _
 have hv2 : (1048576 : Int) / (b : Int) = ((1048576 / b : Nat) : Int) := by rw [Int.natCast_ediv]; rfl
 obtain ⟨v, hv⟩ : ∃ v, 1048576 / b = v := ⟨_, rfl⟩
 rw [hv] at hkq hv1 hv2
 have hq : IntKind.i64.wrap (Int.tdiv 1048576 (b : Int)) = (v : Int) := by
  rw [Int.tdiv_eq_ediv_of_nonneg (by decide), IntKind.wrap_i64, hv2]; clear hv hv2; omega
 have hkv : ¬ v < k := by omega
 have H1 := zH h
 clear h hb hb2 hv hv2
 go_enter func219, ntmps219
 go_wp2_with (
  first
  | (go_at_call 125; (with_reducible refine (Z0p s A n c x _ (H1.out.ext EX) hn).mono ?_); rintro e w1 ⟨rfl, hbw1⟩; (try clear hc hf); obtain ⟨hBw1, hc, hf⟩ := EC2 w1 w)
  | (go_at_call 156; (with_reducible refine (HB.out _ (H1.out.ext EX)).mono ?_); rintro e w2 ⟨rfl, hbw2⟩; (try clear hc hf); obtain ⟨hBw2, hc, hf⟩ := EC2 w2 w))
 go_cut [6, 7] (fun p6 p7 wx => ∃ g6 g7 sa Aa na ca, p6 = .pointer (some ⟨g6, 0, none⟩) ∧ p7 = .pointer (some ⟨g7, 0, none⟩) ∧ Loc wx g6 sa Aa na ca ∧ Loc wx g7 s A n c ∧ g6 ≠ g7 ∧ w.heap.size + 2 ≤ g6 ∧ w.heap.size + 2 ≤ g7 ∧ IAt wx sa Aa na ca 1 ∧ Loc wx w.heap.size s A n c ∧ IsL wx (w.heap.size + 1) ∧ Ext w wx)
 case first =>
  have m0 : zC w2 w.heap.size 0 (.bool s) := by simp [go_sem, hc]
  have m1 : zC w2 w.heap.size 1 (.slice A n c) := by simp [go_sem, hc]
  have hL2 : Loc w2 w.heap.size s A n c := by exact LC
  have hR4 : IsL w2 (w.heap.size + 1) := by exact LC
  have hszB : w.heap.size + 2 ≤ w2.heap.size := by have := hBw2.size; simpa only [World.size_alloc] using this
  have zb : w.heap.size < w2.heap.size := by omega
  have zb1 : w.heap.size + 1 < w2.heap.size := by omega
  go_region_held3 (fun w' => zC w' w.heap.size 0 (.bool s) ∧ zC w' w.heap.size 1 (.slice A n c)) (first | (exact HXC) | (simp [go_sem, *]; done) | simp [go_sem, hc]) ((go_at_call 148; (with_reducible refine (Zk 1 _ (by omega) (by omega)).mono ?_); rintro e w6 ⟨s6, A6, n6, c6, rfl, hI6, hb6⟩; obtain ⟨hc6, hf6⟩ := hb6.cells; (try simp only [SA, Nat.add_assoc, Nat.reduceAdd] at hc6 hf6); have hxl := hb6; have HI6 := zH hI6; clear hI6; have hx6 : Ext w2 w6 := EX; have k0 := hx6.cell m0; have k1 := hx6.cell m1; have hz6 := hb6.size; (try simp only [World.size_alloc, Z3i] at hz6); have z0 : w.heap.size < w6.heap.size := (by omega); (try have z1 : w2.heap.size < w6.heap.size := (by omega)); (try have z2 : w2.heap.size + 1 < w6.heap.size := (by omega))))
  all_goals clear hxl hx6
  all_goals go_wp2_with fail
  all_goals go_meet
  all_goals go_light
  all_goals (first | exact ⟨_, _, s6, A6, n6, c6, rfl, rfl, LC, LC, (by omega), (by omega), (by omega), HI6.out.keep KL, LC, LC, EX⟩ | ((repeat apply Exists.intro); refine ⟨?_, rfl⟩; exact ⟨_, _, s6, A6, n6, c6, rfl, rfl, LC, LC, (by omega), (by omega), (by omega), HI6.out.keep KL, LC, LC, EX⟩))
 case rest =>
  obtain ⟨g6, g7, sa, Aa, na, ca, rfl, rfl, hL6, hL7, hne, hg6, hg7, hIa, hL2, hR4, hxw⟩ := hcut
  have hne' : g7 ≠ g6 := fun e => hne e.symm
  have HIA := zH hIa
  have l0 := hL2.cell0
  have l1 := hL2.cell1
  clear hIa hc hf hbw1 hBw2 hbw2
  go_wp2_with (go_at_call 156; (with_reducible refine (HB.out _ (H1.out.ext EX)).mono ?_); rintro e w5 ⟨rfl, hb5⟩)
  have hx5 : Ext w w5 := by exact EX
  have HI : Hid (∃ (m : Nat) (y o : Int) (sa : Bool) (Aa : Option Addr) (na ca : Nat) (sb : Bool) (Ab : Option Addr) (nb' cb : Nat), Value.int .i64 (k : Int) = .int .i64 (m : Int) ∧ m ≤ 1048578 ∧ Loc w5 g6 sa Aa na ca ∧ Loc w5 g7 sb Ab nb' cb ∧ Hid (IAt w5 sa Aa na ca o) ∧ Hid (IAt w5 sb Ab nb' cb y) ∧ Hid (o * y ^ m = R) ∧ IsL w5 (w.heap.size + 1) ∧ Ext w w5) :=
   ⟨k, x, 1, sa, Aa, na, ca, s, A, n, c, rfl, by omega, hL6.ext hb5, hL7.ext hb5, HIA.out.ext hb5, H1.out.ext hx5, (by show _ = _; rw [Int.one_mul]; exact HR.out), hR4.ext hb5, hx5⟩
  clear hL6 hL7 hL2 hR4 hxw l0 l1 H1 HIA hb5 hx5 hq hkq hkv hbl hb2' hbz hb1'
  go_loopw [1] (fun nv wr => ∃ (m : Nat) (y o : Int) (sa : Bool) (Aa : Option Addr) (na ca : Nat) (sb : Bool) (Ab : Option Addr) (nb' cb : Nat), nv = .int .i64 (m : Int) ∧ m ≤ 1048578 ∧ Loc wr g6 sa Aa na ca ∧ Loc wr g7 sb Ab nb' cb ∧ Hid (IAt wr sa Aa na ca o) ∧ Hid (IAt wr sb Ab nb' cb y) ∧ Hid (o * y ^ m = R) ∧ IsL wr (w.heap.size + 1) ∧ Ext w wr) (fun nv _ => (intOf nv).toNat)
  case atStart => exact HI.out
  case round =>
   obtain ⟨m, y, o, sa, Aa, na, ca, sb, Ab, nb', cb, rfl, hm, hLa, hLb, HA, HB, HM, hR4, hxw⟩ := hrel
   clear HI
   have c6 := hLa.cell0
   have c6' := hLa.cell1
   have c7 := hLb.cell0
   have c7' := hLb.cell1
   have f6 := hLa.frozen
   have f7 := hLb.frozen
   have i6 : IsL wr g6 := ⟨_, _, _, _, hLa⟩
   have i7 : IsL wr g7 := ⟨_, _, _, _, hLb⟩
   have hw2 := hxw.size
   have hna : na ≤ wl R := by rw [HA.out.wl]; exact Z4j (Z6S HM.out) HR0.out
   by_cases hm0 : m = 0
   ·subst hm0
    have hf4 : ∀ o, wr.frozen? ⟨w.heap.size + 1, o, none⟩ = false := by obtain ⟨_, _, _, _, h⟩ := hR4; exact h.frozen
    obtain ⟨s4, A4, n4, c4, h4⟩ := hR4
    have c4' := h4.cell0
    have c4'' := h4.cell1
    go_wp2_with fail
    have h4' : IsL wr (w.heap.size + 1) := ⟨_, _, _, _, h4⟩
    refine bodyPost_ret (v := .tuple #[.agg #[.bool sa, .slice Aa na ca], .int .i64 0]) (by simp [results, results219, go_sem, c4', c4'', Z6]) rfl ⟨_, _, _, _, rfl, ?_, EX⟩
    have e : o = R := by have := HM.out; rw [Int.pow_zero, Int.mul_one] at this; exact this
    exact (e ▸ HA.out).keep KL
   ·have hnb : nb' ≤ wl R := by rw [HB.out.wl]; exact Z4j (Z5a HM.out hm0) HR0.out
    have hp : 0 < (m : Int) := by omega
    have et := Z55 m
    have em : ((m : Int) % 2) = ((m % 2 : Nat) : Int) := by omega
    have ev := Z3P m (by omega)
    have hlt : m / 2 < m := by omega
    by_cases hm1 : m = 1
    ·subst hm1
     go_wp2_with (go_at_call 131; (with_reducible refine (Zt sa sb Aa Ab na ca nb' cb o y _ (HA.out.ext EX) (HB.out.ext EX) (by omega)).mono ?_); rintro e w8 ⟨s8, A8, n8, c8, rfl, hI8, hb8⟩; have HI8 := zH hI8; clear hI8; have p6 := (hLa.ext hb8).cell0; have p6' := (hLa.ext hb8).cell1; have q6 := (hLa.ext hb8).frozen)
     go_roundw
     case measure => simp [intOf]
     case rel => exact ⟨0, y, o * y, _, _, _, _, _, _, _, _, rfl, by omega, LC, LC, HI8.out.keep KL, HB.out.keep KL, (by have := HM.out; rw [Int.pow_succ, Int.pow_zero, Int.one_mul] at this; show _ = _; rw [Int.pow_zero, Int.mul_one]; exact this), LC, EX⟩
    ·by_cases ho : m % 2 = 1
     ·rw [ho] at em et
      have hm2 : 1 < (m : Int) := by omega
      have hv0 : 0 < m / 2 := by omega
      have hv1 : ((m / 2 : Nat) : Int) > 0 := by omega
      go_wp2_with (
       first
       | (go_at_call 131; (with_reducible refine (Zt sa sb Aa Ab na ca nb' cb o y _ (HA.out.ext EX) (HB.out.ext EX) (by omega)).mono ?_); rintro e w8 ⟨s8, A8, n8, c8, rfl, hI8, hb8⟩; have HI8 := zH hI8; clear hI8; have p6 := (hLa.ext hb8).cell0; have p6' := (hLa.ext hb8).cell1; have q6 := (hLa.ext hb8).frozen; have p7 := (hLb.ext hb8).cell0; have p7' := (hLb.ext hb8).cell1)
       | (go_at_call 131; (with_reducible refine (Zt sb sb Ab Ab nb' cb nb' cb y y _ (HB.out.keep KL) (HB.out.keep KL) (by omega)).mono ?_); rintro e w9 ⟨s9, A9, n9, c9, rfl, hI9, hb9⟩; have HI9 := zH hI9; clear hI9; have L7 : Loc w9 g7 sb Ab nb' cb := LC; have p7 := L7.cell0; have p7' := L7.cell1; have q7 := L7.frozen))
      go_roundw
      case measure => simp [intOf]; omega
      case rel => exact ⟨m / 2, y * y, o * y, _, _, _, _, _, _, _, _, rfl, by omega, LC, LC, HI8.out.keep KL, HI9.out.keep KL, (by show _ = _; rw [Z6K _ _ _ ho]; exact HM.out), LC, EX⟩
     ·have ho' : m % 2 = 0 := by omega
      rw [ho'] at em et
      have hm2 : 1 < (m : Int) := by omega
      have hv0 : 0 < m / 2 := by omega
      have hv1 : ((m / 2 : Nat) : Int) > 0 := by omega
      go_wp2_with (go_at_call 131; (with_reducible refine (Zt sb sb Ab Ab nb' cb nb' cb y y _ (HB.out.ext EX) (HB.out.ext EX) (by omega)).mono ?_); rintro e w9 ⟨s9, A9, n9, c9, rfl, hI9, hb9⟩; have HI9 := zH hI9; clear hI9; have p7 := (hLb.ext hb9).cell0; have p7' := (hLb.ext hb9).cell1; have q7 := (hLb.ext hb9).frozen)
      go_roundw
      case measure => simp [intOf]; omega
      case rel => exact ⟨m / 2, y * y, o, _, _, _, _, _, _, _, _, rfl, by omega, LC, LC, HA.out.keep KL, HI9.out.keep KL, (by show _ = _; rw [Z59 _ _ _ ho']; exact HM.out), LC, EX⟩
theorem Z5F (s : Bool) (A : Option Addr) (n c : Nat) (k : Nat) (w : World) (h : IAt w s A n c 1) (hk : k ≤ 1048576) (hn : n ≤ Z8) :
  Ca 225 #[.agg #[.bool s, .slice A n c], .int .i64 (k : Int)] w (Z2W w 1) := by
 have HB := zH (fun W (k1 : IAt W s A n c 1) => Z2r s A n c 1 W k1 hn)
 rw [show nb (1 : Int).natAbs = 1 from by decide] at HB
 have hs := h.sgn
 subst hs
 have H1 := zH h
 clear h
 have hd : decide ((1 : Int) < 0) = false := by decide
 rw [hd] at H1 HB ⊢
 have hsv : sgd false (val (Z7 (1 : Int).natAbs)) = 1 := by rw [Z9]; rfl
 by_cases hk0 : k = 0
 ·subst hk0
  go_enter func225, ntmps225
  go_wp2_with (
   first
   | (go_at_call 75; (with_reducible refine (Zf false A n c 1 _ (H1.out.ext EX) hn).mono ?_); rintro e w1 ⟨rfl, hbw1⟩; (try clear hc hf); obtain ⟨hBw1, hc, hf⟩ := EC2 w1 w)
   | (go_at_call 106; (with_reducible refine (HB.out _ (H1.out.ext EX)).mono ?_); rintro e w2 ⟨rfl, hbw2⟩; (try clear hc hf); obtain ⟨hBw2, hc, hf⟩ := EC2 w2 w)
   | (go_at_call 93; (with_reducible refine (Zv 1 _ (by omega) (by omega)).mono ?_); rintro e w3 ⟨sw3, Aw3, nw3, cw3, rfl, hIw3, hbw3⟩; (try clear hc hf); obtain ⟨hBw3, hc, hf⟩ := EC2 w3 w))
  refine bodyPost_ret (v := .tuple #[.agg #[.bool sw3, .slice Aw3 nw3 cw3], .int .i64 0]) (by simp [results, results225, go_sem, hc, hf]) rfl ⟨_, _, _, _, rfl, IAt.keep hIw3 KP, EX⟩
 ·have hkn : ((k : Int) == 0) = false := by simp; omega
  go_enter func225, ntmps225
  go_wp2_with (
   first
   | (go_at_call 75; (with_reducible refine (Zf false A n c 1 _ (H1.out.ext EX) hn).mono ?_); rintro e w1 ⟨rfl, hbw1⟩; (try clear hc hf); obtain ⟨hBw1, hc, hf⟩ := EC2 w1 w)
   | (go_at_call 106; (with_reducible refine (HB.out _ (H1.out.ext EX)).mono ?_); rintro e w2 ⟨rfl, hbw2⟩; (try clear hc hf); obtain ⟨hBw2, hc, hf⟩ := EC2 w2 w)
   | (go_at_call 164; (with_reducible refine (Zz false A n c _ _ (H1.out.rep.ext EX) hn).mono ?_); rw [hsv]; rintro e w3 ⟨sw3, Aw3, nw3, cw3, rfl, hIw3, hbw3⟩; (try clear hc hf); obtain ⟨hBw3, hc, hf⟩ := EC2 w3 w))
  refine bodyPost_ret (v := .tuple #[.agg #[.bool sw3, .slice Aw3 nw3 cw3], .int .i64 0]) (by simp [results, results225, go_sem, hc, hf]) rfl ⟨_, _, _, _, rfl, IAt.keep hIw3 KP, EX⟩
theorem Z5G (s : Bool) (A : Option Addr) (n c : Nat) (x : Int) (k : Nat) (w : World) (h : IAt w s A n c x) (hx : 1 < nb x.natAbs ∧ k * nb x.natAbs ≤ 1048576) (hk : k ≤ 1048576) (hs : 2 * wl (x ^ k) + 8 < Z8) (hn : n ≤ Z8) :
  Ca 225 #[.agg #[.bool s, .slice A n c], .int .i64 (k : Int)] w (Z2W w (x ^ k)) := by
 obtain ⟨R, hR⟩ : ∃ R, x ^ k = R := ⟨_, rfl⟩
 rw [hR] at hs ⊢
 have HR := zH hR
 clear hR
 have hx0 : x ≠ 0 := by rintro rfl; have := hx.1; simp [nb] at this
 have HR0 : Hid (R ≠ 0) := by show R ≠ 0; rw [← HR.out]; exact Int.pow_ne_zero hx0
 have HB := zH (fun W (k1 : IAt W s A n c x) => Z2r s A n c x W k1 hn)
 obtain ⟨b, hb⟩ : ∃ b, nb x.natAbs = b := ⟨_, rfl⟩
 rw [hb] at HB hx
 obtain ⟨hb1, hb2⟩ := hx
 have hb1' : 1 < (b : Int) := by omega
 have hbz : ((b : Int) == 0) = false := by simp; omega
 have hbl : ¬ (b : Int) ≤ 1 := by omega
 have hb2' : ¬ (b : Int) < 2 := by omega
 have hkq : k ≤ 1048576 / b := (Nat.le_div_iff_mul_le (by omega)).2 hb2
 have hv1 : 1048576 / b ≤ 1048576 := Nat.div_le_self _ _
 have hv2 : (1048576 : Int) / (b : Int) = ((1048576 / b : Nat) : Int) := by rw [Int.natCast_ediv]; rfl
 obtain ⟨v, hv⟩ : ∃ v, 1048576 / b = v := ⟨_, rfl⟩
 rw [hv] at hkq hv1 hv2
 have hq : IntKind.i64.wrap (Int.tdiv 1048576 (b : Int)) = (v : Int) := by
  rw [Int.tdiv_eq_ediv_of_nonneg (by decide), IntKind.wrap_i64, hv2]; clear hv hv2; omega
 have hkv : ¬ v < k := by omega
 have H1 := zH h
 clear h hb hb2 hv hv2
 go_enter func225, ntmps225
 go_wp2_with (
  first
  | (go_at_call 75; (with_reducible refine (Zf s A n c x _ (H1.out.ext EX) hn).mono ?_); rintro e w1 ⟨rfl, hbw1⟩; (try clear hc hf); obtain ⟨hBw1, hc, hf⟩ := EC2 w1 w)
  | (go_at_call 106; (with_reducible refine (HB.out _ (H1.out.ext EX)).mono ?_); rintro e w2 ⟨rfl, hbw2⟩; (try clear hc hf); obtain ⟨hBw2, hc, hf⟩ := EC2 w2 w))
 go_cut [6, 7] (fun p6 p7 wx => ∃ g6 g7 sa Aa na ca, p6 = .pointer (some ⟨g6, 0, none⟩) ∧ p7 = .pointer (some ⟨g7, 0, none⟩) ∧ Loc wx g6 sa Aa na ca ∧ Loc wx g7 s A n c ∧ g6 ≠ g7 ∧ w.heap.size + 2 ≤ g6 ∧ w.heap.size + 2 ≤ g7 ∧ IAt wx sa Aa na ca 1 ∧ Loc wx w.heap.size s A n c ∧ IsL wx (w.heap.size + 1) ∧ Ext w wx)
 case first =>
  have m0 : zC w2 w.heap.size 0 (.bool s) := by simp [go_sem, hc]
  have m1 : zC w2 w.heap.size 1 (.slice A n c) := by simp [go_sem, hc]
  have hL2 : Loc w2 w.heap.size s A n c := by exact LC
  have hR4 : IsL w2 (w.heap.size + 1) := by exact LC
  have hszB : w.heap.size + 2 ≤ w2.heap.size := by have := hBw2.size; simpa only [World.size_alloc] using this
  have zb : w.heap.size < w2.heap.size := by omega
  have zb1 : w.heap.size + 1 < w2.heap.size := by omega
  go_region_held3 (fun w' => zC w' w.heap.size 0 (.bool s) ∧ zC w' w.heap.size 1 (.slice A n c)) (first | (exact HXC) | (simp [go_sem, *]; done) | simp [go_sem, hc]) ((go_at_call 93; (with_reducible refine (Zv 1 _ (by omega) (by omega)).mono ?_); rintro e w6 ⟨s6, A6, n6, c6, rfl, hI6, hb6⟩; obtain ⟨hc6, hf6⟩ := hb6.cells; (try simp only [SA, Nat.add_assoc, Nat.reduceAdd] at hc6 hf6); have hxl := hb6; have HI6 := zH hI6; clear hI6; have hx6 : Ext w2 w6 := EX; have k0 := hx6.cell m0; have k1 := hx6.cell m1; have hz6 := hb6.size; (try simp only [World.size_alloc, Z3i] at hz6); have z0 : w.heap.size < w6.heap.size := (by omega); (try have z1 : w2.heap.size < w6.heap.size := (by omega)); (try have z2 : w2.heap.size + 1 < w6.heap.size := (by omega))))
  all_goals clear hxl hx6
  all_goals go_wp2_with fail
  all_goals go_meet
  all_goals go_light
  all_goals (first | exact ⟨_, _, s6, A6, n6, c6, rfl, rfl, LC, LC, (by omega), (by omega), (by omega), HI6.out.keep KL, LC, LC, EX⟩ | ((repeat apply Exists.intro); refine ⟨?_, rfl⟩; exact ⟨_, _, s6, A6, n6, c6, rfl, rfl, LC, LC, (by omega), (by omega), (by omega), HI6.out.keep KL, LC, LC, EX⟩))
 case rest =>
  obtain ⟨g6, g7, sa, Aa, na, ca, rfl, rfl, hL6, hL7, hne, hg6, hg7, hIa, hL2, hR4, hxw⟩ := hcut
  have hne' : g7 ≠ g6 := fun e => hne e.symm
  have HIA := zH hIa
  have l0 := hL2.cell0
  have l1 := hL2.cell1
  clear hIa hc hf hbw1 hBw2 hbw2
  have hb5 : Ext wc wc := Ext.refl wc
  go_wp2_with fail
  have hx5 : Ext w wc := by exact EX
  have HI : Hid (∃ (m : Nat) (y o : Int) (sa : Bool) (Aa : Option Addr) (na ca : Nat) (sb : Bool) (Ab : Option Addr) (nb' cb : Nat), Value.int .i64 (k : Int) = .int .i64 (m : Int) ∧ m ≤ 1048578 ∧ Loc wc g6 sa Aa na ca ∧ Loc wc g7 sb Ab nb' cb ∧ Hid (IAt wc sa Aa na ca o) ∧ Hid (IAt wc sb Ab nb' cb y) ∧ Hid (o * y ^ m = R) ∧ IsL wc (w.heap.size + 1) ∧ Ext w wc) :=
   ⟨k, x, 1, sa, Aa, na, ca, s, A, n, c, rfl, by omega, hL6.ext hb5, hL7.ext hb5, HIA.out.ext hb5, H1.out.ext hx5, (by show _ = _; rw [Int.one_mul]; exact HR.out), hR4.ext hb5, hx5⟩
  clear hL6 hL7 hL2 hR4 hxw l0 l1 H1 HIA hb5 hx5 hq hkq hkv hbl hb2' hbz hb1'
  go_loopw [1] (fun nv wr => ∃ (m : Nat) (y o : Int) (sa : Bool) (Aa : Option Addr) (na ca : Nat) (sb : Bool) (Ab : Option Addr) (nb' cb : Nat), nv = .int .i64 (m : Int) ∧ m ≤ 1048578 ∧ Loc wr g6 sa Aa na ca ∧ Loc wr g7 sb Ab nb' cb ∧ Hid (IAt wr sa Aa na ca o) ∧ Hid (IAt wr sb Ab nb' cb y) ∧ Hid (o * y ^ m = R) ∧ IsL wr (w.heap.size + 1) ∧ Ext w wr) (fun nv _ => (intOf nv).toNat)
  case atStart => exact HI.out
  case round =>
   obtain ⟨m, y, o, sa, Aa, na, ca, sb, Ab, nb', cb, rfl, hm, hLa, hLb, HA, HB, HM, hR4, hxw⟩ := hrel
   clear HI
   have c6 := hLa.cell0
   have c6' := hLa.cell1
   have c7 := hLb.cell0
   have c7' := hLb.cell1
   have f6 := hLa.frozen
   have f7 := hLb.frozen
   have i6 : IsL wr g6 := ⟨_, _, _, _, hLa⟩
   have i7 : IsL wr g7 := ⟨_, _, _, _, hLb⟩
   have hw2 := hxw.size
   have hna : na ≤ wl R := by rw [HA.out.wl]; exact Z4j (Z6S HM.out) HR0.out
   by_cases hm0 : m = 0
   ·subst hm0
    have hf4 : ∀ o, wr.frozen? ⟨w.heap.size + 1, o, none⟩ = false := by obtain ⟨_, _, _, _, h⟩ := hR4; exact h.frozen
    obtain ⟨s4, A4, n4, c4, h4⟩ := hR4
    have c4' := h4.cell0
    have c4'' := h4.cell1
    go_wp2_with fail
    have h4' : IsL wr (w.heap.size + 1) := ⟨_, _, _, _, h4⟩
    refine bodyPost_ret (v := .tuple #[.agg #[.bool sa, .slice Aa na ca], .int .i64 0]) (by simp [results, results225, go_sem, c4', c4'', Z6]) rfl ⟨_, _, _, _, rfl, ?_, EX⟩
    have e : o = R := by have := HM.out; rw [Int.pow_zero, Int.mul_one] at this; exact this
    exact (e ▸ HA.out).keep KL
   ·have hnb : nb' ≤ wl R := by rw [HB.out.wl]; exact Z4j (Z5a HM.out hm0) HR0.out
    have hp : 0 < (m : Int) := by omega
    have et := Z55 m
    have em : ((m : Int) % 2) = ((m % 2 : Nat) : Int) := by omega
    have ev := Z3P m (by omega)
    have hlt : m / 2 < m := by omega
    by_cases hm1 : m = 1
    ·subst hm1
     go_wp2_with (go_at_call 91; (with_reducible refine (ZT sa sb Aa Ab na ca nb' cb o y _ (HA.out.ext EX) (HB.out.ext EX) (by omega)).mono ?_); rintro e w8 ⟨s8, A8, n8, c8, rfl, hI8, hb8⟩; have HI8 := zH hI8; clear hI8; have p6 := (hLa.ext hb8).cell0; have p6' := (hLa.ext hb8).cell1; have q6 := (hLa.ext hb8).frozen)
     go_roundw
     case measure => simp [intOf]
     case rel => exact ⟨0, y, o * y, _, _, _, _, _, _, _, _, rfl, by omega, LC, LC, HI8.out.keep KL, HB.out.keep KL, (by have := HM.out; rw [Int.pow_succ, Int.pow_zero, Int.one_mul] at this; show _ = _; rw [Int.pow_zero, Int.mul_one]; exact this), LC, EX⟩
    ·by_cases ho : m % 2 = 1
     ·rw [ho] at em et
      have hm2 : 1 < (m : Int) := by omega
      have hv0 : 0 < m / 2 := by omega
      have hv1 : ((m / 2 : Nat) : Int) > 0 := by omega
      go_wp2_with (
       first
       | (go_at_call 91; (with_reducible refine (ZT sa sb Aa Ab na ca nb' cb o y _ (HA.out.ext EX) (HB.out.ext EX) (by omega)).mono ?_); rintro e w8 ⟨s8, A8, n8, c8, rfl, hI8, hb8⟩; have HI8 := zH hI8; clear hI8; have p6 := (hLa.ext hb8).cell0; have p6' := (hLa.ext hb8).cell1; have q6 := (hLa.ext hb8).frozen; have p7 := (hLb.ext hb8).cell0; have p7' := (hLb.ext hb8).cell1)
       | (go_at_call 91; (with_reducible refine (ZT sb sb Ab Ab nb' cb nb' cb y y _ (HB.out.keep KL) (HB.out.keep KL) (by omega)).mono ?_); rintro e w9 ⟨s9, A9, n9, c9, rfl, hI9, hb9⟩; have HI9 := zH hI9; clear hI9; have L7 : Loc w9 g7 sb Ab nb' cb := LC; have p7 := L7.cell0; have p7' := L7.cell1; have q7 := L7.frozen))
      go_roundw
      case measure => simp [intOf]; omega
      case rel => exact ⟨m / 2, y * y, o * y, _, _, _, _, _, _, _, _, rfl, by omega, LC, LC, HI8.out.keep KL, HI9.out.keep KL, (by show _ = _; rw [Z6K _ _ _ ho]; exact HM.out), LC, EX⟩
     ·have ho' : m % 2 = 0 := by omega
      rw [ho'] at em et
      have hm2 : 1 < (m : Int) := by omega
      have hv0 : 0 < m / 2 := by omega
      have hv1 : ((m / 2 : Nat) : Int) > 0 := by omega
      go_wp2_with (go_at_call 91; (with_reducible refine (ZT sb sb Ab Ab nb' cb nb' cb y y _ (HB.out.ext EX) (HB.out.ext EX) (by omega)).mono ?_); rintro e w9 ⟨s9, A9, n9, c9, rfl, hI9, hb9⟩; have HI9 := zH hI9; clear hI9; have p7 := (hLb.ext hb9).cell0; have p7' := (hLb.ext hb9).cell1; have q7 := (hLb.ext hb9).frozen)
      go_roundw
      case measure => simp [intOf]; omega
      case rel => exact ⟨m / 2, y * y, o, _, _, _, _, _, _, _, _, rfl, by omega, LC, LC, HA.out.keep KL, HI9.out.keep KL, (by show _ = _; rw [Z59 _ _ _ ho']; exact HM.out), LC, EX⟩
theorem Zav (s : Bool) (A : Option Addr) (n c k : Nat) (w : World) (h : IAt w s A n c 2) (hk : k ≤ 524288) : Ca 219 #[.agg #[.bool s, .slice A n c], .int .i64 (k : Int)] w (Z2W w ((2 : Int) ^ k)) :=
 Z5J s A n c 2 k w h ⟨by decide, by rw [show nb (2 : Int).natAbs = 2 from by decide]; omega⟩ (by omega) (by have := Z1j k; unfold Z8; omega) (by rw [h.wl]; exact Nat.le_trans (Zo (by decide) (by decide)) (by decide))
theorem Zaw (s : Bool) (A : Option Addr) (n c k : Nat) (w : World) (h : IAt w s A n c 1) (hk : k ≤ 524288) : Ca 219 #[.agg #[.bool s, .slice A n c], .int .i64 (k : Int)] w (Z2W w 1) := by
 have := Z5I s A n c 1 k w h rfl (by omega) (by rw [Int.one_pow, Z1c]; decide) (by rw [h.wl]; exact Nat.le_trans (Zo (by decide) (by decide)) (by decide))
 rwa [Int.one_pow] at this
theorem Zaq (s : Bool) (A : Option Addr) (n c k : Nat) (w : World) (h : IAt w s A n c 2) (hk : k ≤ 524288) : Ca 225 #[.agg #[.bool s, .slice A n c], .int .i64 (k : Int)] w (Z2W w ((2 : Int) ^ k)) :=
 Z5G s A n c 2 k w h ⟨by decide, by rw [show nb (2 : Int).natAbs = 2 from by decide]; omega⟩ (by omega) (by have := Z1j k; unfold Z8; omega) (by rw [h.wl]; exact Nat.le_trans (Zo (by decide) (by decide)) (by decide))
theorem Zar (s : Bool) (A : Option Addr) (n c k : Nat) (w : World) (h : IAt w s A n c 1) (hk : k ≤ 524288) : Ca 225 #[.agg #[.bool s, .slice A n c], .int .i64 (k : Int)] w (Z2W w 1) :=
 Z5F s A n c k w h (by omega) (by rw [h.wl]; exact Nat.le_trans (Zo (by decide) (by decide)) (by decide))
theorem Z3S (s : Bool) (A : Option Addr) (n c : Nat) (k : Int) (w : World) (h : IAt w s A n c 2) (h0 : 0 ≤ k) (hk : k ≤ 524288) : Ca 219 #[.agg #[.bool s, .slice A n c], .int .i64 k] w (Z2W w ((2 : Int) ^ k.toNat)) := by
 have := Zav s A n c k.toNat w h (by omega)
 rwa [Int.toNat_of_nonneg h0] at this
theorem Z5V (s : Bool) (A : Option Addr) (n c : Nat) (k : Int) (w : World) (h : IAt w s A n c 1) (h0 : 0 ≤ k) (hk : k ≤ 524288) : Ca 219 #[.agg #[.bool s, .slice A n c], .int .i64 k] w (Z2W w 1) := by
 have := Zaw s A n c k.toNat w h (by omega)
 rwa [Int.toNat_of_nonneg h0] at this
theorem Z5Q (s : Bool) (A : Option Addr) (n c : Nat) (k : Int) (w : World) (h : IAt w s A n c 2) (h0 : 0 ≤ k) (hk : k ≤ 524288) : Ca 225 #[.agg #[.bool s, .slice A n c], .int .i64 k] w (Z2W w ((2 : Int) ^ k.toNat)) := by
 have := Zaq s A n c k.toNat w h (by omega)
 rwa [Int.toNat_of_nonneg h0] at this
theorem Z5R (s : Bool) (A : Option Addr) (n c : Nat) (k : Int) (w : World) (h : IAt w s A n c 1) (h0 : 0 ≤ k) (hk : k ≤ 524288) : Ca 225 #[.agg #[.bool s, .slice A n c], .int .i64 k] w (Z2W w 1) := by
 have := Zar s A n c k.toNat w h (by omega)
 rwa [Int.toNat_of_nonneg h0] at this
theorem Z9x : Z02 0 = ((1 : Int) : Rat) := by decide +kernel
theorem Z2a : (((2 : Int) : Rat)).num = 2 ∧ (((((2 : Int) : Rat)).den : Nat) : Int) = 1 := by decide +kernel
theorem ZaC {w : World} {s : Bool} {A : Option Addr} {n c : Nat} {t : Bool} {B : Option Addr} {m d : Nat} (h : QAt w s A n c t B m d (((2 : Int) : Rat))⁻¹) : IAt w s A n c 1 := by have := h.num; rwa [show ((((2 : Int) : Rat))⁻¹).num = 1 from by decide +kernel] at this
theorem ZaD {w : World} {s : Bool} {A : Option Addr} {n c : Nat} {t : Bool} {B : Option Addr} {m d : Nat} (h : QAt w s A n c t B m d (((2 : Int) : Rat))⁻¹) : IAt w t B m d 2 := by have := h.den; rwa [show (((((2 : Int) : Rat))⁻¹).den : Int) = 2 from by decide +kernel] at this
theorem Z8R : qm ((2 : Int) : Rat) = 1 := by decide +kernel
theorem Z7M {w : World} {s : Bool} {A : Option Addr} {n c : Nat} {t : Bool} {B : Option Addr} {m d : Nat} {k : Int} (h1 : IAt w s A n c ((2 : Int) ^ k.toNat)) (h2 : IAt w t B m d ((2 : Int) ^ (-k).toNat)) : QAt w s A n c t B m d (Z02 k) := by
 obtain ⟨e1, e2⟩ := Z4G k
 exact ⟨by rw [e1]; exact h1, by rw [e2]; exact h2⟩
theorem Z4V (s : Bool) (A : Option Addr) (n c : Nat) (t : Bool) (B : Option Addr) (m d : Nat) (x : Rat) (w : World) (h : QAt w s A n c t B m d x) (hs : qm x + 8 < Z8) :
  Ca 41 #[.agg (Z01 s A n c t B m d)] w fun e w' => e = .returned (.int .i64 (max ((nb x.num.natAbs : Nat) : Int) ((nb x.den : Nat) : Int))) ∧ Ext w w' := by
 have hn := h.n
 have hm := h.m
 have S1 := zH (fun W (k1 : IAt W s A n c x.num) => Z2r s A n c _ W k1 (by omega))
 have S2 := zH (fun W (k1 : IAt W t B m d (x.den : Int)) => Z2r t B m d _ W k1 (by omega))
 have H1 := zH h.num
 have H2 := zH h.den
 rw [Int.natAbs_natCast] at S2
 obtain ⟨b1, hb1⟩ : ∃ z, nb x.num.natAbs = z := ⟨_, rfl⟩
 obtain ⟨b2, hb2⟩ : ∃ z, nb x.den = z := ⟨_, rfl⟩
 rw [hb1] at S1 ⊢
 rw [hb2] at S2 ⊢
 clear h hb1 hb2
 dsimp only [Z01]
 go_enter func41, ntmps41
 go_wp2_with fail
 go_region_held3 (fun w' => zC w' w.heap.size 0 (.bool s) ∧ zC w' w.heap.size 1 (.slice A n c) ∧ zC w' w.heap.size 2 (.bool t) ∧ zC w' w.heap.size 3 (.slice B m d)) (first | (exact HXC) | (simp [go_sem]; done) | (simp [go_sem, *]; done) | (exact HX4)) (first | (go_at_call 106; (with_reducible refine (S1.out _ IX).mono ?_); rintro e w1 ⟨rfl, hbw1⟩) | (go_at_call 106; (with_reducible refine (S2.out _ IX).mono ?_); rintro e w2 ⟨rfl, hbw2⟩))
 all_goals go_wp2_with fail
 all_goals go_ret
 all_goals exact ⟨by simp, EX⟩
theorem Z5j (s : Bool) (A : Option Addr) (n c : Nat) (t : Bool) (B : Option Addr) (m d : Nat) (k : Int) (w : World) (h : QAt w s A n c t B m d ((2 : Int) : Rat))  :
  Ca 212 #[.agg (Z01 s A n c t B m d), .int .i64 0] w (Z29 w (Z02 0)) := by
 have hn := h.n
 have hm := h.m
 obtain ⟨e1, e2⟩ := Z2a
 have S1 := zH (fun W (k1 : IAt W s A n c 2) => ZU s A n c _ W k1 (by rw [k1.wl]; exact Nat.le_trans (Zo (by decide) (by decide)) (by decide)))
 have S2 := zH (fun W (k1 : IAt W t B m d 1) => ZU t B m d _ W k1 (by rw [k1.wl]; exact Nat.le_trans (Zo (by decide) (by decide)) (by decide)))
 have H0 := zH h
 have i1 := h.num
 have i2 := h.den
 rw [e1] at i1
 rw [e2] at i2
 have H1 := zH i1
 have H2 := zH i2
 have H1' := i1
 have SG := zH (fun W (k1 : QAt W s A n c t B m d ((2 : Int) : Rat)) => Zy s A n c t B m d _ W k1 (by rw [H1'.wl]; exact Nat.le_trans (Zo (by decide) (by decide)) (by decide)))
 rw [show Z0R (((2 : Int) : Rat)).num = 1 from by decide +kernel] at SG
 rw [show nb (2 : Int).natAbs = 2 from by decide] at S1
 rw [show nb (1 : Int).natAbs = 1 from by decide] at S2
 clear h hn hm e1 e2 i1 i2 H1'
 dsimp only [Z01]
 go_enter func212, ntmps212
 go_wp2_with fail
 go_cut [6] (fun v6 wx => v6 = .int .i64 2 ∧ BK wx w.heap.size (Z01 s A n c t B m d) ∧ BK wx (w.heap.size + 1) zA9 ∧ Ext w wx)
 case first =>
  go_region_held3 (fun w' => zC w' w.heap.size 0 (.bool s) ∧ zC w' w.heap.size 1 (.slice A n c) ∧ zC w' w.heap.size 2 (.bool t) ∧ zC w' w.heap.size 3 (.slice B m d)) (first | (exact HXC) | (simp [go_sem]; done) | (simp [go_sem, *]; done) | (exact HX4)) (first | (go_at_call 156; (with_reducible refine (S1.out _ IX).mono ?_); rintro e w1 ⟨rfl, hbw1⟩; obtain ⟨R0, L0, F0⟩ := B40 w1 w; obtain ⟨R1, L1, F1⟩ := B41 w1 w) | (go_at_call 156; (with_reducible refine (S2.out _ IX).mono ?_); rintro e w2 ⟨rfl, hbw2⟩; obtain ⟨R0, L0, F0⟩ := B40 w2 w; obtain ⟨R1, L1, F1⟩ := B41 w2 w))
  all_goals go_wp2_with fail
  all_goals go_meet
  all_goals go_light
  all_goals exact ⟨rfl, BX, BX, EX⟩
 case rest =>
  obtain ⟨rfl, R0, R1, hx⟩ := hcut
  have F0 := R0.c4
  have F1 := R1.c4
  have L0 := R0.lt
  have L1 := R1.lt
  go_wp2_with (
   first
   | (go_at_call 84; (with_reducible refine (SG.out _ QX).mono ?_); rintro e w3 ⟨rfl, hbw3⟩; obtain ⟨R0, L0, F0⟩ := B40 w3 w; obtain ⟨R1, L1, F1⟩ := B41 w3 w)
   | (go_at_call 129; (with_reducible refine (Z3U _).mono ?_); refine rI ?_; intro w4 sw4 Aw4 nw4 cw4 Hw4 hbw4; obtain ⟨R0, L0, F0⟩ := B40 w4 w; obtain ⟨R1, L1, F1⟩ := B41 w4 w)
   | (go_at_call 141; (with_reducible refine (Z14 (h := IX)).mono ?_); refine rQ ?_; intro w5 sw5 Aw5 nw5 cw5 tw5 Bw5 mw5 dw5 Hw5 hbw5; obtain ⟨R0, L0, F0⟩ := B40 w5 w; obtain ⟨R1, L1, F1⟩ := B41 w5 w))
  refine bodyPost_ret (v := .tuple #[.agg (Z01 sw5 Aw5 nw5 cw5 tw5 Bw5 mw5 dw5), .int .i64 0]) (by simp [Z01, results, results212, go_sem, Z6, F1]) rfl ⟨_, _, _, _, _, _, _, _, rfl, by rw [Z9x]; exact QX, EX⟩
theorem Z6i (s : Bool) (A : Option Addr) (n c : Nat) (t : Bool) (B : Option Addr) (m d : Nat) (k : Int) (w : World) (h : QAt w s A n c t B m d ((2 : Int) : Rat)) (hk0 : 0 < k) (hk : k ≤ 524288) :
  Ca 212 #[.agg (Z01 s A n c t B m d), .int .i64 k] w (Z29 w (Z02 k)) := by
 have hn := h.n
 have hm := h.m
 obtain ⟨e1, e2⟩ := Z2a
 have S1 := zH (fun W (k1 : IAt W s A n c 2) => ZU s A n c _ W k1 (by rw [k1.wl]; exact Nat.le_trans (Zo (by decide) (by decide)) (by decide)))
 have S2 := zH (fun W (k1 : IAt W t B m d 1) => ZU t B m d _ W k1 (by rw [k1.wl]; exact Nat.le_trans (Zo (by decide) (by decide)) (by decide)))
 have H0 := zH h
 have i1 := h.num
 have i2 := h.den
 rw [e1] at i1
 rw [e2] at i2
 have H1 := zH i1
 have H2 := zH i2
 have H1' := i1
 have SG := zH (fun W (k1 : QAt W s A n c t B m d ((2 : Int) : Rat)) => Zy s A n c t B m d _ W k1 (by rw [H1'.wl]; exact Nat.le_trans (Zo (by decide) (by decide)) (by decide)))
 rw [show Z0R (((2 : Int) : Rat)).num = 1 from by decide +kernel] at SG
 rw [show nb (2 : Int).natAbs = 2 from by decide] at S1
 rw [show nb (1 : Int).natAbs = 1 from by decide] at S2
 have f0 : (k == 0) = false := by simp; omega
 have f1 : ¬ 1048576 < k := by omega
 have f2 : ¬ k < -1048576 := by omega
 have f3 : max k (-k) = k := by omega
 have f4 : IntKind.i64.wrap (k * 2) = k * 2 := by rw [IntKind.wrap_i64]; omega
 have f5 : ¬ 1048576 < k * 2 := by omega
 have f6 : ¬ k < 0 := by omega
 have E1 : Hid ((-k).toNat = 0) := by show _ = _; omega
 clear h hn hm e1 e2 i1 i2 H1'
 dsimp only [Z01]
 go_enter func212, ntmps212
 go_wp2_with fail
 go_cut [6] (fun v6 wx => v6 = .int .i64 2 ∧ BK wx w.heap.size (Z01 s A n c t B m d) ∧ BK wx (w.heap.size + 1) zA9 ∧ Ext w wx)
 case first =>
  go_region_held3 (fun w' => zC w' w.heap.size 0 (.bool s) ∧ zC w' w.heap.size 1 (.slice A n c) ∧ zC w' w.heap.size 2 (.bool t) ∧ zC w' w.heap.size 3 (.slice B m d)) (first | (exact HXC) | (simp [go_sem]; done) | (simp [go_sem, *]; done) | (exact HX4)) (first | (go_at_call 156; (with_reducible refine (S1.out _ IX).mono ?_); rintro e w1 ⟨rfl, hbw1⟩; obtain ⟨R0, L0, F0⟩ := B40 w1 w; obtain ⟨R1, L1, F1⟩ := B41 w1 w) | (go_at_call 156; (with_reducible refine (S2.out _ IX).mono ?_); rintro e w2 ⟨rfl, hbw2⟩; obtain ⟨R0, L0, F0⟩ := B40 w2 w; obtain ⟨R1, L1, F1⟩ := B41 w2 w))
  all_goals go_wp2_with fail
  all_goals go_meet
  all_goals go_light
  all_goals exact ⟨rfl, BX, BX, EX⟩
 case rest =>
  obtain ⟨rfl, R0, R1, hx⟩ := hcut
  have F0 := R0.c4
  have F1 := R1.c4
  have L0 := R0.lt
  have L1 := R1.lt
  go_wp2_with (
   first
   | (go_at_call 84; (with_reducible refine (SG.out _ QX).mono ?_); rintro e w3 ⟨rfl, hbw3⟩; obtain ⟨R0, L0, F0⟩ := B40 w3 w; obtain ⟨R1, L1, F1⟩ := B41 w3 w)
   | (go_at_call 219; (with_reducible refine (Z3S (h := IX) (h0 := by omega) (hk := by omega)).mono ?_); refine rI ?_; intro w7 sw7 Aw7 nw7 cw7 Hw7 hbw7; obtain ⟨R0, L0, F0⟩ := B40 w7 w; obtain ⟨R1, L1, F1⟩ := B41 w7 w)
   | (go_at_call 219; (with_reducible refine (Z5V (h := IX) (h0 := by omega) (hk := by omega)).mono ?_); refine rI ?_; intro w8 sw8 Aw8 nw8 cw8 Hw8 hbw8; obtain ⟨R1, L1, F1⟩ := B41 w8 w; obtain ⟨R7, L7, F7⟩ := BC2 w8 w7.heap.size))
  refine bodyPost_ret (v := .tuple #[.agg (Z01 sw7 Aw7 nw7 cw7 sw8 Aw8 nw8 cw8), .int .i64 0]) (by simp [Z01, results, results212, go_sem, Z6, F1, F7, L1]) rfl ⟨_, _, _, _, _, _, _, _, rfl, Z7M IX (by rw [E1.out, Int.pow_zero]; exact IX), EX⟩
theorem Z6j (s : Bool) (A : Option Addr) (n c : Nat) (t : Bool) (B : Option Addr) (m d : Nat) (k : Int) (w : World) (h : QAt w s A n c t B m d ((2 : Int) : Rat)) (hk0 : k < 0) (hk : -524288 ≤ k) :
  Ca 212 #[.agg (Z01 s A n c t B m d), .int .i64 k] w (Z29 w (Z02 k)) := by
 have hn := h.n
 have hm := h.m
 obtain ⟨e1, e2⟩ := Z2a
 have S1 := zH (fun W (k1 : IAt W s A n c 2) => ZU s A n c _ W k1 (by rw [k1.wl]; exact Nat.le_trans (Zo (by decide) (by decide)) (by decide)))
 have S2 := zH (fun W (k1 : IAt W t B m d 1) => ZU t B m d _ W k1 (by rw [k1.wl]; exact Nat.le_trans (Zo (by decide) (by decide)) (by decide)))
 have H0 := zH h
 have i1 := h.num
 have i2 := h.den
 rw [e1] at i1
 rw [e2] at i2
 have H1 := zH i1
 have H2 := zH i2
 have H1' := i1
 have SG := zH (fun W (k1 : QAt W s A n c t B m d ((2 : Int) : Rat)) => Zy s A n c t B m d _ W k1 (by rw [H1'.wl]; exact Nat.le_trans (Zo (by decide) (by decide)) (by decide)))
 rw [show Z0R (((2 : Int) : Rat)).num = 1 from by decide +kernel] at SG
 rw [show nb (2 : Int).natAbs = 2 from by decide] at S1
 rw [show nb (1 : Int).natAbs = 1 from by decide] at S2
 have f0 : (k == 0) = false := by simp; omega
 have f1 : ¬ 1048576 < k := by omega
 have f2 : ¬ k < -1048576 := by omega
 have f3 : max k (-k) = -k := by omega
 have f4 : IntKind.i64.wrap (-k * 2) = -k * 2 := by rw [IntKind.wrap_i64]; omega
 have f5 : ¬ 1048576 < -k * 2 := by omega
 have f6 : k < 0 := by omega
 have f7 : IntKind.i64.wrap (-k) = -k := by rw [IntKind.wrap_i64]; omega
 have E1 : Hid (k.toNat = 0) := by show _ = _; omega
 have q2 := Z8R
 clear h hn hm e1 e2 i1 i2 H1'
 dsimp only [Z01]
 go_enter func212, ntmps212
 go_wp2_with fail
 go_cut [6] (fun v6 wx => v6 = .int .i64 2 ∧ BK wx w.heap.size (Z01 s A n c t B m d) ∧ BK wx (w.heap.size + 1) zA9 ∧ Ext w wx)
 case first =>
  go_region_held3 (fun w' => zC w' w.heap.size 0 (.bool s) ∧ zC w' w.heap.size 1 (.slice A n c) ∧ zC w' w.heap.size 2 (.bool t) ∧ zC w' w.heap.size 3 (.slice B m d)) (first | (exact HXC) | (simp [go_sem]; done) | (simp [go_sem, *]; done) | (exact HX4)) (first | (go_at_call 156; (with_reducible refine (S1.out _ IX).mono ?_); rintro e w1 ⟨rfl, hbw1⟩; obtain ⟨R0, L0, F0⟩ := B40 w1 w; obtain ⟨R1, L1, F1⟩ := B41 w1 w) | (go_at_call 156; (with_reducible refine (S2.out _ IX).mono ?_); rintro e w2 ⟨rfl, hbw2⟩; obtain ⟨R0, L0, F0⟩ := B40 w2 w; obtain ⟨R1, L1, F1⟩ := B41 w2 w))
  all_goals go_wp2_with fail
  all_goals go_meet
  all_goals go_light
  all_goals exact ⟨rfl, BX, BX, EX⟩
 case rest =>
  obtain ⟨rfl, R0, R1, hx⟩ := hcut
  have F0 := R0.c4
  have F1 := R1.c4
  have L0 := R0.lt
  have L1 := R1.lt
  go_wp2_with (
   first
   | (go_at_call 84; (with_reducible refine (SG.out _ QX).mono ?_); rintro e w3 ⟨rfl, hbw3⟩; obtain ⟨R0, L0, F0⟩ := B40 w3 w; obtain ⟨R1, L1, F1⟩ := B41 w3 w)
   | (go_at_call 211; (with_reducible refine (Z35 (h := QX) (hs := by rw [q2]; decide) (hx := by decide +kernel)).mono ?_); refine rQ ?_; intro w5 sw5 Aw5 nw5 cw5 tw5 Bw5 mw5 dw5 Hw5 hbw5; obtain ⟨R0, L0, F0⟩ := B40 w5 w; obtain ⟨R1, L1, F1⟩ := B41 w5 w; have I5 := zH (ZaC Hw5.out); have J5 := zH (ZaD Hw5.out))
   | (go_at_call 219; (with_reducible refine (Z5V (h := IX) (h0 := by omega) (hk := by omega)).mono ?_); refine rI ?_; intro w7 sw7 Aw7 nw7 cw7 Hw7 hbw7; obtain ⟨R0, L0, F0⟩ := B40 w7 w; obtain ⟨R1, L1, F1⟩ := B41 w7 w)
   | (go_at_call 219; (with_reducible refine (Z3S (h := IX) (h0 := by omega) (hk := by omega)).mono ?_); refine rI ?_; intro w8 sw8 Aw8 nw8 cw8 Hw8 hbw8; obtain ⟨R1, L1, F1⟩ := B41 w8 w; obtain ⟨R7, L7, F7⟩ := BC2 w8 w7.heap.size))
  refine bodyPost_ret (v := .tuple #[.agg (Z01 sw7 Aw7 nw7 cw7 sw8 Aw8 nw8 cw8), .int .i64 0]) (by simp [Z01, results, results212, go_sem, Z6, F1, F7, L1]) rfl ⟨_, _, _, _, _, _, _, _, rfl, Z7M (by rw [E1.out, Int.pow_zero]; exact IX) IX, EX⟩
theorem Z8l (s : Bool) (A : Option Addr) (n c : Nat) (t : Bool) (B : Option Addr) (m d : Nat) (k : Int) (w : World) (h : QAt w s A n c t B m d ((2 : Int) : Rat)) (h1 : -524288 ≤ k) (h2 : k ≤ 524288) :
  Ca 212 #[.agg (Z01 s A n c t B m d), .int .i64 k] w (Z29 w (Z02 k)) := by
 rcases Int.lt_trichotomy k 0 with hk | hk | hk
 ·exact Z6j s A n c t B m d k w h hk h1
 ·subst hk; exact Z5j s A n c t B m d 0 w h
 ·exact Z6i s A n c t B m d k w h hk h2
theorem Z6k (s : Bool) (A : Option Addr) (n c : Nat) (t : Bool) (B : Option Addr) (m d : Nat) (k : Int) (w : World) (h : QAt w s A n c t B m d ((2 : Int) : Rat)) (hk0 : 0 ≤ k) (hk : k ≤ 524288) :
  Ca 166 #[.agg (Z01 s A n c t B m d), .int .i64 k] w (Z29 w (Z02 k)) := by
 obtain ⟨e1, e2⟩ := Z2a
 have q2 := Z8R
 have S1 := zH (fun W (k1 : QAt W s A n c t B m d ((2 : Int) : Rat)) => Z4V s A n c t B m d _ W k1 (by rw [q2]; decide))
 rw [show (max ((nb (((2 : Int) : Rat)).num.natAbs : Nat) : Int) ((nb (((2 : Int) : Rat)).den : Nat) : Int)) = 2 from by decide +kernel] at S1
 have H0 := zH h
 have i1 := h.num
 have i2 := h.den
 rw [e1] at i1
 rw [e2] at i2
 have H1 := zH i1
 have H2 := zH i2
 have SG := zH (fun W (k1 : QAt W s A n c t B m d ((2 : Int) : Rat)) => Z1p s A n c t B m d _ W k1 (by rw [i1.wl]; exact Nat.le_trans (Zo (by decide) (by decide)) (by decide)))
 rw [show Z0R (((2 : Int) : Rat)).num = 1 from by decide +kernel] at SG
 have f1 : ¬ 524288 < k := by omega
 have f2 : ¬ k < -524288 := by omega
 have f6 : ¬ k < 0 := by omega
 have EQ : Hid (Rat.divInt ((2 : Int) ^ k.toNat) 1 = Z02 k) := by show _ = _; unfold Z02; rw [show (-k).toNat = 0 from by omega]; rfl
 clear h e1 e2 i1 i2
 dsimp only [Z01]
 go_enter func166, ntmps166
 go_wp2_with (
  first
  | (go_at_call 28; (with_reducible refine (SG.out _ QX).mono ?_); rintro e w1 ⟨rfl, hbw1⟩; obtain ⟨R0, L0, F0⟩ := B40 w1 w; obtain ⟨R1, L1, F1⟩ := B41 w1 w)
  | (go_at_call 41; (with_reducible refine (S1.out _ QX).mono ?_); rintro e w2 ⟨rfl, hbw2⟩; obtain ⟨R0, L0, F0⟩ := B40 w2 w; obtain ⟨R1, L1, F1⟩ := B41 w2 w)
  | (go_at_call 225; (with_reducible refine (Z5Q (h := IX) (h0 := by omega) (hk := by omega)).mono ?_); refine rI ?_; intro w7 sw7 Aw7 nw7 cw7 Hw7 hbw7; obtain ⟨R0, L0, F0⟩ := B40 w7 w; obtain ⟨R1, L1, F1⟩ := B41 w7 w; have N7 : nw7 ≤ 16385 := (by rw [Hw7.out.wl]; have := Z1j (k).toNat; omega))
  | (go_at_call 225; (with_reducible refine (Z5R (h := IX) (h0 := by omega) (hk := by omega)).mono ?_); refine rI ?_; intro w8 sw8 Aw8 nw8 cw8 Hw8 hbw8; obtain ⟨R1, L1, F1⟩ := B41 w8 w; obtain ⟨R7, L7, F7⟩ := BC2 w8 w7.heap.size; have N8 : nw8 ≤ 1 := (by rw [Hw8.out.wl, Z1c]; exact Nat.le_refl 1))
  | (go_at_call 103; (with_reducible refine (Z1o (h1 := IX) (h2 := IX) (hs1 := by unfold Z8; omega) (hs2 := by unfold Z8; omega) (hy := by decide)).mono ?_); refine rQ ?_; intro w9 sw9 Aw9 nw9 cw9 tw9 Bw9 mw9 dw9 Hw9 hbw9; obtain ⟨R1, L1, F1⟩ := B41 w9 w))
 refine bodyPost_ret (v := .tuple #[.agg (Z01 sw9 Aw9 nw9 cw9 tw9 Bw9 mw9 dw9), .int .i64 0]) (by simp [Z01, results, results166, go_sem, Z6, F1, L1]) rfl ⟨_, _, _, _, _, _, _, _, rfl, EQ.out ▸ QX, EX⟩
theorem Z6l (s : Bool) (A : Option Addr) (n c : Nat) (t : Bool) (B : Option Addr) (m d : Nat) (k : Int) (w : World) (h : QAt w s A n c t B m d ((2 : Int) : Rat)) (hk0 : k < 0) (hk : -524288 ≤ k) :
  Ca 166 #[.agg (Z01 s A n c t B m d), .int .i64 k] w (Z29 w (Z02 k)) := by
 obtain ⟨e1, e2⟩ := Z2a
 have q2 := Z8R
 have S1 := zH (fun W (k1 : QAt W s A n c t B m d ((2 : Int) : Rat)) => Z4V s A n c t B m d _ W k1 (by rw [q2]; decide))
 rw [show (max ((nb (((2 : Int) : Rat)).num.natAbs : Nat) : Int) ((nb (((2 : Int) : Rat)).den : Nat) : Int)) = 2 from by decide +kernel] at S1
 have H0 := zH h
 have i1 := h.num
 have i2 := h.den
 rw [e1] at i1
 rw [e2] at i2
 have H1 := zH i1
 have H2 := zH i2
 have SG := zH (fun W (k1 : QAt W s A n c t B m d ((2 : Int) : Rat)) => Z1p s A n c t B m d _ W k1 (by rw [i1.wl]; exact Nat.le_trans (Zo (by decide) (by decide)) (by decide)))
 rw [show Z0R (((2 : Int) : Rat)).num = 1 from by decide +kernel] at SG
 have f1 : ¬ 524288 < k := by omega
 have f2 : ¬ k < -524288 := by omega
 have f6 : k < 0 := by omega
 have f7 : IntKind.i64.wrap (-k) = -k := by rw [IntKind.wrap_i64]; omega
 have EQ : Hid (Rat.divInt 1 ((2 : Int) ^ (-k).toNat) = Z02 k) := by show _ = _; unfold Z02; rw [show k.toNat = 0 from by omega]; rfl
 clear h e1 e2 i1 i2
 dsimp only [Z01]
 go_enter func166, ntmps166
 go_wp2_with (
  first
  | (go_at_call 28; (with_reducible refine (SG.out _ QX).mono ?_); rintro e w1 ⟨rfl, hbw1⟩; obtain ⟨R0, L0, F0⟩ := B40 w1 w; obtain ⟨R1, L1, F1⟩ := B41 w1 w)
  | (go_at_call 41; (with_reducible refine (S1.out _ QX).mono ?_); rintro e w2 ⟨rfl, hbw2⟩; obtain ⟨R0, L0, F0⟩ := B40 w2 w; obtain ⟨R1, L1, F1⟩ := B41 w2 w)
  | (go_at_call 225; (with_reducible refine (Z5Q (h := IX) (h0 := by omega) (hk := by omega)).mono ?_); refine rI ?_; intro w7 sw7 Aw7 nw7 cw7 Hw7 hbw7; obtain ⟨R0, L0, F0⟩ := B40 w7 w; obtain ⟨R1, L1, F1⟩ := B41 w7 w; have N7 : nw7 ≤ 16385 := (by rw [Hw7.out.wl]; have := Z1j (-k).toNat; omega))
  | (go_at_call 225; (with_reducible refine (Z5R (h := IX) (h0 := by omega) (hk := by omega)).mono ?_); refine rI ?_; intro w8 sw8 Aw8 nw8 cw8 Hw8 hbw8; obtain ⟨R1, L1, F1⟩ := B41 w8 w; obtain ⟨R7, L7, F7⟩ := BC2 w8 w7.heap.size; have N8 : nw8 ≤ 1 := (by rw [Hw8.out.wl, Z1c]; exact Nat.le_refl 1))
  | (go_at_call 103; (with_reducible refine (Z1o (h1 := IX) (h2 := IX) (hs1 := by unfold Z8; omega) (hs2 := by unfold Z8; omega) (hy := Z85 _)).mono ?_); refine rQ ?_; intro w9 sw9 Aw9 nw9 cw9 tw9 Bw9 mw9 dw9 Hw9 hbw9; obtain ⟨R1, L1, F1⟩ := B41 w9 w))
 refine bodyPost_ret (v := .tuple #[.agg (Z01 sw9 Aw9 nw9 cw9 tw9 Bw9 mw9 dw9), .int .i64 0]) (by simp [Z01, results, results166, go_sem, Z6, F1, L1]) rfl ⟨_, _, _, _, _, _, _, _, rfl, EQ.out ▸ QX, EX⟩
theorem Z8u (s : Bool) (A : Option Addr) (n c : Nat) (t : Bool) (B : Option Addr) (m d : Nat) (k : Int) (w : World) (h : QAt w s A n c t B m d ((2 : Int) : Rat)) (h1 : -524288 ≤ k) (h2 : k ≤ 524288) :
  Ca 166 #[.agg (Z01 s A n c t B m d), .int .i64 k] w (Z29 w (Z02 k)) := by
 by_cases hk : k < 0
 ·exact Z6l s A n c t B m d k w h hk h1
 ·exact Z6k s A n c t B m d k w h (by omega) h2
theorem Z0D (z : Int) (w : World) (h0 : -9223372036854775808 ≤ z) (h1 : z ≤ 9223372036854775807) :
  Ca 81 #[.int .i64 z] w (Z0G w (z : Rat)) := by
 go_enter func81, ntmps81
 go_wp2_with (
  first
  | (go_at_call 148; (with_reducible refine (Zk z _ h0 h1).mono ?_); refine rI ?_; intro w1 sw1 Aw1 nw1 cw1 Hw1 hbw1; obtain ⟨R0, L0, F0⟩ := B40 w1 w)
  | (go_at_call 141; (with_reducible refine (Z14 (h := IX)).mono ?_); refine rQ ?_; intro w2 sw2 Aw2 nw2 cw2 tw2 Bw2 mw2 dw2 Hw2 hbw2; obtain ⟨R0, L0, F0⟩ := B40 w2 w))
 refine bodyPost_ret (v := .agg (Z01 sw2 Aw2 nw2 cw2 tw2 Bw2 mw2 dw2)) (by simp [Z01, results, results81, go_sem, Z6, F0]) rfl ⟨_, _, _, _, _, _, _, _, rfl, QX, EX⟩
theorem Z1N (k : Int) (w : World) (h1 : -524288 ≤ k) (h2 : k ≤ 524288) :
  Ca 139 #[.int .i64 k] w (Z0G w (Z02 k)) := by
 go_enter func139, ntmps139
 go_wp2_with (
  first
  | (go_at_call 81; (with_reducible refine (Z0D 2 _ (by decide) (by decide)).mono ?_); refine rQ ?_; intro w1 sw1 Aw1 nw1 cw1 tw1 Bw1 mw1 dw1 Hw1 hbw1; obtain ⟨R0, L0, F0⟩ := B40 w1 w)
  | (go_at_call 212; (with_reducible refine (Z8l (h := QX) (h1 := h1) (h2 := h2)).mono ?_); refine rQ ?_; intro w2 sw2 Aw2 nw2 cw2 tw2 Bw2 mw2 dw2 Hw2 hbw2; obtain ⟨R0, L0, F0⟩ := B40 w2 w))
 refine bodyPost_ret (v := .agg (Z01 sw2 Aw2 nw2 cw2 tw2 Bw2 mw2 dw2)) (by simp [Z01, results, results139, go_sem, Z6, F0, L0]) rfl ⟨_, _, _, _, _, _, _, _, rfl, QX, EX⟩
theorem Z3V (k : Int) (w : World) (h1 : -524288 ≤ k) (h2 : k ≤ 524288) :
  Ca 95 #[.int .i64 k] w (Z0G w (Z02 k)) := by
 go_enter func95, ntmps95
 go_wp2_with (
  first
  | (go_at_call 27; (with_reducible refine (Zw 2 _ (by decide) (by decide)).mono ?_); refine rQ ?_; intro w1 sw1 Aw1 nw1 cw1 tw1 Bw1 mw1 dw1 Hw1 hbw1; obtain ⟨R0, L0, F0⟩ := B40 w1 w)
  | (go_at_call 166; (with_reducible refine (Z8u (h := QX) (h1 := h1) (h2 := h2)).mono ?_); refine rQ ?_; intro w2 sw2 Aw2 nw2 cw2 tw2 Bw2 mw2 dw2 Hw2 hbw2; obtain ⟨R0, L0, F0⟩ := B40 w2 w))
 refine bodyPost_ret (v := .agg (Z01 sw2 Aw2 nw2 cw2 tw2 Bw2 mw2 dw2)) (by simp [Z01, results, results95, go_sem, Z6, F0, L0]) rfl ⟨_, _, _, _, _, _, _, _, rfl, QX, EX⟩
theorem Z07 (p q : QC) (w : World) :
  Ca 62 #[.agg (zA0 p q)] w fun e w' => e = .returned (.agg (zA0 p q)) ∧ Ext w w' := by
 dsimp only [zA0]
 go_enter func62, ntmps62
 go_wp2
 refine bodyPost_ret (v := .agg (zA0 p q)) (by simp [zA0, results, results62, go_sem]) rfl ⟨rfl, EX⟩
theorem Z3c (p q : QC) (w : World) :
  Ca 63 #[.agg (zA0 p q)] w fun e w' => e = .returned (.agg (zA0 p q)) ∧ Ext w w' := by
 dsimp only [zA0]
 go_enter func63, ntmps63
 go_wp2
 refine bodyPost_ret (v := .agg (zA0 p q)) (by simp [zA0, results, results63, go_sem]) rfl ⟨rfl, EX⟩
theorem Z2g (p : QC) (w : World) :
  Ca 154 #[.agg (zA3 p)] w fun e w' => e = .returned (.agg (Z7G p)) ∧ Ext w w' := by
 dsimp only [zA3, Z7G]
 go_enter func154, ntmps154
 go_wp2
 refine bodyPost_ret (v := .agg (Z7G p)) (by simp [Z7G, results, results154, go_sem]) rfl ⟨rfl, EX⟩
theorem Z7l (p : QC) (w : World) :
  Ca 45 #[.agg (zA3 p)] w fun e w' => e = .returned (.agg (Z7G p)) ∧ Ext w w' := by
 dsimp only [zA3, Z7G]
 go_enter func45, ntmps45
 go_wp2
 refine bodyPost_ret (v := .agg (Z7G p)) (by simp [Z7G, results, results45, go_sem]) rfl ⟨rfl, EX⟩
theorem Z0C (x y : Int) (w : World) (h0 : -9223372036854775808 ≤ x) (h1 : x ≤ 9223372036854775807) (h2 : -9223372036854775808 ≤ y) (h3 : y ≤ 9223372036854775807) :
  Ca 29 #[.int .i64 x, .int .i64 y] w (Z0e w (x : Rat) (y : Rat)) := by
 go_enter func29, ntmps29
 go_wp2_with (
  first
  | (go_at_call 27; (with_reducible refine (Zw x _ h0 h1).mono ?_); refine rQ ?_; intro w1 sw1 Aw1 nw1 cw1 tw1 Bw1 mw1 dw1 Hw1 hbw1; obtain ⟨R0, L0, F0⟩ := B80 w1 w)
  | (go_at_call 27; (with_reducible refine (Zw y _ h2 h3).mono ?_); refine rQ ?_; intro w2 sw2 Aw2 nw2 cw2 tw2 Bw2 mw2 dw2 Hw2 hbw2; obtain ⟨R0, L0, F0⟩ := B80 w2 w))
 refine bodyPost_ret (v := .agg #[.bool sw1, .slice Aw1 nw1 cw1, .bool tw1, .slice Bw1 mw1 dw1, .bool sw2, .slice Aw2 nw2 cw2, .bool tw2, .slice Bw2 mw2 dw2]) (by simp [results, results29, go_sem, Z6, F0]) rfl ⟨⟨_, _, _, _, _, _, _, _⟩, ⟨_, _, _, _, _, _, _, _⟩, rfl, QX, QX, EX⟩
theorem Z06 (k : Int) (w : World) :
  Ca 72 #[.int .i64 k] w fun e w' => e = .returned (.bool (decide (0 ≤ k) && decide (k ≤ 400))) ∧ Ext w w' := by
 go_enter func72, ntmps72
 go_wp2
 all_goals go_ret
 all_goals refine ⟨?_, EX⟩
 all_goals first | (simp_all; done) | (simp_all; omega)
def Z6F (s : Bool) (l : List Nat) (t : Bool) (k : List Nat) : Rat := Rat.divInt (sgd s (val l)) (sgd t (val k))
theorem QAt.of_words {w : World} {s : Bool} {A : Option Addr} {n c : Nat} {t : Bool} {B : Option Addr} {m d : Nat} {l k : List Nat} (h1 : WAt w A n c l) (h2 : WAt w B m d k) (h : isQ s l t k = true) : QAt w s A n c t B m d (Z6F s l t k) := by
 simp only [isQ, Bool.and_eq_true, decide_eq_true_eq] at h
 obtain ⟨⟨⟨c1, c2⟩, hp⟩, hg⟩ := h
 obtain ⟨e1, e2⟩ := Z17 hg hp
 exact ⟨by unfold Z6F; rw [e1]; exact IAt.of_words h1 c1, by unfold Z6F; rw [e2]; exact IAt.of_words h2 c2⟩
def Z6O (s : Bool) (l : List Nat) (t : Bool) (k : List Nat) (s' : Bool) (l' : List Nat) (t' : Bool) (k' : List Nat) : Bool := isQ s l t k && isQ s' l' t' k' && decide (Z6F s l t k ≤ Z6F s' l' t' k')
theorem Z6U {x y : Rat} : Z0s x y = 0 ↔ x = y := by
 constructor
 ·intro h; exact Rat.le_antisymm (Z1P.1 (by omega)) (Z6T.1 (by omega))
 ·rintro rfl; unfold Z0s; rw [if_neg (Rat.lt_irrefl), if_neg (Rat.lt_irrefl)]
theorem QAt.qm_le {w : World} {s : Bool} {A : Option Addr} {n c : Nat} {t : Bool} {B : Option Addr} {m d : Nat} {x : Rat} (h : QAt w s A n c t B m d x) : qm x ≤ n + m := by
 have h1 := h.num.wl
 have h2 := h.den.wl
 exact Z9Y (by omega) (by omega)
theorem Z7U (p q : QC) (l k l' k' : List Nat) (w : World) (h1 : WAt w p.A p.n p.c l) (h2 : WAt w p.B p.m p.d k) (h3 : WAt w q.A q.n q.c l') (h4 : WAt w q.B q.m q.d k') (hs1 : p.n + 4 < Z8) (hs2 : p.m + 4 < Z8) (hs3 : q.n + 4 < Z8) (hs4 : q.m + 4 < Z8) (hsz : p.n + p.m + q.n + q.m + 8 < Z8) :
  Ca 11 #[.agg (zA0 p q)] w fun e w' => e = .returned (.bool (Z6O p.s l p.t k q.s l' q.t k')) ∧ Ext w w' := by
 have I1 := zH (fun W (e : Ext w W) => Z7V p.s p.t p.A p.B p.n p.c p.m p.d l k W (h1.ext e) (h2.ext e) hs1 hs2)
 have I2 := zH (fun W (e : Ext w W) => Z7V q.s q.t q.A q.B q.n q.c q.m q.d l' k' W (h3.ext e) (h4.ext e) hs3 hs4)
 unfold Z6O
 by_cases p1 : isQ p.s l p.t k = true
 ·by_cases p2 : isQ q.s l' q.t k' = true
  ·have j1 := QAt.of_words h1 h2 p1
   have j2 := QAt.of_words h3 h4 p2
   obtain ⟨x, hx⟩ : ∃ x, Z6F p.s l p.t k = x := ⟨_, rfl⟩
   obtain ⟨y, hy⟩ : ∃ y, Z6F q.s l' q.t k' = y := ⟨_, rfl⟩
   rw [hx] at j1 ⊢
   rw [hy] at j2 ⊢
   rw [p1] at I1 ⊢
   rw [p2] at I2 ⊢
   have m1 := j1.qm_le
   have m2 := j2.qm_le
   have C := zH (fun W (e : Ext w W) => Z1M p.s q.s p.t q.t p.A q.A p.B q.B p.n p.c p.m p.d q.n q.c q.m q.d x y W (j1.ext e) (j2.ext e) (by omega))
   have e1 : decide (Z0s x y ≤ 0) = decide (x ≤ y) := decide_eq_decide.2 Z1P
   rw [← e1]
   obtain ⟨z, hz⟩ : ∃ z, Z0s x y = z := ⟨_, rfl⟩
   rw [hz] at C ⊢
   obtain ⟨b1, hb1⟩ : ∃ b, decide (z ≤ 0) = b := ⟨_, rfl⟩
   rw [hb1]
   clear h1 h2 h3 h4 p1 p2 j1 j2 hx hy e1 hz m1 m2
   dsimp only [zA0]
   go_enter func11, ntmps11
   go_wp2_with (
    first
    | (go_at_call 24; (with_reducible refine (I1.out _ EX).mono ?_); rintro e w1 ⟨rfl, hbw1⟩; obtain ⟨R0, L0, F0⟩ := B80 w1 w)
    | (go_at_call 24; (with_reducible refine (I2.out _ EX).mono ?_); rintro e w2 ⟨rfl, hbw2⟩; obtain ⟨R0, L0, F0⟩ := B80 w2 w)
    | (go_at_call 26; (with_reducible refine (C.out _ EX).mono ?_); rintro e w3 ⟨rfl, hbw3⟩))
   all_goals go_ret
   all_goals refine ⟨?_, EX⟩
   all_goals (cases b1 <;> simp_all)
  ·have p2' : isQ q.s l' q.t k' = false := by simpa using p2
   rw [p1] at I1 ⊢
   rw [p2'] at I2 ⊢
   clear h1 h2 h3 h4 p1 p2 p2'
   go_enter func11, ntmps11
   go_wp2_with (
    first
    | (go_at_call 24; (with_reducible refine (I1.out _ EX).mono ?_); rintro e w1 ⟨rfl, hbw1⟩; obtain ⟨R0, L0, F0⟩ := B80 w1 w)
    | (go_at_call 24; (with_reducible refine (I2.out _ EX).mono ?_); rintro e w2 ⟨rfl, hbw2⟩; obtain ⟨R0, L0, F0⟩ := B80 w2 w))
   all_goals go_ret
   all_goals refine ⟨?_, EX⟩
   all_goals rfl
 ·have p1' : isQ p.s l p.t k = false := by simpa using p1
  rw [p1'] at I1 ⊢
  clear h1 h2 h3 h4 p1 p1'
  go_enter func11, ntmps11
  go_wp2_with (go_at_call 24; (with_reducible refine (I1.out _ EX).mono ?_); rintro e w1 ⟨rfl, hbw1⟩; obtain ⟨R0, L0, F0⟩ := B80 w1 w)
  all_goals go_ret
  all_goals refine ⟨?_, EX⟩
  all_goals rfl
theorem Zb0 (p q : QC) (l k l' k' : List Nat) (w : World) (h1 : WAt w p.A p.n p.c l) (h2 : WAt w p.B p.m p.d k) (h3 : WAt w q.A q.n q.c l') (h4 : WAt w q.B q.m q.d k') (hs1 : p.n + 4 < Z8) (hs2 : p.m + 4 < Z8) (hs3 : q.n + 4 < Z8) (hs4 : q.m + 4 < Z8) (hsz : p.n + p.m + q.n + q.m + 8 < Z8) :
  Ca 10 #[.agg (zA0 p q)] w fun e w' => e = .returned (.bool (Z6O p.s l p.t k q.s l' q.t k')) ∧ Ext w w' := by
 have I1 := zH (fun W (e : Ext w W) => Z7T p.s p.t p.A p.B p.n p.c p.m p.d l k W (h1.ext e) (h2.ext e) hs1 hs2)
 have I2 := zH (fun W (e : Ext w W) => Z7T q.s q.t q.A q.B q.n q.c q.m q.d l' k' W (h3.ext e) (h4.ext e) hs3 hs4)
 unfold Z6O
 by_cases p1 : isQ p.s l p.t k = true
 ·by_cases p2 : isQ q.s l' q.t k' = true
  ·have j1 := QAt.of_words h1 h2 p1
   have j2 := QAt.of_words h3 h4 p2
   obtain ⟨x, hx⟩ : ∃ x, Z6F p.s l p.t k = x := ⟨_, rfl⟩
   obtain ⟨y, hy⟩ : ∃ y, Z6F q.s l' q.t k' = y := ⟨_, rfl⟩
   rw [hx] at j1 ⊢
   rw [hy] at j2 ⊢
   rw [p1] at I1 ⊢
   rw [p2] at I2 ⊢
   have m1 := j1.qm_le
   have m2 := j2.qm_le
   have C := zH (fun W (e : Ext w W) => Z0U p.s q.s p.t q.t p.A q.A p.B q.B p.n p.c p.m p.d q.n q.c q.m q.d x y W (j1.ext e) (j2.ext e) (by omega))
   have e1 : decide (Z0s x y ≤ 0) = decide (x ≤ y) := decide_eq_decide.2 Z1P
   rw [← e1]
   obtain ⟨z, hz⟩ : ∃ z, Z0s x y = z := ⟨_, rfl⟩
   rw [hz] at C ⊢
   obtain ⟨b1, hb1⟩ : ∃ b, decide (z ≤ 0) = b := ⟨_, rfl⟩
   rw [hb1]
   clear h1 h2 h3 h4 p1 p2 j1 j2 hx hy e1 hz m1 m2
   dsimp only [zA0]
   go_enter func10, ntmps10
   go_wp2_with (
    first
    | (go_at_call 58; (with_reducible refine (I1.out _ EX).mono ?_); rintro e w1 ⟨rfl, hbw1⟩; obtain ⟨R0, L0, F0⟩ := B80 w1 w)
    | (go_at_call 58; (with_reducible refine (I2.out _ EX).mono ?_); rintro e w2 ⟨rfl, hbw2⟩; obtain ⟨R0, L0, F0⟩ := B80 w2 w)
    | (go_at_call 59; (with_reducible refine (C.out _ EX).mono ?_); rintro e w3 ⟨rfl, hbw3⟩))
   all_goals go_ret
   all_goals refine ⟨?_, EX⟩
   all_goals (cases b1 <;> simp_all)
  ·have p2' : isQ q.s l' q.t k' = false := by simpa using p2
   rw [p1] at I1 ⊢
   rw [p2'] at I2 ⊢
   clear h1 h2 h3 h4 p1 p2 p2'
   go_enter func10, ntmps10
   go_wp2_with (
    first
    | (go_at_call 58; (with_reducible refine (I1.out _ EX).mono ?_); rintro e w1 ⟨rfl, hbw1⟩; obtain ⟨R0, L0, F0⟩ := B80 w1 w)
    | (go_at_call 58; (with_reducible refine (I2.out _ EX).mono ?_); rintro e w2 ⟨rfl, hbw2⟩; obtain ⟨R0, L0, F0⟩ := B80 w2 w))
   all_goals go_ret
   all_goals refine ⟨?_, EX⟩
   all_goals rfl
 ·have p1' : isQ p.s l p.t k = false := by simpa using p1
  rw [p1'] at I1 ⊢
  clear h1 h2 h3 h4 p1 p1'
  go_enter func10, ntmps10
  go_wp2_with (go_at_call 58; (with_reducible refine (I1.out _ EX).mono ?_); rintro e w1 ⟨rfl, hbw1⟩; obtain ⟨R0, L0, F0⟩ := B80 w1 w)
  all_goals go_ret
  all_goals refine ⟨?_, EX⟩
  all_goals rfl
theorem ZbX (p q : QC) (x y : Rat) (w : World) (ha : p.At w x) (hb : q.At w y) (hs : qm x + qm y + 8 < Z8) :
  Ca 153 #[.agg (zA0 p q)] w fun e w' => e = .returned (.bool (decide (x = y))) ∧ Ext w w' := by
 have C := zH (fun W (e : Ext w W) => Z0U p.s q.s p.t q.t p.A q.A p.B q.B p.n p.c p.m p.d q.n q.c q.m q.d x y W (ha.ext e) (hb.ext e) hs)
 have e1 : decide (Z0s x y = 0) = decide (x = y) := decide_eq_decide.2 Z6U
 rw [← e1]
 obtain ⟨z, hz⟩ : ∃ z, Z0s x y = z := ⟨_, rfl⟩
 rw [hz] at C ⊢
 obtain ⟨b1, hb1⟩ : ∃ b, decide (z = 0) = b := ⟨_, rfl⟩
 rw [hb1]
 clear ha hb e1 hz
 dsimp only [zA0]
 go_enter func153, ntmps153
 go_wp2_with (go_at_call 59; (with_reducible refine (C.out _ EX).mono ?_); rintro e w1 ⟨rfl, hbw1⟩)
 all_goals go_ret
 all_goals refine ⟨?_, EX⟩
 all_goals (cases b1 <;> simp_all)
theorem Z2s (p q : QC) (x y : Rat) (w : World) (ha : p.At w x) (hb : q.At w y) (k : Int) (hk0 : -524288 ≤ k) (hk1 : k ≤ 524288) (hs : 2 * (qm x + qm y) + 20000 < Z8) :
  Ca 83 #[.agg (zA0 p q), .int .i64 k] w fun e w' => e = .returned (.bool (decide (y - x ≤ Z02 (-k)))) ∧ Ext w w' := by
 have m1 := Z5n y x
 have m2 := Z1y (-k)
 have f7 : IntKind.i64.wrap (-k) = -k := by rw [IntKind.wrap_i64]; omega
 have e1 : decide (Z0s (y - x) (Z02 (-k)) ≤ 0) = decide (y - x ≤ Z02 (-k)) := decide_eq_decide.2 Z1P
 rw [← e1]
 have HA := zH ha
 have HB := zH hb
 obtain ⟨z, hz⟩ : ∃ z, Z0s (y - x) (Z02 (-k)) = z := ⟨_, rfl⟩
 rw [hz]
 have HZ := zH hz
 obtain ⟨b1, hb1⟩ : ∃ b, decide (z ≤ 0) = b := ⟨_, rfl⟩
 rw [hb1]
 clear ha hb e1 hz
 dsimp only [zA0]
 go_enter func83, ntmps83
 go_wp2_with (
  first
  | (go_at_call 133; (with_reducible refine (Z1s (h1 := QX) (h2 := QX) (hs := by omega)).mono ?_); refine rQ ?_; intro w1 sw1 Aw1 nw1 cw1 tw1 Bw1 mw1 dw1 Hw1 hbw1; obtain ⟨R0, L0, F0⟩ := B80 w1 w)
  | (go_at_call 139; (with_reducible refine (Z1N _ _ (by omega) (by omega)).mono ?_); refine rQ ?_; intro w2 sw2 Aw2 nw2 cw2 tw2 Bw2 mw2 dw2 Hw2 hbw2; obtain ⟨R0, L0, F0⟩ := B80 w2 w)
  | (go_at_call 59; (with_reducible refine (Z0U (h1 := QX) (h2 := QX) (hs := by omega)).mono ?_); rw [HZ.out]; rintro e w3 ⟨rfl, hbw3⟩))
 all_goals go_ret
 all_goals refine ⟨?_, EX⟩
 all_goals (cases b1 <;> simp_all)
theorem Z4c (p q : QC) (x y : Rat) (w : World) (ha : p.At w x) (hb : q.At w y) (hs : 2 * (qm x + qm y) + 8 < Z8) :
  Ca 69 #[.agg (zA0 p q)] w fun e w' => e = .returned (.bool (decide (x.num ≤ 0) && decide (0 ≤ y.num))) ∧ Ext w w' := by
 have hn1 := ha.n
 have hn2 := hb.n
 have S1 := zH (fun W (e : Ext w W) => Zy p.s p.A p.n p.c p.t p.B p.m p.d x W (ha.ext e) (by omega))
 have S2 := zH (fun W (e : Ext w W) => Zy q.s q.A q.n q.c q.t q.B q.m q.d y W (hb.ext e) (by omega))
 have e1 : decide (Z0R x.num ≤ 0) = decide (x.num ≤ 0) := decide_eq_decide.2 (Z91 _)
 have e2 : decide (0 ≤ Z0R y.num) = decide (0 ≤ y.num) := decide_eq_decide.2 (Z92 _)
 rw [← e1, ← e2]
 obtain ⟨u, hu⟩ : ∃ z, Z0R x.num = z := ⟨_, rfl⟩
 obtain ⟨v, hv⟩ : ∃ z, Z0R y.num = z := ⟨_, rfl⟩
 rw [hu] at S1 ⊢
 rw [hv] at S2 ⊢
 obtain ⟨b1, hb1⟩ : ∃ z, decide (u ≤ 0) = z := ⟨_, rfl⟩
 obtain ⟨b2, hb2⟩ : ∃ z, decide (0 ≤ v) = z := ⟨_, rfl⟩
 rw [hb1, hb2]
 clear ha hb hu hv e1 e2
 dsimp only [zA0]
 go_enter func69, ntmps69
 go_wp2_with (
  first
  | (go_at_call 84; (with_reducible refine (S1.out _ EX).mono ?_); rintro e w1 ⟨rfl, hbw1⟩; obtain ⟨R0, L0, F0⟩ := B80 w1 w)
  | (go_at_call 84; (with_reducible refine (S2.out _ EX).mono ?_); rintro e w2 ⟨rfl, hbw2⟩))
 all_goals go_ret
 all_goals refine ⟨?_, EX⟩
 all_goals (cases b1 <;> cases b2 <;> simp_all)
theorem Z2v (a b c d : QC) (x y u v : Rat) (w : World) (ha : a.At w x) (hb : b.At w y) (hc0 : c.At w u) (hd : d.At w v) (hs : 2 * (qm x + qm y + qm u + qm v) + 8 < Z8) :
  Ca 61 #[.agg (zA0 a b), .agg (zA0 c d)] w (Z0e w (x + u) (y + v)) := by
 have HA := zH ha
 have HB := zH hb
 have HC := zH hc0
 have HD := zH hd
 clear ha hb hc0 hd
 dsimp only [zA0]
 go_enter func61, ntmps61
 go_wp2_with fail
 go_region_held3 (fun w' => zC w' w.heap.size 0 (.bool a.s) ∧ zC w' w.heap.size 1 (.slice a.A a.n a.c) ∧ zC w' w.heap.size 2 (.bool a.t) ∧ zC w' w.heap.size 3 (.slice a.B a.m a.d) ∧ zC w' w.heap.size 4 (.bool b.s) ∧ zC w' w.heap.size 5 (.slice b.A b.n b.c) ∧ zC w' w.heap.size 6 (.bool b.t) ∧ zC w' w.heap.size 7 (.slice b.B b.m b.d) ∧ zC w' (w.heap.size + 1) 0 (.bool c.s) ∧ zC w' (w.heap.size + 1) 1 (.slice c.A c.n c.c) ∧ zC w' (w.heap.size + 1) 2 (.bool c.t) ∧ zC w' (w.heap.size + 1) 3 (.slice c.B c.m c.d) ∧ zC w' (w.heap.size + 1) 4 (.bool d.s) ∧ zC w' (w.heap.size + 1) 5 (.slice d.A d.n d.c) ∧ zC w' (w.heap.size + 1) 6 (.bool d.t) ∧ zC w' (w.heap.size + 1) 7 (.slice d.B d.m d.d)) (first | (exact HXC) | (simp [go_sem]; done) | (simp [go_sem, *]; done) | (exact Zac)) (first | (go_at_call 132; (with_reducible refine (Z0V a.s c.s a.t c.t a.A c.A a.B c.B a.n a.c a.m a.d c.n c.c c.m c.d x u _ QX QX (by omega)).mono ?_); refine rQ ?_; intro w1 sw1 Aw1 nw1 cw1 tw1 Bw1 mw1 dw1 Hw1 hbw1; obtain ⟨R2, L2, F2⟩ := B82 w1 w) | (go_at_call 132; (with_reducible refine (Z0V b.s d.s b.t d.t b.A d.A b.B d.B b.n b.c b.m b.d d.n d.c d.m d.d y v _ QX QX (by omega)).mono ?_); refine rQ ?_; intro w2 sw2 Aw2 nw2 cw2 tw2 Bw2 mw2 dw2 Hw2 hbw2; obtain ⟨R2, L2, F2⟩ := B82 w2 w))
 all_goals go_wp2_with fail
 all_goals refine bodyPost_ret (v := .agg #[.bool sw1, .slice Aw1 nw1 cw1, .bool tw1, .slice Bw1 mw1 dw1, .bool sw2, .slice Aw2 nw2 cw2, .bool tw2, .slice Bw2 mw2 dw2]) (by simp [results, results61, go_sem, Z6, F2]) rfl ⟨⟨_, _, _, _, _, _, _, _⟩, ⟨_, _, _, _, _, _, _, _⟩, rfl, QX, QX, EX⟩
theorem Z2A (a b c d : QC) (x y u v : Rat) (w : World) (ha : a.At w x) (hb : b.At w y) (hc0 : c.At w u) (hd : d.At w v) (hs : 2 * (qm x + qm y + qm u + qm v) + 8 < Z8) :
  Ca 64 #[.agg (zA0 a b), .agg (zA0 c d)] w (Z0e w (x - v) (y - u)) := by
 have HA := zH ha
 have HB := zH hb
 have HC := zH hc0
 have HD := zH hd
 clear ha hb hc0 hd
 dsimp only [zA0]
 go_enter func64, ntmps64
 go_wp2_with fail
 go_region_held3 (fun w' => zC w' w.heap.size 0 (.bool a.s) ∧ zC w' w.heap.size 1 (.slice a.A a.n a.c) ∧ zC w' w.heap.size 2 (.bool a.t) ∧ zC w' w.heap.size 3 (.slice a.B a.m a.d) ∧ zC w' w.heap.size 4 (.bool b.s) ∧ zC w' w.heap.size 5 (.slice b.A b.n b.c) ∧ zC w' w.heap.size 6 (.bool b.t) ∧ zC w' w.heap.size 7 (.slice b.B b.m b.d) ∧ zC w' (w.heap.size + 1) 0 (.bool c.s) ∧ zC w' (w.heap.size + 1) 1 (.slice c.A c.n c.c) ∧ zC w' (w.heap.size + 1) 2 (.bool c.t) ∧ zC w' (w.heap.size + 1) 3 (.slice c.B c.m c.d) ∧ zC w' (w.heap.size + 1) 4 (.bool d.s) ∧ zC w' (w.heap.size + 1) 5 (.slice d.A d.n d.c) ∧ zC w' (w.heap.size + 1) 6 (.bool d.t) ∧ zC w' (w.heap.size + 1) 7 (.slice d.B d.m d.d)) (first | (exact HXC) | (simp [go_sem]; done) | (simp [go_sem, *]; done) | (exact Zac)) (first | (go_at_call 133; (with_reducible refine (Z1s a.s d.s a.t d.t a.A d.A a.B d.B a.n a.c a.m a.d d.n d.c d.m d.d x v _ QX QX (by omega)).mono ?_); refine rQ ?_; intro w1 sw1 Aw1 nw1 cw1 tw1 Bw1 mw1 dw1 Hw1 hbw1; obtain ⟨R2, L2, F2⟩ := B82 w1 w) | (go_at_call 133; (with_reducible refine (Z1s b.s c.s b.t c.t b.A c.A b.B c.B b.n b.c b.m b.d c.n c.c c.m c.d y u _ QX QX (by omega)).mono ?_); refine rQ ?_; intro w2 sw2 Aw2 nw2 cw2 tw2 Bw2 mw2 dw2 Hw2 hbw2; obtain ⟨R2, L2, F2⟩ := B82 w2 w))
 all_goals go_wp2_with fail
 all_goals refine bodyPost_ret (v := .agg #[.bool sw1, .slice Aw1 nw1 cw1, .bool tw1, .slice Bw1 mw1 dw1, .bool sw2, .slice Aw2 nw2 cw2, .bool tw2, .slice Bw2 mw2 dw2]) (by simp [results, results64, go_sem, Z6, F2]) rfl ⟨⟨_, _, _, _, _, _, _, _⟩, ⟨_, _, _, _, _, _, _, _⟩, rfl, QX, QX, EX⟩
theorem Z3x (x : Rat) : wl x.floor ≤ qm x := by
 rw [Rat.floor_def]
 exact Nat.le_trans (Z8N _ _ (by have := x.den_pos; omega)) (Z0x x)
def Zl (x : Rat) (k : Int) : Rat := (((x * Z02 k).floor : Int) : Rat) * Z02 (-k)
theorem Z4F (x : Rat) (k : Int) : qm (Zl x k) ≤ qm x + 2 * (k.natAbs / 32) + 3 := by
 unfold Zl
 have h1 := Z09 (((x * Z02 k).floor : Int) : Rat) (Z02 (-k))
 have h2 := Z32 ((x * Z02 k).floor)
 have h3 := Z3x (x * Z02 k)
 have h4 := Z09 x (Z02 k)
 have h5 := Z1y k
 have h6 := Z1y (-k)
 omega
theorem Z4T (s : Bool) (A : Option Addr) (n c : Nat) (t : Bool) (B : Option Addr) (m d : Nat) (x : Rat) (k : Int) (w : World) (h : QAt w s A n c t B m d x) (h1 : -524288 ≤ k) (h2 : k ≤ 524288) (hs : qm x + 40000 < Z8) :
  Ca 74 #[.agg (Z01 s A n c t B m d), .int .i64 k] w (Z0G w (Zl x k)) := by
 have m1 := Z09 x (Z02 k)
 have m2 := Z1y k
 have m3 := Z1y (-k)
 have m4 := Z32 ((x * Z02 k).floor)
 have m5 := Z3x (x * Z02 k)
 have f7 : IntKind.i64.wrap (-k) = -k := by rw [IntKind.wrap_i64]; omega
 have HX := zH h
 clear h
 dsimp only [Z01]
 go_enter func74, ntmps74
 go_wp2_with fail
 go_cut [5] (fun p5 wx => ∃ g5 s5 A5 n5 c5, p5 = .pointer (some ⟨g5, 0, none⟩) ∧ BK wx g5 #[.bool s5, .slice A5 n5 c5] ∧ IAt wx s5 A5 n5 c5 (x * Z02 k).floor ∧ BK wx (w.heap.size + 1) zA9 ∧ g5 ≠ w.heap.size + 1 ∧ Ext w wx)
 case first =>
  go_region_held3 (fun w' => zC w' w.heap.size 0 (.bool s) ∧ zC w' w.heap.size 1 (.slice A n c) ∧ zC w' w.heap.size 2 (.bool t) ∧ zC w' w.heap.size 3 (.slice B m d)) (first | (exact HXC) | (simp [go_sem]; done) | (simp [go_sem, *]; done) | (exact HX4)) (first | (go_at_call 95; (with_reducible refine (Z3V k _ h1 h2).mono ?_); refine rQ ?_; intro w1 sw1 Aw1 nw1 cw1 tw1 Bw1 mw1 dw1 Hw1 hbw1; obtain ⟨R1, L1, F1⟩ := B41 w1 w; obtain ⟨hcw1, hfw1⟩ := hbw1.cells; (try simp only [SZ, Nat.add_assoc, Nat.reduceAdd] at hcw1 hfw1); have := hbw1.sz; (try have zw10 : w.heap.size < w1.heap.size := (by omega)); (try have zw11 : w.heap.size + 1 < w1.heap.size := (by omega)); (try have zw12 : w.heap.size + 1 + 1 < w1.heap.size := (by omega))) | (go_at_call 37; (with_reducible refine (Z1L (h1 := QX) (h2 := QX) (hs := by omega)).mono ?_); refine rQ ?_; intro w2 sw2 Aw2 nw2 cw2 tw2 Bw2 mw2 dw2 Hw2 hbw2; obtain ⟨R1, L1, F1⟩ := B41 w2 w; obtain ⟨hcw2, hfw2⟩ := hbw2.cells; (try simp only [SZ, Nat.add_assoc, Nat.reduceAdd] at hcw2 hfw2); have := hbw2.sz; (try have zw20 : w.heap.size < w2.heap.size := (by omega)); (try have zw21 : w.heap.size + 1 < w2.heap.size := (by omega)); (try have zw22 : w.heap.size + 1 + 1 < w2.heap.size := (by omega)); (try have zw23 : w1.heap.size < w2.heap.size := (by omega))) | (go_at_call 144; (with_reducible refine (Z7w (h := QX) (hs := by omega)).mono ?_); refine rI ?_; intro w3 sw3 Aw3 nw3 cw3 Hw3 hbw3; obtain ⟨R1, L1, F1⟩ := B41 w3 w; obtain ⟨hcw3, hfw3⟩ := hbw3.cells; (try simp only [SZ, Nat.add_assoc, Nat.reduceAdd] at hcw3 hfw3); have := hbw3.sz; (try have zw30 : w.heap.size < w3.heap.size := (by omega)); (try have zw31 : w.heap.size + 1 < w3.heap.size := (by omega)); (try have zw32 : w.heap.size + 1 + 1 < w3.heap.size := (by omega)); (try have zw33 : w1.heap.size < w3.heap.size := (by omega)); (try have zw34 : w2.heap.size < w3.heap.size := (by omega))))
  all_goals go_wp2_with fail
  all_goals go_meet
  all_goals go_light
  all_goals exact ⟨_, sw3, Aw3, nw3, cw3, rfl, BX, IX, BX, (by omega), EX⟩
 case rest =>
  obtain ⟨g5, s5, A5, n5, c5, rfl, B5, hI, R1, hne, hx⟩ := hcut
  have HI := zH hI
  have F5 := B5.c2
  have F1 := R1.c4
  have L1 := R1.lt
  clear hI
  go_wp2_with (
  first
  | (go_at_call 92; (with_reducible refine (Z2F (h := IX)).mono ?_); refine rQ ?_; intro w5 sw5 Aw5 nw5 cw5 tw5 Bw5 mw5 dw5 Hw5 hbw5; obtain ⟨R1, L1, F1⟩ := B41 w5 w)
  | (go_at_call 95; (with_reducible refine (Z3V (-k) _ (by omega) (by omega)).mono ?_); refine rQ ?_; intro w6 sw6 Aw6 nw6 cw6 tw6 Bw6 mw6 dw6 Hw6 hbw6; obtain ⟨R1, L1, F1⟩ := B41 w6 w)
  | (go_at_call 37; (with_reducible refine (Z1L (h1 := QX) (h2 := QX) (hs := by omega)).mono ?_); refine rQ ?_; intro w7 sw7 Aw7 nw7 cw7 tw7 Bw7 mw7 dw7 Hw7 hbw7; obtain ⟨R1, L1, F1⟩ := B41 w7 w))
  refine bodyPost_ret (v := .agg (Z01 sw7 Aw7 nw7 cw7 tw7 Bw7 mw7 dw7)) (by simp [Z01, results, results74, go_sem, Z6, F1]) rfl ⟨_, _, _, _, _, _, _, _, rfl, QX, EX⟩
theorem Z7k (p q : QC) (x y : Rat) (k : Int) (w : World) (ha : p.At w x) (hb : q.At w y) (h1 : -524288 ≤ k) (h2 : k ≤ 524288) (hs : qm x + qm y + 100000 < Z8) :
  Ca 23 #[.agg (zA0 p q), .int .i64 k] w (Z0e w (Zl x k) (-Zl (-y) k)) := by
 have m1 := Z4F (-y) k
 have m2 := Z22 y
 have n2 := hb.n
 have HA := zH ha
 have HB := zH hb
 clear ha hb
 dsimp only [zA0]
 go_enter func23, ntmps23
 go_wp2_with fail
 go_region_held3 (fun w' => zC w' w.heap.size 0 (.bool p.s) ∧ zC w' w.heap.size 1 (.slice p.A p.n p.c) ∧ zC w' w.heap.size 2 (.bool p.t) ∧ zC w' w.heap.size 3 (.slice p.B p.m p.d) ∧ zC w' w.heap.size 4 (.bool q.s) ∧ zC w' w.heap.size 5 (.slice q.A q.n q.c) ∧ zC w' w.heap.size 6 (.bool q.t) ∧ zC w' w.heap.size 7 (.slice q.B q.m q.d)) (first | (exact HXC) | (simp [go_sem]; done) | (simp [go_sem, *]; done) | (exact HX8)) (first | (go_at_call 74; (with_reducible refine (Z4T p.s p.A p.n p.c p.t p.B p.m p.d x k _ QX h1 h2 (by omega)).mono ?_); refine rQ ?_; intro w1 sw1 Aw1 nw1 cw1 tw1 Bw1 mw1 dw1 Hw1 hbw1; obtain ⟨R1, L1, F1⟩ := B81 w1 w) | (go_at_call 35; (with_reducible refine (Z2R q.s q.A q.n q.c q.t q.B q.m q.d y _ QX (by unfold Z8 at hs ⊢; omega)).mono ?_); refine rQ ?_; intro w2 sw2 Aw2 nw2 cw2 tw2 Bw2 mw2 dw2 Hw2 hbw2; obtain ⟨R1, L1, F1⟩ := B81 w2 w) | (go_at_call 74; (with_reducible refine (Z4T sw2 Aw2 nw2 cw2 tw2 Bw2 mw2 dw2 (-y) k _ QX h1 h2 (by omega)).mono ?_); refine rQ ?_; intro w3 sw3 Aw3 nw3 cw3 tw3 Bw3 mw3 dw3 Hw3 hbw3; obtain ⟨R1, L1, F1⟩ := B81 w3 w; have n3 := Hw3.out.n) | (go_at_call 35; (with_reducible refine (Z2R sw3 Aw3 nw3 cw3 tw3 Bw3 mw3 dw3 _ _ QX (by unfold Z8 at hs ⊢; omega)).mono ?_); refine rQ ?_; intro w4 sw4 Aw4 nw4 cw4 tw4 Bw4 mw4 dw4 Hw4 hbw4; obtain ⟨R1, L1, F1⟩ := B81 w4 w))
 all_goals go_wp2_with fail
 all_goals refine bodyPost_ret (v := .agg #[.bool sw1, .slice Aw1 nw1 cw1, .bool tw1, .slice Bw1 mw1 dw1, .bool sw4, .slice Aw4 nw4 cw4, .bool tw4, .slice Bw4 mw4 dw4]) (by simp [results, results23, go_sem, Z6, F1]) rfl ⟨⟨_, _, _, _, _, _, _, _⟩, ⟨_, _, _, _, _, _, _, _⟩, rfl, QX, QX, EX⟩
end Go.Proofs.YtnmmncccpdffaaaGreat
