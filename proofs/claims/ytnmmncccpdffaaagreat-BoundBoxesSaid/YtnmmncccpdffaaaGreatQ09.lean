/- What BoundBoxes calls, part 9. -/
import Derived.LoopN
import Derived.Test.YtnmmncccpdffaaaGreatQ08
set_option linter.unusedVariables false
set_option linter.unusedSimpArgs false
set_option maxRecDepth 100000
set_option maxHeartbeats 16000000
namespace Go.Proofs.YtnmmncccpdffaaaGreat
open Go.Proofs.Tryz Go Go.RowKit Go.Shelf
theorem BK.fin {P : Program} {fn : Func} {R : Ending → World → Prop} {ex : Exit} {a : Act} {w0 w : World} {g : Nat} {c : Array Value} (h : BK w g c) (e : Ext w0 w) (k : ∀ W, BK W g c → Ext w0 W → bodyPost P fn R ex a W) : bodyPost P fn R ex a w := k w h e
theorem Z1D (kg : Nat) (capg : Array Value) (eg : ∀ args w, (callFunc kg args).run Tryz.prog w = .ok (.enter kg args) w) (kd : Nat) (caps : Array Value) (ed : ∀ args w, (callFunc kd args).run Tryz.prog w = .ok (.enter kd args) w) (n : Int) (x y : Rat) (w : World) (h0 : 0 ≤ n) (h1 : n ≤ 65000) (H : ∀ W, Ext w W → Ca kd (#[.int .i64 (n + 24)] ++ caps) W (Z0e W x y)) (G : ∀ W (p q : QC), Ext w W → p.At W x → q.At W y → Ca kg (#[.agg #[.bool p.s, .slice p.A p.n p.c, .bool p.t, .slice p.B p.m p.d, .bool q.s, .slice q.A q.n q.c, .bool q.t, .slice q.B q.m q.d]] ++ capg) W fun e w' => e = .returned (.bool true) ∧ Ext W w') :
  Ca 85 #[.int .i64 n, .func (.func kg) #[] capg, .func (.func kd) #[] caps] w (Z50 w x y) := by
 have hmf : ∀ (fn : Fn) (first cap : Array Value) (w : World), (Instr.makeFunc fn first cap).run Tryz.prog w = .ok (.func fn first cap) w := fun _ _ _ _ => rfl
 have hw : IntKind.i64.wrap (n + 24) = n + 24 := by rw [IntKind.wrap_i64]; omega
 have hle : decide (n + 24 ≤ 65536) = true := by rw [decide_eq_true]; omega
 have HH := zH H
 clear H
 have GG := zH G
 clear G
 go_enter func85, ntmps85
 go_wp2_with fail
 refine wp_loop_rounds 1 ?_
 rw [rounds_succ]
 go_wp2_with (
  first
  | (go_at_call 149; ((with_reducible refine (Z7C _ _ x y _ (fun W e => Z8C kd caps ed _ _ _ x y W BX BX (fun W2 e2 => HH.out _ EX))).mono ?_)); rintro e w1 ⟨pw1, qw1, rfl, hQ, hQ', hbw1⟩; have Hw1 := zH hQ; have Kw1 := zH hQ'; clear hQ hQ'; obtain ⟨R0, L0, F0⟩ := BC1 w1 w.heap.size; obtain ⟨R1, L1, F1⟩ := B81 w1 w; obtain ⟨R2, L2, F2⟩ := BC1 w1 (w.heap.size + 1 + 1))
  | (go_at_call 63; ((with_reducible refine (Z3c pw1 qw1 _).mono ?_)); rintro e w3 ⟨rfl, hbw3⟩; obtain ⟨R1, L1, F1⟩ := B81 w3 w)
  | ((with_reducible refine (GG.out _ pw1 qw1 EX QX QX).mono ?_); rintro e w2 ⟨rfl, hbw2⟩; obtain ⟨Ra, La, Fa⟩ := BC8 w2 w1.heap.size; obtain ⟨R1, L1, F1⟩ := B81 w2 w))
 refine bodyPost_ret (v := .tuple #[.agg (zA0 pw1 qw1), .int .i64 0]) (by simp [zA0, results, results85, go_sem, Z6, F1]) rfl ⟨pw1, qw1, rfl, QX, QX, EX⟩
theorem Z4y (kg : Nat) (capg : Array Value) (eg : ∀ args w, (callFunc kg args).run Tryz.prog w = .ok (.enter kg args) w) (kd : Nat) (caps : Array Value) (ed : ∀ args w, (callFunc kd args).run Tryz.prog w = .ok (.enter kd args) w) (n k : Int) (hk : k ≠ 0) (w : World) (h0 : 0 ≤ n) (h1 : n ≤ 65000) (H : ∀ W, Ext w W → Ca kd (#[.int .i64 (n + 24)] ++ caps) W (Z3d W k)) :
  Ca 85 #[.int .i64 n, .func (.func kg) #[] capg, .func (.func kd) #[] caps] w fun e w' => e = .returned (.tuple #[.agg zA5, .int .i64 k]) ∧ Ext w w' := by
 have hmf : ∀ (fn : Fn) (first cap : Array Value) (w : World), (Instr.makeFunc fn first cap).run Tryz.prog w = .ok (.func fn first cap) w := fun _ _ _ _ => rfl
 have hw : IntKind.i64.wrap (n + 24) = n + 24 := by rw [IntKind.wrap_i64]; omega
 have hle : decide (n + 24 ≤ 65536) = true := by rw [decide_eq_true]; omega
 have HH := zH H
 clear H
 dsimp only [zA5]
 go_enter func85, ntmps85
 go_wp2_with fail
 refine wp_loop_rounds 1 ?_
 rw [rounds_succ]
 go_wp2_with (
  first
  | (go_at_call 149; ((with_reducible refine (Z3J _ _ k _ (fun W e => Z4i kd caps ed _ _ _ k W BX BX (fun W2 e2 => HH.out _ EX))).mono ?_)); rintro e w1 ⟨rfl, hbw1⟩; obtain ⟨R0, L0, F0⟩ := BC1 w1 w.heap.size; obtain ⟨R1, L1, F1⟩ := B81 w1 w; obtain ⟨R2, L2, F2⟩ := BC1 w1 (w.heap.size + 1 + 1)))
 go_region_held3 (fun w' => zC w' (w1.heap.size + 1) 0 (.int .i64 k)) (first | (simp [go_sem]; done) | (with_reducible (repeat (first | assumption | refine Z0t ?_ _ | refine Z3T ?_ | refine Z5c ?_ (by simp only; omega) _)); done) | (simp [go_sem, *]; done)) (fail)
 all_goals go_wp2_with ((with_reducible refine BK.fin (g := w.heap.size + 1) (c := #[.bool false, .slice none 0 0, .bool false, .slice none 0 0, .bool false, .slice none 0 0, .bool false, .slice none 0 0]) (w0 := w) BX EX (fun W U E => ?_)); have Fu := U.c8; exact bodyPost_ret (v := .tuple #[.agg zA5, .int .i64 k]) (by simp [zA5, results, results85, go_sem, Fu]) rfl ⟨rfl, E⟩)
def Z9a (x : Rat) : Nat := nb x.floor.natAbs + 1
def Zd9 (k : Int) (x : Rat) : Int := k + 2 * x.floor + 3 * (Z9a x : Int) + 20
def Z0X (k : Int) (x : Rat) : Int := (2 : Int) ^ (Zd9 k x).toNat
def Z6P (k : Int) (x : Rat) : Int := (x * Z02 (-(Z9a x : Int)) * ((Z0X k x : Int) : Rat)).floor
def Z6Q (k : Int) (x : Rat) (i : Nat) : Int × Int := Z8b (Z0X k x) (Z6P k x) (Z6P k x + 1) i
def sqT (one : Int) (s : Int × Int) : Nat → Int × Int
 | 0 => s
 | i + 1 => ((sqT one s i).1 * (sqT one s i).1 / one, upI ((sqT one s i).2 * (sqT one s i).2) one)
def Z5u (k : Int) (x : Rat) (N : Nat) : Int × Int := (Z3E (fun i => (Z6Q k x i).1) N, Z3E (fun i => (Z6Q k x i).2) N + 16)
def Z5Y (k : Int) (x : Rat) (N i : Nat) : Int × Int := sqT (Z0X k x) (Z5u k x N) i
def Z5Z (k : Int) (x : Rat) (N : Nat) : Rat := Rat.divInt (Z5Y k x N (Z9a x)).1 (Z0X k x)
def Z6R (k : Int) (x : Rat) (N : Nat) : Rat := Rat.divInt (Z5Y k x N (Z9a x)).2 (Z0X k x)
structure Za8 (k : Int) (x : Rat) (N : Nat) : Prop where
 bits : 0 ≤ k ∧ k ≤ 70000
 pos : 0 < x
 floor : x.floor ≤ 1000
 qm : qm x ≤ 1000
 terms : N ≤ 1000000
 more : ∀ i, i < N → ¬ (Z6Q k x i).2 ≤ 4
 last : (Z6Q k x N).2 ≤ 4
 sizes : ∀ i, i ≤ N → wl (Z0X k x) + wl (Z6P k x) + wl (Z6P k x + 1) + wl (Z6Q k x i).1 + wl (Z6Q k x i).2 + wl (Z0X k x * ((i : Int) + 1)) + wl (Z3E (fun i => (Z6Q k x i).1) i) + wl (Z3E (fun i => (Z6Q k x i).2) i) + 10000 < Z8
 squares : ∀ i, i ≤ Z9a x → 2 * wl (Z5Y k x N i).1 + 2 * wl (Z5Y k x N i).2 + wl (Z0X k x) + 100 < Z8
 ends : _root_.Go.Proofs.YtnmmncccpdffaaaGreat.qm (Z5Z k x N) + _root_.Go.Proofs.YtnmmncccpdffaaaGreat.qm (Z6R k x N) + 100000 < Z8
theorem Z5o {x : Rat} (h : 0 < x) : 0 ≤ x.floor := by
 have : ((0 : Int) : Rat) ≤ x := by simpa using Rat.le_of_lt h
 exact Rat.le_floor_iff.2 this
theorem Z58 {x : Rat} (h : 0 < x) : 0 < x.num := by
 have h1 := Rat.num_nonneg.2 (Rat.le_of_lt h)
 have h2 : x.num ≠ 0 := fun e => by rw [Rat.num_eq_zero.1 e] at h; exact absurd h (by decide)
 omega
theorem BK.finB {P : Program} {fn : Func} {R : Ending → World → Prop} {ex : Exit} {a : Act} {w0 w : World} {g : Nat} {c : Array Value} {T : World → Prop} (h : BK w g c) (e : Ext w0 w) (t : T w) (k : ∀ W, BK W g c → Ext w0 W → T W → bodyPost P fn R ex a W) : bodyPost P fn R ex a w := k w h e t
theorem Zbv (k : Int) (x : Rat) (N j : Nat) : (Z5Y k x N (j + 1)).1 = (Z5Y k x N j).1 * (Z5Y k x N j).1 / Z0X k x := rfl
theorem Zbu (k : Int) (x : Rat) (N j : Nat) : (Z5Y k x N (j + 1)).2 = upI ((Z5Y k x N j).2 * (Z5Y k x N j).2) (Z0X k x) := rfl
theorem Z4M (k : Int) (x : Rat) : 0 < Z0X k x := Z43 _
theorem Z9T (gf : Nat) (k : Int) (f1 f2 f3 : Value) (q : QC) (x : Rat) (N : Nat) (w : World) (hf : BK w gf #[.int .i64 k, f1, f2, f3]) (hq : q.At w x) (E : Za8 k x N) :
  Ca 88 #[.pointer (some ⟨gf, 0, none⟩), .agg (zA3 q)] w (Z0e w (Zl (Z5Z k x N) (k + 2)) (-Zl (-(Z6R k x N)) (k + 2))) := by
 obtain ⟨hk0, hk1⟩ := E.bits
 have hz0 := Z5o E.pos
 have hz1 := E.floor
 have hqx := E.qm
 have hsg := Z00 (Z58 E.pos)
 have hkk : nb x.floor.natAbs ≤ 20 := Z1V (Nat.lt_of_le_of_lt (show x.floor.natAbs ≤ 1000 by omega) (by decide))
 obtain ⟨z, hz⟩ : ∃ z, z = x.floor := ⟨_, rfl⟩
 obtain ⟨K, hK⟩ : ∃ K : Nat, K = Z9a x := ⟨_, rfl⟩
 obtain ⟨S, hS⟩ : ∃ S, S = Zd9 k x := ⟨_, rfl⟩
 have hK' : ((nb x.floor.natAbs : Nat) : Int) + 1 = (K : Int) := by rw [hK]; unfold Z9a; push_cast; rfl
 have hS' : k + 2 * z + 3 * (K : Int) + 20 = S := by rw [hS, hz, hK]; rfl
 have hKb : K ≤ 21 := by omega
 have hSb : 0 ≤ S ∧ S ≤ 100000 := by omega
 obtain ⟨b, hb⟩ : ∃ b : Int, b = ((nb z.natAbs : Nat) : Int) := ⟨_, rfl⟩
 have hbK : b + 1 = (K : Int) := by rw [hb, hz]; exact hK'
 have f1w : IntKind.i64.wrap (b + 1) = (K : Int) := by rw [IntKind.wrap_i64]; omega
 have f2w : IntKind.i64.wrap (2 * z) = 2 * z := by rw [IntKind.wrap_i64]; omega
 have f3w : IntKind.i64.wrap (k + 2 * z) = k + 2 * z := by rw [IntKind.wrap_i64]; omega
 have f4w : IntKind.i64.wrap (3 * (K : Int)) = 3 * (K : Int) := by rw [IntKind.wrap_i64]; omega
 have f5w : IntKind.i64.wrap (k + 2 * z + 3 * (K : Int)) = k + 2 * z + 3 * (K : Int) := by rw [IntKind.wrap_i64]; omega
 have f6w : IntKind.i64.wrap (k + 2 * z + 3 * (K : Int) + 20) = S := by rw [IntKind.wrap_i64]; omega
 have f7w : IntKind.i64.wrap (-(K : Int)) = -(K : Int) := by rw [IntKind.wrap_i64]; omega
 have hn1 := hq.n
 have hm1 := hq.m
 have hwz : wl z ≤ 2 := Zo (by omega) (by omega)
 have hmw : 100000 < Z8 := by decide
 have HS := zH (fun W (e : Ext w W) => (by have := Zy q.s q.A q.n q.c q.t q.B q.m q.d x W (hq.ext e) (by omega); rw [hsg] at this; exact this : Ca 84 #[.agg #[.bool q.s, .slice q.A q.n q.c, .bool q.t, .slice q.B q.m q.d]] W fun e w' => e = .returned (.int .i64 1) ∧ Ext W w'))
 have HF := zH (fun W (e : Ext w W) => (by have := Z2C q.s q.A q.n q.c q.t q.B q.m q.d x W (hq.ext e) (by omega); rw [← hz] at this; exact this : Ca 142 #[.agg #[.bool q.s, .slice q.A q.n q.c, .bool q.t, .slice q.B q.m q.d]] W (Z1F W z)))
 have HB := zH (fun W s A n c (h : IAt W s A n c z) => (by have h2 := h.wl; have := ZU s A n c z W h (by omega); rw [← hb] at this; exact this : Ca 156 #[.agg #[.bool s, .slice A n c]] W fun e w' => e = .returned (.int .i64 b) ∧ Ext W w'))
 have HN := zH (fun W => (by have := Z3t S W (by omega) (by omega); rw [hS] at this ⊢; exact this : Ca 157 #[.int .i64 S] W (ZcC W S (Z0X k x))))
 have HQ := zH hq
 have HE := zH E
 have HZ := zH (And.intro hz (And.intro hK hS))
 have b1 := hf.lt
 have Ff := hf.c4
 rw [← hz] at hz0 hz1
 clear hq E hz hK hS hsg hb hS' hK' hbK hkk
 dsimp only [zA3]
 go_enter func88, ntmps88
 go_wp2_with (
  first
  | (go_at_call 84; (with_reducible refine (HS.out _ EX).mono ?_); rintro e w0 ⟨rfl, hbw0⟩; have hxl := hbw0; obtain ⟨R0, L0, F0⟩ := B40 w0 w; obtain ⟨Rf, Lf, Ff⟩ := BC4 w0 gf)
  | (go_at_call 142; (with_reducible refine (HF.out _ EX).mono ?_); refine rI ?_; intro w1 sw1 Aw1 nw1 cw1 Hw1 hbw1; have hxl := hbw1; obtain ⟨R0, L0, F0⟩ := B40 w1 w; obtain ⟨Rf, Lf, Ff⟩ := BC4 w1 gf)
  | (go_at_call 155; (with_reducible refine (Z7A (h := IX) (h0 := hz0) (h1 := by omega)).mono ?_); rintro e w2 ⟨rfl, hbw2⟩; have hxl := hbw2; obtain ⟨R0, L0, F0⟩ := B40 w2 w; obtain ⟨Rf, Lf, Ff⟩ := BC4 w2 gf; obtain ⟨R5, L5, F5⟩ := BC2 w2 w1.heap.size)
  | (go_at_call 156; (with_reducible refine (HB.out _ _ _ _ _ IX).mono ?_); rintro e w3 ⟨rfl, hbw3⟩; have hxl := hbw3; obtain ⟨R0, L0, F0⟩ := B40 w3 w; obtain ⟨Rf, Lf, Ff⟩ := BC4 w3 gf; obtain ⟨R5, L5, F5⟩ := BC2 w3 w1.heap.size)
  | (go_at_call 157; (with_reducible refine (HN.out _).mono ?_); refine rI ?_; intro w4 sw4 Aw4 nw4 cw4 Hw4 hbw4; have hxl := hbw4; obtain ⟨R0, L0, F0⟩ := B40 w4 w; obtain ⟨Rf, Lf, Ff⟩ := BC4 w4 gf; obtain ⟨R1, L1, F1⟩ := B81 w4 w))
 refine (?_ : ∀ (W : World) (g9 : Nat) (s4 : Bool) (A4 : Option Addr) (n4 c4 : Nat) (u2 u5 u6 u7 u11 u12 u13 u14 u15 u16 u17 u18 u19 u20 u21 u22 u23 u24 u25 u26 u27 u28 u29 u30 u31 u32 u33 u34 u35 u36 u37 u38 u39 u40 u41 u42 u43 u44 u45 u46 u47 u48 u49 u50 u51 u52 u53 u54 u55 u56 u57 u58 : Value), Ext w W → BK W (w.heap.size) (zA3 q) → BK W (w.heap.size + 1) zA5 → w.heap.size + 1 < g9 → BK W g9 #[.int .i64 S, .bool s4, .slice A4 n4 c4] → IAt W s4 A4 n4 c4 (Z0X k x) → Code.wp Tryz.prog _ _ { tmps := #[.pointer (some ⟨gf, 0, none⟩), .agg #[.bool q.s, .slice q.A q.n q.c, .bool q.t, .slice q.B q.m q.d], u2, .pointer (some ⟨w.heap.size, 0, none⟩), .pointer (some ⟨w.heap.size + 1, 0, none⟩), u5, u6, u7, .int .i64 (K : Int), .pointer (some ⟨g9, 0, none⟩), undef, u11, u12, u13, u14, u15, u16, u17, u18, u19, u20, u21, u22, u23, u24, u25, u26, u27, u28, u29, u30, u31, u32, u33, u34, u35, u36, u37, u38, u39, u40, u41, u42, u43, u44, u45, u46, u47, u48, u49, u50, u51, u52, u53, u54, u55, u56, u57, u58, undef, undef, undef, undef, undef, undef, undef, undef, undef, undef, undef, undef, undef, undef, undef, undef, undef, undef, undef, undef, undef, undef, undef, undef, undef, undef, undef, undef], defers := [] } W) _ _ _ _ _ _ _ _ _ _ _ _ _ _ _ _ _ _ _ _ _ _ _ _ _ _ _ _ _ _ _ _ _ _ _ _ _ _ _ _ _ _ _ _ _ _ _ _ _ _ _ _ _ _ _ _ _ _ EX BX BX (by omega) BX IX
 rename_i K0 K1
 repeat (rename_i h0; clear h0)
 clear HS HF HB HN Hw1 Hw4
 clear hbw0 hbw1 hbw2 hbw3 hbw4 hxl R0 L0 Rf Lf R5 L5 R1 L1 F0 Ff F5 F1
 clear w4 w3 w2 w1 w0
 intro W g9 s4 A4 n4 c4 u2 u5 u6 u7 u11 u12 u13 u14 u15 u16 u17 u18 u19 u20 u21 u22 u23 u24 u25 u26 u27 u28 u29 u30 u31 u32 u33 u34 u35 u36 u37 u38 u39 u40 u41 u42 u43 u44 u45 u46 u47 u48 u49 u50 u51 u52 u53 u54 u55 u56 u57 u58 hW R3 R4 hg9 R9 hone
 have h1 := HQ.out.ext hW
 have hs0 := HE.out.sizes 0 (Nat.zero_le _)
 have hpw : qm (Z02 (-(K : Int))) ≤ 2 := Nat.le_trans (Z1y _) (by omega)
 have hxp := Z09 x (Z02 (-(K : Int)))
 have HP := zH (fun W => Z1N (-(K : Int)) W (by omega) (by omega))
 have HOf := zH (fun W (q : QC) (h : IAt W s4 A4 n4 c4 (Z0X k x)) (h2 : q.At W (x * Z02 (-(K : Int)))) => (by
  have := ZaZ S s4 A4 n4 c4 q _ _ W h h2 (by omega)
  have e : (x * Z02 (-(K : Int)) * ((Z0X k x : Int) : Rat)).floor = Z6P k x := by rw [HZ.out.2.1]; rfl
  rw [e] at this
  exact this : Ca 160 #[.agg #[.int .i64 S, .bool s4, .slice A4 n4 c4], .agg #[.bool q.s, .slice q.A q.n q.c, .bool q.t, .slice q.B q.m q.d]] W (Z5N W (Z6P k x) (Z6P k x + 1))))
 have HT := zH (fun W g2 g3 (y : QC) (hb2 : BK W g2 #[.int .i64 S, .bool s4, .slice A4 n4 c4]) (hb3 : BK W g3 (zA3 y)) (ho : IAt W s4 A4 n4 c4 (Z0X k x)) (hy1 : IAt W y.s y.A y.n y.c (Z6P k x)) (hy2 : IAt W y.t y.B y.m y.d (Z6P k x + 1)) => (
  Z6c 220 #[.pointer (some ⟨g2, 0, none⟩), .pointer (some ⟨g3, 0, none⟩)] (fun _ _ => rfl) (fun i => (Z6Q k x i).1) (fun i => (Z6Q k x i).2) N W
   (fun w1 e => Z7c g2 g3 S s4 A4 n4 c4 y (Z0X k x) (Z6P k x) (Z6P k x + 1) W.heap.size N w1 (hb2.ext e) (hb3.ext e) (ho.ext e) ⟨hy1.ext e, hy2.ext e⟩ (Z4M k x) hb2.lt hb3.lt e.size HE.out.terms
    (fun i hi => by have h := HE.out.sizes i hi; unfold Z6Q at h; omega))
   HE.out.more HE.out.last (fun i hi => by have h := HE.out.sizes i hi; omega) : Ca 158 #[.func (.func 220) #[] #[.pointer (some ⟨g2, 0, none⟩), .pointer (some ⟨g3, 0, none⟩)]] W (Z5N W (Z5u k x N).1 (Z5u k x N).2)))
 have L3 := R3.lt
 have L9 := R9.lt
 have hoh := zH hone
 have H1h := zH h1
 clear hone h1
 have F3 := R3.c4
 have F9 := R9.c3
 refine Zc (fun a' w' => ∃ (g10 : Nat) (p : QC) (U : Nat → Value), a' = fr 87 U [(0, .pointer (some ⟨gf, 0, none⟩)), (1, .agg #[.bool q.s, .slice q.A q.n q.c, .bool q.t, .slice q.B q.m q.d]), (3, .pointer (some ⟨w.heap.size, 0, none⟩)), (4, .pointer (some ⟨w.heap.size + 1, 0, none⟩)), (8, .int .i64 (K : Int)), (9, .pointer (some ⟨g9, 0, none⟩)), (10, .pointer (some ⟨g10, 0, none⟩)), (69, undef), (70, undef), (71, undef), (72, undef), (73, undef), (74, undef), (75, undef), (76, undef), (77, undef), (78, undef), (79, undef), (80, undef), (81, undef), (82, undef), (83, undef), (84, undef), (85, undef), (86, undef)] ∧ BK w' g10 (zA3 p) ∧ IAt w' p.s p.A p.n p.c (Z5u k x N).1 ∧ IAt w' p.t p.B p.m p.d (Z5u k x N).2 ∧ W.heap.size ≤ g10 ∧ Ext W w') (fun w' => w'.cell? ⟨w.heap.size, 0, none⟩ = some (.bool q.s) ∧ w'.cell? ⟨w.heap.size, 1, none⟩ = some (.slice q.A q.n q.c) ∧ w'.cell? ⟨w.heap.size, 2, none⟩ = some (.bool q.t) ∧ w'.cell? ⟨w.heap.size, 3, none⟩ = some (.slice q.B q.m q.d) ∧ w'.cell? ⟨g9, 0, none⟩ = some (.int .i64 S) ∧ w'.cell? ⟨g9, 1, none⟩ = some (.bool s4) ∧ w'.cell? ⟨g9, 2, none⟩ = some (.slice A4 n4 c4)) Z0a ?_ (by (try dsimp only); (first | (exact KQ) | (simp [go_sem, *]; done))) (fun hHeld => ?_)
 rotate_left
 ·skip
  refine TH 0 ?_; refine TH 1 ?_; refine TH 2 ?_; refine TH 3 ?_; refine TH 4 ?_
  refine RDH [5, 10] ?_
  refine ARH (fun K hK => ?_) ?_
  ·go_simp
   refine (HP.out _).mono ?_; refine rQz ?_; intro w5 sw5 Aw5 nw5 cw5 tw5 Bw5 mw5 dw5 Hw5 hbw5 hzw5
   refine KH hK fun _ => ?_; clear hK K
   refine RDH [6, 10] ?_
   refine ARH (fun K hK => ?_) ?_
   ·go_simp
    refine (Z03 (h1 := QX) (h2 := QX) (hs := by omega)).mono ?_; refine rQz ?_; intro w6 sw6 Aw6 nw6 cw6 tw6 Bw6 mw6 dw6 Hw6 hbw6 hzw6
    refine KH hK fun _ => ?_; clear hK K
    refine RDH [7, 10] ?_
    refine ARH (fun K hK => ?_) ?_
    ·go_simp
     refine (HOf.out _ ⟨sw6, Aw6, nw6, cw6, tw6, Bw6, mw6, dw6⟩ IX QX).mono ?_; rintro e w7 ⟨pw7, rfl, hQ, hQ', hbw7⟩; have Hw7 := zH hQ; have Kw7 := zH hQ'; clear hQ hQ'; have := hbw7.sz
     refine KH hK fun _ => ?_; clear hK K
     refine RDH [8, 10] ?_
     refine ARH (fun K hK => ?_) ?_
     ·go_simp
      refine (Z1Q S s4 A4 n4 c4 pw7 _).mono ?_; rintro e w8 ⟨rfl, hP8, hY8, hbw8⟩; (try simp only [SZ] at hP8 hY8); have := hbw8.sz
      refine KH hK fun _ => ?_; clear hK K
      refine RDH [9, 10] ?_
      refine ARH (fun K hK => ?_) ?_
      ·go_simp
       refine (HT.out _ _ _ pw7 BX BX IX IX IX).mono ?_; rintro e w9 ⟨pw9, rfl, hQ, hQ', hbw9⟩; have Hw9 := zH hQ; have Kw9 := zH hQ'; clear hQ hQ'; have := hbw9.sz
       refine KH hK fun _ => ?_; clear hK K
       refine R1H 10 fun K hK => ?_
       go_simp
       refine KH hK fun _ => ?_; clear hK K
       refine R1H 11 fun K hK => ?_
       go_simp
       refine KH hK fun _ => ?_; clear hK K
       refine wpAnyH_done (by kernel_rfl) ?_ _
       exact ⟨_, pw9, _, Zh _ _, BX, IX, IX, by omega, EX⟩
      refine ARH (fun K hK => ?_) ?_
      ·go_simp
       refine KH hK fun _ => ?_; clear hK K
       refine R1H 9 fun K hK => ?_
       go_simp
       refine (HT.out _ _ _ pw7 BX BX IX IX IX).mono ?_; rintro e w9 ⟨pw9, rfl, hQ, hQ', hbw9⟩; have Hw9 := zH hQ; have Kw9 := zH hQ'; clear hQ hQ'; have := hbw9.sz; obtain ⟨_, _, T0, T1, T2, T3, T4⟩ := BC4 w9 w8.heap.size
       refine KH hK fun _ => ?_; clear hK K
       refine R1H 11 fun K hK => ?_
       go_simp
       refine KH hK fun _ => ?_; clear hK K
       refine wpAnyH_done (by kernel_rfl) ?_ _
       exact ⟨_, pw9, _, Zh _ _, BX, IX, IX, by omega, EX⟩
      exact AllReadyH.nil
     refine ARH (fun K hK => ?_) ?_
     ·go_simp
      refine KH hK fun _ => ?_; clear hK K
      refine R1H 8 fun K hK => ?_
      go_simp
      refine (Z1Q S s4 A4 n4 c4 pw7 _).mono ?_; rintro e w8 ⟨rfl, hP8, hY8, hbw8⟩; (try simp only [SZ] at hP8 hY8); have := hbw8.sz
      refine KH hK fun _ => ?_; clear hK K
      refine R1H 9 fun K hK => ?_
      go_simp
      refine (HT.out _ _ _ pw7 BX BX IX IX IX).mono ?_; rintro e w9 ⟨pw9, rfl, hQ, hQ', hbw9⟩; have Hw9 := zH hQ; have Kw9 := zH hQ'; clear hQ hQ'; have := hbw9.sz; obtain ⟨_, _, T0, T1, T2, T3, T4⟩ := BC4 w9 w7.heap.size
      refine KH hK fun _ => ?_; clear hK K
      refine R1H 11 fun K hK => ?_
      go_simp
      refine KH hK fun _ => ?_; clear hK K
      refine wpAnyH_done (by kernel_rfl) ?_ _
      exact ⟨_, pw9, _, Zh _ _, BX, IX, IX, by omega, EX⟩
     exact AllReadyH.nil
    refine ARH (fun K hK => ?_) ?_
    ·go_simp
     refine KH hK fun _ => ?_; clear hK K
     refine R1H 7 fun K hK => ?_
     go_simp
     refine (HOf.out _ ⟨sw6, Aw6, nw6, cw6, tw6, Bw6, mw6, dw6⟩ IX QX).mono ?_; rintro e w7 ⟨pw7, rfl, hQ, hQ', hbw7⟩; have Hw7 := zH hQ; have Kw7 := zH hQ'; clear hQ hQ'; have := hbw7.sz
     refine KH hK fun _ => ?_; clear hK K
     refine R1H 8 fun K hK => ?_
     go_simp
     refine (Z1Q S s4 A4 n4 c4 pw7 _).mono ?_; rintro e w8 ⟨rfl, hP8, hY8, hbw8⟩; (try simp only [SZ] at hP8 hY8); have := hbw8.sz
     refine KH hK fun _ => ?_; clear hK K
     refine R1H 9 fun K hK => ?_
     go_simp
     refine (HT.out _ _ _ pw7 BX BX IX IX IX).mono ?_; rintro e w9 ⟨pw9, rfl, hQ, hQ', hbw9⟩; have Hw9 := zH hQ; have Kw9 := zH hQ'; clear hQ hQ'; have := hbw9.sz; obtain ⟨_, _, T0, T1, T2, T3, T4⟩ := BC4 w9 w6.heap.size
     refine KH hK fun _ => ?_; clear hK K
     refine R1H 11 fun K hK => ?_
     go_simp
     refine KH hK fun _ => ?_; clear hK K
     refine wpAnyH_done (by kernel_rfl) ?_ _
     exact ⟨_, pw9, _, Zh _ _, BX, IX, IX, by omega, EX⟩
    exact AllReadyH.nil
   refine ARH (fun K hK => ?_) ?_
   ·go_simp
    refine KH hK fun _ => ?_; clear hK K
    refine R1H 6 fun K hK => ?_
    go_simp
    refine (Z03 (h1 := QX) (h2 := QX) (hs := by omega)).mono ?_; refine rQz ?_; intro w6 sw6 Aw6 nw6 cw6 tw6 Bw6 mw6 dw6 Hw6 hbw6 hzw6
    refine KH hK fun _ => ?_; clear hK K
    refine R1H 7 fun K hK => ?_
    go_simp
    refine (HOf.out _ ⟨sw6, Aw6, nw6, cw6, tw6, Bw6, mw6, dw6⟩ IX QX).mono ?_; rintro e w7 ⟨pw7, rfl, hQ, hQ', hbw7⟩; have Hw7 := zH hQ; have Kw7 := zH hQ'; clear hQ hQ'; have := hbw7.sz
    refine KH hK fun _ => ?_; clear hK K
    refine R1H 8 fun K hK => ?_
    go_simp
    refine (Z1Q S s4 A4 n4 c4 pw7 _).mono ?_; rintro e w8 ⟨rfl, hP8, hY8, hbw8⟩; (try simp only [SZ] at hP8 hY8); have := hbw8.sz
    refine KH hK fun _ => ?_; clear hK K
    refine R1H 9 fun K hK => ?_
    go_simp
    refine (HT.out _ _ _ pw7 BX BX IX IX IX).mono ?_; rintro e w9 ⟨pw9, rfl, hQ, hQ', hbw9⟩; have Hw9 := zH hQ; have Kw9 := zH hQ'; clear hQ hQ'; have := hbw9.sz; obtain ⟨_, _, T0, T1, T2, T3, T4⟩ := BC4 w9 w5.heap.size
    refine KH hK fun _ => ?_; clear hK K
    refine R1H 11 fun K hK => ?_
    go_simp
    refine KH hK fun _ => ?_; clear hK K
    refine wpAnyH_done (by kernel_rfl) ?_ _
    exact ⟨_, pw9, _, Zh _ _, BX, IX, IX, by omega, EX⟩
   exact AllReadyH.nil
  refine ARH (fun K hK => ?_) ?_
  ·go_simp
   refine KH hK fun _ => ?_; clear hK K
   refine R1H 5 fun K hK => ?_
   go_simp
   refine (HP.out _).mono ?_; refine rQz ?_; intro w5 sw5 Aw5 nw5 cw5 tw5 Bw5 mw5 dw5 Hw5 hbw5 hzw5
   refine KH hK fun _ => ?_; clear hK K
   refine R1H 6 fun K hK => ?_
   go_simp
   refine (Z03 (h1 := QX) (h2 := QX) (hs := by omega)).mono ?_; refine rQz ?_; intro w6 sw6 Aw6 nw6 cw6 tw6 Bw6 mw6 dw6 Hw6 hbw6 hzw6
   refine KH hK fun _ => ?_; clear hK K
   refine R1H 7 fun K hK => ?_
   go_simp
   refine (HOf.out _ ⟨sw6, Aw6, nw6, cw6, tw6, Bw6, mw6, dw6⟩ IX QX).mono ?_; rintro e w7 ⟨pw7, rfl, hQ, hQ', hbw7⟩; have Hw7 := zH hQ; have Kw7 := zH hQ'; clear hQ hQ'; have := hbw7.sz
   refine KH hK fun _ => ?_; clear hK K
   refine R1H 8 fun K hK => ?_
   go_simp
   refine (Z1Q S s4 A4 n4 c4 pw7 _).mono ?_; rintro e w8 ⟨rfl, hP8, hY8, hbw8⟩; (try simp only [SZ] at hP8 hY8); have := hbw8.sz
   refine KH hK fun _ => ?_; clear hK K
   refine R1H 9 fun K hK => ?_
   go_simp
   refine (HT.out _ _ _ pw7 BX BX IX IX IX).mono ?_; rintro e w9 ⟨pw9, rfl, hQ, hQ', hbw9⟩; have Hw9 := zH hQ; have Kw9 := zH hQ'; clear hQ hQ'; have := hbw9.sz; obtain ⟨_, _, T0, T1, T2, T3, T4⟩ := B40 w9 W
   refine KH hK fun _ => ?_; clear hK K
   refine R1H 11 fun K hK => ?_
   go_simp
   refine KH hK fun _ => ?_; clear hK K
   refine wpAnyH_done (by kernel_rfl) ?_ _
   exact ⟨_, pw9, _, Zh _ _, BX, IX, IX, by omega, EX⟩
  exact AllReadyH.nil
 rintro a' Wb ⟨g10, p, U, rfl, B10, hp1, hp2, hg10, hxb⟩
 dsimp only [fr, frl, Nat.reduceBEq, Nat.reduceAdd, cond_true, cond_false]
 have hL9 := R9.lt
 clear F3 F9 HP HOf HT
 go_wp2_with fail
 go_loopw [70] (fun iv wr => ∃ (j : Nat) (p : QC), iv = .int .i64 (j : Int) ∧ j ≤ K ∧ BK wr g10 (zA3 p) ∧ IAt wr p.s p.A p.n p.c (Z5Y k x N j).1 ∧ IAt wr p.t p.B p.m p.d (Z5Y k x N j).2 ∧ Ext W wr) (fun iv _ => K - (intOf iv).toNat)
 case atStart => exact ⟨0, p, rfl, Nat.zero_le _, B10, hp1, hp2, hxb⟩
 case round =>
  obtain ⟨j, p, rfl, hj, BX0, hp1, hp2, hxr⟩ := hrel
  have HP1 := zH hp1
  have HP2 := zH hp2
  have HO := zH (hoh.out.ext hxr)
  have B9 := R9.ext hxr
  have LX := BX0.lt
  have LY := B9.lt
  have k1 := Nat.le_of_eq hp1.wl
  have k2 := Nat.le_of_eq hp2.wl
  have k3 := Nat.le_of_eq HO.out.wl
  have Fx := BX0.c4
  have F9 := B9.c3
  have hsq := HE.out.squares j (by rw [← HZ.out.2.1]; exact hj)
  have hpos := Z4M k x
  clear hp1 hp2
  by_cases hjK : j < K
  ·have hlt : decide ((j : Int) < (K : Int)) = true := by rw [decide_eq_true]; omega
   go_wp2_with (go_at_call 161; (with_reducible refine (Z0E p p s4 A4 n4 c4 _ _ _ _ _ _ IX IX IX IX IX hpos (by omega)).mono ?_); rintro e w7 ⟨pw7, rfl, hQ, hQ', hbw7⟩; have Hw7 := zH hQ; have Kw7 := zH hQ'; clear hQ hQ'; have hxl := hbw7; obtain ⟨Rx, Lx, Fx⟩ := BC4 w7 g10)
   exact ⟨⟨j + 1, pw7, by simp, by omega, BX, by rw [Zbv]; exact IX, by rw [Zbu]; exact IX, EX⟩, by simp [intOf]; omega⟩
  ·have hlt : decide ((j : Int) < (K : Int)) = false := by rw [decide_eq_false]; omega
   have hjj : j = Z9a x := by rw [← HZ.out.2.1]; omega
   rw [hjj] at HP1 HP2 k1 k2 hsq
   have Bf := (hf.ext hW).ext hxr
   have Lf := Bf.lt
   have Ff := Bf.c4
   have R4' := R4.ext hxr
   have L4 := R4.lt
   have hen := HE.out.ends
   have fw : IntKind.i64.wrap (k + 2) = k + 2 := by rw [IntKind.wrap_i64]; omega
   clear hjj
   go_wp2_with fail
   go_region_held3 (fun w' => zC w' g9 0 (.int .i64 S) ∧ zC w' g9 1 (.bool s4) ∧ zC w' g9 2 (.slice A4 n4 c4) ∧ zC w' g10 0 (.bool p.s) ∧ zC w' g10 1 (.slice p.A p.n p.c) ∧ zC w' g10 2 (.bool p.t) ∧ zC w' g10 3 (.slice p.B p.m p.d) ∧ zC w' gf 0 (.int .i64 k)) (first | (exact KQ) | (simp [go_sem, *]; done)) (first | (go_at_call 162; (with_reducible refine ((show Ca _ _ _ (Z0e _ (Z5Z k x N) (Z6R k x N)) from Z1e S s4 A4 n4 c4 p _ _ _ _ IX IX IX (by omega) (by omega))).mono ?_); refine rB ?_; intro w8 pw8 qw8 Hw8 Kw8 hbw8; have hxl := hbw8; have R4 : BK w8 ((w.heap.size + 1)) #[.bool false, .slice none 0 0, .bool false, .slice none 0 0, .bool false, .slice none 0 0, .bool false, .slice none 0 0] := BX; have L4 := R4.lt; have F4 := R4.c8; obtain ⟨Rf, Lf, Ff⟩ := BC4 w8 gf) | (go_at_call 73; (with_reducible refine (Z1Z pw8 qw8 (Z5Z k x N) (Z6R k x N) (k + 2) _ QX QX (by omega) (by omega) (by omega)).mono ?_); refine rB ?_; intro w9 pw9 qw9 Hw9 Kw9 hbw9; have hxl := hbw9; have R4 : BK w9 ((w.heap.size + 1)) #[.bool false, .slice none 0 0, .bool false, .slice none 0 0, .bool false, .slice none 0 0, .bool false, .slice none 0 0] := BX; have L4 := R4.lt; have F4 := R4.c8))
   all_goals go_wp2_with fail
   all_goals refine BK.finB (g := w.heap.size + 1) (c := #[.bool pw9.s, .slice pw9.A pw9.n pw9.c, .bool pw9.t, .slice pw9.B pw9.m pw9.d, .bool qw9.s, .slice qw9.A qw9.n qw9.c, .bool qw9.t, .slice qw9.B qw9.m qw9.d]) (w0 := w) (T := fun W => pw9.At W (Zl (Z5Z k x N) (k + 2)) ∧ qw9.At W (-Zl (-(Z6R k x N)) (k + 2))) BX EX ⟨QX, QX⟩ (fun W U E hT => ?_)
   all_goals have Fu := U.c8
   all_goals refine bodyPost_ret (v := .agg (zA0 pw9 qw9)) (by simp [zA0, results, results88, go_sem, Fu]) rfl ⟨pw9, qw9, rfl, hT.1, hT.2, E⟩
def lgZ (y : Rat) : Rat := (y - 1) / (y + 1)
def lgN (one : Int) (y : Rat) : Int := (Z0h (lgZ y) (-(lgZ y)) * ((one : Int) : Rat)).floor
def lgT (one : Int) (y : Rat) (i : Nat) : Int × Int := Zcx one (lgN one y) (lgN one y + 1) i
def lgS (one : Int) (y : Rat) (N : Nat) : Int × Int := (Z3E (fun i => (lgT one y i).1) N, Z3E (fun i => (lgT one y i).2) N + 16)
def lgA (one : Int) (y : Rat) (N : Nat) : Rat := Rat.divInt (lgS one y N).1 one
def lgB (one : Int) (y : Rat) (N : Nat) : Rat := Rat.divInt (lgS one y N).2 one
def lgC (one : Int) (y : Rat) (N : Nat) : Rat := Z1m (2 * lgA one y N) (2 * lgB one y N) (2 * lgA one y N) (2 * lgB one y N)
def lgD (one : Int) (y : Rat) (N : Nat) : Rat := Z2n (2 * lgA one y N) (2 * lgB one y N) (2 * lgA one y N) (2 * lgB one y N)
def lgL (one : Int) (y : Rat) (N : Nat) : Rat := if (lgZ y).num < 0 then 0 - lgD one y N else lgC one y N
def lgH (one : Int) (y : Rat) (N : Nat) : Rat := if (lgZ y).num < 0 then 0 - lgC one y N else lgD one y N
structure Z8M (one : Int) (y : Rat) (N : Nat) : Prop where
 hone : 0 < one
 pos : 0 < y
 qm : qm y ≤ 1000
 terms : N ≤ 1000000
 more : ∀ i, i < N → ¬ (lgT one y i).2 ≤ 4
 last : (lgT one y N).2 ≤ 4
 start : 2 * wl (lgN one y) + 2 * wl (lgN one y + 1) + wl one + 40000 < Z8
 sizes : ∀ i, i ≤ N → wl (Z7O one (lgN one y) (lgN one y + 1) i).1 + wl (Z7O one (lgN one y) (lgN one y + 1) i).2 + wl (lgN one y * lgN one y / one) + wl (upI ((lgN one y + 1) * (lgN one y + 1)) one) + wl one + wl (lgT one y i).1 + wl (lgT one y i).2 + wl (Z3E (fun i => (lgT one y i).1) i) + wl (Z3E (fun i => (lgT one y i).2) i) + 10000 < Z8
 sum : wl (lgS one y N).1 + wl (lgS one y N).2 + wl one + 100 < Z8
 ends : 16 * (_root_.Go.Proofs.YtnmmncccpdffaaaGreat.qm (lgA one y N) + _root_.Go.Proofs.YtnmmncccpdffaaaGreat.qm (lgB one y N)) + 16 * (_root_.Go.Proofs.YtnmmncccpdffaaaGreat.qm (lgC one y N) + _root_.Go.Proofs.YtnmmncccpdffaaaGreat.qm (lgD one y N)) + 10000 < Z8
theorem ZaV (W : World) : Ca 81 #[.int .i64 0] W (Z0G W 0) := by
 have := Z0D 0 W (by omega) (by omega)
 rw [show ((0 : Int) : Rat) = 0 from by decide +kernel] at this
 exact this
theorem Z2Y (W : World) : Ca 81 #[.int .i64 1] W (Z0G W 1) := by
 have := Z0D 1 W (by omega) (by omega)
 rw [show ((1 : Int) : Rat) = 1 from by decide +kernel] at this
 exact this
theorem Z4k (W : World) : Ca 81 #[.int .i64 2] W (Z0G W 2) := by
 have := Z0D 2 W (by omega) (by omega)
 rw [show ((2 : Int) : Rat) = 2 from by decide +kernel] at this
 exact this
theorem Z9w (x y : Rat) (h : y ≠ 0) : qm (x / y) ≤ qm x + qm y := by
 rw [Rat.div_def]; exact Nat.le_trans (Z09 _ _) (Nat.add_le_add_left (Z8S y h) _)
theorem Z1d (g6 : Nat) (S : Int) (s4 : Bool) (A4 : Option Addr) (n4 c4 : Nat) (q : QC) (one : Int) (y : Rat) (N : Nat) (w : World) (h6 : BK w g6 #[.int .i64 S, .bool s4, .slice A4 n4 c4]) (ho : IAt w s4 A4 n4 c4 one) (hq : q.At w y) (E : Z8M one y N) :
  Ca 172 #[.agg (zA3 q), .pointer (some ⟨g6, 0, none⟩)] w (Z0e w (lgL one y N) (lgH one y N)) := by
 have L6 := h6.lt
 have hqx := E.qm
 have hy0 := E.pos
 have hy1 : y + 1 ≠ 0 := by grind
 have hmw : 100000 < Z8 := by decide
 have m0 : qm (1 : Rat) = 1 := by decide +kernel
 have m1 := Z5n y 1
 have m2 := Z4l y 1
 have m3 := Z9w (y - 1) (y + 1) hy1
 have m4 : qm (lgZ y) ≤ 6000 := by unfold lgZ; omega
 have m5 := Z1z (lgZ y) (-(lgZ y))
 have m6 := Z22 (lgZ y)
 have HQ := zH hq
 have HO := zH ho
 have HE := zH E
 clear hq ho E
 dsimp only [zA3]
 go_enter func172, ntmps172
 go_wp2_with fail
 refine (?_ : ∀ (W : World), Ext w W → BK W (w.heap.size) (zA3 q) → BK W (w.heap.size + 1) zA5 → Code.wp Tryz.prog _ _ _ W) _ EX BX BX
 intro W hW R2 R3
 have L2 := R2.lt
 have L3 := R3.lt
 have F2 := R2.c4
 refine Zc (fun a' w' => ∃ (g4 : Nat) (q4 : QC) (U : Nat → Value), a' = fr 37 U [(0, .agg #[.bool q.s, .slice q.A q.n q.c, .bool q.t, .slice q.B q.m q.d]), (1, .pointer (some ⟨g6, 0, none⟩)), (2, .pointer (some ⟨w.heap.size, 0, none⟩)), (3, .pointer (some ⟨w.heap.size + 1, 0, none⟩)), (4, .pointer (some ⟨g4, 0, none⟩)), (6, undef), (17, undef), (18, undef), (19, undef), (20, undef), (21, undef), (22, undef), (23, undef), (24, undef), (25, undef), (26, undef), (27, undef), (28, undef), (29, undef), (30, undef), (31, undef), (32, undef), (33, undef), (34, undef), (35, undef), (36, undef)] ∧ BK w' g4 (zA3 q4) ∧ q4.At w' (lgZ y) ∧ W.heap.size ≤ g4 ∧ Ext W w') (fun w' => w'.cell? ⟨w.heap.size, 0, none⟩ = some (.bool q.s) ∧ w'.cell? ⟨w.heap.size, 1, none⟩ = some (.slice q.A q.n q.c) ∧ w'.cell? ⟨w.heap.size, 2, none⟩ = some (.bool q.t) ∧ w'.cell? ⟨w.heap.size, 3, none⟩ = some (.slice q.B q.m q.d)) Z0a ?_ (by exact KQ) (fun hHeld => ?_)
 rotate_left
 ·skip
  refine TH 0 ?_; refine TH 3 ?_
  refine RDH [1, 10] ?_
  refine ARH (fun K hK => ?_) ?_
  ·go_simp
   refine (Z2Y _).mono ?_; refine rQz ?_; intro w5 sw5 Aw5 nw5 cw5 tw5 Bw5 mw5 dw5 Hw5 hbw5 hzw5
   refine KH hK fun _ => ?_; clear hK K
   refine RDH [2, 10] ?_
   refine ARH (fun K hK => ?_) ?_
   ·go_simp
    refine (Z1s (x := y) (y := 1) (h1 := QX) (h2 := QX) (hs := by omega)).mono ?_; refine rQz ?_; intro w6 sw6 Aw6 nw6 cw6 tw6 Bw6 mw6 dw6 Hw6 hbw6 hzw6
    refine KH hK fun _ => ?_; clear hK K
    refine RDH [4, 10] ?_
    refine ARH (fun K hK => ?_) ?_
    ·go_simp
     refine (Z2Y _).mono ?_; refine rQz ?_; intro w7 sw7 Aw7 nw7 cw7 tw7 Bw7 mw7 dw7 Hw7 hbw7 hzw7
     refine KH hK fun _ => ?_; clear hK K
     refine RDH [5, 10] ?_
     refine ARH (fun K hK => ?_) ?_
     ·go_simp
      refine (Z0V (x := y) (y := 1) (h1 := QX) (h2 := QX) (hs := by omega)).mono ?_; refine rQz ?_; intro w8 sw8 Aw8 nw8 cw8 tw8 Bw8 mw8 dw8 Hw8 hbw8 hzw8
      refine KH hK fun _ => ?_; clear hK K
      refine RDH [6, 10] ?_
      refine ARH (fun K hK => ?_) ?_
      ·go_simp
       refine (Z0T (x := y - 1) (y := y + 1) (h1 := QX) (h2 := QX) (hs := by omega) (hy := hy1)).mono ?_; refine rQz ?_; intro w9 sw9 Aw9 nw9 cw9 tw9 Bw9 mw9 dw9 Hw9 hbw9 hzw9
       refine KH hK fun _ => ?_; clear hK K
       refine TH 7 ?_; refine TH 8 ?_; refine TH 9 ?_
       refine R1H 10 fun K hK => ?_
       go_simp
       refine KH hK fun _ => ?_; clear hK K
       refine R1H 11 fun K hK => ?_
       go_simp
       refine KH hK fun _ => ?_; clear hK K
       refine R1H 12 fun K hK => ?_
       go_simp
       refine KH hK fun _ => ?_; clear hK K
       refine wpAnyH_done (by kernel_rfl) ?_ _
       exact ⟨_, ⟨sw9, Aw9, nw9, cw9, tw9, Bw9, mw9, dw9⟩, _, Zh _ _, BX, QX, by omega, EX⟩
      refine ARH (fun K hK => ?_) ?_
      ·go_simp
       refine KH hK fun _ => ?_; clear hK K
       refine R1H 6 fun K hK => ?_
       go_simp
       refine (Z0T (x := y - 1) (y := y + 1) (h1 := QX) (h2 := QX) (hs := by omega) (hy := hy1)).mono ?_; refine rQz ?_; intro w9 sw9 Aw9 nw9 cw9 tw9 Bw9 mw9 dw9 Hw9 hbw9 hzw9; obtain ⟨_, _, T0, T1, T2, T3, T4⟩ := BC4 w9 w8.heap.size
       refine KH hK fun _ => ?_; clear hK K
       refine TH 7 ?_; refine TH 8 ?_; refine TH 9 ?_
       refine R1H 11 fun K hK => ?_
       go_simp
       refine KH hK fun _ => ?_; clear hK K
       refine R1H 12 fun K hK => ?_
       go_simp
       refine KH hK fun _ => ?_; clear hK K
       refine wpAnyH_done (by kernel_rfl) ?_ _
       exact ⟨_, ⟨sw9, Aw9, nw9, cw9, tw9, Bw9, mw9, dw9⟩, _, Zh _ _, BX, QX, by omega, EX⟩
      exact AllReadyH.nil
     refine ARH (fun K hK => ?_) ?_
     ·go_simp
      refine KH hK fun _ => ?_; clear hK K
      refine R1H 5 fun K hK => ?_
      go_simp
      refine (Z0V (x := y) (y := 1) (h1 := QX) (h2 := QX) (hs := by omega)).mono ?_; refine rQz ?_; intro w8 sw8 Aw8 nw8 cw8 tw8 Bw8 mw8 dw8 Hw8 hbw8 hzw8
      refine KH hK fun _ => ?_; clear hK K
      refine R1H 6 fun K hK => ?_
      go_simp
      refine (Z0T (x := y - 1) (y := y + 1) (h1 := QX) (h2 := QX) (hs := by omega) (hy := hy1)).mono ?_; refine rQz ?_; intro w9 sw9 Aw9 nw9 cw9 tw9 Bw9 mw9 dw9 Hw9 hbw9 hzw9; obtain ⟨_, _, T0, T1, T2, T3, T4⟩ := BC4 w9 w7.heap.size
      refine KH hK fun _ => ?_; clear hK K
      refine TH 7 ?_; refine TH 8 ?_; refine TH 9 ?_
      refine R1H 11 fun K hK => ?_
      go_simp
      refine KH hK fun _ => ?_; clear hK K
      refine R1H 12 fun K hK => ?_
      go_simp
      refine KH hK fun _ => ?_; clear hK K
      refine wpAnyH_done (by kernel_rfl) ?_ _
      exact ⟨_, ⟨sw9, Aw9, nw9, cw9, tw9, Bw9, mw9, dw9⟩, _, Zh _ _, BX, QX, by omega, EX⟩
     exact AllReadyH.nil
    refine ARH (fun K hK => ?_) ?_
    ·go_simp
     refine KH hK fun _ => ?_; clear hK K
     refine R1H 4 fun K hK => ?_
     go_simp
     refine (Z2Y _).mono ?_; refine rQz ?_; intro w7 sw7 Aw7 nw7 cw7 tw7 Bw7 mw7 dw7 Hw7 hbw7 hzw7
     refine KH hK fun _ => ?_; clear hK K
     refine R1H 5 fun K hK => ?_
     go_simp
     refine (Z0V (x := y) (y := 1) (h1 := QX) (h2 := QX) (hs := by omega)).mono ?_; refine rQz ?_; intro w8 sw8 Aw8 nw8 cw8 tw8 Bw8 mw8 dw8 Hw8 hbw8 hzw8
     refine KH hK fun _ => ?_; clear hK K
     refine R1H 6 fun K hK => ?_
     go_simp
     refine (Z0T (x := y - 1) (y := y + 1) (h1 := QX) (h2 := QX) (hs := by omega) (hy := hy1)).mono ?_; refine rQz ?_; intro w9 sw9 Aw9 nw9 cw9 tw9 Bw9 mw9 dw9 Hw9 hbw9 hzw9; obtain ⟨_, _, T0, T1, T2, T3, T4⟩ := BC4 w9 w6.heap.size
     refine KH hK fun _ => ?_; clear hK K
     refine TH 7 ?_; refine TH 8 ?_; refine TH 9 ?_
     refine R1H 11 fun K hK => ?_
     go_simp
     refine KH hK fun _ => ?_; clear hK K
     refine R1H 12 fun K hK => ?_
     go_simp
     refine KH hK fun _ => ?_; clear hK K
     refine wpAnyH_done (by kernel_rfl) ?_ _
     exact ⟨_, ⟨sw9, Aw9, nw9, cw9, tw9, Bw9, mw9, dw9⟩, _, Zh _ _, BX, QX, by omega, EX⟩
    exact AllReadyH.nil
   refine ARH (fun K hK => ?_) ?_
   ·go_simp
    refine KH hK fun _ => ?_; clear hK K
    refine R1H 2 fun K hK => ?_
    go_simp
    refine (Z1s (x := y) (y := 1) (h1 := QX) (h2 := QX) (hs := by omega)).mono ?_; refine rQz ?_; intro w6 sw6 Aw6 nw6 cw6 tw6 Bw6 mw6 dw6 Hw6 hbw6 hzw6
    refine KH hK fun _ => ?_; clear hK K
    refine R1H 4 fun K hK => ?_
    go_simp
    refine (Z2Y _).mono ?_; refine rQz ?_; intro w7 sw7 Aw7 nw7 cw7 tw7 Bw7 mw7 dw7 Hw7 hbw7 hzw7
    refine KH hK fun _ => ?_; clear hK K
    refine R1H 5 fun K hK => ?_
    go_simp
    refine (Z0V (x := y) (y := 1) (h1 := QX) (h2 := QX) (hs := by omega)).mono ?_; refine rQz ?_; intro w8 sw8 Aw8 nw8 cw8 tw8 Bw8 mw8 dw8 Hw8 hbw8 hzw8
    refine KH hK fun _ => ?_; clear hK K
    refine R1H 6 fun K hK => ?_
    go_simp
    refine (Z0T (x := y - 1) (y := y + 1) (h1 := QX) (h2 := QX) (hs := by omega) (hy := hy1)).mono ?_; refine rQz ?_; intro w9 sw9 Aw9 nw9 cw9 tw9 Bw9 mw9 dw9 Hw9 hbw9 hzw9; obtain ⟨_, _, T0, T1, T2, T3, T4⟩ := BC4 w9 w5.heap.size
    refine KH hK fun _ => ?_; clear hK K
    refine TH 7 ?_; refine TH 8 ?_; refine TH 9 ?_
    refine R1H 11 fun K hK => ?_
    go_simp
    refine KH hK fun _ => ?_; clear hK K
    refine R1H 12 fun K hK => ?_
    go_simp
    refine KH hK fun _ => ?_; clear hK K
    refine wpAnyH_done (by kernel_rfl) ?_ _
    exact ⟨_, ⟨sw9, Aw9, nw9, cw9, tw9, Bw9, mw9, dw9⟩, _, Zh _ _, BX, QX, by omega, EX⟩
   exact AllReadyH.nil
  refine ARH (fun K hK => ?_) ?_
  ·go_simp
   refine KH hK fun _ => ?_; clear hK K
   refine R1H 1 fun K hK => ?_
   go_simp
   refine (Z2Y _).mono ?_; refine rQz ?_; intro w5 sw5 Aw5 nw5 cw5 tw5 Bw5 mw5 dw5 Hw5 hbw5 hzw5
   refine KH hK fun _ => ?_; clear hK K
   refine R1H 2 fun K hK => ?_
   go_simp
   refine (Z1s (x := y) (y := 1) (h1 := QX) (h2 := QX) (hs := by omega)).mono ?_; refine rQz ?_; intro w6 sw6 Aw6 nw6 cw6 tw6 Bw6 mw6 dw6 Hw6 hbw6 hzw6
   refine KH hK fun _ => ?_; clear hK K
   refine R1H 4 fun K hK => ?_
   go_simp
   refine (Z2Y _).mono ?_; refine rQz ?_; intro w7 sw7 Aw7 nw7 cw7 tw7 Bw7 mw7 dw7 Hw7 hbw7 hzw7
   refine KH hK fun _ => ?_; clear hK K
   refine R1H 5 fun K hK => ?_
   go_simp
   refine (Z0V (x := y) (y := 1) (h1 := QX) (h2 := QX) (hs := by omega)).mono ?_; refine rQz ?_; intro w8 sw8 Aw8 nw8 cw8 tw8 Bw8 mw8 dw8 Hw8 hbw8 hzw8
   refine KH hK fun _ => ?_; clear hK K
   refine R1H 6 fun K hK => ?_
   go_simp
   refine (Z0T (x := y - 1) (y := y + 1) (h1 := QX) (h2 := QX) (hs := by omega) (hy := hy1)).mono ?_; refine rQz ?_; intro w9 sw9 Aw9 nw9 cw9 tw9 Bw9 mw9 dw9 Hw9 hbw9 hzw9; obtain ⟨_, _, T0, T1, T2, T3, T4⟩ := B40 w9 W
   refine KH hK fun _ => ?_; clear hK K
   refine TH 7 ?_; refine TH 8 ?_; refine TH 9 ?_
   refine R1H 11 fun K hK => ?_
   go_simp
   refine KH hK fun _ => ?_; clear hK K
   refine R1H 12 fun K hK => ?_
   go_simp
   refine KH hK fun _ => ?_; clear hK K
   refine wpAnyH_done (by kernel_rfl) ?_ _
   exact ⟨_, ⟨sw9, Aw9, nw9, cw9, tw9, Bw9, mw9, dw9⟩, _, Zh _ _, BX, QX, by omega, EX⟩
  exact AllReadyH.nil
 rintro a' Wb ⟨g4, q4, U, rfl, R4, hq4, hg4, hxb⟩
 dsimp only [fr, frl, Nat.reduceBEq, Nat.reduceAdd, cond_true, cond_false]
 have L4 := R4.lt
 have R6 : BK Wb g6 #[.int .i64 S, .bool s4, .slice A4 n4 c4] := (h6.ext hW).ext hxb
 have L6' := R6.lt
 have R3' := R3.ext hxb
 have H4 := zH hq4
 have HO' := zH ((HO.out.ext hW).ext hxb)
 have Hx := zH (hW.trans hxb)
 have hsz := hW.size
 clear hq4 F2 HQ
 have F4 := R4.c4
 have F6 := R6.c3
 have hs0 := HE.out.start
 have hs1 := HE.out.sizes N (Nat.le_refl _)
 have hs2 := HE.out.ends
 have hs3 := HE.out.sum
 have hone := HE.out.hone
 have m7 : qm (2 : Rat) = 1 := by decide +kernel
 have m8 : qm (0 : Rat) ≤ 1 := by decide +kernel
 have HOf := zH (fun W (q : QC) (h : IAt W s4 A4 n4 c4 one) (h2 : q.At W (Z0h (lgZ y) (-(lgZ y)))) => (by exact ZaZ S s4 A4 n4 c4 q _ _ W h h2 (by omega) : Ca 160 #[.agg #[.int .i64 S, .bool s4, .slice A4 n4 c4], .agg #[.bool q.s, .slice q.A q.n q.c, .bool q.t, .slice q.B q.m q.d]] W (Z5N W (lgN one y) (lgN one y + 1))))
 have HT := zH (fun W g2 g3 (z : QC) (hb2 : BK W g2 #[.int .i64 S, .bool s4, .slice A4 n4 c4]) (hb3 : BK W g3 (zA3 z)) (ho : IAt W s4 A4 n4 c4 one) (hy1 : IAt W z.s z.A z.n z.c (lgN one y)) (hy2 : IAt W z.t z.B z.m z.d (lgN one y + 1)) => (by
  exact Z6c 226 #[.pointer (some ⟨g3, 0, none⟩), .pointer (some ⟨g2, 0, none⟩)] (fun _ _ => rfl) (fun i => (lgT one y i).1) (fun i => (lgT one y i).2) N W
   (fun w1 e => Z9A g3 g2 S s4 A4 n4 c4 z one (lgN one y) (lgN one y + 1) W.heap.size N w1 (hb2.ext e) (hb3.ext e) (ho.ext e) ⟨hy1.ext e, hy2.ext e⟩ hone hb3.lt hb2.lt e.size HE.out.terms (by omega)
    (fun i hi => by have h := HE.out.sizes i hi; omega))
   HE.out.more HE.out.last (fun i hi => by have h := HE.out.sizes i hi; omega) : Ca 158 #[.func (.func 226) #[] #[.pointer (some ⟨g3, 0, none⟩), .pointer (some ⟨g2, 0, none⟩)]] W (Z5N W (lgS one y N).1 (lgS one y N).2)))
 go_wp2_with fail
 refine Zc (fun a' w' => ∃ (g5 : Nat) (p r : QC) (U : Nat → Value), a' = fr 37 U [(0, .agg #[.bool q.s, .slice q.A q.n q.c, .bool q.t, .slice q.B q.m q.d]), (1, .pointer (some ⟨g6, 0, none⟩)), (2, .pointer (some ⟨w.heap.size, 0, none⟩)), (3, .pointer (some ⟨w.heap.size + 1, 0, none⟩)), (4, .pointer (some ⟨g4, 0, none⟩)), (6, .pointer (some ⟨g5, 0, none⟩)), (29, undef), (30, undef), (31, undef), (32, undef), (33, undef), (34, undef), (35, undef), (36, undef)] ∧ BK w' g5 (zA0 p r) ∧ p.At w' (lgC one y N) ∧ r.At w' (lgD one y N) ∧ Wb.heap.size ≤ g5 ∧ Ext Wb w') (fun w' => w'.cell? ⟨g4, 0, none⟩ = some (.bool q4.s) ∧ w'.cell? ⟨g4, 1, none⟩ = some (.slice q4.A q4.n q4.c) ∧ w'.cell? ⟨g4, 2, none⟩ = some (.bool q4.t) ∧ w'.cell? ⟨g4, 3, none⟩ = some (.slice q4.B q4.m q4.d) ∧ w'.cell? ⟨g6, 0, none⟩ = some (.int .i64 S) ∧ w'.cell? ⟨g6, 1, none⟩ = some (.bool s4) ∧ w'.cell? ⟨g6, 2, none⟩ = some (.slice A4 n4 c4)) Z0a ?_ (by exact KQ) (fun hHeld => ?_)
 rotate_left
 ·skip
  refine TH 2 ?_; refine TH 3 ?_; refine TH 4 ?_; refine TH 5 ?_
  refine RDH [0, 12] ?_
  refine ARH (fun K hK => ?_) ?_
  ·go_simp
   refine (Z4k _).mono ?_; refine rQz ?_; intro w5 sw5 Aw5 nw5 cw5 tw5 Bw5 mw5 dw5 Hw5 hbw5 hzw5
   refine KH hK fun _ => ?_; clear hK K
   refine RDH [1, 12] ?_
   refine ARH (fun K hK => ?_) ?_
   ·go_simp
    refine (Z2g ⟨sw5, Aw5, nw5, cw5, tw5, Bw5, mw5, dw5⟩ _).mono ?_; rintro e w6 ⟨rfl, hbw6⟩; have hzw6 := hbw6.sz
    refine KH hK fun _ => ?_; clear hK K
    refine RDH [6, 12] ?_
    refine ARH (fun K hK => ?_) ?_
    ·go_simp
     refine (Z0Q q4 (lgZ y) _ QX (by omega)).mono ?_; refine rQz ?_; intro w7 sw7 Aw7 nw7 cw7 tw7 Bw7 mw7 dw7 Hw7 hbw7 hzw7
     refine KH hK fun _ => ?_; clear hK K
     refine RDH [7, 12] ?_
     refine ARH (fun K hK => ?_) ?_
     ·go_simp
      refine (HOf.out _ ⟨sw7, Aw7, nw7, cw7, tw7, Bw7, mw7, dw7⟩ IX QX).mono ?_; rintro e w8 ⟨pw8, rfl, hQ, hQ', hbw8⟩; have Hw8 := zH hQ; have Kw8 := zH hQ'; clear hQ hQ'; have hzw8 := hbw8.sz
      refine KH hK fun _ => ?_; clear hK K
      refine RDH [8, 12] ?_
      refine ARH (fun K hK => ?_) ?_
      ·go_simp
       refine (Z2f S s4 A4 n4 c4 pw8 _).mono ?_; rintro e w9 ⟨rfl, hP9, hY9, hbw9⟩; (try simp only [SZ] at hP9 hY9); have hzw9 := hbw9.sz
       refine KH hK fun _ => ?_; clear hK K
       refine RDH [9, 12] ?_
       refine ARH (fun K hK => ?_) ?_
       ·go_simp
        refine (HT.out _ _ _ pw8 BX BX IX IX IX).mono ?_; rintro e w10 ⟨pw10, rfl, hQ, hQ', hbw10⟩; have Hw10 := zH hQ; have Kw10 := zH hQ'; clear hQ hQ'; have := hbw10.sz
        refine KH hK fun _ => ?_; clear hK K
        refine RDH [10, 12] ?_
        refine ARH (fun K hK => ?_) ?_
        ·go_simp
         refine ((show Ca _ _ _ (Z0e _ (lgA one y N) (lgB one y N)) from Z1e S s4 A4 n4 c4 pw10 _ _ _ _ IX IX IX (by omega) (by omega))).mono ?_; refine rBz ?_; intro w11 pw11 qw11 Hw11 Kw11 hbw11 hzw11
         refine KH hK fun _ => ?_; clear hK K
         refine RDH [11, 12] ?_
         refine ARH (fun K hK => ?_) ?_
         ·go_simp
          refine ((show Ca _ _ _ (Z0e _ (lgC one y N) (lgD one y N)) from ZF ⟨sw5, Aw5, nw5, cw5, tw5, Bw5, mw5, dw5⟩ ⟨sw5, Aw5, nw5, cw5, tw5, Bw5, mw5, dw5⟩ pw11 qw11 2 2 (lgA one y N) (lgB one y N) _ QX QX QX QX (by omega))).mono ?_; refine rBz ?_; intro w12 pw12 qw12 Hw12 Kw12 hbw12 hzw12
          refine KH hK fun _ => ?_; clear hK K
          refine R1H 12 fun K hK => ?_
          go_simp
          refine KH hK fun _ => ?_; clear hK K
          refine R1H 13 fun K hK => ?_
          go_simp
          refine KH hK fun _ => ?_; clear hK K
          refine wpAnyH_done (by kernel_rfl) ?_ _
          exact ⟨_, pw12, qw12, _, Zh _ _, BX, QX, QX, by omega, EX⟩
         refine ARH (fun K hK => ?_) ?_
         ·go_simp
          refine KH hK fun _ => ?_; clear hK K
          refine R1H 11 fun K hK => ?_
          go_simp
          refine ((show Ca _ _ _ (Z0e _ (lgC one y N) (lgD one y N)) from ZF ⟨sw5, Aw5, nw5, cw5, tw5, Bw5, mw5, dw5⟩ ⟨sw5, Aw5, nw5, cw5, tw5, Bw5, mw5, dw5⟩ pw11 qw11 2 2 (lgA one y N) (lgB one y N) _ QX QX QX QX (by omega))).mono ?_; refine rBz ?_; intro w12 pw12 qw12 Hw12 Kw12 hbw12 hzw12; obtain ⟨_, _, T0, T1, T2, T3, T4, T5, T6, T7, T8⟩ := BC8 w12 w11.heap.size
          refine KH hK fun _ => ?_; clear hK K
          refine R1H 13 fun K hK => ?_
          go_simp
          refine KH hK fun _ => ?_; clear hK K
          refine wpAnyH_done (by kernel_rfl) ?_ _
          exact ⟨_, pw12, qw12, _, Zh _ _, BX, QX, QX, by omega, EX⟩
         exact AllReadyH.nil
        refine ARH (fun K hK => ?_) ?_
        ·go_simp
         refine KH hK fun _ => ?_; clear hK K
         refine R1H 10 fun K hK => ?_
         go_simp
         refine ((show Ca _ _ _ (Z0e _ (lgA one y N) (lgB one y N)) from Z1e S s4 A4 n4 c4 pw10 _ _ _ _ IX IX IX (by omega) (by omega))).mono ?_; refine rBz ?_; intro w11 pw11 qw11 Hw11 Kw11 hbw11 hzw11
         refine KH hK fun _ => ?_; clear hK K
         refine R1H 11 fun K hK => ?_
         go_simp
         refine ((show Ca _ _ _ (Z0e _ (lgC one y N) (lgD one y N)) from ZF ⟨sw5, Aw5, nw5, cw5, tw5, Bw5, mw5, dw5⟩ ⟨sw5, Aw5, nw5, cw5, tw5, Bw5, mw5, dw5⟩ pw11 qw11 2 2 (lgA one y N) (lgB one y N) _ QX QX QX QX (by omega))).mono ?_; refine rBz ?_; intro w12 pw12 qw12 Hw12 Kw12 hbw12 hzw12; obtain ⟨_, _, T0, T1, T2, T3, T4, T5, T6, T7, T8⟩ := BC8 w12 w10.heap.size
         refine KH hK fun _ => ?_; clear hK K
         refine R1H 13 fun K hK => ?_
         go_simp
         refine KH hK fun _ => ?_; clear hK K
         refine wpAnyH_done (by kernel_rfl) ?_ _
         exact ⟨_, pw12, qw12, _, Zh _ _, BX, QX, QX, by omega, EX⟩
        exact AllReadyH.nil
       refine ARH (fun K hK => ?_) ?_
       ·go_simp
        refine KH hK fun _ => ?_; clear hK K
        refine R1H 9 fun K hK => ?_
        go_simp
        refine (HT.out _ _ _ pw8 BX BX IX IX IX).mono ?_; rintro e w10 ⟨pw10, rfl, hQ, hQ', hbw10⟩; have Hw10 := zH hQ; have Kw10 := zH hQ'; clear hQ hQ'; have := hbw10.sz
        refine KH hK fun _ => ?_; clear hK K
        refine R1H 10 fun K hK => ?_
        go_simp
        refine ((show Ca _ _ _ (Z0e _ (lgA one y N) (lgB one y N)) from Z1e S s4 A4 n4 c4 pw10 _ _ _ _ IX IX IX (by omega) (by omega))).mono ?_; refine rBz ?_; intro w11 pw11 qw11 Hw11 Kw11 hbw11 hzw11
        refine KH hK fun _ => ?_; clear hK K
        refine R1H 11 fun K hK => ?_
        go_simp
        refine ((show Ca _ _ _ (Z0e _ (lgC one y N) (lgD one y N)) from ZF ⟨sw5, Aw5, nw5, cw5, tw5, Bw5, mw5, dw5⟩ ⟨sw5, Aw5, nw5, cw5, tw5, Bw5, mw5, dw5⟩ pw11 qw11 2 2 (lgA one y N) (lgB one y N) _ QX QX QX QX (by omega))).mono ?_; refine rBz ?_; intro w12 pw12 qw12 Hw12 Kw12 hbw12 hzw12; obtain ⟨_, _, T0, T1, T2, T3, T4, T5, T6, T7, T8⟩ := BC8 w12 w9.heap.size
        refine KH hK fun _ => ?_; clear hK K
        refine R1H 13 fun K hK => ?_
        go_simp
        refine KH hK fun _ => ?_; clear hK K
        refine wpAnyH_done (by kernel_rfl) ?_ _
        exact ⟨_, pw12, qw12, _, Zh _ _, BX, QX, QX, by omega, EX⟩
       exact AllReadyH.nil
      refine ARH (fun K hK => ?_) ?_
      ·go_simp
       refine KH hK fun _ => ?_; clear hK K
       refine R1H 8 fun K hK => ?_
       go_simp
       refine (Z2f S s4 A4 n4 c4 pw8 _).mono ?_; rintro e w9 ⟨rfl, hP9, hY9, hbw9⟩; (try simp only [SZ] at hP9 hY9); have hzw9 := hbw9.sz
       refine KH hK fun _ => ?_; clear hK K
       refine R1H 9 fun K hK => ?_
       go_simp
       refine (HT.out _ _ _ pw8 BX BX IX IX IX).mono ?_; rintro e w10 ⟨pw10, rfl, hQ, hQ', hbw10⟩; have Hw10 := zH hQ; have Kw10 := zH hQ'; clear hQ hQ'; have := hbw10.sz
       refine KH hK fun _ => ?_; clear hK K
       refine R1H 10 fun K hK => ?_
       go_simp
       refine ((show Ca _ _ _ (Z0e _ (lgA one y N) (lgB one y N)) from Z1e S s4 A4 n4 c4 pw10 _ _ _ _ IX IX IX (by omega) (by omega))).mono ?_; refine rBz ?_; intro w11 pw11 qw11 Hw11 Kw11 hbw11 hzw11
       refine KH hK fun _ => ?_; clear hK K
       refine R1H 11 fun K hK => ?_
       go_simp
       refine ((show Ca _ _ _ (Z0e _ (lgC one y N) (lgD one y N)) from ZF ⟨sw5, Aw5, nw5, cw5, tw5, Bw5, mw5, dw5⟩ ⟨sw5, Aw5, nw5, cw5, tw5, Bw5, mw5, dw5⟩ pw11 qw11 2 2 (lgA one y N) (lgB one y N) _ QX QX QX QX (by omega))).mono ?_; refine rBz ?_; intro w12 pw12 qw12 Hw12 Kw12 hbw12 hzw12; obtain ⟨_, _, T0, T1, T2, T3, T4, T5, T6, T7, T8⟩ := BC8 w12 w8.heap.size
       refine KH hK fun _ => ?_; clear hK K
       refine R1H 13 fun K hK => ?_
       go_simp
       refine KH hK fun _ => ?_; clear hK K
       refine wpAnyH_done (by kernel_rfl) ?_ _
       exact ⟨_, pw12, qw12, _, Zh _ _, BX, QX, QX, by omega, EX⟩
      exact AllReadyH.nil
     refine ARH (fun K hK => ?_) ?_
     ·go_simp
      refine KH hK fun _ => ?_; clear hK K
      refine R1H 7 fun K hK => ?_
      go_simp
      refine (HOf.out _ ⟨sw7, Aw7, nw7, cw7, tw7, Bw7, mw7, dw7⟩ IX QX).mono ?_; rintro e w8 ⟨pw8, rfl, hQ, hQ', hbw8⟩; have Hw8 := zH hQ; have Kw8 := zH hQ'; clear hQ hQ'; have hzw8 := hbw8.sz
      refine KH hK fun _ => ?_; clear hK K
      refine R1H 8 fun K hK => ?_
      go_simp
      refine (Z2f S s4 A4 n4 c4 pw8 _).mono ?_; rintro e w9 ⟨rfl, hP9, hY9, hbw9⟩; (try simp only [SZ] at hP9 hY9); have hzw9 := hbw9.sz
      refine KH hK fun _ => ?_; clear hK K
      refine R1H 9 fun K hK => ?_
      go_simp
      refine (HT.out _ _ _ pw8 BX BX IX IX IX).mono ?_; rintro e w10 ⟨pw10, rfl, hQ, hQ', hbw10⟩; have Hw10 := zH hQ; have Kw10 := zH hQ'; clear hQ hQ'; have := hbw10.sz
      refine KH hK fun _ => ?_; clear hK K
      refine R1H 10 fun K hK => ?_
      go_simp
      refine ((show Ca _ _ _ (Z0e _ (lgA one y N) (lgB one y N)) from Z1e S s4 A4 n4 c4 pw10 _ _ _ _ IX IX IX (by omega) (by omega))).mono ?_; refine rBz ?_; intro w11 pw11 qw11 Hw11 Kw11 hbw11 hzw11
      refine KH hK fun _ => ?_; clear hK K
      refine R1H 11 fun K hK => ?_
      go_simp
      refine ((show Ca _ _ _ (Z0e _ (lgC one y N) (lgD one y N)) from ZF ⟨sw5, Aw5, nw5, cw5, tw5, Bw5, mw5, dw5⟩ ⟨sw5, Aw5, nw5, cw5, tw5, Bw5, mw5, dw5⟩ pw11 qw11 2 2 (lgA one y N) (lgB one y N) _ QX QX QX QX (by omega))).mono ?_; refine rBz ?_; intro w12 pw12 qw12 Hw12 Kw12 hbw12 hzw12; obtain ⟨_, _, T0, T1, T2, T3, T4, T5, T6, T7, T8⟩ := BC8 w12 w7.heap.size
      refine KH hK fun _ => ?_; clear hK K
      refine R1H 13 fun K hK => ?_
      go_simp
      refine KH hK fun _ => ?_; clear hK K
      refine wpAnyH_done (by kernel_rfl) ?_ _
      exact ⟨_, pw12, qw12, _, Zh _ _, BX, QX, QX, by omega, EX⟩
     exact AllReadyH.nil
    refine ARH (fun K hK => ?_) ?_
    ·go_simp
     refine KH hK fun _ => ?_; clear hK K
     refine R1H 6 fun K hK => ?_
     go_simp
     refine (Z0Q q4 (lgZ y) _ QX (by omega)).mono ?_; refine rQz ?_; intro w7 sw7 Aw7 nw7 cw7 tw7 Bw7 mw7 dw7 Hw7 hbw7 hzw7
     refine KH hK fun _ => ?_; clear hK K
     refine R1H 7 fun K hK => ?_
     go_simp
     refine (HOf.out _ ⟨sw7, Aw7, nw7, cw7, tw7, Bw7, mw7, dw7⟩ IX QX).mono ?_; rintro e w8 ⟨pw8, rfl, hQ, hQ', hbw8⟩; have Hw8 := zH hQ; have Kw8 := zH hQ'; clear hQ hQ'; have hzw8 := hbw8.sz
     refine KH hK fun _ => ?_; clear hK K
     refine R1H 8 fun K hK => ?_
     go_simp
     refine (Z2f S s4 A4 n4 c4 pw8 _).mono ?_; rintro e w9 ⟨rfl, hP9, hY9, hbw9⟩; (try simp only [SZ] at hP9 hY9); have hzw9 := hbw9.sz
     refine KH hK fun _ => ?_; clear hK K
     refine R1H 9 fun K hK => ?_
     go_simp
     refine (HT.out _ _ _ pw8 BX BX IX IX IX).mono ?_; rintro e w10 ⟨pw10, rfl, hQ, hQ', hbw10⟩; have Hw10 := zH hQ; have Kw10 := zH hQ'; clear hQ hQ'; have := hbw10.sz
     refine KH hK fun _ => ?_; clear hK K
     refine R1H 10 fun K hK => ?_
     go_simp
     refine ((show Ca _ _ _ (Z0e _ (lgA one y N) (lgB one y N)) from Z1e S s4 A4 n4 c4 pw10 _ _ _ _ IX IX IX (by omega) (by omega))).mono ?_; refine rBz ?_; intro w11 pw11 qw11 Hw11 Kw11 hbw11 hzw11
     refine KH hK fun _ => ?_; clear hK K
     refine R1H 11 fun K hK => ?_
     go_simp
     refine ((show Ca _ _ _ (Z0e _ (lgC one y N) (lgD one y N)) from ZF ⟨sw5, Aw5, nw5, cw5, tw5, Bw5, mw5, dw5⟩ ⟨sw5, Aw5, nw5, cw5, tw5, Bw5, mw5, dw5⟩ pw11 qw11 2 2 (lgA one y N) (lgB one y N) _ QX QX QX QX (by omega))).mono ?_; refine rBz ?_; intro w12 pw12 qw12 Hw12 Kw12 hbw12 hzw12; obtain ⟨_, _, T0, T1, T2, T3, T4, T5, T6, T7, T8⟩ := BC8 w12 w6.heap.size
     refine KH hK fun _ => ?_; clear hK K
     refine R1H 13 fun K hK => ?_
     go_simp
     refine KH hK fun _ => ?_; clear hK K
     refine wpAnyH_done (by kernel_rfl) ?_ _
     exact ⟨_, pw12, qw12, _, Zh _ _, BX, QX, QX, by omega, EX⟩
    exact AllReadyH.nil
   refine ARH (fun K hK => ?_) ?_
   ·go_simp
    refine KH hK fun _ => ?_; clear hK K
    refine R1H 1 fun K hK => ?_
    go_simp
    refine (Z2g ⟨sw5, Aw5, nw5, cw5, tw5, Bw5, mw5, dw5⟩ _).mono ?_; rintro e w6 ⟨rfl, hbw6⟩; have hzw6 := hbw6.sz
    refine KH hK fun _ => ?_; clear hK K
    refine R1H 6 fun K hK => ?_
    go_simp
    refine (Z0Q q4 (lgZ y) _ QX (by omega)).mono ?_; refine rQz ?_; intro w7 sw7 Aw7 nw7 cw7 tw7 Bw7 mw7 dw7 Hw7 hbw7 hzw7
    refine KH hK fun _ => ?_; clear hK K
    refine R1H 7 fun K hK => ?_
    go_simp
    refine (HOf.out _ ⟨sw7, Aw7, nw7, cw7, tw7, Bw7, mw7, dw7⟩ IX QX).mono ?_; rintro e w8 ⟨pw8, rfl, hQ, hQ', hbw8⟩; have Hw8 := zH hQ; have Kw8 := zH hQ'; clear hQ hQ'; have hzw8 := hbw8.sz
    refine KH hK fun _ => ?_; clear hK K
    refine R1H 8 fun K hK => ?_
    go_simp
    refine (Z2f S s4 A4 n4 c4 pw8 _).mono ?_; rintro e w9 ⟨rfl, hP9, hY9, hbw9⟩; (try simp only [SZ] at hP9 hY9); have hzw9 := hbw9.sz
    refine KH hK fun _ => ?_; clear hK K
    refine R1H 9 fun K hK => ?_
    go_simp
    refine (HT.out _ _ _ pw8 BX BX IX IX IX).mono ?_; rintro e w10 ⟨pw10, rfl, hQ, hQ', hbw10⟩; have Hw10 := zH hQ; have Kw10 := zH hQ'; clear hQ hQ'; have := hbw10.sz
    refine KH hK fun _ => ?_; clear hK K
    refine R1H 10 fun K hK => ?_
    go_simp
    refine ((show Ca _ _ _ (Z0e _ (lgA one y N) (lgB one y N)) from Z1e S s4 A4 n4 c4 pw10 _ _ _ _ IX IX IX (by omega) (by omega))).mono ?_; refine rBz ?_; intro w11 pw11 qw11 Hw11 Kw11 hbw11 hzw11
    refine KH hK fun _ => ?_; clear hK K
    refine R1H 11 fun K hK => ?_
    go_simp
    refine ((show Ca _ _ _ (Z0e _ (lgC one y N) (lgD one y N)) from ZF ⟨sw5, Aw5, nw5, cw5, tw5, Bw5, mw5, dw5⟩ ⟨sw5, Aw5, nw5, cw5, tw5, Bw5, mw5, dw5⟩ pw11 qw11 2 2 (lgA one y N) (lgB one y N) _ QX QX QX QX (by omega))).mono ?_; refine rBz ?_; intro w12 pw12 qw12 Hw12 Kw12 hbw12 hzw12; obtain ⟨_, _, T0, T1, T2, T3, T4, T5, T6, T7, T8⟩ := BC8 w12 w5.heap.size
    refine KH hK fun _ => ?_; clear hK K
    refine R1H 13 fun K hK => ?_
    go_simp
    refine KH hK fun _ => ?_; clear hK K
    refine wpAnyH_done (by kernel_rfl) ?_ _
    exact ⟨_, pw12, qw12, _, Zh _ _, BX, QX, QX, by omega, EX⟩
   exact AllReadyH.nil
  refine ARH (fun K hK => ?_) ?_
  ·go_simp
   refine KH hK fun _ => ?_; clear hK K
   refine R1H 0 fun K hK => ?_
   go_simp
   refine (Z4k _).mono ?_; refine rQz ?_; intro w5 sw5 Aw5 nw5 cw5 tw5 Bw5 mw5 dw5 Hw5 hbw5 hzw5
   refine KH hK fun _ => ?_; clear hK K
   refine R1H 1 fun K hK => ?_
   go_simp
   refine (Z2g ⟨sw5, Aw5, nw5, cw5, tw5, Bw5, mw5, dw5⟩ _).mono ?_; rintro e w6 ⟨rfl, hbw6⟩; have hzw6 := hbw6.sz
   refine KH hK fun _ => ?_; clear hK K
   refine R1H 6 fun K hK => ?_
   go_simp
   refine (Z0Q q4 (lgZ y) _ QX (by omega)).mono ?_; refine rQz ?_; intro w7 sw7 Aw7 nw7 cw7 tw7 Bw7 mw7 dw7 Hw7 hbw7 hzw7
   refine KH hK fun _ => ?_; clear hK K
   refine R1H 7 fun K hK => ?_
   go_simp
   refine (HOf.out _ ⟨sw7, Aw7, nw7, cw7, tw7, Bw7, mw7, dw7⟩ IX QX).mono ?_; rintro e w8 ⟨pw8, rfl, hQ, hQ', hbw8⟩; have Hw8 := zH hQ; have Kw8 := zH hQ'; clear hQ hQ'; have hzw8 := hbw8.sz
   refine KH hK fun _ => ?_; clear hK K
   refine R1H 8 fun K hK => ?_
   go_simp
   refine (Z2f S s4 A4 n4 c4 pw8 _).mono ?_; rintro e w9 ⟨rfl, hP9, hY9, hbw9⟩; (try simp only [SZ] at hP9 hY9); have hzw9 := hbw9.sz
   refine KH hK fun _ => ?_; clear hK K
   refine R1H 9 fun K hK => ?_
   go_simp
   refine (HT.out _ _ _ pw8 BX BX IX IX IX).mono ?_; rintro e w10 ⟨pw10, rfl, hQ, hQ', hbw10⟩; have Hw10 := zH hQ; have Kw10 := zH hQ'; clear hQ hQ'; have := hbw10.sz
   refine KH hK fun _ => ?_; clear hK K
   refine R1H 10 fun K hK => ?_
   go_simp
   refine ((show Ca _ _ _ (Z0e _ (lgA one y N) (lgB one y N)) from Z1e S s4 A4 n4 c4 pw10 _ _ _ _ IX IX IX (by omega) (by omega))).mono ?_; refine rBz ?_; intro w11 pw11 qw11 Hw11 Kw11 hbw11 hzw11
   refine KH hK fun _ => ?_; clear hK K
   refine R1H 11 fun K hK => ?_
   go_simp
   refine ((show Ca _ _ _ (Z0e _ (lgC one y N) (lgD one y N)) from ZF ⟨sw5, Aw5, nw5, cw5, tw5, Bw5, mw5, dw5⟩ ⟨sw5, Aw5, nw5, cw5, tw5, Bw5, mw5, dw5⟩ pw11 qw11 2 2 (lgA one y N) (lgB one y N) _ QX QX QX QX (by omega))).mono ?_; refine rBz ?_; intro w12 pw12 qw12 Hw12 Kw12 hbw12 hzw12; obtain ⟨_, _, T0, T1, T2, T3, T4, T5, T6, T7, T8⟩ := BC8 w12 Wb.heap.size
   refine KH hK fun _ => ?_; clear hK K
   refine R1H 13 fun K hK => ?_
   go_simp
   refine KH hK fun _ => ?_; clear hK K
   refine wpAnyH_done (by kernel_rfl) ?_ _
   exact ⟨_, pw12, qw12, _, Zh _ _, BX, QX, QX, by omega, EX⟩
  exact AllReadyH.nil
 rintro a' Wc ⟨g5, p, r, U, rfl, R5, hp, hr, hg5, hxc⟩
 dsimp only [fr, frl, Nat.reduceBEq, Nat.reduceAdd, cond_true, cond_false]
 have R4c := R4.ext hxc
 have R3c := R3'.ext hxc
 have R6c := R6.ext hxc
 have L5 := R5.lt
 have L4c := R4c.lt
 have L3c := R3c.lt
 have HP := zH hp
 have HR := zH hr
 have H4' := zH (H4.out.ext hxc)
 have Hx' := Hx.out.trans hxc
 clear hp hr F4 F6 R4 R6 R3'
 have F4 := R4c.c4
 have F5 := R5.c8
 by_cases hneg : (lgZ y).num < 0
 ·have hsg := Z1x hneg
  have e1 : lgL one y N = 0 - lgD one y N := if_pos hneg
  have e2 : lgH one y N = 0 - lgC one y N := if_pos hneg
  replace e1 := zH e1
  replace e2 := zH e2
  have HS := zH (fun W (h : q4.At W (lgZ y)) => (by have := Zy q4.s q4.A q4.n q4.c q4.t q4.B q4.m q4.d _ W h (by have := h.n; omega); rw [hsg] at this; exact this : Ca 84 #[.agg #[.bool q4.s, .slice q4.A q4.n q4.c, .bool q4.t, .slice q4.B q4.m q4.d]] W fun e w' => e = .returned (.int .i64 (-1)) ∧ Ext W w'))
  clear hsg hneg
  go_wp2_with (go_at_call 84; (with_reducible refine (HS.out _ QX).mono ?_); rintro e w4 ⟨rfl, hbw4⟩; obtain ⟨R5, L5, F5⟩ := BC8 w4 g5)
  go_region_held3 (fun w' => zC w' g5 0 (.bool p.s) ∧ zC w' g5 1 (.slice p.A p.n p.c) ∧ zC w' g5 2 (.bool p.t) ∧ zC w' g5 3 (.slice p.B p.m p.d) ∧ zC w' g5 4 (.bool r.s) ∧ zC w' g5 5 (.slice r.A r.n r.c) ∧ zC w' g5 6 (.bool r.t) ∧ zC w' g5 7 (.slice r.B r.m r.d)) (first | (exact KQ) | (simp [go_sem, *]; done)) (first | (go_at_call 81; (with_reducible refine (ZaV _).mono ?_); refine rQ ?_; intro w7 sw7 Aw7 nw7 cw7 tw7 Bw7 mw7 dw7 Hw7 hbw7; obtain ⟨R5, L5, F5⟩ := BC8 w7 g5) | (go_at_call 154; (with_reducible refine (Z2g ⟨sw7, Aw7, nw7, cw7, tw7, Bw7, mw7, dw7⟩ _).mono ?_); rintro e w8 ⟨rfl, hbw8⟩; obtain ⟨R5, L5, F5⟩ := BC8 w8 g5) | (go_at_call 64; (with_reducible refine (Z2A ⟨sw7, Aw7, nw7, cw7, tw7, Bw7, mw7, dw7⟩ ⟨sw7, Aw7, nw7, cw7, tw7, Bw7, mw7, dw7⟩ p r 0 0 (lgC one y N) (lgD one y N) _ QX QX QX QX (by omega)).mono ?_); refine rB ?_; intro w9 pw9 qw9 Hw9 Kw9 hbw9; have R3 : BK w9 ((w.heap.size + 1)) #[.bool false, .slice none 0 0, .bool false, .slice none 0 0, .bool false, .slice none 0 0, .bool false, .slice none 0 0] := BX; have L3 := R3.lt; have F3 := R3.c8))
  all_goals go_wp2_with fail
  all_goals refine BK.finB (g := w.heap.size + 1) (c := #[.bool pw9.s, .slice pw9.A pw9.n pw9.c, .bool pw9.t, .slice pw9.B pw9.m pw9.d, .bool qw9.s, .slice qw9.A qw9.n qw9.c, .bool qw9.t, .slice qw9.B qw9.m qw9.d]) (w0 := w) (T := fun W => pw9.At W (0 - lgD one y N) ∧ qw9.At W (0 - lgC one y N)) BX EX ⟨QX, QX⟩ (fun W U E hT => ?_)
  all_goals have Fu := U.c8
  all_goals refine bodyPost_ret (v := .agg (zA0 pw9 qw9)) (by simp [zA0, results, results172, go_sem, Fu]) rfl ⟨pw9, qw9, rfl, by rw [e1.out]; exact hT.1, by rw [e2.out]; exact hT.2, E⟩
 ·have e1 : lgL one y N = lgC one y N := if_neg hneg
  have e2 : lgH one y N = lgD one y N := if_neg hneg
  replace e1 := zH e1
  replace e2 := zH e2
  have hsg : decide (Z0R (lgZ y).num < 0) = false := by rw [decide_eq_false_iff_not]; unfold Z0R; split <;> (try split) <;> omega
  have HS := zH (fun W (h : q4.At W (lgZ y)) => (Zy q4.s q4.A q4.n q4.c q4.t q4.B q4.m q4.d _ W h (by have := h.n; omega) : Ca 84 #[.agg #[.bool q4.s, .slice q4.A q4.n q4.c, .bool q4.t, .slice q4.B q4.m q4.d]] W fun e w' => e = .returned (.int .i64 (Z0R (lgZ y).num)) ∧ Ext W w'))
  clear hneg
  go_wp2_with (go_at_call 84; (with_reducible refine (HS.out _ QX).mono ?_); rintro e w4 ⟨rfl, hbw4⟩; obtain ⟨R5, L5, F5⟩ := BC8 w4 g5; have R3 : BK w4 ((w.heap.size + 1)) #[.bool false, .slice none 0 0, .bool false, .slice none 0 0, .bool false, .slice none 0 0, .bool false, .slice none 0 0] := BX; have L3 := R3.lt; have F3 := R3.c8)
  all_goals refine BK.finB (g := w.heap.size + 1) (c := #[.bool p.s, .slice p.A p.n p.c, .bool p.t, .slice p.B p.m p.d, .bool r.s, .slice r.A r.n r.c, .bool r.t, .slice r.B r.m r.d]) (w0 := w) (T := fun W => p.At W (lgC one y N) ∧ r.At W (lgD one y N)) BX EX ⟨QX, QX⟩ (fun W U E hT => ?_)
  all_goals have Fu := U.c8
  all_goals refine bodyPost_ret (v := .agg (zA0 p r)) (by simp [zA0, results, results172, go_sem, Fu]) rfl ⟨p, r, rfl, by rw [e1.out]; exact hT.1, by rw [e2.out]; exact hT.2, E⟩
def lgK (x : Rat) : Int := (nb x.num.natAbs : Int) - (nb x.den : Int)
def Zd7 (k : Int) (x : Rat) : Int := k + 2 * (nb (lgK x).natAbs : Int) + 20
def ZI (k : Int) (x : Rat) : Int := (2 : Int) ^ (Zd7 k x).toNat
def lgY (x : Rat) : Rat := x * Z02 (-(lgK x))
def lgP (k : Int) (x : Rat) (N : Nat) : Rat := lgL (ZI k x) 2 N
def lgQ (k : Int) (x : Rat) (N : Nat) : Rat := lgH (ZI k x) 2 N
def lgU (k : Int) (x : Rat) (N : Nat) : Rat := Z1m ((lgK x : Rat) * lgP k x N) ((lgK x : Rat) * lgQ k x N) ((lgK x : Rat) * lgP k x N) ((lgK x : Rat) * lgQ k x N)
def lgV (k : Int) (x : Rat) (N : Nat) : Rat := Z2n ((lgK x : Rat) * lgP k x N) ((lgK x : Rat) * lgQ k x N) ((lgK x : Rat) * lgP k x N) ((lgK x : Rat) * lgQ k x N)
def Z8d (k : Int) (x : Rat) (N1 N2 : Nat) : Rat := if lgK x = 0 then lgL (ZI k x) (lgY x) N1 else lgL (ZI k x) (lgY x) N1 + lgU k x N2
def Z8e (k : Int) (x : Rat) (N1 N2 : Nat) : Rat := if lgK x = 0 then lgH (ZI k x) (lgY x) N1 else lgH (ZI k x) (lgY x) N1 + lgV k x N2
structure Z52 (k : Int) (x : Rat) (N1 N2 : Nat) : Prop where
 bits : 0 ≤ k ∧ k ≤ 70000
 pos : 0 < x
 one : x ≠ 1
 qm : qm x ≤ 400
 first : Z8M (ZI k x) (lgY x) N1
 second : lgK x ≠ 0 → Z8M (ZI k x) 2 N2
 sizes : 100 * (_root_.Go.Proofs.YtnmmncccpdffaaaGreat.qm (lgL (ZI k x) (lgY x) N1) + _root_.Go.Proofs.YtnmmncccpdffaaaGreat.qm (lgH (ZI k x) (lgY x) N1) + _root_.Go.Proofs.YtnmmncccpdffaaaGreat.qm (lgP k x N2) + _root_.Go.Proofs.YtnmmncccpdffaaaGreat.qm (lgQ k x N2) + _root_.Go.Proofs.YtnmmncccpdffaaaGreat.qm (lgU k x N2) + _root_.Go.Proofs.YtnmmncccpdffaaaGreat.qm (lgV k x N2)) + 200000 < Z8
theorem Zc5 (z : Int) : nb z.natAbs ≤ 32 * wl z := Z1V (by
 have := Z71 z
 rw [show B32 = 2 ^ 32 from rfl, ← Nat.pow_mul] at this
 exact this)
theorem Z9P (gf : Nat) (k : Int) (f1 f2 f3 : Value) (q : QC) (x : Rat) (N1 N2 : Nat) (w : World) (hf : BK w gf #[.int .i64 k, f1, f2, f3]) (hq : q.At w x) (E : Z52 k x N1 N2) :
  Ca 99 #[.pointer (some ⟨gf, 0, none⟩), .agg (zA3 q)] w (Z0e w (Zl (Z8d k x N1 N2) (k + 2)) (-Zl (-(Z8e k x N1 N2)) (k + 2))) := by
 obtain ⟨hk0, hk1⟩ := E.bits
 have hqx := E.qm
 have hmw : 100000 < Z8 := by decide
 have hn1 := hq.n
 have hm1 := hq.m
 have m0 : qm (1 : Rat) ≤ 1 := by decide +kernel
 obtain ⟨b1, hb1⟩ : ∃ b : Int, b = ((nb x.num.natAbs : Nat) : Int) := ⟨_, rfl⟩
 obtain ⟨b2, hb2⟩ : ∃ b : Int, b = ((nb x.den : Nat) : Int) := ⟨_, rfl⟩
 obtain ⟨κ, hκ⟩ : ∃ κ, κ = lgK x := ⟨_, rfl⟩
 obtain ⟨bk, hbk⟩ : ∃ b : Int, b = ((nb κ.natAbs : Nat) : Int) := ⟨_, rfl⟩
 obtain ⟨S, hS⟩ : ∃ S, S = Zd7 k x := ⟨_, rfl⟩
 have c1 := Zc5 x.num
 have c2 := Zc5 ((x.den : Nat) : Int)
 rw [Int.natAbs_natCast] at c2
 have l1 : wl x.num ≤ qm x := by rw [← hq.num.wl]; exact hn1
 have l2 : wl ((x.den : Nat) : Int) ≤ qm x := by rw [← hq.den.wl]; exact hm1
 have hκ' : b1 - b2 = κ := by rw [hκ, hb1, hb2]; rfl
 have hκb : -12800 ≤ κ ∧ κ ≤ 12800 := by omega
 have hbk' : 0 ≤ bk ∧ bk ≤ 14 := by
  have : nb κ.natAbs ≤ 14 := Z1V (Nat.lt_of_le_of_lt (show κ.natAbs ≤ 12800 by omega) (by decide))
  omega
 have hS' : k + 2 * bk + 20 = S := by rw [hS, hbk, hκ]; rfl
 have hSb : 0 ≤ S ∧ S ≤ 100000 := by omega
 have f1w : IntKind.i64.wrap (b1 - b2) = κ := by rw [IntKind.wrap_i64]; omega
 have f2w : IntKind.i64.wrap (2 * bk) = 2 * bk := by rw [IntKind.wrap_i64]; omega
 have f3w : IntKind.i64.wrap (k + 2 * bk) = k + 2 * bk := by rw [IntKind.wrap_i64]; omega
 have f4w : IntKind.i64.wrap (k + 2 * bk + 20) = S := by rw [IntKind.wrap_i64]; omega
 have f5w : IntKind.i64.wrap (-κ) = -κ := by rw [IntKind.wrap_i64]; omega
 obtain ⟨cq, hcq⟩ : ∃ c, c = Z0s x 1 := ⟨_, rfl⟩
 have hc0 : decide (cq = 0) = false := by rw [decide_eq_false_iff_not, hcq]; exact fun e => E.one (Z6U.1 e)
 have hc1 : cq ≠ 0 := fun e => E.one (Z6U.1 (by rw [← hcq]; exact e))
 have hc2 : (cq == 0) = false := by simp [hc1]
 have HC := zH (fun W (p : QC) (h : q.At W x) (h' : p.At W 1) => (by have := Z0U (x := x) (y := 1) (w := W) (h1 := h) (h2 := h') (hs := by omega); rw [← hcq] at this; exact this : Ca 59 #[.agg #[.bool q.s, .slice q.A q.n q.c, .bool q.t, .slice q.B q.m q.d], .agg #[.bool p.s, .slice p.A p.n p.c, .bool p.t, .slice p.B p.m p.d]] W fun e w' => e = .returned (.int .i64 cq) ∧ Ext W w'))
 have HB1 := zH (fun W (h : IAt W q.s q.A q.n q.c x.num) => (by have := ZU q.s q.A q.n q.c x.num W h (by omega); rw [← hb1] at this; exact this : Ca 156 #[.agg #[.bool q.s, .slice q.A q.n q.c]] W fun e w' => e = .returned (.int .i64 b1) ∧ Ext W w'))
 have HB2 := zH (fun W (h : IAt W q.t q.B q.m q.d ((x.den : Nat) : Int)) => (by have := ZU q.t q.B q.m q.d _ W h (by omega); rw [Int.natAbs_natCast, ← hb2] at this; exact this : Ca 156 #[.agg #[.bool q.t, .slice q.B q.m q.d]] W fun e w' => e = .returned (.int .i64 b2) ∧ Ext W w'))
 have HB3 := zH (fun W s A n c (h : IAt W s A n c κ) => (by have h2 := h.wl; have h3 := Zo (z := κ) (by omega) (by omega); have := ZU s A n c κ W h (by omega); rw [← hbk] at this; exact this : Ca 156 #[.agg #[.bool s, .slice A n c]] W fun e w' => e = .returned (.int .i64 bk) ∧ Ext W w'))
 have HN := zH (fun W => (by have := Z3t S W (by omega) (by omega); rw [hS] at this ⊢; exact this : Ca 157 #[.int .i64 S] W (ZcC W S (ZI k x))))
 have HQ := zH hq
 have HE := zH E
 have HZ := zH (And.intro hκ hS)
 have b1' := hf.lt
 have Ff := hf.c4
 clear hq E hκ hS hb1 hb2 hbk c1 c2 l1 l2 hκ' hS' hcq
 dsimp only [zA3]
 go_enter func99, ntmps99
 go_wp2_with fail
 go_region_held3 (fun w' => zC w' w.heap.size 0 (.bool q.s) ∧ zC w' w.heap.size 1 (.slice q.A q.n q.c) ∧ zC w' w.heap.size 2 (.bool q.t) ∧ zC w' w.heap.size 3 (.slice q.B q.m q.d)) (first | (exact KQ) | (simp [go_sem, *]; done)) (first | (go_at_call 81; (with_reducible refine (Z2Y _).mono ?_); refine rQ ?_; intro w1 sw1 Aw1 nw1 cw1 tw1 Bw1 mw1 dw1 Hw1 hbw1; obtain ⟨R0, L0, F0⟩ := B40 w1 w) | (go_at_call 59; (with_reducible refine (HC.out _ ⟨sw1, Aw1, nw1, cw1, tw1, Bw1, mw1, dw1⟩ QX QX).mono ?_); rintro e w2 ⟨rfl, hbw2⟩; obtain ⟨R0, L0, F0⟩ := B40 w2 w))
 all_goals go_wp2_with fail
 all_goals go_region_held3 (fun w' => zC w' w.heap.size 0 (.bool q.s) ∧ zC w' w.heap.size 1 (.slice q.A q.n q.c) ∧ zC w' w.heap.size 2 (.bool q.t) ∧ zC w' w.heap.size 3 (.slice q.B q.m q.d)) (first | (exact KQ) | (simp [go_sem, *]; done)) (first | (go_at_call 156; (with_reducible refine (HB1.out _ (QX : QAt _ _ _ _ _ _ _ _ _ x).num).mono ?_); rintro e w3 ⟨rfl, hbw3⟩; obtain ⟨R0, L0, F0⟩ := B40 w3 w) | (go_at_call 156; (with_reducible refine (HB2.out _ (QX : QAt _ _ _ _ _ _ _ _ _ x).den).mono ?_); rintro e w4 ⟨rfl, hbw4⟩; obtain ⟨R0, L0, F0⟩ := B40 w4 w; obtain ⟨Rf, Lf, Ff⟩ := BC4 w4 gf; obtain ⟨R1, L1, F1⟩ := B81 w4 w))
 all_goals go_wp2_with fail
 refine ZQ 59 [(0, .pointer (some ⟨gf, 0, none⟩)), (3, .pointer (some ⟨w.heap.size, 0, none⟩)), (4, .pointer (some ⟨w.heap.size + 1, 0, none⟩)), (5, .int .i64 κ)] (fun W => Ext w W ∧ BK W (w.heap.size) (zA3 q) ∧ BK W (w.heap.size + 1) zA5) ⟨EX, BX, BX⟩ ?_
 rintro W U ⟨hW, R2, R3⟩
 dsimp only [fr, frl, Nat.reduceBEq, Nat.reduceAdd, cond_true, cond_false]
 clear HC HB1 HB2 Ff F0
 have Rf := hf.ext hW
 have Lf := Rf.lt
 have L2 := R2.lt
 have L3 := R3.lt
 have Ff := Rf.c4
 have F2 := R2.c4
 refine Zc (fun a' w' => ∃ (g6 : Nat) (s4 : Bool) (A4 : Option Addr) (n4 c4 : Nat) (U : Nat → Value), a' = fr 59 U [(0, .pointer (some ⟨gf, 0, none⟩)), (3, .pointer (some ⟨w.heap.size, 0, none⟩)), (4, .pointer (some ⟨w.heap.size + 1, 0, none⟩)), (5, .int .i64 κ), (6, .pointer (some ⟨g6, 0, none⟩))] ∧ BK w' g6 #[.int .i64 S, .bool s4, .slice A4 n4 c4] ∧ IAt w' s4 A4 n4 c4 (ZI k x) ∧ W.heap.size ≤ g6 ∧ Ext W w') (fun w' => w'.cell? ⟨gf, 0, none⟩ = some (.int .i64 k)) Z0a ?_ (by exact KQ) (fun hHeld => ?_)
 rotate_left
 ·skip
  refine TH 0 ?_; refine TH 1 ?_; refine TH 2 ?_; refine TH 3 ?_; refine TH 4 ?_
  refine RDH [5, 11] ?_
  refine ARH (fun K hK => ?_) ?_
  ·go_simp
   refine (Zk κ _ (by omega) (by omega)).mono ?_; refine rIz ?_; intro w5 sw5 Aw5 nw5 cw5 Hw5 hbw5 hzw5
   refine KH hK fun _ => ?_; clear hK K
   refine RDH [6, 11] ?_
   refine ARH (fun K hK => ?_) ?_
   ·go_simp
    refine (HB3.out _ _ _ _ _ IX).mono ?_; rintro e w6 ⟨rfl, hbw6⟩; have hzw6 := hbw6.sz
    refine KH hK fun _ => ?_; clear hK K
    refine TH 7 ?_; refine TH 8 ?_; refine TH 9 ?_
    refine RDH [10, 11] ?_
    refine ARH (fun K hK => ?_) ?_
    ·go_simp
     refine (HN.out _).mono ?_; refine rIz ?_; intro w7 sw7 Aw7 nw7 cw7 Hw7 hbw7 hzw7
     refine KH hK fun _ => ?_; clear hK K
     refine R1H 11 fun K hK => ?_
     go_simp
     refine KH hK fun _ => ?_; clear hK K
     refine R1H 12 fun K hK => ?_
     go_simp
     refine KH hK fun _ => ?_; clear hK K
     refine wpAnyH_done (by kernel_rfl) ?_ _
     exact ⟨_, sw7, Aw7, nw7, cw7, _, Zh _ _, BY, IX, by omega, EX⟩
    refine ARH (fun K hK => ?_) ?_
    ·go_simp
     refine KH hK fun _ => ?_; clear hK K
     refine R1H 10 fun K hK => ?_
     go_simp
     refine (HN.out _).mono ?_; refine rIz ?_; intro w7 sw7 Aw7 nw7 cw7 Hw7 hbw7 hzw7; obtain ⟨_, _, T0, T1, T2, T3⟩ := BC3 w7 w6.heap.size
     refine KH hK fun _ => ?_; clear hK K
     refine R1H 12 fun K hK => ?_
     go_simp
     refine KH hK fun _ => ?_; clear hK K
     refine wpAnyH_done (by kernel_rfl) ?_ _
     exact ⟨_, sw7, Aw7, nw7, cw7, _, Zh _ _, BY, IX, by omega, EX⟩
    exact AllReadyH.nil
   refine ARH (fun K hK => ?_) ?_
   ·go_simp
    refine KH hK fun _ => ?_; clear hK K
    refine R1H 6 fun K hK => ?_
    go_simp
    refine (HB3.out _ _ _ _ _ IX).mono ?_; rintro e w6 ⟨rfl, hbw6⟩; have hzw6 := hbw6.sz
    refine KH hK fun _ => ?_; clear hK K
    refine TH 7 ?_; refine TH 8 ?_; refine TH 9 ?_
    refine R1H 10 fun K hK => ?_
    go_simp
    refine (HN.out _).mono ?_; refine rIz ?_; intro w7 sw7 Aw7 nw7 cw7 Hw7 hbw7 hzw7; obtain ⟨_, _, T0, T1, T2, T3⟩ := BC3 w7 w5.heap.size
    refine KH hK fun _ => ?_; clear hK K
    refine R1H 12 fun K hK => ?_
    go_simp
    refine KH hK fun _ => ?_; clear hK K
    refine wpAnyH_done (by kernel_rfl) ?_ _
    exact ⟨_, sw7, Aw7, nw7, cw7, _, Zh _ _, BY, IX, by omega, EX⟩
   exact AllReadyH.nil
  refine ARH (fun K hK => ?_) ?_
  ·go_simp
   refine KH hK fun _ => ?_; clear hK K
   refine R1H 5 fun K hK => ?_
   go_simp
   refine (Zk κ _ (by omega) (by omega)).mono ?_; refine rIz ?_; intro w5 sw5 Aw5 nw5 cw5 Hw5 hbw5 hzw5
   refine KH hK fun _ => ?_; clear hK K
   refine R1H 6 fun K hK => ?_
   go_simp
   refine (HB3.out _ _ _ _ _ IX).mono ?_; rintro e w6 ⟨rfl, hbw6⟩; have hzw6 := hbw6.sz
   refine KH hK fun _ => ?_; clear hK K
   refine TH 7 ?_; refine TH 8 ?_; refine TH 9 ?_
   refine R1H 10 fun K hK => ?_
   go_simp
   refine (HN.out _).mono ?_; refine rIz ?_; intro w7 sw7 Aw7 nw7 cw7 Hw7 hbw7 hzw7; obtain ⟨_, _, T0, T1, T2, T3⟩ := BC3 w7 W.heap.size
   refine KH hK fun _ => ?_; clear hK K
   refine R1H 12 fun K hK => ?_
   go_simp
   refine KH hK fun _ => ?_; clear hK K
   refine wpAnyH_done (by kernel_rfl) ?_ _
   exact ⟨_, sw7, Aw7, nw7, cw7, _, Zh _ _, BY, IX, by omega, EX⟩
  exact AllReadyH.nil
 rintro a' Wb ⟨g6, s4, A4, n4, c4, U, rfl, R6, ho, hg6, hxb⟩
 dsimp only [fr, frl, Nat.reduceBEq, Nat.reduceAdd, cond_true, cond_false]
 have hmf : ∀ (fn : Fn) (first cap : Array Value) (w : World), (Instr.makeFunc fn first cap).run Tryz.prog w = .ok (.func fn first cap) w := fun _ _ _ _ => rfl
 have HO := zH ho
 have R2b := R2.ext hxb
 have R3b := R3.ext hxb
 have Rfb := Rf.ext hxb
 have hWb := hW.trans hxb
 have hQb := zH (HQ.out.ext hWb)
 have L2b := R2b.lt
 have L3b := R3b.lt
 have Lfb := Rfb.lt
 have L6b := R6.lt
 clear ho Ff F2 R2 R3 Rf L2 L3 Lf HQ
 have F2 := R2b.c4
 have HM := zH (fun W (p : QC) (h1 : q.At W x) (h2 : p.At W (Z02 (-κ))) => (by have := Z03 (x := x) (y := Z02 (-κ)) (w := W) (h1 := h1) (h2 := h2) (hs := by have := Z1y (-κ); omega); rw [HZ.out.1] at this; exact this : Ca 134 #[.agg #[.bool q.s, .slice q.A q.n q.c, .bool q.t, .slice q.B q.m q.d], .agg #[.bool p.s, .slice p.A p.n p.c, .bool p.t, .slice p.B p.m p.d]] W (Z0G W (lgY x))))
 go_wp2_with fail
 refine Zc (fun a' w' => ∃ (g8 : Nat) (p r : QC) (U : Nat → Value), a' = fr 59 U [(0, .pointer (some ⟨gf, 0, none⟩)), (3, .pointer (some ⟨w.heap.size, 0, none⟩)), (4, .pointer (some ⟨w.heap.size + 1, 0, none⟩)), (5, .int .i64 κ), (6, .pointer (some ⟨g6, 0, none⟩)), (7, .func (.func 172) #[] #[.pointer (some ⟨g6, 0, none⟩)]), (8, .pointer (some ⟨g8, 0, none⟩)), (33, .func (.func 172) #[] #[.pointer (some ⟨g6, 0, none⟩)])] ∧ BK w' g8 (zA0 p r) ∧ p.At w' (lgL (ZI k x) (lgY x) N1) ∧ r.At w' (lgH (ZI k x) (lgY x) N1) ∧ Wb.heap.size ≤ g8 ∧ Ext Wb w') (fun w' => w'.cell? ⟨w.heap.size, 0, none⟩ = some (.bool q.s) ∧ w'.cell? ⟨w.heap.size, 1, none⟩ = some (.slice q.A q.n q.c) ∧ w'.cell? ⟨w.heap.size, 2, none⟩ = some (.bool q.t) ∧ w'.cell? ⟨w.heap.size, 3, none⟩ = some (.slice q.B q.m q.d)) Z0a ?_ (by exact KQ) (fun hHeld => ?_)
 rotate_left
 ·skip
  refine TH 0 ?_; refine TH 1 ?_; refine TH 2 ?_; refine TH 3 ?_
  refine RDH [4, 7] ?_
  refine ARH (fun K hK => ?_) ?_
  ·go_simp
   refine (Z1N (-κ) _ (by omega) (by omega)).mono ?_; refine rQz ?_; intro w4 sw4 Aw4 nw4 cw4 tw4 Bw4 mw4 dw4 Hw4 hbw4 hzw4
   refine KH hK fun _ => ?_; clear hK K
   refine RDH [5, 7] ?_
   refine ARH (fun K hK => ?_) ?_
   ·go_simp
    refine (HM.out _ ⟨sw4, Aw4, nw4, cw4, tw4, Bw4, mw4, dw4⟩ QX QX).mono ?_; refine rQz ?_; intro w5 sw5 Aw5 nw5 cw5 tw5 Bw5 mw5 dw5 Hw5 hbw5 hzw5
    refine KH hK fun _ => ?_; clear hK K
    refine RDH [6, 7] ?_
    refine ARH (fun K hK => ?_) ?_
    ·go_simp
     refine (Z1d g6 S s4 A4 n4 c4 ⟨sw5, Aw5, nw5, cw5, tw5, Bw5, mw5, dw5⟩ (ZI k x) (lgY x) N1 _ BX IX QX HE.out.first).mono ?_; refine rBz ?_; intro w6 pw6 qw6 Hw6 Kw6 hbw6 hzw6
     refine KH hK fun _ => ?_; clear hK K
     refine R1H 7 fun K hK => ?_
     go_simp
     refine KH hK fun _ => ?_; clear hK K
     refine R1H 8 fun K hK => ?_
     go_simp
     refine KH hK fun _ => ?_; clear hK K
     refine wpAnyH_done (by kernel_rfl) ?_ _
     exact ⟨_, pw6, qw6, _, Zh _ _, BX, QX, QX, by omega, EX⟩
    refine ARH (fun K hK => ?_) ?_
    ·go_simp
     refine KH hK fun _ => ?_; clear hK K
     refine R1H 6 fun K hK => ?_
     go_simp
     refine (Z1d g6 S s4 A4 n4 c4 ⟨sw5, Aw5, nw5, cw5, tw5, Bw5, mw5, dw5⟩ (ZI k x) (lgY x) N1 _ BX IX QX HE.out.first).mono ?_; refine rBz ?_; intro w6 pw6 qw6 Hw6 Kw6 hbw6 hzw6; obtain ⟨_, _, T0, T1, T2, T3, T4, T5, T6, T7, T8⟩ := BC8 w6 w5.heap.size
     refine KH hK fun _ => ?_; clear hK K
     refine R1H 8 fun K hK => ?_
     go_simp
     refine KH hK fun _ => ?_; clear hK K
     refine wpAnyH_done (by kernel_rfl) ?_ _
     exact ⟨_, pw6, qw6, _, Zh _ _, BX, QX, QX, by omega, EX⟩
    exact AllReadyH.nil
   refine ARH (fun K hK => ?_) ?_
   ·go_simp
    refine KH hK fun _ => ?_; clear hK K
    refine R1H 5 fun K hK => ?_
    go_simp
    refine (HM.out _ ⟨sw4, Aw4, nw4, cw4, tw4, Bw4, mw4, dw4⟩ QX QX).mono ?_; refine rQz ?_; intro w5 sw5 Aw5 nw5 cw5 tw5 Bw5 mw5 dw5 Hw5 hbw5 hzw5
    refine KH hK fun _ => ?_; clear hK K
    refine R1H 6 fun K hK => ?_
    go_simp
    refine (Z1d g6 S s4 A4 n4 c4 ⟨sw5, Aw5, nw5, cw5, tw5, Bw5, mw5, dw5⟩ (ZI k x) (lgY x) N1 _ BX IX QX HE.out.first).mono ?_; refine rBz ?_; intro w6 pw6 qw6 Hw6 Kw6 hbw6 hzw6; obtain ⟨_, _, T0, T1, T2, T3, T4, T5, T6, T7, T8⟩ := BC8 w6 w4.heap.size
    refine KH hK fun _ => ?_; clear hK K
    refine R1H 8 fun K hK => ?_
    go_simp
    refine KH hK fun _ => ?_; clear hK K
    refine wpAnyH_done (by kernel_rfl) ?_ _
    exact ⟨_, pw6, qw6, _, Zh _ _, BX, QX, QX, by omega, EX⟩
   exact AllReadyH.nil
  refine ARH (fun K hK => ?_) ?_
  ·go_simp
   refine KH hK fun _ => ?_; clear hK K
   refine R1H 4 fun K hK => ?_
   go_simp
   refine (Z1N (-κ) _ (by omega) (by omega)).mono ?_; refine rQz ?_; intro w4 sw4 Aw4 nw4 cw4 tw4 Bw4 mw4 dw4 Hw4 hbw4 hzw4
   refine KH hK fun _ => ?_; clear hK K
   refine R1H 5 fun K hK => ?_
   go_simp
   refine (HM.out _ ⟨sw4, Aw4, nw4, cw4, tw4, Bw4, mw4, dw4⟩ QX QX).mono ?_; refine rQz ?_; intro w5 sw5 Aw5 nw5 cw5 tw5 Bw5 mw5 dw5 Hw5 hbw5 hzw5
   refine KH hK fun _ => ?_; clear hK K
   refine R1H 6 fun K hK => ?_
   go_simp
   refine (Z1d g6 S s4 A4 n4 c4 ⟨sw5, Aw5, nw5, cw5, tw5, Bw5, mw5, dw5⟩ (ZI k x) (lgY x) N1 _ BX IX QX HE.out.first).mono ?_; refine rBz ?_; intro w6 pw6 qw6 Hw6 Kw6 hbw6 hzw6; obtain ⟨_, _, T0, T1, T2, T3, T4, T5, T6, T7, T8⟩ := BC8 w6 Wb.heap.size
   refine KH hK fun _ => ?_; clear hK K
   refine R1H 8 fun K hK => ?_
   go_simp
   refine KH hK fun _ => ?_; clear hK K
   refine wpAnyH_done (by kernel_rfl) ?_ _
   exact ⟨_, pw6, qw6, _, Zh _ _, BX, QX, QX, by omega, EX⟩
  exact AllReadyH.nil
 rintro a' Wc ⟨g8, p, r, U, rfl, R8, hp, hr, hg8, hxc⟩
 dsimp only [fr, frl, Nat.reduceBEq, Nat.reduceAdd, cond_true, cond_false]
 have HP := zH hp
 have HR := zH hr
 have hsz := HE.out.sizes
 have R3c := R3b.ext hxc
 have Rfc := Rfb.ext hxc
 have R6c := R6.ext hxc
 have HOc := zH (HO.out.ext hxc)
 have hWc := hWb.trans hxc
 have L8 := R8.lt
 have L3c := R3c.lt
 have Lfc := Rfc.lt
 have L6c := R6c.lt
 have g1w : IntKind.i64.wrap (k + 2) = k + 2 := by rw [IntKind.wrap_i64]; omega
 clear hp hr F2 R2b R3b Rfb R6 HO HM hQb
 have F8 := R8.c8
 have Ff := Rfc.c4
 by_cases hk00 : κ = 0
 ·have e1 := zH (show Z8d k x N1 N2 = lgL (ZI k x) (lgY x) N1 from if_pos (HZ.out.1 ▸ hk00))
  have e2 := zH (show Z8e k x N1 N2 = lgH (ZI k x) (lgY x) N1 from if_pos (HZ.out.1 ▸ hk00))
  replace hk00 := zH hk00
  have hkd : decide (κ = 0) = true := by simp [hk00.out]
  have hkd2 : (κ != 0) = false := by simp [hk00.out]
  have hkd3 : ¬ (κ ≠ 0) := fun h => h hk00.out
  go_wp2_with fail
  go_region_held3 (fun w' => zC w' g8 0 (.bool p.s) ∧ zC w' g8 1 (.slice p.A p.n p.c) ∧ zC w' g8 2 (.bool p.t) ∧ zC w' g8 3 (.slice p.B p.m p.d) ∧ zC w' g8 4 (.bool r.s) ∧ zC w' g8 5 (.slice r.A r.n r.c) ∧ zC w' g8 6 (.bool r.t) ∧ zC w' g8 7 (.slice r.B r.m r.d) ∧ zC w' gf 0 (.int .i64 k)) (first | (exact KQ) | (simp [go_sem, *]; done)) ((go_at_call 73; (with_reducible refine (Z1Z p r (lgL (ZI k x) (lgY x) N1) (lgH (ZI k x) (lgY x) N1) (k + 2) _ QX QX (by omega) (by omega) (by omega)).mono ?_); refine rB ?_; intro w9 pw9 qw9 Hw9 Kw9 hbw9; have R3 : BK w9 ((w.heap.size + 1)) #[.bool false, .slice none 0 0, .bool false, .slice none 0 0, .bool false, .slice none 0 0, .bool false, .slice none 0 0] := BX; have L3 := R3.lt; have F3 := R3.c8))
  all_goals go_wp2_with fail
  all_goals refine BK.finB (g := w.heap.size + 1) (c := #[.bool pw9.s, .slice pw9.A pw9.n pw9.c, .bool pw9.t, .slice pw9.B pw9.m pw9.d, .bool qw9.s, .slice qw9.A qw9.n qw9.c, .bool qw9.t, .slice qw9.B qw9.m qw9.d]) (w0 := w) (T := fun W => pw9.At W (Zl (lgL (ZI k x) (lgY x) N1) (k + 2)) ∧ qw9.At W (-Zl (-(lgH (ZI k x) (lgY x) N1)) (k + 2))) BX EX ⟨QX, QX⟩ (fun W U E hT => ?_)
  all_goals have Fu := U.c8
  all_goals refine bodyPost_ret (v := .agg (zA0 pw9 qw9)) (by simp [zA0, results, results99, go_sem, Fu]) rfl ⟨pw9, qw9, rfl, by rw [e1.out]; exact hT.1, by rw [e2.out]; exact hT.2, E⟩
 ·have e1 := zH (show Z8d k x N1 N2 = lgL (ZI k x) (lgY x) N1 + lgU k x N2 from if_neg (HZ.out.1 ▸ hk00))
  have e2 := zH (show Z8e k x N1 N2 = lgH (ZI k x) (lgY x) N1 + lgV k x N2 from if_neg (HZ.out.1 ▸ hk00))
  have hE2 := zH (HE.out.second (HZ.out.1 ▸ hk00))
  have hkd2 : (κ != 0) = true := by simp [hk00]
  have hkq : qm (κ : Rat) ≤ 2 := by have := Z32 κ; have := Zo (z := κ) (by omega) (by omega); omega
  have HPr := zH (fun W (s t u : QC) (h1 : s.At W (κ : Rat)) (h2 : t.At W (lgP k x N2)) (h3 : u.At W (lgQ k x N2)) => (by
   have := ZF s s t u (κ : Rat) (κ : Rat) (lgP k x N2) (lgQ k x N2) W h1 h1 h2 h3 (by omega)
   rw [HZ.out.1] at this
   exact this : Ca 66 #[.agg #[.bool s.s, .slice s.A s.n s.c, .bool s.t, .slice s.B s.m s.d, .bool s.s, .slice s.A s.n s.c, .bool s.t, .slice s.B s.m s.d], .agg #[.bool t.s, .slice t.A t.n t.c, .bool t.t, .slice t.B t.m t.d, .bool u.s, .slice u.A u.n u.c, .bool u.t, .slice u.B u.m u.d]] W (Z0e W (lgU k x N2) (lgV k x N2))))
  go_wp2_with fail
  refine Zc (fun a' w' => ∃ (p2 r2 : QC) (U : Nat → Value), a' = fr 59 U [(0, .pointer (some ⟨gf, 0, none⟩)), (3, .pointer (some ⟨w.heap.size, 0, none⟩)), (4, .pointer (some ⟨w.heap.size + 1, 0, none⟩)), (5, .int .i64 κ), (6, .pointer (some ⟨g6, 0, none⟩)), (7, .func (.func 172) #[] #[.pointer (some ⟨g6, 0, none⟩)]), (8, .pointer (some ⟨g8, 0, none⟩)), (33, .func (.func 172) #[] #[.pointer (some ⟨g6, 0, none⟩)])] ∧ BK w' g8 (zA0 p2 r2) ∧ p2.At w' (lgL (ZI k x) (lgY x) N1 + lgU k x N2) ∧ r2.At w' (lgH (ZI k x) (lgY x) N1 + lgV k x N2) ∧ Ext w w' ∧ BK w' (w.heap.size + 1) zA5 ∧ BK w' gf #[.int .i64 k, f1, f2, f3]) (fun w' => w'.cell? ⟨gf, 0, none⟩ = some (.int .i64 k)) Z0a ?_ (by exact KQ) (fun hHeld => ?_)
  rotate_left
  ·skip
   refine TH 1 ?_; refine TH 4 ?_
   refine RDH [0, 2] ?_
   refine ARH (fun K hK => ?_) ?_
   ·go_simp
    refine KH hK fun _ => ?_; clear hK K
    refine R1H 2 fun K hK => ?_
    go_simp
    refine (Z0D κ _ (by omega) (by omega)).mono ?_; refine rQz ?_; intro w4 sw4 Aw4 nw4 cw4 tw4 Bw4 mw4 dw4 Hw4 hbw4 hzw4; obtain ⟨_, _, T0, T1, T2, T3, T4, T5, T6, T7, T8⟩ := BC8 w4 g8
    refine KH hK fun _ => ?_; clear hK K
    refine R1H 3 fun K hK => ?_
    go_simp
    refine (Z2g ⟨sw4, Aw4, nw4, cw4, tw4, Bw4, mw4, dw4⟩ _).mono ?_; rintro e w5 ⟨rfl, hbw5⟩; have hzw5 := hbw5.sz; obtain ⟨_, _, T0, T1, T2, T3, T4, T5, T6, T7, T8⟩ := BC8 w5 g8
    refine KH hK fun _ => ?_; clear hK K
    refine R1H 5 fun K hK => ?_
    go_simp
    refine (Z4k _).mono ?_; refine rQz ?_; intro w6 sw6 Aw6 nw6 cw6 tw6 Bw6 mw6 dw6 Hw6 hbw6 hzw6; obtain ⟨_, _, T0, T1, T2, T3, T4, T5, T6, T7, T8⟩ := BC8 w6 g8
    refine KH hK fun _ => ?_; clear hK K
    refine R1H 6 fun K hK => ?_
    go_simp
    refine ((show Ca _ _ _ (Z0e _ (lgP k x N2) (lgQ k x N2)) from Z1d g6 S s4 A4 n4 c4 ⟨sw6, Aw6, nw6, cw6, tw6, Bw6, mw6, dw6⟩ (ZI k x) 2 N2 _ BX IX QX hE2.out)).mono ?_; refine rBz ?_; intro w7 pw7 qw7 Hw7 Kw7 hbw7 hzw7; obtain ⟨_, _, T0, T1, T2, T3, T4, T5, T6, T7, T8⟩ := BC8 w7 g8
    refine KH hK fun _ => ?_; clear hK K
    refine R1H 7 fun K hK => ?_
    go_simp
    refine (HPr.out _ ⟨sw4, Aw4, nw4, cw4, tw4, Bw4, mw4, dw4⟩ pw7 qw7 QX QX QX).mono ?_; refine rBz ?_; intro w8 pw8 qw8 Hw8 Kw8 hbw8 hzw8; obtain ⟨_, _, T0, T1, T2, T3, T4, T5, T6, T7, T8⟩ := BC8 w8 g8
    refine KH hK fun _ => ?_; clear hK K
    refine R1H 8 fun K hK => ?_
    go_simp
    refine (Z2v p r pw8 qw8 _ _ _ _ _ QX QX QX QX (by omega)).mono ?_; refine rBz ?_; intro w9 pw9 qw9 Hw9 Kw9 hbw9 hzw9; obtain ⟨_, _, T0, T1, T2, T3, T4, T5, T6, T7, T8⟩ := BC8 w9 g8
    refine KH hK fun _ => ?_; clear hK K
    refine R1H 9 fun K hK => ?_
    go_simp
    refine KH hK fun _ => ?_; clear hK K
    refine wpAnyH_done (by kernel_rfl) ?_ _
    exact ⟨pw9, qw9, _, Zr _ _, BX, QX, QX, EX, BX, BX⟩
   refine ARH (fun K hK => ?_) ?_
   ·go_simp
    refine (Z0D κ _ (by omega) (by omega)).mono ?_; refine rQz ?_; intro w4 sw4 Aw4 nw4 cw4 tw4 Bw4 mw4 dw4 Hw4 hbw4 hzw4; obtain ⟨_, _, T0, T1, T2, T3, T4, T5, T6, T7, T8⟩ := BC8 w4 g8
    refine KH hK fun _ => ?_; clear hK K
    refine RDH [0, 3] ?_
    refine ARH (fun K hK => ?_) ?_
    ·go_simp
     refine KH hK fun _ => ?_; clear hK K
     refine R1H 3 fun K hK => ?_
     go_simp
     refine (Z2g ⟨sw4, Aw4, nw4, cw4, tw4, Bw4, mw4, dw4⟩ _).mono ?_; rintro e w5 ⟨rfl, hbw5⟩; have hzw5 := hbw5.sz; obtain ⟨_, _, T0, T1, T2, T3, T4, T5, T6, T7, T8⟩ := BC8 w5 g8
     refine KH hK fun _ => ?_; clear hK K
     refine R1H 5 fun K hK => ?_
     go_simp
     refine (Z4k _).mono ?_; refine rQz ?_; intro w6 sw6 Aw6 nw6 cw6 tw6 Bw6 mw6 dw6 Hw6 hbw6 hzw6; obtain ⟨_, _, T0, T1, T2, T3, T4, T5, T6, T7, T8⟩ := BC8 w6 g8
     refine KH hK fun _ => ?_; clear hK K
     refine R1H 6 fun K hK => ?_
     go_simp
     refine ((show Ca _ _ _ (Z0e _ (lgP k x N2) (lgQ k x N2)) from Z1d g6 S s4 A4 n4 c4 ⟨sw6, Aw6, nw6, cw6, tw6, Bw6, mw6, dw6⟩ (ZI k x) 2 N2 _ BX IX QX hE2.out)).mono ?_; refine rBz ?_; intro w7 pw7 qw7 Hw7 Kw7 hbw7 hzw7; obtain ⟨_, _, T0, T1, T2, T3, T4, T5, T6, T7, T8⟩ := BC8 w7 g8
     refine KH hK fun _ => ?_; clear hK K
     refine R1H 7 fun K hK => ?_
     go_simp
     refine (HPr.out _ ⟨sw4, Aw4, nw4, cw4, tw4, Bw4, mw4, dw4⟩ pw7 qw7 QX QX QX).mono ?_; refine rBz ?_; intro w8 pw8 qw8 Hw8 Kw8 hbw8 hzw8; obtain ⟨_, _, T0, T1, T2, T3, T4, T5, T6, T7, T8⟩ := BC8 w8 g8
     refine KH hK fun _ => ?_; clear hK K
     refine R1H 8 fun K hK => ?_
     go_simp
     refine (Z2v p r pw8 qw8 _ _ _ _ _ QX QX QX QX (by omega)).mono ?_; refine rBz ?_; intro w9 pw9 qw9 Hw9 Kw9 hbw9 hzw9; obtain ⟨_, _, T0, T1, T2, T3, T4, T5, T6, T7, T8⟩ := BC8 w9 g8
     refine KH hK fun _ => ?_; clear hK K
     refine R1H 9 fun K hK => ?_
     go_simp
     refine KH hK fun _ => ?_; clear hK K
     refine wpAnyH_done (by kernel_rfl) ?_ _
     exact ⟨pw9, qw9, _, Zr _ _, BX, QX, QX, EX, BX, BX⟩
    refine ARH (fun K hK => ?_) ?_
    ·go_simp
     refine (Z2g ⟨sw4, Aw4, nw4, cw4, tw4, Bw4, mw4, dw4⟩ _).mono ?_; rintro e w5 ⟨rfl, hbw5⟩; have hzw5 := hbw5.sz; obtain ⟨_, _, T0, T1, T2, T3, T4, T5, T6, T7, T8⟩ := BC8 w5 g8
     refine KH hK fun _ => ?_; clear hK K
     refine RDH [0, 5] ?_
     refine ARH (fun K hK => ?_) ?_
     ·go_simp
      refine KH hK fun _ => ?_; clear hK K
      refine R1H 5 fun K hK => ?_
      go_simp
      refine (Z4k _).mono ?_; refine rQz ?_; intro w6 sw6 Aw6 nw6 cw6 tw6 Bw6 mw6 dw6 Hw6 hbw6 hzw6; obtain ⟨_, _, T0, T1, T2, T3, T4, T5, T6, T7, T8⟩ := BC8 w6 g8
      refine KH hK fun _ => ?_; clear hK K
      refine R1H 6 fun K hK => ?_
      go_simp
      refine ((show Ca _ _ _ (Z0e _ (lgP k x N2) (lgQ k x N2)) from Z1d g6 S s4 A4 n4 c4 ⟨sw6, Aw6, nw6, cw6, tw6, Bw6, mw6, dw6⟩ (ZI k x) 2 N2 _ BX IX QX hE2.out)).mono ?_; refine rBz ?_; intro w7 pw7 qw7 Hw7 Kw7 hbw7 hzw7; obtain ⟨_, _, T0, T1, T2, T3, T4, T5, T6, T7, T8⟩ := BC8 w7 g8
      refine KH hK fun _ => ?_; clear hK K
      refine R1H 7 fun K hK => ?_
      go_simp
      refine (HPr.out _ ⟨sw4, Aw4, nw4, cw4, tw4, Bw4, mw4, dw4⟩ pw7 qw7 QX QX QX).mono ?_; refine rBz ?_; intro w8 pw8 qw8 Hw8 Kw8 hbw8 hzw8; obtain ⟨_, _, T0, T1, T2, T3, T4, T5, T6, T7, T8⟩ := BC8 w8 g8
      refine KH hK fun _ => ?_; clear hK K
      refine R1H 8 fun K hK => ?_
      go_simp
      refine (Z2v p r pw8 qw8 _ _ _ _ _ QX QX QX QX (by omega)).mono ?_; refine rBz ?_; intro w9 pw9 qw9 Hw9 Kw9 hbw9 hzw9; obtain ⟨_, _, T0, T1, T2, T3, T4, T5, T6, T7, T8⟩ := BC8 w9 g8
      refine KH hK fun _ => ?_; clear hK K
      refine R1H 9 fun K hK => ?_
      go_simp
      refine KH hK fun _ => ?_; clear hK K
      refine wpAnyH_done (by kernel_rfl) ?_ _
      exact ⟨pw9, qw9, _, Zr _ _, BX, QX, QX, EX, BX, BX⟩
     refine ARH (fun K hK => ?_) ?_
     ·go_simp
      refine (Z4k _).mono ?_; refine rQz ?_; intro w6 sw6 Aw6 nw6 cw6 tw6 Bw6 mw6 dw6 Hw6 hbw6 hzw6; obtain ⟨_, _, T0, T1, T2, T3, T4, T5, T6, T7, T8⟩ := BC8 w6 g8
      refine KH hK fun _ => ?_; clear hK K
      refine RDH [0, 6] ?_
      refine ARH (fun K hK => ?_) ?_
      ·go_simp
       refine KH hK fun _ => ?_; clear hK K
       refine R1H 6 fun K hK => ?_
       go_simp
       refine ((show Ca _ _ _ (Z0e _ (lgP k x N2) (lgQ k x N2)) from Z1d g6 S s4 A4 n4 c4 ⟨sw6, Aw6, nw6, cw6, tw6, Bw6, mw6, dw6⟩ (ZI k x) 2 N2 _ BX IX QX hE2.out)).mono ?_; refine rBz ?_; intro w7 pw7 qw7 Hw7 Kw7 hbw7 hzw7; obtain ⟨_, _, T0, T1, T2, T3, T4, T5, T6, T7, T8⟩ := BC8 w7 g8
       refine KH hK fun _ => ?_; clear hK K
       refine R1H 7 fun K hK => ?_
       go_simp
       refine (HPr.out _ ⟨sw4, Aw4, nw4, cw4, tw4, Bw4, mw4, dw4⟩ pw7 qw7 QX QX QX).mono ?_; refine rBz ?_; intro w8 pw8 qw8 Hw8 Kw8 hbw8 hzw8; obtain ⟨_, _, T0, T1, T2, T3, T4, T5, T6, T7, T8⟩ := BC8 w8 g8
       refine KH hK fun _ => ?_; clear hK K
       refine R1H 8 fun K hK => ?_
       go_simp
       refine (Z2v p r pw8 qw8 _ _ _ _ _ QX QX QX QX (by omega)).mono ?_; refine rBz ?_; intro w9 pw9 qw9 Hw9 Kw9 hbw9 hzw9; obtain ⟨_, _, T0, T1, T2, T3, T4, T5, T6, T7, T8⟩ := BC8 w9 g8
       refine KH hK fun _ => ?_; clear hK K
       refine R1H 9 fun K hK => ?_
       go_simp
       refine KH hK fun _ => ?_; clear hK K
       refine wpAnyH_done (by kernel_rfl) ?_ _
       exact ⟨pw9, qw9, _, Zr _ _, BX, QX, QX, EX, BX, BX⟩
      refine ARH (fun K hK => ?_) ?_
      ·go_simp
       refine ((show Ca _ _ _ (Z0e _ (lgP k x N2) (lgQ k x N2)) from Z1d g6 S s4 A4 n4 c4 ⟨sw6, Aw6, nw6, cw6, tw6, Bw6, mw6, dw6⟩ (ZI k x) 2 N2 _ BX IX QX hE2.out)).mono ?_; refine rBz ?_; intro w7 pw7 qw7 Hw7 Kw7 hbw7 hzw7; obtain ⟨_, _, T0, T1, T2, T3, T4, T5, T6, T7, T8⟩ := BC8 w7 g8
       refine KH hK fun _ => ?_; clear hK K
       refine RDH [0, 7] ?_
       refine ARH (fun K hK => ?_) ?_
       ·go_simp
        refine KH hK fun _ => ?_; clear hK K
        refine R1H 7 fun K hK => ?_
        go_simp
        refine (HPr.out _ ⟨sw4, Aw4, nw4, cw4, tw4, Bw4, mw4, dw4⟩ pw7 qw7 QX QX QX).mono ?_; refine rBz ?_; intro w8 pw8 qw8 Hw8 Kw8 hbw8 hzw8; obtain ⟨_, _, T0, T1, T2, T3, T4, T5, T6, T7, T8⟩ := BC8 w8 g8
        refine KH hK fun _ => ?_; clear hK K
        refine R1H 8 fun K hK => ?_
        go_simp
        refine (Z2v p r pw8 qw8 _ _ _ _ _ QX QX QX QX (by omega)).mono ?_; refine rBz ?_; intro w9 pw9 qw9 Hw9 Kw9 hbw9 hzw9; obtain ⟨_, _, T0, T1, T2, T3, T4, T5, T6, T7, T8⟩ := BC8 w9 g8
        refine KH hK fun _ => ?_; clear hK K
        refine R1H 9 fun K hK => ?_
        go_simp
        refine KH hK fun _ => ?_; clear hK K
        refine wpAnyH_done (by kernel_rfl) ?_ _
        exact ⟨pw9, qw9, _, Zr _ _, BX, QX, QX, EX, BX, BX⟩
       refine ARH (fun K hK => ?_) ?_
       ·go_simp
        refine (HPr.out _ ⟨sw4, Aw4, nw4, cw4, tw4, Bw4, mw4, dw4⟩ pw7 qw7 QX QX QX).mono ?_; refine rBz ?_; intro w8 pw8 qw8 Hw8 Kw8 hbw8 hzw8; obtain ⟨_, _, T0, T1, T2, T3, T4, T5, T6, T7, T8⟩ := BC8 w8 g8
        refine KH hK fun _ => ?_; clear hK K
        refine R1H 0 fun K hK => ?_
        go_simp
        refine KH hK fun _ => ?_; clear hK K
        refine R1H 8 fun K hK => ?_
        go_simp
        refine (Z2v p r pw8 qw8 _ _ _ _ _ QX QX QX QX (by omega)).mono ?_; refine rBz ?_; intro w9 pw9 qw9 Hw9 Kw9 hbw9 hzw9; obtain ⟨_, _, T0, T1, T2, T3, T4, T5, T6, T7, T8⟩ := BC8 w9 g8
        refine KH hK fun _ => ?_; clear hK K
        refine R1H 9 fun K hK => ?_
        go_simp
        refine KH hK fun _ => ?_; clear hK K
        refine wpAnyH_done (by kernel_rfl) ?_ _
        exact ⟨pw9, qw9, _, Zr _ _, BX, QX, QX, EX, BX, BX⟩
       exact AllReadyH.nil
      exact AllReadyH.nil
     exact AllReadyH.nil
    exact AllReadyH.nil
   exact AllReadyH.nil
  rintro a' Wd ⟨p2, r2, U, rfl, R8, hp2, hr2, hxd, R3d, Rfd⟩
  dsimp only [fr, frl, Nat.reduceBEq, Nat.reduceAdd, cond_true, cond_false]
  have HP2 := zH hp2
  have HR2 := zH hr2
  have L8 := R8.lt
  have L3d := R3d.lt
  have Lfd := Rfd.lt
  clear hp2 hr2 F8 Ff R3c Rfc HP HR
  have F8 := R8.c8
  have Ff := Rfd.c4
  have s1 := Z4l (lgL (ZI k x) (lgY x) N1) (lgU k x N2)
  have s2 := Z4l (lgH (ZI k x) (lgY x) N1) (lgV k x N2)
  go_wp2_with fail
  go_region_held3 (fun w' => zC w' g8 0 (.bool p2.s) ∧ zC w' g8 1 (.slice p2.A p2.n p2.c) ∧ zC w' g8 2 (.bool p2.t) ∧ zC w' g8 3 (.slice p2.B p2.m p2.d) ∧ zC w' g8 4 (.bool r2.s) ∧ zC w' g8 5 (.slice r2.A r2.n r2.c) ∧ zC w' g8 6 (.bool r2.t) ∧ zC w' g8 7 (.slice r2.B r2.m r2.d) ∧ zC w' gf 0 (.int .i64 k)) (first | (exact KQ) | (simp [go_sem, *]; done)) ((go_at_call 73; (with_reducible refine (Z1Z p2 r2 (lgL (ZI k x) (lgY x) N1 + lgU k x N2) (lgH (ZI k x) (lgY x) N1 + lgV k x N2) (k + 2) _ QX QX (by omega) (by omega) (by omega)).mono ?_); refine rB ?_; intro w9 pw9 qw9 Hw9 Kw9 hbw9; have R3 : BK w9 ((w.heap.size + 1)) #[.bool false, .slice none 0 0, .bool false, .slice none 0 0, .bool false, .slice none 0 0, .bool false, .slice none 0 0] := BX; have L3 := R3.lt; have F3 := R3.c8))
  all_goals go_wp2_with fail
  all_goals refine BK.finB (g := w.heap.size + 1) (c := #[.bool pw9.s, .slice pw9.A pw9.n pw9.c, .bool pw9.t, .slice pw9.B pw9.m pw9.d, .bool qw9.s, .slice qw9.A qw9.n qw9.c, .bool qw9.t, .slice qw9.B qw9.m qw9.d]) (w0 := w) (T := fun W => pw9.At W (Zl (lgL (ZI k x) (lgY x) N1 + lgU k x N2) (k + 2)) ∧ qw9.At W (-Zl (-(lgH (ZI k x) (lgY x) N1 + lgV k x N2)) (k + 2))) BX EX ⟨QX, QX⟩ (fun W U E hT => ?_)
  all_goals have Fu := U.c8
  all_goals refine bodyPost_ret (v := .agg (zA0 pw9 qw9)) (by simp [zA0, results, results99, go_sem, Fu]) rfl ⟨pw9, qw9, rfl, by rw [e1.out]; exact hT.1, by rw [e2.out]; exact hT.2, E⟩
theorem ZaO (g : Nat) (k : Int) (p q : QC) (x y : Rat) (w : World) (hg : BK w g #[.int .i64 k]) (hp : p.At w x) (hq : q.At w y) (hk0 : 0 ≤ k) (hk1 : k ≤ 400) (hpos : 0 < x) (hw : y - x ≤ Z02 (-k)) (hs : 2 * (qm x + qm y) + 20000 < Z8) :
  Ca 82 #[.agg (zA0 p q), .pointer (some ⟨g, 0, none⟩)] w (fun e w' => e = .returned (.bool true) ∧ Ext w w') := by
 have hmw : 100000 < Z8 := by decide
 have hsg := Z00 (Z58 hpos)
 have hn1 := hp.n
 have HS := zH (fun W (h : p.At W x) => (by have := Zy p.s p.A p.n p.c p.t p.B p.m p.d x W h (by omega); rw [hsg] at this; exact this : Ca 84 #[.agg #[.bool p.s, .slice p.A p.n p.c, .bool p.t, .slice p.B p.m p.d]] W fun e w' => e = .returned (.int .i64 1) ∧ Ext W w'))
 clear hsg hpos
 have HW := zH (fun W (h1 : p.At W x) (h2 : q.At W y) => (by have := Z2s p q x y W h1 h2 k (by omega) (by omega) hs; rw [decide_eq_true hw] at this; exact this : Ca 83 #[.agg #[.bool p.s, .slice p.A p.n p.c, .bool p.t, .slice p.B p.m p.d, .bool q.s, .slice q.A q.n q.c, .bool q.t, .slice q.B q.m q.d], .int .i64 k] W fun e w' => e = .returned (.bool true) ∧ Ext W w'))
 have HP := zH hp
 have HQ := zH hq
 have Lg := hg.lt
 have Fg := hg.c1
 clear hp hq hw
 dsimp only [zA0]
 go_enter func82, ntmps82
 go_wp2_with (
  first
  | (go_at_call 83; (with_reducible refine (HW.out _ QX QX).mono ?_); rintro e w1 ⟨rfl, hbw1⟩; obtain ⟨R0, L0, F0⟩ := B80 w1 w)
  | (go_at_call 84; (with_reducible refine (HS.out _ QX).mono ?_); rintro e w2 ⟨rfl, hbw2⟩; obtain ⟨R0, L0, F0⟩ := B80 w2 w))
 all_goals go_ret
 all_goals exact ⟨rfl, EX⟩
theorem ZaM (g : Nat) (k : Int) (p q : QC) (x y : Rat) (w : World) (hg : BK w g #[.int .i64 k]) (hp : p.At w x) (hq : q.At w y) (hk0 : 0 ≤ k) (hk1 : k ≤ 400) (hw : y - x ≤ Z02 (-k)) (hs : 2 * (qm x + qm y) + 20000 < Z8) :
  Ca 97 #[.agg (zA0 p q), .pointer (some ⟨g, 0, none⟩)] w (fun e w' => e = .returned (.bool true) ∧ Ext w w') := by
 have hmw : 100000 < Z8 := by decide
 have HW := zH (fun W (h1 : p.At W x) (h2 : q.At W y) => (by have := Z2s p q x y W h1 h2 k (by omega) (by omega) hs; rw [decide_eq_true hw] at this; exact this : Ca 83 #[.agg #[.bool p.s, .slice p.A p.n p.c, .bool p.t, .slice p.B p.m p.d, .bool q.s, .slice q.A q.n q.c, .bool q.t, .slice q.B q.m q.d], .int .i64 k] W fun e w' => e = .returned (.bool true) ∧ Ext W w'))
 have HP := zH hp
 have HQ := zH hq
 have Lg := hg.lt
 have Fg := hg.c1
 clear hp hq hw
 dsimp only [zA0]
 go_enter func97, ntmps97
 go_wp2_with (go_at_call 83; (with_reducible refine (HW.out _ QX QX).mono ?_); rintro e w1 ⟨rfl, hbw1⟩; obtain ⟨R0, L0, F0⟩ := B80 w1 w)
 all_goals go_ret
 all_goals exact ⟨rfl, EX⟩
theorem ZaN (g : Nat) (k : Int) (q : QC) (x : Rat) (N : Nat) (w : World) (hg : BK w g (zA3 q)) (hq : q.At w x) (E : Za8 k x N) :
  Ca 86 #[.int .i64 k, .pointer (some ⟨g, 0, none⟩)] w (Z0e w (Zl (Z5Z k x N) (k + 2)) (-Zl (-(Z6R k x N)) (k + 2))) := by
 have HQ := zH hq
 have HE := zH E
 have Lg := hg.lt
 have Fg := hg.c4
 clear hq E
 go_enter func86, ntmps86
 go_wp2_with fail
 go_region_held3 (fun w' => zC w' g 0 (.bool q.s) ∧ zC w' g 1 (.slice q.A q.n q.c) ∧ zC w' g 2 (.bool q.t) ∧ zC w' g 3 (.slice q.B q.m q.d)) (first | (exact KQ) | (simp [go_sem, *]; done)) (first | (go_at_call 87; (with_reducible refine (Z0L k _).mono ?_); rintro e w1 ⟨gf, f1, f2, f3, rfl, Bf, hbw1⟩; obtain ⟨R0, L0, F0⟩ := B80 w1 w) | (go_at_call 88; (with_reducible refine (Z9T gf k f1 f2 f3 q x N _ BX QX HE.out).mono ?_); refine rB ?_; intro w2 pw2 qw2 Hw2 Kw2 hbw2; obtain ⟨R0, L0, F0⟩ := B80 w2 w))
 all_goals go_wp2_with fail
 all_goals refine BK.finB (g := w.heap.size) (c := #[.bool pw2.s, .slice pw2.A pw2.n pw2.c, .bool pw2.t, .slice pw2.B pw2.m pw2.d, .bool qw2.s, .slice qw2.A qw2.n qw2.c, .bool qw2.t, .slice qw2.B qw2.m qw2.d]) (w0 := w) (T := fun W => pw2.At W (Zl (Z5Z k x N) (k + 2)) ∧ qw2.At W (-Zl (-(Z6R k x N)) (k + 2))) BX EX ⟨QX, QX⟩ (fun W U E hT => ?_)
 all_goals have Fu := U.c8
 all_goals refine bodyPost_ret (v := .agg (zA0 pw2 qw2)) (by simp [zA0, results, results86, go_sem, Fu]) rfl ⟨pw2, qw2, rfl, hT.1, hT.2, E⟩
theorem ZaL (g : Nat) (k : Int) (q : QC) (x : Rat) (N1 N2 : Nat) (w : World) (hg : BK w g (zA3 q)) (hq : q.At w x) (E : Z52 k x N1 N2) :
  Ca 98 #[.int .i64 k, .pointer (some ⟨g, 0, none⟩)] w (Z0e w (Zl (Z8d k x N1 N2) (k + 2)) (-Zl (-(Z8e k x N1 N2)) (k + 2))) := by
 have HQ := zH hq
 have HE := zH E
 have Lg := hg.lt
 have Fg := hg.c4
 clear hq E
 go_enter func98, ntmps98
 go_wp2_with fail
 go_region_held3 (fun w' => zC w' g 0 (.bool q.s) ∧ zC w' g 1 (.slice q.A q.n q.c) ∧ zC w' g 2 (.bool q.t) ∧ zC w' g 3 (.slice q.B q.m q.d)) (first | (exact KQ) | (simp [go_sem, *]; done)) (first | (go_at_call 87; (with_reducible refine (Z0L k _).mono ?_); rintro e w1 ⟨gf, f1, f2, f3, rfl, Bf, hbw1⟩; obtain ⟨R0, L0, F0⟩ := B80 w1 w) | (go_at_call 99; (with_reducible refine (Z9P gf k f1 f2 f3 q x N1 N2 _ BX QX HE.out).mono ?_); refine rB ?_; intro w2 pw2 qw2 Hw2 Kw2 hbw2; obtain ⟨R0, L0, F0⟩ := B80 w2 w))
 all_goals go_wp2_with fail
 all_goals refine BK.finB (g := w.heap.size) (c := #[.bool pw2.s, .slice pw2.A pw2.n pw2.c, .bool pw2.t, .slice pw2.B pw2.m pw2.d, .bool qw2.s, .slice qw2.A qw2.n qw2.c, .bool qw2.t, .slice qw2.B qw2.m qw2.d]) (w0 := w) (T := fun W => pw2.At W (Zl (Z8d k x N1 N2) (k + 2)) ∧ qw2.At W (-Zl (-(Z8e k x N1 N2)) (k + 2))) BX EX ⟨QX, QX⟩ (fun W U E hT => ?_)
 all_goals have Fu := U.c8
 all_goals refine bodyPost_ret (v := .agg (zA0 pw2 qw2)) (by simp [zA0, results, results98, go_sem, Fu]) rfl ⟨pw2, qw2, rfl, hT.1, hT.2, E⟩
theorem Z7D (q : QC) (x : Rat) (k : Int) (w : World) (hq : q.At w x) (hqm : qm x ≤ 400) (hz : (decide (0 ≤ k) && decide (k ≤ 400)) = false) :
  Ca 25 #[.agg (zA3 q), .int .i64 k] w (fun e w' => e = .returned (.tuple #[.agg zA5, .int .i64 1]) ∧ Ext w w') := by
 have hmw : 100000 < Z8 := by decide
 have hn1 := hq.n
 have HQ := zH hq
 clear hq
 dsimp only [zA3, zA5]
 go_enter func25, ntmps25
 go_wp2_with (go_at_call 72; (with_reducible refine (Z06 k _).mono ?_); rw [hz]; rintro e w1 ⟨rfl, hbw1⟩; obtain ⟨R0, L0, F0⟩ := B40 w1 w; obtain ⟨R1, L1, F1⟩ := BC1 w1 (w.heap.size + 1); obtain ⟨R2, L2, F2⟩ := B82 w1 w)
 all_goals refine bodyPost_ret (v := .tuple #[.agg zA5, .int .i64 1]) (by simp [zA5, results, results25, go_sem, Z6, F2]) rfl ⟨rfl, EX⟩
theorem Z5L (q : QC) (x : Rat) (k : Int) (w : World) (hq : q.At w x) (hqm : qm x ≤ 400) (hz : (decide (0 ≤ k) && decide (k ≤ 400)) = true) (hx : 300 < Z0h x (-x)) :
  Ca 25 #[.agg (zA3 q), .int .i64 k] w (fun e w' => e = .returned (.tuple #[.agg zA5, .int .i64 2]) ∧ Ext w w') := by
 have hmw : 100000 < Z8 := by decide
 have hn1 := hq.n
 have HQ := zH hq
 have m5 := Z1z x (-x)
 have m6 := Z22 x
 have m7 : qm ((300 : Int) : Rat) ≤ 2 := by decide +kernel
 obtain ⟨cq, hcq⟩ : ∃ c, c = Z0s (Z0h x (-x)) ((300 : Int) : Rat) := ⟨_, rfl⟩
 have hc0 : decide (0 < cq) = true := decide_eq_true (by rw [hcq]; exact Z4P.2 hx)
 have hc1 : 0 < cq := by simpa using hc0
 have HC := zH (fun W (a b : QC) (h : a.At W (Z0h x (-x))) (h' : b.At W ((300 : Int) : Rat)) => (by have := Z0U (w := W) (h1 := h) (h2 := h') (hs := by omega); rw [← hcq] at this; exact this : Ca 59 #[.agg #[.bool a.s, .slice a.A a.n a.c, .bool a.t, .slice a.B a.m a.d], .agg #[.bool b.s, .slice b.A b.n b.c, .bool b.t, .slice b.B b.m b.d]] W fun e w' => e = .returned (.int .i64 cq) ∧ Ext W w'))
 clear hcq
 clear hq
 dsimp only [zA3, zA5]
 go_enter func25, ntmps25
 go_wp2_with (
  first
  | (go_at_call 72; (with_reducible refine (Z06 k _).mono ?_); rw [hz]; rintro e w1 ⟨rfl, hbw1⟩; obtain ⟨R0, L0, F0⟩ := B40 w1 w; obtain ⟨R1, L1, F1⟩ := BC1 w1 (w.heap.size + 1); obtain ⟨R2, L2, F2⟩ := B82 w1 w)
  | (go_at_call 80; (with_reducible refine (Z0Q q x _ QX (by omega)).mono ?_); refine rQ ?_; intro w2 sw2 Aw2 nw2 cw2 tw2 Bw2 mw2 dw2 Hw2 hbw2; obtain ⟨R0, L0, F0⟩ := B40 w2 w; obtain ⟨R1, L1, F1⟩ := BC1 w2 (w.heap.size + 1); obtain ⟨R2, L2, F2⟩ := B82 w2 w)
  | (go_at_call 81; (with_reducible refine (Z0D 300 _ (by decide) (by decide)).mono ?_); refine rQ ?_; intro w3 sw3 Aw3 nw3 cw3 tw3 Bw3 mw3 dw3 Hw3 hbw3; obtain ⟨R0, L0, F0⟩ := B40 w3 w; obtain ⟨R1, L1, F1⟩ := BC1 w3 (w.heap.size + 1); obtain ⟨R2, L2, F2⟩ := B82 w3 w)
  | (go_at_call 59; (with_reducible refine (HC.out _ ⟨sw2, Aw2, nw2, cw2, tw2, Bw2, mw2, dw2⟩ ⟨sw3, Aw3, nw3, cw3, tw3, Bw3, mw3, dw3⟩ QX QX).mono ?_); rintro e w4 ⟨rfl, hbw4⟩; obtain ⟨R0, L0, F0⟩ := B40 w4 w; obtain ⟨R1, L1, F1⟩ := BC1 w4 (w.heap.size + 1); obtain ⟨R2, L2, F2⟩ := B82 w4 w))
 all_goals refine bodyPost_ret (v := .tuple #[.agg zA5, .int .i64 2]) (by simp [zA5, results, results25, go_sem, Z6, F2]) rfl ⟨rfl, EX⟩
theorem ZbF (q : QC) (x : Rat) (k : Int) (N : Nat) (w : World) (hq : q.At w x) (hk0 : 0 ≤ k) (hk1 : k ≤ 400) (hx : Z0h x (-x) ≤ 300) (E : Za8 (k + 24) x N) (hp : 0 < Zl (Z5Z (k + 24) x N) ((k + 24) + 2)) (hw : (-Zl (-(Z6R (k + 24) x N)) ((k + 24) + 2)) - (Zl (Z5Z (k + 24) x N) ((k + 24) + 2)) ≤ Z02 (-k)) (hs : 2 * (qm (Zl (Z5Z (k + 24) x N) ((k + 24) + 2)) + qm (-Zl (-(Z6R (k + 24) x N)) ((k + 24) + 2))) + 20000 < Z8) :
  Ca 25 #[.agg (zA3 q), .int .i64 k] w (Z50 w (Zl (Z5Z (k + 24) x N) ((k + 24) + 2)) (-Zl (-(Z6R (k + 24) x N)) ((k + 24) + 2))) := by
 have hmf : ∀ (fn : Fn) (first cap : Array Value) (w : World), (Instr.makeFunc fn first cap).run Tryz.prog w = .ok (.func fn first cap) w := fun _ _ _ _ => rfl
 have hmw : 100000 < Z8 := by decide
 have hqm := E.qm
 have hn1 := hq.n
 have hz : (decide (0 ≤ k) && decide (k ≤ 400)) = true := by simp [hk0, hk1]
 have HQ := zH hq
 have HE := zH E
 replace hp := zH hp
 replace hw := zH hw
 replace hs := zH hs
 have m5 := Z1z x (-x)
 have m6 := Z22 x
 have m7 : qm ((300 : Int) : Rat) ≤ 2 := by decide +kernel
 obtain ⟨cq, hcq⟩ : ∃ c, c = Z0s (Z0h x (-x)) ((300 : Int) : Rat) := ⟨_, rfl⟩
 have hc0 : decide (0 < cq) = false := decide_eq_false (by rw [hcq]; have := Z4P (x := Z0h x (-x)) (y := ((300 : Int) : Rat)); intro h; exact absurd (this.1 h) (Rat.not_lt.2 hx))
 have hc1 : ¬ 0 < cq := by simpa using hc0
 have HC := zH (fun W (a b : QC) (h : a.At W (Z0h x (-x))) (h' : b.At W ((300 : Int) : Rat)) => (by have := Z0U (w := W) (h1 := h) (h2 := h') (hs := by omega); rw [← hcq] at this; exact this : Ca 59 #[.agg #[.bool a.s, .slice a.A a.n a.c, .bool a.t, .slice a.B a.m a.d], .agg #[.bool b.s, .slice b.A b.n b.c, .bool b.t, .slice b.B b.m b.d]] W fun e w' => e = .returned (.int .i64 cq) ∧ Ext W w'))
 clear hcq
 clear hq E
 dsimp only [zA3]
 go_enter func25, ntmps25
 go_wp2_with (
  first
  | (go_at_call 72; (with_reducible refine (Z06 k _).mono ?_); rw [hz]; rintro e w1 ⟨rfl, hbw1⟩; obtain ⟨R0, L0, F0⟩ := B40 w1 w; obtain ⟨R1, L1, F1⟩ := BC1 w1 (w.heap.size + 1); obtain ⟨R2, L2, F2⟩ := B82 w1 w)
  | (go_at_call 80; (with_reducible refine (Z0Q q x _ QX (by omega)).mono ?_); refine rQ ?_; intro w2 sw2 Aw2 nw2 cw2 tw2 Bw2 mw2 dw2 Hw2 hbw2; obtain ⟨R0, L0, F0⟩ := B40 w2 w; obtain ⟨R1, L1, F1⟩ := BC1 w2 (w.heap.size + 1); obtain ⟨R2, L2, F2⟩ := B82 w2 w)
  | (go_at_call 81; (with_reducible refine (Z0D 300 _ (by decide) (by decide)).mono ?_); refine rQ ?_; intro w3 sw3 Aw3 nw3 cw3 tw3 Bw3 mw3 dw3 Hw3 hbw3; obtain ⟨R0, L0, F0⟩ := B40 w3 w; obtain ⟨R1, L1, F1⟩ := BC1 w3 (w.heap.size + 1); obtain ⟨R2, L2, F2⟩ := B82 w3 w)
  | (go_at_call 59; (with_reducible refine (HC.out _ ⟨sw2, Aw2, nw2, cw2, tw2, Bw2, mw2, dw2⟩ ⟨sw3, Aw3, nw3, cw3, tw3, Bw3, mw3, dw3⟩ QX QX).mono ?_); rintro e w4 ⟨rfl, hbw4⟩; obtain ⟨R0, L0, F0⟩ := B40 w4 w; obtain ⟨R1, L1, F1⟩ := BC1 w4 (w.heap.size + 1); obtain ⟨R2, L2, F2⟩ := B82 w4 w)
  | (go_at_call 85; (with_reducible refine (Z1D 82 _ (fun _ _ => rfl) 86 _ (fun _ _ => rfl) k (Zl (Z5Z (k + 24) x N) ((k + 24) + 2)) (-Zl (-(Z6R (k + 24) x N)) ((k + 24) + 2)) _ hk0 (by omega) (fun W e => ZaN _ _ q x N W BX QX HE.out) (fun W a b e h1 h2 => ZaO _ _ a b _ _ W BX h1 h2 hk0 hk1 hp.out hw.out hs.out)).mono ?_); refine rB ?_; intro w5 pw5 qw5 Hw5 Kw5 hbw5; obtain ⟨R0, L0, F0⟩ := B40 w5 w; obtain ⟨R1, L1, F1⟩ := BC1 w5 (w.heap.size + 1); obtain ⟨R2, L2, F2⟩ := B82 w5 w))
 all_goals refine bodyPost_ret (v := .tuple #[.agg (zA0 pw5 qw5), .int .i64 0]) (by simp [zA0, results, results25, go_sem, Z6, F2]) rfl ⟨pw5, qw5, rfl, QX, QX, EX⟩
theorem ZbY (q : QC) (x : Rat) (k : Int) (w : World) (hq : q.At w x) (hqm : qm x ≤ 400) (hz : (decide (0 ≤ k) && decide (k ≤ 400)) = false) :
  Ca 33 #[.agg (zA3 q), .int .i64 k] w (fun e w' => e = .returned (.tuple #[.agg zA5, .int .i64 1]) ∧ Ext w w') := by
 have hmw : 100000 < Z8 := by decide
 have hn1 := hq.n
 have HQ := zH hq
 clear hq
 dsimp only [zA3, zA5]
 go_enter func33, ntmps33
 go_wp2_with (go_at_call 72; (with_reducible refine (Z06 k _).mono ?_); rw [hz]; rintro e w1 ⟨rfl, hbw1⟩; obtain ⟨R0, L0, F0⟩ := B40 w1 w; obtain ⟨R1, L1, F1⟩ := BC1 w1 (w.heap.size + 1); obtain ⟨R2, L2, F2⟩ := B82 w1 w)
 all_goals refine bodyPost_ret (v := .tuple #[.agg zA5, .int .i64 1]) (by simp [zA5, results, results33, go_sem, Z6, F2]) rfl ⟨rfl, EX⟩
theorem Z6D (q : QC) (x : Rat) (k : Int) (w : World) (hq : q.At w x) (hqm : qm x ≤ 400) (hz : (decide (0 ≤ k) && decide (k ≤ 400)) = true) (hx : x.num ≤ 0) :
  Ca 33 #[.agg (zA3 q), .int .i64 k] w (fun e w' => e = .returned (.tuple #[.agg zA5, .int .i64 5]) ∧ Ext w w') := by
 have hmw : 100000 < Z8 := by decide
 have hn1 := hq.n
 have HQ := zH hq
 obtain ⟨cq, hcq⟩ : ∃ c, c = Z0R x.num := ⟨_, rfl⟩
 have hc1 : cq ≤ 0 := by rw [hcq]; unfold Z0R; split <;> (try split) <;> omega
 have hc0 : decide (cq ≤ 0) = true := decide_eq_true hc1
 have HC := zH (fun W (h : q.At W x) => (by have := Zy q.s q.A q.n q.c q.t q.B q.m q.d x W h (by omega); rw [← hcq] at this; exact this : Ca 84 #[.agg #[.bool q.s, .slice q.A q.n q.c, .bool q.t, .slice q.B q.m q.d]] W fun e w' => e = .returned (.int .i64 cq) ∧ Ext W w'))
 clear hcq
 clear hq
 dsimp only [zA3, zA5]
 go_enter func33, ntmps33
 go_wp2_with (
  first
  | (go_at_call 72; (with_reducible refine (Z06 k _).mono ?_); rw [hz]; rintro e w1 ⟨rfl, hbw1⟩; obtain ⟨R0, L0, F0⟩ := B40 w1 w; obtain ⟨R1, L1, F1⟩ := BC1 w1 (w.heap.size + 1); obtain ⟨R2, L2, F2⟩ := B82 w1 w)
  | (go_at_call 84; (with_reducible refine (HC.out _ QX).mono ?_); rintro e w2 ⟨rfl, hbw2⟩; obtain ⟨R0, L0, F0⟩ := B40 w2 w; obtain ⟨R1, L1, F1⟩ := BC1 w2 (w.heap.size + 1); obtain ⟨R2, L2, F2⟩ := B82 w2 w))
 all_goals refine bodyPost_ret (v := .tuple #[.agg zA5, .int .i64 5]) (by simp [zA5, results, results33, go_sem, Z6, F2]) rfl ⟨rfl, EX⟩
theorem ZbD (q : QC) (x : Rat) (k : Int) (N1 N2 : Nat) (w : World) (hq : q.At w x) (hk0 : 0 ≤ k) (hk1 : k ≤ 400) (E : Z52 (k + 24) x N1 N2) (hw : (-Zl (-(Z8e (k + 24) x N1 N2)) ((k + 24) + 2)) - (Zl (Z8d (k + 24) x N1 N2) ((k + 24) + 2)) ≤ Z02 (-k)) (hs : 2 * (qm (Zl (Z8d (k + 24) x N1 N2) ((k + 24) + 2)) + qm (-Zl (-(Z8e (k + 24) x N1 N2)) ((k + 24) + 2))) + 20000 < Z8) :
  Ca 33 #[.agg (zA3 q), .int .i64 k] w (Z50 w (Zl (Z8d (k + 24) x N1 N2) ((k + 24) + 2)) (-Zl (-(Z8e (k + 24) x N1 N2)) ((k + 24) + 2))) := by
 have hmf : ∀ (fn : Fn) (first cap : Array Value) (w : World), (Instr.makeFunc fn first cap).run Tryz.prog w = .ok (.func fn first cap) w := fun _ _ _ _ => rfl
 have hmw : 100000 < Z8 := by decide
 have hqm := E.qm
 have hn1 := hq.n
 have hnum := Z58 E.pos
 have hz : (decide (0 ≤ k) && decide (k ≤ 400)) = true := by simp [hk0, hk1]
 have HQ := zH hq
 have HE := zH E
 replace hw := zH hw
 replace hs := zH hs
 obtain ⟨cq, hcq⟩ : ∃ c, c = Z0R x.num := ⟨_, rfl⟩
 have hc1 : ¬ cq ≤ 0 := by rw [hcq, Z00 hnum]; decide
 have hc0 : decide (cq ≤ 0) = false := decide_eq_false hc1
 have HC := zH (fun W (h : q.At W x) => (by have := Zy q.s q.A q.n q.c q.t q.B q.m q.d x W h (by omega); rw [← hcq] at this; exact this : Ca 84 #[.agg #[.bool q.s, .slice q.A q.n q.c, .bool q.t, .slice q.B q.m q.d]] W fun e w' => e = .returned (.int .i64 cq) ∧ Ext W w'))
 clear hcq
 clear hq E hnum
 dsimp only [zA3]
 go_enter func33, ntmps33
 go_wp2_with (
  first
  | (go_at_call 72; (with_reducible refine (Z06 k _).mono ?_); rw [hz]; rintro e w1 ⟨rfl, hbw1⟩; obtain ⟨R0, L0, F0⟩ := B40 w1 w; obtain ⟨R1, L1, F1⟩ := BC1 w1 (w.heap.size + 1); obtain ⟨R2, L2, F2⟩ := B82 w1 w)
  | (go_at_call 84; (with_reducible refine (HC.out _ QX).mono ?_); rintro e w2 ⟨rfl, hbw2⟩; obtain ⟨R0, L0, F0⟩ := B40 w2 w; obtain ⟨R1, L1, F1⟩ := BC1 w2 (w.heap.size + 1); obtain ⟨R2, L2, F2⟩ := B82 w2 w)
  | (go_at_call 85; (with_reducible refine (Z1D 97 _ (fun _ _ => rfl) 98 _ (fun _ _ => rfl) k (Zl (Z8d (k + 24) x N1 N2) ((k + 24) + 2)) (-Zl (-(Z8e (k + 24) x N1 N2)) ((k + 24) + 2)) _ hk0 (by omega) (fun W e => ZaL _ _ q x N1 N2 W BX QX HE.out) (fun W a b e h1 h2 => ZaM _ _ a b _ _ W BX h1 h2 hk0 hk1 hw.out hs.out)).mono ?_); refine rB ?_; intro w5 pw5 qw5 Hw5 Kw5 hbw5; obtain ⟨R0, L0, F0⟩ := B40 w5 w; obtain ⟨R1, L1, F1⟩ := BC1 w5 (w.heap.size + 1); obtain ⟨R2, L2, F2⟩ := B82 w5 w))
 all_goals refine bodyPost_ret (v := .tuple #[.agg (zA0 pw5 qw5), .int .i64 0]) (by simp [zA0, results, results33, go_sem, Z6, F2]) rfl ⟨pw5, qw5, rfl, QX, QX, EX⟩
end Go.Proofs.YtnmmncccpdffaaaGreat
