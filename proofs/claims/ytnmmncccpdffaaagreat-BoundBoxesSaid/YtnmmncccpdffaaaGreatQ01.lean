/- What BoundBoxes calls, part 1. -/
import Derived.RegionTactic
import Derived.Shelf.Small.Bits
import Derived.Lib.Small
import Derived.Lib.ItoaNum
import Derived.Test.YtnmmncccpdffaaaGreatQ00
set_option linter.unusedVariables false
set_option linter.unusedSimpArgs false
set_option maxRecDepth 100000
set_option maxHeartbeats 16000000
namespace Go.Proofs.YtnmmncccpdffaaaGreat
open Go.Proofs.Tryz Go Go.RowKit Go.Shelf
theorem Z4b (A1 A2 : Option Addr) (n1 c1 n2 c2 : Nat) (l1 l2 : List Nat) (w : World) (h1 : WAt w A1 n1 c1 l1) (h2 : WAt w A2 n2 c2 l2) (hs1 : n1 ≤ Z8) (hs2 : n2 ≤ Z8) :
  Ca 208 #[.slice A1 n1 c1, .slice A2 n2 c2] w (ZcB w (val l1 * val l2) (n1 + n2)) := by
 unfold Z8 at hs1 hs2
 have H1 := zH h1
 have H2 := zH h2
 clear h1 h2
 have hmk := Z1f ((n1 : Int) + n2) (n1 + n2) (by omega) (by omega)
 go_enter func208, ntmps208
 go_wp2_with fail
 have Z0 : ∃ out, Blk (w.alloc (ZZ (List.replicate (n1 + n2) 0))) w.heap.size out ∧ Z51 l1 l2 0 out :=
  ⟨_, by rw [H1.out.len, H2.out.len]; exact Blk.new w _, Z51.start l1 l2⟩
 go_loopw [20] (fun i wr => ∃ (k : Nat) (out : List Nat), k ≤ n1 ∧ i = .int .i64 (k : Int) ∧ Blk wr w.heap.size out ∧ Z51 l1 l2 k out ∧ Ext w wr) (fun i _ => n1 - (intOf i).toNat)
 case atStart => obtain ⟨out, hb, hm⟩ := Z0; exact ⟨0, out, by omega, rfl, hb, hm, EX⟩
 case round =>
  clear Z0 hmk
  obtain ⟨k, out, hk, rfl, hB, hM, hx⟩ := hrel
  by_cases hlt : k < n1
  ·have HB := zH hB
   have HM := zH hM
   have HX := zH hx
   obtain ⟨hc, hf⟩ := hx.cells
   clear hB hM hx
   obtain ⟨b1, f1, rfl, hb1, hc1⟩ := H1.out.at (by omega)
   have g1 := hc1 k hlt
   have p1 := (H1.out.pad k).1
   clear hc1
   obtain ⟨x, hx⟩ : ∃ x, l1.getD k 0 = x := ⟨_, rfl⟩
   rw [hx] at g1 p1
   have HXX := zH hx
   clear hx
   go_wp2_with fail
   obtain ⟨wo, rfl⟩ : ∃ wo : World, wo = wr := ⟨_, rfl⟩
   have R0 : Z6g l2 out k 0 x 0 out := HM.out.row
   have HR0 := zH R0
   clear R0
   go_loopw [27, 8] (fun i cv wq => ∃ (j c : Nat) (o' : List Nat), j ≤ n2 ∧ i = .int .i64 (j : Int) ∧ cv = .int .u64 (c : Int) ∧ Blk wq w.heap.size o' ∧ Z6g l2 out k j x c o' ∧ Ext w wq) (fun i _ _ => n2 - (intOf i).toNat)
   case atStart => exact ⟨0, 0, out, by omega, rfl, rfl, HB.out, HR0.out, HX.out⟩
   case round =>
    clear hc hf
    obtain ⟨j, c, o', hj, rfl, rfl, hB, hR, hx⟩ := hrel
    obtain ⟨hc, hf⟩ := hx.cells
    have hlen : o'.length = n1 + n2 := by rw [hR.len, HM.out.len, ← H1.out.len, ← H2.out.len]
    have pc := hR.car
    have HB' := zH hB
    have HR' := zH hR
    have HX' := zH hx
    by_cases hlt2 : j < n2
    ·have e0 := hB.cell (k + j) (by omega)
     have e1 := hB.frozen (k + j)
     have po := Zd hR.ok (k + j)
     obtain ⟨b2, f2, rfl, hb2, hc2⟩ := H2.out.at (by omega)
     have g2 := hc2 j hlt2
     have p2 := (H2.out.pad j).1
     obtain ⟨y, hy⟩ : ∃ y, l2.getD j 0 = y := ⟨_, rfl⟩
     obtain ⟨o, ho⟩ : ∃ o, o'.getD (k + j) 0 = o := ⟨_, rfl⟩
     rw [ho] at e0 po
     rw [hy] at g2 p2
     have HS := hR.step p1 H2.out.rep.ok (by rw [← H2.out.len]; exact hlt2) (by omega)
     rw [hy, ho] at HS
     have HS' := zH HS
     have HBS := zH (hB.set (k + j) ((x * y + o + c) % 4294967296))
     obtain ⟨m0, m1, m2⟩ := Z27 p1 p2 po pc
     simp only [B32] at po pc
     clear hB hR hx HS hy ho hc2
     go_wp2
     go_roundw
     case rel => exact ⟨j + 1, (x * y + o + c) / 4294967296, _, by omega, by simp, by simp, by simpa using HBS.out, HS'.out, by have hxx := HX'.out; exact EX⟩
     case measure => simp [intOf]; omega
    ·obtain rfl : j = n2 := by omega
     have e0 := hB.cell (k + j) (by omega)
     have e1 := hB.frozen (k + j)
     obtain ⟨o, ho⟩ : ∃ o, o'.getD (k + j) 0 = o := ⟨_, rfl⟩
     rw [ho] at e0
     have HS := Z6g.done HM.out (by rw [← H1.out.len]; exact hlt) (by rw [← H2.out.len, HXX.out]; exact hR)
     rw [← H2.out.len] at HS
     have HS' := zH HS
     have HBS := zH (hB.set (k + j) c)
     simp only [B32] at pc
     clear hB hR hx HS ho
     go_wp2
     go_roundw
     case rel => exact ⟨k + 1, _, by omega, by simp, HBS.out, HS'.out, by have hxx := HX'.out; exact EX⟩
     case measure => simp [intOf]; omega
  ·obtain rfl : k = n1 := by omega
   have HB := zH hB
   have HM := zH hM
   clear hB hM
   go_wp2
   go_ret
   have hm := HM.out
   rw [H1.out.len] at hm
   refine ⟨_, _, _, out, rfl, HB.out.wat hm.ok _ _ (by rw [hm.len, ← H1.out.len, H2.out.len]) (by simp), hm.all, by simp, hx⟩
theorem Z93 (s1 s2 : Bool) (a b : Nat) : sgd (!s1 == s2) (a * b) = sgd s1 a * sgd s2 b := by
 unfold sgd; cases s1 <;> cases s2 <;> simp [Int.natCast_mul, Int.neg_mul, Int.mul_neg]
theorem Zaz (a b : Nat) (ha : a < 4294967296) (hb : b < 4294967296) : IntKind.u64.wrap (IntKind.u64.wrap (a : Int) * IntKind.u64.wrap (b : Int)) = ((a * b : Nat) : Int) := by
 have h := Z34 ha hb (o := 0) (c := 0) (by omega) (by omega)
 rw [Z0m (a : Int) (by omega) (by omega), Z0m (b : Int) (by omega) (by omega), ← Int.natCast_mul]
 exact Z0m _ (Int.natCast_nonneg _) (by generalize a * b = m at *; omega)
theorem Zt (s1 s2 : Bool) (A1 A2 : Option Addr) (n1 c1 n2 c2 : Nat) (x y : Int) (w : World) (h1 : IAt w s1 A1 n1 c1 x) (h2 : IAt w s2 A2 n2 c2 y) (hs : n1 + n2 < Z8) :
  Ca 131 #[.agg #[.bool s1, .slice A1 n1 c1], .agg #[.bool s2, .slice A2 n2 c2]] w (Z1F w (x * y)) := by
 have hs1' : n1 ≤ Z8 := by omega
 have hs2' : n2 ≤ Z8 := by omega
 have HV : Hid (sgd (!s1 == s2) (val (Z7 x.natAbs) * val (Z7 y.natAbs)) = x * y) := by show _ = _; rw [Z93, h1.sv, h2.sv]
 have H1 := zH h1
 have H2 := zH h2
 clear h1 h2
 obtain ⟨sb, hsb⟩ : ∃ b, (!s1 == s2) = b := ⟨_, rfl⟩
 rw [hsb] at HV
 by_cases hone : n1 = 1 ∧ n2 = 1
 ·obtain ⟨e1, e2⟩ := hone
  have q1 : ((n1 : Int) == 1) = true := by simp; omega
  have q2 : ((n2 : Int) == 1) = true := by simp; omega
  have r1 : 0 < n1 := by omega
  have r2 : 0 < n2 := by omega
  obtain ⟨b1, f1, rfl, hb1, hc1⟩ := H1.out.rep.at (by omega)
  obtain ⟨b2, f2, rfl, hb2, hc2⟩ := H2.out.rep.at (by omega)
  have g1 := hc1 0 (by omega)
  have g2 := hc2 0 (by omega)
  obtain ⟨a, ha⟩ : ∃ a, Z7 x.natAbs = [a] := List.length_eq_one_iff.1 (by rw [← H1.out.rep.len]; exact e1)
  obtain ⟨b, hb⟩ : ∃ a, Z7 y.natAbs = [a] := List.length_eq_one_iff.1 (by rw [← H2.out.rep.len]; exact e2)
  have p1 := H1.out.rep.rep.ok a (by rw [ha]; simp)
  have p2 := H2.out.rep.rep.ok b (by rw [hb]; simp)
  have HV2 : Hid (sgd sb (a * b : Nat) = x * y) := by
   have := HV.out; rw [ha, hb, Z0g, Z0g] at this; exact this
  rw [ha] at g1
  rw [hb] at g2
  simp only [List.getD_cons_zero, Nat.add_zero, B32] at g1 g2 p1 p2
  obtain ⟨m0, m1, m2⟩ := Z27 p1 p2 (o := 0) (c := 0) (by omega) (by omega)
  have mb := Z34 p1 p2 (o := 0) (c := 0) (by omega) (by omega)
  have MB := zH mb
  have ME := zH (Zaz a b p1 p2)
  clear hc1 hc2 ha hb HV mb m1 hs e1 e2
  have l11 : b1 < w.heap.size + 1 := by omega
  have l12 : b1 < w.heap.size + 2 := by omega
  have l13 : b1 < w.heap.size + 3 := by omega
  have l21 : b2 < w.heap.size + 1 := by omega
  have l22 : b2 < w.heap.size + 2 := by omega
  have l23 : b2 < w.heap.size + 3 := by omega
  go_enter func131, ntmps131
  go_wp2_with (go_at_call 201; (with_reducible refine (Z0o s1 s2 (some ⟨b1, f1, none⟩) (some ⟨b2, f2, none⟩) n1 c1 n2 c2 _ x y _ (H1.out.ext EX) (H2.out.ext EX) hs1' hs2' (by simp [go_sem]) (by simp [go_sem]) (by simp [go_sem]) (by simp [go_sem])).mono ?_); rintro e w1 ⟨rfl, hbw1⟩; (try clear hc hf); obtain ⟨hBw1, hc, hf⟩ := EC3 w1 w)
  go_region_held3 (fun w' => zC w' w.heap.size 0 (.bool s1) ∧ zC w' w.heap.size 1 (.slice (some ⟨b1, f1, none⟩) n1 c1) ∧ zC w' (w.heap.size + 1) 0 (.bool s2) ∧ zC w' (w.heap.size + 1) 1 (.slice (some ⟨b2, f2, none⟩) n2 c2) ∧ w'.cell? ⟨b1, f1, none⟩ = some (.int .u32 (a : Int)) ∧ w'.cell? ⟨b2, f2, none⟩ = some (.int .u32 (b : Int))) (simp [go_sem, hc, hb1, hb2, g1, g2, l11, l12, l13, l21, l22, l23]) ((go_at_call 205; rw [ME.out]; (with_reducible refine (Z1r sb (a * b) _ (by have hmb := MB.out; omega)).mono ?_); rintro e w4 ⟨sw4, Aw4, nw4, cw4, rfl, hIw4, hbw4⟩; (try clear hc hf); obtain ⟨hBw4, hc, hf⟩ := EC3 w4 w))
  go_wp2
  rw [HV2.out] at hIw4
  refine bodyPost_ret (v := .agg #[.bool sw4, .slice Aw4 nw4 cw4]) (by simp [results, results131, go_sem, hc, hf]) rfl ⟨_, _, _, _, rfl, IAt.keep hIw4 KP, EX⟩
 ·by_cases hn1 : n1 = 1
  ·have hq1 : ((n1 : Int) == 1) = true := by simp; omega
   have hq : ((n2 : Int) == 1) = false := by simp; omega
   clear hone hn1
   go_enter func131, ntmps131
   go_wp2_with (go_at_call 201; (with_reducible refine (Z0o s1 s2 A1 A2 n1 c1 n2 c2 _ x y _ (H1.out.ext EX) (H2.out.ext EX) hs1' hs2' (by simp [go_sem]) (by simp [go_sem]) (by simp [go_sem]) (by simp [go_sem])).mono ?_); rintro e w1 ⟨rfl, hbw1⟩; (try clear hc hf); obtain ⟨hBw1, hc, hf⟩ := EC3 w1 w)
   go_region_held3 (fun w' => zC w' w.heap.size 0 (.bool s1) ∧ zC w' w.heap.size 1 (.slice A1 n1 c1) ∧ zC w' (w.heap.size + 1) 0 (.bool s2) ∧ zC w' (w.heap.size + 1) 1 (.slice A2 n2 c2)) (simp [go_sem, hc]) (first | (go_at_call 208; (with_reducible refine (Z4b A1 A2 n1 c1 n2 c2 _ _ _ (H1.out.rep.ext EX) (H2.out.rep.ext EX) hs1' hs2').mono ?_); rintro e w3 ⟨Aw3, nw3, cw3, lw3, rfl, hIw3, hvw3, hnw3, hbw3⟩; (try clear hc hf); obtain ⟨hBw3, hc, hf⟩ := EC3 w3 w; have HVw3 := zH hvw3; clear hvw3) | (go_at_call 207; (with_reducible refine (Zs sb _ _ _ _ _ (hIw3.ext EX) (by omega)).mono ?_); rintro e w4 ⟨sw4, Aw4, nw4, cw4, rfl, hIw4, hbw4⟩; (try clear hc hf); obtain ⟨hBw4, hc, hf⟩ := EC3 w4 w))
   go_wp2
   rw [HVw3.out, HV.out] at hIw4
   refine bodyPost_ret (v := .agg #[.bool sw4, .slice Aw4 nw4 cw4]) (by simp [results, results131, go_sem, hc, hf]) rfl ⟨_, _, _, _, rfl, IAt.keep hIw4 KP, EX⟩
  ·have hq : ((n1 : Int) == 1) = false := by simp; omega
   clear hone hn1
   go_enter func131, ntmps131
   go_wp2_with (go_at_call 201; (with_reducible refine (Z0o s1 s2 A1 A2 n1 c1 n2 c2 _ x y _ (H1.out.ext EX) (H2.out.ext EX) hs1' hs2' (by simp [go_sem]) (by simp [go_sem]) (by simp [go_sem]) (by simp [go_sem])).mono ?_); rintro e w1 ⟨rfl, hbw1⟩; (try clear hc hf); obtain ⟨hBw1, hc, hf⟩ := EC3 w1 w)
   go_region_held3 (fun w' => zC w' w.heap.size 0 (.bool s1) ∧ zC w' w.heap.size 1 (.slice A1 n1 c1) ∧ zC w' (w.heap.size + 1) 0 (.bool s2) ∧ zC w' (w.heap.size + 1) 1 (.slice A2 n2 c2)) (simp [go_sem, hc]) (first | (go_at_call 208; (with_reducible refine (Z4b A1 A2 n1 c1 n2 c2 _ _ _ (H1.out.rep.ext EX) (H2.out.rep.ext EX) hs1' hs2').mono ?_); rintro e w3 ⟨Aw3, nw3, cw3, lw3, rfl, hIw3, hvw3, hnw3, hbw3⟩; (try clear hc hf); obtain ⟨hBw3, hc, hf⟩ := EC3 w3 w; have HVw3 := zH hvw3; clear hvw3) | (go_at_call 207; (with_reducible refine (Zs sb _ _ _ _ _ (hIw3.ext EX) (by omega)).mono ?_); rintro e w4 ⟨sw4, Aw4, nw4, cw4, rfl, hIw4, hbw4⟩; (try clear hc hf); obtain ⟨hBw4, hc, hf⟩ := EC3 w4 w))
   go_wp2
   rw [HVw3.out, HV.out] at hIw4
   refine bodyPost_ret (v := .agg #[.bool sw4, .slice Aw4 nw4 cw4]) (by simp [results, results131, go_sem, hc, hf]) rfl ⟨_, _, _, _, rfl, IAt.keep hIw4 KP, EX⟩
/-! ### A step of the subtraction of q times v from a window r. -/
structure Z3L (v r0 : List Nat) (q j c b : Nat) (r : List Nat) : Prop where
 len : r.length = r0.length
 ok : WOk r
 car : c < 4294967296
 bor : b ≤ 1
 eq : val (r.take j) + q * val (v.take j) = val (r0.take j) + B32 ^ j * (c + b)
 rest : r.drop j = r0.drop j
theorem Z3L.start {v r0 : List Nat} (q : Nat) (h : WOk r0) : Z3L v r0 q 0 0 0 r0 := ⟨rfl, h, by decide, by decide, by simp [val], rfl⟩
def Z2l (o p b : Nat) : Nat := (o + 18446744073709551616 - p % 4294967296 - b) % 4294967296
def Z3h (o p b : Nat) : Nat := if o < p % 4294967296 + b then 1 else 0
theorem Z56 (o p b : Nat) (ho : o < B32) (hb : b ≤ 1) : Z2l o p b + p + b = o + B32 * (p / 4294967296 + Z3h o p b) := by
 have := Nat.mod_add_div p 4294967296
 simp only [B32] at *
 unfold Z2l Z3h; split <;> omega
theorem Z7Y (P B n p b o c' b' R Rv q y Y : Nat) (hw : n + (q * y + p) + b = o + B * (c' + b')) (h : R + q * Y = Rv + P * (p + b)) :
  R + P * n + q * (Y + P * y) = Rv + P * o + P * B * (c' + b') := by
 have e := congrArg (P * ·) hw
 simp only [Nat.mul_add] at e
 have e2 : q * (Y + P * y) = q * Y + P * (q * y) := by rw [Nat.mul_add]; congr 1; simp only [Nat.mul_left_comm]
 have e3 : P * B * (c' + b') = P * (B * c') + P * (B * b') := by rw [Nat.mul_assoc, ← Nat.mul_add, Nat.mul_add B]
 have e4 : P * (p + b) = P * p + P * b := Nat.mul_add ..
 rw [e2, e3]; rw [e4] at h
 omega
theorem Z0P {r r0 : List Nat} {j : Nat} (h : r.drop j = r0.drop j) (k : Nat) (hk : j ≤ k) : r.getD k 0 = r0.getD k 0 := by
 have := congrArg (fun l => l.getD (k - j) 0) h
 simp only [Z0n] at this
 rwa [show j + (k - j) = k by omega] at this
theorem Z3L.step {v r0 r : List Nat} {q j c b : Nat} (h : Z3L v r0 q j c b r) (hq : q < 4294967296) (hv : WOk v) (hj : j < v.length) (hl : v.length < r.length) :
  Z3L v r0 q (j + 1) ((q * v.getD j 0 + c) / 4294967296) (Z3h (r.getD j 0) (q * v.getD j 0 + c) b) (r.set j (Z2l (r.getD j 0) (q * v.getD j 0 + c) b)) := by
 have hy := Zd hv j
 have ho := Zd h.ok j
 have hb := Z34 hq hy (o := 0) (c := c) (by decide) h.car
 refine ⟨by rw [List.length_set, h.len], h.ok.set _ _ (Nat.mod_lt _ (by decide)), (Nat.div_lt_iff_lt_mul (by decide)).2 (by simpa using hb), by unfold Z3h; split <;> simp, ?_, ?_⟩
 ·rw [ZL _ _ _ (by omega), Zi v j hj, Zi r0 j (by rw [← h.len]; omega), ← Z0P h.rest j (Nat.le_refl _), Nat.pow_succ]
  exact Z7Y (B32 ^ j) B32 _ c b _ _ _ _ _ _ _ _ (Z56 _ _ _ ho h.bor) h.eq
 ·rw [ZJ]
  have := congrArg (List.drop 1) h.rest
  simpa [List.drop_drop] using this
theorem Z3L.top {v r0 r : List Nat} {q c b : Nat} (h : Z3L v r0 q v.length c b r) (hl : r.length = v.length + 1) :
  (r.set v.length (Z2l (r.getD v.length 0) c b)).length = r0.length ∧ WOk (r.set v.length (Z2l (r.getD v.length 0) c b)) ∧
  val (r.set v.length (Z2l (r.getD v.length 0) c b)) + q * val v = val r0 + B32 ^ (v.length + 1) * Z3h (r.getD v.length 0) c b := by
 have ho := Zd h.ok v.length
 refine ⟨by rw [List.length_set, h.len], h.ok.set _ _ (Nat.mod_lt _ (by decide)), ?_⟩
 have e1 := ZL r v.length (Z2l (r.getD v.length 0) c b) (by omega)
 rw [List.take_of_length_le (by rw [List.length_set]; omega)] at e1
 have e2 := Zi r0 v.length (by rw [← h.len]; omega)
 rw [List.take_of_length_le (by rw [← h.len]; omega), ← Z0P h.rest _ (Nat.le_refl _)] at e2
 have e3 := h.eq
 rw [List.take_of_length_le (Nat.le_refl v.length)] at e3
 have hw := Z56 (r.getD v.length 0) c b ho h.bor
 have hc : c / 4294967296 = 0 := Nat.div_eq_of_lt h.car
 rw [hc, Nat.zero_add] at hw
 rw [e1, e2, Nat.pow_succ]
 generalize B32 ^ v.length = P at *
 have e := congrArg (P * ·) hw
 simp only [Nat.mul_add] at e
 have e4 : P * (c + b) = P * c + P * b := Nat.mul_add ..
 rw [e4] at e3
 have e5 : P * B32 * Z3h (r.getD v.length 0) c b = P * (B32 * Z3h (r.getD v.length 0) c b) := Nat.mul_assoc ..
 rw [e5]
 generalize P * (B32 * Z3h (r.getD v.length 0) c b) = z at *
 generalize P * Z2l (r.getD v.length 0) c b = z1 at *
 omega
/-! ### A step of the addition that puts a window right. -/
structure Z3M (v r0 : List Nat) (j c : Nat) (r : List Nat) : Prop where
 len : r.length = r0.length
 ok : WOk r
 car : c ≤ 1
 eq : val (r.take j) + B32 ^ j * c = val (r0.take j) + val (v.take j)
 rest : r.drop j = r0.drop j
theorem Z3M.start {v r0 : List Nat} (h : WOk r0) : Z3M v r0 0 0 r0 := ⟨rfl, h, by decide, by simp [val], rfl⟩
theorem Z5f (P B n o y c c' R Rv Y : Nat) (hw : n + B * c' = o + y + c) (h : R + P * c = Rv + Y) : R + P * n + P * B * c' = Rv + P * o + (Y + P * y) := by
 have e := congrArg (P * ·) hw
 simp only [Nat.mul_add] at e
 have e3 : P * B * c' = P * (B * c') := Nat.mul_assoc ..
 rw [e3]
 omega
theorem Z3M.step {v r0 r : List Nat} {j c : Nat} (h : Z3M v r0 j c r) (hv : WOk v) (hj : j < v.length) (hl : v.length < r.length) :
  Z3M v r0 (j + 1) ((r.getD j 0 + v.getD j 0 + c) / 4294967296) (r.set j ((r.getD j 0 + v.getD j 0 + c) % 4294967296)) := by
 have hy := Zd hv j
 have ho := Zd h.ok j
 have hc := h.car
 refine ⟨by rw [List.length_set, h.len], h.ok.set _ _ (Nat.mod_lt _ (by decide)), by simp only [B32] at *; omega, ?_, ?_⟩
 ·rw [ZL _ _ _ (by omega), Zi v j hj, Zi r0 j (by rw [← h.len]; omega), ← Z0P h.rest j (Nat.le_refl _), Nat.pow_succ]
  exact Z5f (B32 ^ j) B32 _ _ _ c _ _ _ _ (Nat.mod_add_div _ 4294967296) h.eq
 ·rw [ZJ]
  have := congrArg (List.drop 1) h.rest
  simpa [List.drop_drop] using this
theorem Z3M.top {v r0 r : List Nat} {c : Nat} (h : Z3M v r0 v.length c r) (hl : r.length = v.length + 1) :
  (r.set v.length ((r.getD v.length 0 + c) % 4294967296)).length = r0.length ∧ WOk (r.set v.length ((r.getD v.length 0 + c) % 4294967296)) ∧
  val (r.set v.length ((r.getD v.length 0 + c) % 4294967296)) + B32 ^ (v.length + 1) * ((r.getD v.length 0 + c) / 4294967296) = val r0 + val v := by
 refine ⟨by rw [List.length_set, h.len], h.ok.set _ _ (Nat.mod_lt _ (by decide)), ?_⟩
 have e1 := ZL r v.length ((r.getD v.length 0 + c) % 4294967296) (by omega)
 rw [List.take_of_length_le (by rw [List.length_set]; omega)] at e1
 have e2 := Zi r0 v.length (by rw [← h.len]; omega)
 rw [List.take_of_length_le (by rw [← h.len]; omega), ← Z0P h.rest _ (Nat.le_refl _)] at e2
 have e3 := h.eq
 rw [List.take_of_length_le (Nat.le_refl v.length)] at e3
 rw [e1, e2, Nat.pow_succ]
 have := Z5f (B32 ^ v.length) B32 _ (r.getD v.length 0) 0 c ((r.getD v.length 0 + c) / 4294967296) _ _ _ (by rw [Nat.add_zero]; exact Nat.mod_add_div _ 4294967296) e3
 rw [this, Nat.mul_zero, Nat.add_zero]
theorem ZcH {B V2 U3 P V R q : Nat} (hV : V2 * P ≤ V) (hV' : V < (V2 + 1) * P) (hR : U3 * P ≤ R) (hR' : R < (U3 + 1) * P)
  (hq2 : q * V2 ≤ U3) (hqB : q < B) (hmax : ∀ t, t < B → t * V2 ≤ U3 → t ≤ q) (hRB : R < B * V) (hbig : B * P ≤ V) : q * V ≤ R + V ∧ R < (q + 1) * V := by
 have hP : 0 < P := by
  rcases Nat.eq_zero_or_pos P with e | e
  ·subst e; simp at hR'
  ·exact e
 have hV0 : 0 < V := by
  rcases Nat.eq_zero_or_pos V with e | e
  ·subst e; simp at hRB
  ·exact e
 constructor
 ·have h1 : q * V ≤ q * ((V2 + 1) * P) := Nat.mul_le_mul_left _ (Nat.le_of_lt hV')
  have h2 : q * ((V2 + 1) * P) = q * V2 * P + q * P := by rw [Nat.add_mul, Nat.one_mul, Nat.mul_add, Nat.mul_assoc]
  have h3 : q * V2 * P ≤ U3 * P := Nat.mul_le_mul_right _ hq2
  have h4 : q * P ≤ B * P := Nat.mul_le_mul_right _ (Nat.le_of_lt hqB)
  omega
 ·have ht : R / V < B := (Nat.div_lt_iff_lt_mul hV0).2 hRB
  have h1 : R / V * V ≤ R := Nat.div_mul_le_self R V
  have h2 : R / V * V2 * P ≤ R / V * V := by rw [Nat.mul_assoc]; exact Nat.mul_le_mul_left _ hV
  have h3 : R / V * V2 < U3 + 1 := Nat.lt_of_mul_lt_mul_right (a := P) (by omega)
  have h4 := hmax _ ht (by omega)
  have h5 : R < (R / V + 1) * V := by
   have := Nat.lt_div_mul_add (a := R) hV0
   rw [Nat.add_mul, Nat.one_mul]; exact this
  exact Nat.lt_of_lt_of_le h5 (Nat.mul_le_mul_right _ (by omega))
structure GSt (B u2 u1 u0 v1 v2 q r : Nat) : Prop where
 eq : q * v1 + r = u2 * B + u1
 max : ∀ t, t < B → t * (v1 * B + v2) ≤ (u2 * B + u1) * B + u0 → t ≤ q
structure GOk (B u2 u1 u0 v1 v2 q : Nat) : Prop where
 lt : q < B
 le : q * (v1 * B + v2) ≤ (u2 * B + u1) * B + u0
 max : ∀ t, t < B → t * (v1 * B + v2) ≤ (u2 * B + u1) * B + u0 → t ≤ q
theorem Zc8 {B v1 v2 q r U u0 : Nat} (h : q * v1 + r = U) : q * (v1 * B + v2) + r * B = U * B + q * v2 := by
 rw [← h, Nat.mul_add, Nat.add_mul, Nat.mul_assoc]; omega
theorem GSt.start {B u2 u1 u0 v1 v2 : Nat} (hB : 0 < B) (hv : 0 < v1) (h0 : u0 < B) : GSt B u2 u1 u0 v1 v2 ((u2 * B + u1) / v1) ((u2 * B + u1) % v1) := by
 refine ⟨by rw [Nat.mul_comm]; exact Nat.div_add_mod _ _, fun t ht h => ?_⟩
 have h1 : t * v1 * B ≤ t * (v1 * B + v2) := by rw [Nat.mul_add, Nat.mul_assoc]; omega
 have h2 : t * v1 < u2 * B + u1 + 1 := by
  refine Nat.lt_of_mul_lt_mul_right (a := B) ?_
  rw [Nat.add_mul, Nat.one_mul]; omega
 rw [Nat.le_div_iff_mul_le hv]; omega
theorem GSt.stop {B u2 u1 u0 v1 v2 q r : Nat} (h : GSt B u2 u1 u0 v1 v2 q r) (hq : q < B) (hc : q * v2 ≤ r * B + u0) : GOk B u2 u1 u0 v1 v2 q := by
 refine ⟨hq, ?_, h.max⟩
 have := Zc8 (B := B) (v2 := v2) (u0 := u0) h.eq
 omega
theorem GSt.step {B u2 u1 u0 v1 v2 q r : Nat} (hB : 0 < B) (h : GSt B u2 u1 u0 v1 v2 q r) (hc : B ≤ q ∨ r * B + u0 < q * v2) : 0 < q ∧ GSt B u2 u1 u0 v1 v2 (q - 1) (r + v1) := by
 have hq : 0 < q := by
  rcases hc with e | e
  ·omega
  ·rcases Nat.eq_zero_or_pos q with e2 | e2
   ·subst e2; simp at e
   ·exact e2
 refine ⟨hq, ?_, fun t ht hh => ?_⟩
 ·have := h.eq
  have e : q * v1 = (q - 1) * v1 + v1 := by
   rw [← Nat.succ_mul]; congr 1; omega
  omega
 ·have h1 := h.max t ht hh
  rcases hc with e | e
  ·omega
  ·by_cases ht2 : t = q
   ·subst ht2
    have := Zc8 (B := B) (v2 := v2) (u0 := u0) h.eq
    omega
   ·omega
theorem GSt.brk {B u2 u1 u0 v1 v2 q r : Nat} (h : GSt B u2 u1 u0 v1 v2 q r) (hr : B ≤ r) (hu : u2 ≤ v1) (hu1 : u1 < B) (hv2 : v2 < B) : GOk B u2 u1 u0 v1 v2 q := by
 have hq : q < B := by
  rcases Nat.lt_or_ge q B with e | e
  ·exact e
  ·have h1 : B * v1 ≤ q * v1 := Nat.mul_le_mul_right _ e
   have h2 : u2 * B ≤ v1 * B := Nat.mul_le_mul_right _ hu
   have h3 := h.eq
   rw [Nat.mul_comm B v1] at h1
   omega
 refine h.stop hq ?_
 have h1 : q * v2 ≤ B * B := Nat.mul_le_mul (Nat.le_of_lt hq) (Nat.le_of_lt hv2)
 have h2 : B * B ≤ r * B := Nat.mul_le_mul_right _ hr
 omega
structure Z80 (l : List Nat) (d m r : Nat) (o : List Nat) : Prop where
 len : o.length = l.length
 ok : WOk o
 rem : r < d
 low : o.take m = l.take m
 eq : val (l.drop m) = d * val (o.drop m) + r
theorem Z80.start {l : List Nat} {d : Nat} (h : WOk l) (hd : 0 < d) : Z80 l d l.length 0 l := ⟨rfl, h, hd, rfl, by simp [val]⟩
theorem Z7Z (B d x r y q' r' V : Nat) (ht : d * q' + r' = r * B + x) (h : V = d * y + r) : x + B * V = d * (q' + B * y) + r' := by
 subst h
 rw [Nat.mul_add, Nat.mul_add, Nat.mul_left_comm B d y, Nat.mul_comm B r]; omega
theorem Z80.step {l o : List Nat} {d m r : Nat} (h : Z80 l d (m + 1) r o) (hd : d < 4294967296) (hm : m + 1 ≤ l.length) :
  o.getD m 0 = l.getD m 0 ∧ (r * 4294967296 + l.getD m 0) / d < 4294967296 ∧ Z80 l d m ((r * 4294967296 + l.getD m 0) % d) (o.set m ((r * 4294967296 + l.getD m 0) / d)) := by
 have e0 : o.getD m 0 = l.getD m 0 := by
  have := congrArg (fun x => x.getD m 0) h.low
  simpa [List.getD_eq_getElem?_getD, List.getElem?_take] using this
 have hx : l.getD m 0 < B32 := by rw [← e0]; exact Zd h.ok m
 have hr := h.rem
 have hq : (r * 4294967296 + l.getD m 0) / d < 4294967296 := by
  rw [Nat.div_lt_iff_lt_mul (by omega)]
  have h1 : (r + 1) * 4294967296 ≤ d * 4294967296 := Nat.mul_le_mul_right _ hr
  rw [Nat.add_mul] at h1
  rw [Nat.mul_comm 4294967296 d]
  simp only [B32] at hx
  omega
 refine ⟨e0, hq, by rw [List.length_set, h.len], h.ok.set _ _ hq, Nat.mod_lt _ (by omega), ?_, ?_⟩
 ·rw [List.take_set, List.set_eq_of_length_le (by rw [List.length_take]; omega)]
  have := congrArg (List.take m) h.low
  simpa [List.take_take, Nat.min_eq_left (Nat.le_succ m)] using this
 ·have e1 : val ((o.set m ((r * 4294967296 + l.getD m 0) / d)).drop m) = (r * 4294967296 + l.getD m 0) / d + B32 * val (o.drop (m + 1)) := by
   rw [ZR _ m (by rw [List.length_set, h.len]; omega), ZJ]
   congr 1
   rw [List.getD_eq_getElem?_getD, List.getElem?_set_self (by rw [h.len]; omega)]; rfl
  rw [e1, ZR l m (by omega)]
  exact Z7Z B32 d (l.getD m 0) r _ _ _ _ (Nat.div_add_mod _ _) h.eq
theorem Z80.all {l o : List Nat} {d r : Nat} (h : Z80 l d 0 r o) : val o = val l / d ∧ r = val l % d := by
 have := h.eq
 simp only [List.drop_zero] at this
 have hd : 0 < d := by have := h.rem; omega
 rw [this]
 refine ⟨?_, ?_⟩
 ·rw [Nat.mul_add_div hd, Nat.div_eq_of_lt h.rem, Nat.add_zero]
 ·rw [Nat.mul_add_mod, Nat.mod_eq_of_lt h.rem]
/-! ### A shift by k bits, k below 32. -/
structure Shf (l : List Nat) (k n : Nat) (o : List Nat) : Prop where
 len : o.length = l.length + 1
 ok : WOk o
 eq : val (o.take (n + 1)) = val (l.take n) * 2 ^ k
 top : o.getD n 0 < 2 ^ k
 rest : ∀ j, n < j → o.getD j 0 = 0
theorem Shf.start (l : List Nat) (k : Nat) : Shf l k 0 (List.replicate (l.length + 1) 0) :=
 ⟨by simp, fun x hx => by rw [List.eq_of_mem_replicate hx]; decide, by simp [List.take_replicate, Z1E, val], by rw [show (List.replicate (l.length + 1) 0).getD 0 0 = 0 by simp [List.getD_eq_getElem?_getD]]; exact Nat.pow_pos (by decide), fun j _ => by
  rw [List.getD_eq_getElem?_getD, List.getElem?_replicate]; split <;> rfl⟩
theorem ZbM (P B V x K a o q r : Nat) (h : r + B * q = x * K) (h2 : a + P * o = V * K) : a + P * (o + r) + P * B * q = (V + P * x) * K := by
 have e := congrArg (P * ·) h
 simp only [Nat.mul_add] at e
 rw [Nat.add_mul, ← h2, Nat.mul_add, Nat.mul_assoc P B q, Nat.mul_assoc P x K]; omega
theorem Shf.step {l o : List Nat} {k n : Nat} (h : Shf l k n o) (hl : WOk l) (hk : k < 32) (hn : n < l.length) :
  o.getD n 0 + l.getD n 0 * 2 ^ k % 4294967296 < 4294967296 ∧
  Shf l k (n + 1) ((o.set n (o.getD n 0 + l.getD n 0 * 2 ^ k % 4294967296)).set (n + 1) (l.getD n 0 * 2 ^ k / 4294967296)) := by
 have hx := Zd hl n
 have hp : 0 < 2 ^ k := Nat.pow_pos (by decide)
 have h32 : 2 ^ (32 - k) * 2 ^ k = 4294967296 := by rw [← Nat.pow_add, show 32 - k + k = 32 by omega]
 have e1 : l.getD n 0 * 2 ^ k % 4294967296 = (l.getD n 0 % 2 ^ (32 - k)) * 2 ^ k := by rw [← h32, Nat.mul_mod_mul_right]
 have e2 : l.getD n 0 % 2 ^ (32 - k) + 1 ≤ 2 ^ (32 - k) := Nat.mod_lt _ (Nat.pow_pos (by decide))
 have e3 := Nat.mul_le_mul_right (2 ^ k) e2
 rw [Nat.add_mul, h32, Nat.one_mul] at e3
 have htop := h.top
 have hlt : o.getD n 0 + l.getD n 0 * 2 ^ k % 4294967296 < 4294967296 := by rw [e1]; omega
 have hq : l.getD n 0 * 2 ^ k / 4294967296 < 2 ^ k := by
  rw [Nat.div_lt_iff_lt_mul (by decide), Nat.mul_comm]
  exact Nat.mul_lt_mul_of_pos_left hx hp
 have hk2 : 2 ^ k ≤ 2 ^ 31 := Nat.pow_le_pow_right (by decide) (by omega)
 have hl1 : n + 1 < o.length := by rw [h.len]; omega
 refine ⟨hlt, by rw [List.length_set, List.length_set, h.len], (h.ok.set _ _ hlt).set _ _ (by simp only [B32]; omega), ?_, ?_, ?_⟩
 ·rw [ZL _ _ _ (by rw [List.length_set]; exact hl1), ZL _ _ _ (by omega), Zi l n hn, Nat.pow_succ]
  have e := h.eq
  rw [Zi o n (by omega)] at e
  exact ZbM (B32 ^ n) B32 _ _ _ _ _ _ _ (Nat.mod_add_div _ 4294967296) e
 ·rw [List.getD_eq_getElem?_getD, List.getElem?_set_self (by rw [List.length_set]; exact hl1)]; exact hq
 ·intro j hj
  rw [List.getD_eq_getElem?_getD, List.getElem?_set_ne (by omega), List.getElem?_set_ne (by omega), ← List.getD_eq_getElem?_getD]
  exact h.rest j (by omega)
theorem Shf.all {l o : List Nat} {k : Nat} (h : Shf l k l.length o) : val o = val l * 2 ^ k := by
 have := h.eq
 rwa [List.take_of_length_le (by rw [h.len]; exact Nat.le_refl _), List.take_of_length_le (Nat.le_refl l.length)] at this
theorem Z2d {w wr : World} {g : Nat} (h : w.grownBy wr (some g)) (j : Nat) (v : Value) : w.grownBy (wr.setCell ⟨g, j, none⟩ v) (some g) :=
 ⟨h.os, h.tape, h.output, by simpa [World.setCell] using h.size, fun i hi hne => (Below.heap_setCell wr ⟨g, j, none⟩ v i (by rintro rfl; exact hne rfl)).trans (h.block i hi hne)⟩
theorem ZcE (a d : Nat) (hd : 0 < d) (h : a / d < 4294967296) : ((a / d : Nat) : Int) < 4294967296 := by omega
theorem Z7y (g : Nat) (l : List Nat) (n c d : Nat) (w : World) (hB : Blk w g l) (hl : WOk l) (hn : n = l.length) (hs : n ≤ Z8) (hd : 0 < d) (hd2 : d < 4294967296) :
  Ca 248 #[.slice (some ⟨g, 0, none⟩) n c, .int .u32 (d : Int)] w
   (fun e w' => ∃ r o, e = .returned (.int .u32 ((r : Nat) : Int)) ∧ r = val l % d ∧ val o = val l / d ∧ WOk o ∧ o.length = n ∧ Blk w' g o ∧ w.grownBy w' (some g)) := by
 unfold Z8 at hs
 have HL := zH hl
 have HN := zH hn
 have Z0 : Z80 l d n 0 l := by rw [hn]; exact Z80.start hl hd
 have HZ := zH Z0
 have HB := zH hB
 clear hl hn Z0 hB
 go_enter func248, ntmps248
 go_wp2
 go_loopw [5, 6] (fun rv iv wr => ∃ (m r : Nat) (o : List Nat), m ≤ n ∧ rv = .int .u64 (r : Int) ∧ iv = .int .i64 ((m : Int) - 1) ∧ Blk wr g o ∧ Z80 l d m r o ∧ w.grownBy wr (some g)) (fun _ i _ => (intOf i + 1).toNat)
 case atStart => exact ⟨n, 0, l, Nat.le_refl _, rfl, rfl, HB.out, HZ.out, World.grownBy.refl _ _⟩
 case round =>
  obtain ⟨m, r, o, hm, rfl, rfl, hb, hS, hg⟩ := hrel
  have HS := zH hS
  have HG := zH hg
  have HBB := zH hb
  by_cases hm0 : m = 0
  ·subst hm0
   have hr : (r : Int) < 4294967296 := by have := hS.rem; omega
   clear hb hS hg
   go_wp2
   go_ret
   have hS := HS.out
   have ha := hS.all
   exact ⟨r, o, rfl, ha.2, ha.1, hS.ok, by rw [hS.len, HN.out], HBB.out, HG.out⟩
  ·obtain ⟨k, rfl⟩ : ∃ k, m = k + 1 := ⟨m - 1, by omega⟩
   clear hm0
   have hk : k < n := by omega
   obtain ⟨e0, hq, hS'⟩ := hS.step hd2 (by rw [← HN.out]; omega)
   have g1 := hb.cell k (by rw [hS.len, ← HN.out]; exact hk)
   have g2 := hb.frozen k
   rw [e0] at g1
   have hx : l.getD k 0 < 4294967296 := Zd HL.out k
   have hr := hS.rem
   obtain ⟨x, hxx⟩ : ∃ x, l.getD k 0 = x := ⟨_, rfl⟩
   rw [hxx] at g1 hx hq hS'
   have HBS := zH (hb.set k ((r * 4294967296 + x) / d))
   have HS' := zH hS'
   have HG' := zH (Z2d hg k (.int .u32 ((((r * 4294967296 + x) / d : Nat)) : Int)))
   have em : ((k + 1 : Nat) : Int) - 1 = k := by omega
   rw [em]
   have hor := Z4d x r hx (by omega)
   have hqI : ((r : Int) * 4294967296 + x) / d < 4294967296 := by
    have : (((r * 4294967296 + x) / d : Nat) : Int) < 4294967296 := by omega
    simpa using this
   have hqI0 : 0 ≤ ((r : Int) * 4294967296 + x) / d := Int.ediv_nonneg (by omega) (by omega)
   have hdz : ((d : Int) == 0) = false := by simp; omega
   clear hb hS hg e0 hxx hS' hq em
   go_wp2
   go_roundw
   case rel => exact ⟨k, (r * 4294967296 + x) % d, _, by omega, by simp, by simp, by simpa using HBS.out, HS'.out, by simpa using HG'.out⟩
   case measure => simp [intOf]
theorem Z8P (x y k : Nat) (hk : k < 32) (hx : x < 4294967296) (hy : y < 2 ^ k) : bits .or .u32 (y : Int) ((x : Int) * 2 ^ k % 4294967296) = ((y + x * 2 ^ k % 4294967296 : Nat) : Int) := by
 have h32 : 2 ^ (32 - k) * 2 ^ k = 4294967296 := by rw [← Nat.pow_add, show 32 - k + k = 32 by omega]
 have e1 : x * 2 ^ k % 4294967296 = (x % 2 ^ (32 - k)) * 2 ^ k := by rw [← h32, Nat.mul_mod_mul_right]
 have e2 : ((x : Int) * 2 ^ k % 4294967296) = ((x * 2 ^ k % 4294967296 : Nat) : Int) := by simp
 have hk2 : 2 ^ k ≤ 2 ^ 31 := Nat.pow_le_pow_right (by decide) (by omega)
 rw [e2, (bits_nat .u32 32 (by decide) Z3O y _ (by omega) (Nat.mod_lt _ (by decide))).2, Nat.or_comm, e1, Nat.mul_comm, ← Nat.two_pow_add_eq_or_of_lt hy, Nat.add_comm]
theorem Zcg (x k : Nat) (hk : k < 32) (hx : x < 4294967296) : (x : Int) / 2 ^ (32 - k) % 4294967296 = ((x * 2 ^ k / 4294967296 : Nat) : Int) := by
 have h32 : 2 ^ (32 - k) * 2 ^ k = 4294967296 := by rw [← Nat.pow_add, show 32 - k + k = 32 by omega]
 have e : x * 2 ^ k / 4294967296 = x / 2 ^ (32 - k) := by rw [← h32, Nat.mul_div_mul_right _ _ (Nat.pow_pos (by decide))]
 have h2 : x / 2 ^ (32 - k) ≤ x := Nat.div_le_self _ _
 rw [e]
 have e3 : ((x : Int) / 2 ^ (32 - k)) = ((x / 2 ^ (32 - k) : Nat) : Int) := by simp
 rw [e3]
 generalize x / 2 ^ (32 - k) = z at *
 omega
theorem Blk.drew {w : World} {g : Nat} {l : List Nat} (h : Blk w g l) : Blk w.drew g l := h
theorem Blk.drewN {w : World} {g : Nat} {l : List Nat} (h : Blk w g l) (n : Nat) : Blk (w.drewN n) g l := h
theorem Z5H (A : Option Addr) (n c k : Nat) (l : List Nat) (w : World) (h : WAt w A n c l) (hs : n < Z8) (hk : k < 32) :
  Ca 250 #[.slice A n c, .int .i64 (k : Int)] w
   (fun e w' => e = .returned (.slice (some ⟨w.heap.size, 0, none⟩) (n + 1) (n + 1)) ∧ ∃ o, Blk w' w.heap.size o ∧ WOk o ∧ o.length = n + 1 ∧ val o = val l * 2 ^ k ∧ Ext w w') := by
 unfold Z8 at hs
 have H := zH h
 clear h
 have hmk := Z1f ((n : Int) + 1) (n + 1) (by omega) (by omega)
 go_enter func250, ntmps250
 go_wp2_with fail
 have Z0 : ∃ o, Blk (w.alloc (ZZ (List.replicate (n + 1) 0))) w.heap.size o ∧ Shf l k 0 o := ⟨_, by rw [H.out.len]; exact Blk.new w _, Shf.start l k⟩
 go_loopw [14] (fun i wr => ∃ (m : Nat) (o : List Nat), m ≤ n ∧ i = .int .i64 (m : Int) ∧ Blk wr w.heap.size o ∧ Shf l k m o ∧ Ext w wr) (fun i _ => n - (intOf i).toNat)
 case atStart => obtain ⟨o, hb, hm⟩ := Z0; exact ⟨0, o, by omega, rfl, hb, hm, EX⟩
 case round =>
  clear Z0 hmk
  obtain ⟨m, o, hm, rfl, hB, hS, hx⟩ := hrel
  have HX := zH hx
  by_cases hlt : m < n
  ·obtain ⟨hc, hf⟩ := hx.cells
   have hlen : o.length = n + 1 := by rw [hS.len, ← H.out.len]
   have e0 := hB.cell m (by omega)
   have e1 := hB.frozen m
   have e2 := hB.cell (m + 1) (by omega)
   have e3 := hB.frozen (m + 1)
   obtain ⟨b1, f1, rfl, hb1, hc1⟩ := H.out.at (by omega)
   have g1 := hc1 m hlt
   have p1 := (H.out.pad m).1
   have htop := hS.top
   obtain ⟨hlt2, hSS⟩ := hS.step H.out.rep.ok hk (by rw [← H.out.len]; exact hlt)
   obtain ⟨x, hx1⟩ : ∃ x, l.getD m 0 = x := ⟨_, rfl⟩
   obtain ⟨y, hy1⟩ : ∃ x, o.getD m 0 = x := ⟨_, rfl⟩
   rw [hx1] at g1 p1 hlt2 hSS
   rw [hy1] at e0 hlt2 hSS htop
   have F1 := zH (Z8P x y k hk p1 htop)
   have F2 := zH (Zcg x k hk p1)
   have HBS := zH ((hB.set m (y + x * 2 ^ k % 4294967296)).set (m + 1) (x * 2 ^ k / 4294967296))
   have HSS := zH hSS
   clear hB hS hx hSS hx1 hy1 hc1 htop hlt2
   go_wp2
   go_region
   all_goals go_wp2
   rw [F1.out, F2.out]
   refine ⟨⟨m + 1, _, by omega, by simp, HBS.out.drew, HSS.out, ?_⟩, by simp [intOf]; omega⟩
   have hx := HX.out
   exact EX
  ·obtain rfl : m = n := by omega
   have HB := zH hB
   have HS := zH hS
   clear hB hS
   go_wp2
   go_ret
   have hS := HS.out
   exact ⟨rfl, o, HB.out, hS.ok, by rw [hS.len, ← H.out.len], by have := hS; rw [H.out.len] at this; exact this.all, hx⟩
def Zdr (w : World) (u2 u1 u0 v1 v2 : Nat) (e : Ending) (w' : World) : Prop := ∃ q : Nat, e = .returned (.int .u64 (q : Int)) ∧ GOk B32 u2 u1 u0 v1 v2 q ∧ Ext w w'
theorem Z7z (u2 u1 u0 v1 v2 : Nat) (w : World) (h2 : u2 ≤ v1) (h1 : u1 < 4294967296) (h0 : u0 < 4294967296) (hv1 : v1 < 4294967296) (hv2 : v2 < 4294967296) (hv : 2147483648 ≤ v1) :
  Ca 251 #[.agg #[.int .u32 (u2 : Int), .int .u32 (u1 : Int), .int .u32 (u0 : Int)], .int .u32 (v1 : Int), .int .u32 (v2 : Int)] w (Zdr w u2 u1 u0 v1 v2) := by
 have HG := zH (GSt.start (B := B32) (u2 := u2) (u1 := u1) (u0 := u0) (v1 := v1) (v2 := v2) (by decide) (by omega) h0)
 have hor := Z4d u1 u2 h1 (by omega)
 have hdz : ((v1 : Int) == 0) = false := by simp; omega
 go_enter func251, ntmps251
 go_wp2
 go_region
 all_goals go_wp2_with fail
 have hq0 : (u2 * 4294967296 + u1) / v1 ≤ 8589934592 := by
  have : (u2 * 4294967296 + u1) / v1 ≤ (u2 * 4294967296 + u1) / 2147483648 := Nat.div_le_div_left hv (by decide)
  omega
 have hr0 : (u2 * 4294967296 + u1) % v1 < 4294967296 := by have := Nat.mod_lt (u2 * 4294967296 + u1) (show 0 < v1 by omega); omega
 have HQ0 := zH hq0
 have HR0 := zH hr0
 clear hq0 hr0
 go_loop [8, 9] (fun qv rv => ∃ q r : Nat, qv = .int .u64 (q : Int) ∧ rv = .int .u64 (r : Int) ∧ GSt B32 u2 u1 u0 v1 v2 q r ∧ q ≤ 8589934592 ∧ r < 4294967296) (fun qv _ => (intOf qv).toNat)
 case atStart => exact ⟨_, _, by simp, by simp, HG.out, HQ0.out, HR0.out⟩
 case round =>
  obtain ⟨q, r, rfl, rfl, hS, hq, hr⟩ := hrel
  have HS := zH hS
  clear HG HQ0 HR0
  have hor2 := Z4d u0 r h0 hr
  by_cases hc : 4294967296 ≤ q ∨ r * 4294967296 + u0 < q * v2
  ·obtain ⟨hq1, hS'⟩ := hS.step (by decide) hc
   have HS' := zH hS'
   have hqI : ((q - 1 : Nat) : Int) = (q : Int) - 1 := by omega
   have HQI := zH hqI
   have htest : 4294967296 ≤ q ∨ (q < 4294967296 ∧ (r : Int) * 4294967296 + u0 < (q : Int) * v2) := by
    by_cases h : 4294967296 ≤ q
    ·exact .inl h
    ·rcases hc with h' | h'
     ·exact .inl h'
     ·refine .inr ⟨by omega, ?_⟩
      have e : ((q * v2 : Nat) : Int) = (q : Int) * v2 := Int.natCast_mul ..
      rw [← e]; omega
   clear hS hS' hc hqI
   by_cases hbr : 4294967296 ≤ r + v1
   ·have hok := HS'.out.brk hbr h2 h1 hv2
    have HOK := zH hok
    clear hok
    rcases htest with h | ⟨h, h'⟩
    ·have hI : decide ((4294967296 : Int) ≤ (q : Int)) = true := by simp; omega
     have hbI : decide ((4294967296 : Int) ≤ (r : Int) + v1) = true := by simp; omega
     have hqb : (q : Int) ≤ 8589934592 := by omega
     have hq0 : (1 : Int) ≤ q := by omega
     have hrb : (r : Int) < 4294967296 := by omega
     have HQ := zH hq
     clear h hbr hq hq1 hr hdz hor2
     go_wp2
     go_ret
     exact ⟨q - 1, ZY HQI.out.symm, HOK.out, EX⟩
    ·obtain ⟨m0, m1, m2⟩ := Z27 (x := q) (y := v2) (o := 0) (c := 0) (by omega) hv2 (by omega) (by omega)
     have hI : decide ((4294967296 : Int) ≤ (q : Int)) = false := by simp; omega
     have hqB : (q : Int) < 4294967296 := by omega
     have hT : decide ((r : Int) * 4294967296 + u0 < (q : Int) * v2) = true := decide_eq_true h'
     have hbI : decide ((4294967296 : Int) ≤ (r : Int) + v1) = true := by simp; omega
     have hqb : (q : Int) ≤ 8589934592 := by omega
     have hq0 : (1 : Int) ≤ q := by omega
     have hrb : (r : Int) < 4294967296 := by omega
     have HQ := zH hq
     clear h hbr hq hq1 hr hdz m1 h'
     go_wp2
     go_ret
     exact ⟨q - 1, ZY HQI.out.symm, HOK.out, EX⟩
   ·rcases htest with h | ⟨h, h'⟩
    ·have hI : decide ((4294967296 : Int) ≤ (q : Int)) = true := by simp; omega
     have hbI : decide ((4294967296 : Int) ≤ (r : Int) + v1) = false := by simp; omega
     have hqb : (q : Int) ≤ 8589934592 := by omega
     have hq0 : (1 : Int) ≤ q := by omega
     have hrb : (r : Int) < 4294967296 := by omega
     have HRV := zH hbr
     have HQ := zH hq
     clear h hbr hq hq1 hr hdz hor2
     go_wp2
     go_round
     case rel => exact ⟨q - 1, r + v1, by rw [HQI.out], by simp, HS'.out, by have := HQ.out; omega, by have := HRV.out; omega⟩
     case measure => simp [intOf]; omega
    ·obtain ⟨m0, m1, m2⟩ := Z27 (x := q) (y := v2) (o := 0) (c := 0) (by omega) hv2 (by omega) (by omega)
     have hI : decide ((4294967296 : Int) ≤ (q : Int)) = false := by simp; omega
     have hqB : (q : Int) < 4294967296 := by omega
     have hT : decide ((r : Int) * 4294967296 + u0 < (q : Int) * v2) = true := decide_eq_true h'
     have hbI : decide ((4294967296 : Int) ≤ (r : Int) + v1) = false := by simp; omega
     have hqb : (q : Int) ≤ 8589934592 := by omega
     have hq0 : (1 : Int) ≤ q := by omega
     have hrb : (r : Int) < 4294967296 := by omega
     have HRV := zH hbr
     have HQ := zH hq
     clear h hbr hq hq1 hr hdz m1 h'
     go_wp2
     go_round
     case rel => exact ⟨q - 1, r + v1, by rw [HQI.out], by simp, HS'.out, by have := HQ.out; omega, by have := HRV.out; omega⟩
     case measure => simp [intOf]; omega
  ·have hc1 : q < 4294967296 := by omega
   have hc2 : q * v2 ≤ r * 4294967296 + u0 := by omega
   have hok := hS.stop hc1 hc2
   have HOK := zH hok
   obtain ⟨m0, m1, m2⟩ := Z27 (x := q) (y := v2) (o := 0) (c := 0) (by omega) hv2 (by omega) (by omega)
   have hI : decide ((4294967296 : Int) ≤ (q : Int)) = false := by simp; omega
   have hT : decide ((r : Int) * 4294967296 + u0 < (q : Int) * v2) = false := by
    have e : ((q * v2 : Nat) : Int) = (q : Int) * v2 := Int.natCast_mul ..
    rw [← e]; refine decide_eq_false ?_; omega
   have hqB : (q : Int) < 4294967296 := by omega
   have hrb : (r : Int) < 4294967296 := by omega
   clear hok hc hc1 hc2 hS hq hr hdz m1
   go_wp2
   go_ret
   exact ⟨q, rfl, HOK.out, EX⟩
theorem Z1S (p r s : List Nat) (i j : Nat) (hi : p.length = i) (hj : j < r.length) : (p ++ r ++ s).getD (i + j) 0 = r.getD j 0 := by
 subst hi
 simp only [List.getD_eq_getElem?_getD]
 rw [List.append_assoc, List.getElem?_append_right (by omega), Nat.add_sub_cancel_left, List.getElem?_append_left hj]
theorem Z30 (p r s : List Nat) (i j x : Nat) (hi : p.length = i) (hj : j < r.length) : (p ++ r ++ s).set (i + j) x = p ++ r.set j x ++ s := by
 subst hi
 rw [List.append_assoc, List.set_append_right _ _ (by omega), Nat.add_sub_cancel_left, List.set_append_left _ _ hj, List.append_assoc]
theorem Z7X (p : Nat) (h : p < 18446744073709551616) : bits .and .u64 (p : Int) 4294967295 = ((p % 4294967296 : Nat) : Int) := by
 have := bits_mask .u64 64 (by decide) Z0m 32 (by decide) (p : Int) (by omega) (by omega)
 simpa using this
theorem Zai (P r1 qV R r' V ov : Nat) (h1 : r1 + qV = R + P) (h2 : r' + P * ov = r1 + V) (h3 : qV ≤ R + V) (h4 : r1 < P) (h5 : r' < P) (h6 : ov ≤ 1) : R < qV ∧ r' + qV = R + V := by
 have : ov = 0 ∨ ov = 1 := by omega
 rcases this with e | e <;> subst e
 ·rw [Nat.mul_zero] at h2; omega
 ·rw [Nat.mul_one] at h2; omega
def Zdo (w : World) (g : Nat) (p r s : List Nat) (q V : Nat) (e : Ending) (w' : World) : Prop :=
 ∃ (ok : Bool) (r' : List Nat), e = .returned (.bool ok) ∧ Blk w' g (p ++ r' ++ s) ∧ w.grownBy w' (some g) ∧ r'.length = r.length ∧ WOk r' ∧
  (ok = true → q * V ≤ val r ∧ val r' + q * V = val r) ∧ (ok = false → val r < q * V ∧ val r' + q * V = val r + V)
theorem Z8w (g i n nr cr c2 q : Nat) (A2 : Option Addr) (p r s v : List Nat) (w : World) (hB : Blk w g (p ++ r ++ s)) (hr : WOk r) (hp : p.length = i) (hrl : r.length = n + 1) (hnr : nr = (p ++ r ++ s).length)
  (h2 : WAt w A2 n c2 v) (hne : ∀ b off, A2 = some ⟨b, off, none⟩ → b ≠ g) (hs : nr ≤ Z8) (hq : q < 4294967296) (hqv : q * val v ≤ val r + val v) :
  Ca 252 #[.slice (some ⟨g, 0, none⟩) nr cr, .slice A2 n c2, .int .i64 (i : Int), .int .u64 (q : Int)] w (Zdo w g p r s q (val v)) := by
 unfold Z8 at hs
 have hni : i + n < nr := by rw [hnr]; simp; omega
 have H2 := zH h2
 have HNE := zH hne
 have HP := zH hp
 have HRL := zH hrl
 have HQV := zH hqv
 have HB := zH hB
 have HR := zH hr
 clear h2 hne hp hrl hnr hqv hB hr
 go_enter func252, ntmps252
 go_wp2_with fail
 go_loopw [22, 9, 10] (fun jv bv cv wr => ∃ (j c b : Nat) (o : List Nat), j ≤ n ∧ jv = .int .i64 (j : Int) ∧ bv = .int .u64 (b : Int) ∧ cv = .int .u64 (c : Int) ∧ Blk wr g (p ++ o ++ s) ∧ Z3L v r q j c b o ∧ w.grownBy wr (some g)) (fun jv _ _ _ => n - (intOf jv).toNat)
 case atStart => exact ⟨0, 0, 0, r, by omega, rfl, rfl, rfl, HB.out, Z3L.start q HR.out, World.grownBy.refl _ _⟩
 case round =>
  obtain ⟨j, c, b, o, hj, rfl, rfl, rfl, hBk, hT, hg⟩ := hrel
  by_cases hlt : j < n
  ·have e0 := hBk.cell (i + j) (by have := HP.out; have := HRL.out; have := hT.len; simp; omega)
   have e1 := hBk.frozen (i + j)
   rw [Z1S p o s i j HP.out (by rw [hT.len, HRL.out]; omega)] at e0
   obtain ⟨b2, f2, rfl, hb2, hc2⟩ := H2.out.at (by omega)
   have g2 := hg.cell (hc2 j hlt) (fun e => HNE.out b2 f2 rfl (Option.some.inj e))
   have pv := (H2.out.pad j).1
   have po := Zd hT.ok j
   have hS := hT.step hq H2.out.rep.ok (by rw [← H2.out.len]; exact hlt) (by rw [hT.len, HRL.out, ← H2.out.len]; omega)
   have hst := hBk.set (i + j) (Z2l (o.getD j 0) (q * v.getD j 0 + c) b)
   rw [Z30 p o s i j _ HP.out (by rw [hT.len, HRL.out]; omega)] at hst
   have hgs := Z2d hg (i + j) (.int .u32 ((Z2l (o.getD j 0) (q * v.getD j 0 + c) b : Nat) : Int))
   have hcar := hT.car
   have hbor := hT.bor
   obtain ⟨y, hy⟩ : ∃ y, v.getD j 0 = y := ⟨_, rfl⟩
   obtain ⟨x, hx⟩ : ∃ x, o.getD j 0 = x := ⟨_, rfl⟩
   rw [hy] at g2 pv hS hst hgs
   rw [hx] at e0 po hS hst hgs
   obtain ⟨m0, m1, m2⟩ := Z27 hq pv (o := 0) (c := c) (by omega) hcar
   have mb := Z34 hq pv (o := 0) (c := c) (by omega) hcar
   rw [Nat.add_zero] at mb
   have hs64 := Z9j x ((q * y + c) % 4294967296) b hbor
   have eI : ((q * y + c : Nat) : Int) = (q : Int) * y + c := by simp
   have hmask := Z7X (q * y + c) mb
   rw [eI] at hmask
   rw [← hmask] at hs64
   obtain ⟨D, hD⟩ : ∃ D, (x + 18446744073709551616 - (q * y + c) % 4294967296 - b) % 18446744073709551616 = D := ⟨_, rfl⟩
   obtain ⟨E, hE⟩ : ∃ E, (if x < (q * y + c) % 4294967296 + b then 1 else 0) = E := ⟨_, rfl⟩
   rw [hD, hE] at hs64
   have HD := zH (show (D : Int) % 4294967296 = ((Z2l x (q * y + c) b : Nat) : Int) by rw [← hD]; unfold Z2l; simp only [B32] at po; omega)
   have HE := zH (show E = Z3h x (q * y + c) b by rw [← hE]; rfl)
   have HS := zH hS
   have HST := zH hst
   have HGS := zH hgs
   clear hBk hT hg hS hst hgs hy hx hD hE mb hmask eI hc2 hbor
   simp only [B32] at po
   go_wp2
   go_roundw
   case rel => exact ⟨j + 1, (q * y + c) / 4294967296, Z3h x (q * y + c) b, _, by omega, by simp, by rw [HE.out], by simp, by rw [HD.out]; exact HST.out, HS.out, by rw [HD.out]; exact HGS.out⟩
   case measure => simp [intOf]; omega
  ·obtain rfl : j = n := by omega
   have e0 := hBk.cell (i + j) (by have := HP.out; have := HRL.out; have := hT.len; simp; omega)
   have e1 := hBk.frozen (i + j)
   rw [Z1S p o s i j HP.out (by rw [hT.len, HRL.out]; omega)] at e0
   have po := Zd hT.ok j
   have hT' : Z3L v r q v.length c b o := by rw [← H2.out.len]; exact hT
   obtain ⟨k1, k2, k3⟩ := hT'.top (by rw [hT.len, HRL.out, ← H2.out.len])
   rw [← H2.out.len] at k1 k2 k3
   have hst := hBk.set (i + j) (Z2l (o.getD j 0) c b)
   rw [Z30 p o s i j _ HP.out (by rw [hT.len, HRL.out]; omega)] at hst
   have hgs := Z2d hg (i + j) (.int .u32 ((Z2l (o.getD j 0) c b : Nat) : Int))
   have hcar := hT.car
   have hbor := hT.bor
   obtain ⟨x, hx⟩ : ∃ x, o.getD j 0 = x := ⟨_, rfl⟩
   rw [hx] at e0 po k1 k2 k3 hst hgs
   have hs64 := Z9j x c b hbor
   obtain ⟨D, hD⟩ : ∃ D, (x + 18446744073709551616 - c - b) % 18446744073709551616 = D := ⟨_, rfl⟩
   have hE : (if x < c + b then 1 else 0) = Z3h x c b := by unfold Z3h; rw [Nat.mod_eq_of_lt hcar]
   rw [hD, hE] at hs64
   have HD := zH (show (D : Int) % 4294967296 = ((Z2l x c b : Nat) : Int) by rw [← hD]; unfold Z2l; simp only [B32] at po; omega)
   have K1 := zH k1
   have K2 := zH k2
   have K3 := zH k3
   have HST := zH hst
   have HGS := zH hgs
   obtain ⟨r1, hr1⟩ : ∃ r1, o.set j (Z2l x c b) = r1 := ⟨_, rfl⟩
   clear hBk hT hg k1 k2 k3 hst hgs hx hD hT' hE
   simp only [B32] at po
   by_cases hz : Z3h x c b = 0
   ·rw [hz] at hs64
    have HZ := zH hz
    clear hz hr1
    go_wp2
    go_ret
    refine ⟨true, _, rfl, by rw [HD.out]; exact HST.out, by rw [HD.out]; exact HGS.out, by rw [K1.out], K2.out, fun _ => ?_, fun h => by cases h⟩
    have h3 := K3.out
    rw [HZ.out, Nat.mul_zero, Nat.add_zero] at h3
    exact ⟨by omega, h3⟩
   ·have hz1 : Z3h x c b = 1 := by unfold Z3h at hz ⊢; split <;> simp_all
    rw [hz1] at hs64
    have HZ := zH hz1
    rw [hr1] at K1 K2 K3 HST
    clear hz hz1 hr1
    have HT0 := zH (Z3M.start (v := v) K2.out)
    go_wp2_with fail
    go_loopw [84, 17] (fun kv bv wq => ∃ (k d : Nat) (o2 : List Nat), k ≤ j ∧ kv = .int .i64 (k : Int) ∧ bv = .int .u32 (d : Int) ∧ Blk wq g (p ++ o2 ++ s) ∧ Z3M v r1 k d o2 ∧ w.grownBy wq (some g)) (fun kv _ _ => j - (intOf kv).toNat)
    case atStart => exact ⟨0, 0, r1, by omega, rfl, rfl, by rw [HD.out]; exact HST.out, HT0.out, by rw [HD.out]; exact HGS.out⟩
    case round =>
     clear hs64 HT0 HGS HST HD e0 e1
     obtain ⟨k, d, o2, hk, rfl, rfl, hBk, hT, hg⟩ := hrel
     have hl2 : o2.length = j + 1 := by rw [hT.len, K1.out, HRL.out]
     by_cases hlt2 : k < j
     ·have e0 := hBk.cell (i + k) (by have := HP.out; simp; omega)
      have e1 := hBk.frozen (i + k)
      rw [Z1S p o2 s i k HP.out (by omega)] at e0
      obtain ⟨b2, f2, rfl, hb2, hc2⟩ := H2.out.at (by omega)
      have g2 := hg.cell (hc2 k hlt2) (fun e => HNE.out b2 f2 rfl (Option.some.inj e))
      have pv := (H2.out.pad k).1
      have po := Zd hT.ok k
      have hS := hT.step H2.out.rep.ok (by rw [← H2.out.len]; exact hlt2) (by rw [← H2.out.len]; omega)
      have hst := hBk.set (i + k) ((o2.getD k 0 + v.getD k 0 + d) % 4294967296)
      rw [Z30 p o2 s i k _ HP.out (by omega)] at hst
      have hgs := Z2d hg (i + k) (.int .u32 (((o2.getD k 0 + v.getD k 0 + d) % 4294967296 : Nat) : Int))
      have hcr := hT.car
      obtain ⟨y, hy⟩ : ∃ y, v.getD k 0 = y := ⟨_, rfl⟩
      obtain ⟨z, hz⟩ : ∃ z, o2.getD k 0 = z := ⟨_, rfl⟩
      rw [hy] at g2 pv hS hst hgs
      rw [hz] at e0 po hS hst hgs
      have HS := zH hS
      have HST := zH hst
      have HGS := zH hgs
      clear hBk hT hg hS hst hgs hy hz hc2
      simp only [B32] at po
      go_wp2_with (go_at_call 271; (with_reducible refine (Z9l z y d _ po pv hcr).mono ?_); rintro e w5 ⟨rfl, rfl⟩)
      go_roundw
      case rel => exact ⟨k + 1, (z + y + d) / 4294967296, _, by omega, by simp, by simp, by simpa using HST.out, HS.out, by simpa using HGS.out⟩
      case measure => simp [intOf]; omega
     ·obtain rfl : k = j := by omega
      have e0 := hBk.cell (i + k) (by have := HP.out; simp; omega)
      have e1 := hBk.frozen (i + k)
      rw [Z1S p o2 s i k HP.out (by omega)] at e0
      have po := Zd hT.ok k
      have hT' : Z3M v r1 v.length d o2 := by rw [← H2.out.len]; exact hT
      obtain ⟨q1, q2, q3⟩ := hT'.top (by rw [← H2.out.len]; exact hl2)
      rw [← H2.out.len] at q1 q2 q3
      have hst := hBk.set (i + k) ((o2.getD k 0 + d) % 4294967296)
      rw [Z30 p o2 s i k _ HP.out (by omega)] at hst
      have hgs := Z2d hg (i + k) (.int .u32 (((o2.getD k 0 + d) % 4294967296 : Nat) : Int))
      have hcr := hT.car
      obtain ⟨z, hz⟩ : ∃ z, o2.getD k 0 = z := ⟨_, rfl⟩
      rw [hz] at e0 po q1 q2 q3 hst hgs
      have Q1 := zH q1
      have Q2 := zH q2
      have Q3 := zH q3
      have HST := zH hst
      have HGS := zH hgs
      clear hBk hT hg q1 q2 q3 hst hgs hz hT'
      simp only [B32] at po
      go_wp2
      go_ret
      refine ⟨false, _, rfl, by simpa using HST.out, by simpa using HGS.out, by rw [Q1.out, K1.out], Q2.out, (fun h => by cases h), fun _ => ?_⟩
      have hk3 := K3.out
      have hq3 := Q3.out
      have hqv := HQV.out
      rw [HZ.out, Nat.mul_one] at hk3
      have hlt1 := Z08 K2.out
      have hlt2 := Z08 Q2.out
      rw [K1.out, HRL.out] at hlt1
      rw [Q1.out, K1.out, HRL.out] at hlt2
      have hov : (z + d) / 4294967296 ≤ 1 := by omega
      exact Zai _ _ _ _ _ _ _ hk3 hq3 hqv hlt1 hlt2 hov
theorem Zbe {l : List Nat} (h : l.length = 2) : val l = l.getD 0 0 + B32 * l.getD 1 0 := by
 match l, h with
 | [a, b], _ => simp [val]
theorem Z9r {l : List Nat} (h : l.length = 3) : val l = l.getD 0 0 + B32 * (l.getD 1 0 + B32 * l.getD 2 0) := by
 match l, h with
 | [a, b, c], _ => simp [val]
theorem Z6H (a P t V : Nat) (h : V = a + P * t) (hlt : a < P) : t * P ≤ V ∧ V < (t + 1) * P := by
 rw [h, Nat.add_mul, Nat.one_mul, Nat.mul_comm P t]; omega
theorem Zd4 {v : List Nat} {n : Nat} (hn : v.length = n) (h2 : 2 ≤ n) (ho : WOk v) :
  (v.getD (n - 1) 0 * B32 + v.getD (n - 2) 0) * B32 ^ (n - 2) ≤ val v ∧ val v < (v.getD (n - 1) 0 * B32 + v.getD (n - 2) 0 + 1) * B32 ^ (n - 2) := by
 have e := Zn v (n - 2) (by omega)
 have hl : (v.drop (n - 2)).length = 2 := by rw [List.length_drop]; omega
 rw [Zbe hl, Z0n, Z0n, show n - 2 + 1 = n - 1 by omega, Nat.add_zero] at e
 have hlt := Z08 (ho.take (n - 2))
 rw [List.length_take, Nat.min_eq_left (by omega)] at hlt
 have e2 : v.getD (n - 2) 0 + B32 * v.getD (n - 1) 0 = v.getD (n - 1) 0 * B32 + v.getD (n - 2) 0 := by rw [Nat.mul_comm, Nat.add_comm]
 rw [e2] at e
 exact Z6H _ _ _ _ e hlt
theorem Zdg {v : List Nat} {n : Nat} (hn : v.length = n + 1) (h2 : 2 ≤ n) (ho : WOk v) :
  ((v.getD n 0 * B32 + v.getD (n - 1) 0) * B32 + v.getD (n - 2) 0) * B32 ^ (n - 2) ≤ val v ∧ val v < ((v.getD n 0 * B32 + v.getD (n - 1) 0) * B32 + v.getD (n - 2) 0 + 1) * B32 ^ (n - 2) := by
 have e := Zn v (n - 2) (by omega)
 have hl : (v.drop (n - 2)).length = 3 := by rw [List.length_drop]; omega
 rw [Z9r hl, Z0n, Z0n, Z0n, show n - 2 + 1 = n - 1 by omega, show n - 2 + 2 = n by omega, Nat.add_zero] at e
 have hlt := Z08 (ho.take (n - 2))
 rw [List.length_take, Nat.min_eq_left (by omega)] at hlt
 have e2 : v.getD (n - 2) 0 + B32 * (v.getD (n - 1) 0 + B32 * v.getD n 0) = (v.getD n 0 * B32 + v.getD (n - 1) 0) * B32 + v.getD (n - 2) 0 := by
  rw [Nat.mul_comm B32 (v.getD n 0), Nat.add_comm (v.getD (n - 1) 0), Nat.mul_comm B32, Nat.add_comm]
 rw [e2] at e
 exact Z6H _ _ _ _ e hlt
structure Z3e (a : Nat) (v : List Nat) (n la m : Nat) (ρ κ : List Nat) : Prop where
 rlen : ρ.length = la + 1
 klen : κ.length = la - n + 1
 rok : WOk ρ
 kok : WOk κ
 eq : val ρ + val v * (B32 ^ m * val (κ.drop m)) = a
 lt : val (ρ.drop m) < val v
theorem Z3e.parts {a : Nat} {v : List Nat} {n la i : Nat} {ρ κ : List Nat} (h : Z3e a v n la (i + 1) ρ κ) (hn : v.length = n) (hv : WOk v) (h2 : 2 ≤ n) (hi : i + n ≤ la) :
  ∃ p r s, ρ = p ++ r ++ s ∧ p.length = i ∧ r.length = n + 1 ∧ WOk r ∧ val s = 0 ∧ val r < B32 * val v ∧ r.getD n 0 ≤ v.getD (n - 1) 0 := by
 refine ⟨ρ.take i, (ρ.drop i).take (n + 1), ρ.drop (i + n + 1), ?_, ?_, ?_, (h.rok.drop _).take _, ?_⟩
 ·rw [List.append_assoc, show ρ.drop (i + n + 1) = (ρ.drop i).drop (n + 1) by rw [List.drop_drop, Nat.add_assoc], List.take_append_drop, List.take_append_drop]
 ·rw [List.length_take, h.rlen]; omega
 ·rw [List.length_take, List.length_drop, h.rlen]; omega
 have hV : val v < B32 ^ n := by have := Z08 hv; rwa [hn] at this
 have e1 := ZR ρ i (by rw [h.rlen]; omega)
 have hx := Zd h.rok i
 have hlt := h.lt
 have hlt2 : val (ρ.drop i) < B32 * val v := by
  rw [e1]
  have := Nat.mul_le_mul_left B32 (show val (ρ.drop (i + 1)) + 1 ≤ val v from hlt)
  rw [Nat.mul_add, Nat.mul_one] at this
  generalize B32 * val (ρ.drop (i + 1)) = z at *
  omega
 have e2 := Zn (ρ.drop i) (n + 1) (by rw [List.length_drop, h.rlen]; omega)
 rw [List.drop_drop] at e2
 have hs : val (ρ.drop (i + n + 1)) = 0 := by
  rcases Nat.eq_zero_or_pos (val (ρ.drop (i + n + 1))) with e | e
  ·exact e
  ·exfalso
   have b1 : B32 * val v ≤ B32 * B32 ^ n := Nat.mul_le_mul_left _ (Nat.le_of_lt hV)
   have b2 : B32 ^ (n + 1) * 1 ≤ B32 ^ (n + 1) * val (ρ.drop (i + (n + 1))) := Nat.mul_le_mul_left _ (by rw [← Nat.add_assoc]; exact e)
   rw [Nat.mul_one, Nat.pow_succ, Nat.mul_comm (B32 ^ n)] at b2
   rw [Nat.pow_succ, Nat.mul_comm (B32 ^ n)] at e2
   generalize B32 * B32 ^ n * val (ρ.drop (i + (n + 1))) = z at *
   generalize B32 * B32 ^ n = z2 at *
   omega
 refine ⟨hs, ?_, ?_⟩
 ·rw [← Nat.add_assoc, hs, Nat.mul_zero, Nat.add_zero] at e2
  rw [← e2]; exact hlt2
 ·have e3 : ((ρ.drop i).take (n + 1)).getD n 0 = ρ.getD (i + n) 0 := by
   rw [List.getD_eq_getElem?_getD, List.getElem?_take_of_lt (by omega), ← List.getD_eq_getElem?_getD, Z0n]
  rw [e3]
  have e4 := Zn (ρ.drop (i + 1)) (n - 1) (by rw [List.length_drop, h.rlen]; omega)
  have e5 : ρ.getD (i + n) 0 ≤ val ((ρ.drop (i + 1)).drop (n - 1)) := by
   rw [List.drop_drop, ZR ρ (i + 1 + (n - 1)) (by rw [h.rlen]; omega), show i + 1 + (n - 1) = i + n by omega]
   exact Nat.le_add_right _ _
  have e6 := Zn v (n - 1) (by omega)
  have e7 : val (v.drop (n - 1)) = v.getD (n - 1) 0 := by
   rw [ZR v (n - 1) (by omega), List.drop_of_length_le (by omega)]; simp [val]
  have e8 := Z08 (hv.take (n - 1))
  rw [List.length_take, Nat.min_eq_left (by omega)] at e8
  rw [e7] at e6
  rcases Nat.lt_or_ge (v.getD (n - 1) 0) (ρ.getD (i + n) 0) with e | e
  ·exfalso
   have b1 : B32 ^ (n - 1) * (v.getD (n - 1) 0 + 1) ≤ B32 ^ (n - 1) * val ((ρ.drop (i + 1)).drop (n - 1)) := Nat.mul_le_mul_left _ (by omega)
   rw [Nat.mul_add, Nat.mul_one] at b1
   generalize B32 ^ (n - 1) = P at *
   generalize P * val ((ρ.drop (i + 1)).drop (n - 1)) = z at *
   generalize P * v.getD (n - 1) 0 = z2 at *
   omega
  ·exact e
theorem ZaR (Pi B V w K R R' p a : Nat) (hr : R' + w * V = R) (h : p + Pi * R + V * (Pi * B * K) = a) : p + Pi * R' + V * (Pi * (w + B * K)) = a := by
 rw [← h, ← hr]
 simp only [Nat.mul_add]
 have e1 : V * (Pi * w) = Pi * (w * V) := by rw [Nat.mul_left_comm, Nat.mul_comm V w]
 have e2 : V * (Pi * (B * K)) = V * (Pi * B * K) := by rw [Nat.mul_assoc]
 omega
theorem Z3e.step {a : Nat} {v : List Nat} {n la i : Nat} {p r s r' κ : List Nat} {w : Nat} (h : Z3e a v n la (i + 1) (p ++ r ++ s) κ) (hp : p.length = i) (hr : r.length = n + 1) (hs : val s = 0)
  (hr' : r'.length = r.length) (ho : WOk r') (hw : w < B32) (hi : i + n ≤ la) (he : val r' + w * val v = val r) (hlt : val r' < val v) :
  Z3e a v n la i (p ++ r' ++ s) (κ.set i w) := by
 have hok := h.rok
 have hk : i < κ.length := by rw [h.klen]; omega
 refine ⟨?_, by rw [List.length_set, h.klen], ?_, h.kok.set _ _ hw, ?_, ?_⟩
 ·have := h.rlen
  simp only [List.length_append] at this ⊢
  omega
 ·intro x hx
  simp only [List.mem_append] at hx
  rcases hx with (hx | hx) | hx
  ·exact hok x (by simp [hx])
  ·exact ho x hx
  ·exact hok x (by simp [hx])
 ·have e := h.eq
  rw [Zx, Zx, hs, Nat.mul_zero, Nat.add_zero, hp, Nat.pow_succ] at e
  rw [Zx, Zx, hs, Nat.mul_zero, Nat.add_zero, hp, ZR (κ.set i w) i (by rw [List.length_set]; exact hk), ZJ]
  have e2 : (κ.set i w).getD i 0 = w := by rw [List.getD_eq_getElem?_getD, List.getElem?_set_self hk]; rfl
  rw [e2]
  exact ZaR _ _ _ _ _ _ _ _ _ he e
 ·have e : (p ++ r' ++ s).drop i = r' ++ s := by rw [List.append_assoc, ← hp, List.drop_left]
  rw [e, Zx, hs, Nat.mul_zero, Nat.add_zero]
  exact hlt
theorem Z3e.all {a : Nat} {v : List Nat} {n la : Nat} {ρ κ : List Nat} (h : Z3e a v n la 0 ρ κ) : val κ = a / val v ∧ val ρ = a % val v := by
 have e := h.eq
 simp only [List.drop_zero, Nat.pow_zero, Nat.one_mul] at e
 have hl := h.lt
 rw [List.drop_zero] at hl
 have hv : 0 < val v := by omega
 rw [← e, Nat.add_comm]
 refine ⟨?_, ?_⟩
 ·rw [Nat.mul_add_div hv, Nat.div_eq_of_lt hl, Nat.add_zero]
 ·rw [Nat.mul_add_mod, Nat.mod_eq_of_lt hl]
def ZbT (w : World) (x y k : Nat) (e : Ending) (w' : World) : Prop :=
 ∃ A n c l A' n' c' l', e = .returned (.tuple #[.slice A n c, .slice A' n' c']) ∧ WAt w' A n c l ∧ val l = x ∧ n ≤ k ∧ WAt w' A' n' c' l' ∧ val l' = y ∧ n' ≤ k ∧ Ext w w'
theorem Z79 (A1 A2 : Option Addr) (n1 c1 n2 c2 : Nat) (l1 l2 : List Nat) (w : World) (h1 : WAt w A1 n1 c1 l1) (h2 : WAt w A2 n2 c2 l2) (hs1 : n1 ≤ Z8) (hs2 : n2 ≤ Z8) (t1 : Z0W l1) (t2 : Z0W l2) (hlt : val l1 < val l2) :
  Ca 206 #[.slice A1 n1 c1, .slice A2 n2 c2] w (ZbT w (val l1 / val l2) (val l1 % val l2) (n1 + 2)) := by
 have H1 := zH h1
 have H2 := zH h2
 obtain ⟨cc, hcc⟩ : ∃ x, Z1g (val l1) (val l2) = x := ⟨_, rfl⟩
 have hc0 : cc < 0 := hcc ▸ Z2K hlt
 have HC := zH hcc
 have HLT := zH hlt
 clear h1 h2 hcc hlt
 go_enter func206, ntmps206
 go_wp2_with (go_at_call 202; (with_reducible refine (ZB A1 A2 n1 c1 n2 c2 l1 l2 _ (H1.out.ext EX) (H2.out.ext EX) hs1 hs2 t1 t2).mono ?_); rw [HC.out]; rintro e w1 ⟨rfl, hbw1⟩; (try clear hc hf); obtain ⟨hBw1, hc, hf⟩ := EC w1 (w))
 go_ret2
 exact ⟨none, 0, 0, [], A1, n1, c1, l1, rfl, ⟨rfl, LR.nil _ _ _⟩, by rw [Nat.div_eq_of_lt HLT.out]; rfl, by omega, H1.out.ext EX, by rw [Nat.mod_eq_of_lt HLT.out], by omega, EX⟩
theorem Z0l (A : Option Addr) (n c : Nat) (l : List Nat) (w : World) (h : WAt w A n c l) (hn : n ≤ 2) :
  Ca 204 #[.slice A n c] w fun e w' => e = .returned (.tuple #[.int .u64 (val l), .bool true]) ∧ Ext w w' := by
 have := Z4Y A n c l w h (by unfold Z8; omega)
 rwa [if_pos hn] at this
theorem Z1q (A : Option Addr) (n c : Nat) (l : List Nat) (w : World) (h : WAt w A n c l) (hs : n ≤ Z8) (hn : ¬ n ≤ 2) :
  Ca 204 #[.slice A n c] w fun e w' => e = .returned (.tuple #[.int .u64 0, .bool false]) ∧ Ext w w' := by
 have := Z4Y A n c l w h hs
 rwa [if_neg hn] at this
theorem Z3y {l : List Nat} (h : WOk l) (hl : l.length ≤ 2) : val l < 18446744073709551616 := by
 have h1 := Z08 h
 have h2 : B32 ^ l.length ≤ B32 ^ 2 := Nat.pow_le_pow_right (by decide) hl
 exact Nat.lt_of_lt_of_le h1 h2
theorem Z7J (m : Nat) : val [m % 4294967296, m / 4294967296] = m := by simp only [val, B32]; omega
theorem Z4A {a b : List Nat} (ha : Z0W a) (hb : WOk b) (h : val a ≤ val b) : a.length ≤ b.length := by
 rcases Nat.lt_or_ge b.length a.length with e | e
 ·have := Z1t hb ha e; omega
 ·exact e
theorem Z77 (A1 A2 : Option Addr) (n1 c1 n2 c2 : Nat) (l1 l2 : List Nat) (w : World) (h1 : WAt w A1 n1 c1 l1) (h2 : WAt w A2 n2 c2 l2) (hs1 : n1 ≤ 2) (hs2 : n2 ≤ Z8) (t1 : Z0W l1) (t2 : Z0W l2) (hlt : val l2 ≤ val l1) (h0 : val l2 ≠ 0) :
  Ca 206 #[.slice A1 n1 c1, .slice A2 n2 c2] w (ZbT w (val l1 / val l2) (val l1 % val l2) (n1 + 2)) := by
 have H1 := zH h1
 have H2 := zH h2
 have hn2 : n2 ≤ 2 := by
  have := Z4A t2 h1.rep.ok hlt
  rw [← h1.len, ← h2.len] at this; omega
 obtain ⟨cc, hcc⟩ : ∃ x, Z1g (val l1) (val l2) = x := ⟨_, rfl⟩
 have hc0 : 0 ≤ cc := hcc ▸ Z28 hlt
 have HC := zH hcc
 have W1 := fun W hW => Z0l A1 n1 c1 l1 W hW hs1
 have W2 := fun W hW => Z0l A2 n2 c2 l2 W hW hn2
 have b1 := Z3y h1.rep.ok (by rw [← h1.len]; exact hs1)
 have b2 := Z3y h2.rep.ok (by rw [← h2.len]; exact hn2)
 have HCC := zH (fun W (k1 : WAt W A1 n1 c1 l1) (k2 : WAt W A2 n2 c2 l2) => ZB A1 A2 n1 c1 n2 c2 l1 l2 W k1 k2 (by unfold Z8; omega) hs2 t1 t2)
 obtain ⟨x, hx⟩ : ∃ x, val l1 = x := ⟨_, rfl⟩
 obtain ⟨y, hy⟩ : ∃ x, val l2 = x := ⟨_, rfl⟩
 rw [hx] at W1 b1 HC HCC hcc
 rw [hy] at W2 b2 h0 HC HCC hcc
 rw [hx, hy]
 have HW1 := zH W1
 have HW2 := zH W2
 have hd1 : x / y < 18446744073709551616 := Nat.lt_of_le_of_lt (Nat.div_le_self _ _) b1
 have hd2 : x % y < 18446744073709551616 := Nat.lt_of_le_of_lt (Nat.mod_le _ _) b1
 have HD1 := zH hd1
 have HD2 := zH hd2
 have hyz : ((y : Int) == 0) = false := by simp; omega
 have y0 : 0 < (y : Int) := by omega
 have E1 := zH (show IntKind.u64.wrap ((x : Int) / y) = ((x / y : Nat) : Int) by rw [← Int.natCast_ediv]; exact Z0m _ (Int.natCast_nonneg _) (by exact_mod_cast hd1))
 have E2 := zH (show Int.tmod (x : Int) y = ((x % y : Nat) : Int) by rw [Int.tmod_eq_emod_of_nonneg (by omega), ← Int.natCast_emod])
 clear h1 h2 W1 W2 hx hy hlt hd1 hd2 b1 b2 hcc
 go_enter func206, ntmps206
 go_wp2_with (first | (go_at_call 202; (with_reducible refine (HCC.out _ (H1.out.ext EX) (H2.out.ext EX)).mono ?_); rw [HC.out]; rintro e w1 ⟨rfl, hbw1⟩; (try clear hc hf); obtain ⟨hBw1, hc, hf⟩ := EC w1 (w)) | (go_at_call 204; (with_reducible refine (HW1.out _ (H1.out.ext EX)).mono ?_); rintro e w2 ⟨rfl, hbw2⟩; (try clear hc hf); obtain ⟨hBw2, hc, hf⟩ := EC w2 (w)) | (go_at_call 204; (with_reducible refine (HW2.out _ (H2.out.ext EX)).mono ?_); rintro e w3 ⟨rfl, hbw3⟩; (try clear hc hf); obtain ⟨hBw3, hc, hf⟩ := EC w3 (w)))
 go_region_held3 (fun _ => True) (trivial) (first | (go_at_call 247; rw [E1.out]; (with_reducible refine (Z4a (x / y) _ HD1.out).mono ?_); rintro e w4 ⟨Aw4, nw4, cw4, rfl, hIw4, hbw4⟩; (try clear hc hf); obtain ⟨hBw4, hc, hf⟩ := EC w4 (w)) | (go_at_call 247; rw [E2.out]; (with_reducible refine (Z4a (x % y) _ HD2.out).mono ?_); rintro e w5 ⟨Aw5, nw5, cw5, rfl, hIw5, hbw5⟩; (try clear hc hf); obtain ⟨hBw5, hc, hf⟩ := EC w5 (w)))
 go_wp2
 go_ret2
 exact ⟨Aw4, nw4, cw4, _, Aw5, nw5, cw5, _, rfl, hIw4.ext EX, Z7J _, by rw [hIw4.len]; simp, hIw5.ext EX, Z7J _, by rw [hIw5.len]; simp, EX⟩
theorem Ext.of_grown {a b c : World} {g : Nat} (h : Ext a b) (k : b.grownBy c (some g)) (hg : a.heap.size ≤ g) : Ext a c := Below.grown h k h.size (fun j e => by cases e; exact hg)
theorem Z6o (A1 A2 : Option Addr) (n1 c1 n2 c2 : Nat) (l1 l2 : List Nat) (w : World) (h1 : WAt w A1 n1 c1 l1) (h2 : WAt w A2 n2 c2 l2) (hs1 : n1 ≤ Z8) (hs2 : n2 = 1) (t1 : Z0W l1) (t2 : Z0W l2) (hlt : val l2 ≤ val l1) (h0 : val l2 ≠ 0) (hn1 : ¬ n1 ≤ 2) :
  Ca 206 #[.slice A1 n1 c1, .slice A2 n2 c2] w (ZbT w (val l1 / val l2) (val l1 % val l2) (n1 + 2)) := by
 obtain ⟨d, hd⟩ : ∃ d, l2 = [d] := List.length_eq_one_iff.1 (by rw [← h2.len]; exact hs2)
 have hdv : val l2 = d := by rw [hd]; simp [val]
 have hd32 : d < 4294967296 := h2.rep.ok d (by rw [hd]; simp)
 obtain ⟨b2, f2, hA2, hb2, hc2⟩ := h2.at (by omega)
 have g2 := hc2 0 (by omega)
 rw [hd] at g2
 simp only [List.getD_cons_zero, Nat.add_zero] at g2
 obtain ⟨cc, hcc⟩ : ∃ x, Z1g (val l1) (val l2) = x := ⟨_, rfl⟩
 have hc0 : 0 ≤ cc := hcc ▸ Z28 hlt
 have HCC := zH (fun W (k1 : WAt W A1 n1 c1 l1) (k2 : WAt W A2 n2 c2 l2) => ZB A1 A2 n1 c1 n2 c2 l1 l2 W k1 k2 hs1 (by unfold Z8; omega) t1 t2)
 have HP := zH (fun W (k1 : WAt W A1 n1 c1 l1) => Z1q A1 n1 c1 l1 W k1 hs1 hn1)
 rw [hcc] at HCC
 rw [hdv] at h0 ⊢
 have hd0 : 0 < d := by omega
 have H1 := zH h1
 have H2 := zH h2
 have HN := zH h1.len
 have hmk := Z1f (n1 : Int) n1 rfl (by unfold Z8 at hs1; omega)
 have q1 : ((n2 : Int) == 1) = true := by simp; omega
 have r2 : 0 < n2 := by omega
 subst hA2
 clear h1 h2 hc2 hcc hlt hd hdv h0 hs2
 go_enter func206, ntmps206
 go_wp2_with (first | (go_at_call 202; (with_reducible refine (HCC.out _ (H1.out.ext EX) (H2.out.ext EX)).mono ?_); rintro e w1 ⟨rfl, hbw1⟩; (try clear hc hf); obtain ⟨hBw1, hc, hf⟩ := EC w1 (w)) | (go_at_call 204; (with_reducible refine (HP.out _ (H1.out.ext EX)).mono ?_); rintro e w2 ⟨rfl, hbw2⟩; (try clear hc hf); obtain ⟨hBw2, hc, hf⟩ := EC w2 (w); have hbw2s := hBw2.size) | ((with_reducible refine (id ?_ : wpList _ _ _ [⟨some 49, _, _, _, _, _⟩] _ _)); go_must (refine Z3r rfl (.tmp 47) (.tmp 48) rfl _ _ (Blk.new w2 (List.replicate n1 0)) _ _ _ _ (H1.out.ext EX) _ _ rfl rfl (by simp) (Nat.le_refl _) ?_); intro w6 hB6 hb6; have hx6 : Ext w w6 := Ext.of_below EX hb6 hbw2s; obtain ⟨hc, hf⟩ := hx6.cells; have HB6 := zH hB6; clear hB6) | (go_at_call 248; (with_reducible refine (Z7y w2.heap.size (l1.take n1) n1 n1 d _ HB6.out (H1.out.rep.ok.take _) (by have hh := HN.out; simp; omega) hs1 hd0 hd32).mono ?_); rintro e w7 ⟨r, o, rfl, hr7, ho7, hok7, hl7, hB7, hg7⟩; have R7 := zH hr7; have O7 := zH ho7; have L7 := zH hl7; have HB7 := zH hB7; have hx7 : Ext w w7 := Ext.of_grown hx6 hg7 hbw2s; clear hr7 ho7 hl7 hB7 hc hf; obtain ⟨hc, hf⟩ := hx7.cells))
 go_ret2
 have hval : val (l1.take n1) = val l1 := by rw [List.take_of_length_le (by have hh := HN.out; omega)]
 have hr32 : r < 4294967296 := by have h1 := R7.out; have h2 := Nat.mod_lt (val (l1.take n1)) hd0; omega
 have hw8 : WAt (w7.alloc (.cells #[.int .u32 (r : Int)] 131)) (some ⟨w7.heap.size, 0, none⟩) 1 1 [r] := by
  rw [Zbl r _ rfl]
  exact Z33 w7 [r] (by intro x hx; simp at hx; subst hx; exact hr32) 1 1 rfl (by omega)
 exact ⟨_, n1, n1, o, _, 1, 1, [r], rfl, (HB7.out.alloc _).wat hok7 _ _ L7.out.symm (Nat.le_refl _), by rw [O7.out, hval], by omega, hw8, by rw [Z0g, R7.out, hval], by omega, EX⟩
theorem ZaB (i : Int) (h0 : 0 ≤ i) (h1 : i < (Lib.len8tab.size : Int)) (h : i.toNat < Lib.len8tab.size) :
  (((Lib.len8tab[i.toNat]'h).toNat : Nat) : Int) = (Lib.bitLen i.toNat : Int) := by
 rw [Lib.len8tab_size] at h1
 have e := Lib.len8_of i h0 (by omega)
 rw [← e]
 simp only [Lib.len8, ByteArray.getElem?_lt' _ _ h, Option.getD_some]
theorem Z3z (c : Int) (b : Nat) (hc : 0 ≤ c) (hc2 : c ≤ 24) (hb : b ≤ 8) : wrap64 (c + wrap64 (b : Int)) = c + (b : Int) := by
 unfold wrap64; omega
theorem Z9k (x : Int) (w : World) (h0 : 0 ≤ x) (h1 : x ≤ 4294967295) :
  Ca 218 #[.int .u32 x] w fun e w' => e = .returned (.int .i64 (Lib.bitLen x.toNat)) ∧ w' = w := by
 go_enter func218, ntmps218
 go_wp2
 all_goals have h' := Lib.len8tab_size
 all_goals first
  | (exfalso; omega)
  | (go_ret
     refine ⟨congrArg Ending.returned (congrArg (Value.int IntKind.i64) ?_), rfl⟩
     rw [ZaB]
     rotate_left
     ·omega
     ·omega
     first
     | (have e : (x / 65536 / 256).toNat = x.toNat / 16777216 := by omega
        have l := Lib.bitLen_le8' (x / 65536 / 256) (by omega) (by omega)
        have s := Lib.bitLen_shift24 x.toNat (by omega) (by omega)
        rw [e] at l ⊢
        rw [Z3z _ _ (by omega) (by omega) (by omega)]
        omega)
     | (have e : (x / 65536).toNat = x.toNat / 65536 := by omega
        have l := Lib.bitLen_le8' (x / 65536) (by omega) (by omega)
        have s := Lib.bitLen_shift16 x.toNat (by omega) (by omega)
        rw [e] at l ⊢
        rw [Z3z _ _ (by omega) (by omega) (by omega)]
        omega)
     | (have e : (x / 256).toNat = x.toNat / 256 := by omega
        have l := Lib.bitLen_le8' (x / 256) (by omega) (by omega)
        have s := Lib.bitLen_shift8 x.toNat (by omega) (by omega)
        rw [e] at l ⊢
        rw [Z3z _ _ (by omega) (by omega) (by omega)]
        omega)
     | (have l := Lib.bitLen_le8' x (by omega) (by omega)
        have q := Z3z 0 _ (by omega) (by omega) l
        simp only [Int.zero_add] at q
        unfold wrap64; omega))
theorem Z3K (x : Int) (w : World) (h0 : 0 ≤ x) (h1 : x ≤ 4294967295) :
  Ca 249 #[.int .u32 x] w fun e w' => e = .returned (.int .i64 (32 - (Lib.bitLen x.toNat : Int))) ∧ w' = w := by
 have hb : Lib.bitLen x.toNat ≤ 32 := by
  have e : (2:Nat) ^ 32 = 4294967296 := by decide
  exact Lib.bitLen_le x.toNat 32 (by omega) (by rw [e]; omega)
 obtain ⟨b, hbb⟩ : ∃ b, Lib.bitLen x.toNat = b := ⟨_, rfl⟩
 have HL := Z9k x w h0 h1
 rw [hbb] at hb HL ⊢
 have H := zH HL
 clear HL hbb
 go_enter func249, ntmps249
 go_wp2_with (go_at_call 218; (with_reducible refine (H.out).mono ?_); rintro e w1 ⟨rfl, rfl⟩)
 go_ret
 exact ⟨rfl, rfl⟩
theorem ZbO (B P a b : Nat) (h : 0 < a) : B * P ≤ (a * B + b) * P := by
 refine Nat.mul_le_mul_right _ ?_
 have : B ≤ a * B := Nat.le_mul_of_pos_left _ h
 omega
theorem ZaQ (a b P : Nat) : a + b * (P * 0) = a := by simp
theorem Z3e.round {a : Nat} {v : List Nat} {k la i : Nat} {ρ κ : List Nat} (h : Z3e a v (k + 2) la (i + 1) ρ κ) (hn : v.length = k + 2) (hv : WOk v) (hi : i + (k + 2) ≤ la) (htop : 2147483648 ≤ v.getD (k + 1) 0) :
  ∃ p r s, ρ = p ++ r ++ s ∧ p.length = i ∧ r.length = k + 2 + 1 ∧ WOk r ∧ ρ.getD (i + k + 2) 0 ≤ v.getD (k + 1) 0 ∧
   ∀ q, GOk B32 (ρ.getD (i + k + 2) 0) (ρ.getD (i + k + 1) 0) (ρ.getD (i + k) 0) (v.getD (k + 1) 0) (v.getD k 0) q →
    q < 4294967296 ∧ q * val v ≤ val r + val v ∧
    (∀ r', r'.length = r.length → WOk r' → val r' + q * val v = val r → Z3e a v (k + 2) la i (p ++ r' ++ s) (κ.set i q)) ∧
    (∀ r', r'.length = r.length → WOk r' → val r < q * val v → val r' + q * val v = val r + val v → 0 < q ∧ Z3e a v (k + 2) la i (p ++ r' ++ s) (κ.set i (q - 1))) := by
 obtain ⟨p, r, s, rfl, hp, hr, hro, hs, hlt, hle⟩ := h.parts hn hv (by omega) hi
 have g : ∀ j, j < k + 2 + 1 → (p ++ r ++ s).getD (i + j) 0 = r.getD j 0 := fun j hj => by
  subst hp
  simp only [List.getD_eq_getElem?_getD]
  rw [List.append_assoc, List.getElem?_append_right (by omega), Nat.add_sub_cancel_left, List.getElem?_append_left (by omega)]
 have g2 := g (k + 2) (by omega)
 have g1 := g (k + 1) (by omega)
 have g0 := g k (by omega)
 rw [← Nat.add_assoc] at g2 g1
 refine ⟨p, r, s, rfl, hp, hr, hro, by rw [g2]; exact hle, fun q hq => ?_⟩
 rw [g2, g1, g0] at hq
 have t2 := Zd4 hn (by omega) hv
 have t3 := Zdg (n := k + 2) hr (by omega) hro
 rw [show k + 2 - 1 = k + 1 by omega, show k + 2 - 2 = k by omega] at t2 t3
 have hbig : B32 * B32 ^ k ≤ val v := by
  exact Nat.le_trans (ZbO _ _ _ _ (by omega)) t2.1
 have hd := ZcH t2.1 t2.2 t3.1 t3.2 hq.le hq.lt hq.max hlt hbig
 have hql := hq.lt
 refine ⟨hql, hd.1, fun r' hl ho he => ?_, fun r' hl ho hlt' he => ?_⟩
 ·refine h.step hp hr hs hl ho hql hi he ?_
  have := hd.2
  rw [Nat.add_mul, Nat.one_mul] at this
  omega
 ·have hq0 : 0 < q := by
   rcases Nat.eq_zero_or_pos q with e | e
   ·subst e; simp at hlt'
   ·exact e
  have e2 : q * val v = (q - 1) * val v + val v := by
   conv => lhs; rw [show q = q - 1 + 1 by omega, Nat.add_mul, Nat.one_mul]
  refine ⟨hq0, h.step hp hr hs hl ho (by omega) hi (by omega) (by omega)⟩
theorem Z3e.start {v ρ : List Nat} {n la : Nat} (hr : ρ.length = la + 1) (hv : v.length = n) (ho : WOk ρ) (hvo : WOk v) (hn : 2 ≤ n) (hl : n ≤ la) (hlt : val (ρ.drop (la - n + 1)) < val v) :
  Z3e (val ρ) v n la (la - n + 1) ρ (List.replicate (la - n + 1) 0) := by
 refine ⟨hr, by simp, ho, ?_, ?_, hlt⟩
 ·intro x hx
  have := List.eq_of_mem_replicate hx
  rw [this]; exact (by decide : 0 < 4294967296)
 ·rw [List.drop_of_length_le (by simp)]; exact ZaQ _ _ _
theorem Z4I (t : Nat) (h0 : t ≠ 0) (h1 : t < 4294967296) : ∃ s : Nat, s < 32 ∧ (32 - (Lib.bitLen t : Int)) = (s : Int) ∧ 2147483648 ≤ t * 2 ^ s ∧ (t + 1) * 2 ^ s ≤ 4294967296 := by
 have h2 : t < 2 ^ 64 := Nat.lt_of_lt_of_le h1 (by decide)
 obtain ⟨k1, k2, k3⟩ := Lib.bitLenAux_bounds 64 t h2 h0
 have k4 : Lib.bitLen t ≤ 32 := Lib.bitLen_le t 32 (by omega) (Nat.lt_of_lt_of_le h1 (by decide))
 change 1 ≤ Lib.bitLen t at k1
 change 2 ^ (Lib.bitLen t - 1) ≤ t at k2
 change t < 2 ^ Lib.bitLen t at k3
 generalize Lib.bitLen t = b at *
 refine ⟨32 - b, by omega, by omega, ?_, ?_⟩
 ·have e : 2 ^ (b - 1) * 2 ^ (32 - b) = 2147483648 := by rw [← Nat.pow_add, show b - 1 + (32 - b) = 31 by omega]
  rw [← e]; exact Nat.mul_le_mul_right _ k2
 ·have e : 2 ^ b * 2 ^ (32 - b) = 4294967296 := by rw [← Nat.pow_add, show b + (32 - b) = 32 by omega]
  rw [← e]; exact Nat.mul_le_mul_right _ k3
theorem Zbg {v : List Nat} {k : Nat} (hn : v.length = k + 1) (ho : WOk v) :
  v.getD k 0 * B32 ^ k ≤ val v ∧ val v < (v.getD k 0 + 1) * B32 ^ k := by
 have e := Zn v k (by omega)
 have h1 : val (v.drop k) = v.getD k 0 := by rw [ZR v k (by omega), List.drop_of_length_le (by omega)]; exact Nat.add_eq_left.2 (by rw [show val [] = 0 from rfl, Nat.mul_zero])
 rw [h1] at e
 have hlt := Z08 (ho.take k)
 rw [List.length_take, Nat.min_eq_left (by omega)] at hlt
 exact Z6H _ _ _ _ e hlt
theorem Zcr {t s P V W : Nat} (h : t * P ≤ V) (hW : W = V * s) : t * s * P ≤ W := by
 subst hW
 have := Nat.mul_le_mul_right s h
 rwa [Nat.mul_right_comm] at this
theorem Zb2 {t s P V W B : Nat} (h : V < (t + 1) * P) (hs : 0 < s) (hB : (t + 1) * s ≤ B) (hW : W = V * s) : W < B * P := by
 subst hW
 have h1 : V * s < (t + 1) * P * s := Nat.mul_lt_mul_of_pos_right h hs
 have h2 : (t + 1) * P * s = (t + 1) * s * P := Nat.mul_right_comm _ _ _
 have h3 := Nat.mul_le_mul_right P hB
 omega
theorem Zcq {a b P V : Nat} (h1 : a * P ≤ V) (h2 : V < (b + 1) * P) : a ≤ b :=
 Nat.le_of_lt_succ (Nat.lt_of_mul_lt_mul_right (a := P) (Nat.lt_of_le_of_lt h1 h2))
theorem Zb1 {a P b V : Nat} (h : V = a + P * b) (hV : V < P) : a = V ∧ b = 0 := by
 have : b = 0 := by
  rcases Nat.eq_zero_or_pos b with e | e
  ·exact e
  ·have := Nat.le_mul_of_pos_right P e; omega
 subst this
 exact ⟨by rw [h, Nat.mul_zero, Nat.add_zero], rfl⟩
theorem Zay {l o : List Nat} {k s : Nat} (hl : l.length = k + 1) (ho : WOk l) (hol : o.length = k + 1 + 1) (hoo : WOk o) (hv : val o = val l * 2 ^ s) (h1 : 2147483648 ≤ l.getD k 0 * 2 ^ s) (h2 : (l.getD k 0 + 1) * 2 ^ s ≤ 4294967296) :
  val (o.take (k + 1)) = val l * 2 ^ s ∧ 2147483648 ≤ (o.take (k + 1)).getD k 0 := by
 have t1 := Zbg hl ho
 have b2 := Zb2 t1.2 (Nat.pow_pos (by decide)) h2 hv
 have b1 := Zcr t1.1 hv
 have e := Zn o (k + 1) (by omega)
 have hp : B32 ^ (k + 1) = 4294967296 * B32 ^ k := by rw [Nat.pow_succ, Nat.mul_comm]
 rw [hp] at e
 obtain ⟨e1, e2⟩ := Zb1 e b2
 refine ⟨by rw [e1, hv], Nat.le_trans h1 ?_⟩
 have t2 := Zbg (v := o.take (k + 1)) (k := k) (by rw [List.length_take]; omega) (hoo.take _)
 rw [e1] at t2
 exact Zcq b1 t2.2
theorem Zdc {a P V B : Nat} (h : P * B * V = P * B * V) : True := trivial
theorem Zax {l ρ : List Nat} {la m s V b : Nat} (hl : l.length = la) (ho : WOk l) (hρ : ρ.length = la + 1) (hoo : WOk ρ) (hv : val ρ = val l * 2 ^ s) (hm : m ≤ la) (hb : B32 ^ (la - m) ≤ b) (hV : V = b * 2 ^ s) : val (ρ.drop m) < V := by
 have h1 := Z08 ho
 rw [hl] at h1
 have e := Zn ρ m (by omega)
 have hp : B32 ^ la = B32 ^ m * B32 ^ (la - m) := by rw [← Nat.pow_add, show m + (la - m) = la by omega]
 have hpos : 0 < B32 ^ m := Nat.pow_pos (by decide)
 have h2 : val l * 2 ^ s < B32 ^ la * 2 ^ s := Nat.mul_lt_mul_of_pos_right h1 (Nat.pow_pos (by decide))
 rw [← hv, hp, Nat.mul_assoc] at h2
 have h3 : B32 ^ m * val (ρ.drop m) ≤ val ρ := by rw [e]; exact Nat.le_add_left _ _
 have h4 := Nat.lt_of_mul_lt_mul_left (Nat.lt_of_le_of_lt h3 h2)
 exact Nat.lt_of_lt_of_le h4 (by rw [hV]; exact Nat.mul_le_mul_right _ hb)
structure Uns (ρ : List Nat) (s i : Nat) (o : List Nat) : Prop where
 len : o.length = ρ.length
 ok : WOk o
 rest : o.drop i = ρ.drop i
 eq : val (o.take i) + B32 ^ i * (val (ρ.drop i) / 2 ^ s) = val ρ / 2 ^ s
theorem Uns.start {ρ : List Nat} (s : Nat) (h : WOk ρ) : Uns ρ s 0 ρ := ⟨rfl, h, rfl, by simp [val]⟩
theorem Zbf (x y Z P Q : Nat) (hP : 0 < P) (hQ : 0 < Q) (hx : x < P * Q) : (x + P * Q * (y + P * Q * Z)) / P = (y * (P * Q) + x) / P % (P * Q) + P * Q * ((y + P * Q * Z) / P) := by
 have e1 : (x + P * Q * (y + P * Q * Z)) / P = x / P + Q * (y + P * Q * Z) := by rw [Nat.mul_assoc, Nat.add_mul_div_left _ _ hP]
 have e2 : (y * (P * Q) + x) / P = x / P + Q * y := by rw [show y * (P * Q) + x = x + P * (Q * y) by rw [Nat.mul_comm y, Nat.mul_assoc, Nat.add_comm], Nat.add_mul_div_left _ _ hP]
 have e3 : (y + P * Q * Z) / P = y / P + Q * Z := by rw [Nat.mul_assoc, Nat.add_mul_div_left _ _ hP]
 have e4 : (x / P + Q * y) / (P * Q) = y / P := by
  rw [Nat.mul_comm P Q, ← Nat.div_div_eq_div_mul, Nat.add_mul_div_left _ _ hQ, Nat.div_eq_of_lt ((Nat.div_lt_iff_lt_mul hP).2 (by rwa [Nat.mul_comm] at hx)), Nat.zero_add]
 have e5 := Nat.mod_add_div (x / P + Q * y) (P * Q)
 rw [e4] at e5
 rw [e1, e2, e3, Nat.mul_add, Nat.mul_add]
 have e6 : Q * (P * Q * Z) = P * Q * (Q * Z) := by rw [Nat.mul_left_comm]
 rw [e6]
 generalize P * Q * (Q * Z) = z at *
 generalize P * Q * (y / P) = z2 at *
 generalize (x / P + Q * y) % (P * Q) = z3 at *
 generalize Q * y = z4 at *
 omega
theorem Zaf (x y Z s : Nat) (hs : s < 32) (hx : x < 4294967296) : (x + 4294967296 * (y + 4294967296 * Z)) / 2 ^ s = (y * 4294967296 + x) / 2 ^ s % 4294967296 + 4294967296 * ((y + 4294967296 * Z) / 2 ^ s) := by
 have h32 : 2 ^ s * 2 ^ (32 - s) = 4294967296 := by rw [← Nat.pow_add, show s + (32 - s) = 32 by omega]
 have := Zbf x y Z (2 ^ s) (2 ^ (32 - s)) (Nat.pow_pos (by decide)) (Nat.pow_pos (by decide)) (by rw [h32]; exact hx)
 rwa [h32] at this
theorem ZbK (t P w B Y q X : Nat) (h : t + P * X = q) (hX : X = w + B * Y) : t + P * w + P * B * Y = q := by
 rw [← h, hX, Nat.mul_add, Nat.mul_assoc, Nat.add_assoc]
theorem Uns.step {ρ o : List Nat} {s i : Nat} (h : Uns ρ s i o) (ho : WOk ρ) (hs : s < 32) (hi : i + 1 < ρ.length) :
  o.getD i 0 = ρ.getD i 0 ∧ o.getD (i + 1) 0 = ρ.getD (i + 1) 0 ∧ Uns ρ s (i + 1) (o.set i ((ρ.getD (i + 1) 0 * 4294967296 + ρ.getD i 0) / 2 ^ s % 4294967296)) := by
 have hl := h.len
 have g : ∀ j, o.getD (i + j) 0 = ρ.getD (i + j) 0 := fun j => by rw [← Z0n, ← Z0n, h.rest]
 obtain ⟨w, hw⟩ : ∃ w, (ρ.getD (i + 1) 0 * 4294967296 + ρ.getD i 0) / 2 ^ s % 4294967296 = w := ⟨_, rfl⟩
 have hw2 : w < 4294967296 := by rw [← hw]; exact Nat.mod_lt _ (by decide)
 rw [hw]
 refine ⟨g 0, g 1, by rw [List.length_set, hl], h.ok.set _ _ hw2, ?_, ?_⟩
 ·rw [ZJ]
  have := congrArg (List.drop 1) h.rest
  rwa [List.drop_drop, List.drop_drop] at this
 ·have e1 : (o.set i w).take (i + 1) = o.take i ++ [w] := by
   rw [List.take_add_one, List.take_set_of_le (Nat.le_refl _), List.getElem?_set_self (by omega)]; rfl
  rw [e1, Zx, List.length_take, Nat.min_eq_left (by omega), show val [w] = w by simp [val], Nat.pow_succ]
  refine ZbK _ _ _ _ _ _ _ h.eq ?_
  rw [ZR ρ i (by omega), ZR ρ (i + 1) (by omega), ← hw]
  exact Zaf _ _ _ s hs (Zd ho i)
theorem Uns.all {ρ o : List Nat} {s n : Nat} (h : Uns ρ s n o) (hz : val (ρ.drop n) = 0) : val (o.take n) = val ρ / 2 ^ s := by
 have := h.eq
 rwa [hz, Nat.zero_div, Nat.mul_zero, Nat.add_zero] at this
theorem Z4e {ρ : List Nat} {n : Nat} (hn : n ≤ ρ.length) (h : val ρ < B32 ^ n) : val (ρ.drop n) = 0 := (Zb1 (Zn ρ n hn) h).2
def Zdp (w : World) (x : Nat) (n : Nat) (e : Ending) (w' : World) : Prop :=
 ∃ g o, e = .returned (.slice (some ⟨g, 0, none⟩) (n + 1) (n + 1)) ∧ w.heap.size ≤ g ∧ Blk w' g o ∧ WOk o ∧ o.length = n + 1 ∧ val o = x ∧ Ext w w'
theorem Z63 (A : Option Addr) (n c k : Nat) (l : List Nat) (w : World) (h : WAt w A n c l) (hs : n < Z8) (hk : k < 32) :
  Ca 250 #[.slice A n c, .int .i64 (k : Int)] w (Zdp w (val l * 2 ^ k) n) :=
 (Z5H A n c k l w h hs hk).mono fun e w' ⟨h1, o, h2, h3, h4, h5, h6⟩ => ⟨_, o, h1, Nat.le_refl _, h2, h3, h4, h5, h6⟩
theorem Blk.grown {w w' : World} {g j : Nat} {l : List Nat} (h : Blk w j l) (k : w.grownBy w' (some g)) (hne : j ≠ g) : Blk w' j l := (k.block j h.lt (fun e => hne (Option.some.inj e))).trans h
theorem Z78 (A1 A2 : Option Addr) (n1 c1 k c2 : Nat) (l1 l2 : List Nat) (w : World) (h1 : WAt w A1 n1 c1 l1) (h2 : WAt w A2 (k + 2) c2 l2) (hs1 : n1 + 2 ≤ Z8) (t1 : Z0W l1) (t2 : Z0W l2) (hlt : val l2 ≤ val l1) (hn1 : ¬ n1 ≤ 2) :
  Ca 206 #[.slice A1 n1 c1, .slice A2 (k + 2) c2] w (ZbT w (val l1 / val l2) (val l1 % val l2) (n1 + 2)) := by
 have hkn : k + 2 ≤ n1 := by
  have := Z4A t2 h1.rep.ok hlt
  rw [← h1.len, ← h2.len] at this; omega
 obtain ⟨cc, hcc⟩ : ∃ x, Z1g (val l1) (val l2) = x := ⟨_, rfl⟩
 have hc0 : 0 ≤ cc := hcc ▸ Z28 hlt
 have HCC := zH (fun W (k1 : WAt W A1 n1 c1 l1) (k2 : WAt W A2 (k + 2) c2 l2) => ZB A1 A2 n1 c1 (k + 2) c2 l1 l2 W k1 k2 (by unfold Z8 at *; omega) (by unfold Z8 at *; omega) t1 t2)
 have HP := zH (fun W (k1 : WAt W A1 n1 c1 l1) => Z1q A1 n1 c1 l1 W k1 (by unfold Z8 at *; omega) hn1)
 rw [hcc] at HCC
 obtain ⟨b2, f2, hA2, hb2, hc2⟩ := h2.at (by omega)
 have g2 := hc2 (k + 1) (by omega)
 obtain ⟨t, ht⟩ : ∃ t, l2.getD (k + 1) 0 = t := ⟨_, rfl⟩
 have ht32 : t < 4294967296 := ht ▸ Zd h2.rep.ok _
 have ht0 : t ≠ 0 := by
  rcases t2 with e | e
  ·rw [h2.len.symm.symm, e] at hkn; exact absurd h2.len (by rw [e]; simp)
  ·rw [← h2.len] at e; rw [← ht]; exact e
 obtain ⟨s, hs32, hsz, hsl, hsh⟩ := Z4I t ht0 ht32
 have HL := zH (fun W => Z3K (t : Int) W (by omega) (by omega))
 simp only [Int.toNat_natCast] at HL
 rw [hsz] at HL
 have HS1 := zH (fun W (k1 : WAt W A1 n1 c1 l1) => Z63 A1 n1 c1 s l1 W k1 (by unfold Z8 at *; omega) hs32)
 have HS2 := zH (fun W (k1 : WAt W A2 (k + 2) c2 l2) => Z63 A2 (k + 2) c2 s l2 W k1 (by unfold Z8 at *; omega) hs32)
 have HSL := zH hsl
 have HSH := zH hsh
 have HT := zH ht
 have HKN := zH hkn
 rw [ht] at g2
 have HN1 := zH h1.len
 have HO1 := zH h1.rep.ok
 have HND : ∀ o, o.length = k + 2 + 1 → WOk o → val o = val l2 * 2 ^ s → val (o.take (k + 2)) = val l2 * 2 ^ s ∧ 2147483648 ≤ (o.take (k + 2)).getD (k + 1) 0 :=
  fun o a1 a2 a3 => Zay h2.len.symm h2.rep.ok a1 a2 a3 (by rw [ht]; exact hsl) (by rw [ht]; exact hsh)
 have HVG : B32 ^ (n1 - (n1 - (k + 2) + 1)) ≤ val l2 := by
  have := Z16 t2 (by rw [← h2.len]; omega)
  rw [← h2.len] at this
  rwa [show n1 - (n1 - (k + 2) + 1) = k + 2 - 1 by omega]
 have HNN : ∀ o, o.length = n1 + 1 → WOk o → val o = val l1 * 2 ^ s → val (o.drop (n1 - (k + 2) + 1)) < val l2 * 2 ^ s :=
  fun o a1 a2 a3 => Zax h1.len.symm h1.rep.ok a1 a2 a3 (by omega) HVG rfl
 have HND := zH HND
 have HNN := zH HNN
 clear HVG
 have H1 := zH h1
 have H2 := zH h2
 have HT2 := zH t2
 have hmk := Z1f ((n1 : Int) - ((k : Int) + 2) + 1) (n1 - (k + 2) + 1) (by omega) (by unfold Z8 at hs1; omega)
 have hn1I : (n1 : Int) ≤ 4294967294 := by unfold Z8 at hs1; omega
 subst hA2
 clear h1 h2 hc2 hcc hlt hsz hsl hsh ht t1 t2 hs1
 go_enter func206, ntmps206
 go_wp2_with (first | (go_at_call 202; (with_reducible refine (HCC.out _ (H1.out.ext EX) (H2.out.ext EX)).mono ?_); rintro e w1 ⟨rfl, hbw1⟩; (try clear hc hf); obtain ⟨hBw1, hc, hf⟩ := EC w1 (w)) | (go_at_call 204; (with_reducible refine (HP.out _ (H1.out.ext EX)).mono ?_); rintro e w2 ⟨rfl, hbw2⟩; (try clear hc hf); obtain ⟨hBw2, hc, hf⟩ := EC w2 (w); have hbw2s := hBw2.size) | (go_at_call 249; (with_reducible refine (HL.out _).mono ?_); rintro e w3 ⟨rfl, rfl⟩))
 refine Z1B 10 (fun _ => True) Z0a trivial fun _ => ?_
 refine TU 0 ?_ (hS := trivial)
 refine TU 1 ?_ (hS := trivial)
 refine TU 3 ?_ (hS := trivial)
 refine TU 4 ?_ (hS := trivial)
 refine TU 6 ?_ (hS := trivial)
 refine TU 7 ?_ (hS := trivial)
 refine R1U 2 fun K hK => ?_
 go_simp
 refine (HS1.out _ (H1.out.ext EX)).mono ?_; rintro e w4 ⟨g4, o4, rfl, hg4, hB4, ho4, hl4, hv4, hb4⟩; (try clear hc hf); obtain ⟨hBw4, hc, hf⟩ := EC w4 (w)
 refine KU hK (fun _ => ?_) trivial; clear hK K
 refine R1U 5 fun K hK => ?_
 go_simp
 refine (HS2.out _ (H2.out.ext EX)).mono ?_; rintro e w5 ⟨g5, o5, rfl, hg5, hB5, ho5, hl5, hv5, hb5⟩; (try clear hc hf); obtain ⟨hBw5, hc, hf⟩ := EC w5 (w)
 refine KU hK (fun _ => ?_) trivial; clear hK K
 refine TU 9 ?_ (hS := trivial)
 refine R1U 8 fun K hK => ?_
 go_simp
 go_wp2_with fail
 refine KU hK (fun _ => ?_) trivial; clear hK K
 refine RDU [10] (ARL fun K hK => ?_)
 go_simp
 refine KUL hK ?_; clear hK K
 refine Z0d.done (by kernel_rfl) ?_ _
 dsimp only [ZW]
 go_wp2_with fail
 obtain ⟨gq, hgq⟩ : ∃ g, w5.heap.size = g := ⟨_, rfl⟩
 have Z0 : Blk (w5.alloc (ZZ (List.replicate (n1 - (k + 2) + 1) 0))) gq (List.replicate (n1 - (k + 2) + 1) 0) := hgq ▸ Blk.new w5 _
 have Z4 := (hB4.ext hb5).alloc (ZZ (List.replicate (n1 - (k + 2) + 1) 0))
 have Z5 := hB5.alloc (ZZ (List.replicate (n1 - (k + 2) + 1) 0))
 have hw4 : w.heap.size ≤ g4 := Nat.le_trans hbw2s hg4
 have h45 : g4 < g5 := Nat.lt_of_lt_of_le hB4.lt hg5
 have h5q : g5 < gq := hgq ▸ hB5.lt
 obtain ⟨hv, htop⟩ := HND.out o5 hl5 ho5 hv5
 have hP0 := Z3e.start (v := o5.take (k + 2)) hl4 (by rw [List.length_take]; omega) ho4 (ho5.take _) (by omega) hkn (by rw [hv]; exact HNN.out o4 hl4 ho4 hv4)
 rw [hgq]
 have ZX : Ext w (w5.alloc (ZZ (List.replicate (n1 - (k + 2) + 1) 0))) := hBw5.alloc _
 generalize (w5.alloc (ZZ (List.replicate (n1 - (k + 2) + 1) 0))) = w6 at *
 obtain ⟨v, hvv⟩ : ∃ v, o5.take (k + 2) = v := ⟨_, rfl⟩
 rw [hvv] at hv htop hP0
 have hvl : v.length = k + 2 := by rw [← hvv, List.length_take]; omega
 have hvo : WOk v := hvv ▸ ho5.take _
 have V0 : o5.getD k 0 = v.getD k 0 := by rw [← hvv]; simp only [List.getD_eq_getElem?_getD]; rw [List.getElem?_take_of_lt (by omega)]
 have V1 : o5.getD (k + 1) 0 = v.getD (k + 1) 0 := by rw [← hvv]; simp only [List.getD_eq_getElem?_getD]; rw [List.getElem?_take_of_lt (by omega)]
 have HP0 := zH hP0
 have HV := zH hv
 have HTOP := zH htop
 have HV4 := zH hv4
 have HVV := zH hvv
 clear hP0 hv htop hv4 hvv hmk hb4 hb5 hc hf hBw4 hBw5 hbw1 hBw1 hbw2 hBw2 hB4 hB5 hg4 hg5 hbw2s hgq hv5
 go_loopw [14] (fun iv wr => ∃ (m : Nat) (ρ κ : List Nat), m ≤ n1 - (k + 2) + 1 ∧ iv = .int .i64 ((m : Int) - 1) ∧ Blk wr g4 ρ ∧ Blk wr g5 o5 ∧ Blk wr gq κ ∧ Z3e (val o4) v (k + 2) n1 m ρ κ ∧ Ext w wr) (fun iv _ => (intOf iv + 1).toNat)
 case atStart => exact ⟨n1 - (k + 2) + 1, o4, _, Nat.le_refl _, congrArg (Value.int .i64) (by omega), Z4, Z5, Z0, HP0.out, ZX⟩
 case round =>
  obtain ⟨m, ρ, κ, hm, rfl, hB4, hB5, hBq, hI, hx⟩ := hrel
  rcases m with _ | i
  ·have hB4l := hI.rlen
   have hA := hI.all
   have hρok := hI.rok
   have hκok := hI.kok
   have hκl := hI.klen
   have hlt := hI.lt
   have hvb := Z08 hvo
   rw [hvl] at hvb
   have hz : val (ρ.drop (k + 2)) = 0 := Z4e (by omega) (Nat.lt_trans (by rw [List.drop_zero] at hlt; exact hlt) hvb)
   have HZ := zH hz
   have HA := zH hA
   have HROK := zH hρok
   have HKOK := zH hκok
   have HB4 := zH hB4
   have HBq := zH hBq
   have HX := zH hx
   have HKN := zH hkn
   clear hA hρok hκok hlt hvb hz hB4 hB5 hBq hI hx V0 V1 Z0 Z4 Z5 ZX HCC HL HS1 HS2 HND HNN HSL HSH HT HT2 H1 H2 HO1 ho4 ho5 g2 hb2 ht32 ht0 hc0 hn1 hl5 HP hkn hm
   have ei : (((0 : Nat) : Int) - 1) = -1 := rfl
   rw [ei]
   have hslI : (k : Int) + 2 ≤ (n1 : Int) + 1 := by have hkn := HKN.out; omega
   go_wp2_with fail
   go_loopw [139] (fun jv wq => ∃ (j : Nat) (o : List Nat), j ≤ k + 2 ∧ jv = .int .i64 (j : Int) ∧ Blk wq g4 o ∧ Blk wq gq κ ∧ Uns ρ s j o ∧ Ext w wq) (fun jv _ => k + 2 - (intOf jv).toNat)
   case atStart => exact ⟨0, ρ, by omega, rfl, HB4.out, HBq.out, Uns.start s HROK.out, HX.out⟩
   case round =>
    obtain ⟨j, o, hj, rfl, hB4, hBq, hU, hx⟩ := hrel
    by_cases hlt : j < k + 2
    ·have hkn := HKN.out
     have ol := hU.len
     obtain ⟨q0, q1, hst⟩ := hU.step HROK.out hs32 (by omega)
     have e0 := hB4.cell j (by omega)
     have e1 := hB4.cell (j + 1) (by omega)
     have e2 := hB4.frozen j
     have x0 := Zd hU.ok j
     have x1 := Zd hU.ok (j + 1)
     rw [← q0, ← q1] at hst
     obtain ⟨u0, hu0⟩ : ∃ u, o.getD j 0 = u := ⟨_, rfl⟩
     obtain ⟨u1, hu1⟩ : ∃ u, o.getD (j + 1) 0 = u := ⟨_, rfl⟩
     rw [hu0] at e0 x0 hst
     rw [hu1] at e1 x1 hst
     obtain ⟨j1, hj1⟩ : ∃ j1, j + 1 = j1 := ⟨_, rfl⟩
     rw [hj1] at e1
     have hor := Z4d u0 u1 x0 x1
     have hwJ : IntKind.i64.wrap ((j : Int) + 1) = (j1 : Int) := by rw [IntWalk.i64_left]; unfold wrap64; omega
     have hmJ : (j : Int) < (k : Int) + 2 := by omega
     have hmJ1 : (j1 : Int) < (n1 : Int) + 1 := by omega
     have hwJ2 : (j : Int) + 1 = (j1 : Int) := by omega
     have HST := zH hst
     have HB4 := zH hB4
     have HBq := zH hBq
     have HX := zH hx
     clear hst hB4 hBq hU hx q0 q1 hu0 hu1 ol hj hlt
     simp only [B32] at x0 x1
     go_wp2_with fail
     go_region
     go_wp2
     go_roundw
     case measure => simp [intOf]; omega
     case rel =>
      have e : ((u1 : Int) * 4294967296 + (u0 : Int)) / 2 ^ s % 4294967296 = (((u1 * 4294967296 + u0) / 2 ^ s % 4294967296 : Nat) : Int) := by simp
      rw [e]
      refine ⟨j + 1, _, by omega, by simp; omega, (HB4.out.set j _).drew, (HBq.out.setOther (p := ⟨g4, j, none⟩) (fun h => by simp only at h; omega) _).drew, HST.out, (HX.out.setCell (p := ⟨g4, j, none⟩) (by simp only; omega) _).drew⟩
    ·obtain rfl : j = k + 2 := by omega
     have hD := hU.all HZ.out
     have hok := hU.ok
     have hol := hU.len
     go_wp2_with fail
     go_ret2
     obtain ⟨a1, a2⟩ := HA.out
     have hs0 : 0 < 2 ^ s := Nat.pow_pos (by decide)
     rw [HV.out, HV4.out, Nat.mul_div_mul_right _ _ hs0] at a1
     rw [HV.out, HV4.out, Nat.mul_mod_mul_right] at a2
     rw [a2, Nat.mul_div_cancel _ hs0] at hD
     have hkn := HKN.out
     refine ⟨_, _, _, κ, _, _, _, o.take (k + 2), rfl, hBq.wat HKOK.out _ _ (by omega) (by omega), a1, by omega, ⟨by rw [List.length_take]; omega, hB4.wd (k + 2) (by omega), by rw [List.length_take]; omega, hok.take _⟩, hD, by omega, hx⟩
  ·have ei : (((i + 1 : Nat) : Int) - 1) = (i : Int) := by omega
   rw [ei]
   obtain ⟨p, r, t0, rfl, hp, hr, hro, hle, hround⟩ := hI.round hvl hvo (by omega) HTOP.out
   have hρl := hI.rlen
   have hκl := hI.klen
   have e0 := hB4.cell (i + k) (by omega)
   have e1 := hB4.cell (i + k + 1) (by omega)
   have e2 := hB4.cell (i + k + 2) (by omega)
   have f0 := hB5.cell k (by omega)
   have f1 := hB5.cell (k + 1) (by omega)
   have x0 := Zd hI.rok (i + k)
   have x1 := Zd hI.rok (i + k + 1)
   have y0 := Zd hvo k
   have y1 := Zd hvo (k + 1)
   rw [V0] at f0
   rw [V1] at f1
   obtain ⟨u0, hu0⟩ : ∃ u, (p ++ r ++ t0).getD (i + k) 0 = u := ⟨_, rfl⟩
   obtain ⟨u1, hu1⟩ : ∃ u, (p ++ r ++ t0).getD (i + k + 1) 0 = u := ⟨_, rfl⟩
   obtain ⟨u2, hu2⟩ : ∃ u, (p ++ r ++ t0).getD (i + k + 2) 0 = u := ⟨_, rfl⟩
   obtain ⟨v0, hv0⟩ : ∃ u, v.getD k 0 = u := ⟨_, rfl⟩
   obtain ⟨v1, hv1⟩ : ∃ u, v.getD (k + 1) 0 = u := ⟨_, rfl⟩
   rw [hu0] at e0 hround x0
   rw [hu1] at e1 hround x1
   rw [hu2] at e2 hround hle
   rw [hv0] at f0 hround y0
   rw [hv1] at f1 hround y1 hle
   have HG := zH (fun W => Z7z u2 u1 u0 v1 v0 W hle x1 x0 y1 y0 (hv1 ▸ HTOP.out))
   have l4 := hB4.lt
   have l5 := hB5.lt
   have lq := hBq.lt
   have HB4 := zH hB4
   have HB5 := zH hB5
   have HBq := zH hBq
   have HI := zH hI
   have HRD := zH hround
   have HX := zH hx
   have HP := zH hp
   have HR := zH hr
   have HRO := zH hro
   clear hB4 hB5 hBq hI hround hx hp hr hro hu0 hu1 hu2 hv0 hv1 x0 x1 y0 y1 ei hle V0 V1 Z0 Z4 Z5 ZX
   go_wp2_with fail
   obtain ⟨j0, hj0⟩ : ∃ j, i + k = j := ⟨_, rfl⟩
   obtain ⟨j1, hj1⟩ : ∃ j, i + k + 1 = j := ⟨_, rfl⟩
   obtain ⟨j2, hj2⟩ : ∃ j, i + k + 2 = j := ⟨_, rfl⟩
   obtain ⟨k1, hk1⟩ : ∃ j, k + 1 = j := ⟨_, rfl⟩
   rw [hj0] at e0
   rw [hj1] at e1
   rw [hj2] at e2
   rw [hk1] at f1
   have hwI : IntKind.i64.wrap ((i : Int) + ((k : Int) + 2)) = (j2 : Int) := by rw [IntWalk.i64_left]; unfold wrap64; omega
   have hwI1 : IntKind.i64.wrap ((j2 : Int) - 1) = (j1 : Int) := by rw [IntWalk.i64_left]; unfold wrap64; omega
   have hwI2 : IntKind.i64.wrap ((j2 : Int) - 2) = (j0 : Int) := by rw [IntWalk.i64_left]; unfold wrap64; omega
   have hwK1 : IntKind.i64.wrap ((k : Int) + 2 - 1) = (k1 : Int) := by rw [IntWalk.i64_left]; unfold wrap64; omega
   have hwK2 : IntKind.i64.wrap ((k : Int) + 2 - 2) = (k : Int) := by rw [IntWalk.i64_left]; unfold wrap64; omega
   have hwK3 : IntKind.i64.wrap (k : Int) = (k : Int) := by rw [IntWalk.i64_left]; unfold wrap64; omega
   have hmK2 : (k : Int) < (k : Int) + 2 := by omega
   have hmI0 : (j2 : Int) < (n1 : Int) + 1 := by omega
   have hmI1 : (j1 : Int) < (n1 : Int) + 1 := by omega
   have hmI2 : (j0 : Int) < (n1 : Int) + 1 := by omega
   have hmK1 : (k1 : Int) < (k : Int) + 2 := by omega
   clear hj0 hj1 hj2 hk1
   clear HCC HL HS1 HS2 HND HNN HSL HSH HT HT2 H1 H2 HN1 HO1 ho4 hl4 ho5 g2 hb2 ht32 ht0 hc0 hn1 HKN
   go_region_held3 (fun w' => w'.cell? ⟨g4, j0, none⟩ = some (.int .u32 (u0 : Int)) ∧ w'.cell? ⟨g4, j1, none⟩ = some (.int .u32 (u1 : Int)) ∧ w'.cell? ⟨g4, j2, none⟩ = some (.int .u32 (u2 : Int)) ∧ w'.cell? ⟨g5, k, none⟩ = some (.int .u32 (v0 : Int)) ∧ w'.cell? ⟨g5, k1, none⟩ = some (.int .u32 (v1 : Int))) (first | (obtain ⟨q0, q1, q2, q3, q4⟩ := ‹_ ∧ _ ∧ _ ∧ _ ∧ _›; exact ⟨hk7 _ _ q0, hk7 _ _ q1, hk7 _ _ q2, hk7 _ _ q3, hk7 _ _ q4⟩) | simp [go_sem, e0, e1, e2, f0, f1]) ((go_at_call 251; (with_reducible refine (HG.out _).mono ?_); rintro e w7 ⟨q, rfl, hGq, hx7⟩; have hk7 := hx7.keeps))
   have hx6 : Ext w w7 := (HX.out.drew).trans hx7
   have hB47 : Blk w7 g4 (p ++ r ++ t0) := (HB4.out.drew).ext hx7
   have hB57 : Blk w7 g5 o5 := (HB5.out.drew).ext hx7
   have hBq7 : Blk w7 gq κ := (HBq.out.drew).ext hx7
   obtain ⟨hq32, hqv, hyes, hno⟩ := HRD.out q hGq
   have hW : WAt w7 (some ⟨g5, 0, none⟩) (k + 2) (k + 2 + 1) v := ⟨hvl.symm, ⟨HVV.out ▸ hB57.wd (k + 2) (by omega), by omega, hvo⟩⟩
   have HTK := zH (Z8w g4 i (k + 2) (n1 + 1) (n1 + 1) (k + 2 + 1) q (some ⟨g5, 0, none⟩) p r t0 v w7 hB47 HRO.out HP.out HR.out hρl.symm hW (fun b off e => by cases e; omega) (by unfold Z8; omega) hq32 hqv)
   have HYES := zH hyes
   have HNO := zH hno
   have HX6 := zH hx6
   have HB5 := zH hB57
   have HBq := zH hBq7
   clear hwI hwI1 hwI2 hwK1 hwK2 hwK3 hk7 hB47 hB57 hBq7 hqv hyes hno hW hx7 hGq hx6 e0 e1 e2 f0 f1 l4 l5 lq hmK2 hmI0 hmI1 hmI2 hmK1 HG
   clear ‹_ ∧ _ ∧ _ ∧ _ ∧ _›
   go_wp2_with (go_at_call 252; (with_reducible refine (HTK.out).mono ?_); rintro e w8 ⟨ok, r', rfl, hB8, hg8, hr8, ho8, hy8, hn8⟩; have HB8 := zH hB8; have HR8 := zH hr8; have HO8 := zH ho8; have HY8 := zH hy8; have HN8 := zH hn8; have hBq8 := HBq.out.grown hg8 (by omega); have HB58 := zH (HB5.out.grown hg8 (by omega)); have HX8 := zH (Ext.of_grown HX6.out hg8 hw4); have e8 := hBq8.cell i (by omega); have f8 := hBq8.frozen i; have HBq8 := zH hBq8; clear hB8 hr8 ho8 hy8 hn8 hBq8 hg8 HTK)
   all_goals go_roundw
   case measure => simp [intOf]
   case measure => simp [intOf]
   case rel =>
    have hk : ok = false := by simpa using ‹(!ok) = true›
    obtain ⟨a1, a2⟩ := HN8.out hk
    obtain ⟨b1, b2⟩ := HNO.out r' HR8.out HO8.out a1 a2
    have e : IntKind.u64.wrap ((q : Int) - 1) % 4294967296 = ((q - 1 : Nat) : Int) := by rw [Z0m ((q : Int) - 1) (by omega) (by omega)]; omega
    rw [e]
    exact ⟨i, _, _, by omega, rfl, HB8.out.setOther (p := ⟨gq, i, none⟩) (fun h => by simp only at h; omega) _, HB58.out.setOther (p := ⟨gq, i, none⟩) (fun h => by simp only at h; omega) _, HBq8.out.set i (q - 1), b2, HX8.out.setCell (p := ⟨gq, i, none⟩) (by simp only; omega) _⟩
   case rel =>
    have hk : ok = true := by simpa using ‹(!ok) = false›
    obtain ⟨a1, a2⟩ := HY8.out hk
    exact ⟨i, _, _, by omega, rfl, HB8.out.setOther (p := ⟨gq, i, none⟩) (fun h => by simp only at h; omega) _, HB58.out.setOther (p := ⟨gq, i, none⟩) (fun h => by simp only at h; omega) _, HBq8.out.set i q, HYES.out r' HR8.out HO8.out a2, HX8.out.setCell (p := ⟨gq, i, none⟩) (by simp only; omega) _⟩
theorem Z0K {z : Int} {k : Nat} (h : z.natAbs < B32 ^ k) : wl z ≤ k := Z0A h
theorem ZaA {z : Int} {k : Nat} (h : wl z ≤ k) : z.natAbs < B32 ^ k := Z0H h
theorem Z71 (z : Int) : z.natAbs < B32 ^ wl z := ZaA (Nat.le_refl _)
theorem ZG {a b : Int} (h : a.natAbs ≤ b.natAbs) : wl a ≤ wl b := Z0K (Nat.lt_of_le_of_lt h (Z71 b))
theorem Z3w (a : Int) : wl (-a) = wl a := by unfold wl ws; rw [Int.natAbs_neg]
theorem ZD (a b : Int) : wl (a * b) ≤ wl a + wl b := Z0K (by rw [Int.natAbs_mul, Nat.pow_add]; exact Nat.mul_lt_mul'' (Z71 a) (Z71 b))
theorem Z2J {j k : Nat} (h : j ≤ k) : B32 ^ j ≤ B32 ^ k := Nat.pow_le_pow_right (by decide) h
theorem Z9m {a b m : Nat} (h1 : a < m) (h2 : b < m) : a + b < m * B32 := by simp only [B32]; omega
theorem Z8O (a b : Int) : wl (a + b) ≤ max (wl a) (wl b) + 1 := Z0K (by
 have h := Int.natAbs_add_le a b
 have ha := Nat.lt_of_lt_of_le (Z71 a) (Z2J (Nat.le_max_left (wl a) (wl b)))
 have hb := Nat.lt_of_lt_of_le (Z71 b) (Z2J (Nat.le_max_right (wl a) (wl b)))
 rw [Nat.pow_succ]
 exact Nat.lt_of_le_of_lt h (Z9m ha hb))
theorem IAt.wl {w : Go.World} {s : Bool} {A : Option Go.Addr} {n c : Nat} {z : Int} (h : IAt w s A n c z) : n = wl z := h.rep.len
theorem Z2p {x y q r : Int} (hy : y ≠ 0) (h : r + y * q = x) (h0 : 0 ≤ r) (h1 : r < y.natAbs) : x / y = q ∧ x % y = r := by
 rcases Int.lt_or_gt_of_ne hy with hy | hy
 ·have := (Int.ediv_emod_unique (a := x) (b := -y) (r := r) (q := -q) (by omega)).2 ⟨by rw [Int.neg_mul_neg]; exact h, h0, by omega⟩
  rw [Int.ediv_neg, Int.emod_neg] at this; omega
 ·exact (Int.ediv_emod_unique hy).2 ⟨h, h0, by omega⟩
theorem Z2P (s1 s2 : Bool) (X Y : Nat) (hY : Y ≠ 0) (h : s1 = false ∨ X % Y = 0) : sgd s1 X / sgd s2 Y = sgd (!s1 == s2) (X / Y) ∧ sgd s1 X % sgd s2 Y = ((X % Y : Nat) : Int) := by
 have e := Nat.div_add_mod X Y
 have hr := Nat.mod_lt X (Nat.pos_of_ne_zero hY)
 have e' : (Y : Int) * ((X / Y : Nat) : Int) + ((X % Y : Nat) : Int) = X := by exact_mod_cast e
 generalize X / Y = Q at *
 generalize X % Y = R at *
 refine Z2p (by unfold sgd; split <;> omega) ?_ (by omega) (by rw [Z2Z]; omega)
 cases s1 <;> cases s2 <;> simp [sgd, Int.mul_neg, Int.neg_mul] at h ⊢ <;> omega
theorem Z7Q (s2 : Bool) (X Y : Nat) (hY : Y ≠ 0) (h : X % Y ≠ 0) : sgd true X / sgd s2 Y = sgd (!true == s2) (X / Y + 1) ∧ sgd true X % sgd s2 Y = (Y : Int) - ((X % Y : Nat) : Int) := by
 have e := Nat.div_add_mod X Y
 have hr := Nat.mod_lt X (Nat.pos_of_ne_zero hY)
 have e' : (Y : Int) * ((X / Y : Nat) : Int) + ((X % Y : Nat) : Int) = X := by exact_mod_cast e
 generalize X / Y = Q at *
 generalize X % Y = R at *
 refine Z2p (by unfold sgd; split <;> omega) ?_ (by omega) (by rw [Z2Z]; omega)
 cases s2 <;> simp [sgd, Int.mul_neg, Int.neg_mul, Int.mul_add] <;> omega
def qm (x : Rat) : Nat := max (wl x.num) (wl (x.den : Int))
theorem Z0x (x : Rat) : wl x.num ≤ qm x := Nat.le_max_left _ _
theorem Z0c (x : Rat) : wl (x.den : Int) ≤ qm x := Nat.le_max_right _ _
theorem Z3l (n : Int) : (Rat.divInt n 1).num = n ∧ (((Rat.divInt n 1).den : Nat) : Int) = 1 := by
 rw [Rat.num_divInt, Rat.den_divInt]
 simp
theorem Z17 {n d : Int} (h : Int.gcd n d = 1) (hd : 0 < d) : (Rat.divInt n d).num = n ∧ (((Rat.divInt n d).den : Nat) : Int) = d := by
 rw [Rat.num_divInt, Rat.den_divInt, Int.gcd_comm d n, h, if_neg (by omega), Int.sign_eq_one_of_pos hd]
 simp; omega
theorem Z4N {n d : Int} (hd : 0 < d) : (Rat.divInt n d).num = n / (Int.gcd n d : Int) ∧ (((Rat.divInt n d).den : Nat) : Int) = d / (Int.gcd n d : Int) := by
 rw [Rat.num_divInt, Rat.den_divInt, Int.gcd_comm d n, if_neg (by omega), Int.sign_eq_one_of_pos hd, Int.one_mul]
 refine ⟨rfl, ?_⟩
 rw [Int.natCast_ediv, Int.natAbs_of_nonneg (by omega)]
theorem Z4O {n d : Int} (hd : d < 0) : (Rat.divInt n d).num = n / (-(Int.gcd n d : Int)) ∧ (((Rat.divInt n d).den : Nat) : Int) = d / (-(Int.gcd n d : Int)) := by
 rw [Rat.num_divInt, Rat.den_divInt, Int.gcd_comm d n, if_neg (by omega), Int.sign_eq_neg_one_of_neg hd]
 have h1 : (Int.gcd n d : Int) ∣ n := Int.gcd_dvd_left ..
 have h2 : (Int.gcd n d : Int) ∣ d := Int.gcd_dvd_right ..
 refine ⟨?_, ?_⟩
 ·rw [Int.ediv_neg, Int.neg_one_mul, Int.neg_ediv_of_dvd h1]
 ·rw [Int.natCast_ediv, Int.ediv_neg, ← Int.neg_ediv_of_dvd h2, Int.ofNat_natAbs_of_nonpos (by omega)]
theorem Z9Y {x : Rat} {k : Nat} (h1 : wl x.num ≤ k) (h2 : wl (x.den : Int) ≤ k) : qm x ≤ k := Nat.max_le.2 ⟨h1, h2⟩
theorem Z3R (n d : Int) (hd : d ≠ 0) : qm (Rat.divInt n d) ≤ max (wl n) (wl d) := by
 refine Z9Y (Nat.le_trans (ZG ?_) (Nat.le_max_left _ _)) (Nat.le_trans (ZG ?_) (Nat.le_max_right _ _))
 ·rw [Rat.num_divInt, Int.natAbs_ediv_of_dvd (Int.dvd_trans (Int.gcd_dvd_right ..) (Int.dvd_mul_left _ _)), Int.natAbs_mul, Int.natAbs_sign_of_ne_zero hd, Nat.one_mul]
  exact Nat.div_le_self _ _
 ·rw [Rat.den_divInt, if_neg hd, Int.natAbs_natCast]
  exact Nat.div_le_self _ _
theorem Z2t (x y : Rat) : x + y = Rat.divInt (x.num * y.den + y.num * x.den) (x.den * y.den) := by
 rw [Rat.add_def', ← Int.natCast_mul, Rat.divInt_ofNat]
theorem Z3j (x y : Rat) : x * y = Rat.divInt (x.num * y.num) (x.den * y.den) := by
 rw [Rat.mul_def', ← Int.natCast_mul, Rat.divInt_ofNat]
theorem Z5A (x : Rat) : (x.den : Int) ≠ 0 := by have := x.den_nz; omega
theorem Z1n (x y : Rat) : (x.den : Int) * (y.den : Int) ≠ 0 := Int.mul_ne_zero (Z5A x) (Z5A y)
theorem Z4l (x y : Rat) : qm (x + y) ≤ qm x + qm y + 1 := by
 rw [Z2t]
 refine Nat.le_trans (Z3R _ _ (Z1n x y)) ?_
 have h1 := Z8O (x.num * y.den) (y.num * x.den)
 have h2 := ZD x.num y.den
 have h3 := ZD y.num x.den
 have h4 := ZD (x.den : Int) y.den
 have := Z0x x; have := Z0c x; have := Z0x y; have := Z0c y
 omega
theorem Z09 (x y : Rat) : qm (x * y) ≤ qm x + qm y := by
 rw [Z3j]
 refine Nat.le_trans (Z3R _ _ (Z1n x y)) ?_
 have h2 := ZD x.num y.num
 have h4 := ZD (x.den : Int) y.den
 have := Z0x x; have := Z0c x; have := Z0x y; have := Z0c y
 omega
theorem Z22 (x : Rat) : qm (-x) = qm x := by unfold qm; rw [Rat.neg_num, Rat.neg_den, Z3w]
theorem Z5n (x y : Rat) : qm (x - y) ≤ qm x + qm y + 1 := by rw [Rat.sub_eq_add_neg]; have := Z4l x (-y); rwa [Z22] at this
theorem Z8S (x : Rat) (h : x ≠ 0) : qm x⁻¹ ≤ qm x := by
 rw [Rat.inv_def]
 have := Z3R x.den x.num (by rwa [Ne, Rat.num_eq_zero])
 rwa [Nat.max_comm] at this
def Z0s (x y : Rat) : Int := if x < y then -1 else if y < x then 1 else 0
theorem Z5b (x y : Rat) : Z47 (x.num * y.den) (y.num * x.den) = Z0s x y := by
 unfold Z47 Z0s
 simp only [Rat.lt_iff]
theorem Z7R (x y : Rat) (hx : x.den = 1) (hy : y.den = 1) : Z47 x.num y.num = Z0s x y := by
 rw [← Z5b, hx, hy]; simp
theorem Za.drew {a b : World} (h : Za a b) : Za a b.drew := h.trans ((Ext.refl b).drew).keeps
theorem Z6 (w : World) (p q : Addr) (x : Value) : ((w.setCell p x).cell? q).isSome = (w.cell? q).isSome := by
 cases hq : w.cell? q with
 | some v => obtain ⟨v', h⟩ := cell?_setCell_some (p := p) (x := x) hq; rw [h]; rfl
 | none =>
  by_cases e : p = q
  ·subst e
   have : (w.setCell p x).cell? p = none := by
    simp only [World.setCell, World.cell?, Array.getElem?_modify, ↓reduceIte] at hq ⊢
    cases hh : w.heap[p.block]? with
    | none => simp
    | some o =>
     rw [hh] at hq
     cases o with
     | cells c e f =>
      simp only [Option.map_some] at hq ⊢
      cases hs : p.spot.isSome with
      | true => simp
      | false => simp [hs] at hq ⊢; exact hq
     | _ => simp
   rw [this]
  ·rw [World.cell?_setCell_other w p q x e, hq]
theorem KX {a b : World} (h : Za a b := by exact KPC) : Za a b := h
theorem Ext.cell {w w' : World} (h : Ext w w') {a : Addr} {v : Value} (k : w.cell? a = some v) : w'.cell? a = some v := (h.below.cell (World.block_lt_of_cell? w _ k)).trans k
def Fz (w : World) (g : Nat) : Prop := g < w.heap.size ∧ ∀ o, w.frozen? ⟨g, o, none⟩ = false
theorem Fz.ext {w w' : World} {g : Nat} (h : Fz w g) (k : Ext w w') : Fz w' g := ⟨Nat.lt_of_lt_of_le h.1 k.size, fun o => (k.cells.2 g o h.1).trans (h.2 o)⟩
theorem Fz.setCell {w : World} {g : Nat} (h : Fz w g) (p : Addr) (v : Value) : Fz (w.setCell p v) g := ⟨by rw [World.size_setCell]; exact h.1, fun o => by have := h.2 o; simpa [go_sem] using this⟩
theorem Fz.alloc {w : World} {g : Nat} (h : Fz w g) (o : Obj) : Fz (w.alloc o) g := h.ext ((Ext.refl w).alloc o)
theorem Fz.new (w : World) (g : Nat) (c : Array Value) (ty : TypeId) (h : g = w.heap.size) : Fz (w.alloc (.cells c ty)) g := by
 subst h
 have hb : (w.alloc (.cells c ty)).heap[w.heap.size]? = some (.cells c ty) := by show (w.heap.push _)[w.heap.size]? = _; simp
 exact ⟨by rw [World.size_alloc]; omega, fun o => by unfold World.frozen?; simp only [hb]; simp⟩
theorem Fz.drew {w : World} {g : Nat} (h : Fz w g) : Fz w.drew g := h
theorem Zag : Z0W [1] := Or.inr (by decide)
theorem Z94 (W : World) (g : Nat) (hg : W.heap.size = g) : WAt (W.alloc (.cells #[.int .u32 1] 131)) (some ⟨g, 0, none⟩) 1 1 [1] := by
 subst hg
 exact Z33 W [1] (by intro x hx; simp at hx; subst hx; decide) 1 1 rfl (Nat.le_refl _)
theorem Z1C (A1 A2 : Option Addr) (n1 c1 n2 c2 : Nat) (l1 l2 : List Nat) (w : World) (h1 : WAt w A1 n1 c1 l1) (h2 : WAt w A2 n2 c2 l2) (hs1 : n1 + 2 ≤ Z8) (hs2 : n2 + 2 ≤ Z8) (t1 : Z0W l1) (t2 : Z0W l2) (h0 : val l2 ≠ 0) :
  Ca 206 #[.slice A1 n1 c1, .slice A2 n2 c2] w (ZbT w (val l1 / val l2) (val l1 % val l2) (n1 + 2)) := by
 rcases Nat.lt_or_ge (val l1) (val l2) with hlt | hge
 ·exact Z79 A1 A2 n1 c1 n2 c2 l1 l2 w h1 h2 (by omega) (by omega) t1 t2 hlt
 ·by_cases hp : n1 ≤ 2
  ·exact Z77 A1 A2 n1 c1 n2 c2 l1 l2 w h1 h2 hp (by omega) t1 t2 hge h0
  ·by_cases h1' : n2 = 1
   ·exact Z6o A1 A2 n1 c1 n2 c2 l1 l2 w h1 h2 (by omega) h1' t1 t2 hge h0 hp
   ·have hn2 : n2 ≠ 0 := by
     intro e
     have := h2.len
     rw [e] at this
     rw [List.eq_nil_of_length_eq_zero this.symm] at h0
     exact h0 rfl
    obtain ⟨k, rfl⟩ : ∃ k, n2 = k + 2 := ⟨n2 - 2, by omega⟩
    exact Z78 A1 A2 n1 c1 k c2 l1 l2 w h1 h2 hs1 t1 t2 hge hp
def Z81 (w : World) (q r : Int) (e : Ending) (w' : World) : Prop :=
 ∃ s A n c s' A' n' c', e = .returned (.tuple #[.agg #[.bool s, .slice A n c], .agg #[.bool s', .slice A' n' c'], .int .i64 0]) ∧ IAt w' s A n c q ∧ IAt w' s' A' n' c' r ∧ Ext w w'
theorem Z5p (s1 s2 : Bool) (A1 A2 : Option Addr) (n1 c1 n2 c2 : Nat) (x y : Int) (w : World) (h1 : IAt w s1 A1 n1 c1 x) (h2 : IAt w s2 A2 n2 c2 y) (hs1 : n1 + 2 < Z8) (hs2 : n2 + 2 < Z8) (hy : y ≠ 0) (hsg : s1 = false) :
  Ca 255 #[.agg #[.bool s1, .slice A1 n1 c1], .agg #[.bool s2, .slice A2 n2 c2]] w (Z81 w (x / y) (x % y)) := by
 have hs1' : n1 ≤ Z8 := by omega
 have hs2' : n2 ≤ Z8 := by omega
 have hsv : val (Z7 y.natAbs) ≠ 0 := by rw [Z9]; omega
 have hn2 : ((n2 : Int) == 0) = false := by have := h2.zero_iff; simp; omega
 have hD := Z2P s1 s2 (val (Z7 x.natAbs)) (val (Z7 y.natAbs)) hsv (.inl hsg)
 rw [h1.sv, h2.sv] at hD
 have HD := zH hD
 have HP := zH (fun W (k1 : WAt W A1 n1 c1 (Z7 x.natAbs)) (k2 : WAt W A2 n2 c2 (Z7 y.natAbs)) => Z1C A1 A2 n1 c1 n2 c2 _ _ W k1 k2 (by omega) (by omega) (Zb _) (Zb _) hsv)
 have H1 := zH h1
 have H2 := zH h2
 clear h1 h2 hD hy hsv
 subst hsg
 rw [show (!false == s2) = s2 by cases s2 <;> rfl] at HD
 go_enter func255, ntmps255
 go_wp2_with (
  first
  | (go_at_call 201; (with_reducible refine (Z0o false s2 A1 A2 n1 c1 n2 c2 _ x y _ (H1.out.ext EX) (H2.out.ext EX) hs1' hs2' (by simp [go_sem]) (by simp [go_sem]) (by simp [go_sem]) (by simp [go_sem])).mono ?_); rintro e w1 ⟨rfl, hbw1⟩; (try clear hc hf); obtain ⟨hBw1, hc, hf⟩ := EC4 w1 w)
  | (go_at_call 206; (with_reducible refine (HP.out _ (H1.out.rep.ext EX) (H2.out.rep.ext EX)).mono ?_); rintro e w2 ⟨Aw2, nw2, cw2, lw2, Bw2, mw2, dw2, jw2, rfl, hIw2, hvw2, hnw2, hJw2, huw2, hmw2, hbw2⟩; (try clear hc hf); obtain ⟨hBw2, hc, hf⟩ := EC4 w2 w; have HVw2 := zH hvw2; have HUw2 := zH huw2; clear hvw2 huw2)
  | (go_at_call 207; (with_reducible refine (Zs s2 Aw2 nw2 cw2 lw2 _ (hIw2.ext EX) (by omega)).mono ?_); rintro e w3 ⟨sw3, Aw3, nw3, cw3, rfl, hIw3, hbw3⟩; (try clear hc hf); obtain ⟨hBw3, hc, hf⟩ := EC4 w3 w)
  | (go_at_call 207; (with_reducible refine (Zs false Bw2 mw2 dw2 jw2 _ (hJw2.ext EX) (by omega)).mono ?_); rintro e w4 ⟨sw4, Aw4, nw4, cw4, rfl, hIw4, hbw4⟩; (try clear hc hf); obtain ⟨hBw4, hc, hf⟩ := EC4 w4 w))
 go_region
 go_wp2
 rw [HVw2.out, ← HD.out.1] at hIw3
 rw [HUw2.out, show ∀ a : Nat, sgd false a = (a : Int) from fun _ => rfl, ← HD.out.2] at hIw4
 refine bodyPost_ret (v := .tuple #[.agg #[.bool sw3, .slice Aw3 nw3 cw3], .agg #[.bool sw4, .slice Aw4 nw4 cw4], .int .i64 0]) (by simp [results, results255, go_sem, hc, hf, Z6]) rfl ⟨_, _, _, _, _, _, _, _, rfl, IAt.keep hIw3 (by exact KPC), IAt.keep hIw4 (by exact KPC), EX⟩
theorem Z6p (s1 s2 : Bool) (A1 A2 : Option Addr) (n1 c1 n2 c2 : Nat) (x y : Int) (w : World) (h1 : IAt w s1 A1 n1 c1 x) (h2 : IAt w s2 A2 n2 c2 y) (hs1 : n1 + 2 < Z8) (hs2 : n2 + 2 < Z8) (hy : y ≠ 0) (hsg : s1 = true) (hr : val (Z7 x.natAbs) % val (Z7 y.natAbs) = 0) :
  Ca 255 #[.agg #[.bool s1, .slice A1 n1 c1], .agg #[.bool s2, .slice A2 n2 c2]] w (Z81 w (x / y) (x % y)) := by
 have hs1' : n1 ≤ Z8 := by omega
 have hs2' : n2 ≤ Z8 := by omega
 have hsv : val (Z7 y.natAbs) ≠ 0 := by rw [Z9]; omega
 have hn2 : ((n2 : Int) == 0) = false := by have := h2.zero_iff; simp; omega
 have hD := Z2P s1 s2 (val (Z7 x.natAbs)) (val (Z7 y.natAbs)) hsv (.inr hr)
 rw [h1.sv, h2.sv] at hD
 have HD := zH hD
 have HP := zH (fun W (k1 : WAt W A1 n1 c1 (Z7 x.natAbs)) (k2 : WAt W A2 n2 c2 (Z7 y.natAbs)) => Z1C A1 A2 n1 c1 n2 c2 _ _ W k1 k2 (by omega) (by omega) (Zb _) (Zb _) hsv)
 have H1 := zH h1
 have H2 := zH h2
 have HR0 := zH hr
 clear h1 h2 hD hy hsv hr
 subst hsg
 rw [show (!true == s2) = !s2 by cases s2 <;> rfl] at HD
 go_enter func255, ntmps255
 go_wp2_with (
  first
  | (go_at_call 201; (with_reducible refine (Z0o true s2 A1 A2 n1 c1 n2 c2 _ x y _ (H1.out.ext EX) (H2.out.ext EX) hs1' hs2' (by simp [go_sem]) (by simp [go_sem]) (by simp [go_sem]) (by simp [go_sem])).mono ?_); rintro e w1 ⟨rfl, hbw1⟩; (try clear hc hf); obtain ⟨hBw1, hc, hf⟩ := EC4 w1 w)
  | (go_at_call 206; (with_reducible refine (HP.out _ (H1.out.rep.ext EX) (H2.out.rep.ext EX)).mono ?_); rintro e w2 ⟨Aw2, nw2, cw2, lw2, Bw2, mw2, dw2, jw2, rfl, hIw2, hvw2, hnw2, hJw2, huw2, hmw2, hbw2⟩; (try clear hc hf); obtain ⟨hBw2, hc, hf⟩ := EC4 w2 w; have HVw2 := zH hvw2; have HUw2 := zH huw2; clear hvw2 huw2)
  | (go_at_call 207; (with_reducible refine (Zs (!s2) Aw2 nw2 cw2 lw2 _ (hIw2.ext EX) (by omega)).mono ?_); rintro e w3 ⟨sw3, Aw3, nw3, cw3, rfl, hIw3, hbw3⟩; (try clear hc hf); obtain ⟨hBw3, hc, hf⟩ := EC4 w3 w)
  | (go_at_call 207; (with_reducible refine (Zs false Bw2 mw2 dw2 jw2 _ (hJw2.ext EX) (by omega)).mono ?_); rintro e w4 ⟨sw4, Aw4, nw4, cw4, rfl, hIw4, hbw4⟩; (try clear hc hf); obtain ⟨hBw4, hc, hf⟩ := EC4 w4 w; have hz4 : ((nw4 : Int) == 0) = true := (by have := hIw4.zero_iff.2 (by rw [HUw2.out, HR0.out]; rfl); simp; omega)))
 go_region
 go_wp2
 rw [HVw2.out, ← HD.out.1] at hIw3
 rw [HUw2.out, show ∀ a : Nat, sgd false a = (a : Int) from fun _ => rfl, ← HD.out.2] at hIw4
 refine bodyPost_ret (v := .tuple #[.agg #[.bool sw3, .slice Aw3 nw3 cw3], .agg #[.bool sw4, .slice Aw4 nw4 cw4], .int .i64 0]) (by simp [results, results255, go_sem, hc, hf, Z6]) rfl ⟨_, _, _, _, _, _, _, _, rfl, IAt.keep hIw3 (by exact KPC), IAt.keep hIw4 (by exact KPC), EX⟩
theorem Z6q (s1 s2 : Bool) (A1 A2 : Option Addr) (n1 c1 n2 c2 : Nat) (x y : Int) (w : World) (h1 : IAt w s1 A1 n1 c1 x) (h2 : IAt w s2 A2 n2 c2 y) (hs1 : n1 + 2 < Z8) (hs2 : n2 + 2 < Z8) (hy : y ≠ 0) (hsg : s1 = true) (hr : val (Z7 x.natAbs) % val (Z7 y.natAbs) ≠ 0) :
  Ca 255 #[.agg #[.bool s1, .slice A1 n1 c1], .agg #[.bool s2, .slice A2 n2 c2]] w (Z81 w (x / y) (x % y)) := by
 have hs1' : n1 ≤ Z8 := by omega
 have hs2' : n2 ≤ Z8 := by omega
 have hsv : val (Z7 y.natAbs) ≠ 0 := by rw [Z9]; omega
 have hn2 : ((n2 : Int) == 0) = false := by have := h2.zero_iff; simp; omega
 have hD := Z7Q s2 (val (Z7 x.natAbs)) (val (Z7 y.natAbs)) hsv hr
 rw [show sgd true (val (Z7 x.natAbs)) = x by rw [← hsg]; exact h1.sv, h2.sv] at hD
 have HP := zH (fun W (k1 : WAt W A1 n1 c1 (Z7 x.natAbs)) (k2 : WAt W A2 n2 c2 (Z7 y.natAbs)) => Z1C A1 A2 n1 c1 n2 c2 _ _ W k1 k2 (by omega) (by omega) (Zb _) (Zb _) hsv)
 have H1 := zH h1
 have H2 := zH h2
 obtain ⟨Q, hQ⟩ : ∃ Q, val (Z7 x.natAbs) / val (Z7 y.natAbs) = Q := ⟨_, rfl⟩
 obtain ⟨R, hR⟩ : ∃ Q, val (Z7 x.natAbs) % val (Z7 y.natAbs) = Q := ⟨_, rfl⟩
 have HQL : Hid (Q ≤ x.natAbs) := by show _; rw [← hQ, Z9 x.natAbs]; exact Nat.div_le_self _ _
 have HRL : Hid (R ≤ y.natAbs) := by show _; rw [← hR, Z9 y.natAbs]; rw [Z9] at hsv; exact Nat.le_of_lt (Nat.mod_lt _ (Nat.pos_of_ne_zero hsv))
 rw [hQ, hR] at hD HP
 rw [hR] at hr
 have HR0 := zH hr
 have HD := zH hD
 clear h1 h2 hD hy hsv hr hQ hR
 subst hsg
 rw [show (!true == s2) = !s2 by cases s2 <;> rfl] at HD
 go_enter func255, ntmps255
 go_wp2_with (
  first
  | (go_at_call 201; (with_reducible refine (Z0o true s2 A1 A2 n1 c1 n2 c2 _ x y _ (H1.out.ext EX) (H2.out.ext EX) hs1' hs2' (by simp [go_sem]) (by simp [go_sem]) (by simp [go_sem]) (by simp [go_sem])).mono ?_); rintro e w1 ⟨rfl, hbw1⟩; (try clear hc hf); obtain ⟨hBw1, hc, hf⟩ := EC4 w1 w)
  | (go_at_call 206; (with_reducible refine (HP.out _ (H1.out.rep.ext EX) (H2.out.rep.ext EX)).mono ?_); rintro e w2 ⟨Aw2, nw2, cw2, lw2, Bw2, mw2, dw2, jw2, rfl, hIw2, hvw2, hnw2, hJw2, huw2, hmw2, hbw2⟩; (try clear hc hf); obtain ⟨hBw2, hc, hf⟩ := EC4 w2 w; have HVw2 := zH hvw2; have HUw2 := zH huw2; clear hvw2 huw2)
  | (go_at_call 207; (with_reducible refine (Zs (!s2) Aw2 nw2 cw2 lw2 _ (hIw2.ext EX) (by omega)).mono ?_); rintro e w3 ⟨sw3, Aw3, nw3, cw3, rfl, hIw3, hbw3⟩; (try clear hc hf); obtain ⟨hBw3, hc, hf⟩ := EC4 w3 w)
  | (go_at_call 207; (with_reducible refine (Zs false Bw2 mw2 dw2 jw2 _ (hJw2.ext EX) (by omega)).mono ?_); rintro e w4 ⟨sw4, Aw4, nw4, cw4, rfl, hIw4, hbw4⟩; (try clear hc hf); obtain ⟨hBw4, hc, hf⟩ := EC4 w4 w; have hszw4 := hBw4.size; simp only [SA] at hszw4; have hq0w4 : w.heap.size < w4.heap.size := (by omega); have hq1w4 : w.heap.size + 1 < w4.heap.size := (by omega); have hq2w4 : w.heap.size + 1 + 1 < w4.heap.size := (by omega); have hq3w4 : w.heap.size + 1 + 1 + 1 < w4.heap.size := (by omega); have hz2 : Fz w4 (w.heap.size + 1 + 1) := (Fz.alloc (Fz.new _ _ _ _ (by simp only [World.size_alloc])) _).ext hBw4; have hz3 : Fz w4 (w.heap.size + 1 + 1 + 1) := (Fz.new _ _ _ _ (by simp only [World.size_alloc])).ext hBw4; have hz4 : ((nw4 : Int) == 0) = false := (by have h1 := hIw4.zero_iff; have h2 := HR0.out; rw [HUw2.out, show ∀ a : Nat, sgd false a = (a : Int) from fun _ => rfl] at h1; simp; omega))
  | (go_at_call 253; go_loud ((with_reducible refine (Z2i (!s2) (!s2) Aw3 _ nw3 cw3 1 1 _ [1] _ (hIw3.rep.keep (by exact KPC)) (Z94 _ _ (by simp only [World.size_setCell])) (by have a1 := hIw3.wl; have a2 := H1.out.wl; have a3 := ZG (a := sgd (!s2) (val lw2)) (b := x) (by rw [Z2Z, HVw2.out]; exact HQL.out); omega) (by decide) (Zb _) Zag).mono ?_); rintro e w5 ⟨sw5, Aw5, nw5, cw5, rfl, hIw5, hbw5⟩; obtain ⟨hcw5, hfw5⟩ := hbw5.cells; (try simp only [SA, Nat.add_assoc, Nat.reduceAdd] at hcw5 hfw5); have hz2' : Fz w5 (w.heap.size + 1 + 1) := (by (repeat (first | (with_reducible assumption) | (with_reducible refine Fz.setCell ?_ _ _) | (with_reducible refine Fz.alloc ?_ _) | (with_reducible refine Fz.drew ?_) | (with_reducible refine Fz.ext ?_ (by with_reducible assumption))))); have hz3' : Fz w5 (w.heap.size + 1 + 1 + 1) := (by (repeat (first | (with_reducible assumption) | (with_reducible refine Fz.setCell ?_ _ _) | (with_reducible refine Fz.alloc ?_ _) | (with_reducible refine Fz.drew ?_) | (with_reducible refine Fz.ext ?_ (by with_reducible assumption))))); have hy2 := hz2'.2)))
 have HK5 : Za w4 w5 := by exact KPC
 have hp0 : zC w5 (w.heap.size + 1 + 1) 0 (.bool sw3) := by simp [go_sem, hc, hcw5, Z6, hq0w4, hq1w4, hq2w4, hq3w4]
 have hp1 : zC w5 (w.heap.size + 1 + 1) 1 (.slice Aw3 nw3 cw3) := by simp [go_sem, hc, hcw5, Z6, hq0w4, hq1w4, hq2w4, hq3w4]
 have hr0 : zC w5 (w.heap.size + 1 + 1 + 1) 0 (.bool sw4) := by simp [go_sem, hc, hcw5, Z6, hq0w4, hq1w4, hq2w4, hq3w4]
 have hr1 : zC w5 (w.heap.size + 1 + 1 + 1) 1 (.slice Aw4 nw4 cw4) := by simp [go_sem, hc, hcw5, Z6, hq0w4, hq1w4, hq2w4, hq3w4]
 refine Z1B 6 (fun w' => w'.cell? ⟨w.heap.size + 1, 0, none⟩ = some (.bool s2) ∧ w'.cell? ⟨w.heap.size + 1, 1, none⟩ = some (.slice A2 n2 c2) ∧ w'.cell? ⟨w.heap.size + 1 + 1, 0, none⟩ = some (.bool sw5) ∧ w'.cell? ⟨w.heap.size + 1 + 1, 1, none⟩ = some (.slice Aw5 nw5 cw5) ∧ w'.cell? ⟨w.heap.size + 1 + 1 + 1, 0, none⟩ = some (.bool sw4) ∧ w'.cell? ⟨w.heap.size + 1 + 1 + 1, 1, none⟩ = some (.slice Aw4 nw4 cw4)) Z0a (by simp [go_sem, hc, hcw5, Z6, hq0w4, hq1w4, hq2w4, hq3w4]) fun hHeld => ?_
 refine TU 0 ?_; refine TU 1 ?_; refine TU 3 ?_
 obtain ⟨q0, q1, q2, q3, q4, q5⟩ := hHeld
 refine R1U 2 fun K hK => ?_
 go_simp
 refine (Z41 s2 A2 n2 c2 y _ (H2.out.ext EX) hs2').mono ?_; rintro e w6 ⟨sw6, Aw6, nw6, cw6, rfl, hIw6, hbw6⟩; have hxl := hbw6; have hr2 : zC w6 (w.heap.size + 1 + 1 + 1) 0 (.bool sw4) := hbw6.cell (by simp [go_sem, hr0]); have hr3 : zC w6 (w.heap.size + 1 + 1 + 1) 1 (.slice Aw4 nw4 cw4) := hbw6.cell (by simp [go_sem, hr1])
 refine KU hK (fun hHeld => ?_) ⟨hxl.cell q0, hxl.cell q1, hxl.cell q2, hxl.cell q3, hxl.cell q4, hxl.cell q5⟩; clear hK K q0 q1 q2 q3 q4 q5
 obtain ⟨q0, q1, q2, q3, q4, q5⟩ := hHeld
 refine R1U 4 fun K hK => ?_
 go_simp
 refine (Z9N sw6 sw4 Aw6 Aw4 nw6 cw6 nw4 cw4 _ _ _ hIw6 (hIw4.keep (by have kf := And.intro hcw5 (And.intro hq0w4 (And.intro hq1w4 (And.intro hq2w4 hq3w4))); exact KPD)) (by have a1 := hIw6.wl; have a2 := H2.out.wl; have a3 := ZG (a := ((y.natAbs : Nat) : Int)) (b := y) (by simp); omega) (by have a1 := hIw4.wl; have a2 := H2.out.wl; have a3 := ZG (a := sgd false (val jw2)) (b := y) (by rw [Z2Z, HUw2.out]; exact HRL.out); omega)).mono ?_; rintro e w7 ⟨sw7, Aw7, nw7, cw7, rfl, hIw7, hbw7⟩; have hxl := hbw7; have hz2'' : Fz w7 (w.heap.size + 1 + 1) := (by (repeat (first | (with_reducible assumption) | (with_reducible refine Fz.setCell ?_ _ _) | (with_reducible refine Fz.alloc ?_ _) | (with_reducible refine Fz.drew ?_) | (with_reducible refine Fz.ext ?_ (by with_reducible assumption))))); have hz3'' : Fz w7 (w.heap.size + 1 + 1 + 1) := (by (repeat (first | (with_reducible assumption) | (with_reducible refine Fz.setCell ?_ _ _) | (with_reducible refine Fz.alloc ?_ _) | (with_reducible refine Fz.drew ?_) | (with_reducible refine Fz.ext ?_ (by with_reducible assumption))))); have hx2 := hz2''.2; have hx3 := hz3''.2; have hr4 := hbw7.cell hr2; have hr5 := hbw7.cell hr3; have hs4 := hbw7.cell q2; have hs5 := hbw7.cell q3
 refine KU hK (fun hHeld => ?_) ⟨hxl.cell q0, hxl.cell q1, hxl.cell q2, hxl.cell q3, hxl.cell q4, hxl.cell q5⟩; clear hK K q0 q1 q2 q3 q4 q5
 obtain ⟨q0, q1, q2, q3, q4, q5⟩ := hHeld
 refine R1U 5 fun K hK => ?_
 go_simp
 refine KU hK (fun hHeld => ?_) (by simp [go_sem, q0, q1, q2, q3, q4, q5]); clear hK K
 refine RDU [6] (ARL fun K hK => ?_)
 go_simp
 refine KUL hK ?_; clear hK K
 refine RDU [7] (ARP fun K hK => ?_)
 go_simp
 refine KOP hK ?_; clear hK K
 (try simp only [LY])
 refine Z0d.done (by kernel_rfl) ?_ _
 dsimp only [ZW]
 clear hHeld q0 q1 q2 q3 q4 q5
 all_goals go_wp2
 all_goals rw [Z4E, Z9, Z2Z, HVw2.out, Z0g, ← HD.out.1] at hIw5
 all_goals rw [HUw2.out] at hIw7
 all_goals have hE : x % y = ((y.natAbs : Nat) : Int) - sgd false R := (by rw [HD.out.2, Z9]; rfl)
 all_goals rw [← hE] at hIw7
 all_goals refine bodyPost_ret (v := .tuple #[.agg #[.bool sw5, .slice Aw5 nw5 cw5], .agg #[.bool sw7, .slice Aw7 nw7 cw7], .int .i64 0]) (by simp [results, results255, go_sem, hs4, hs5, hr4, hr5, Z6]) rfl ⟨_, _, _, _, _, _, _, _, rfl, IAt.keep hIw5 (by have kf := And.intro hp0 (And.intro hp1 (And.intro hs4 (And.intro hs5 (And.intro hr4 hr5)))); exact KPE), IAt.keep hIw7 (by have kf := And.intro hs4 (And.intro hs5 (And.intro hr4 hr5)); exact KPE), EX⟩
theorem Z6b (s1 s2 : Bool) (A1 A2 : Option Addr) (n1 c1 n2 c2 : Nat) (x y : Int) (w : World) (h1 : IAt w s1 A1 n1 c1 x) (h2 : IAt w s2 A2 n2 c2 y) (hs1 : n1 + 2 < Z8) (hs2 : n2 + 2 < Z8) (hy : y ≠ 0) :
  Ca 255 #[.agg #[.bool s1, .slice A1 n1 c1], .agg #[.bool s2, .slice A2 n2 c2]] w (Z81 w (x / y) (x % y)) := by
 cases hs : s1 with
 | false => exact Z5p _ s2 A1 A2 n1 c1 n2 c2 x y w (hs ▸ h1) h2 hs1 hs2 hy rfl
 | true =>
  by_cases hr : val (Z7 x.natAbs) % val (Z7 y.natAbs) = 0
  ·exact Z6p _ s2 A1 A2 n1 c1 n2 c2 x y w (hs ▸ h1) h2 hs1 hs2 hy rfl hr
  ·exact Z6q _ s2 A1 A2 n1 c1 n2 c2 x y w (hs ▸ h1) h2 hs1 hs2 hy rfl hr
theorem Z6t {B V1 P V R T g : Nat} (hV : V1 * P ≤ V) (hV' : V < (V1 + 1) * P) (hR : T * P ≤ R) (hR' : R < (T + 1) * P) (hRV : R < B * V) (hB : 0 < B) (h1 : 0 < V1)
  (hg : g = if T / V1 ≤ B - 1 then T / V1 else B - 1) : g ≤ B - 1 ∧ g * V ≤ R + B * P ∧ R < (g + 1) * V := by
 have hgT : g ≤ T / V1 := by rw [hg]; split <;> omega
 have hgB : g ≤ B - 1 := by rw [hg]; split <;> omega
 have h2 : g * V1 ≤ T := Nat.le_trans (Nat.mul_le_mul_right _ hgT) (Nat.div_mul_le_self _ _)
 refine ⟨hgB, ?_, ?_⟩
 ·have h3 : g * V ≤ g * ((V1 + 1) * P) := Nat.mul_le_mul_left _ (by omega)
  have h4 : g * ((V1 + 1) * P) = (g * V1) * P + g * P := by rw [← Nat.mul_assoc, Nat.mul_add, Nat.mul_one, Nat.add_mul]
  have h5 : (g * V1) * P ≤ T * P := Nat.mul_le_mul_right _ h2
  have h6 : g * P ≤ B * P := Nat.mul_le_mul_right _ (by omega)
  omega
 ·by_cases h : T / V1 ≤ B - 1
  ·rw [if_pos h] at hg
   have h7 : T + 1 ≤ (g + 1) * V1 := by
    have := Nat.lt_div_mul_add (a := T) h1
    rw [hg, Nat.add_mul, Nat.one_mul]; omega
   have h8 : (T + 1) * P ≤ (g + 1) * V1 * P := Nat.mul_le_mul_right _ h7
   have h9 : (g + 1) * V1 * P ≤ (g + 1) * V := by rw [Nat.mul_assoc]; exact Nat.mul_le_mul_left _ hV
   omega
  ·rw [if_neg h] at hg
   rw [show g + 1 = B by omega]; exact hRV
structure KSt (R V N g b R' : Nat) : Prop where
 eq : R' + g * V = R + N * b
 b1 : b ≤ 1
 lt : R < (g + 1) * V
 bd : R' < N
theorem KSt.next {R V N g R' R'' c : Nat} (h : KSt R V N g 1 R') (he : R'' + N * c = R' + V) (hb : R'' < N) (hc : c ≤ 1) : 0 < g ∧ KSt R V N (g - 1) (1 - c) R'' := by
 have e := h.eq
 have b := h.bd
 rw [Nat.mul_one] at e
 have hg : 0 < g := by
  rcases Nat.eq_zero_or_pos g with k | k
  ·subst k; rw [Nat.zero_mul] at e; omega
  ·exact k
 obtain ⟨j, rfl⟩ : ∃ j, g = j + 1 := ⟨g - 1, by omega⟩
 rw [Nat.add_sub_cancel]
 have e3 : (j + 1) * V = j * V + V := by rw [Nat.add_mul, Nat.one_mul]
 rw [e3] at e
 refine ⟨hg, ?_, by omega, by rw [e3]; omega, hb⟩
 have : c = 0 ∨ c = 1 := by omega
 rcases this with k | k
 ·subst k; rw [Nat.mul_zero] at he; rw [Nat.sub_zero, Nat.mul_one]; omega
 ·subst k; rw [Nat.mul_one] at he; rw [Nat.sub_self, Nat.mul_zero]; omega
theorem KSt.done {R V N g R' : Nat} (h : KSt R V N g 0 R') : R' + g * V = R ∧ R' < V := by
 have e := h.eq
 have l := h.lt
 rw [Nat.mul_zero] at e
 rw [Nat.add_mul, Nat.one_mul] at l
 omega
theorem Z3L.step' {v r0 r : List Nat} {q j c b : Nat} (h : Z3L v r0 q j c b r) (hq : q < 4294967296) (hv : WOk v) (hj : j < v.length) (hl : j < r.length) :
  Z3L v r0 q (j + 1) ((q * v.getD j 0 + c) / 4294967296) (Z3h (r.getD j 0) (q * v.getD j 0 + c) b) (r.set j (Z2l (r.getD j 0) (q * v.getD j 0 + c) b)) := by
 have hy := Zd hv j
 have ho := Zd h.ok j
 have hb := Z34 hq hy (o := 0) (c := c) (by decide) h.car
 refine ⟨by rw [List.length_set, h.len], h.ok.set _ _ (Nat.mod_lt _ (by decide)), (Nat.div_lt_iff_lt_mul (by decide)).2 (by simpa using hb), by unfold Z3h; split <;> simp, ?_, ?_⟩
 ·rw [ZL _ _ _ hl, Zi v j hj, Zi r0 j (by rw [← h.len]; omega), ← Z0P h.rest j (Nat.le_refl _), Nat.pow_succ]
  exact Z7Y (B32 ^ j) B32 _ c b _ _ _ _ _ _ _ _ (Z56 _ _ _ ho h.bor) h.eq
 ·rw [ZJ]
  have := congrArg (List.drop 1) h.rest
  simpa [List.drop_drop] using this
theorem Z3M.step' {v r0 r : List Nat} {j c : Nat} (h : Z3M v r0 j c r) (hv : WOk v) (hj : j < v.length) (hl : j < r.length) :
  Z3M v r0 (j + 1) ((r.getD j 0 + v.getD j 0 + c) / 4294967296) (r.set j ((r.getD j 0 + v.getD j 0 + c) % 4294967296)) := by
 have hy := Zd hv j
 have ho := Zd h.ok j
 have hc := h.car
 refine ⟨by rw [List.length_set, h.len], h.ok.set _ _ (Nat.mod_lt _ (by decide)), by simp only [B32] at *; omega, ?_, ?_⟩
 ·rw [ZL _ _ _ hl, Zi v j hj, Zi r0 j (by rw [← h.len]; omega), ← Z0P h.rest j (Nat.le_refl _), Nat.pow_succ]
  exact Z5f (B32 ^ j) B32 _ _ _ c _ _ _ _ (Nat.mod_add_div _ 4294967296) h.eq
 ·rw [ZJ]
  have := congrArg (List.drop 1) h.rest
  simpa [List.drop_drop] using this
theorem Z3Q (v : List Nat) : val (v ++ [0]) = val v := by rw [Zx]; simp [val]
theorem Z3k (v : List Nat) (j : Nat) : (v ++ [0]).getD j 0 = v.getD j 0 := by
 simp only [List.getD_eq_getElem?_getD]
 by_cases h : j < v.length
 ·rw [List.getElem?_append_left h]
 ·rw [List.getElem?_append_right (by omega), show v[j]? = none from List.getElem?_eq_none (by omega)]
  cases j - v.length <;> rfl
theorem WOk.snoc0 {v : List Nat} (h : WOk v) : WOk (v ++ [0]) := by
 intro x hx
 rcases List.mem_append.1 hx with e | e
 ·exact h x e
 ·simp at e; subst e; decide
theorem Z3L.whole {v r0 r : List Nat} {q c b n : Nat} (h : Z3L (v ++ [0]) r0 q (n + 1) c b r) (hv : v.length = n) (hr : r0.length = n + 1) (hc : c = 0) :
  val r + q * val v = val r0 + B32 ^ (n + 1) * b := by
 have e := h.eq
 have hl := h.len
 rw [List.take_of_length_le (by omega), List.take_of_length_le (by simp; omega), List.take_of_length_le (by omega), Z3Q, hc, Nat.zero_add] at e
 exact e
theorem Z3M.whole {v r0 r : List Nat} {c n : Nat} (h : Z3M (v ++ [0]) r0 (n + 1) c r) (hv : v.length = n) (hr : r0.length = n + 1) :
  val r + B32 ^ (n + 1) * c = val r0 + val v := by
 have e := h.eq
 have hl := h.len
 rw [List.take_of_length_le (by omega), List.take_of_length_le (by omega), List.take_of_length_le (by simp; omega), Z3Q] at e
 exact e
theorem Z84 {v : List Nat} {n : Nat} (hn : v.length = n) (h2 : 2 ≤ n) (ho : WOk v) :
  v.getD (n - 1) 0 * B32 ^ (n - 1) ≤ val v ∧ val v < (v.getD (n - 1) 0 + 1) * B32 ^ (n - 1) := by
 obtain ⟨k, rfl⟩ : ∃ k, n = k + 1 := ⟨n - 1, by omega⟩
 exact Zbg hn ho
theorem Z3e.round2 {a : Nat} {v : List Nat} {n la i : Nat} {ρ κ : List Nat} (h : Z3e a v n la (i + 1) ρ κ) (hn : v.length = n) (hv : WOk v) (h2 : 2 ≤ n) (hi : i + n ≤ la) (htop : 0 < v.getD (n - 1) 0) :
  ∃ p r s, ρ = p ++ r ++ s ∧ p.length = i ∧ r.length = n + 1 ∧ WOk r ∧ r.getD n 0 ≤ v.getD (n - 1) 0 ∧
   ∀ g, (g = if (r.getD n 0 * B32 + r.getD (n - 1) 0) / v.getD (n - 1) 0 ≤ B32 - 1 then (r.getD n 0 * B32 + r.getD (n - 1) 0) / v.getD (n - 1) 0 else B32 - 1) →
    g ≤ B32 - 1 ∧ g * val v ≤ val r + B32 ^ n ∧ val r < (g + 1) * val v ∧
    (∀ g' r', g' ≤ g → r'.length = r.length → WOk r' → val r' + g' * val v = val r → val r' < val v → Z3e a v n la i (p ++ r' ++ s) (κ.set i g')) := by
 obtain ⟨p, r, s, rfl, hp, hr, hro, hs, hlt, hle⟩ := h.parts hn hv h2 hi
 refine ⟨p, r, s, rfl, hp, hr, hro, hle, fun g hg => ?_⟩
 have t1 := Z84 hn h2 hv
 have t2 := Zd4 (n := n + 1) hr (by omega) hro
 rw [show n + 1 - 1 = n by omega, show n + 1 - 2 = n - 1 by omega] at t2
 have hG := Z6t t1.1 t1.2 t2.1 t2.2 hlt (by decide) htop hg
 have eP : B32 * B32 ^ (n - 1) = B32 ^ n := by
  obtain ⟨k, rfl⟩ : ∃ k, n = k + 1 := ⟨n - 1, by omega⟩
  rw [Nat.add_sub_cancel, Nat.pow_succ, Nat.mul_comm]
 rw [eP] at hG
 refine ⟨hG.1, hG.2.1, hG.2.2, fun g' r' hg' hl ho he hlt' => ?_⟩
 exact h.step hp hr hs hl ho (Nat.lt_of_le_of_lt (Nat.le_trans hg' hG.1) (by decide)) hi he hlt'
end Go.Proofs.YtnmmncccpdffaaaGreat
