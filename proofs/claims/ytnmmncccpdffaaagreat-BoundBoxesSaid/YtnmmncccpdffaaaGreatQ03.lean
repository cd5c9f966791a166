/- What BoundBoxes calls, part 3. -/
import Derived.Deep.CutRange
import Derived.Deep.DeepCutAuto
import Derived.Deep.Light
import Derived.Deep.LoopGhost
import Derived.Test.YtnmmncccpdffaaaGreatQ02
set_option linter.unusedVariables false
set_option linter.unusedSimpArgs false
set_option maxRecDepth 100000
set_option maxHeartbeats 16000000
namespace Go.Proofs.YtnmmncccpdffaaaGreat
open Go.Proofs.Tryz Go Go.RowKit Go.Shelf
theorem Z5x (A1 A2 : Option Addr) (n1 c1 n2 c2 : Nat) (l1 l2 : List Nat) (w : World) (h1 : WAt w A1 n1 c1 l1) (h2 : WAt w A2 n2 c2 l2) (hs1 : n1 ≤ Z8) (hs2 : n2 ≤ Z8) (t1 : Z0W l1) (t2 : Z0W l2) (hlt : val l1 < val l2) :
  Ca 256 #[.slice A1 n1 c1, .slice A2 n2 c2] w (Z8L w (val l1 / val l2) (val l1 % val l2)) := by
 have H1 := zH h1
 have H2 := zH h2
 have HW : Hid (WAt w A1 n1 c1 (Z7 (val l1))) := by show _; rw [Z2B h1.rep.ok t1]; exact h1
 obtain ⟨cc, hcc⟩ : ∃ x, Z1g (val l1) (val l2) = x := ⟨_, rfl⟩
 have hc0 : cc < 0 := hcc ▸ Z2K hlt
 have HC := zH hcc
 have HLT := zH hlt
 clear h1 h2 hcc hlt
 go_enter func256, ntmps256
 go_wp2_with (go_at_call 163; (with_reducible refine (Z0J A1 A2 n1 c1 n2 c2 l1 l2 _ (H1.out.ext EX) (H2.out.ext EX) hs1 hs2 t1 t2).mono ?_); rw [HC.out]; rintro e w1 ⟨rfl, hbw1⟩; (try clear hc hf); obtain ⟨hBw1, hc, hf⟩ := EC w1 (w))
 go_ret2
 refine ⟨none, 0, 0, A1, n1, c1, rfl, ?_, ?_, EX⟩
 ·rw [Nat.div_eq_of_lt HLT.out, Zp]; exact ⟨rfl, LR.nil _ _ _⟩
 ·rw [Nat.mod_eq_of_lt HLT.out]; exact HW.out.ext EX
theorem Z6v (A1 A2 : Option Addr) (n1 c1 n2 c2 : Nat) (l1 l2 : List Nat) (w : World) (h1 : WAt w A1 n1 c1 l1) (h2 : WAt w A2 n2 c2 l2) (hs1 : n1 ≤ Z8) (hs2 : n2 = 1) (t1 : Z0W l1) (t2 : Z0W l2) (hlt : val l2 ≤ val l1) (h0 : val l2 ≠ 0) :
  Ca 256 #[.slice A1 n1 c1, .slice A2 n2 c2] w (Z8L w (val l1 / val l2) (val l1 % val l2)) := by
 obtain ⟨d, hd⟩ : ∃ d, l2 = [d] := List.length_eq_one_iff.1 (by rw [← h2.len]; exact hs2)
 have hdv : val l2 = d := by rw [hd]; simp [val]
 have hd32 : d < 4294967296 := h2.rep.ok d (by rw [hd]; simp)
 obtain ⟨b2, f2, hA2, hb2, hc2⟩ := h2.at (by omega)
 have g2 := hc2 0 (by omega)
 rw [hd] at g2
 simp only [List.getD_cons_zero, Nat.add_zero] at g2
 obtain ⟨cc, hcc⟩ : ∃ x, Z1g (val l1) (val l2) = x := ⟨_, rfl⟩
 have hc0 : 0 ≤ cc := hcc ▸ Z28 hlt
 have HCC := zH (fun W (k1 : WAt W A1 n1 c1 l1) (k2 : WAt W A2 n2 c2 l2) => Z0J A1 A2 n1 c1 n2 c2 l1 l2 W k1 k2 hs1 (by unfold Z8; omega) t1 t2)
 rw [hcc] at HCC
 rw [hdv] at h0 ⊢
 have HD := zH (fun W (k1 : WAt W A1 n1 c1 l1) => Z6z A1 n1 c1 d l1 W k1 hs1 (by omega) hd32)
 have H1 := zH h1
 have H2 := zH h2
 have q1 : ((n2 : Int) == 1) = true := by simp; omega
 have r2 : 0 < n2 := by omega
 subst hA2
 clear h1 h2 hc2 hcc hlt hd hdv h0 hs2
 go_enter func256, ntmps256
 go_wp2_with (
  first
  | (go_at_call 163; (with_reducible refine (HCC.out _ (H1.out.ext EX) (H2.out.ext EX)).mono ?_); rintro e w1 ⟨rfl, hbw1⟩; (try clear hc hf); obtain ⟨hBw1, hc, hf⟩ := EC w1 (w))
  | (go_at_call 276; (with_reducible refine (HD.out _ (H1.out.ext EX)).mono ?_); rintro e w2 ⟨A3, n3, c3, A4, n4, c4, rfl, hW3, hW4, hb3⟩; have HW3 := zH hW3; have HW4 := zH hW4; clear hW3 hW4))
 go_ret2
 exact ⟨_, _, _, _, _, _, rfl, HW3.out, HW4.out, EX⟩
theorem Zad (W : World) (g : Nat) (hg : W.heap.size = g) : ∀ j, j < 2 → (W.alloc (.cells #[.int .u32 0, .int .u32 0] 131)).cell? ⟨g, 0 + j, none⟩ = some (.int .u32 (([0, 0].getD j 0 : Nat) : Int)) := by
 intro j hj
 subst hg
 have := (Blk.new W [0, 0]).cell j (by simpa using hj)
 rw [Nat.zero_add]; exact this
theorem Z5w (A1 A2 : Option Addr) (n1 c1 k c2 : Nat) (l1 l2 : List Nat) (w : World) (h1 : WAt w A1 n1 c1 l1) (h2 : WAt w A2 (k + 2) c2 l2) (hs1 : n1 + 4 ≤ Z8) (t1 : Z0W l1) (t2 : Z0W l2) (hlt : val l2 ≤ val l1) :
  Ca 256 #[.slice A1 n1 c1, .slice A2 (k + 2) c2] w (Z8L w (val l1 / val l2) (val l1 % val l2)) := by
 have hkn : k + 2 ≤ n1 := by
  have := Z4A t2 h1.rep.ok hlt
  rw [← h1.len, ← h2.len] at this; omega
 obtain ⟨cc, hcc⟩ : ∃ x, Z1g (val l1) (val l2) = x := ⟨_, rfl⟩
 have hc0 : 0 ≤ cc := hcc ▸ Z28 hlt
 have HCC := zH (fun W (k1 : WAt W A1 n1 c1 l1) (k2 : WAt W A2 (k + 2) c2 l2) => Z0J A1 A2 n1 c1 (k + 2) c2 l1 l2 W k1 k2 (by unfold Z8 at *; omega) (by unfold Z8 at *; omega) t1 t2)
 rw [hcc] at HCC
 obtain ⟨t, ht⟩ : ∃ t, l2.getD (k + 1) 0 = t := ⟨_, rfl⟩
 have ht32 : t < 4294967296 := ht ▸ Zd h2.rep.ok _
 have ht0 : t ≠ 0 := by
  rcases t2 with e | e
  ·exact absurd h2.len (by rw [e]; simp)
  ·rw [← h2.len] at e; rw [← ht]; exact e
 obtain ⟨s, hs32, hsz, hsl, hsh⟩ := Z4I t ht0 ht32
 rw [Z5W t ht32] at hsz
 have hnb := Z8T (k := k + 1) h2.len.symm h2.rep.ok t2
 rw [ht] at hnb
 have HBO := zH (fun W (k2 : WAt W A2 (k + 2) c2 l2) => Z3s A2 (k + 2) c2 l2 W k2 (by unfold Z8 at *; omega) t2)
 obtain ⟨nv, hnv⟩ : ∃ x, nb (val l2) = x := ⟨_, rfl⟩
 rw [hnv] at HBO hnb
 have hsE : 32 * ((k : Int) + 2) - (nv : Int) = (s : Int) := by omega
 have HS1 := zH (fun W (k1 : WAt W A1 n1 c1 l1) => Z4w A1 n1 c1 s l1 W k1 (by unfold Z8 at *; omega) hs32)
 have HS2 := zH (fun W (k1 : WAt W A2 (k + 2) c2 l2) => Z5E A2 (k + 2) c2 s l2 W k1 (by unfold Z8 at *; omega) hs32)
 -- the divisor
 obtain ⟨v, hv⟩ : ∃ v, Z7 (val l2 * 2 ^ s) = v := ⟨_, rfl⟩
 have htb := Zbg h2.len.symm h2.rep.ok
 rw [ht] at htb
 have hvl : v.length = k + 2 := by
  rw [← hv]
  refine Z3p (k := k + 1) ?_ ?_
  ·exact Nat.le_trans (Nat.le_trans (Nat.le_mul_of_pos_left _ (Nat.pos_of_ne_zero ht0)) htb.1) (Nat.le_mul_of_pos_right _ (Nat.pow_pos (by decide)))
  ·exact Nat.lt_of_lt_of_eq (Zb2 htb.2 (Nat.pow_pos (by decide)) hsh rfl) (by rw [Nat.pow_succ B32 (k + 1), Nat.mul_comm])
 have hvo : WOk v := hv ▸ Z0f _
 have hvv : val v = val l2 * 2 ^ s := by rw [← hv]; exact Z9 _
 have hvt : v.getD (k + 1) 0 ≠ 0 := by
  have := Zb (val l2 * 2 ^ s)
  rw [hv] at this
  rcases this with e | e
  ·rw [e] at hvl; simp at hvl
  ·rw [hvl] at e; exact e
 rw [hv] at HS2
 -- the number
 obtain ⟨u, hu⟩ : ∃ u, Z7 (val l1 * 2 ^ s) = u := ⟨_, rfl⟩
 have huo : WOk u := hu ▸ Z0f _
 have huv : val u = val l1 * 2 ^ s := by rw [← hu]; exact Z9 _
 have hul : k + 2 ≤ u.length := by
  rw [← hu, ← hvl, ← hv]; exact Z3A (Nat.mul_le_mul_right _ hlt)
 have hul2 : u.length ≤ n1 + 1 := by
  rw [← hu]
  refine Z4m ?_
  rw [Nat.pow_succ]
  exact Nat.mul_lt_mul'' (by rw [h1.len]; exact Z08 h1.rep.ok) (Nat.lt_of_lt_of_le (Nat.pow_lt_pow_right (by decide) hs32) (by decide))
 rw [hu] at HS1
 obtain ⟨lu, hlu⟩ : ∃ x, u.length = x := ⟨_, rfl⟩
 rw [hlu] at hul hul2
 obtain ⟨ρ0, hρ0⟩ : ∃ x, u ++ [0, 0] = x := ⟨_, rfl⟩
 have hρl : ρ0.length = lu + 2 := by rw [← hρ0, ← hlu]; simp
 have hρv : val ρ0 = val l1 * 2 ^ s := by rw [← hρ0, Zx, huv]; simp [val]
 have hdrop : val (ρ0.drop (lu + 1 - (k + 2) + 1)) < val v := by
  have e : ρ0.drop (lu + 1 - (k + 2) + 1) = u.drop (lu - k) ++ [0, 0] := by
   rw [← hρ0, show lu + 1 - (k + 2) + 1 = lu - k by omega, List.drop_append_of_le_length (by omega)]
  rw [e, Zx, show val [0, 0] = 0 by simp [val], Nat.mul_zero, Nat.add_zero]
  have h3 := Z08 (huo.drop (lu - k))
  rw [List.length_drop, hlu, show lu - (lu - k) = k by omega] at h3
  have h4 := Z16 (l := v) (.inr (by rw [hvl]; exact hvt)) (by omega)
  rw [hvl] at h4
  exact Nat.lt_of_lt_of_le h3 (Nat.le_trans (Z2J (by omega)) h4)
 have HDROP := zH hdrop
 have HRV := zH hρv
 have HVV := zH hvv
 have HVL := zH hvl
 have HVO := zH hvo
 have HVT := zH hvt
 have HRL := zH hρl
 have HR0 := zH hρ0
 have HLU := zH hlu
 have H1 := zH h1
 have H2 := zH h2
 have hmk := Z1f ((lu : Int) + 2 - ((k : Int) + 2)) (lu - k) (by omega) (by unfold Z8 at hs1; omega)
 have hkI : (k : Int) ≤ 4294967290 := by unfold Z8 at *; omega
 have hluI : (lu : Int) ≤ 4294967293 := by unfold Z8 at *; omega
 have hs1' : n1 ≤ Z8 := by omega
 clear h1 h2 hcc hlt hsz hsl hsh ht t1 t2 hnb hnv htb hdrop hρv hvv hvl hvo hvt hρ0 hlu hρl hv hu hul2 huv
 go_enter func256, ntmps256
 go_wp2_with (
  first
  | (go_at_call 163; (with_reducible refine (HCC.out _ (H1.out.ext EX) (H2.out.ext EX)).mono ?_); rintro e w1 ⟨rfl, hbw1⟩; (try clear hc hf); obtain ⟨hBw1, hc, hf⟩ := EC w1 (w))
  | (go_at_call 180; (with_reducible refine (HBO.out _ (H2.out.ext EX)).mono ?_); rintro e w2 ⟨rfl, rfl⟩)
  | (go_at_call 277; (with_reducible refine (HS2.out _ (H2.out.ext EX)).mono ?_); rintro e w3 ⟨A3, n3, c3, rfl, hW3, hb3⟩; have hn3 : n3 = k + 2 := (by rw [hW3.len, HVL.out]); subst hn3; have HW3 := zH hW3; have hx3 : Ext w w3 := EX; clear hW3)
  | (go_at_call 277; (with_reducible refine (HS1.out _ (H1.out.ext EX)).mono ?_); rintro e w4 ⟨A4, n4, c4, rfl, hO4, hb4⟩; have hn4 : lu = n4 := (by rw [hO4.len, HLU.out]); subst hn4; have HO4 := zH hO4; have hx4 : Ext w w4 := EX; clear hO4)
  | ((with_reducible refine (id ?_ : wpList _ _ _ [⟨some 48, _, _, _, _, _⟩, _] _ _)); go_loud (refine Z0j rfl (.tmp 46) (.tmp 47) rfl w3.heap.size _ _ _ _ (HO4.out.ext EX) rfl w4.heap.size 0 2 2 [0, 0] rfl rfl (Zad _ _ rfl) (by intro z hz; simp at hz; subst hz; decide) (by unfold Z8 at *; omega) (by rw [World.size_alloc]; exact Nat.le_succ_of_le hb4.size) ?_); intro A5 c5 w5 hO5 hB5; have HO5 := zH hO5; have hx5 : Ext w3 w5 := Ext.own EX hB5 (Nat.le_refl _); clear hO5))
 have hO5 := HO5.out
 rw [HR0.out] at hO5
 obtain ⟨g5, e5, hg5, hR5⟩ := hO5.row' (by omega)
 subst e5
 obtain ⟨b3, f3, e3, hb3l, hc3⟩ := HW3.out.at (by omega)
 subst e3
 obtain ⟨v1, hv1⟩ : ∃ x, v.getD (k + 1) 0 = x := ⟨_, rfl⟩
 have HC3 := zH (hc3 (k + 1) (by omega))
 have hv1b := Zd HVO.out (k + 1)
 have hv10 := HVT.out
 rw [hv1] at HC3 hv1b hv10
 obtain ⟨gq, hgq⟩ : ∃ g, w5.heap.size = g := ⟨_, rfl⟩
 have hZ : Blk (w5.alloc (ZZ (List.replicate (lu - k) 0))) gq (List.replicate (lu - k) 0) := hgq ▸ Blk.new w5 _
 have hZ5 : Row (w5.alloc (ZZ (List.replicate (lu - k) 0))) g5 (lu + 2) c5 ρ0 := hR5.ext ((Ext.refl w5).alloc _)
 have h5q : g5 < gq := hgq ▸ hR5.lt
 have hP0 := Z3e.start (la := lu + 1) (v := v) HRL.out HVL.out hZ5.ok HVO.out (by omega) (by omega) HDROP.out
 rw [show lu + 1 - (k + 2) + 1 = lu - k by omega] at hP0
 have ZX : Ext w3 (w5.alloc (ZZ (List.replicate (lu - k) 0))) := hx5.alloc _
 have h3q : w3.heap.size ≤ gq := hgq ▸ hx5.size
 rw [hgq]
 generalize (w5.alloc (ZZ (List.replicate (lu - k) 0))) = w6 at *
 have HP0 := zH hP0
 have HZ := zH hZ
 have HZ5 := zH hZ5
 have HZX := zH ZX
 have HV1 := zH hv1
 simp only [B32] at hv1b
 clear hP0 hZ hZ5 ZX hO5 HO5 hR5 hc3 HS1 HS2 HBO HCC hmk hx4 hx5 hgq hB5 hb4 hv1 HDROP
 go_loopw [9] (fun iv wr => ∃ (m : Nat) (ρ κ : List Nat), m ≤ lu - k ∧ iv = .int .i64 ((m : Int) - 1) ∧ Row wr g5 (lu + 2) c5 ρ ∧ Blk wr gq κ ∧ Z3e (val ρ0) v (k + 2) (lu + 1) m ρ κ ∧ Ext w3 wr) (fun iv _ => (intOf iv + 1).toNat)
 case atStart => exact ⟨lu - k, ρ0, _, Nat.le_refl _, congrArg (Value.int .i64) (by omega), HZ5.out, HZ.out, HP0.out, HZX.out⟩
 case round =>
  clear HP0 HZ HZ5 HZX
  obtain ⟨m, ρ, κ, hm, rfl, hRw, hBq, hI, hx⟩ := hrel
  rcases m with _ | i
  ·have hA := hI.all
   have hκl := hI.klen
   have hq := hBq.wat hI.kok (lu - k) (lu - k) (by omega) (Nat.le_refl _)
   have hr := hRw.wat
   have HA := zH hA
   have HQ := zH hq
   have HRR := zH hr
   have ei : (((0 : Nat) : Int) - 1) = -1 := rfl
   rw [ei]
   clear hA hκl hq hr hRw hBq hI
   go_wp2_with (
    first
    | (go_at_call 224; (with_reducible refine (Z05 _ _ _ _ _ HQ.out (by unfold Z8; omega)).mono ?_); rintro e wa ⟨A6, n6, c6, rfl, hW6, rfl⟩; have HW6 := zH hW6; clear hW6)
    | (go_at_call 224; (with_reducible refine (Z05 _ _ _ _ _ HRR.out (by unfold Z8; omega)).mono ?_); rintro e wb ⟨A7, n7, c7, rfl, hW7, rfl⟩; have hn7 : n7 ≤ lu + 2 := (by rw [hW7.len, HRR.out.len]; exact Z4m (Z08 HRR.out.rep.ok)); have HW7 := zH hW7; clear hW7)
    | (go_at_call 278; (with_reducible refine (Z4g A7 n7 c7 s _ _ HW7.out (by unfold Z8; omega) hs32).mono ?_); rintro e wd ⟨A8, n8, c8, rfl, hW8, hb8⟩; have HW8 := zH hW8; clear hW8))
   go_ret2
   obtain ⟨a1, a2⟩ := HA.out
   have hs0 : 0 < 2 ^ s := Nat.pow_pos (by decide)
   rw [HVV.out, HRV.out, Nat.mul_div_mul_right _ _ hs0] at a1
   rw [HVV.out, HRV.out, Nat.mul_mod_mul_right] at a2
   have h6 := HW6.out
   have h8 := HW8.out
   rw [show Z7 (val κ) = Z7 (val l1 / val l2) by rw [a1]] at h6
   rw [show Z7 (val (Z7 (val ρ)) / 2 ^ s) = Z7 (val l1 % val l2) by rw [Z9, a2, Nat.mul_div_cancel _ hs0]] at h8
   exact ⟨_, _, _, _, _, _, rfl, h6.ext hb8, h8, (hx3.trans hx).trans hb8⟩
  ·have ei : (((i + 1 : Nat) : Int) - 1) = (i : Int) := by omega
   rw [ei]
   have hκl := hI.klen
   obtain ⟨p, r, t0, rfl, hp, hr, hro, hle, hround⟩ := hI.round2 HVL.out HVO.out (by omega) (by omega) (by rw [show k + 2 - 1 = k + 1 by omega, HV1.out]; omega)
   rw [show k + 2 - 1 = k + 1 by omega, HV1.out] at hle hround
   have e1 := hRw.cell (i + (k + 1)) (by omega)
   have e2 := hRw.cell (i + (k + 2)) (by omega)
   rw [Z1S p r t0 i _ hp (by omega)] at e1 e2
   have x1 := Zd hro (k + 1)
   have x2 := Zd hro (k + 2)
   obtain ⟨u1, hu1⟩ : ∃ u, r.getD (k + 1) 0 = u := ⟨_, rfl⟩
   obtain ⟨u2, hu2⟩ : ∃ u, r.getD (k + 2) 0 = u := ⟨_, rfl⟩
   rw [hu1] at e1 x1 hround
   rw [hu2] at e2 x2 hle hround
   simp only [B32] at x1 x2
   have c3 := hx.cell HC3.out
   obtain ⟨j2, hj2⟩ : ∃ j, i + (k + 2) = j := ⟨_, rfl⟩
   obtain ⟨j1, hj1⟩ : ∃ j, i + (k + 1) = j := ⟨_, rfl⟩
   rw [hj1] at e1
   rw [hj2] at e2
   have hwI : IntKind.i64.wrap ((i : Int) + ((k : Int) + 2)) = (j2 : Int) := by rw [IntWalk.i64_left]; unfold wrap64; omega
   have hwI1 : IntKind.i64.wrap ((j2 : Int) - 1) = (j1 : Int) := by rw [IntWalk.i64_left]; unfold wrap64; omega
   have hmI : (j2 : Int) < (lu : Int) + 2 := by omega
   have hmI1 : (j1 : Int) < (lu : Int) + 2 := by omega
   have hor := Z4d u1 u2 x1 x2
   obtain ⟨G, hG⟩ : ∃ G, (u2 * 4294967296 + u1) / v1 = G := ⟨_, rfl⟩
   have hGI : ((u2 : Int) * 4294967296 + (u1 : Int)) / (v1 : Int) = (G : Int) := by rw [← hG, Int.natCast_ediv, Int.natCast_add, Int.natCast_mul]; rfl
   have hvz : ((v1 : Int) == 0) = false := by simp; omega
   have hv1p : 0 < (v1 : Int) := by omega
   have hG64 : (G : Int) ≤ 18446744073709551615 := by
    have h1 := Nat.div_le_self (u2 * 4294967296 + u1) v1
    rw [hG] at h1; omega
   have hG0 : (0 : Int) ≤ (G : Int) := by omega
   have HRD := zH (fun g => hround g)
   have HROW := zH hRw
   have HBq := zH hBq
   have HI := zH hI
   have HX := zH hx
   have HP := zH hp
   have HR := zH hr
   have HRO := zH hro
   have HG := zH hG
   clear hround hRw hBq hI hx hp hr hro hG hu1 hu2 hle hj1 hj2 ei
   go_wp2_with fail
   go_region
   go_upto_if 91 with (fail)
   go_cut [11] from 61 to 167 (fun s11 wx => (∃ g : Nat, s11 = .int .u64 (g : Int) ∧ g = (if G ≤ 4294967295 then G else 4294967295)) ∧ wx = wr.drew)
   case first =>
    go_wp2_with fail
    all_goals go_meet
    case rel => exact ⟨⟨4294967295, rfl, by split <;> omega⟩, rfl⟩
    case rel => exact ⟨⟨G, by rw [hGI], by split <;> omega⟩, rfl⟩
   case rest =>
    obtain ⟨⟨g, rfl, hg⟩, rfl⟩ := hcut
    obtain ⟨hg32, hgV, hgR, hstep⟩ := HRD.out g (by rw [hg, ← HG.out]; rfl)
    have hrow := HROW.out.drew
    have hbq := HBq.out.drew
    have hxd := HX.out.drew
    have hiI : (i : Int) ≤ 4294967293 := by omega
    have hgb : g < 4294967296 := by simp only [B32] at hg32; omega
    have HST := zH hstep
    have HGR := zH hgR
    have HRW := zH hrow
    have HBQ := zH hbq
    have HXD := zH hxd
    have HTS := zH (Z3L.start (v := v ++ [0]) g HRO.out)
    clear hstep hgR hrow hbq hxd hg hgV HRD HG HROW HBq HX hwI hwI1 hmI hmI1 hor hGI hG64 hG0 e1 e2 c3 hg32 HI
    go_wp2_with fail
    go_loopw [14, 12, 13] (fun jv cv bv wq => ∃ (j c b : Nat) (o : List Nat), j ≤ k + 3 ∧ jv = .int .i64 (j : Int) ∧ cv = .int .u64 (c : Int) ∧ bv = .int .u64 (b : Int) ∧ Row wq g5 (lu + 2) c5 (p ++ o ++ t0) ∧ Blk wq gq κ ∧ Z3L (v ++ [0]) r g j c b o ∧ (j = k + 3 → c = 0) ∧ Ext w3 wq) (fun jv _ _ _ => k + 3 - (intOf jv).toNat)
    case atStart => exact ⟨0, 0, 0, r, by omega, rfl, rfl, rfl, HRW.out, HBQ.out, HTS.out, fun h => by omega, HXD.out⟩
    case round =>
     clear HRW HBQ HTS HXD
     obtain ⟨j, c, b, o, hj, rfl, rfl, rfl, hRw, hBq, hT, hcz, hx⟩ := hrel
     by_cases hlt : j < k + 3
     ·have hol : o.length = k + 3 := by rw [hT.len, HR.out]
      have e0 := hRw.cell (i + j) (by have := hRw.len; simp at this; have := HP.out; omega)
      have e1 := hRw.frozen (i + j)
      rw [Z1S p o t0 i j HP.out (by omega)] at e0
      have hW := ZS _ _ _ j _ _ (HW3.out.ext hx) (by unfold Z8; omega)
      have pv := Zd HVO.out j
      have po := Zd hT.ok j
      have hS := hT.step' hgb HVO.out.snoc0 (by simp [HVL.out]; omega) (by omega)
      rw [Z3k] at hS
      have hcar := hT.car
      have hbor := hT.bor
      have hlast : j + 1 = k + 3 → (g * v.getD j 0 + c) / 4294967296 = 0 := fun e => by
       rw [Z7e (l := v) (by rw [HVL.out]; omega), Nat.mul_zero, Nat.zero_add]
       exact Nat.div_eq_of_lt hcar
      obtain ⟨y, hy⟩ : ∃ y, v.getD j 0 = y := ⟨_, rfl⟩
      obtain ⟨x, hx1⟩ : ∃ x, o.getD j 0 = x := ⟨_, rfl⟩
      rw [hy] at hW pv hS hlast
      rw [hx1] at e0 po hS
      simp only [B32] at pv po
      obtain ⟨m0, m1, m2⟩ := Z27 pv hgb (o := 0) (c := c) (by omega) hcar
      have mb := Z34 pv hgb (o := 0) (c := c) (by omega) hcar
      rw [Nat.add_zero, Nat.mul_comm y g] at mb
      obtain ⟨P, hP⟩ : ∃ P, g * y + c = P := ⟨_, rfl⟩
      rw [hP] at hS hlast mb
      have eP : (y : Int) * (g : Int) + (c : Int) = (P : Int) := by rw [← hP, Int.natCast_add, Int.natCast_mul, Int.mul_comm]
      have hmask := Z7X P mb
      obtain ⟨M, hM⟩ : ∃ M, P % 4294967296 = M := ⟨_, rfl⟩
      rw [hM] at hmask
      have hMI : (M : Int) ≤ 4294967295 := by omega
      have hM0 : (0 : Int) ≤ (M : Int) := by omega
      have hbI : (b : Int) ≤ 1 := by omega
      have E1 := zH (show ((x : Int) + 4294967296 - (M : Int) - (b : Int)) % 4294967296 = ((Z2l x P b : Nat) : Int) by unfold Z2l; rw [hM]; omega)
      have E2 := zH (show (1 : Int) - ((x : Int) + 4294967296 - (M : Int) - (b : Int)) / 4294967296 = ((Z3h x P b : Nat) : Int) by unfold Z3h; rw [hM]; split <;> omega)
      have hsW : Z2l x P b < 4294967296 := Nat.mod_lt _ (by decide)
      have hst := hRw.set (i + j) (Z2l x P b) hsW
      rw [Z30 p o t0 i j _ HP.out (by omega)] at hst
      have HSS := zH hS
      have HRS := zH hst
      have HBS := zH (hBq.setOther (p := ⟨g5, i + j, none⟩) (fun h => by simp only at h; omega) (.int .u32 ((Z2l x P b : Nat) : Int)))
      have HXS := zH (hx.setCell (p := ⟨g5, i + j, none⟩) (by simp only; omega) (.int .u32 ((Z2l x P b : Nat) : Int)))
      have HW := zH hW
      have HLAST := zH hlast
      have hjI : (j : Int) ≤ 4294967293 := by omega
      have hPI : (P : Int) ≤ 18446744073709551615 := by omega
      clear hRw hBq hT hcz hx hS hst hy hx1 hW hP hM hlast mb hol hsW hbor m1
      go_wp2_with (go_at_call 216; (with_reducible refine (HW.out).mono ?_); rintro e wz ⟨rfl, rfl⟩)
      rw [E1.out, E2.out]
      go_roundw
      case measure => simp [intOf]; omega
      case rel => exact ⟨j + 1, P / 4294967296, _, _, by omega, by simp, by simp, rfl, HRS.out, HBS.out, HSS.out, HLAST.out, HXS.out⟩
     ·have hj3 : j = k + 3 := by omega
      have hc0' := hcz hj3
      subst hc0'
      rw [hj3] at hT
      have hw := hT.whole HVL.out (by have := HR.out; omega) rfl
      have hol : o.length = k + 3 := by rw [hT.len, HR.out]
      have hob := Z08 hT.ok
      rw [hol] at hob
      have hK : KSt (val r) (val v) (B32 ^ (k + 3)) g b (val o) := ⟨hw, hT.bor, HGR.out, hob⟩
      have HK := zH hK
      have HOL := zH hol
      have HOO := zH hT.ok
      have HRW := zH hRw
      have HBQ := zH hBq
      have HXD := zH hx
      have hd : decide ((j : Int) ≤ (k : Int) + 2) = false := by simp; omega
      have hd2 : ¬ ((j : Int) ≤ (k : Int) + 2) := by omega
      clear hT hw hol hob hK hRw hBq hx hcz hlt hj3
      go_wp2_with fail
      go_loopw [13, 11] (fun bv gv wq => ∃ (b g' : Nat) (o : List Nat), bv = .int .u64 (b : Int) ∧ gv = .int .u64 (g' : Int) ∧ g' ≤ g ∧ b ≤ 1 ∧ Row wq g5 (lu + 2) c5 (p ++ o ++ t0) ∧ Blk wq gq κ ∧ o.length = k + 3 ∧ WOk o ∧ KSt (val r) (val v) (B32 ^ (k + 3)) g' b (val o) ∧ Ext w3 wq) (fun _ gv _ => (intOf gv).toNat)
      case atStart => exact ⟨b, g, o, rfl, rfl, Nat.le_refl _, HK.out.b1, HRW.out, HBQ.out, HOL.out, HOO.out, HK.out, HXD.out⟩
      case round =>
       clear HRW HBQ HXD HK HOL HOO
       obtain ⟨b, g', o, rfl, rfl, hg', hb1, hRw, hBq, hol, hoo, hK, hx⟩ := hrel
       by_cases hb0 : b = 0
       ·subst hb0
        obtain ⟨a1, a2⟩ := hK.done
        have hPI := HST.out g' o hg' (by rw [hol, HR.out]) hoo a1 a2
        have hg'b : g' < 4294967296 := by omega
        have e0 := hBq.cell i (by omega)
        have e1 := hBq.frozen i
        have HPI := zH hPI
        have HBS := zH (hBq.set i g')
        have HRS := zH (hRw.other (p := ⟨gq, i, none⟩) (fun h => by simp only at h; omega) (.int .u32 (g' : Int)))
        have HXS := zH (hx.setCell (p := ⟨gq, i, none⟩) (by simp only; omega) (.int .u32 (g' : Int)))
        have hilk : (i : Int) < ((lu - k : Nat) : Int) := by omega
        clear hRw hBq hx hPI a1 a2 hK hoo
        go_wp2_with fail
        go_roundw
        case measure => simp [intOf]
        case rel => exact ⟨i, _, _, by omega, rfl, HRS.out, HBS.out, HPI.out, HXS.out⟩
       ·obtain rfl : b = 1 := by omega
        have HRW := zH hRw
        have HBQ := zH hBq
        have HX := zH hx
        have HK := zH hK
        have HOL := zH hol
        have HTA := zH (Z3M.start (v := v ++ [0]) hoo)
        have hg0 : 1 ≤ g' := by
         rcases Nat.eq_zero_or_pos g' with e | e
         ·have h1 := hK.eq; have h2 := hK.bd
          rw [e, Nat.zero_mul, Nat.mul_one] at h1; omega
         ·exact e
        have hg0I : (1 : Int) ≤ (g' : Int) := by omega
        have hgI : (g' : Int) ≤ 4294967295 := by omega
        clear hRw hBq hx hK hol hoo hb0 hb1
        go_wp2_with fail
        go_loopw [17, 12] (fun jv cv wz => ∃ (j c : Nat) (o2 : List Nat), j ≤ k + 3 ∧ jv = .int .i64 (j : Int) ∧ cv = .int .u64 (c : Int) ∧ Row wz g5 (lu + 2) c5 (p ++ o2 ++ t0) ∧ Blk wz gq κ ∧ Z3M (v ++ [0]) o j c o2 ∧ Ext w3 wz) (fun jv _ _ => k + 3 - (intOf jv).toNat)
        case atStart => exact ⟨0, 0, o, by omega, rfl, rfl, HRW.out, HBQ.out, HTA.out, HX.out⟩
        case round =>
         clear HRW HBQ HX HTA hd hd2
         obtain ⟨j, c, o2, hj, rfl, rfl, hRw, hBq, hT, hx⟩ := hrel
         by_cases hlt : j < k + 3
         ·have hol2 : o2.length = k + 3 := by rw [hT.len, HOL.out]
          have e0 := hRw.cell (i + j) (by have := hRw.len; simp at this; have := HP.out; omega)
          have e1 := hRw.frozen (i + j)
          rw [Z1S p o2 t0 i j HP.out (by omega)] at e0
          have hW := ZS _ _ _ j _ _ ((HW3.out.ext hx).ext (Ext.refl _).drew) (by unfold Z8; omega)
          have pv := Zd HVO.out j
          have po := Zd hT.ok j
          have hS := hT.step' HVO.out.snoc0 (by simp [HVL.out]; omega) (by omega)
          rw [Z3k] at hS
          have hcar := hT.car
          obtain ⟨y, hy⟩ : ∃ y, v.getD j 0 = y := ⟨_, rfl⟩
          obtain ⟨x, hx1⟩ : ∃ x, o2.getD j 0 = x := ⟨_, rfl⟩
          rw [hy] at hW pv hS
          rw [hx1] at e0 po hS
          simp only [B32] at pv po
          have hst := hRw.drew.set (i + j) ((x + y + c) % 4294967296) (Nat.mod_lt _ (by decide))
          rw [Z30 p o2 t0 i j _ HP.out (by omega)] at hst
          have HSS := zH hS
          have HRS := zH hst
          have HBS := zH (hBq.drew.setOther (p := ⟨g5, i + j, none⟩) (fun h => by simp only at h; omega) (.int .u32 (((x + y + c) % 4294967296 : Nat) : Int)))
          have HXS := zH (hx.drew.setCell (p := ⟨g5, i + j, none⟩) (by simp only; omega) (.int .u32 (((x + y + c) % 4294967296 : Nat) : Int)))
          have HW := zH hW
          have hjI : (j : Int) ≤ 4294967293 := by omega
          have hcI : (c : Int) ≤ 1 := by omega
          obtain ⟨J, hJ⟩ : ∃ J, i + j = J := ⟨_, rfl⟩
          have hwJ : IntKind.i64.wrap ((i : Int) + (j : Int)) = (J : Int) := by rw [IntWalk.i64_left]; unfold wrap64; omega
          have hmJ : (J : Int) < (lu : Int) + 2 := by have := hRw.len; simp at this; have := HP.out; omega
          have eJ := e0
          rw [hJ] at eJ
          clear hRw hBq hT hx hS hst hy hx1 hW hol2 hcar hJ
          go_wp2_with fail
          go_region_held3 (fun w' => w'.cell? ⟨g5, J, none⟩ = some (.int .u32 (x : Int))) (first | assumption | simp [go_sem, eJ]) ((go_at_call 216; (with_reducible refine (HW.out).mono ?_); rintro e wz ⟨rfl, rfl⟩))
          clear hwJ hmJ eJ
          go_wp2_with fail
          go_roundw
          case measure => simp [intOf]; omega
          case rel =>
           have EW : ((x : Int) + y + c) % 4294967296 = (((x + y + c) % 4294967296 : Nat) : Int) := by omega
           (repeat apply Exists.intro)
           refine ⟨?_, rfl⟩
           exact ⟨j + 1, (x + y + c) / 4294967296, _, by omega, by simp, by simp, by rw [EW]; exact HRS.out, by rw [EW]; exact HBS.out, HSS.out, by rw [EW]; exact HXS.out⟩
         ·have hj3 : j = k + 3 := by omega
          rw [hj3] at hT
          have hw := hT.whole HVL.out (by have := HOL.out; omega)
          have hol2 : o2.length = k + 3 := by rw [hT.len, HOL.out]
          have hob := Z08 hT.ok
          rw [hol2] at hob
          obtain ⟨_, hKn⟩ := HK.out.next hw hob hT.car
          have HKN := zH hKn
          have hcI : (c : Int) ≤ 1 := by have := hT.car; omega
          have HOK := zH hT.ok
          have HRW := zH hRw
          have HBQ := zH hBq
          have HX := zH hx
          have HOL2 := zH hol2
          have hd : decide ((j : Int) ≤ (k : Int) + 2) = false := by simp; omega
          have hd2 : ¬ ((j : Int) ≤ (k : Int) + 2) := by omega
          clear hT hw hol2 hob hKn hRw hBq hx hlt hj3
          go_wp2_with fail
          go_roundw
          case measure => simp [intOf]; omega
          case rel => exact ⟨1 - c, g' - 1, o2, congrArg (Value.int .u64) (by omega), congrArg (Value.int .u64) (by omega), by omega, by omega, HRW.out, HBQ.out, HOL2.out, HOK.out, HKN.out, HX.out⟩
theorem Z1H (A1 A2 : Option Addr) (n1 c1 n2 c2 : Nat) (l1 l2 : List Nat) (w : World) (h1 : WAt w A1 n1 c1 l1) (h2 : WAt w A2 n2 c2 l2) (hs1 : n1 + 4 ≤ Z8) (hs2 : n2 + 4 ≤ Z8) (t1 : Z0W l1) (t2 : Z0W l2) (h0 : val l2 ≠ 0) :
  Ca 256 #[.slice A1 n1 c1, .slice A2 n2 c2] w (Z8L w (val l1 / val l2) (val l1 % val l2)) := by
 rcases Nat.lt_or_ge (val l1) (val l2) with hlt | hge
 ·exact Z5x A1 A2 n1 c1 n2 c2 l1 l2 w h1 h2 (by omega) (by omega) t1 t2 hlt
 ·by_cases h1' : n2 = 1
  ·exact Z6v A1 A2 n1 c1 n2 c2 l1 l2 w h1 h2 (by omega) h1' t1 t2 hge h0
  ·have hn2 : n2 ≠ 0 := by
    intro e
    have := h2.len
    rw [e] at this
    rw [List.eq_nil_of_length_eq_zero this.symm] at h0
    exact h0 rfl
   obtain ⟨k, rfl⟩ : ∃ k, n2 = k + 2 := ⟨n2 - 2, by omega⟩
   exact Z5w A1 A2 n1 c1 k c2 l1 l2 w h1 h2 hs1 t1 t2 hge
theorem Z86 {x y : Int} (hy : y ≠ 0) (h : 0 ≤ Int.tmod x y) : x / y = Int.tdiv x y ∧ x % y = Int.tmod x y := by
 refine Z2p hy ?_ h ?_
 ·rw [Int.add_comm]; exact Int.mul_tdiv_add_tmod x y
 ·have := Int.tmod_lt_of_pos x (b := (y.natAbs : Int)) (by omega)
  have e : Int.tmod x (y.natAbs : Int) = Int.tmod x y := by
   rcases Int.natAbs_eq y with e | e
   ·rw [← e]
   ·conv => rhs; rw [e, Int.tmod_neg]
  rw [e] at this; exact this
theorem Z9s {x y : Int} (hy : y ≠ 0) (h : Int.tmod x y < 0) : x % y = Int.tmod x y + (y.natAbs : Int) ∧ Int.tdiv (x - (Int.tmod x y + (y.natAbs : Int))) y = x / y := by
 have e := Int.mul_tdiv_add_tmod x y
 have hlt : -(y.natAbs : Int) < Int.tmod x y := by
  have := Int.tmod_lt_of_pos (-x) (b := (y.natAbs : Int)) (by omega)
  have e2 : Int.tmod (-x) (y.natAbs : Int) = - Int.tmod x y := by
   rw [Int.neg_tmod]
   rcases Int.natAbs_eq y with e | e
   ·rw [← e]
   ·conv => rhs; rw [e, Int.tmod_neg]
  rw [e2] at this; omega
 have hu := Z2p (x := x) (y := y) (q := Int.tdiv x y - y.sign) (r := Int.tmod x y + y.natAbs) hy (by
  have : y * y.sign = (y.natAbs : Int) := by rw [Int.mul_comm]; rw [Int.mul_comm]; exact Int.mul_sign_self y
  rw [Int.mul_sub, this]; omega) (by omega) (by omega)
 refine ⟨hu.2, ?_⟩
 have e3 : x - (Int.tmod x y + (y.natAbs : Int)) = y * (x / y) := by
  rw [← hu.2]; have := Int.mul_ediv_add_emod x y; omega
 rw [e3, Int.mul_tdiv_cancel_left _ hy]
theorem Z6I (x y : Int) : -(x.natAbs : Int) ≤ Int.tdiv x y ∧ Int.tdiv x y ≤ (x.natAbs : Int) := by
 have h : (Int.tdiv x y).natAbs ≤ x.natAbs := by rw [Int.natAbs_tdiv]; exact Nat.div_le_self _ _
 omega
theorem Z8Z (x y : Int) : -(x.natAbs : Int) ≤ Int.tmod x y ∧ Int.tmod x y ≤ (x.natAbs : Int) := by
 have h : (Int.tmod x y).natAbs ≤ x.natAbs := by rw [Int.natAbs_tmod]; exact Nat.mod_le _ _
 omega
theorem Z5k (s1 s2 : Bool) (A1 A2 : Option Addr) (n1 c1 n2 c2 : Nat) (x y : Int) (w : World) (h1 : IAt w s1 A1 n1 c1 x) (h2 : IAt w s2 A2 n2 c2 y) (hs1 : n1 + 4 < Z8) (hs2 : n2 + 4 < Z8) (hy : y ≠ 0) (hb1 : Z18 x = true) (hb2 : Z18 y = true) (ht : 0 ≤ Int.tmod x y) :
  Ca 215 #[.agg #[.bool s1, .slice A1 n1 c1], .agg #[.bool s2, .slice A2 n2 c2]] w (Z81 w (x / y) (x % y)) := by
 have H1 := zH h1
 have H2 := zH h2
 have hs1' : n1 ≤ Z8 := by omega
 have hs2' : n2 ≤ Z8 := by omega
 have hn2 : ((n2 : Int) == 0) = false := by have := h2.zero_iff; simp; omega
 have g1 := of_decide_eq_true hb1
 have g2 := of_decide_eq_true hb2
 have HB1 := zH hb1
 have HB2 := zH hb2
 have hyz : (y == 0) = false := by simp; omega
 obtain ⟨e1, e2⟩ := Z86 hy ht
 have hd := Z6I x y
 have hm := Z8Z x y
 obtain ⟨S, hS⟩ : ∃ S, Int.tdiv x y = S := ⟨_, rfl⟩
 obtain ⟨T, hT⟩ : ∃ S, Int.tmod x y = S := ⟨_, rfl⟩
 rw [hS] at e1 hd
 rw [hT] at e2 hm ht
 rw [e1, e2]
 have x0 : (-4611686018427387904 : Int) < S := by omega
 have x1 : S < (4611686018427387904 : Int) := by omega
 have y0 : (-4611686018427387904 : Int) < T := by omega
 have y1 : T < (4611686018427387904 : Int) := by omega
 clear h1 h2 hb1 hb2 g1 g2 e1 e2 hd hm
 go_enter func215, ntmps215
 go_wp2_with (
  first
  | (go_at_call 75; (with_reducible refine (Zf s1 A1 n1 c1 x _ (H1.out.ext EX) hs1').mono ?_); rintro e w1 ⟨rfl, hbw1⟩; (try clear hc hf); obtain ⟨hBw1, hc, hf⟩ := EC4 w1 w)
  | (go_at_call 75; (with_reducible refine (Zf s2 A2 n2 c2 y _ (H2.out.ext EX) hs2').mono ?_); rintro e w2 ⟨rfl, hbw2⟩; (try clear hc hf); obtain ⟨hBw2, hc, hf⟩ := EC4 w2 w)
  | (go_at_call 146; (with_reducible refine (ZH s1 A1 n1 c1 x _ (H1.out.ext EX) hs1' HB1.out).mono ?_); rintro e w3 ⟨rfl, hbw3⟩; (try clear hc hf); obtain ⟨hBw3, hc, hf⟩ := EC4 w3 w)
  | (go_at_call 146; (with_reducible refine (ZH s2 A2 n2 c2 y _ (H2.out.ext EX) hs2' HB2.out).mono ?_); rintro e w4 ⟨rfl, hbw4⟩; (try clear hc hf); obtain ⟨hBw4, hc, hf⟩ := EC4 w4 w))
 go_region
 go_wp2_with (
  first
  | (go_at_call 93; (with_reducible refine (Zv S _ (by omega) (by omega)).mono ?_); rintro e w5 ⟨sw5, Aw5, nw5, cw5, rfl, hIw5, hbw5⟩; (try clear hc hf); obtain ⟨hBw5, hc, hf⟩ := EC4 w5 w)
  | (go_at_call 93; (with_reducible refine (Zv T _ (by omega) (by omega)).mono ?_); rintro e w6 ⟨sw6, Aw6, nw6, cw6, rfl, hIw6, hbw6⟩; (try clear hc hf); obtain ⟨hBw6, hc, hf⟩ := EC4 w6 w))
 refine bodyPost_ret (v := .tuple #[.agg #[.bool sw5, .slice Aw5 nw5 cw5], .agg #[.bool sw6, .slice Aw6 nw6 cw6], .int .i64 0]) (by simp [results, results215, go_sem, hc, hf, Z6]) rfl ⟨_, _, _, _, _, _, _, _, rfl, IAt.keep hIw5 (by exact KPC), IAt.keep hIw6 (by exact KPC), EX⟩
theorem Z4p (s1 s2 : Bool) (A1 A2 : Option Addr) (n1 c1 n2 c2 : Nat) (x y : Int) (w : World) (h1 : IAt w s1 A1 n1 c1 x) (h2 : IAt w s2 A2 n2 c2 y) (hs1 : n1 + 4 < Z8) (hs2 : n2 + 4 < Z8) (hy : y ≠ 0) (hb1 : Z18 x = true) (hb2 : Z18 y = true) (ht : Int.tmod x y < 0) :
  Ca 215 #[.agg #[.bool s1, .slice A1 n1 c1], .agg #[.bool s2, .slice A2 n2 c2]] w (Z81 w (x / y) (x % y)) := by
 have H1 := zH h1
 have H2 := zH h2
 have hs1' : n1 ≤ Z8 := by omega
 have hs2' : n2 ≤ Z8 := by omega
 have hn2 : ((n2 : Int) == 0) = false := by have := h2.zero_iff; simp; omega
 have g1 := of_decide_eq_true hb1
 have g2 := of_decide_eq_true hb2
 have HB1 := zH hb1
 have HB2 := zH hb2
 have hyz : (y == 0) = false := by simp; omega
 obtain ⟨e1, e2⟩ := Z9s hy ht
 have hd := Z6I x y
 have hm := Z8Z x y
 have hdm : Int.tdiv x y = Int.tdiv x y := rfl
 obtain ⟨N, hN⟩ : ∃ N, (y.natAbs : Int) = N := ⟨_, rfl⟩
 have hmax : max y (-y) = N := by rw [← hN]; omega
 have hN1 : 0 ≤ N := by omega
 have hN2 : N < 4611686018427387904 := by omega
 obtain ⟨S, hS⟩ : ∃ S, Int.tdiv x y = S := ⟨_, rfl⟩
 obtain ⟨T, hT⟩ : ∃ S, Int.tmod x y = S := ⟨_, rfl⟩
 rw [hT, hN] at e1 e2
 rw [hT] at hm ht
 have x0 : (-4611686018427387904 : Int) < x := by omega
 have x1 : x < (4611686018427387904 : Int) := by omega
 have y0 : (-4611686018427387904 : Int) < y := by omega
 have y1 : y < (4611686018427387904 : Int) := by omega
 have z0 : (-4611686018427387904 : Int) < T := by omega
 have hq := Z6I (x - (T + N)) y
 rw [e2] at hq
 obtain ⟨Q, hQ⟩ : ∃ Q, x / y = Q := ⟨_, rfl⟩
 rw [hQ] at e2 hq ⊢
 rw [e1]
 have q0 : (-9223372036854775808 : Int) < Q := by omega
 have q1 : Q < (9223372036854775807 : Int) := by omega
 rw [hS] at hd
 have s0 : (-4611686018427387904 : Int) < S := by omega
 have s1' : S < (4611686018427387904 : Int) := by omega
 clear h1 h2 hb1 hb2 g1 g2 e1 hm hd hdm hq hN hQ
 go_enter func215, ntmps215
 go_wp2_with (
  first
  | (go_at_call 75; (with_reducible refine (Zf s1 A1 n1 c1 x _ (H1.out.ext EX) hs1').mono ?_); rintro e w1 ⟨rfl, hbw1⟩; (try clear hc hf); obtain ⟨hBw1, hc, hf⟩ := EC4 w1 w)
  | (go_at_call 75; (with_reducible refine (Zf s2 A2 n2 c2 y _ (H2.out.ext EX) hs2').mono ?_); rintro e w2 ⟨rfl, hbw2⟩; (try clear hc hf); obtain ⟨hBw2, hc, hf⟩ := EC4 w2 w)
  | (go_at_call 146; (with_reducible refine (ZH s1 A1 n1 c1 x _ (H1.out.ext EX) hs1' HB1.out).mono ?_); rintro e w3 ⟨rfl, hbw3⟩; (try clear hc hf); obtain ⟨hBw3, hc, hf⟩ := EC4 w3 w)
  | (go_at_call 146; (with_reducible refine (ZH s2 A2 n2 c2 y _ (H2.out.ext EX) hs2' HB2.out).mono ?_); rintro e w4 ⟨rfl, hbw4⟩; (try clear hc hf); obtain ⟨hBw4, hc, hf⟩ := EC4 w4 w))
 go_region
 go_wp2_with (
  first
  | (go_at_call 93; (with_reducible refine (Zv Q _ (by omega) (by omega)).mono ?_); rintro e w5 ⟨sw5, Aw5, nw5, cw5, rfl, hIw5, hbw5⟩; (try clear hc hf); obtain ⟨hBw5, hc, hf⟩ := EC4 w5 w)
  | (go_at_call 93; (with_reducible refine (Zv (T + N) _ (by omega) (by omega)).mono ?_); rintro e w6 ⟨sw6, Aw6, nw6, cw6, rfl, hIw6, hbw6⟩; (try clear hc hf); obtain ⟨hBw6, hc, hf⟩ := EC4 w6 w))
 refine bodyPost_ret (v := .tuple #[.agg #[.bool sw5, .slice Aw5 nw5 cw5], .agg #[.bool sw6, .slice Aw6 nw6 cw6], .int .i64 0]) (by simp [results, results215, go_sem, hc, hf, Z6]) rfl ⟨_, _, _, _, _, _, _, _, rfl, IAt.keep hIw5 (by exact KPC), IAt.keep hIw6 (by exact KPC), EX⟩
theorem Z6N (a b : Nat) : (Z7 (a / b)).length ≤ (Z7 a).length := Z3A (Nat.div_le_self _ _)
theorem Z6M (a b : Nat) : (Z7 (a % b)).length ≤ (Z7 a).length := Z3A (Nat.mod_le _ _)
theorem Z5l (s1 s2 : Bool) (A1 A2 : Option Addr) (n1 c1 n2 c2 : Nat) (x y : Int) (w : World) (h1 : IAt w s1 A1 n1 c1 x) (h2 : IAt w s2 A2 n2 c2 y) (hs1 : n1 + 4 < Z8) (hs2 : n2 + 4 < Z8) (hy : y ≠ 0) (hb : (Z18 x && Z18 y) = false) (hsg : s1 = false) :
  Ca 215 #[.agg #[.bool s1, .slice A1 n1 c1], .agg #[.bool s2, .slice A2 n2 c2]] w (Z81 w (x / y) (x % y)) := by
 have hs1' : n1 ≤ Z8 := by omega
 have hs2' : n2 ≤ Z8 := by omega
 have hsv : val (Z7 y.natAbs) ≠ 0 := by rw [Z9]; omega
 have hn2 : ((n2 : Int) == 0) = false := by have := h2.zero_iff; simp; omega
 have NX := zH (fun W (k : IAt W s1 A1 n1 c1 x) => ZM s1 A1 n1 c1 x W k hs1')
 have NY := zH (fun W (k : IAt W s2 A2 n2 c2 y) => ZM s2 A2 n2 c2 y W k hs2')
 obtain ⟨b1, hb1⟩ : ∃ b, Z18 x = b := ⟨_, rfl⟩
 obtain ⟨b2, hb2⟩ : ∃ b, Z18 y = b := ⟨_, rfl⟩
 rw [hb1] at NX hb
 rw [hb2] at NY hb
 have hD := Z2P s1 s2 (val (Z7 x.natAbs)) (val (Z7 y.natAbs)) hsv (.inl hsg)
 rw [h1.sv, h2.sv] at hD
 have HP := zH (fun W (k1 : WAt W A1 n1 c1 (Z7 x.natAbs)) (k2 : WAt W A2 n2 c2 (Z7 y.natAbs)) => Z1H A1 A2 n1 c1 n2 c2 _ _ W k1 k2 (by omega) (by omega) (Zb _) (Zb _) hsv)
 obtain ⟨Q, hQ⟩ : ∃ Q, val (Z7 x.natAbs) / val (Z7 y.natAbs) = Q := ⟨_, rfl⟩
 obtain ⟨R, hR⟩ : ∃ Q, val (Z7 x.natAbs) % val (Z7 y.natAbs) = Q := ⟨_, rfl⟩
 have HQL : Hid ((Z7 Q).length ≤ n1) := by show _; rw [← hQ, Z9 x.natAbs, h1.rep.len]; exact Z6N _ _
 have HRL : Hid ((Z7 R).length ≤ n1) := by show _; rw [← hR, Z9 x.natAbs, h1.rep.len]; exact Z6M _ _
 have HRY : Hid (R ≤ val (Z7 y.natAbs)) := by show _; rw [← hR]; exact Nat.le_of_lt (Nat.mod_lt _ (Nat.pos_of_ne_zero hsv))
 have HYL : Hid ((Z7 (val (Z7 y.natAbs) - R)).length ≤ n2) := by show _; rw [h2.rep.len]; refine Nat.le_trans (Z3G _ _) ?_; rw [Z9]; exact Nat.le_refl _
 have HTY := zH (Zb y.natAbs)
 rw [hQ, hR] at hD HP
 have HD := zH hD
 have H1 := zH h1
 have H2 := zH h2
 clear h1 h2 hD hsv hQ hR hb1 hb2 hy
 subst hsg
 rw [show (!false == s2) = s2 by cases s2 <;> rfl] at HD
 go_enter Tryz.func215, Tryz.ntmps215
 go_wp2_with (
  first
  | (go_at_call 75; (with_reducible refine (Zf false A1 n1 c1 x _ (H1.out.ext (by exact EX)) hs1').mono ?_); rintro e w1 ⟨rfl, hbw1⟩; (try clear hc hf); obtain ⟨hBw1, hc, hf⟩ := EC w1 (w |>.alloc _ |>.alloc _ |>.alloc _ |>.alloc _))
  | (go_at_call 75; (with_reducible refine (Zf s2 A2 n2 c2 y _ (H2.out.ext (by exact EX)) hs2').mono ?_); rintro e w2 ⟨rfl, hbw2⟩; (try clear hc hf); obtain ⟨hBw2, hc, hf⟩ := EC w2 (w |>.alloc _ |>.alloc _ |>.alloc _ |>.alloc _))
  | (go_at_call 146; (with_reducible refine (NX.out _ (H1.out.ext (by exact EX))).mono ?_); rintro e w3 ⟨rfl, hbw3⟩; (try clear hc hf); obtain ⟨hBw3, hc, hf⟩ := EC w3 (w |>.alloc _ |>.alloc _ |>.alloc _ |>.alloc _))
  | (go_at_call 146; (with_reducible refine (NY.out _ (H2.out.ext (by exact EX))).mono ?_); rintro e w4 ⟨rfl, hbw4⟩; (try clear hc hf); obtain ⟨hBw4, hc, hf⟩ := EC w4 (w |>.alloc _ |>.alloc _ |>.alloc _ |>.alloc _))
  | ((with_reducible refine (id ?_ : Code.wp _ (Code.region 8 _ _) _ _ _)); exfalso; revert hb; simp [*]; done)
  | (go_at_call 256; (with_reducible refine (HP.out _ (H1.out.rep.ext (by exact EX)) (H2.out.rep.ext (by exact EX))).mono ?_); rintro e w5 ⟨A5, n5, c5, A6, n6, c6, rfl, hW5, hW6, hbw5⟩; (try clear hc hf); obtain ⟨hBw5, hc, hf⟩ := EC w5 (w |>.alloc _ |>.alloc _ |>.alloc _ |>.alloc _); have HW5 := zH hW5; have HW6 := zH hW6; have hn5 : n5 ≤ Z8 := (by rw [hW5.len]; exact Nat.le_trans HQL.out hs1'); have hn6 : n6 ≤ Z8 := (by rw [hW6.len]; exact Nat.le_trans HRL.out hs1'); skip; clear hW5 hW6)
  | (go_at_call 164; (with_reducible refine (Zz s2 A5 n5 c5 _ _ (HW5.out.ext (by exact EX)) hn5).mono ?_); rintro e w7 ⟨sw7, Aw7, nw7, cw7, rfl, hIw7, hbw7⟩; (try clear hc hf); obtain ⟨hBw7, hc, hf⟩ := EC w7 (w |>.alloc _ |>.alloc _ |>.alloc _ |>.alloc _))
  | (go_at_call 164; (with_reducible refine (Zz false A6 _ c6 _ _ (HW6.out.ext (by exact EX)) hn6).mono ?_); rintro e w8 ⟨sw8, Aw8, nw8, cw8, rfl, hIw8, hbw8⟩; (try clear hc hf); obtain ⟨hBw8, hc, hf⟩ := EC w8 (w |>.alloc _ |>.alloc _ |>.alloc _ |>.alloc _)))
 all_goals rw [Z9, ← HD.out.1] at hIw7
 all_goals rw [Z9, show ∀ a : Nat, sgd false a = (a : Int) from fun _ => rfl, ← HD.out.2] at hIw8
 all_goals refine bodyPost_ret (v := .tuple #[.agg #[.bool sw7, .slice Aw7 nw7 cw7], .agg #[.bool sw8, .slice Aw8 nw8 cw8], .int .i64 0]) (by simp [results, Tryz.results215, go_sem, hc, hf, Z6]) rfl ⟨_, _, _, _, _, _, _, _, rfl, IAt.keep hIw7 (by exact KPC), IAt.keep hIw8 (by exact KPC), by exact EX⟩
theorem Z6m (s1 s2 : Bool) (A1 A2 : Option Addr) (n1 c1 n2 c2 : Nat) (x y : Int) (w : World) (h1 : IAt w s1 A1 n1 c1 x) (h2 : IAt w s2 A2 n2 c2 y) (hs1 : n1 + 4 < Z8) (hs2 : n2 + 4 < Z8) (hy : y ≠ 0) (hb : (Z18 x && Z18 y) = false) (hsg : s1 = true) (hr : val (Z7 x.natAbs) % val (Z7 y.natAbs) = 0) :
  Ca 215 #[.agg #[.bool s1, .slice A1 n1 c1], .agg #[.bool s2, .slice A2 n2 c2]] w (Z81 w (x / y) (x % y)) := by
 have hs1' : n1 ≤ Z8 := by omega
 have hs2' : n2 ≤ Z8 := by omega
 have hsv : val (Z7 y.natAbs) ≠ 0 := by rw [Z9]; omega
 have hn2 : ((n2 : Int) == 0) = false := by have := h2.zero_iff; simp; omega
 have NX := zH (fun W (k : IAt W s1 A1 n1 c1 x) => ZM s1 A1 n1 c1 x W k hs1')
 have NY := zH (fun W (k : IAt W s2 A2 n2 c2 y) => ZM s2 A2 n2 c2 y W k hs2')
 obtain ⟨b1, hb1⟩ : ∃ b, Z18 x = b := ⟨_, rfl⟩
 obtain ⟨b2, hb2⟩ : ∃ b, Z18 y = b := ⟨_, rfl⟩
 rw [hb1] at NX hb
 rw [hb2] at NY hb
 have hD := Z2P s1 s2 (val (Z7 x.natAbs)) (val (Z7 y.natAbs)) hsv (.inr hr)
 rw [h1.sv, h2.sv] at hD
 have HP := zH (fun W (k1 : WAt W A1 n1 c1 (Z7 x.natAbs)) (k2 : WAt W A2 n2 c2 (Z7 y.natAbs)) => Z1H A1 A2 n1 c1 n2 c2 _ _ W k1 k2 (by omega) (by omega) (Zb _) (Zb _) hsv)
 obtain ⟨Q, hQ⟩ : ∃ Q, val (Z7 x.natAbs) / val (Z7 y.natAbs) = Q := ⟨_, rfl⟩
 obtain ⟨R, hR⟩ : ∃ Q, val (Z7 x.natAbs) % val (Z7 y.natAbs) = Q := ⟨_, rfl⟩
 have HQL : Hid ((Z7 Q).length ≤ n1) := by show _; rw [← hQ, Z9 x.natAbs, h1.rep.len]; exact Z6N _ _
 have HRL : Hid ((Z7 R).length ≤ n1) := by show _; rw [← hR, Z9 x.natAbs, h1.rep.len]; exact Z6M _ _
 have HRY : Hid (R ≤ val (Z7 y.natAbs)) := by show _; rw [← hR]; exact Nat.le_of_lt (Nat.mod_lt _ (Nat.pos_of_ne_zero hsv))
 have HYL : Hid ((Z7 (val (Z7 y.natAbs) - R)).length ≤ n2) := by show _; rw [h2.rep.len]; refine Nat.le_trans (Z3G _ _) ?_; rw [Z9]; exact Nat.le_refl _
 have HTY := zH (Zb y.natAbs)
 rw [hQ, hR] at hD HP
 rw [hR] at hr
 have HD := zH hD
 have HR0 := zH hr
 have H1 := zH h1
 have H2 := zH h2
 clear h1 h2 hD hsv hQ hR hb1 hb2 hy hr
 subst hsg
 rw [show (!true == s2) = !s2 by cases s2 <;> rfl] at HD
 go_enter Tryz.func215, Tryz.ntmps215
 go_wp2_with (
  first
  | (go_at_call 75; (with_reducible refine (Zf true A1 n1 c1 x _ (H1.out.ext (by exact EX)) hs1').mono ?_); rintro e w1 ⟨rfl, hbw1⟩; (try clear hc hf); obtain ⟨hBw1, hc, hf⟩ := EC w1 (w |>.alloc _ |>.alloc _ |>.alloc _ |>.alloc _))
  | (go_at_call 75; (with_reducible refine (Zf s2 A2 n2 c2 y _ (H2.out.ext (by exact EX)) hs2').mono ?_); rintro e w2 ⟨rfl, hbw2⟩; (try clear hc hf); obtain ⟨hBw2, hc, hf⟩ := EC w2 (w |>.alloc _ |>.alloc _ |>.alloc _ |>.alloc _))
  | (go_at_call 146; (with_reducible refine (NX.out _ (H1.out.ext (by exact EX))).mono ?_); rintro e w3 ⟨rfl, hbw3⟩; (try clear hc hf); obtain ⟨hBw3, hc, hf⟩ := EC w3 (w |>.alloc _ |>.alloc _ |>.alloc _ |>.alloc _))
  | (go_at_call 146; (with_reducible refine (NY.out _ (H2.out.ext (by exact EX))).mono ?_); rintro e w4 ⟨rfl, hbw4⟩; (try clear hc hf); obtain ⟨hBw4, hc, hf⟩ := EC w4 (w |>.alloc _ |>.alloc _ |>.alloc _ |>.alloc _))
  | ((with_reducible refine (id ?_ : Code.wp _ (Code.region 8 _ _) _ _ _)); exfalso; revert hb; simp [*]; done)
  | (go_at_call 256; (with_reducible refine (HP.out _ (H1.out.rep.ext (by exact EX)) (H2.out.rep.ext (by exact EX))).mono ?_); rintro e w5 ⟨A5, n5, c5, A6, n6, c6, rfl, hW5, hW6, hbw5⟩; (try clear hc hf); obtain ⟨hBw5, hc, hf⟩ := EC w5 (w |>.alloc _ |>.alloc _ |>.alloc _ |>.alloc _); have HW5 := zH hW5; have HW6 := zH hW6; have hn5 : n5 ≤ Z8 := (by rw [hW5.len]; exact Nat.le_trans HQL.out hs1'); have hn6 : n6 ≤ Z8 := (by rw [hW6.len]; exact Nat.le_trans HRL.out hs1'); have hz6 : n6 = 0 := (by rw [hW6.len, HR0.out, Zp]; rfl); subst hz6; clear hW5 hW6)
  | (go_at_call 164; (with_reducible refine (Zz (!s2) A5 n5 c5 _ _ (HW5.out.ext (by exact EX)) hn5).mono ?_); rintro e w7 ⟨sw7, Aw7, nw7, cw7, rfl, hIw7, hbw7⟩; (try clear hc hf); obtain ⟨hBw7, hc, hf⟩ := EC w7 (w |>.alloc _ |>.alloc _ |>.alloc _ |>.alloc _))
  | (go_at_call 164; (with_reducible refine (Zz false A6 _ c6 _ _ (HW6.out.ext (by exact EX)) hn6).mono ?_); rintro e w8 ⟨sw8, Aw8, nw8, cw8, rfl, hIw8, hbw8⟩; (try clear hc hf); obtain ⟨hBw8, hc, hf⟩ := EC w8 (w |>.alloc _ |>.alloc _ |>.alloc _ |>.alloc _)))
 all_goals rw [Z9, ← HD.out.1] at hIw7
 all_goals rw [Z9, show ∀ a : Nat, sgd false a = (a : Int) from fun _ => rfl, ← HD.out.2] at hIw8
 all_goals refine bodyPost_ret (v := .tuple #[.agg #[.bool sw7, .slice Aw7 nw7 cw7], .agg #[.bool sw8, .slice Aw8 nw8 cw8], .int .i64 0]) (by simp [results, Tryz.results215, go_sem, hc, hf, Z6]) rfl ⟨_, _, _, _, _, _, _, _, rfl, IAt.keep hIw7 (by exact KPC), IAt.keep hIw8 (by exact KPC), by exact EX⟩
theorem Z6n (s1 s2 : Bool) (A1 A2 : Option Addr) (n1 c1 n2 c2 : Nat) (x y : Int) (w : World) (h1 : IAt w s1 A1 n1 c1 x) (h2 : IAt w s2 A2 n2 c2 y) (hs1 : n1 + 4 < Z8) (hs2 : n2 + 4 < Z8) (hy : y ≠ 0) (hb : (Z18 x && Z18 y) = false) (hsg : s1 = true) (hr : val (Z7 x.natAbs) % val (Z7 y.natAbs) ≠ 0) :
  Ca 215 #[.agg #[.bool s1, .slice A1 n1 c1], .agg #[.bool s2, .slice A2 n2 c2]] w (Z81 w (x / y) (x % y)) := by
 have hs1' : n1 ≤ Z8 := by omega
 have hs2' : n2 ≤ Z8 := by omega
 have hsv : val (Z7 y.natAbs) ≠ 0 := by rw [Z9]; omega
 have hn2 : ((n2 : Int) == 0) = false := by have := h2.zero_iff; simp; omega
 have NX := zH (fun W (k : IAt W s1 A1 n1 c1 x) => ZM s1 A1 n1 c1 x W k hs1')
 have NY := zH (fun W (k : IAt W s2 A2 n2 c2 y) => ZM s2 A2 n2 c2 y W k hs2')
 obtain ⟨b1, hb1⟩ : ∃ b, Z18 x = b := ⟨_, rfl⟩
 obtain ⟨b2, hb2⟩ : ∃ b, Z18 y = b := ⟨_, rfl⟩
 rw [hb1] at NX hb
 rw [hb2] at NY hb
 have hD := Z7Q s2 (val (Z7 x.natAbs)) (val (Z7 y.natAbs)) hsv hr
 rw [show sgd true (val (Z7 x.natAbs)) = x by rw [← hsg]; exact h1.sv, h2.sv] at hD
 have HP := zH (fun W (k1 : WAt W A1 n1 c1 (Z7 x.natAbs)) (k2 : WAt W A2 n2 c2 (Z7 y.natAbs)) => Z1H A1 A2 n1 c1 n2 c2 _ _ W k1 k2 (by omega) (by omega) (Zb _) (Zb _) hsv)
 obtain ⟨Q, hQ⟩ : ∃ Q, val (Z7 x.natAbs) / val (Z7 y.natAbs) = Q := ⟨_, rfl⟩
 obtain ⟨R, hR⟩ : ∃ Q, val (Z7 x.natAbs) % val (Z7 y.natAbs) = Q := ⟨_, rfl⟩
 have HQL : Hid ((Z7 Q).length ≤ n1) := by show _; rw [← hQ, Z9 x.natAbs, h1.rep.len]; exact Z6N _ _
 have HRL : Hid ((Z7 R).length ≤ n1) := by show _; rw [← hR, Z9 x.natAbs, h1.rep.len]; exact Z6M _ _
 have HRY : Hid (R ≤ val (Z7 y.natAbs)) := by show _; rw [← hR]; exact Nat.le_of_lt (Nat.mod_lt _ (Nat.pos_of_ne_zero hsv))
 have HYL : Hid ((Z7 (val (Z7 y.natAbs) - R)).length ≤ n2) := by show _; rw [h2.rep.len]; refine Nat.le_trans (Z3G _ _) ?_; rw [Z9]; exact Nat.le_refl _
 have HTY := zH (Zb y.natAbs)
 rw [hQ, hR] at hD HP
 rw [hR] at hr
 have HD := zH hD
 have HR0 := zH hr
 have H1 := zH h1
 have H2 := zH h2
 clear h1 h2 hD hsv hQ hR hb1 hb2 hy hr
 subst hsg
 rw [show (!true == s2) = !s2 by cases s2 <;> rfl] at HD
 go_enter Tryz.func215, Tryz.ntmps215
 go_wp2_with (
  first
  | (go_at_call 75; (with_reducible refine (Zf true A1 n1 c1 x _ (H1.out.ext (by exact EX)) hs1').mono ?_); rintro e w1 ⟨rfl, hbw1⟩; (try clear hc hf); obtain ⟨hBw1, hc, hf⟩ := EC w1 (w |>.alloc _ |>.alloc _ |>.alloc _ |>.alloc _))
  | (go_at_call 75; (with_reducible refine (Zf s2 A2 n2 c2 y _ (H2.out.ext (by exact EX)) hs2').mono ?_); rintro e w2 ⟨rfl, hbw2⟩; (try clear hc hf); obtain ⟨hBw2, hc, hf⟩ := EC w2 (w |>.alloc _ |>.alloc _ |>.alloc _ |>.alloc _))
  | (go_at_call 146; (with_reducible refine (NX.out _ (H1.out.ext (by exact EX))).mono ?_); rintro e w3 ⟨rfl, hbw3⟩; (try clear hc hf); obtain ⟨hBw3, hc, hf⟩ := EC w3 (w |>.alloc _ |>.alloc _ |>.alloc _ |>.alloc _))
  | (go_at_call 146; (with_reducible refine (NY.out _ (H2.out.ext (by exact EX))).mono ?_); rintro e w4 ⟨rfl, hbw4⟩; (try clear hc hf); obtain ⟨hBw4, hc, hf⟩ := EC w4 (w |>.alloc _ |>.alloc _ |>.alloc _ |>.alloc _))
  | ((with_reducible refine (id ?_ : Code.wp _ (Code.region 8 _ _) _ _ _)); exfalso; revert hb; simp [*]; done)
  | (go_at_call 256; (with_reducible refine (HP.out _ (H1.out.rep.ext (by exact EX)) (H2.out.rep.ext (by exact EX))).mono ?_); rintro e w5 ⟨A5, n5, c5, A6, n6, c6, rfl, hW5, hW6, hbw5⟩; (try clear hc hf); obtain ⟨hBw5, hc, hf⟩ := EC w5 (w |>.alloc _ |>.alloc _ |>.alloc _ |>.alloc _); have HW5 := zH hW5; have HW6 := zH hW6; have hn5 : n5 ≤ Z8 := (by rw [hW5.len]; exact Nat.le_trans HQL.out hs1'); have hn6 : n6 ≤ Z8 := (by rw [hW6.len]; exact Nat.le_trans HRL.out hs1'); have hszw5 := hBw5.size; simp only [SA] at hszw5; have hq0w5 : w.heap.size < w5.heap.size := (by omega); have hq1w5 : w.heap.size + 1 < w5.heap.size := (by omega); have hq2w5 : w.heap.size + 1 + 1 < w5.heap.size := (by omega); have hq3w5 : w.heap.size + 1 + 1 + 1 < w5.heap.size := (by omega); have hz6 : 0 < n6 := (by rw [hW6.len]; exact List.length_pos_iff.2 (Z0k HR0.out)); clear hW5 hW6)
)
 all_goals go_region_held3 (fun w' => w'.cell? ⟨w.heap.size + 1, 0, none⟩ = some (.bool s2) ∧ w'.cell? ⟨w.heap.size + 1, 1, none⟩ = some (.slice A2 n2 c2)) (first | (exact HXC) | (simp [go_sem, *]; done) | simp [go_sem, hc]) (first | (go_at_call 175; (with_reducible refine (Z2z A5 _ n5 c5 1 1 _ [1] _ (HW5.out.ext (by exact EX)) ((Z94 w5 w5.heap.size rfl).ext ((Ext.refl _).drew)) (by have a := HQL.out; have b := HW5.out.len; omega) (by decide)).mono ?_); rintro e w9 ⟨A9, n9, c9, rfl, hW9, hbw9⟩; (try clear hc hf); obtain ⟨hBw9, hc, hf⟩ := EC w9 (w |>.alloc _ |>.alloc _ |>.alloc _ |>.alloc _); have hszw9 := hBw9.size; simp only [SA] at hszw9; have hq0w9 : w.heap.size < w9.heap.size := (by omega); have hq1w9 : w.heap.size + 1 < w9.heap.size := (by omega); have hq2w9 : w.heap.size + 1 + 1 < w9.heap.size := (by omega); have hq3w9 : w.heap.size + 1 + 1 + 1 < w9.heap.size := (by omega); have hxl := hbw9; have HW9 := zH hW9; clear hW9) | (go_at_call 176; (with_reducible refine (Z1G A2 A6 n2 c2 n6 c6 _ _ _ (H2.out.rep.ext (by exact EX)) (HW6.out.ext (by exact EX)) (by omega) (by have a := HRL.out; have b := HW6.out.len; omega) (Zb _) (by rw [Z9]; exact HRY.out)).mono ?_); rintro e wa ⟨Aa, na, ca, rfl, hWa, hbwa⟩; (try clear hc hf); obtain ⟨hBwa, hc, hf⟩ := EC wa (w |>.alloc _ |>.alloc _ |>.alloc _ |>.alloc _); have hxl := hbwa; have HWa := zH hWa; clear hWa))
 all_goals have hn9 : n9 ≤ Z8 := (by have a := HW9.out.len; rw [Z9, Z0g] at a; have b := Z96 Q 1; have c := HQL.out; have d : (Z7 1).length ≤ 1 := Z4m (by decide); omega)
 all_goals have hna : na ≤ Z8 := (by have a := HWa.out.len; rw [Z9 (n := R)] at a; have b := HYL.out; omega)
 all_goals go_wp2_with (
  first
  | (go_at_call 164; (with_reducible refine (Zz (!s2) A9 n9 c9 _ _ (HW9.out.ext (by exact EX)) hn9).mono ?_); rintro e w7 ⟨sw7, Aw7, nw7, cw7, rfl, hIw7, hbw7⟩; (try clear hc hf); obtain ⟨hBw7, hc, hf⟩ := EC w7 (w |>.alloc _ |>.alloc _ |>.alloc _ |>.alloc _))
  | (go_at_call 164; (with_reducible refine (Zz false Aa na ca _ _ (HWa.out.ext (by exact EX)) hna).mono ?_); rintro e w8 ⟨sw8, Aw8, nw8, cw8, rfl, hIw8, hbw8⟩; (try clear hc hf); obtain ⟨hBw8, hc, hf⟩ := EC w8 (w |>.alloc _ |>.alloc _ |>.alloc _ |>.alloc _)))
 all_goals rw [Z9, Z9, Z0g, ← HD.out.1] at hIw7
 all_goals have hE : ((val (Z7 y.natAbs) - R : Nat) : Int) = x % y := (by rw [HD.out.2]; have := HRY.out; omega)
 all_goals rw [Z9, Z9 (n := R), show ∀ a : Nat, sgd false a = (a : Int) from fun _ => rfl, hE] at hIw8
 all_goals refine bodyPost_ret (v := .tuple #[.agg #[.bool sw7, .slice Aw7 nw7 cw7], .agg #[.bool sw8, .slice Aw8 nw8 cw8], .int .i64 0]) (by simp [results, Tryz.results215, go_sem, hc, hf, Z6]) rfl ⟨_, _, _, _, _, _, _, _, rfl, IAt.keep hIw7 (by exact KPC), IAt.keep hIw8 (by exact KPC), by exact EX⟩
theorem Z3Z (s1 s2 : Bool) (A1 A2 : Option Addr) (n1 c1 n2 c2 : Nat) (x y : Int) (w : World) (h1 : IAt w s1 A1 n1 c1 x) (h2 : IAt w s2 A2 n2 c2 y) (hs1 : n1 + 4 < Z8) (hs2 : n2 + 4 < Z8) (hy : y ≠ 0) :
  Ca 215 #[.agg #[.bool s1, .slice A1 n1 c1], .agg #[.bool s2, .slice A2 n2 c2]] w (Z81 w (x / y) (x % y)) := by
 by_cases hb : (Z18 x && Z18 y) = false
 ·cases hs : s1 with
  | false => exact Z5l _ s2 A1 A2 n1 c1 n2 c2 x y w (hs ▸ h1) h2 hs1 hs2 hy hb rfl
  | true =>
   by_cases hr : val (Z7 x.natAbs) % val (Z7 y.natAbs) = 0
   ·exact Z6m _ s2 A1 A2 n1 c1 n2 c2 x y w (hs ▸ h1) h2 hs1 hs2 hy hb rfl hr
   ·exact Z6n _ s2 A1 A2 n1 c1 n2 c2 x y w (hs ▸ h1) h2 hs1 hs2 hy hb rfl hr
 ·have hb' : Z18 x = true ∧ Z18 y = true := by simpa using hb
  by_cases ht : 0 ≤ Int.tmod x y
  ·exact Z5k s1 s2 A1 A2 n1 c1 n2 c2 x y w h1 h2 hs1 hs2 hy hb'.1 hb'.2 ht
  ·exact Z4p s1 s2 A1 A2 n1 c1 n2 c2 x y w h1 h2 hs1 hs2 hy hb'.1 hb'.2 (by omega)
theorem Z2r (s : Bool) (A : Option Addr) (n c : Nat) (z : Int) (w : World) (h : IAt w s A n c z) (hs : n ≤ Z8) :
  Ca 106 #[.agg #[.bool s, .slice A n c]] w fun e w' => e = .returned (.int .i64 ((nb z.natAbs : Nat) : Int)) ∧ Ext w w' := by
 have H := zH h
 have HB := zH (fun W (k : WAt W A n c (Z7 z.natAbs)) => Z3s A n c _ W k hs (Zb _))
 rw [Z9] at HB
 clear h
 go_enter func106, ntmps106
 go_wp2_with (
  first
  | (go_at_call 75; (with_reducible refine (Zf s A n c z _ (H.out.ext EX) hs).mono ?_); rintro e w1 ⟨rfl, hbw1⟩; (try clear hc hf); obtain ⟨hBw1, hc, hf⟩ := EC1 w1 w)
  | (go_at_call 180; (with_reducible refine (HB.out _ (H.out.rep.ext EX)).mono ?_); rintro e w2 ⟨rfl, rfl⟩))
 go_ret
 exact ⟨rfl, EX⟩
theorem Z2S (s1 s2 : Bool) (A1 A2 : Option Addr) (n1 c1 n2 c2 : Nat) (x y : Int) (w : World) (h1 : IAt w s1 A1 n1 c1 x) (h2 : IAt w s2 A2 n2 c2 y) (hs1 : n1 + 4 < Z8) (hs2 : n2 + 4 < Z8) (hy : y ≠ 0) :
  Ca 177 #[.agg #[.bool s1, .slice A1 n1 c1], .agg #[.bool s2, .slice A2 n2 c2]] w (Z1F w (x / y)) := by
 have H1 := zH h1
 have H2 := zH h2
 clear h1 h2
 go_enter func177, ntmps177
 go_wp2_with (
  ((with_reducible refine (Z3Z s1 s2 A1 A2 n1 c1 n2 c2 x y _ (H1.out.ext EX) (H2.out.ext EX) hs1 hs2 hy).mono ?_); rintro e w1 ⟨sw1, Aw1, nw1, cw1, tw1, Bw1, mw1, dw1, rfl, hIw1, hJw1, hbw1⟩; (try clear hc hf); obtain ⟨hBw1, hc, hf⟩ := EC3 w1 w; have hszw1 := hBw1.size; simp only [SA] at hszw1; have hq0w1 : w.heap.size < w1.heap.size := (by omega); have hq1w1 : w.heap.size + 1 < w1.heap.size := (by omega); have hq2w1 : w.heap.size + 1 + 1 < w1.heap.size := (by omega)))
 refine bodyPost_ret (v := .agg #[.bool sw1, .slice Aw1 nw1 cw1]) (by simp [results, results177, go_sem, hc, hf, Z6, hq0w1, hq1w1, hq2w1]) rfl ⟨_, _, _, _, rfl, IAt.keep hIw1 (by have kf := And.intro hq0w1 (And.intro hq1w1 hq2w1); exact KPD), EX⟩
theorem Z9M (s1 s2 : Bool) (A1 A2 : Option Addr) (n1 c1 n2 c2 : Nat) (x y : Int) (w : World) (h1 : IAt w s1 A1 n1 c1 x) (h2 : IAt w s2 A2 n2 c2 y) (hs1 : n1 + 4 < Z8) (hs2 : n2 + 4 < Z8) (hy : y ≠ 0) :
  Ca 147 #[.agg #[.bool s1, .slice A1 n1 c1], .agg #[.bool s2, .slice A2 n2 c2]] w (Z1F w (x % y)) := by
 have H1 := zH h1
 have H2 := zH h2
 clear h1 h2
 go_enter func147, ntmps147
 go_wp2_with (
  ((with_reducible refine (Z3Z s1 s2 A1 A2 n1 c1 n2 c2 x y _ (H1.out.ext EX) (H2.out.ext EX) hs1 hs2 hy).mono ?_); rintro e w1 ⟨sw2, Aw2, nw2, cw2, sw1, Aw1, nw1, cw1, rfl, hJw1, hIw1, hbw1⟩; (try clear hc hf); obtain ⟨hBw1, hc, hf⟩ := EC3 w1 w; have hszw1 := hBw1.size; simp only [SA] at hszw1; have hq0w1 : w.heap.size < w1.heap.size := (by omega); have hq1w1 : w.heap.size + 1 < w1.heap.size := (by omega); have hq2w1 : w.heap.size + 1 + 1 < w1.heap.size := (by omega)))
 refine bodyPost_ret (v := .agg #[.bool sw1, .slice Aw1 nw1 cw1]) (by simp [results, results147, go_sem, hc, hf, Z6, hq0w1, hq1w1, hq2w1]) rfl ⟨_, _, _, _, rfl, IAt.keep hIw1 (by have kf := And.intro hq0w1 (And.intro hq1w1 hq2w1); exact KPD), EX⟩
theorem Z3i (w : World) : w.drew.heap.size = w.heap.size := rfl
def Loc (w : World) (g : Nat) (s : Bool) (A : Option Addr) (n c : Nat) : Prop := w.heap[g]? = some (.cells #[.bool s, .slice A n c] 24)
theorem Loc.lt {w : World} {g : Nat} {s : Bool} {A : Option Addr} {n c : Nat} (h : Loc w g s A n c) : g < w.heap.size := (Array.getElem?_eq_some_iff.1 h).1
theorem Loc.ext {w w' : World} {g : Nat} {s : Bool} {A : Option Addr} {n c : Nat} (h : Loc w g s A n c) (k : Ext w w') : Loc w' g s A n c := (k.below.block g h.lt).trans h
theorem Loc.drew {w : World} {g : Nat} {s : Bool} {A : Option Addr} {n c : Nat} (h : Loc w g s A n c) : Loc w.drew g s A n c := h
theorem Loc.alloc {w : World} {g : Nat} {s : Bool} {A : Option Addr} {n c : Nat} (h : Loc w g s A n c) (o : Obj) : Loc (w.alloc o) g s A n c := h.ext ((Ext.refl w).alloc o)
theorem Loc.new (w : World) (s : Bool) (A : Option Addr) (n c : Nat) : Loc (w.alloc (.cells #[.bool s, .slice A n c] 24)) w.heap.size s A n c := by
 show (w.heap.push _)[w.heap.size]? = _; simp
theorem Loc.new' (w : World) (g : Nat) (s : Bool) (A : Option Addr) (n c : Nat) (h : g = w.heap.size) : Loc (w.alloc (.cells #[.bool s, .slice A n c] 24)) g s A n c := h ▸ Loc.new w s A n c
theorem Loc.set {w : World} {g : Nat} {s : Bool} {A : Option Addr} {n c : Nat} (h : Loc w g s A n c) (s' : Bool) (A' : Option Addr) (n' c' : Nat) : Loc ((w.setCell ⟨g, 0, none⟩ (.bool s')).setCell ⟨g, 1, none⟩ (.slice A' n' c')) g s' A' n' c' := by
 unfold Loc at *
 simp [World.setCell, Array.getElem?_modify, h]
def IsL (w : World) (g : Nat) : Prop := ∃ s A n c, Loc w g s A n c
theorem IsL.new' (w : World) (g : Nat) (s : Bool) (A : Option Addr) (n c : Nat) (h : g = w.heap.size) : IsL (w.alloc (.cells #[.bool s, .slice A n c] 24)) g := ⟨s, A, n, c, Loc.new' w g s A n c h⟩
theorem IsL.ext {w w' : World} {g : Nat} (h : IsL w g) (k : Ext w w') : IsL w' g := by obtain ⟨s, A, n, c, h⟩ := h; exact ⟨s, A, n, c, h.ext k⟩
theorem IsL.alloc {w : World} {g : Nat} (h : IsL w g) (o : Obj) : IsL (w.alloc o) g := h.ext ((Ext.refl w).alloc o)
theorem IsL.drew {w : World} {g : Nat} (h : IsL w g) : IsL w.drew g := h
theorem IsL.other {w : World} {g : Nat} (h : IsL w g) {p : Addr} (hp : g ≠ p.block) (u : Value) : IsL (w.setCell p u) g := by
 obtain ⟨s, A, n, c, h⟩ := h
 exact ⟨s, A, n, c, (Below.heap_setCell w p u g hp).trans h⟩
theorem IsL.loc {w : World} {g : Nat} (h : IsL w g) (s' : Bool) (A' : Option Addr) (n' c' : Nat) : Loc ((w.setCell ⟨g, 0, none⟩ (.bool s')).setCell ⟨g, 1, none⟩ (.slice A' n' c')) g s' A' n' c' := by
 obtain ⟨s, A, n, c, h⟩ := h; exact h.set s' A' n' c'
theorem IsL.set0 {w : World} {g : Nat} (h : IsL w g) (s' : Bool) : IsL (w.setCell ⟨g, 0, none⟩ (.bool s')) g := by
 obtain ⟨s, A, n, c, h⟩ := h
 refine ⟨s', A, n, c, ?_⟩
 unfold Loc at *
 simp [World.setCell, Array.getElem?_modify, h]
theorem IsL.set1 {w : World} {g : Nat} (h : IsL w g) (A' : Option Addr) (n' c' : Nat) : IsL (w.setCell ⟨g, 1, none⟩ (.slice A' n' c')) g := by
 obtain ⟨s, A, n, c, h⟩ := h
 refine ⟨s, A', n', c', ?_⟩
 unfold Loc at *
 simp [World.setCell, Array.getElem?_modify, h]
theorem IsL.nw {w : World} {g : Nat} (h : IsL w g) (o : Nat) : ∀ x, w.cell? ⟨g, o, none⟩ ≠ some (.int .u32 x) := by
 obtain ⟨s, A, n, c, h⟩ := h
 intro x
 have h' : w.heap[g]? = some (.cells #[.bool s, .slice A n c] 24) := h
 simp only [World.cell?, h']
 rcases o with _ | _ | o <;> simp
theorem Loc.other {w : World} {g : Nat} {s : Bool} {A : Option Addr} {n c : Nat} (h : Loc w g s A n c) {p : Addr} (hp : g ≠ p.block) (u : Value) : Loc (w.setCell p u) g s A n c := (Below.heap_setCell w p u g hp).trans h
theorem Loc.cell0 {w : World} {g : Nat} {s : Bool} {A : Option Addr} {n c : Nat} (h : Loc w g s A n c) : w.cell? ⟨g, 0, none⟩ = some (.bool s) := by
 have h' : w.heap[g]? = some (.cells #[.bool s, .slice A n c] 24) := h
 simp [World.cell?, h']
theorem Loc.cell1 {w : World} {g : Nat} {s : Bool} {A : Option Addr} {n c : Nat} (h : Loc w g s A n c) : w.cell? ⟨g, 1, none⟩ = some (.slice A n c) := by
 have h' : w.heap[g]? = some (.cells #[.bool s, .slice A n c] 24) := h
 simp [World.cell?, h']
theorem Loc.frozen {w : World} {g : Nat} {s : Bool} {A : Option Addr} {n c : Nat} (h : Loc w g s A n c) (o : Nat) : w.frozen? ⟨g, o, none⟩ = false := by
 have h' : w.heap[g]? = some (.cells #[.bool s, .slice A n c] 24) := h
 simp [World.frozen?, h']
theorem LC {P : Prop} (h : P := by (repeat (first | (with_reducible assumption) | (with_reducible refine Loc.new' _ _ _ _ _ _ ?_; (first | (with_reducible rfl) | (simp only [SA, World.size_drew]; done))) | (with_reducible refine IsL.loc ?_ _ _ _ _) | (with_reducible refine IsL.set0 ?_ _) | (with_reducible refine IsL.set1 ?_ _ _ _) | (with_reducible refine IsL.new' _ _ _ _ _ _ ?_; (first | (with_reducible rfl) | (simp only [SA, World.size_drew]; done))) | (with_reducible refine IsL.alloc ?_ _) | (with_reducible refine IsL.drew ?_) | (with_reducible refine IsL.other ?_ (by simp only; omega) _) | (with_reducible refine IsL.ext ?_ (by with_reducible assumption)) | (with_reducible refine Loc.alloc ?_ _) | (with_reducible refine Loc.drew ?_) | (with_reducible refine Loc.other ?_ (by simp only; omega) _) | (with_reducible refine Loc.ext ?_ (by with_reducible assumption))))) : P := h
theorem KL {a b : World} (h : Za a b := by (repeat (first | (with_reducible exact Za.refl _) | (with_reducible refine Za.alloc ?_ _) | (with_reducible refine Za.drewN ?_ _) | (with_reducible refine Za.drew ?_) | (with_reducible exact Ext.keeps (by with_reducible assumption)) | (with_reducible refine Za.trans ?_ (Ext.keeps (by with_reducible assumption))) | (with_reducible refine Za.setCell ?_ (IsL.nw LC _) _)))) : Za a b := h
theorem Z2V (s1 s2 : Bool) (A1 A2 : Option Addr) (n1 c1 n2 c2 : Nat) (x y : Int) (w : World) (h1 : IAt w s1 A1 n1 c1 x) (h2 : IAt w s2 A2 n2 c2 y) (hs1 : n1 + 2 < Z8) (hs2 : n2 + 2 < Z8) :
  Ca 128 #[.agg #[.bool s1, .slice A1 n1 c1], .agg #[.bool s2, .slice A2 n2 c2]] w (Z1F w ((Int.gcd x y : Nat) : Int)) := by
 have H1 := zH h1
 have H2 := zH h2
 have hs1' : n1 ≤ Z8 := by omega
 have hs2' : n2 ≤ Z8 := by omega
 obtain ⟨G, hGG⟩ : ∃ G, Int.gcd x y = G := ⟨_, rfl⟩
 rw [hGG]
 have HGG := zH hGG
 clear h1 h2 hGG
 go_enter func128, ntmps128
 go_wp2_with (go_at_call 201; (with_reducible refine (Z0o s1 s2 A1 A2 n1 c1 n2 c2 _ x y _ (H1.out.ext EX) (H2.out.ext EX) hs1' hs2' (by simp [go_sem]) (by simp [go_sem]) (by simp [go_sem]) (by simp [go_sem])).mono ?_); rintro e w1 ⟨rfl, hbw1⟩; (try clear hc hf); obtain ⟨hBw1, hc, hf⟩ := EC3 w1 w)
 have hsz1 := hBw1.size
 simp only [World.size_alloc] at hsz1
 have z0 : w.heap.size < w1.heap.size := by omega
 have z1 : w.heap.size + 1 < w1.heap.size := by omega
 have m0 : zC w1 w.heap.size 0 (.bool s1) := by simp [go_sem, hc]
 have m1 : zC w1 w.heap.size 1 (.slice A1 n1 c1) := by simp [go_sem, hc]
 have m2 : zC w1 (w.heap.size + 1) 0 (.bool s2) := by simp [go_sem, hc]
 have m3 : zC w1 (w.heap.size + 1) 1 (.slice A2 n2 c2) := by simp [go_sem, hc]
 go_cut [5, 6] (fun p5 p6 wx => ∃ g5 g6 sa Aa na ca sb Ab nb cb, p5 = .pointer (some ⟨g5, 0, none⟩) ∧ p6 = .pointer (some ⟨g6, 0, none⟩) ∧ Loc wx g5 sa Aa na ca ∧ Loc wx g6 sb Ab nb cb ∧ g5 ≠ g6 ∧ w.heap.size + 3 ≤ g5 ∧ w.heap.size + 3 ≤ g6 ∧ IAt wx sa Aa na ca ((x.natAbs : Nat) : Int) ∧ IAt wx sb Ab nb cb ((y.natAbs : Nat) : Int) ∧ Ext w1 wx)
 case first =>
  go_region_held3 (fun w' => zC w' w.heap.size 0 (.bool s1) ∧ zC w' w.heap.size 1 (.slice A1 n1 c1) ∧ zC w' (w.heap.size + 1) 0 (.bool s2) ∧ zC w' (w.heap.size + 1) 1 (.slice A2 n2 c2)) (first | (exact HXC) | (simp [go_sem, *]; done) | simp [go_sem, hc]) (first | (go_at_call 203; (with_reducible refine (Z41 s1 A1 n1 c1 x _ (H1.out.ext EX) hs1').mono ?_); rintro e w5 ⟨sw5, Aw5, nw5, cw5, rfl, hIw5, hbw5⟩; obtain ⟨hcw5, hfw5⟩ := hbw5.cells; (try simp only [SA, Nat.add_assoc, Nat.reduceAdd] at hcw5 hfw5); have hxl := hbw5; have hx15 : Ext w1 w5 := EX; have k0 := hx15.cell m0; have k1 := hx15.cell m1; have k2 := hx15.cell m2; have k3 := hx15.cell m3; have hsz5 := hbw5.sz; have z2 : w.heap.size < w5.heap.size := (by omega); have z3 : w.heap.size + 1 < w5.heap.size := (by omega); (try have z4 : w1.heap.size < w5.heap.size := (by omega)); (try have z5 : w1.heap.size + 1 < w5.heap.size := (by omega))) | (go_at_call 203; (with_reducible refine (Z41 s2 A2 n2 c2 y _ (H2.out.ext EX) hs2').mono ?_); rintro e w6 ⟨sw6, Aw6, nw6, cw6, rfl, hIw6, hbw6⟩; obtain ⟨hcw6, hfw6⟩ := hbw6.cells; (try simp only [SA, Nat.add_assoc, Nat.reduceAdd] at hcw6 hfw6); have hxl := hbw6; have hx16 : Ext w1 w6 := EX; have j0 := hx16.cell m0; have j1 := hx16.cell m1; have j2 := hx16.cell m2; have j3 := hx16.cell m3; have hsz6 := hbw6.sz; have y2 : w.heap.size < w6.heap.size := (by omega); have y3 : w.heap.size + 1 < w6.heap.size := (by omega); (try have y4 : w1.heap.size < w6.heap.size := (by omega)); (try have y5 : w1.heap.size + 1 < w6.heap.size := (by omega)); (try have y6 : w5.heap.size < w6.heap.size := (by omega)); (try have y7 : w5.heap.size + 1 < w6.heap.size := (by omega))))
  all_goals clear hxl hx15
  all_goals go_wp2_with fail
  all_goals go_meet
  all_goals go_light
  all_goals clear hx16
  all_goals exact ⟨_, _, sw5, Aw5, nw5, cw5, sw6, Aw6, nw6, cw6, rfl, rfl, LC, LC, (by omega), (by omega), (by omega), hIw5.keep KL, hIw6.keep KL, EX⟩
 case rest =>
  obtain ⟨g5, g6, sa, Aa, na, ca, sb, Ab, nb', cb, rfl, rfl, hL5, hL6, hne, hg5, hg6, hIa, hIb, hx1⟩ := hcut
  have hne' : g6 ≠ g5 := fun e => hne e.symm
  have hR4 : IsL wc (w.heap.size + 1 + 1) := (IsL.new' _ _ _ _ _ _ (by simp only [World.size_alloc])).ext (hBw1.trans hx1)
  have hxw : Ext w wc := by exact EX
  have hwa : wl ((x.natAbs : Nat) : Int) ≤ n1 := by rw [H1.out.wl]; exact ZG (by simp)
  have hwb : wl ((y.natAbs : Nat) : Int) ≤ n2 := by rw [H2.out.wl]; exact ZG (by simp)
  have hna := hIa.wl
  have hnb := hIb.wl
  have hG : Nat.gcd x.natAbs y.natAbs = G := HGG.out
  have HI : Hid (∃ (X Y : Nat) (sa : Bool) (Aa : Option Addr) (na ca : Nat) (sb : Bool) (Ab : Option Addr) (nb cb : Nat), y.natAbs = Y ∧ Loc wc g5 sa Aa na ca ∧ Loc wc g6 sb Ab nb cb ∧ IAt wc sa Aa na ca (X : Int) ∧ IAt wc sb Ab nb cb (Y : Int) ∧ Nat.gcd X Y = G ∧ na + 2 < Z8 ∧ nb + 2 < Z8 ∧ IsL wc (w.heap.size + 1 + 1) ∧ Ext w wc) :=
   ⟨_, _, _, _, _, _, _, _, _, _, rfl, hL5, hL6, hIa, hIb, hG, by omega, by omega, hR4, hxw⟩
  clear hL5 hL6 hIa hIb hG hR4 hxw hna hnb hwa hwb hx1 m0 m1 m2 m3 hc hf z0 z1 hsz1 hbw1 hBw1 H1 H2
  go_wp2_with fail
  go_loopg [7] y.natAbs (fun k _ wr => ∃ (X Y : Nat) (sa : Bool) (Aa : Option Addr) (na ca : Nat) (sb : Bool) (Ab : Option Addr) (nb cb : Nat), k = Y ∧ Loc wr g5 sa Aa na ca ∧ Loc wr g6 sb Ab nb cb ∧ IAt wr sa Aa na ca (X : Int) ∧ IAt wr sb Ab nb cb (Y : Int) ∧ Nat.gcd X Y = G ∧ na + 2 < Z8 ∧ nb + 2 < Z8 ∧ IsL wr (w.heap.size + 1 + 1) ∧ Ext w wr)
  case atStart => exact HI.out
  case round =>
   obtain ⟨X, Y, sa, Aa, na, ca, sb, Ab, nb', cb, hgk, hLa, hLb, hIa, hIb, hG, hna, hnb, hR4, hxw⟩ := hrel
   have HIA := zH hIa
   have HIB := zH hIb
   have HG := zH hG
   have c5 := hLa.cell0
   have c5' := hLa.cell1
   have c6 := hLb.cell0
   have c6' := hLb.cell1
   have hz := hIb.zero_iff
   have hw2 := hxw.size
   clear HI hIa hIb hG
   by_cases hY : Y = 0
   ·have hnb0 : nb' = 0 := hz.2 (by omega)
    subst hY hnb0
    have hf4 : ∀ o, wr.frozen? ⟨w.heap.size + 1 + 1, o, none⟩ = false := by obtain ⟨_, _, _, _, h⟩ := hR4; exact h.frozen
    obtain ⟨s4, A4, n4, c4, h4⟩ := hR4
    have c4' := h4.cell0
    have c4'' := h4.cell1
    clear hz
    go_wp2_with fail
    refine bodyPost_ret (v := .agg #[.bool sa, .slice Aa na ca]) (by simp [results, results128, go_sem, c4', c4'', Z6]) rfl ⟨_, _, _, _, rfl, ?_, EX⟩
    have hh := HG.out
    rw [Nat.gcd_zero_right] at hh
    rw [← hh]
    have h4' : IsL wr (w.heap.size + 1 + 1) := ⟨_, _, _, _, h4⟩
    exact HIA.out.keep KL
   ·have hnb0 : 0 < nb' := by
     rcases Nat.eq_zero_or_pos nb' with e | e
     ·have := hz.1 e; omega
     ·exact e
    clear hz
    by_cases hs : na ≤ 2 ∧ nb' ≤ 2
    ·obtain ⟨hsa, hsb⟩ := hs
     have hXv : val (Z7 (X : Int).natAbs) = X := by rw [Z9]; simp
     have hYv : val (Z7 (Y : Int).natAbs) = Y := by rw [Z9]; simp
     have hXb := Z3y (Z0f (X : Int).natAbs) (by rw [← HIA.out.rep.len]; exact hsa)
     have hYb := Z3y (Z0f (Y : Int).natAbs) (by rw [← HIB.out.rep.len]; exact hsb)
     have HPX := zH (fun W (k : WAt W Aa na ca (Z7 (X : Int).natAbs)) => Z0l Aa na ca _ W k hsa)
     have HPY := zH (fun W (k : WAt W Ab nb' cb (Z7 (Y : Int).natAbs)) => Z0l Ab nb' cb _ W k hsb)
     rw [hXv] at HPX hXb
     rw [hYv] at HPY hYb
     have HXB := zH hXb
     have HYB := zH hYb
     clear hXv hYv hXb hYb
     go_wp2_with (
      first
      | (go_at_call 204; (with_reducible refine (HPX.out _ (HIA.out.rep.ext EX)).mono ?_); rintro e w7 ⟨rfl, hbw7⟩; have p7 := (hLb.ext hbw7).cell0; have p7' := (hLb.ext hbw7).cell1; have o7 := (hLa.ext hbw7).cell0; have o7' := (hLa.ext hbw7).cell1)
      | (go_at_call 204; (with_reducible refine (HPY.out _ (HIB.out.rep.ext EX)).mono ?_); rintro e w8 ⟨rfl, hbw8⟩))
     have hx8 : Ext w w8 := (hxw.trans hbw7).trans hbw8
     have hR8 : IsL w8 (w.heap.size + 1 + 1) := (hR4.ext hbw7).ext hbw8
     clear p7 p7' o7 o7' c5 c5' c6 c6'
     go_loopw [7, 9] (fun mv nv wq => ∃ a b : Nat, mv = .int .u64 (a : Int) ∧ nv = .int .u64 (b : Int) ∧ Nat.gcd a b = G ∧ Hid (a < 18446744073709551616 ∧ b < 18446744073709551616) ∧ ∃ q, wq = w8.drewN q) (fun _ nv _ => (intOf nv).toNat)
     case atStart => exact ⟨X, Y, rfl, rfl, HG.out, ⟨HXB.out, HYB.out⟩, 0, rfl⟩
     case round =>
      obtain ⟨a, b, rfl, rfl, hab, hB, q, rfl⟩ := hrel
      have HAB := zH hab
      clear hab
      by_cases hb0 : b = 0
      ·subst hb0
       have e := HAB.out
       rw [Nat.gcd_zero_right] at e
       subst e
       have hf4 : ∀ o, w8.frozen? ⟨w.heap.size + 1 + 1, o, none⟩ = false := by obtain ⟨_, _, _, _, h⟩ := hR8; exact h.frozen
       go_wp2_with (go_at_call 205; (with_reducible refine (Z1r false a _ hB.out.1).mono ?_); rintro e w9 ⟨sw9, Aw9, nw9, cw9, rfl, hIw9, hbw9⟩; have hR9 : IsL w9 (w.heap.size + 1 + 1) := (hR8.ext ((Ext.refl w8).drewN q)).ext hbw9; have hf9 : ∀ o, w9.frozen? ⟨w.heap.size + 1 + 1, o, none⟩ = false := (by obtain ⟨_, _, _, _, h⟩ := hR9; exact h.frozen); obtain ⟨s4, A4, n4, c4, h4⟩ := hR9; have k4 := h4.cell0; have k4' := h4.cell1)
       have hR9 : IsL w9 (w.heap.size + 1 + 1) := ⟨_, _, _, _, h4⟩
       refine bodyPost_ret (v := .agg #[.bool sw9, .slice Aw9 nw9 cw9]) (by simp [results, results128, go_sem, k4, k4', Z6]) rfl ⟨_, _, _, _, rfl, IAt.keep hIw9 KL, EX⟩
      ·have hbz : ((b : Int) == 0) = false := by simp; omega
       have hbp : 0 < (b : Int) := by omega
       have hst : Nat.gcd b (a % b) = G := by rw [Nat.gcd_comm, ← Nat.gcd_rec, Nat.gcd_comm]; exact HAB.out
       have hlt : a % b < b := Nat.mod_lt _ (by omega)
       have hB2 : Hid (b < 18446744073709551616 ∧ a % b < 18446744073709551616) := ⟨hB.out.2, Nat.lt_trans hlt hB.out.2⟩
       have HST := zH hst
       have HLT := zH hlt
       have em : Int.tmod (a : Int) (b : Int) = ((a % b : Nat) : Int) := by rw [Int.tmod_eq_emod_of_nonneg (by omega), ← Int.natCast_emod]
       clear hst hlt
       go_wp2_with fail
       go_region
       go_wp2_with fail
       have ee : ((a : Int) % (b : Int)) = ((a % b : Nat) : Int) := (Int.natCast_emod a b).symm
       rw [ee]
       go_roundw
       case measure => show (((a % b : Nat) : Int)).toNat < ((b : Int)).toNat; rw [Int.toNat_natCast, Int.toNat_natCast]; exact HLT.out
       case rel => exact ⟨b, a % b, rfl, rfl, HST.out, hB2, q + 1, rfl⟩
    ·rcases (show (na ≤ 2 ∧ ¬ nb' ≤ 2) ∨ (¬ na ≤ 2 ∧ nb' ≤ 2) ∨ (¬ na ≤ 2 ∧ ¬ nb' ≤ 2) by omega) with ⟨hsa, hsb⟩ | ⟨hsa, hsb⟩ | ⟨hsa, hsb⟩
     all_goals (
      go_wp2_with (
       first
       | (go_at_call 204; (with_reducible refine (Z0l Aa na ca _ _ (HIA.out.rep.ext EX) hsa).mono ?_); rintro e w7 ⟨rfl, hbw7⟩; have p7 := (hLb.ext hbw7).cell0; have p7' := (hLb.ext hbw7).cell1; have o7 := (hLa.ext hbw7).cell0; have o7' := (hLa.ext hbw7).cell1)
       | (go_at_call 204; (with_reducible refine (Z1q Aa na ca _ _ (HIA.out.rep.ext EX) (by omega) hsa).mono ?_); rintro e w7 ⟨rfl, hbw7⟩; have p7 := (hLb.ext hbw7).cell0; have p7' := (hLb.ext hbw7).cell1; have o7 := (hLa.ext hbw7).cell0; have o7' := (hLa.ext hbw7).cell1)
       | (go_at_call 204; (with_reducible refine (Z0l Ab nb' cb _ _ (HIB.out.rep.ext EX) hsb).mono ?_); rintro e w8 ⟨rfl, hbw8⟩; have p8 := ((hLb.ext hbw7).ext hbw8).cell0; have p8' := ((hLb.ext hbw7).ext hbw8).cell1; have o8 := ((hLa.ext hbw7).ext hbw8).cell0; have o8' := ((hLa.ext hbw7).ext hbw8).cell1)
       | (go_at_call 204; (with_reducible refine (Z1q Ab nb' cb _ _ (HIB.out.rep.ext EX) (by omega) hsb).mono ?_); rintro e w8 ⟨rfl, hbw8⟩; have p8 := ((hLb.ext hbw7).ext hbw8).cell0; have p8' := ((hLb.ext hbw7).ext hbw8).cell1; have o8 := ((hLa.ext hbw7).ext hbw8).cell0; have o8' := ((hLa.ext hbw7).ext hbw8).cell1)
       | (go_at_call 206; (with_reducible refine (Z1C Aa Ab na ca nb' cb _ _ _ (HIA.out.rep.ext EX) (HIB.out.rep.ext EX) (by omega) (by omega) (Zb _) (Zb _) (by rw [Z9]; simp; omega)).mono ?_); rintro e w9 ⟨A9, n9, c9, l9, B9, m9, d9, j9, rfl, hI9, hv9, hn9, hJ9, hu9, hm9, hbw9⟩; have p9 := (((hLb.ext hbw7).ext hbw8).ext hbw9).cell0; have p9' := (((hLb.ext hbw7).ext hbw8).ext hbw9).cell1; have HJ9 := zH hJ9; have HU9 := zH hu9; clear hI9 hv9 hJ9 hu9))
      refine Z1B 4 (fun w' => w'.cell? ⟨g6, 0, none⟩ = some (.bool sb) ∧ w'.cell? ⟨g6, 1, none⟩ = some (.slice Ab nb' cb)) Z0a ⟨by simp [go_sem, p9], by simp [go_sem, p9']⟩ fun hHeld => ?_
      refine TU 0 ?_; refine TU 1 ?_
      refine R1U 2 fun K hK => ?_
      go_simp
      refine (Zs false B9 m9 d9 j9 _ (HJ9.out.ext EX) (by omega)).mono ?_; rintro e wa ⟨swa, Awa, nwa, cwa, rfl, hIwa, hbwa⟩; have pa := ((((hLb.ext hbw7).ext hbw8).ext hbw9).drew.ext hbwa).cell0; have pa' := ((((hLb.ext hbw7).ext hbw8).ext hbw9).drew.ext hbwa).cell1; have oa := ((((hLa.ext hbw7).ext hbw8).ext hbw9).drew.ext hbwa).cell0; have oa' := ((((hLa.ext hbw7).ext hbw8).ext hbw9).drew.ext hbwa).cell1; have qa := ((((hLa.ext hbw7).ext hbw8).ext hbw9).drew.ext hbwa).frozen; have ra := ((((hLb.ext hbw7).ext hbw8).ext hbw9).drew.ext hbwa).frozen
      refine KU hK (fun hHeld => ?_) ⟨pa, pa'⟩; clear hK K
      refine R1U 3 fun K hK => ?_
      go_simp
      refine KU hK (fun hHeld => ?_) ⟨by simp [go_sem, pa, hne'], by simp [go_sem, pa', hne']⟩; clear hK K
      refine RDU [4] (ARL fun K hK => ?_)
      go_simp
      refine KUL hK ?_; clear hK K
      refine Z0d.done (by kernel_rfl) ?_ _
      dsimp only [ZW]
      clear hHeld
      go_wp2_with fail
      have i5 : IsL wr g5 := ⟨_, _, _, _, hLa⟩
      have i6 : IsL wr g6 := ⟨_, _, _, _, hLb⟩
      have hE : sgd false (val j9) = ((X % Y : Nat) : Int) := (by rw [HU9.out, Z9, Z9]; rfl)
      rw [hE] at hIwa
      have hYp : X % Y < Y := Nat.mod_lt _ (by omega)
      have hnw : nwa + 2 < Z8 := (by have a1 := hIwa.wl; have a2 := HIB.out.wl; have a3 := ZG (a := ((X % Y : Nat) : Int)) (b := (Y : Int)) (by simp; omega); omega)
      have hGn : Nat.gcd Y (X % Y) = G := (by rw [Nat.gcd_comm, ← Nat.gcd_rec, Nat.gcd_comm]; exact HG.out)
      clear p7 p7' o7 o7' p8 p8' o8 o8' p9 p9' pa pa' oa oa' qa ra c5 c5' c6 c6'
      go_roundg (X % Y)
      all_goals first
       | (rw [hgk]; exact hYp)
       | exact ⟨Y, X % Y, _, _, _, _, _, _, _, _, rfl, LC, LC, HIB.out.keep KL, hIwa.keep KL, hGn, hnb, hnw, LC, EX⟩)
theorem Z2T (s1 s2 : Bool) (A1 A2 : Option Addr) (n1 c1 n2 c2 : Nat) (x y : Int) (w : World) (h1 : IAt w s1 A1 n1 c1 x) (h2 : IAt w s2 A2 n2 c2 y) (hs1 : n1 + 4 < Z8) (hs2 : n2 + 4 < Z8) :
  Ca 78 #[.agg #[.bool s1, .slice A1 n1 c1], .agg #[.bool s2, .slice A2 n2 c2]] w (Z1F w ((Int.gcd x y : Nat) : Int)) := by
 have H1 := zH h1
 have H2 := zH h2
 have hs1' : n1 ≤ Z8 := by omega
 have hs2' : n2 ≤ Z8 := by omega
 obtain ⟨G, hGG⟩ : ∃ G, Int.gcd x y = G := ⟨_, rfl⟩
 rw [hGG]
 have HGG := zH hGG
 clear h1 h2 hGG
 go_enter func78, ntmps78
 go_wp2_with (
  first
  | (go_at_call 75; (with_reducible refine (Zf s1 A1 n1 c1 x _ (H1.out.ext EX) hs1').mono ?_); rintro e w0 ⟨rfl, hbw0⟩; (try clear hc hf); obtain ⟨hBw0, hc, hf⟩ := EC3 w0 w)
  | (go_at_call 75; (with_reducible refine (Zf s2 A2 n2 c2 y _ (H2.out.ext EX) hs2').mono ?_); rintro e w1 ⟨rfl, hbw1⟩; (try clear hc hf); obtain ⟨hBw1, hc, hf⟩ := EC3 w1 w))
 have hsz1 := hBw1.size
 simp only [World.size_alloc] at hsz1
 have z0 : w.heap.size < w1.heap.size := by omega
 have z1 : w.heap.size + 1 < w1.heap.size := by omega
 have m0 : zC w1 w.heap.size 0 (.bool s1) := by simp [go_sem, hc]
 have m1 : zC w1 w.heap.size 1 (.slice A1 n1 c1) := by simp [go_sem, hc]
 have m2 : zC w1 (w.heap.size + 1) 0 (.bool s2) := by simp [go_sem, hc]
 have m3 : zC w1 (w.heap.size + 1) 1 (.slice A2 n2 c2) := by simp [go_sem, hc]
 go_cut [5, 6] (fun p5 p6 wx => ∃ g5 g6 sa Aa na ca sb Ab nb cb, p5 = .pointer (some ⟨g5, 0, none⟩) ∧ p6 = .pointer (some ⟨g6, 0, none⟩) ∧ Loc wx g5 sa Aa na ca ∧ Loc wx g6 sb Ab nb cb ∧ g5 ≠ g6 ∧ w.heap.size + 3 ≤ g5 ∧ w.heap.size + 3 ≤ g6 ∧ IAt wx sa Aa na ca ((x.natAbs : Nat) : Int) ∧ IAt wx sb Ab nb cb ((y.natAbs : Nat) : Int) ∧ Ext w1 wx)
 case first =>
  go_region_held3 (fun w' => zC w' w.heap.size 0 (.bool s1) ∧ zC w' w.heap.size 1 (.slice A1 n1 c1) ∧ zC w' (w.heap.size + 1) 0 (.bool s2) ∧ zC w' (w.heap.size + 1) 1 (.slice A2 n2 c2)) (first | (exact HXC) | (simp [go_sem, *]; done) | simp [go_sem, hc]) (first | (go_at_call 145; (with_reducible refine (Z6a s1 A1 n1 c1 x _ (H1.out.ext EX) hs1').mono ?_); rintro e w5 ⟨sw5, Aw5, nw5, cw5, rfl, hIw5, hbw5⟩; obtain ⟨hcw5, hfw5⟩ := hbw5.cells; (try simp only [SA, Nat.add_assoc, Nat.reduceAdd] at hcw5 hfw5); have hxl := hbw5; have hx15 : Ext w1 w5 := EX; have k0 := hx15.cell m0; have k1 := hx15.cell m1; have k2 := hx15.cell m2; have k3 := hx15.cell m3; have hsz5 := hbw5.sz; have z2 : w.heap.size < w5.heap.size := (by omega); have z3 : w.heap.size + 1 < w5.heap.size := (by omega); (try have z4 : w1.heap.size < w5.heap.size := (by omega)); (try have z5 : w1.heap.size + 1 < w5.heap.size := (by omega))) | (go_at_call 145; (with_reducible refine (Z6a s2 A2 n2 c2 y _ (H2.out.ext EX) hs2').mono ?_); rintro e w6 ⟨sw6, Aw6, nw6, cw6, rfl, hIw6, hbw6⟩; obtain ⟨hcw6, hfw6⟩ := hbw6.cells; (try simp only [SA, Nat.add_assoc, Nat.reduceAdd] at hcw6 hfw6); have hxl := hbw6; have hx16 : Ext w1 w6 := EX; have j0 := hx16.cell m0; have j1 := hx16.cell m1; have j2 := hx16.cell m2; have j3 := hx16.cell m3; have hsz6 := hbw6.sz; have y2 : w.heap.size < w6.heap.size := (by omega); have y3 : w.heap.size + 1 < w6.heap.size := (by omega); (try have y4 : w1.heap.size < w6.heap.size := (by omega)); (try have y5 : w1.heap.size + 1 < w6.heap.size := (by omega)); (try have y6 : w5.heap.size < w6.heap.size := (by omega)); (try have y7 : w5.heap.size + 1 < w6.heap.size := (by omega))))
  all_goals clear hxl hx15
  all_goals go_wp2_with fail
  all_goals go_meet
  all_goals go_light
  all_goals clear hx16
  all_goals exact ⟨_, _, sw5, Aw5, nw5, cw5, sw6, Aw6, nw6, cw6, rfl, rfl, LC, LC, (by omega), (by omega), (by omega), hIw5.keep KL, hIw6.keep KL, EX⟩
 case rest =>
  obtain ⟨g5, g6, sa, Aa, na, ca, sb, Ab, nb', cb, rfl, rfl, hL5, hL6, hne, hg5, hg6, hIa, hIb, hx1⟩ := hcut
  have hne' : g6 ≠ g5 := fun e => hne e.symm
  have hR4 : IsL wc (w.heap.size + 1 + 1) := (IsL.new' _ _ _ _ _ _ (by simp only [World.size_alloc])).ext (hBw1.trans hx1)
  have hxw : Ext w wc := by exact EX
  have hwa : wl ((x.natAbs : Nat) : Int) ≤ n1 := by rw [H1.out.wl]; exact ZG (by simp)
  have hwb : wl ((y.natAbs : Nat) : Int) ≤ n2 := by rw [H2.out.wl]; exact ZG (by simp)
  have hna := hIa.wl
  have hnb := hIb.wl
  have hG : Nat.gcd x.natAbs y.natAbs = G := HGG.out
  have HI : Hid (∃ (X Y : Nat) (sa : Bool) (Aa : Option Addr) (na ca : Nat) (sb : Bool) (Ab : Option Addr) (nb cb : Nat), y.natAbs = Y ∧ Loc wc g5 sa Aa na ca ∧ Loc wc g6 sb Ab nb cb ∧ IAt wc sa Aa na ca (X : Int) ∧ IAt wc sb Ab nb cb (Y : Int) ∧ Nat.gcd X Y = G ∧ na + 4 < Z8 ∧ nb + 4 < Z8 ∧ IsL wc (w.heap.size + 1 + 1) ∧ Ext w wc) :=
   ⟨_, _, _, _, _, _, _, _, _, _, rfl, hL5, hL6, hIa, hIb, hG, by omega, by omega, hR4, hxw⟩
  clear hL5 hL6 hIa hIb hG hR4 hxw hna hnb hwa hwb hx1 m0 m1 m2 m3 hc hf z0 z1 hsz1 hbw1 hBw1 H1 H2
  go_wp2_with fail
  go_loopg [7] y.natAbs (fun k _ wr => ∃ (X Y : Nat) (sa : Bool) (Aa : Option Addr) (na ca : Nat) (sb : Bool) (Ab : Option Addr) (nb cb : Nat), k = Y ∧ Loc wr g5 sa Aa na ca ∧ Loc wr g6 sb Ab nb cb ∧ IAt wr sa Aa na ca (X : Int) ∧ IAt wr sb Ab nb cb (Y : Int) ∧ Nat.gcd X Y = G ∧ na + 4 < Z8 ∧ nb + 4 < Z8 ∧ IsL wr (w.heap.size + 1 + 1) ∧ Ext w wr)
  case atStart => exact HI.out
  case round =>
   obtain ⟨X, Y, sa, Aa, na, ca, sb, Ab, nb', cb, hgk, hLa, hLb, hIa, hIb, hG, hna, hnb, hR4, hxw⟩ := hrel
   have HIA := zH hIa
   have HIB := zH hIb
   have HG := zH hG
   have c5 := hLa.cell0
   have c5' := hLa.cell1
   have c6 := hLb.cell0
   have c6' := hLb.cell1
   have hz := hIb.zero_iff
   have hw2 := hxw.size
   clear HI hIa hIb hG
   by_cases hY : Y = 0
   ·have hnb0 : nb' = 0 := hz.2 (by omega)
    subst hY hnb0
    have hf4 : ∀ o, wr.frozen? ⟨w.heap.size + 1 + 1, o, none⟩ = false := by obtain ⟨_, _, _, _, h⟩ := hR4; exact h.frozen
    obtain ⟨s4, A4, n4, c4, h4⟩ := hR4
    have c4' := h4.cell0
    have c4'' := h4.cell1
    clear hz
    go_wp2_with fail
    refine bodyPost_ret (v := .agg #[.bool sa, .slice Aa na ca]) (by simp [results, results78, go_sem, c4', c4'', Z6]) rfl ⟨_, _, _, _, rfl, ?_, EX⟩
    have hh := HG.out
    rw [Nat.gcd_zero_right] at hh
    rw [← hh]
    have h4' : IsL wr (w.heap.size + 1 + 1) := ⟨_, _, _, _, h4⟩
    exact HIA.out.keep KL
   ·have hnb0 : 0 < nb' := by
     rcases Nat.eq_zero_or_pos nb' with e | e
     ·have := hz.1 e; omega
     ·exact e
    clear hz
    have NX := zH (fun W (k : IAt W sa Aa na ca (X : Int)) => ZM sa Aa na ca (X : Int) W k (by omega))
    have NY := zH (fun W (k : IAt W sb Ab nb' cb (Y : Int)) => ZM sb Ab nb' cb (Y : Int) W k (by omega))
    obtain ⟨b1, hb1⟩ : ∃ b, Z18 (X : Int) = b := ⟨_, rfl⟩
    obtain ⟨b2, hb2⟩ : ∃ b, Z18 (Y : Int) = b := ⟨_, rfl⟩
    rw [hb1] at NX
    rw [hb2] at NY
    by_cases hbb : (b1 && b2) = true
    ·have hbb' : b1 = true ∧ b2 = true := by simpa using hbb
     obtain ⟨rfl, rfl⟩ := hbb'
     have hXn : Zab (X : Int) = X := by unfold Zab; rw [if_pos hb1]
     have hYn : Zab (Y : Int) = Y := by unfold Zab; rw [if_pos hb2]
     rw [hXn] at NX
     rw [hYn] at NY
     have hXb : (X : Int) ≤ 4611686018427387903 := by have := of_decide_eq_true hb1; omega
     have hYb : (Y : Int) ≤ 4611686018427387903 := by have := of_decide_eq_true hb2; omega
     clear hb1 hb2 hXn hYn hbb
     go_wp2_with (
      first
      | (go_at_call 146; (with_reducible refine (NX.out _ (HIA.out.ext EX)).mono ?_); rintro e w7 ⟨rfl, hbw7⟩; have p7 := (hLb.ext hbw7).cell0; have p7' := (hLb.ext hbw7).cell1; have o7 := (hLa.ext hbw7).cell0; have o7' := (hLa.ext hbw7).cell1)
      | (go_at_call 146; (with_reducible refine (NY.out _ (HIB.out.ext EX)).mono ?_); rintro e w8 ⟨rfl, hbw8⟩))
     have hx8 : Ext w w8 := (hxw.trans hbw7).trans hbw8
     have hR8 : IsL w8 (w.heap.size + 1 + 1) := (hR4.ext hbw7).ext hbw8
     clear p7 p7' o7 o7' c5 c5' c6 c6'
     go_loopw [7, 9] (fun mv nv wq => ∃ a b : Nat, mv = .int .i64 (a : Int) ∧ nv = .int .i64 (b : Int) ∧ Nat.gcd a b = G ∧ (a : Int) ≤ 4611686018427387903 ∧ (b : Int) ≤ 4611686018427387903 ∧ ∃ q, wq = w8.drewN q) (fun _ nv _ => (intOf nv).toNat)
     case atStart => exact ⟨X, Y, rfl, rfl, HG.out, hXb, hYb, 0, rfl⟩
     case round =>
      obtain ⟨a, b, rfl, rfl, hab, hBa, hBb, q, rfl⟩ := hrel
      have HAB := zH hab
      clear hab
      by_cases hb0 : b = 0
      ·subst hb0
       have e := HAB.out
       rw [Nat.gcd_zero_right] at e
       subst e
       have hf4 : ∀ o, w8.frozen? ⟨w.heap.size + 1 + 1, o, none⟩ = false := by obtain ⟨_, _, _, _, h⟩ := hR8; exact h.frozen
       go_wp2_with (go_at_call 93; (with_reducible refine (Zv (a : Int) _ (by omega) (by omega)).mono ?_); rintro e w9 ⟨sw9, Aw9, nw9, cw9, rfl, hIw9, hbw9⟩; have hR9 : IsL w9 (w.heap.size + 1 + 1) := (hR8.ext ((Ext.refl w8).drewN q)).ext hbw9; have hf9 : ∀ o, w9.frozen? ⟨w.heap.size + 1 + 1, o, none⟩ = false := (by obtain ⟨_, _, _, _, h⟩ := hR9; exact h.frozen); obtain ⟨s4, A4, n4, c4, h4⟩ := hR9; have k4 := h4.cell0; have k4' := h4.cell1)
       have hR9 : IsL w9 (w.heap.size + 1 + 1) := ⟨_, _, _, _, h4⟩
       refine bodyPost_ret (v := .agg #[.bool sw9, .slice Aw9 nw9 cw9]) (by simp [results, results78, go_sem, k4, k4', Z6]) rfl ⟨_, _, _, _, rfl, IAt.keep hIw9 KL, EX⟩
      ·have hbz : ((b : Int) == 0) = false := by simp; omega
       have hbp : 0 < (b : Int) := by omega
       have hst : Nat.gcd b (a % b) = G := by rw [Nat.gcd_comm, ← Nat.gcd_rec, Nat.gcd_comm]; exact HAB.out
       have hlt : a % b < b := Nat.mod_lt _ (by omega)
       have HST := zH hst
       have HLT := zH hlt
       have em : Int.tmod (a : Int) (b : Int) = ((a % b : Nat) : Int) := by rw [Int.tmod_eq_emod_of_nonneg (by omega), ← Int.natCast_emod]
       have hmb : ((a % b : Nat) : Int) ≤ 4611686018427387903 := by omega
       clear hst hlt
       go_wp2_with fail
       go_region
       go_wp2_with fail
       have ee : ((a : Int) % (b : Int)) = ((a % b : Nat) : Int) := (Int.natCast_emod a b).symm
       rw [ee]
       go_roundw
       case measure => show (((a % b : Nat) : Int)).toNat < ((b : Int)).toNat; rw [Int.toNat_natCast, Int.toNat_natCast]; exact HLT.out
       case rel => exact ⟨b, a % b, rfl, rfl, HST.out, hBb, hmb, q + 1, rfl⟩
    ·rcases (show b1 = false ∨ (b1 = true ∧ b2 = false) by cases b1 <;> cases b2 <;> simp at hbb ⊢) with hb1' | ⟨hb1', hb2'⟩
     all_goals (
      (try subst hb2')
      subst hb1'
      clear hb1 hb2 hbb
      go_wp2_with (
       first
       | (go_at_call 146; (with_reducible refine (NX.out _ (HIA.out.ext EX)).mono ?_); rintro e w7 ⟨rfl, hbw7⟩; have p7 := (hLb.ext hbw7).cell0; have p7' := (hLb.ext hbw7).cell1; have o7 := (hLa.ext hbw7).cell0; have o7' := (hLa.ext hbw7).cell1)
       | (go_at_call 146; (with_reducible refine (NY.out _ (HIB.out.ext EX)).mono ?_); rintro e w8 ⟨rfl, hbw8⟩; have p8 := ((hLb.ext hbw7).ext hbw8).cell0; have p8' := ((hLb.ext hbw7).ext hbw8).cell1; have o8 := ((hLa.ext hbw7).ext hbw8).cell0; have o8' := ((hLa.ext hbw7).ext hbw8).cell1))
      refine Z1B 5 (fun w' => w'.cell? ⟨g6, 0, none⟩ = some (.bool sb) ∧ w'.cell? ⟨g6, 1, none⟩ = some (.slice Ab nb' cb)) Z0a ⟨by simp [go_sem, p8], by simp [go_sem, p8']⟩ fun hHeld => ?_
      refine TU 0 ?_; refine TU 2 ?_
      refine R1U 1 fun K hK => ?_
      go_simp
      refine KU hK (fun hHeld => ?_) hHeld; clear hK K
      refine R1U 3 fun K hK => ?_
      go_simp
      refine (Z9M sa sb Aa Ab na ca nb' cb (X : Int) (Y : Int) _ (HIA.out.ext EX) (HIB.out.ext EX) hna hnb (by omega)).mono ?_; rintro e wa ⟨swa, Awa, nwa, cwa, rfl, hIwa, hbwa⟩; have pa := (((hLb.ext hbw7).ext hbw8).drew.ext hbwa).cell0; have pa' := (((hLb.ext hbw7).ext hbw8).drew.ext hbwa).cell1; have oa := (((hLa.ext hbw7).ext hbw8).drew.ext hbwa).cell0; have oa' := (((hLa.ext hbw7).ext hbw8).drew.ext hbwa).cell1; have qa := (((hLa.ext hbw7).ext hbw8).drew.ext hbwa).frozen; have ra := (((hLb.ext hbw7).ext hbw8).drew.ext hbwa).frozen
      refine KU hK (fun hHeld => ?_) ⟨pa, pa'⟩; clear hK K
      refine R1U 4 fun K hK => ?_
      go_simp
      refine KU hK (fun hHeld => ?_) ⟨by simp [go_sem, pa, hne'], by simp [go_sem, pa', hne']⟩; clear hK K
      refine RDU [5] (ARL fun K hK => ?_)
      go_simp
      refine KUL hK ?_; clear hK K
      refine Z0d.done (by kernel_rfl) ?_ _
      dsimp only [ZW]
      clear hHeld
      go_wp2_with fail
      have i5 : IsL wr g5 := ⟨_, _, _, _, hLa⟩
      have i6 : IsL wr g6 := ⟨_, _, _, _, hLb⟩
      rw [← Int.natCast_emod] at hIwa
      have hYp : X % Y < Y := Nat.mod_lt _ (by omega)
      have hnw : nwa + 4 < Z8 := (by have a1 := hIwa.wl; have a2 := HIB.out.wl; have a3 := ZG (a := ((X % Y : Nat) : Int)) (b := (Y : Int)) (by simp; omega); omega)
      have hGn : Nat.gcd Y (X % Y) = G := (by rw [Nat.gcd_comm, ← Nat.gcd_rec, Nat.gcd_comm]; exact HG.out)
      clear p7 p7' o7 o7' p8 p8' o8 o8' pa pa' oa oa' qa ra c5 c5' c6 c6'
      go_roundg (X % Y)
      all_goals first
       | (rw [hgk]; exact hYp)
       | exact ⟨Y, X % Y, _, _, _, _, _, _, _, _, rfl, LC, LC, HIB.out.keep KL, hIwa.keep KL, hGn, hnb, hnw, LC, EX⟩)
structure QAt (w : World) (s : Bool) (A : Option Addr) (n c : Nat) (t : Bool) (B : Option Addr) (m d : Nat) (x : Rat) : Prop where
 num : IAt w s A n c x.num
 den : IAt w t B m d (x.den : Int)
theorem QAt.ext {w w' : World} {s : Bool} {A : Option Addr} {n c : Nat} {t : Bool} {B : Option Addr} {m d : Nat} {x : Rat} (h : QAt w s A n c t B m d x) (k : Ext w w') : QAt w' s A n c t B m d x := ⟨h.num.ext k, h.den.ext k⟩
theorem QAt.keep {w w' : World} {s : Bool} {A : Option Addr} {n c : Nat} {t : Bool} {B : Option Addr} {m d : Nat} {x : Rat} (h : QAt w s A n c t B m d x) (k : Za w w') : QAt w' s A n c t B m d x := ⟨h.num.keep k, h.den.keep k⟩
def Z0G (w : World) (x : Rat) (e : Ending) (w' : World) : Prop := ∃ s A n c t B m d, e = .returned (.agg #[.bool s, .slice A n c, .bool t, .slice B m d]) ∧ QAt w' s A n c t B m d x ∧ Ext w w'
theorem Z1c : wl 1 = 1 := by decide +kernel
theorem IAt.one_word {w : World} {s : Bool} {A : Option Addr} {n c : Nat} {z : Int} (h : IAt w s A n c z) (hn : n = 1) : ∃ a, Z7 z.natAbs = [a] ∧ a = z.natAbs := by
 obtain ⟨a, ha⟩ : ∃ a, Z7 z.natAbs = [a] := List.length_eq_one_iff.1 (by rw [← h.rep.len]; exact hn)
 refine ⟨a, ha, ?_⟩
 have := Z9 z.natAbs
 rw [ha, Z0g] at this; exact this
theorem ZN (s : Bool) (A : Option Addr) (n c : Nat) (z : Int) (w : World) (h : IAt w s A n c z) (hs : n ≤ Z8) :
  Ca 130 #[.agg #[.bool s, .slice A n c]] w fun e w' => e = .returned (.bool (decide (z = 1))) ∧ Ext w w' := by
 unfold Z8 at hs
 by_cases hn : n = 1
 ·obtain ⟨a, ha, hz⟩ := h.one_word hn
  obtain ⟨b1, f1, rfl, hb1, hc1⟩ := h.rep.at (by omega)
  have g1 := hc1 0 (by omega)
  rw [ha] at g1
  simp only [List.getD_cons_zero, Nat.add_zero] at g1
  have hsg := h.sgn
  subst hn
  by_cases ha1 : a = 1
  ·subst ha1
   have HE : Hid (decide (z = 1) = !s) := by
    show _ = _
    rw [hsg]
    by_cases hz0 : z < 0 <;> simp [hz0] <;> omega
   clear h hc1 ha hz hsg
   go_enter func130, ntmps130
   go_wp2
   all_goals go_ret
   all_goals exact ⟨by rw [HE.out]; rfl, EX⟩
  ·have HE : Hid (decide (z = 1) = false) := decide_eq_false (by omega)
   have hq : ((a : Int) == 1) = false := by simp; omega
   clear h hc1 ha hz hsg ha1
   go_enter func130, ntmps130
   go_wp2
   all_goals go_ret
   all_goals exact ⟨by rw [HE.out]; rfl, EX⟩
 ·have HE : Hid (decide (z = 1) = false) := decide_eq_false (by
   rintro rfl
   exact hn (h.wl.trans Z1c))
  have hq : ((n : Int) == 1) = false := by simp; omega
  clear h hn
  go_enter func130, ntmps130
  go_wp2
  all_goals go_ret
  all_goals exact ⟨by rw [HE.out]; rfl, EX⟩
theorem Z3U (w : World) : Ca 129 #[] w (Z1F w 1) := by
 go_enter func129, ntmps129
 go_wp2_with (go_at_call 148; (with_reducible refine (Zk 1 _ (by omega) (by omega)).mono ?_); rintro e w1 ⟨sw1, Aw1, nw1, cw1, rfl, hIw1, hbw1⟩; (try clear hc hf); obtain ⟨hBw1, hc, hf⟩ := EC1 w1 w)
 refine bodyPost_ret (v := .agg #[.bool sw1, .slice Aw1 nw1 cw1]) (by simp [results, results129, go_sem, hc, hf]) rfl ⟨_, _, _, _, rfl, IAt.keep hIw1 KP, EX⟩
theorem Zy (s : Bool) (A : Option Addr) (n c : Nat) (t : Bool) (B : Option Addr) (m d : Nat) (x : Rat) (w : World) (h : QAt w s A n c t B m d x) (hs : n ≤ Z8) :
  Ca 84 #[.agg #[.bool s, .slice A n c, .bool t, .slice B m d]] w fun e w' => e = .returned (.int .i64 (Z0R x.num)) ∧ Ext w w' := by
 have H := zH h
 clear h
 go_enter func84, ntmps84
 go_wp2_with (go_at_call 126; (with_reducible refine (Z11 s A n c x.num _ (H.out.num.ext EX) hs).mono ?_); rintro e w1 ⟨rfl, hbw1⟩; (try clear hc hf); obtain ⟨hBw1, hc, hf⟩ := EC w1 (w))
 go_ret
 exact ⟨rfl, EX⟩
theorem Z2Q (s : Bool) (A : Option Addr) (n c : Nat) (t : Bool) (B : Option Addr) (m d : Nat) (x : Rat) (w : World) (h : QAt w s A n c t B m d x) (hs : n ≤ Z8) :
  Ca 143 #[.agg #[.bool s, .slice A n c, .bool t, .slice B m d]] w (Z0G w (-x)) := by
 have H := zH h
 clear h
 go_enter func143, ntmps143
 go_wp2_with fail
 go_region_held3 (fun w' => zC w' w.heap.size 0 (.bool s) ∧ zC w' w.heap.size 1 (.slice A n c) ∧ zC w' w.heap.size 2 (.bool t) ∧ zC w' w.heap.size 3 (.slice B m d)) (first | (exact HXC) | (simp [go_sem]; done) | (exact HX4)) ((go_at_call 214; (with_reducible refine (Z2U s A n c x.num _ (H.out.num.ext EX) hs).mono ?_); rintro e w1 ⟨sw1, Aw1, nw1, cw1, rfl, hIw1, hbw1⟩; obtain ⟨hcw1, hfw1⟩ := hbw1.cells; (try simp only [SA, Nat.add_assoc, Nat.reduceAdd] at hcw1 hfw1)))
 go_wp2_with fail
 refine bodyPost_ret (v := .agg #[.bool sw1, .slice Aw1 nw1 cw1, .bool t, .slice B m d]) (by simp [results, results143, go_sem, Z6, hcw1]) rfl ⟨_, _, _, _, _, _, _, _, rfl, ⟨hIw1.keep (by have kf := hcw1; exact KPE), (H.out.den.ext EX)⟩, EX⟩
theorem Z14 (s : Bool) (A : Option Addr) (n c : Nat) (z : Int) (w : World) (h : IAt w s A n c z) :
  Ca 141 #[.agg #[.bool s, .slice A n c]] w (Z0G w (z : Rat)) := by
 have H := zH h
 clear h
 go_enter func141, ntmps141
 go_wp2_with fail
 go_region_held3 (fun w' => zC w' w.heap.size 0 (.bool s) ∧ zC w' w.heap.size 1 (.slice A n c)) (first | (exact HXC) | (simp [go_sem]; done) | (exact HX2)) ((go_at_call 129; (with_reducible refine (Z3U _).mono ?_); rintro e w1 ⟨sw1, Aw1, nw1, cw1, rfl, hIw1, hbw1⟩; obtain ⟨hcw1, hfw1⟩ := hbw1.cells; (try simp only [SA, Nat.add_assoc, Nat.reduceAdd] at hcw1 hfw1)))
 go_wp2_with fail
 refine bodyPost_ret (v := .agg #[.bool s, .slice A n c, .bool sw1, .slice Aw1 nw1 cw1]) (by simp [results, results141, go_sem, Z6, hcw1]) rfl ⟨_, _, _, _, _, _, _, _, rfl, ⟨(H.out.ext EX), hIw1.keep (by have kf := hcw1; exact KPE)⟩, EX⟩
theorem ZO (s : Bool) (A : Option Addr) (n c : Nat) (z : Int) (w : World) (h : IAt w s A n c z) (hs : n ≤ Z8) :
  Ca 89 #[.agg #[.bool s, .slice A n c]] w fun e w' => e = .returned (.bool (decide (z = 1))) ∧ Ext w w' := by
 unfold Z8 at hs
 by_cases hn : n = 1
 ·obtain ⟨a, ha, hz⟩ := h.one_word hn
  obtain ⟨b1, f1, rfl, hb1, hc1⟩ := h.rep.at (by omega)
  have g1 := hc1 0 (by omega)
  rw [ha] at g1
  simp only [List.getD_cons_zero, Nat.add_zero] at g1
  have hsg := h.sgn
  subst hn
  by_cases ha1 : a = 1
  ·subst ha1
   have HE : Hid (decide (z = 1) = !s) := by
    show _ = _
    rw [hsg]
    by_cases hz0 : z < 0 <;> simp [hz0] <;> omega
   clear h hc1 ha hz hsg
   go_enter func89, ntmps89
   go_wp2
   all_goals go_ret
   all_goals exact ⟨by rw [HE.out]; rfl, EX⟩
  ·have HE : Hid (decide (z = 1) = false) := decide_eq_false (by omega)
   have hq : ((a : Int) == 1) = false := by simp; omega
   clear h hc1 ha hz hsg ha1
   go_enter func89, ntmps89
   go_wp2
   all_goals go_ret
   all_goals exact ⟨by rw [HE.out]; rfl, EX⟩
 ·have HE : Hid (decide (z = 1) = false) := decide_eq_false (by
   rintro rfl
   exact hn (h.wl.trans Z1c))
  have hq : ((n : Int) == 1) = false := by simp; omega
  clear h hn
  go_enter func89, ntmps89
  go_wp2
  all_goals go_ret
  all_goals exact ⟨by rw [HE.out]; rfl, EX⟩
theorem Z66 (w : World) : Ca 79 #[] w (Z1F w 1) := by
 go_enter func79, ntmps79
 go_wp2_with (go_at_call 93; (with_reducible refine (Zv 1 _ (by omega) (by omega)).mono ?_); rintro e w1 ⟨sw1, Aw1, nw1, cw1, rfl, hIw1, hbw1⟩; (try clear hc hf); obtain ⟨hBw1, hc, hf⟩ := EC1 w1 w)
 refine bodyPost_ret (v := .agg #[.bool sw1, .slice Aw1 nw1 cw1]) (by simp [results, results79, go_sem, hc, hf]) rfl ⟨_, _, _, _, rfl, IAt.keep hIw1 KP, EX⟩
theorem Z1p (s : Bool) (A : Option Addr) (n c : Nat) (t : Bool) (B : Option Addr) (m d : Nat) (x : Rat) (w : World) (h : QAt w s A n c t B m d x) (hs : n ≤ Z8) :
  Ca 28 #[.agg #[.bool s, .slice A n c, .bool t, .slice B m d]] w fun e w' => e = .returned (.int .i64 (Z0R x.num)) ∧ Ext w w' := by
 have H := zH h
 clear h
 go_enter func28, ntmps28
 go_wp2_with (go_at_call 76; (with_reducible refine (Z0w s A n c x.num _ (H.out.num.ext EX) hs).mono ?_); rintro e w1 ⟨rfl, hbw1⟩; (try clear hc hf); obtain ⟨hBw1, hc, hf⟩ := EC w1 (w))
 go_ret
 exact ⟨rfl, EX⟩
theorem Z2R (s : Bool) (A : Option Addr) (n c : Nat) (t : Bool) (B : Option Addr) (m d : Nat) (x : Rat) (w : World) (h : QAt w s A n c t B m d x) (hs : n ≤ Z8) :
  Ca 35 #[.agg #[.bool s, .slice A n c, .bool t, .slice B m d]] w (Z0G w (-x)) := by
 have H := zH h
 clear h
 go_enter func35, ntmps35
 go_wp2_with fail
 go_region_held3 (fun w' => zC w' w.heap.size 0 (.bool s) ∧ zC w' w.heap.size 1 (.slice A n c) ∧ zC w' w.heap.size 2 (.bool t) ∧ zC w' w.heap.size 3 (.slice B m d)) (first | (exact HXC) | (simp [go_sem]; done) | (exact HX4)) ((go_at_call 101; (with_reducible refine (Z68 s A n c x.num _ (H.out.num.ext EX) hs).mono ?_); rintro e w1 ⟨sw1, Aw1, nw1, cw1, rfl, hIw1, hbw1⟩; obtain ⟨hcw1, hfw1⟩ := hbw1.cells; (try simp only [SA, Nat.add_assoc, Nat.reduceAdd] at hcw1 hfw1)))
 go_wp2_with fail
 refine bodyPost_ret (v := .agg #[.bool sw1, .slice Aw1 nw1 cw1, .bool t, .slice B m d]) (by simp [results, results35, go_sem, Z6, hcw1]) rfl ⟨_, _, _, _, _, _, _, _, rfl, ⟨hIw1.keep (by have kf := hcw1; exact KPE), (H.out.den.ext EX)⟩, EX⟩
theorem Z2F (s : Bool) (A : Option Addr) (n c : Nat) (z : Int) (w : World) (h : IAt w s A n c z) :
  Ca 92 #[.agg #[.bool s, .slice A n c]] w (Z0G w (z : Rat)) := by
 have H := zH h
 clear h
 go_enter func92, ntmps92
 go_wp2_with fail
 go_region_held3 (fun w' => zC w' w.heap.size 0 (.bool s) ∧ zC w' w.heap.size 1 (.slice A n c)) (first | (exact HXC) | (simp [go_sem]; done) | (exact HX2)) ((go_at_call 79; (with_reducible refine (Z66 _).mono ?_); rintro e w1 ⟨sw1, Aw1, nw1, cw1, rfl, hIw1, hbw1⟩; obtain ⟨hcw1, hfw1⟩ := hbw1.cells; (try simp only [SA, Nat.add_assoc, Nat.reduceAdd] at hcw1 hfw1)))
 go_wp2_with fail
 refine bodyPost_ret (v := .agg #[.bool s, .slice A n c, .bool sw1, .slice Aw1 nw1 cw1]) (by simp [results, results92, go_sem, Z6, hcw1]) rfl ⟨_, _, _, _, _, _, _, _, rfl, ⟨(H.out.ext EX), hIw1.keep (by have kf := hcw1; exact KPE)⟩, EX⟩
theorem rQ {V : Bool → Option Addr → Nat → Nat → Bool → Option Addr → Nat → Nat → Value} {w : World} {x : Rat} {R : Ending → World → Prop} (k : ∀ w' s A n c t B m d, Hid (QAt w' s A n c t B m d x) → Ext w w' → R (.returned (V s A n c t B m d)) w') : ∀ e w', (∃ s A n c t B m d, e = .returned (V s A n c t B m d) ∧ QAt w' s A n c t B m d x ∧ Ext w w') → R e w' :=
 fun e w' h => by obtain ⟨s, A, n, c, t, B, m, d, rfl, h1, h2⟩ := h; exact k _ _ _ _ _ _ _ _ _ (Lib.hid h1) h2
theorem rQz {V : Bool → Option Addr → Nat → Nat → Bool → Option Addr → Nat → Nat → Value} {w : World} {l : Nat} {x : Rat} {R : Ending → World → Prop} (k : ∀ w' s A n c t B m d, Hid (QAt w' s A n c t B m d x) → Ext w w' → l ≤ w'.heap.size → R (.returned (V s A n c t B m d)) w') (e : w.heap.size = l := by first | (simp only [SZ]; rfl) | rfl) : ∀ e w', (∃ s A n c t B m d, e = .returned (V s A n c t B m d) ∧ QAt w' s A n c t B m d x ∧ Ext w w') → R e w' :=
 rQ (fun w' s A n c t B m d h1 h2 => k w' s A n c t B m d h1 h2 (e ▸ h2.size))
theorem QAt.n {w : World} {s : Bool} {A : Option Addr} {n c : Nat} {t : Bool} {B : Option Addr} {m d : Nat} {x : Rat} (h : QAt w s A n c t B m d x) : n ≤ qm x := by rw [h.num.wl]; exact Z0x x
theorem QAt.m {w : World} {s : Bool} {A : Option Addr} {n c : Nat} {t : Bool} {B : Option Addr} {m d : Nat} {x : Rat} (h : QAt w s A n c t B m d x) : m ≤ qm x := by rw [h.den.wl]; exact Z0c x
theorem Z15 {x : Rat} (h : (x.den : Int) = 1) : x.den = 1 := by omega
theorem Z0U (s1 s2 t1 t2 : Bool) (A1 A2 B1 B2 : Option Addr) (n1 c1 m1 d1 n2 c2 m2 d2 : Nat) (x y : Rat) (w : World) (h1 : QAt w s1 A1 n1 c1 t1 B1 m1 d1 x) (h2 : QAt w s2 A2 n2 c2 t2 B2 m2 d2 y) (hs : qm x + qm y + 8 < Z8) :
  Ca 59 #[.agg #[.bool s1, .slice A1 n1 c1, .bool t1, .slice B1 m1 d1], .agg #[.bool s2, .slice A2 n2 c2, .bool t2, .slice B2 m2 d2]] w fun e w' => e = .returned (.int .i64 (Z0s x y)) ∧ Ext w w' := by
 have hn1 := h1.n
 have hm1 := h1.m
 have hn2 := h2.n
 have hm2 := h2.m
 have H1 := zH h1
 have H2 := zH h2
 have I1 := zH (fun W (k : IAt W t1 B1 m1 d1 (x.den : Int)) => ZN t1 B1 m1 d1 _ W k (by omega))
 have I2 := zH (fun W (k : IAt W t2 B2 m2 d2 (y.den : Int)) => ZN t2 B2 m2 d2 _ W k (by omega))
 by_cases hb : (x.den : Int) = 1 ∧ (y.den : Int) = 1
 ·rw [decide_eq_true hb.1] at I1
  rw [decide_eq_true hb.2] at I2
  have HE := zH (Z7R x y (Z15 hb.1) (Z15 hb.2))
  clear h1 h2 hb
  go_enter func59, ntmps59
  go_wp2_with (
   first
   | (go_at_call 130; (with_reducible refine (I1.out _ (H1.out.den.ext EX)).mono ?_); rintro e w1 ⟨rfl, hbw1⟩; (try clear hc hf); obtain ⟨hBw1, hc, hf⟩ := EC2 w1 w)
   | (go_at_call 130; (with_reducible refine (I2.out _ (H2.out.den.ext EX)).mono ?_); rintro e w2 ⟨rfl, hbw2⟩; (try clear hc hf); obtain ⟨hBw2, hc, hf⟩ := EC2 w2 w)
   | (go_at_call 127; (with_reducible refine (Z2e s1 s2 A1 A2 n1 c1 n2 c2 _ _ _ (H1.out.num.ext EX) (H2.out.num.ext EX) (by omega) (by omega)).mono ?_); rw [HE.out]; rintro e w3 ⟨rfl, hbw3⟩; (try clear hc hf); obtain ⟨hBw3, hc, hf⟩ := EC2 w3 w))
  go_ret
  exact ⟨rfl, EX⟩
 ·obtain ⟨b1, hb1⟩ : ∃ b, decide ((x.den : Int) = 1) = b := ⟨_, rfl⟩
  obtain ⟨b2, hb2⟩ : ∃ b, decide ((y.den : Int) = 1) = b := ⟨_, rfl⟩
  have hbb : (b1 && b2) = false := by
   rw [← hb1, ← hb2]; simp only [Bool.and_eq_false_iff, decide_eq_false_iff_not]
   by_cases h : (x.den : Int) = 1
   ·right; exact fun k => hb ⟨h, k⟩
   ·left; exact h
  rw [hb1] at I1
  rw [hb2] at I2
  have HE := zH (Z5b x y)
  clear h1 h2 hb hb1 hb2
  go_enter func59, ntmps59
  go_wp2_with (
   first
   | (go_at_call 130; (with_reducible refine (I1.out _ (H1.out.den.ext EX)).mono ?_); rintro e w1 ⟨rfl, hbw1⟩; (try clear hc hf); obtain ⟨hBw1, hc, hf⟩ := EC2 w1 w)
   | (go_at_call 130; (with_reducible refine (I2.out _ (H2.out.den.ext EX)).mono ?_); rintro e w2 ⟨rfl, hbw2⟩; (try clear hc hf); obtain ⟨hBw2, hc, hf⟩ := EC2 w2 w)
   | (go_at_call 127; exfalso; revert hbb; simp [*]; done))
  all_goals go_region_held3 (fun w' => zC w' w.heap.size 0 (.bool s1) ∧ zC w' w.heap.size 1 (.slice A1 n1 c1) ∧ zC w' w.heap.size 2 (.bool t1) ∧ zC w' w.heap.size 3 (.slice B1 m1 d1) ∧ zC w' (w.heap.size + 1) 0 (.bool s2) ∧ zC w' (w.heap.size + 1) 1 (.slice A2 n2 c2) ∧ zC w' (w.heap.size + 1) 2 (.bool t2) ∧ zC w' (w.heap.size + 1) 3 (.slice B2 m2 d2)) (first | (exact HXC) | (simp [go_sem, hc]; done)) (first | (go_at_call 131; (with_reducible refine (Zt s1 t2 A1 B2 n1 c1 m2 d2 _ _ _ (H1.out.num.ext EX) (H2.out.den.ext EX) (by omega)).mono ?_); rintro e w4 ⟨sw4, Aw4, nw4, cw4, rfl, hIw4, hbw4⟩; have hk4 : nw4 ≤ qm x + qm y := (by have a := hIw4.wl; have b := ZD x.num y.den; have c := Z0x x; have d := Z0c y; omega)) | (go_at_call 131; (with_reducible refine (Zt s2 t1 A2 B1 n2 c2 m1 d1 _ _ _ (H2.out.num.ext EX) (H1.out.den.ext EX) (by omega)).mono ?_); rintro e w5 ⟨sw5, Aw5, nw5, cw5, rfl, hIw5, hbw5⟩; have hk5 : nw5 ≤ qm x + qm y := (by have a := hIw5.wl; have b := ZD y.num x.den; have c := Z0x y; have d := Z0c x; omega)) | (go_at_call 127; (with_reducible refine (Z2e sw4 sw5 Aw4 Aw5 nw4 cw4 nw5 cw5 _ _ _ (hIw4.ext EX) hIw5 (by omega) (by omega)).mono ?_); rw [HE.out]; rintro e w6 ⟨rfl, hbw6⟩))
  all_goals go_wp2_with fail
  all_goals go_ret
  all_goals exact ⟨rfl, EX⟩
theorem Z1M (s1 s2 t1 t2 : Bool) (A1 A2 B1 B2 : Option Addr) (n1 c1 m1 d1 n2 c2 m2 d2 : Nat) (x y : Rat) (w : World) (h1 : QAt w s1 A1 n1 c1 t1 B1 m1 d1 x) (h2 : QAt w s2 A2 n2 c2 t2 B2 m2 d2 y) (hs : qm x + qm y + 8 < Z8) :
  Ca 26 #[.agg #[.bool s1, .slice A1 n1 c1, .bool t1, .slice B1 m1 d1], .agg #[.bool s2, .slice A2 n2 c2, .bool t2, .slice B2 m2 d2]] w fun e w' => e = .returned (.int .i64 (Z0s x y)) ∧ Ext w w' := by
 have hn1 := h1.n
 have hm1 := h1.m
 have hn2 := h2.n
 have hm2 := h2.m
 have H1 := zH h1
 have H2 := zH h2
 have I1 := zH (fun W (k : IAt W t1 B1 m1 d1 (x.den : Int)) => ZO t1 B1 m1 d1 _ W k (by omega))
 have I2 := zH (fun W (k : IAt W t2 B2 m2 d2 (y.den : Int)) => ZO t2 B2 m2 d2 _ W k (by omega))
 by_cases hb : (x.den : Int) = 1 ∧ (y.den : Int) = 1
 ·rw [decide_eq_true hb.1] at I1
  rw [decide_eq_true hb.2] at I2
  have HE := zH (Z7R x y (Z15 hb.1) (Z15 hb.2))
  clear h1 h2 hb
  go_enter func26, ntmps26
  go_wp2_with (
   first
   | (go_at_call 89; (with_reducible refine (I1.out _ (H1.out.den.ext EX)).mono ?_); rintro e w1 ⟨rfl, hbw1⟩; (try clear hc hf); obtain ⟨hBw1, hc, hf⟩ := EC2 w1 w)
   | (go_at_call 89; (with_reducible refine (I2.out _ (H2.out.den.ext EX)).mono ?_); rintro e w2 ⟨rfl, hbw2⟩; (try clear hc hf); obtain ⟨hBw2, hc, hf⟩ := EC2 w2 w)
   | (go_at_call 90; (with_reducible refine (Z69 s1 s2 A1 A2 n1 c1 n2 c2 _ _ _ (H1.out.num.ext EX) (H2.out.num.ext EX) (by omega) (by omega)).mono ?_); rw [HE.out]; rintro e w3 ⟨rfl, hbw3⟩; (try clear hc hf); obtain ⟨hBw3, hc, hf⟩ := EC2 w3 w))
  go_ret
  exact ⟨rfl, EX⟩
 ·obtain ⟨b1, hb1⟩ : ∃ b, decide ((x.den : Int) = 1) = b := ⟨_, rfl⟩
  obtain ⟨b2, hb2⟩ : ∃ b, decide ((y.den : Int) = 1) = b := ⟨_, rfl⟩
  have hbb : (b1 && b2) = false := by
   rw [← hb1, ← hb2]; simp only [Bool.and_eq_false_iff, decide_eq_false_iff_not]
   by_cases h : (x.den : Int) = 1
   ·right; exact fun k => hb ⟨h, k⟩
   ·left; exact h
  rw [hb1] at I1
  rw [hb2] at I2
  have HE := zH (Z5b x y)
  clear h1 h2 hb hb1 hb2
  go_enter func26, ntmps26
  go_wp2_with (
   first
   | (go_at_call 89; (with_reducible refine (I1.out _ (H1.out.den.ext EX)).mono ?_); rintro e w1 ⟨rfl, hbw1⟩; (try clear hc hf); obtain ⟨hBw1, hc, hf⟩ := EC2 w1 w)
   | (go_at_call 89; (with_reducible refine (I2.out _ (H2.out.den.ext EX)).mono ?_); rintro e w2 ⟨rfl, hbw2⟩; (try clear hc hf); obtain ⟨hBw2, hc, hf⟩ := EC2 w2 w)
   | (go_at_call 90; exfalso; revert hbb; simp [*]; done))
  all_goals go_region_held3 (fun w' => zC w' w.heap.size 0 (.bool s1) ∧ zC w' w.heap.size 1 (.slice A1 n1 c1) ∧ zC w' w.heap.size 2 (.bool t1) ∧ zC w' w.heap.size 3 (.slice B1 m1 d1) ∧ zC w' (w.heap.size + 1) 0 (.bool s2) ∧ zC w' (w.heap.size + 1) 1 (.slice A2 n2 c2) ∧ zC w' (w.heap.size + 1) 2 (.bool t2) ∧ zC w' (w.heap.size + 1) 3 (.slice B2 m2 d2)) (first | (exact HXC) | (simp [go_sem, hc]; done)) (first | (go_at_call 91; (with_reducible refine (ZT s1 t2 A1 B2 n1 c1 m2 d2 _ _ _ (H1.out.num.ext EX) (H2.out.den.ext EX) (by omega)).mono ?_); rintro e w4 ⟨sw4, Aw4, nw4, cw4, rfl, hIw4, hbw4⟩; have hk4 : nw4 ≤ qm x + qm y := (by have a := hIw4.wl; have b := ZD x.num y.den; have c := Z0x x; have d := Z0c y; omega)) | (go_at_call 91; (with_reducible refine (ZT s2 t1 A2 B1 n2 c2 m1 d1 _ _ _ (H2.out.num.ext EX) (H1.out.den.ext EX) (by omega)).mono ?_); rintro e w5 ⟨sw5, Aw5, nw5, cw5, rfl, hIw5, hbw5⟩; have hk5 : nw5 ≤ qm x + qm y := (by have a := hIw5.wl; have b := ZD y.num x.den; have c := Z0x y; have d := Z0c x; omega)) | (go_at_call 90; (with_reducible refine (Z69 sw4 sw5 Aw4 Aw5 nw4 cw4 nw5 cw5 _ _ _ (hIw4.ext EX) hIw5 (by omega) (by omega)).mono ?_); rw [HE.out]; rintro e w6 ⟨rfl, hbw6⟩))
  all_goals go_wp2_with fail
  all_goals go_ret
  all_goals exact ⟨rfl, EX⟩
end Go.Proofs.YtnmmncccpdffaaaGreat
