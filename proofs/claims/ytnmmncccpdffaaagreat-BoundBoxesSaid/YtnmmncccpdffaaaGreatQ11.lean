/- What BoundBoxes calls, part 11. -/
import Derived.Test.YtnmmncccpdffaaaGreatQ10
set_option linter.unusedVariables false
set_option linter.unusedSimpArgs false
set_option maxRecDepth 100000
set_option maxHeartbeats 16000000
namespace Go.Proofs.YtnmmncccpdffaaaGreat
open Go.Proofs.Tryz Go Go.RowKit Go.Shelf
def Zc9 (w : World) (x y : Int) (e : Ending) (w' : World) : Prop := ∃ (g d : Nat) (p q r : PV), e = .returned (.agg #[.int .i64 1, .bool false, .slice none 0 0, .slice (some ⟨g, 0, none⟩) 2 d, .int .i64 0, .bool r.s, .slice r.A r.n r.c, .slice r.C r.m r.d]) ∧ CK w' g (zL2 p q) ∧ p.At w' x ∧ q.At w' y ∧ r.At w' 1 ∧ w.heap.size ≤ g ∧ g < w'.heap.size ∧ Ext w w'
theorem Z1K : wl (1 : Int) ≤ 1 := Nat.le_of_eq Z1c
theorem Z48 (g d : Nat) (p0 p1 q : PV) (x0 x1 : Int) (w : World) (h : CK w g (zL2 p0 p1)) (hd : 2 ≤ d) (h0 : p0.At w x0) (h1 : p1.At w x1) (hq : q.At w 1) (n0 : p0.n < 400) (n1 : p1.n < 400) (hx1 : x1 ≠ 0) :
  Ca 238 #[.agg (Z3f g d), .agg (ZC q)] w (ZbS w x0 x1) := by
 have := Z7r g d p0 p1 q x0 x1 1 w h hd h0 h1 hq n0 n1 (by have := hq.wl; have := Z1K; omega) (by rw [Int.mul_one]; exact hx1)
 rw [Int.mul_one, Int.mul_one] at this
 exact this
theorem Z04 (p q : PV) (x : Int) (w : World) (hp : p.At w x) (hq : q.At w 1) (h1 : p.n < 1000) :
  Ca 238 #[.agg (ZC p), .agg (ZC q)] w (Z72 w x) := by
 have := Z0u p q x 1 w hp hq h1 (by have := hq.wl; have := Z1K; omega)
 rw [Int.mul_one] at this
 exact this
theorem Z7q (g d : Nat) (p0 p1 r s u : PV) (x0 x1 z : Int) (w : World) (h : CK w g (zL2 p0 p1)) (hd : 2 ≤ d) (h0 : p0.At w x0) (h1 : p1.At w x1) (hr : r.At w 1) (hs : s.At w z) (hu : u.At w 1) (n0 : p0.n < 100) (n1 : p1.n < 100) (ns : s.n < 100) (nz : z ≠ 0) (nx : x1 ≠ 0) :
  Ca 198 #[.agg (Z6E g d r), .agg (Z2j s u)] w (Zc9 w (x0 + z) x1) := by
 have hmw : 100000 < Z8 := by decide
 have hun : u.n ≠ 0 := fun e => by have := hu.zero_iff.1 e; omega
 have N0 := Nat.le_of_eq h0.wl.symm
 have N1 := Nat.le_of_eq h1.wl.symm
 have N2 := Nat.le_of_eq hs.wl.symm
 have hw1 := Z1K
 have H0 := zH h0
 have H1 := zH h1
 have HR := zH hr
 have HS := zH hs
 have HU := zH hu
 have hg := h.lt
 clear h0 h1 hr hs hu
 dsimp only [Z6E, Z2j]
 go_enter func198, ntmps198
 go_wp2_with (
  first
  | (go_at_call 237; (with_reducible refine (Z10 r ⟨0, u.s, u.A, u.n, u.c, u.C, u.m, u.d⟩ 1 _ IX (Or.inl rfl) (by simp [hun])).mono ?_); rintro e w1 ⟨pw1, rfl, hQ, hbw1⟩; have Hw1 := zH hQ; have Nw1 := Nat.le_of_eq hQ.wl; clear hQ; have := hbw1.sz; obtain ⟨R0, L0, F0⟩ := B80 w1 w; obtain ⟨R1, L1, F1⟩ := B81 w1 w; obtain ⟨R2, L2, F2⟩ := B82 w1 w)
  | (go_at_call 239; (with_reducible refine (Zm ⟨0, r.s, r.A, r.n, r.c, r.C, r.m, r.d⟩ pw1 _ IX).mono ?_); rintro e w2 ⟨rfl, hbw2⟩; have := hbw2.sz; obtain ⟨R0, L0, F0⟩ := B80 w2 w; obtain ⟨R1, L1, F1⟩ := B81 w2 w; obtain ⟨R2, L2, F2⟩ := B82 w2 w; obtain ⟨R5, L5, F5⟩ := BC4 w2 w1.heap.size)
  | (go_at_call 239; (with_reducible refine (Zm ⟨0, u.s, u.A, u.n, u.c, u.C, u.m, u.d⟩ pw1 _ IX).mono ?_); rintro e w3 ⟨rfl, hbw3⟩; have := hbw3.sz; obtain ⟨R0, L0, F0⟩ := B80 w3 w; obtain ⟨R1, L1, F1⟩ := B81 w3 w; obtain ⟨R2, L2, F2⟩ := B82 w3 w; obtain ⟨R5, L5, F5⟩ := BC4 w3 w1.heap.size; obtain ⟨R6, L6, F6⟩ := BC4 w3 w2.heap.size))
 refine ZQ 51 [(2, .pointer (some ⟨w.heap.size, 0, none⟩)), (3, .pointer (some ⟨w.heap.size + 1, 0, none⟩)), (4, .pointer (some ⟨w.heap.size + 1 + 1, 0, none⟩)), (5, .pointer (some ⟨w1.heap.size, 0, none⟩)), (6, .pointer (some ⟨w2.heap.size, 0, none⟩)), (7, .pointer (some ⟨w3.heap.size, 0, none⟩))] (fun W => Ext w W ∧ BK W (w.heap.size) (Z6E g d r) ∧ BK W (w.heap.size + 1) (Z2j s u) ∧ BK W (w.heap.size + 1 + 1) Z7I ∧ BK W (w1.heap.size) (ZC pw1) ∧ BK W (w2.heap.size) (ZC r) ∧ BK W (w3.heap.size) (ZC u) ∧ CK W g (zL2 p0 p1) ∧ pw1.At W 1) ⟨EX, BY, BY, BY, BY, BY, BY, CX, IX⟩ ?_
 rintro W U ⟨hW, R0, R1, R2, R5, R6, R7, Rg, hp1⟩
 dsimp only [fr, frl, Nat.reduceBEq, Nat.reduceAdd, cond_true, cond_false]
 have Hp1 := zH hp1
 clear hp1 F0 F1 F2
 (try clear FF)
 have L0 := R0.lt
 have F0 := R0.c8
 have L1 := R1.lt
 have F1 := R1.c8
 have L2 := R2.lt
 have F2 := R2.c8
 have L5 := R5.lt
 have L6 := R6.lt
 have L7 := R7.lt
 have FF := And.intro R5.ca (And.intro R6.ca R7.ca); dsimp only [CA, CC, Nat.reduceAdd] at FF
 refine Zc (fun a' w' => ∃ (g8 gs ds : Nat) (pa pb : PV) (U : Nat → Value), a' = fr 51 U [(2, .pointer (some ⟨w.heap.size, 0, none⟩)), (3, .pointer (some ⟨w.heap.size + 1, 0, none⟩)), (4, .pointer (some ⟨w.heap.size + 1 + 1, 0, none⟩)), (5, .pointer (some ⟨w1.heap.size, 0, none⟩)), (6, .pointer (some ⟨w2.heap.size, 0, none⟩)), (7, .pointer (some ⟨w3.heap.size, 0, none⟩)), (8, .pointer (some ⟨g8, 0, none⟩))] ∧ BK w' g8 (Z3f gs ds) ∧ CK w' gs (zL2 pa pb) ∧ pa.At w' (x0 + z) ∧ pb.At w' x1 ∧ W.heap.size ≤ gs ∧ gs < w'.heap.size ∧ W.heap.size ≤ g8 ∧ gs ≠ g8 ∧ Ext W w') (fun w' => CB w' w.heap.size 0 [.int .i64 1, .bool false, .slice none 0 0, .slice (some ⟨g, 0, none⟩) 2 d] ∧ CB w' ((w.heap.size + 1)) 0 [.int .i64 0, .bool s.s, .slice s.A s.n s.c, .slice s.C s.m s.d] ∧ CB w' w2.heap.size 0 (zL8 r) ∧ CB w' w3.heap.size 0 (zL8 u)) Z0a ?rest (by dsimp only [CB, Nat.reduceAdd]; exact KQ) ?expl
 case expl =>
  dsimp only [CB, Nat.reduceAdd]
  intro hHeld
  refine TH 0 ?_; refine TH 1 ?_; refine TH 2 ?_; refine TH 4 ?_; refine TH 5 ?_; refine TH 6 ?_
  refine RDH [3, 9] ?_
  refine ARH (fun K hK => ?_) ?_
  ·go_simp
   refine (Z48 g d p0 p1 u x0 x1 _ CX hd IX IX IX (by omega) (by omega) nx).mono ?_; rintro e wa ⟨gwa, dwa, pwa, qwa, rfl, hCwa, hQ, hQ', hgewa, hltwa, hbwa⟩; have Hwa := zH hQ; have Kwa := zH hQ'; have Nwa := hQ.wl; clear hQ hQ'; (try simp only [SZ] at hgewa); have := hbwa.sz
   refine KH hK fun _ => ?_; clear hK K
   refine RDH [7, 9] ?_
   refine ARH (fun K hK => ?_) ?_
   ·go_simp
    refine (Z04 s r z _ IX IX (by omega)).mono ?_; rintro e wb ⟨pwb, rfl, hQ, hbwb⟩; have Hwb := zH hQ; have Nwb := Nat.le_of_eq hQ.wl; clear hQ; have := hbwb.sz
    refine KH hK fun _ => ?_; clear hK K
    refine RDH [8, 9] ?_
    refine ARH (fun K hK => ?_) ?_
    ·go_simp
     refine (Z1X gwa dwa pwa qwa pwb x0 x1 z _ CX IX IX IX (by omega) (by omega) nx nz).mono ?_; rintro e wc ⟨gwc, dwc, pwc, qwc, rfl, hCwc, hQ, hQ', hgewc, hltwc, hbwc⟩; have Hwc := zH hQ; have Kwc := zH hQ'; clear hQ hQ'; (try simp only [SZ] at hgewc); have := hbwc.sz
     refine KH hK fun _ => ?_; clear hK K
     refine R1H 9 fun K hK => ?_
     go_simp
     refine KH hK fun _ => ?_; clear hK K
     refine R1H 10 fun K hK => ?_
     go_simp
     refine KH hK fun _ => ?_; clear hK K
     refine wpAnyH_done (by kernel_rfl) ?_ _
     exact ⟨_, gwc, dwc, pwc, qwc, _, Zh _ _, BY, CX, IX, IX, by omega, by (try simp only [SZ]); omega, by omega, by omega, EX⟩
    refine ARH (fun K hK => ?_) ?_
    ·go_simp
     refine KH hK fun _ => ?_; clear hK K
     refine R1H 8 fun K hK => ?_
     go_simp
     refine (Z1X gwa dwa pwa qwa pwb x0 x1 z _ CX IX IX IX (by omega) (by omega) nx nz).mono ?_; rintro e wc ⟨gwc, dwc, pwc, qwc, rfl, hCwc, hQ, hQ', hgewc, hltwc, hbwc⟩; have Hwc := zH hQ; have Kwc := zH hQ'; clear hQ hQ'; (try simp only [SZ] at hgewc); have := hbwc.sz; obtain ⟨_, _, T⟩ := BC4 wc wb.heap.size
     refine KH hK fun _ => ?_; clear hK K
     refine R1H 10 fun K hK => ?_
     go_simp
     refine KH hK fun _ => ?_; clear hK K
     refine wpAnyH_done (by kernel_rfl) ?_ _
     exact ⟨_, gwc, dwc, pwc, qwc, _, Zh _ _, BY, CX, IX, IX, by omega, by (try simp only [SZ]); omega, by omega, by omega, EX⟩
    exact AllReadyH.nil
   refine ARH (fun K hK => ?_) ?_
   ·go_simp
    refine KH hK fun _ => ?_; clear hK K
    refine R1H 7 fun K hK => ?_
    go_simp
    refine (Z04 s r z _ IX IX (by omega)).mono ?_; rintro e wb ⟨pwb, rfl, hQ, hbwb⟩; have Hwb := zH hQ; have Nwb := Nat.le_of_eq hQ.wl; clear hQ; have := hbwb.sz
    refine KH hK fun _ => ?_; clear hK K
    refine R1H 8 fun K hK => ?_
    go_simp
    refine (Z1X gwa dwa pwa qwa pwb x0 x1 z _ CX IX IX IX (by omega) (by omega) nx nz).mono ?_; rintro e wc ⟨gwc, dwc, pwc, qwc, rfl, hCwc, hQ, hQ', hgewc, hltwc, hbwc⟩; have Hwc := zH hQ; have Kwc := zH hQ'; clear hQ hQ'; (try simp only [SZ] at hgewc); have := hbwc.sz; obtain ⟨_, _, T⟩ := BC4 wc wa.heap.size
    refine KH hK fun _ => ?_; clear hK K
    refine R1H 10 fun K hK => ?_
    go_simp
    refine KH hK fun _ => ?_; clear hK K
    refine wpAnyH_done (by kernel_rfl) ?_ _
    exact ⟨_, gwc, dwc, pwc, qwc, _, Zh _ _, BY, CX, IX, IX, by omega, by (try simp only [SZ]); omega, by omega, by omega, EX⟩
   exact AllReadyH.nil
  refine ARH (fun K hK => ?_) ?_
  ·go_simp
   refine KH hK fun _ => ?_; clear hK K
   refine R1H 3 fun K hK => ?_
   go_simp
   refine (Z48 g d p0 p1 u x0 x1 _ CX hd IX IX IX (by omega) (by omega) nx).mono ?_; rintro e wa ⟨gwa, dwa, pwa, qwa, rfl, hCwa, hQ, hQ', hgewa, hltwa, hbwa⟩; have Hwa := zH hQ; have Kwa := zH hQ'; have Nwa := hQ.wl; clear hQ hQ'; (try simp only [SZ] at hgewa); have := hbwa.sz
   refine KH hK fun _ => ?_; clear hK K
   refine R1H 7 fun K hK => ?_
   go_simp
   refine (Z04 s r z _ IX IX (by omega)).mono ?_; rintro e wb ⟨pwb, rfl, hQ, hbwb⟩; have Hwb := zH hQ; have Nwb := Nat.le_of_eq hQ.wl; clear hQ; have := hbwb.sz
   refine KH hK fun _ => ?_; clear hK K
   refine R1H 8 fun K hK => ?_
   go_simp
   refine (Z1X gwa dwa pwa qwa pwb x0 x1 z _ CX IX IX IX (by omega) (by omega) nx nz).mono ?_; rintro e wc ⟨gwc, dwc, pwc, qwc, rfl, hCwc, hQ, hQ', hgewc, hltwc, hbwc⟩; have Hwc := zH hQ; have Kwc := zH hQ'; clear hQ hQ'; (try simp only [SZ] at hgewc); have := hbwc.sz; obtain ⟨_, _, T⟩ := B40 wc W
   refine KH hK fun _ => ?_; clear hK K
   refine R1H 10 fun K hK => ?_
   go_simp
   refine KH hK fun _ => ?_; clear hK K
   refine wpAnyH_done (by kernel_rfl) ?_ _
   exact ⟨_, gwc, dwc, pwc, qwc, _, Zh _ _, BY, CX, IX, IX, by omega, by (try simp only [SZ]); omega, by omega, by omega, EX⟩
  exact AllReadyH.nil
 case rest =>
  rintro a' We ⟨g8, gs, ds, pa, pb, U, rfl, R8, Rs, hpa, hpb, hgs, hgs2, hg8, hne, hxe⟩
  dsimp only [fr, frl, Nat.reduceBEq, Nat.reduceAdd, cond_true, cond_false]
  have Hpa := zH hpa
  have Hpb := zH hpb
  have hWe := hW.trans hxe
  clear hpa hpb F0 F1 F2
  (try clear FF)
  have S0 := R0.ext hxe
  have M0 := S0.lt
  have F0 := S0.c8
  have S1 := R1.ext hxe
  have M1 := S1.lt
  have F1 := S1.c8
  have S2 := R2.ext hxe
  have M2 := S2.lt
  have F2 := S2.c8
  have S5 := R5.ext hxe
  have M5 := S5.lt
  have F5 := S5.c4
  have S6 := R6.ext hxe
  have M6 := S6.lt
  have F6 := S6.c4
  have S7 := R7.ext hxe
  have M7 := S7.lt
  have F7 := S7.c4
  have L8 := R8.lt
  have F8 := R8.c4
  go_wp2_with (
  first
  | (go_at_call 243; (with_reducible refine (Zj ⟨1, false, none, 0, 0, some ⟨gs, 0, none⟩, 2, ds⟩ false _ (by simp)).mono ?_); rintro e w5 ⟨rfl, hbw5⟩; have := hbw5.sz; obtain ⟨R0, L0, F0⟩ := B80 w5 w; obtain ⟨R1, L1, F1⟩ := B81 w5 w; obtain ⟨R2, L2, F2⟩ := B82 w5 w; obtain ⟨R5, L5, F5⟩ := BC4 w5 w1.heap.size; obtain ⟨R6, L6, F6⟩ := BC4 w5 w2.heap.size; obtain ⟨R8, L8, F8⟩ := BC4 w5 g8)
  | (go_at_call 237; (with_reducible refine (Z8o ⟨1, false, none, 0, 0, some ⟨gs, 0, none⟩, 2, ds⟩ pw1 1 _ IX (Or.inl rfl) (by simp)).mono ?_); rintro e w6 ⟨pw6, rfl, hQ, hbw6⟩; have Hw6 := zH hQ; have Nw6 := Nat.le_of_eq hQ.wl; clear hQ; have := hbw6.sz; obtain ⟨R0, L0, F0⟩ := B80 w6 w; obtain ⟨R1, L1, F1⟩ := B81 w6 w; obtain ⟨R2, L2, F2⟩ := B82 w6 w; obtain ⟨R5, L5, F5⟩ := BC4 w6 w1.heap.size; obtain ⟨R6, L6, F6⟩ := BC4 w6 w2.heap.size; obtain ⟨R8, L8, F8⟩ := BC4 w6 g8))
  go_region_held3 (fun w' => zC w' g8 0 (.int .i64 1) ∧ zC w' g8 1 (.bool false) ∧ zC w' g8 2 (.slice none 0 0) ∧ zC w' g8 3 (.slice (some ⟨gs, 0, none⟩) 2 ds) ∧ zC w' w6.heap.size 0 (.int .i64 0) ∧ zC w' w6.heap.size 1 (.bool pw6.s) ∧ zC w' w6.heap.size 2 (.slice pw6.A pw6.n pw6.c) ∧ zC w' w6.heap.size 3 (.slice pw6.C pw6.m pw6.d) ∧ zC w' w2.heap.size 0 (.int .i64 0) ∧ zC w' w2.heap.size 1 (.bool r.s) ∧ zC w' w2.heap.size 2 (.slice r.A r.n r.c) ∧ zC w' w2.heap.size 3 (.slice r.C r.m r.d) ∧ zC w' (w.heap.size + 1) 4 (.int .i64 0) ∧ zC w' (w.heap.size + 1) 5 (.bool u.s) ∧ zC w' (w.heap.size + 1) 6 (.slice u.A u.n u.c) ∧ zC w' (w.heap.size + 1) 7 (.slice u.C u.m u.d)) (first | (exact KQ) | (simp [go_sem, *]; done)) (first | (go_at_call 239; (with_reducible refine (Zm ⟨1, false, none, 0, 0, some ⟨gs, 0, none⟩, 2, ds⟩ pw6 _ IX).mono ?_); rintro e w7 ⟨rfl, hbw7⟩; have := hbw7.sz) | (go_at_call 239; (with_reducible refine (Zm ⟨0, u.s, u.A, u.n, u.c, u.C, u.m, u.d⟩ pw6 _ IX).mono ?_); rintro e w8 ⟨rfl, hbw8⟩; have := hbw8.sz) | (go_at_call 238; (with_reducible refine (Z04 r u 1 _ IX IX (by have := HR.out.wl; omega)).mono ?_); rintro e w9 ⟨pw9, rfl, hQ, hbw9⟩; have Hw9 := zH hQ; have Nw9 := Nat.le_of_eq hQ.wl; clear hQ; have := hbw9.sz) | (go_at_call 197; (with_reducible refine (Z24 ⟨1, false, none, 0, 0, some ⟨gs, 0, none⟩, 2, ds⟩ pw9 1 _ IX (by decide) (by omega)).mono ?_); rintro e wx ⟨rfl, hbwx⟩; have := hbwx.sz; obtain ⟨R2, L2, F2⟩ := B82 wx w))
  all_goals go_wp2_with fail
  all_goals refine bodyPost_ret (v := .agg (Z6E gs ds pw9)) (by simp [Z6E, results, results198, go_sem, Z6, F2]) rfl ⟨gs, ds, pa, pb, pw9, rfl, CX, IX, IX, IX, by omega, by (try simp only [SZ]); omega, EX⟩
def Z3C (w : World) (v : Value) (e : Ending) (w' : World) : Prop := e = .returned v ∧ Ext w w'
theorem ZbB (w : World) :
  Ca 56 #[] w (Z3C w (.agg Z7H)) := by
 dsimp only [Z7H]
 go_enter func56, ntmps56
 go_wp2
 refine bodyPost_ret (v := .agg Z7H) (by simp [Z7H, results, results56, go_sem, Z6]) rfl ⟨rfl, EX⟩
theorem Z9K (q : QC) (w : World) :
  Ca 124 #[.agg (zA3 q)] w (Z3C w (.agg (Z5O q))) := by
 dsimp only [zA3, Z5O]
 go_enter func124, ntmps124
 go_wp2
 refine bodyPost_ret (v := .agg (Z5O q)) (by simp [Z5O, results, results124, go_sem, Z6]) rfl ⟨rfl, EX⟩
theorem Z7n (z : Int) (w : World) (h0 : -9223372036854775808 ≤ z) (h1 : z ≤ 9223372036854775807) :
  Ca 57 #[.int .i64 z] w (fun e w' => ∃ q : QC, e = .returned (.agg (Z5O q)) ∧ q.At w' (z : Rat) ∧ Ext w w') := by
 dsimp only [Z5O]
 go_enter func57, ntmps57
 go_wp2_with (
  first
  | (go_at_call 27; (with_reducible refine (Zw z _ h0 h1).mono ?_); refine rQz ?_; intro w1 sw1 Aw1 nw1 cw1 tw1 Bw1 mw1 dw1 Hw1 hbw1 hzw1; obtain ⟨R0, L0, F0⟩ := BC7 w1 w.heap.size)
  | (go_at_call 124; (with_reducible refine (Z9K ⟨sw1, Aw1, nw1, cw1, tw1, Bw1, mw1, dw1⟩ _).mono ?_); rintro e w2 ⟨rfl, hbw2⟩; have := hbw2.sz; obtain ⟨R0, L0, F0⟩ := BC7 w2 w.heap.size))
 refine bodyPost_ret (v := .agg #[.int .i64 1, .bool sw1, .slice Aw1 nw1 cw1, .bool tw1, .slice Bw1 mw1 dw1, .int .i64 0, .slice none 0 0]) (by simp [results, results57, go_sem, Z6, F0]) rfl ⟨⟨sw1, Aw1, nw1, cw1, tw1, Bw1, mw1, dw1⟩, rfl, QX, EX⟩
theorem Z9I (q : QC) (w : World) :
  Ca 55 #[.int .i64 4, .agg Z7H, .agg (Z5O q)] w (fun e w' => ∃ g, e = .returned (.agg (Z3D g)) ∧ CK w' g (Z4n q) ∧ w.heap.size ≤ g ∧ g < w'.heap.size ∧ Ext w w') := by
 dsimp only [Z7H, Z5O, Z3D]
 go_enter func55, ntmps55
 go_wp2
 refine bodyPost_ret (v := .agg #[.int .i64 4, .bool false, .slice none 0 0, .bool false, .slice none 0 0, .int .i64 0, .slice (some ⟨(w.heap.size + 1 + 1 + 1), 0, none⟩) 2 2]) (by simp [results, results55, go_sem, Z6]) rfl ⟨_, rfl, by exact (BY : BK _ _ (Zd2 q)).ck, by omega, by exact (BY : BK _ _ (Zd2 q)).lt, EX⟩
theorem Z9J (g : Nat) (w : World) :
  Ca 54 #[.int .i64 10, .agg (Z3D g)] w (fun e w' => ∃ h, e = .returned (.agg (Z83 h)) ∧ CK w' h (ZaU g) ∧ w.heap.size ≤ h ∧ h < w'.heap.size ∧ Ext w w') := by
 dsimp only [Z3D, Z83]
 go_enter func54, ntmps54
 go_wp2
 refine bodyPost_ret (v := .agg #[.int .i64 10, .bool false, .slice none 0 0, .bool false, .slice none 0 0, .int .i64 0, .slice (some ⟨(w.heap.size + 1 + 1), 0, none⟩) 1 1]) (by simp [results, results54, go_sem, Z6]) rfl ⟨_, rfl, by exact (BY : BK _ _ (Z3D g)).ck, by omega, by exact (BY : BK _ _ (Z3D g)).lt, EX⟩
theorem Z8D (w : World) :
  Ca 181 #[.agg Z7H] w (fun e w' => e = .returned (.bool true) ∧ Ext w w') := by
 dsimp only [Z7H]
 go_enter func181, ntmps181
 go_wp2_with fail
 refine wp_loop_rounds 1 ?_
 rw [rounds_succ]
 go_wp2_with fail
 all_goals go_ret
 all_goals exact ⟨rfl, EX⟩
theorem Z8F (q : QC) (w : World) :
  Ca 181 #[.agg (Z5O q)] w (fun e w' => e = .returned (.bool true) ∧ Ext w w') := by
 dsimp only [Z5O]
 go_enter func181, ntmps181
 go_wp2_with fail
 refine wp_loop_rounds 1 ?_
 rw [rounds_succ]
 go_wp2_with fail
 all_goals go_ret
 all_goals exact ⟨rfl, EX⟩
theorem Z8G (h : Nat) (w : World) :
  Ca 181 #[.agg (Z83 h)] w (fun e w' => e = .returned (.bool false) ∧ Ext w w') := by
 dsimp only [Z83]
 go_enter func181, ntmps181
 go_wp2_with fail
 all_goals go_ret
 all_goals exact ⟨rfl, EX⟩
theorem Z8E (g : Nat) (q : QC) (w : World) (h : CK w g (Z4n q)) :
  Ca 181 #[.agg (Z3D g)] w (fun e w' => e = .returned (.bool true) ∧ Ext w w') := by
 have hg := h.lt
 have hk := h.ca; dsimp only [CC, Nat.reduceAdd] at hk; obtain ⟨Fx_0, Fx_1, Fx_2, Fx_3, Fx_4, Fx_5, Fx_6, Fx_7, Fx_8, Fx_9, Fx_10, Fx_11, Fx_12, Fx_13, _⟩ := hk
 dsimp only [Z3D]
 go_enter func181, ntmps181
 go_wp2_with fail
 refine wp_loop_rounds 3 ?_
 rw [rounds_succ]
 go_wp2_with (go_at_call 181; (with_reducible refine (Z8D _).mono ?_); rintro e w1 ⟨rfl, hbw1⟩; have := hbw1.sz; obtain ⟨R0, L0, F0⟩ := BC7 w1 w.heap.size; have Rx : CK w1 (g) (Z4n q) := CX; have Lx := Rx.lt; have Fx_0 := Rx 0 _ rfl; have Fx_1 := Rx 1 _ rfl; have Fx_2 := Rx 2 _ rfl; have Fx_3 := Rx 3 _ rfl; have Fx_4 := Rx 4 _ rfl; have Fx_5 := Rx 5 _ rfl; have Fx_6 := Rx 6 _ rfl; have Fx_7 := Rx 7 _ rfl; have Fx_8 := Rx 8 _ rfl; have Fx_9 := Rx 9 _ rfl; have Fx_10 := Rx 10 _ rfl; have Fx_11 := Rx 11 _ rfl; have Fx_12 := Rx 12 _ rfl; have Fx_13 := Rx 13 _ rfl)
 rw [rounds_succ]
 go_wp2_with (go_at_call 181; (with_reducible refine (Z8F q _).mono ?_); rintro e w2 ⟨rfl, hbw2⟩; have := hbw2.sz; obtain ⟨R0, L0, F0⟩ := BC7 w2 w.heap.size; have Rx : CK w2 (g) (Z4n q) := CX; have Lx := Rx.lt; have Fx_0 := Rx 0 _ rfl; have Fx_1 := Rx 1 _ rfl; have Fx_2 := Rx 2 _ rfl; have Fx_3 := Rx 3 _ rfl; have Fx_4 := Rx 4 _ rfl; have Fx_5 := Rx 5 _ rfl; have Fx_6 := Rx 6 _ rfl; have Fx_7 := Rx 7 _ rfl; have Fx_8 := Rx 8 _ rfl; have Fx_9 := Rx 9 _ rfl; have Fx_10 := Rx 10 _ rfl; have Fx_11 := Rx 11 _ rfl; have Fx_12 := Rx 12 _ rfl; have Fx_13 := Rx 13 _ rfl)
 rw [rounds_succ]
 go_wp2_with fail
 all_goals go_ret
 all_goals exact ⟨rfl, EX⟩
theorem Tryz.info_rat : (Tryz.prog.info? 26).map (fun i => (i.zero, i.size, i.bytes)) = some (some (.agg #[.bool false, .slice none 0 0, .bool false, .slice none 0 0]), 4, 64) := by kernel_rfl
theorem Z2X {w : World} {ops : Array Oper} {rest : List Oper} {o : Oper} {a : Act} {Q : Exit → Act → World → Prop} (hgd : o.guard = none) (s x : Operand)
  (ho : o.op = .call { callee := .builtin .append, args := #[s, x], argTypes := #[127, 127] }) (base : Nat)
  (A : Option Addr) (n c : Nat) (l : List Value) (hown : Z2w w base 26 4 A n c l) (hs : a.eval s = .slice A n c)
  (b m c2 : Nat) (news : List Value) (hx : a.eval x = .slice (some ⟨b, 0, none⟩) m c2) (hm : news.length = m * 4) (hnews : CK w b news) (hsc : ∀ u ∈ news, u.oneCell' = true)
  (hle : n + m ≤ 1000000) (hbase : base ≤ w.heap.size)
  (h : ∀ A' c' w', Z2w w' base 26 4 A' (n + m) c' (l ++ news) → Below base w w' → wpList Tryz.prog ops Q rest (a.put o.dst (.slice A' (n + m) c')) w') : wpList Tryz.prog ops Q (o :: rest) a w := by
 obtain ⟨i0, hi, hz0, hz1, hz2⟩ := info_parts Tryz.info_rat
 exact Z2y hgd s x _ _ i0 _ 4 64 Tryz.underlying127 hi hz0 hz1 hz2 rfl (by decide) (by decide) ho base A n c l hown hs b m c2 news hx hm hnews hsc hle hbase h
theorem BK.belowG {w w' : World} {g B : Nat} {c : Array Value} (h : BK w g c) (k : Below B w w') (hg : g < B) : BK w' g c := by obtain ⟨ty, h⟩ := h; exact ⟨ty, (k.block g hg).trans h⟩
theorem Zd6 {a b c d : Value} (h1 : a.oneCell' = true) (h2 : b.oneCell' = true) (h3 : c.oneCell' = true) (h4 : d.oneCell' = true) : ∀ u ∈ [a, b, c, d], u.oneCell' = true := by
 intro u hu
 simp only [List.mem_cons, List.not_mem_nil, or_false] at hu
 rcases hu with rfl | rfl | rfl | rfl <;> assumption
theorem Z8y (p : QC) (w : World) :
  Ca 229 #[.agg Z7H, .agg (zA3 p)] w (Z3C w (.agg (zA3 p))) := by
 dsimp only [Z7H, zA3]
 go_enter func229, ntmps229
 go_wp2_with fail
 refine wp_loop_rounds 1 ?_
 rw [rounds_succ]
 go_wp2_with fail
 refine bodyPost_ret (v := .agg (zA3 p)) (by simp [zA3, results, results229, go_sem, Z6]) rfl ⟨rfl, EX⟩
theorem Z8A (q p : QC) (w : World) :
  Ca 229 #[.agg (Z5O q), .agg (zA3 p)] w (Z3C w (.agg (zA3 q))) := by
 dsimp only [Z5O, zA3]
 go_enter func229, ntmps229
 go_wp2_with fail
 refine wp_loop_rounds 1 ?_
 rw [rounds_succ]
 go_wp2_with fail
 refine bodyPost_ret (v := .agg (zA3 q)) (by simp [zA3, results, results229, go_sem, Z6]) rfl ⟨rfl, EX⟩
theorem Z8z (g : Nat) (q p : QC) (x y : Rat) (w : World) (h : CK w g (Z4n q)) (hp : p.At w x) (hq : q.At w y) (hs : 2 * (qm x + qm y) + 8 < Z8) :
  Ca 229 #[.agg (Z3D g), .agg (zA3 p)] w (Z0G w (x - y)) := by
 have hg := h.lt
 have hg1 : g < w.heap.size + 1 := by omega
 have hg2 : g < w.heap.size + 1 + 1 := by omega
 have HP := zH hp
 have HQ := zH hq
 have hk := h.ca; dsimp only [CC, Nat.reduceAdd] at hk; obtain ⟨Fx_0, Fx_1, Fx_2, Fx_3, Fx_4, Fx_5, Fx_6, Fx_7, Fx_8, Fx_9, Fx_10, Fx_11, Fx_12, Fx_13, _⟩ := hk
 clear hp hq
 dsimp only [Z3D, zA3]
 go_enter func229, ntmps229
 go_wp2_with fail
 refine wp_loop_rounds 3 ?_
 rw [rounds_succ]
 go_wp2_with (
  first
  | (go_at_call 229; (with_reducible refine (Z8y p _).mono ?_); rintro e w1 ⟨rfl, hbw1⟩; have := hbw1.sz; obtain ⟨R0, L0, F0⟩ := BC7 w1 w.heap.size; obtain ⟨R1, L1, F1⟩ := B41 w1 w; obtain ⟨R2, L2, F2⟩ := B42 w1 w; have Rx : CK w1 (g) (Z4n q) := CX; have Lx := Rx.lt; have Fx_0 := Rx 0 _ rfl; have Fx_1 := Rx 1 _ rfl; have Fx_2 := Rx 2 _ rfl; have Fx_3 := Rx 3 _ rfl; have Fx_4 := Rx 4 _ rfl; have Fx_5 := Rx 5 _ rfl; have Fx_6 := Rx 6 _ rfl; have Fx_7 := Rx 7 _ rfl; have Fx_8 := Rx 8 _ rfl; have Fx_9 := Rx 9 _ rfl; have Fx_10 := Rx 10 _ rfl; have Fx_11 := Rx 11 _ rfl; have Fx_12 := Rx 12 _ rfl; have Fx_13 := Rx 13 _ rfl)
  | ((with_reducible refine (id ?_ : wpList _ _ _ [⟨some 20, _, _, _, _, _⟩, _] _ _)); go_loud (refine Z2X rfl (.tmp 15) (.tmp 19) rfl (w.heap.size + 1 + 1 + 1) _ _ _ _ (Z2w.nil _ _ _ _) rfl w1.heap.size 1 1 [.bool p.s, .slice p.A p.n p.c, .bool p.t, .slice p.B p.m p.d] rfl rfl (by exact (BY : BK _ _ (zA3 p)).ck) (Zd6 rfl rfl rfl rfl) (by decide) (by (try simp only [World.size_alloc]); omega) ?_); intro A1 c1 u1 hO1 hB1; have hx1 : Ext w u1 := Ext.own EX hB1 (by omega); have hzu1 := hB1.size; (try simp only [World.size_alloc] at hzu1); have Q0 : BK u1 (w.heap.size) (Z3D g) := BK.belowG BY hB1 (by omega); have Q1 : BK u1 (w.heap.size + 1) (zA3 p) := BK.belowG BY hB1 (by omega); have Q2 : BK u1 (w.heap.size + 1 + 1) zA9 := BK.belowG BY hB1 (by omega); have F0 := Q0.c7; have F1 := Q1.c4; have F2 := Q2.c4; have L0 := Q0.lt; have L1 := Q1.lt; have L2 := Q2.lt; have Rx : CK u1 (g) (Z4n q) := CX; have Lx := Rx.lt; have Fx_0 := Rx 0 _ rfl; have Fx_1 := Rx 1 _ rfl; have Fx_2 := Rx 2 _ rfl; have Fx_3 := Rx 3 _ rfl; have Fx_4 := Rx 4 _ rfl; have Fx_5 := Rx 5 _ rfl; have Fx_6 := Rx 6 _ rfl; have Fx_7 := Rx 7 _ rfl; have Fx_8 := Rx 8 _ rfl; have Fx_9 := Rx 9 _ rfl; have Fx_10 := Rx 10 _ rfl; have Fx_11 := Rx 11 _ rfl; have Fx_12 := Rx 12 _ rfl; have Fx_13 := Rx 13 _ rfl))
 rw [rounds_succ]
 go_wp2_with (
  first
  | (go_at_call 229; (with_reducible refine (Z8A q p _).mono ?_); rintro e w2 ⟨rfl, hbw2⟩; have := hbw2.sz; obtain ⟨R0, L0, F0⟩ := BC7 w2 w.heap.size; obtain ⟨R1, L1, F1⟩ := B41 w2 w; obtain ⟨R2, L2, F2⟩ := B42 w2 w; have Rx : CK w2 (g) (Z4n q) := CX; have Lx := Rx.lt; have Fx_0 := Rx 0 _ rfl; have Fx_1 := Rx 1 _ rfl; have Fx_2 := Rx 2 _ rfl; have Fx_3 := Rx 3 _ rfl; have Fx_4 := Rx 4 _ rfl; have Fx_5 := Rx 5 _ rfl; have Fx_6 := Rx 6 _ rfl; have Fx_7 := Rx 7 _ rfl; have Fx_8 := Rx 8 _ rfl; have Fx_9 := Rx 9 _ rfl; have Fx_10 := Rx 10 _ rfl; have Fx_11 := Rx 11 _ rfl; have Fx_12 := Rx 12 _ rfl; have Fx_13 := Rx 13 _ rfl)
  | ((with_reducible refine (id ?_ : wpList _ _ _ [⟨some 20, _, _, _, _, _⟩, _] _ _)); go_loud (refine Z2X rfl (.tmp 15) (.tmp 19) rfl (w.heap.size + 1 + 1 + 1) _ _ _ _ (Z2w.ext hO1 EX) rfl w2.heap.size 1 1 [.bool q.s, .slice q.A q.n q.c, .bool q.t, .slice q.B q.m q.d] rfl rfl (by exact (BY : BK _ _ (zA3 q)).ck) (Zd6 rfl rfl rfl rfl) (by decide) (by (try simp only [World.size_alloc]); omega) ?_); intro A2 c2 u2 hO2 hB2; have hx2 : Ext w u2 := Ext.own EX hB2 (by omega); have hzu2 := hB2.size; (try simp only [World.size_alloc] at hzu2); have Q0 : BK u2 (w.heap.size) (Z3D g) := BK.belowG BY hB2 (by omega); have Q1 : BK u2 (w.heap.size + 1) (zA3 p) := BK.belowG BY hB2 (by omega); have Q2 : BK u2 (w.heap.size + 1 + 1) zA9 := BK.belowG BY hB2 (by omega); have F0 := Q0.c7; have F1 := Q1.c4; have F2 := Q2.c4; have L0 := Q0.lt; have L1 := Q1.lt; have L2 := Q2.lt; have Rx : CK u2 (g) (Z4n q) := CX; have Lx := Rx.lt; have Fx_0 := Rx 0 _ rfl; have Fx_1 := Rx 1 _ rfl; have Fx_2 := Rx 2 _ rfl; have Fx_3 := Rx 3 _ rfl; have Fx_4 := Rx 4 _ rfl; have Fx_5 := Rx 5 _ rfl; have Fx_6 := Rx 6 _ rfl; have Fx_7 := Rx 7 _ rfl; have Fx_8 := Rx 8 _ rfl; have Fx_9 := Rx 9 _ rfl; have Fx_10 := Rx 10 _ rfl; have Fx_11 := Rx 11 _ rfl; have Fx_12 := Rx 12 _ rfl; have Fx_13 := Rx 13 _ rfl; obtain ⟨gl, rfl, hgl, hgb, hgl2, hcl⟩ := Z2w.ck hO2 (by decide)))
 rw [rounds_succ]
 go_wp2_with fail
 have Rl : CK _ gl (Z2H p q) := hgl
 have Fl := Rl.ca; dsimp only [CC, Nat.reduceAdd] at Fl
 go_region_held3 (fun w' => zC w' gl 0 (.bool p.s) ∧ zC w' gl 1 (.slice p.A p.n p.c) ∧ zC w' gl 2 (.bool p.t) ∧ zC w' gl 3 (.slice p.B p.m p.d) ∧ zC w' gl 4 (.bool q.s) ∧ zC w' gl 5 (.slice q.A q.n q.c) ∧ zC w' gl 6 (.bool q.t) ∧ zC w' gl 7 (.slice q.B q.m q.d)) (first | (exact KQ) | (simp [go_sem, *]; done)) ((go_at_call 133; (with_reducible refine (Z1s (x := x) (y := y) (h1 := QX) (h2 := QX) (hs := hs)).mono ?_); refine rQz ?_; intro w3 sw3 Aw3 nw3 cw3 tw3 Bw3 mw3 dw3 Hw3 hbw3 hzw3; obtain ⟨R2, L2, F2⟩ := B42 w3 w))
 all_goals go_wp2_with fail
 all_goals refine bodyPost_ret (v := .agg (Z01 sw3 Aw3 nw3 cw3 tw3 Bw3 mw3 dw3)) (by simp [Z01, results, results229, go_sem, Z6, F2]) rfl ⟨_, _, _, _, _, _, _, _, rfl, QX, EX⟩
theorem Z42 {w : World} {o : Oper} {a : Act} {K : Act → World → Prop} {Q : Exit → Act → World → Prop} (s x : Operand)
  (ho : o.op = .call { callee := .builtin .append, args := #[s, x], argTypes := #[22, 22] }) (hs : a.eval s = .slice none 0 0)
  (b off m c2 : Nat) (news : List Nat) (hx : a.eval x = .slice (some ⟨b, off, none⟩) m c2) (hm : news.length = m) (hnews : ∀ j, j < m → w.cell? ⟨b, off + j, none⟩ = some (.int .u32 ((news.getD j 0 : Nat) : Int))) (hok : WOk news) (hle : m ≤ 8589934592)
  (h : ∀ A' c' w', WAt w' A' m c' news → Ext w w' → K (a.put o.dst (.slice A' m c')) w') : o.wp Tryz.prog a w K Q := by
 obtain ⟨i0, hi, hz0, hz1, hz2⟩ := info_parts Tryz.info_u32
 refine wp_append_own w s x 22 ho w.heap.size 131 i0 (.int .u32 0) 1 4 Tryz.underlying22 hi hz0 hz1 hz2 rfl (by decide) _ 0 [] hs (Own.nil w w.heap.size).row ⟨b, off, none⟩ m c2 (news.map wv) hx (by rw [List.length_map, hm, Nat.mul_one]) ?_ ?_ (by simp only [maxLen]; omega) (by omega) (Nat.le_refl _) ?_
 ·intro j u hj
  have hj1 : j < news.length := by
   have := (List.getElem?_eq_some_iff.1 hj).1
   rwa [List.length_map] at this
  have := hnews j (by omega)
  rw [show (⟨b, off, none⟩ : Addr).add j = ⟨b, off + j, none⟩ from by unfold Addr.add; split <;> simp_all, this]
  rw [List.getElem?_map, List.getElem?_eq_getElem hj1] at hj
  rw [List.getD_eq_getElem?_getD, List.getElem?_eq_getElem hj1]
  simpa [wv] using hj
 ·intro u hu
  obtain ⟨x, _, rfl⟩ := List.mem_map.1 hu
  rfl
 ·intro v' w' h1 h2 h3
  simp only [Nat.zero_add, List.nil_append] at h1
  have hB : Ext w w' := Below.grown (Below.refl _ _) h2 (Nat.le_refl _) (fun k hk => by cases hk)
  have hO : ∀ A' c', v' = .slice A' m c' → Own w' w.heap.size A' m c' news := fun A' c' e => by
   subst e
   exact ⟨h1, hok⟩
  rcases h1.2 with ⟨e1, e2⟩ | ⟨g, cap, cur, e1, e2, e3, e4, e5, e6, e7⟩
  ·have e3 : v' = .slice none m 0 := by rw [e1, e2]
   have := h _ _ w' (hO _ _ e3).wat hB
   rw [e3]; exact this
  ·have := h _ _ w' (hO _ _ e1).wat hB
   rw [e1]; exact this
theorem IAt.cellsN {w : World} {s : Bool} {b off n c : Nat} {z : Int} (h : IAt w s (some ⟨b, off, none⟩) n c z) : ∀ j, j < n → w.cell? ⟨b, off + j, none⟩ = some (.int .u32 (((Z7 z.natAbs).getD j 0 : Nat) : Int)) := h.rep.cells
theorem Z8k (q : QC) (x : Rat) (w : World) (hq : q.At w x) (hn : q.n ≠ 0) (hs : qm x ≤ 1000) :
  Ca 245 #[.agg (zA3 q)] w (Z0G w x) := by
 obtain ⟨s, A, n, c, t, B, m, d⟩ := q
 have hN := hq.num
 have hD := hq.den
 simp only at hN hD hn
 have hqN := hq.n
 have hqM := hq.m
 simp only at hqN hqM
 have hm : m ≠ 0 := fun e => by have := hD.zero_iff.1 e; have := x.den_nz; omega
 obtain ⟨bn, fn, rfl, -⟩ := hN.rep.rep.words (by rw [← hN.rep.len]; omega)
 obtain ⟨bd, fd, rfl, -⟩ := hD.rep.rep.words (by rw [← hD.rep.len]; omega)
 clear hq
 show Ca 245 #[.agg #[.bool s, .slice (some ⟨bn, fn, none⟩) n c, .bool t, .slice (some ⟨bd, fd, none⟩) m d]] w (Z0G w x)
 go_enter func245, ntmps245
 go_wp2_with fail
 refine (?_ : ∀ W : World, Ext w W → BK W (w.heap.size) #[.bool s, .slice (some ⟨bn, fn, none⟩) n c, .bool t, .slice (some ⟨bd, fd, none⟩) m d] → BK W (w.heap.size + 1) zA9 → Code.wp Tryz.prog _ _ _ W) _ EX BY BY
 intro W hW R0 R1
 replace hN := hN.ext hW
 replace hD := hD.ext hW
 have L0 := R0.lt
 have L1 := R1.lt
 have F0 := R0.c4
 refine Zc (fun a' w' => ∃ (r : QC) (U : Nat → Value), a' = fr 20 U [(0, .agg #[.bool s, .slice (some ⟨bn, fn, none⟩) n c, .bool t, .slice (some ⟨bd, fd, none⟩) m d]), (1, .pointer (some ⟨w.heap.size, 0, none⟩)), (2, .pointer (some ⟨w.heap.size + 1, 0, none⟩))] ∧ BK w' (w.heap.size + 1) (zA3 r) ∧ r.At w' x ∧ Ext w w') (fun w' => CB w' w.heap.size 0 [.bool s, .slice (some ⟨bn, fn, none⟩) n c, .bool t, .slice (some ⟨bd, fd, none⟩) m d]) Z0a ?rest (by dsimp only [CB, Nat.reduceAdd]; exact KQ) ?expl
 case expl =>
  dsimp only [CB, Nat.reduceAdd]
  intro hHeld
  skip
  refine TH 0 ?_; refine TH 1 ?_; refine TH 2 ?_; refine TH 3 ?_; refine TH 4 ?_; refine TH 5 ?_; refine TH 8 ?_; refine TH 9 ?_; refine TH 10 ?_; refine TH 11 ?_; refine TH 12 ?_; refine TH 13 ?_
  refine R1H 6 fun K hK => ?_
  (rw [if_pos (by rfl)]; refine Z42 (.const (.slice none 0 0)) (.tmp 8) (by rfl) (by rfl) bn fn n _ (Z7 (x.num).natAbs) (by rfl) hN.rep.len.symm hN.cellsN hN.rep.rep.ok (by omega) ?_; intro A1 c1 u1 hW1 hx1; have hzu1 := hx1.size; (try simp only [SZ] at hzu1))
  refine KH hK fun _ => ?_; clear hK K
  refine TH 7 ?_
  refine R1H 14 fun K hK => ?_
  (rw [if_pos (by rfl)]; refine Z42 (.const (.slice none 0 0)) (.tmp 16) (by rfl) (by rfl) bd fd m _ (Z7 (((x.den : Nat) : Int)).natAbs) (by rfl) (hD.ext (show Ext W u1 from EX)).rep.len.symm (hD.ext (show Ext W u1 from EX)).cellsN (hD.ext (show Ext W u1 from EX)).rep.rep.ok (by omega) ?_; intro A2 c2 u2 hW2 hx2; have hzu2 := hx2.size; (try simp only [SZ] at hzu2)); obtain ⟨_, _, T⟩ := B41 u2 w
  refine KH hK fun _ => ?_; clear hK K
  refine TH 15 ?_; refine TH 16 ?_
  refine R1H 17 fun K hK => ?_
  go_simp
  refine KH hK fun _ => ?_; clear hK K
  refine wpAnyH_done (by kernel_rfl) ?_ _
  exact ⟨⟨s, A1, n, c1, t, A2, m, c2⟩, _, Zr _ _, BY, ⟨⟨hN.sgn, hW1.keep KS⟩, ⟨hD.sgn, hW2.keep KS⟩⟩, EX⟩
 case rest =>
  rintro a' W ⟨r, U, rfl, B1, hr, hxr⟩
  dsimp only [fr, frl, Nat.reduceBEq, Nat.reduceAdd, cond_true, cond_false]
  have Fu := B1.c4
  go_wp2_with fail
  refine bodyPost_ret (v := .agg (zA3 r)) (by simp [zA3, results, results245, go_sem, Fu]) rfl ⟨_, _, _, _, _, _, _, _, rfl, hr, hxr⟩
theorem Z61 (z : Int) (w : World) (h0 : -9223372036854775808 ≤ z) (h1 : z ≤ 9223372036854775807) :
  Ca 269 #[.int .i64 z] w (Z0G w (z : Rat)) := by
 go_enter func269, ntmps269
 go_wp2_with (
  first
  | (go_at_call 148; (with_reducible refine (Zk z _ h0 h1).mono ?_); refine rIz ?_; intro w1 sw1 Aw1 nw1 cw1 Hw1 hbw1 hzw1; obtain ⟨R0, L0, F0⟩ := B40 w1 w)
  | (go_at_call 141; (with_reducible refine (Z14 _ _ _ _ z _ IX).mono ?_); refine rQz ?_; intro w2 sw2 Aw2 nw2 cw2 tw2 Bw2 mw2 dw2 Hw2 hbw2 hzw2; obtain ⟨R0, L0, F0⟩ := B40 w2 w))
 refine bodyPost_ret (v := .agg (Z01 sw2 Aw2 nw2 cw2 tw2 Bw2 mw2 dw2)) (by simp [Z01, results, results269, go_sem, Z6, F0]) rfl ⟨_, _, _, _, _, _, _, _, rfl, QX, EX⟩
theorem ZaF (p q : QC) (x y : Rat) (w : World) (hp : p.At w x) (hq : q.At w y) (hs : 2 * (qm x + qm y) + 8 < Z8) :
  Ca 303 #[.agg (zA3 p), .agg (zA3 q)] w (Z0G w (x + y)) := by
 have HP := zH hp
 have HQ := zH hq
 clear hp hq
 dsimp only [zA3]
 go_enter func303, ntmps303
 go_wp2_with (go_at_call 132; (with_reducible refine (Z0V (x := x) (y := y) (h1 := QX) (h2 := QX) (hs := by omega)).mono ?_); refine rQz ?_; intro w1 sw1 Aw1 nw1 cw1 tw1 Bw1 mw1 dw1 Hw1 hbw1 hzw1; obtain ⟨R0, L0, F0⟩ := B40 w1 w; obtain ⟨R1, L1, F1⟩ := B41 w1 w; obtain ⟨R2, L2, F2⟩ := B42 w1 w)
 refine bodyPost_ret (v := .agg (Z01 sw1 Aw1 nw1 cw1 tw1 Bw1 mw1 dw1)) (by simp [Z01, results, results303, go_sem, Z6, F2]) rfl ⟨_, _, _, _, _, _, _, _, rfl, QX, EX⟩
theorem Z9D (p q : QC) (x y : Rat) (w : World) (hp : p.At w x) (hq : q.At w y) (hs : 2 * (qm x + qm y) + 8 < Z8) :
  Ca 304 #[.agg (zA3 p), .agg (zA3 q)] w (Z0G w (x * y)) := by
 have HP := zH hp
 have HQ := zH hq
 clear hp hq
 dsimp only [zA3]
 go_enter func304, ntmps304
 go_wp2_with (go_at_call 134; (with_reducible refine (Z03 (x := x) (y := y) (h1 := QX) (h2 := QX) (hs := by omega)).mono ?_); refine rQz ?_; intro w1 sw1 Aw1 nw1 cw1 tw1 Bw1 mw1 dw1 Hw1 hbw1 hzw1; obtain ⟨R0, L0, F0⟩ := B40 w1 w; obtain ⟨R1, L1, F1⟩ := B41 w1 w; obtain ⟨R2, L2, F2⟩ := B42 w1 w)
 refine bodyPost_ret (v := .agg (Z01 sw1 Aw1 nw1 cw1 tw1 Bw1 mw1 dw1)) (by simp [Z01, results, results304, go_sem, Z6, F2]) rfl ⟨_, _, _, _, _, _, _, _, rfl, QX, EX⟩
theorem Z7i (b : Option Addr) (n c : Nat) (w : World) :
  Ca 281 #[.slice b n c] w (fun e w' => e = .returned (.func (.func 287) #[] #[.pointer (some ⟨w.heap.size, 0, none⟩)]) ∧ BK w' w.heap.size #[.slice b n c] ∧ Ext w w') := by
 have hmf : ∀ (fn : Fn) (first cap : Array Value) (w : World), (Instr.makeFunc fn first cap).run Tryz.prog w = .ok (.func fn first cap) w := fun _ _ _ _ => rfl
 go_enter func281, ntmps281
 go_wp2
 go_ret
 exact ⟨rfl, BY, EX⟩
theorem Z7h (w : World) :
  Ca 245 #[.agg zA9] w (fun e w' => e = .returned (.agg zA9) ∧ Ext w w') := by
 dsimp only [zA9]
 go_enter func245, ntmps245
 go_wp2_with fail
 go_region_held3 (fun w' => zC w' w.heap.size 0 (.bool false) ∧ zC w' w.heap.size 1 (.slice none 0 0) ∧ zC w' w.heap.size 2 (.bool false) ∧ zC w' w.heap.size 3 (.slice none 0 0)) (first | (exact KQ) | (simp [go_sem, *]; done)) (fail)
 all_goals go_wp2_with fail
 all_goals refine bodyPost_ret (v := .agg zA9) (by simp [zA9, results, results245, go_sem, Z6]) rfl ⟨rfl, EX⟩
theorem BK.fin3 {P : Program} {fn : Func} {R : Ending → World → Prop} {ex : Exit} {a : Act} {w0 w : World} {g : Nat} {c : Array Value} {T : World → Prop} (h : BK w g c) (e : Ext w0 w) (t : T w) (k : ∀ W, BK W g c → Ext w0 W → T W → bodyPost P fn R ex a W) : bodyPost P fn R ex a w := k w h e t
def Zb4 (w : World) (x : Rat) (e : Ending) (w' : World) : Prop := ∃ q : QC, e = .returned (.agg #[.int .i64 0, .bool q.s, .slice q.A q.n q.c, .bool q.t, .slice q.B q.m q.d, .slice none 0 0, .slice none 0 0]) ∧ q.At w' x ∧ Ext w w'
def Zcb (w : World) (x y : Int) (e : Ending) (w' : World) : Prop := ∃ p r : PV, e = .returned (.agg #[.int .i64 0, .bool p.s, .slice p.A p.n p.c, .slice p.C p.m p.d, .int .i64 0, .bool r.s, .slice r.A r.n r.c, .slice r.C r.m r.d]) ∧ p.At w' x ∧ r.At w' y ∧ Ext w w'
theorem Z3W (q : QC) (w : World) :
  Ca 118 #[.agg (zA3 q)] w (Z3C w (.agg (Z1A q))) := by
 dsimp only [zA3, Z1A]
 go_enter func118, ntmps118
 go_wp2
 refine bodyPost_ret (v := .agg (Z1A q)) (by simp [Z1A, results, results118, go_sem, Z6]) rfl ⟨rfl, EX⟩
theorem Z49 (z : Int) (w : World) (h0 : -9223372036854775808 ≤ z) (h1 : z ≤ 9223372036854775807) :
  Ca 50 #[.int .i64 z] w (Zb4 w (z : Rat)) := by
 go_enter func50, ntmps50
 go_wp2_with (
  first
  | (go_at_call 93; (with_reducible refine (Zv z _ h0 h1).mono ?_); refine rIz ?_; intro w1 sw1 Aw1 nw1 cw1 Hw1 hbw1 hzw1; obtain ⟨R0, L0, F0⟩ := BC7 w1 w.heap.size)
  | (go_at_call 92; (with_reducible refine (Z2F _ _ _ _ z _ IX).mono ?_); refine rQz ?_; intro w2 sw2 Aw2 nw2 cw2 tw2 Bw2 mw2 dw2 Hw2 hbw2 hzw2; obtain ⟨R0, L0, F0⟩ := BC7 w2 w.heap.size)
  | (go_at_call 118; (with_reducible refine (Z3W ⟨sw2, Aw2, nw2, cw2, tw2, Bw2, mw2, dw2⟩ _).mono ?_); rintro e w3 ⟨rfl, hbw3⟩; have := hbw3.sz; obtain ⟨R0, L0, F0⟩ := BC7 w3 w.heap.size))
 refine bodyPost_ret (v := .agg #[.int .i64 0, .bool sw2, .slice Aw2 nw2 cw2, .bool tw2, .slice Bw2 mw2 dw2, .slice none 0 0, .slice none 0 0]) (by simp [results, results50, go_sem, Z6, F0]) rfl ⟨⟨sw2, Aw2, nw2, cw2, tw2, Bw2, mw2, dw2⟩, rfl, QX, EX⟩
theorem ZaH (w : World) : Ca 50 #[.int .i64 0] w (Zb4 w 0) := by
 have := Z49 0 w (by decide) (by decide)
 rw [show ((0 : Int) : Rat) = 0 from by decide +kernel] at this
 exact this
theorem Z3B (w : World) : Ca 50 #[.int .i64 1] w (Zb4 w 1) := by
 have := Z49 1 w (by decide) (by decide)
 rw [show ((1 : Int) : Rat) = 1 from by decide +kernel] at this
 exact this
theorem Z38 (gn gd : Nat) (cn cd dn dd : Nat) (w : World) :
  Ca 192 #[.agg (Zbd gn cn dn gd cd dd)] w (fun e w' => e = .returned (.bool false) ∧ Ext w w') := by
 dsimp only [Zbd]
 go_enter func192, ntmps192
 go_wp2_with fail
 all_goals go_ret
 all_goals exact ⟨rfl, EX⟩
theorem Z39 (q : QC) (x : Rat) (w : World) (hq : q.At w x) (hx : x ≠ 0) (hs : qm x ≤ 1000) :
  Ca 192 #[.agg (Z1A q)] w (fun e w' => e = .returned (.bool false) ∧ Ext w w') := by
 have hmw : 100000 < Z8 := by decide
 have hn := hq.n
 obtain ⟨c, hc⟩ : ∃ c, c = Z0R x.num := ⟨_, rfl⟩
 have hnum : x.num ≠ 0 := fun e => hx (Rat.num_eq_zero.1 e)
 have hc0 : c ≠ 0 := by rw [hc]; unfold Z0R; split <;> (try split) <;> omega
 have hc1 : decide (c = 0) = false := decide_eq_false hc0
 have HS := zH (fun W (h : q.At W x) => (by have := Z1p q.s q.A q.n q.c q.t q.B q.m q.d x W h (by omega); rw [← hc] at this; exact this : Ca 28 #[.agg #[.bool q.s, .slice q.A q.n q.c, .bool q.t, .slice q.B q.m q.d]] W fun e w' => e = .returned (.int .i64 c) ∧ Ext W w'))
 have HQ := zH hq
 clear hq hc hnum
 dsimp only [Z1A]
 go_enter func192, ntmps192
 go_wp2_with (go_at_call 28; (with_reducible refine (HS.out _ QX).mono ?_); rintro e w1 ⟨rfl, hbw1⟩; have := hbw1.sz)
 all_goals go_ret
 all_goals exact ⟨by simp [hc0], EX⟩
theorem Z8q (q : QC) (x : Rat) (w : World) (hq : q.At w x) (hs : qm x ≤ 1000) :
  Ca 120 #[.agg (Z1A q)] w (Zb4 w (-x)) := by
 have hmw : 100000 < Z8 := by decide
 have hn := hq.n
 have HQ := zH hq
 clear hq
 dsimp only [Z1A]
 go_enter func120, ntmps120
 go_wp2_with (
  first
  | (go_at_call 35; (with_reducible refine (Z2R q.s q.A q.n q.c q.t q.B q.m q.d x _ QX (by omega)).mono ?_); refine rQz ?_; intro w2 sw2 Aw2 nw2 cw2 tw2 Bw2 mw2 dw2 Hw2 hbw2 hzw2; obtain ⟨R0, L0, F0⟩ := BC7 w2 w.heap.size; obtain ⟨R1, L1, F1⟩ := BC7 w2 (w.heap.size + 1))
  | (go_at_call 118; (with_reducible refine (Z3W ⟨sw2, Aw2, nw2, cw2, tw2, Bw2, mw2, dw2⟩ _).mono ?_); rintro e w3 ⟨rfl, hbw3⟩; have := hbw3.sz; obtain ⟨R0, L0, F0⟩ := BC7 w3 w.heap.size; obtain ⟨R1, L1, F1⟩ := BC7 w3 (w.heap.size + 1)))
 refine bodyPost_ret (v := .agg #[.int .i64 0, .bool sw2, .slice Aw2 nw2 cw2, .bool tw2, .slice Bw2 mw2 dw2, .slice none 0 0, .slice none 0 0]) (by simp [results, results120, go_sem, Z6, F1]) rfl ⟨⟨sw2, Aw2, nw2, cw2, tw2, Bw2, mw2, dw2⟩, rfl, QX, EX⟩
def Zce (_ : Nat) : Prop := True
theorem Z8r (w : World) :
  Ca 52 #[.int .i64 1] w (fun e w' => ∃ (gn gd : Nat) (a b c : QC), e = .returned (.agg #[.int .i64 1, .bool false, .slice none 0 0, .bool false, .slice none 0 0, .slice (some ⟨gn, 0, none⟩) 2 2, .slice (some ⟨gd, 0, none⟩) 1 1]) ∧ CK w' gn (zL1 a b) ∧ CK w' gd (zL6 c) ∧ a.At w' 0 ∧ b.At w' 1 ∧ c.At w' 1 ∧ w.heap.size ≤ gn ∧ w.heap.size ≤ gd ∧ gn < w'.heap.size ∧ gd < w'.heap.size ∧ Ext w w') := by
 have hbd : ∀ (b c : Option Addr) (n m k l : Nat) (W : World), (Instr.build 70 #[(0, .int .i64 1), (2, .slice b n m), (3, .slice c k l)]).run Tryz.prog W = .ok (.agg #[.int .i64 1, .bool false, .slice none 0 0, .bool false, .slice none 0 0, .slice b n m, .slice c k l]) W := by intros; kernel_rfl
 have hflag : Zce 2 := trivial
 have hflag3 : Zce 3 := trivial
 go_enter func52, ntmps52
 go_wp2_with (
  first
  | (go_at_call 50; (with_reducible refine (ZaH _).mono ?_); rintro e w1 ⟨qw1, rfl, hQ, hbw1⟩; have Hw1 := zH hQ; clear hQ; have := hbw1.sz)
  | (go_at_call 50; (have hfl : Zce 2 := (by with_reducible assumption)); clear hfl hflag; (with_reducible refine (Z3B _).mono ?_); rintro e w2 ⟨qw2, rfl, hQ, hbw2⟩; have Hw2 := zH hQ; clear hQ; have := hbw2.sz)
  | (go_at_call 50; (with_reducible refine (Z3B _).mono ?_); rintro e w3 ⟨qw3, rfl, hQ, hbw3⟩; have Hw3 := zH hQ; clear hQ; have := hbw3.sz; obtain ⟨R0, L0, F0⟩ := BC7 w3 w.heap.size)
  | ((with_reducible refine (id ?_ : wpList _ _ _ [⟨none, _, _, _, _, _⟩] _ _)); (have hfl : Zce 3 := (by with_reducible assumption)); clear hfl hflag3; (obtain ⟨W, hWe⟩ : ∃ W, w3.alloc (.cells #[.int .i64 0, .bool qw3.s, .slice qw3.A qw3.n qw3.c, .bool qw3.t, .slice qw3.B qw3.m qw3.d, .slice none 0 0, .slice none 0 0] 70) = W := ⟨_, rfl⟩); (have RW : BK W w.heap.size Z1T := (by rw [← hWe]; exact BY)); (have EW : Ext w3 W := (by rw [← hWe]; exact EX)); (have RW3 : BK W w3.heap.size (Z1A qw3) := (by rw [← hWe]; exact BY)); rw [hWe]; clear hWe F0; have LW := RW.lt; have LW3 := RW3.lt; have hzW := EW.size; have FW := RW.c7))
 refine BK.fin3 (g := w.heap.size) (c := #[.int .i64 1, .bool false, .slice none 0 0, .bool false, .slice none 0 0, .slice (some ⟨w2.heap.size, 0, none⟩) 2 2, .slice (some ⟨w3.heap.size, 0, none⟩) 1 1]) (w0 := w) (T := fun W => CK W w2.heap.size (zL1 qw1 qw2) ∧ CK W w3.heap.size (zL6 qw3) ∧ qw1.At W 0 ∧ qw2.At W 1 ∧ qw3.At W 1 ∧ w2.heap.size < W.heap.size ∧ w3.heap.size < W.heap.size) BY EX ⟨by exact (BY : BK _ _ #[.int .i64 0, .bool qw1.s, .slice qw1.A qw1.n qw1.c, .bool qw1.t, .slice qw1.B qw1.m qw1.d, .slice none 0 0, .slice none 0 0, .int .i64 0, .bool qw2.s, .slice qw2.A qw2.n qw2.c, .bool qw2.t, .slice qw2.B qw2.m qw2.d, .slice none 0 0, .slice none 0 0]).ck, by exact (BY : BK _ _ (Z1A qw3)).ck, QX, QX, QX, by (try simp only [SZ]); omega, by (try simp only [SZ]); omega⟩ (fun W U E hT => ?_)
 have Fu := U.c7
 obtain ⟨t1, t2, t3, t4, t5, t6, t7⟩ := hT
 refine bodyPost_ret (v := .agg #[.int .i64 1, .bool false, .slice none 0 0, .bool false, .slice none 0 0, .slice (some ⟨w2.heap.size, 0, none⟩) 2 2, .slice (some ⟨w3.heap.size, 0, none⟩) 1 1]) (by simp [results, results52, go_sem, Fu]) rfl ⟨_, _, qw1, qw2, qw3, rfl, t1, t2, t3, t4, t5, by omega, by omega, t6, t7, E⟩
theorem Z5B (q : QC) (x : Rat) (w : World) (hq : q.At w x) :
  Ca 194 #[.agg (Z1A q)] w (Zcb w x.num (x.den : Int)) := by
 have H1 := zH hq.num
 have H2 := zH hq.den
 clear hq
 dsimp only [Z1A]
 go_enter func194, ntmps194
 go_wp2_with fail
 go_region_held3 (fun w' => zC w' w.heap.size 0 (.int .i64 0) ∧ zC w' w.heap.size 1 (.bool q.s) ∧ zC w' w.heap.size 2 (.slice q.A q.n q.c) ∧ zC w' w.heap.size 3 (.bool q.t) ∧ zC w' w.heap.size 4 (.slice q.B q.m q.d) ∧ zC w' w.heap.size 5 (.slice none 0 0) ∧ zC w' w.heap.size 6 (.slice none 0 0)) (first | (exact KQ) | (simp [go_sem, *]; done)) (first | (go_at_call 232; (with_reducible refine (ZA q.s q.A q.n q.c x.num _ IX).mono ?_); rintro e w1 ⟨pw1, rfl, hQ, hbw1⟩; have Hw1 := zH hQ; clear hQ; have := hbw1.sz; obtain ⟨R1, L1, F1⟩ := B81 w1 w) | (go_at_call 232; (with_reducible refine (ZA q.t q.B q.m q.d ((x.den : Nat) : Int) _ IX).mono ?_); rintro e w2 ⟨pw2, rfl, hQ, hbw2⟩; have Hw2 := zH hQ; clear hQ; have := hbw2.sz; obtain ⟨R1, L1, F1⟩ := B81 w2 w))
 all_goals go_wp2_with fail
 all_goals refine bodyPost_ret (v := .agg (Z2j pw1 pw2)) (by simp [Z2j, results, results194, go_sem, Z6, F1]) rfl ⟨pw1, pw2, rfl, IX, IX, EX⟩
theorem Z0z (p r : PV) (z : Int) (w : World) (hp : p.At w z) (hr : r.At w 1) :
  Ca 195 #[.agg (Z2j p r)] w (Zb4 w (z : Rat)) := by
 have H1 := zH hp
 have H2 := zH hr
 have mx : max (0 : Int) 0 = 0 := by decide
 clear hp hr
 dsimp only [Z2j]
 go_enter func195, ntmps195
 go_wp2_with (go_at_call 118; (with_reducible refine (Z3W ⟨p.s, p.A, p.n, p.c, r.s, r.A, r.n, r.c⟩ _).mono ?_); rintro e w1 ⟨rfl, hbw1⟩; have := hbw1.sz; obtain ⟨R1, L1, F1⟩ := BC7 w1 (w.heap.size + 1))
 refine bodyPost_ret (v := .agg #[.int .i64 0, .bool p.s, .slice p.A p.n p.c, .bool r.s, .slice r.A r.n r.c, .slice none 0 0, .slice none 0 0]) (by simp [results, results195, go_sem, Z6, F1]) rfl ⟨⟨p.s, p.A, p.n, p.c, r.s, r.A, r.n, r.c⟩, rfl, ⟨by rw [Rat.num_intCast]; exact IX, by rw [Rat.den_intCast]; exact IX⟩, EX⟩
theorem Z6x (gn gd : Nat) (cn cd dn dd : Nat) (w : World) :
  Ca 193 #[.agg (Zbd gn cn dn gd cd dd)] w (fun e w' => e = .returned (.bool false) ∧ Ext w w') := by
 dsimp only [Zbd]
 go_enter func193, ntmps193
 go_wp2_with fail
 refine (?_ : ∀ W : World, Ext w W → BK W (w.heap.size) (Zbd gn cn dn gd cd dd) → Code.wp Tryz.prog _ _ _ W) _ EX BY
 intro W hW R0
 have L0 := R0.lt
 have F0 := R0.c7
 refine Zc (fun a' w' => ∃ (U : Nat → Value), a' = fr 13 U [(0, .agg #[.int .i64 1, .bool false, .slice none 0 0, .bool false, .slice none 0 0, .slice (some ⟨gn, 0, none⟩) cn dn, .slice (some ⟨gd, 0, none⟩) cd dd]), (1, .pointer (some ⟨w.heap.size, 0, none⟩)), (2, .bool false)] ∧ Ext w w') (fun w' => w'.cell? ⟨w.heap.size, 0, none⟩ = some (.int .i64 1)) Z0a ?rest (by exact KQ) (fun hHeld => ?expl)
 case expl =>
  refine TH 0 ?_; refine TH 1 ?_; refine TH 2 ?_; refine TH 3 ?_; refine TN 4 ?_; refine TN 5 ?_; refine TN 6 ?_; refine TN 7 ?_; refine TN 8 ?_; refine TH 9 ?_; refine TH 10 ?_
  refine wpAnyH_done (by kernel_rfl) ?_ _
  exact ⟨_, Zr _ _, EX⟩
 case rest =>
  rintro a' We ⟨U, rfl, hxe⟩
  dsimp only [fr, frl, Nat.reduceBEq, Nat.reduceAdd, cond_true, cond_false]
  go_wp2_with fail
  go_ret
  exact ⟨rfl, hxe⟩
def ZcW (w : World) (x y : Int) (e : Ending) (w' : World) : Prop := ∃ (g d : Nat) (p q r : PV), e = .returned (.agg #[.int .i64 0, .bool r.s, .slice r.A r.n r.c, .slice r.C r.m r.d, .int .i64 1, .bool false, .slice none 0 0, .slice (some ⟨g, 0, none⟩) 2 d]) ∧ CK w' g (zL2 p q) ∧ p.At w' x ∧ q.At w' y ∧ r.At w' 1 ∧ w.heap.size ≤ g ∧ g < w'.heap.size ∧ Ext w w'
theorem Z8n (g d : Nat) (p0 p1 q : PV) (x0 x1 : Int) (w : World) (h : CK w g (zL2 p0 p1)) (hd : 2 ≤ d) (h0 : p0.At w x0) (h1 : p1.At w x1) (hq : q.At w 1) (n0 : p0.n < 400) (n1 : p1.n < 400) (hx1 : x1 ≠ 0) :
  Ca 238 #[.agg (ZC q), .agg (Z3f g d)] w (ZbS w x0 x1) := by
 have := Z7s g d p0 p1 q x0 x1 1 w h hd h0 h1 hq n0 n1 (by have := hq.wl; have := Z1K; omega) (by rw [Int.one_mul]; exact hx1)
 rw [Int.one_mul, Int.one_mul] at this
 exact this
theorem Z4f (g d : Nat) (p0 p1 p r s : PV) (x0 x1 : Int) (w : World) (h : CK w g (zL2 p0 p1)) (hd : 2 ≤ d) (h0 : p0.At w x0) (h1 : p1.At w x1) (hp : p.At w 1) (hr : r.At w 1) (hs : s.At w 1) (n0 : p0.n < 100) (n1 : p1.n < 100) (nx : 0 < x1) (nw : wl x1 ≤ 1000) :
  Ca 196 #[.agg (Z2j p r), .agg (Za9 s g d)] w (ZcW w x0 x1) := by
 have hmw : 100000 < Z8 := by decide
 have hrn : r.n ≠ 0 := fun e => by have := hr.zero_iff.1 e; omega
 have hw1 := Z1K
 have H0 := zH h0
 have H1 := zH h1
 have HP := zH hp
 have HR := zH hr
 have HS := zH hs
 have Np := Nat.le_of_eq hp.wl
 have hg := h.lt
 clear h0 h1 hp hr hs
 dsimp only [Z2j, Za9]
 go_enter func196, ntmps196
 go_wp2_with (
  first
  | (go_at_call 237; (with_reducible refine (Z10 p ⟨1, false, none, 0, 0, some ⟨g, 0, none⟩, 2, d⟩ 1 _ IX (Or.inl rfl) (by simp)).mono ?_); rintro e w1 ⟨pw1, rfl, hQ, hbw1⟩; have Hw1 := zH hQ; have Nw1 := Nat.le_of_eq hQ.wl; clear hQ; have := hbw1.sz; obtain ⟨R0, L0, F0⟩ := B80 w1 w; obtain ⟨R1, L1, F1⟩ := B81 w1 w; obtain ⟨R2, L2, F2⟩ := B82 w1 w)
  | (go_at_call 237; (with_reducible refine (Z10 s ⟨0, r.s, r.A, r.n, r.c, r.C, r.m, r.d⟩ 1 _ IX (Or.inl rfl) (by simp [hrn])).mono ?_); rintro e w2 ⟨pw2, rfl, hQ, hbw2⟩; have Hw2 := zH hQ; have Nw2 := Nat.le_of_eq hQ.wl; clear hQ; have := hbw2.sz; obtain ⟨R0, L0, F0⟩ := B80 w2 w; obtain ⟨R1, L1, F1⟩ := B81 w2 w; obtain ⟨R2, L2, F2⟩ := B82 w2 w; obtain ⟨R5, L5, F5⟩ := BC4 w2 w1.heap.size))
 refine (?_ : ∀ W : World, Ext w W → BK W (w.heap.size) (Z2j p r) → BK W (w.heap.size + 1) (Za9 s g d) → BK W (w.heap.size + 1 + 1) Z7I → BK W (w1.heap.size) (ZC pw1) → BK W (w2.heap.size) (ZC pw2) → CK W g (zL2 p0 p1) → pw1.At W 1 → pw2.At W 1 → Code.wp Tryz.prog _ _ _ W) _ EX BY BY BY BY BY CX IX IX
 intro W hW R0 R1 R2 R5 R6 Rg hp1 hp2
 have Hp1 := zH hp1
 have Hp2 := zH hp2
 clear hp1 hp2 F0 F1 F2 F5
 have L0 := R0.lt
 have F0 := R0.c8
 have L1 := R1.lt
 have F1 := R1.c8
 have L2 := R2.lt
 have F2 := R2.c8
 have L5 := R5.lt
 have F5 := R5.c4
 have L6 := R6.lt
 have F6 := R6.c4
 go_region_held3 (fun w' => zC w' w.heap.size 0 (.int .i64 0) ∧ zC w' w.heap.size 1 (.bool p.s) ∧ zC w' w.heap.size 2 (.slice p.A p.n p.c) ∧ zC w' w.heap.size 3 (.slice p.C p.m p.d) ∧ zC w' w.heap.size 4 (.int .i64 0) ∧ zC w' w.heap.size 5 (.bool r.s) ∧ zC w' w.heap.size 6 (.slice r.A r.n r.c) ∧ zC w' w.heap.size 7 (.slice r.C r.m r.d) ∧ zC w' (w.heap.size + 1) 0 (.int .i64 0) ∧ zC w' (w.heap.size + 1) 1 (.bool s.s) ∧ zC w' (w.heap.size + 1) 2 (.slice s.A s.n s.c) ∧ zC w' (w.heap.size + 1) 3 (.slice s.C s.m s.d) ∧ zC w' (w.heap.size + 1) 4 (.int .i64 1) ∧ zC w' (w.heap.size + 1) 5 (.bool false) ∧ zC w' (w.heap.size + 1) 6 (.slice none 0 0) ∧ zC w' (w.heap.size + 1) 7 (.slice (some ⟨g, 0, none⟩) 2 d) ∧ zC w' w1.heap.size 0 (.int .i64 0) ∧ zC w' w1.heap.size 1 (.bool pw1.s) ∧ zC w' w1.heap.size 2 (.slice pw1.A pw1.n pw1.c) ∧ zC w' w1.heap.size 3 (.slice pw1.C pw1.m pw1.d) ∧ zC w' w2.heap.size 0 (.int .i64 0) ∧ zC w' w2.heap.size 1 (.bool pw2.s) ∧ zC w' w2.heap.size 2 (.slice pw2.A pw2.n pw2.c) ∧ zC w' w2.heap.size 3 (.slice pw2.C pw2.m pw2.d)) (first | (exact KQ) | (simp [go_sem, *]; done)) (first | (go_at_call 239; (with_reducible refine (Zm ⟨0, p.s, p.A, p.n, p.c, p.C, p.m, p.d⟩ pw1 _ IX).mono ?_); rintro e w3 ⟨rfl, hbw3⟩; have := hbw3.sz) | (go_at_call 239; (with_reducible refine (Zm ⟨0, s.s, s.A, s.n, s.c, s.C, s.m, s.d⟩ pw2 _ IX).mono ?_); rintro e w4 ⟨rfl, hbw4⟩; have := hbw4.sz) | (go_at_call 238; (with_reducible refine (Z04 p s 1 _ IX IX (by omega)).mono ?_); rintro e w5 ⟨pw5, rfl, hQ, hbw5⟩; have Hw5 := zH hQ; have Nw5 := Nat.le_of_eq hQ.wl; clear hQ; have := hbw5.sz) | (go_at_call 239; (with_reducible refine (Zm ⟨0, r.s, r.A, r.n, r.c, r.C, r.m, r.d⟩ pw2 _ IX).mono ?_); rintro e w6 ⟨rfl, hbw6⟩; have := hbw6.sz) | (go_at_call 239; (with_reducible refine (Zm ⟨1, false, none, 0, 0, some ⟨g, 0, none⟩, 2, d⟩ pw1 _ IX).mono ?_); rintro e w7 ⟨rfl, hbw7⟩; have := hbw7.sz) | (go_at_call 238; (with_reducible refine (Z8n g d p0 p1 r x0 x1 _ CX hd IX IX IX (by omega) (by omega) (by omega)).mono ?_); rintro e w8 ⟨gw8, dw8, pw8, qw8, rfl, hCw8, hQ, hQ', hgew8, hltw8, hbw8⟩; have Hw8 := zH hQ; have Kw8 := zH hQ'; clear hQ hQ'; (try simp only [SZ] at hgew8); have := hbw8.sz) | (go_at_call 197; (with_reducible refine (Z36 gw8 dw8 ⟨0, pw5.s, pw5.A, pw5.n, pw5.c, pw5.C, pw5.m, pw5.d⟩ pw8 qw8 x1 _ CX IX nx nw).mono ?_); rintro e w9 ⟨rfl, hbw9⟩; have := hbw9.sz; obtain ⟨R2, L2, F2⟩ := B82 w9 w))
 all_goals go_wp2_with fail
 all_goals refine bodyPost_ret (v := .agg (Za9 pw5 gw8 dw8)) (by simp [Za9, results, results196, go_sem, Z6, F2]) rfl ⟨gw8, dw8, pw8, qw8, pw5, rfl, CX, IX, IX, IX, by omega, by (try simp only [SZ]); omega, EX⟩
structure ZP (w : World) (base : Nat) (ty : TypeId) (k : Nat) (A : Option Addr) (n c : Nat) (l : List Value) : Prop where
 own : Z2w w base ty k A n c l
 nb : ∀ a, A = some a → NB w a.block
theorem ZP.nil (w : World) (base : Nat) (ty : TypeId) (k : Nat) : ZP w base ty k none 0 0 [] := ⟨Z2w.nil _ _ _ _, fun _ h => by cases h⟩
theorem ZP.ext {w w' : World} {base : Nat} {ty : TypeId} {k : Nat} {A : Option Addr} {n c : Nat} {l : List Value} (h : ZP w base ty k A n c l) (x : Ext w w') : ZP w' base ty k A n c l := ⟨h.own.ext x, fun a e => (h.nb a e).ext x⟩
theorem ZP.new0 (w : World) (base g : Nat) (ty : TypeId) (k : Nat) (hg : w.heap.size = g) (hb : base ≤ g) : ZP (w.alloc (.cells #[] ty)) base ty k (some ⟨g, 0, none⟩) 0 0 [] := by
 refine ⟨Z2w.new0 w base g ty k hg hb, fun a e => ?_⟩
 cases e
 subst hg
 refine ⟨#[], _, heap_alloc_new w _, fun i x h => by simp at h⟩
theorem ZP.other {w : World} {base : Nat} {ty : TypeId} {k : Nat} {A : Option Addr} {n c : Nat} {l : List Value} (h : ZP w base ty k A n c l) {p : Addr} (hp : p.block < base) (v : Value) : ZP (w.setCell p v) base ty k A n c l := by
 refine ⟨⟨h.own.1, ?_⟩, fun a e => ?_⟩
 ·rcases h.own.2 with e | ⟨g, cap, cur, e1, e2, e3, e4⟩
  ·exact .inl e
  ·exact .inr ⟨g, cap, cur, e1, e2, (Below.heap_setCell w p v g (by omega)).trans e3, e4⟩
 ·rcases h.own.2 with ⟨e1, _⟩ | ⟨g, cap, cur, e1, e2, e3, e4⟩
  ·subst e; cases e1
  ·subst e; cases e1
   obtain ⟨c', ty', h1, h2⟩ := h.nb _ rfl
   exact ⟨c', ty', (Below.heap_setCell w p v g (by omega)).trans h1, h2⟩
theorem ZP.alloc {w : World} {base : Nat} {ty : TypeId} {k : Nat} {A : Option Addr} {n c : Nat} {l : List Value} (h : ZP w base ty k A n c l) (o : Obj) : ZP (w.alloc o) base ty k A n c l := h.ext ((Ext.refl w).alloc o)
theorem ZP.drew {w : World} {base : Nat} {ty : TypeId} {k : Nat} {A : Option Addr} {n c : Nat} {l : List Value} (h : ZP w base ty k A n c l) : ZP w.drew base ty k A n c l := ⟨h.own, h.nb⟩
theorem NZ {w : World} {base : Nat} {ty : TypeId} {k : Nat} {A : Option Addr} {n c : Nat} {l : List Value} (h : ZP w base ty k A n c l := by with_reducible (repeat (first | assumption | exact ZP.nil _ _ _ _ | refine ZP.alloc ?_ _ | refine ZP.drew ?_ | refine ZP.other ?_ (by simp only; omega) _ | refine ZP.ext ?_ (by assumption)))) : ZP w base ty k A n c l := h
theorem NBl.app {a b : Array Value} (ha : ∀ v ∈ a, ∀ x, v ≠ .int .u32 x) (hb : ∀ v ∈ b, ∀ x, v ≠ .int .u32 x) : ∀ v ∈ a ++ b, ∀ x, v ≠ .int .u32 x := fun v hv => by
 rcases Array.mem_append.1 hv with h | h
 ·exact ha v h
 ·exact hb v h
theorem NBl.rep {z : Array Value} (hz : ∀ v ∈ z, ∀ x, v ≠ .int .u32 x) (n : Nat) : ∀ v ∈ Builtin.zeroCells z n, ∀ x, v ≠ .int .u32 x := fun v hv => by
 unfold Builtin.zeroCells at hv
 rw [Array.mem_map] at hv
 obtain ⟨i, hi, hv⟩ := hv
 rw [Array.mem_range] at hi
 have hp : 0 < z.size := by
  rcases Nat.eq_zero_or_pos z.size with h | h
  ·rw [h, Nat.mul_zero] at hi; omega
  ·exact h
 have hm : i % z.size < z.size := Nat.mod_lt _ hp
 rw [getElem!_pos z _ hm] at hv
 rw [← hv]
 exact hz _ (Array.getElem_mem hm)
theorem Z7K {P : Program} (w : World) (base : Nat) (t ty e : TypeId) (i : TypeInfo) (z : Value) (k by' : Nat) (ht : P.underlying t = some (.slice e)) (hi : P.info? e = some i) (hz : i.zero = some z)
  (hk : i.size = k) (hby : i.bytes = by') (hzk : z.cells.size = k) (hk0 : 0 < k) (hkb : by' ≤ 200) (hzn : ∀ v ∈ z.cells, ∀ x, v ≠ .int .u32 x)
  (A : Option Addr) (n c : Nat) (l : List Value) (hown : ZP w base e k A n c l)
  (a : Addr) (m c2 : Nat) (news : List Value) (hm0 : 0 < m) (hl : news.length = m * k) (hnews : ∀ j u, news[j]? = some u → w.cell? (a.add j) = some u) (h1 : ∀ u ∈ news, u.oneCell' = true) (hnw : ∀ u ∈ news, ∀ x, u ≠ .int .u32 x)
  (hle : n + m ≤ 1000000) (hbase : base ≤ w.heap.size) :
  ∃ A' c' w', (Builtin.append_ #[t, t] ty #[.slice A n c, .slice (some a) m c2]).run P w = .ok (.slice A' (n + m) c') w' ∧ ZP w' base e k A' (n + m) c' (l ++ news) ∧ Below base w w' ∧ Za w w' ∧ (∀ b, b < w.heap.size → (∀ a, A = some a → a.block ≠ b) → w'.heap[b]? = w.heap[b]?) := by
 subst hk
 subst hby
 have hlen : (l ++ news).length = (n + m) * i.size := by rw [List.length_append, hown.own.1, hl, Nat.add_mul]
 have hb1 : (n + m) * i.bytes ≤ 200000000 := Nat.le_trans (Nat.mul_le_mul hle hkb) (by decide)
 have hnl : (∀ a, A = some a → NB w a.block) → ∀ u ∈ l, ∀ x, u ≠ .int .u32 x := fun hnb u hu x e => by
  subst e
  rcases hown.own.2 with ⟨_, e0⟩ | ⟨g, cap, cur, e1, e2, e3, e4, e5, e6, e7⟩
  ·subst e0
   have : l = [] := List.eq_nil_of_length_eq_zero (by simpa using hown.own.1)
   subst this
   cases hu
  ·cases e1
   obtain ⟨c', ty', g1, g2⟩ := hnb _ rfl
   simp only at g1
   rw [e3] at g1
   cases g1
   rw [← e7] at hu
   have hu := List.mem_of_mem_take hu
   obtain ⟨j, hj, hju⟩ := List.getElem_of_mem hu
   exact g2 j x (by rw [Array.getElem?_eq_getElem (by simpa using hj)]; simpa using hju)
 have hfresh : ∀ (cap : Nat), n + m ≤ cap → cap ≤ maxLen →
   ZP (w.drew.alloc (.cells (l.toArray ++ news.toArray ++ Builtin.zeroCells z.cells (cap - (n + m))) e)) base e i.size (some ⟨w.heap.size, 0, none⟩) (n + m) cap (l ++ news) ∧ Below base w (w.drew.alloc (.cells (l.toArray ++ news.toArray ++ Builtin.zeroCells z.cells (cap - (n + m))) e)) ∧ Za w (w.drew.alloc (.cells (l.toArray ++ news.toArray ++ Builtin.zeroCells z.cells (cap - (n + m))) e)) := by
  intro cap hc1 hc2
  have hx : Ext w (w.drew.alloc (.cells (l.toArray ++ news.toArray ++ Builtin.zeroCells z.cells (cap - (n + m))) e)) := (Ext.refl w).drew.alloc _
  refine ⟨⟨⟨hlen, .inr ⟨w.heap.size, _, _, rfl, hbase, heap_alloc_new w.drew _, hc1, hc2, ?_, ?_⟩⟩, ?_⟩, Below.mono hx.below hbase, hx.keeps⟩
  ·simp only [Array.size_append, List.size_toArray, size_zeroCells, hzk, hown.own.1, hl, ← Nat.add_mul]
   congr 1
   omega
  ·simp only [Array.toList_append, List.append_assoc]
   rw [← List.append_assoc, ← hlen]
   exact List.take_left
  ·intro a' e'
   cases e'
   refine ⟨_, _, heap_alloc_new w.drew _, fun j x hj => ?_⟩
   exact (NBl.app (NBl.app (fun v hv => hnl hown.nb v (by simpa using hv)) (fun v hv => hnw v (by simpa using hv))) (NBl.rep hzn _)) _ (Array.mem_of_getElem? hj) x rfl
 have hbound : n + m ≤ maxLen := by simp only [maxLen]; omega
 rcases hown.own.2 with ⟨e1, e0⟩ | ⟨g, cap, cur, e1, e2, e3, e4, e5, e6, e7⟩
 ·cases e1
  have hx : l = [] := List.eq_nil_of_length_eq_zero (by simpa using hown.own.1)
  subst hx
  have hr := run_append_nil (P := P) w t ty e i z ht hi hz a m c2 news hl hnews (by omega) (by omega) (by simp only [Nat.zero_add] at hb1; omega)
  have hf := hfresh (grownCap w (0 + m) 0 e) (grownCap_ge w _ 0 e) (grownCap_le_maxLen w _ 0 e hbound)
  simp only [Nat.zero_add, List.nil_append, Array.empty_append] at hf ⊢
  exact ⟨_, _, _, hr, hf.1, hf.2.1, hf.2.2, fun b hb _ => heap_alloc_old w.drew _ hb⟩
 ·cases e1
  by_cases hroom : n + m ≤ c
  ·have hfit : n * i.size + news.length ≤ cur.size := by rw [hl, e6, ← Nat.add_mul]; exact Nat.mul_le_mul_right _ hroom
   have hr := run_append_room (P := P) w t ty e i ht hi g n c cur e3 a m c2 news hl hnews h1 hroom hfit
   obtain ⟨c', ty', g1, g2⟩ := hown.nb _ rfl
   simp only at g1
   rw [e3] at g1
   cases g1
   have hcur : ∀ v ∈ cur.toList, ∀ x, v ≠ .int .u32 x := fun v hv x e => by
    subst e
    obtain ⟨j, hj, hju⟩ := List.getElem_of_mem hv
    exact g2 j x (by rw [Array.getElem?_eq_getElem (by simpa using hj)]; simpa using hju)
   have hnew := setRow_heap w g cur (cur.toList.take (n * i.size) ++ news ++ cur.toList.drop (n * i.size + news.length)).toArray e _ e3
   refine ⟨_, _, _, hr, ⟨⟨hlen, .inr ⟨g, c, _, rfl, e2, hnew, hroom, e5, ?_, ?_⟩⟩, ?_⟩, ⟨rfl, rfl, rfl, by simp, fun j hj => setRow_other w g j _ (by omega)⟩, ?_, fun b hb hne => setRow_other w g b _ (fun e => hne _ rfl e.symm)⟩
   ·simp only [List.size_toArray, List.length_append, List.length_take, List.length_drop, Array.length_toList]
    omega
   ·rw [e7, ← hlen]
    exact List.take_left
   ·intro a' e'
    cases e'
    refine ⟨_, _, hnew, fun j x hj => ?_⟩
    have := Array.mem_of_getElem? hj
    simp only [List.mem_toArray, List.mem_append] at this
    rcases this with (h | h) | h
    ·exact hcur _ (List.mem_of_mem_take h) x rfl
    ·exact hnw _ h x rfl
    ·exact hcur _ (List.mem_of_mem_drop h) x rfl
   ·intro p x hx
    by_cases hp : p.block = g
    ·exfalso
     unfold World.cell? at hx
     rw [hp, e3] at hx
     have : p.spot = none ∧ cur[p.off]? = some (.int .u32 x) := by simpa using hx
     exact g2 _ _ this.2
    ·have := setRow_other w g p.block (cur.toList.take (n * i.size) ++ news ++ cur.toList.drop (n * i.size + news.length)).toArray hp
     unfold World.cell? at hx ⊢
     rw [this]; exact hx
  ·have holds : ∀ j u, l[j]? = some u → w.cell? ((⟨g, 0, none⟩ : Addr).add j) = some u := World.ownsRow.cells hown.own (g := g) rfl
   have hr := run_append_grow (P := P) w t ty e i z ht hi hz ⟨g, 0, none⟩ n c l hown.own.1 holds a m c2 news hl hnews (by omega) (by omega) (growslice_fits (by omega) (by omega))
   have hf := hfresh _ (grownCap_ge w _ c e) (grownCap_le_maxLen w _ c e hbound)
   exact ⟨_, _, _, hr, hf.1, hf.2.1, hf.2.2, fun b hb _ => heap_alloc_old w.drew _ hb⟩
theorem Z8Y {P : Program} {w : World} {o : Oper} {a : Act} {K : Act → World → Prop} {Q : Exit → Act → World → Prop} (s x : Operand) (ts ty : TypeId) (i0 : TypeInfo) (z : Value) (k by' : Nat)
  (hu : P.underlying ts = some (TypeDesc.slice ty)) (hi : P.info? ty = some i0) (hz0 : i0.zero = some z) (hz1 : i0.size = k) (hz2 : i0.bytes = by') (hzk : z.cells.size = k) (hk : 0 < k) (hkb : by' ≤ 200) (hzn : ∀ v ∈ z.cells, ∀ x, v ≠ .int .u32 x)
  (ho : o.op = .call { callee := .builtin .append, args := #[s, x], argTypes := #[ts, ts] }) (base : Nat)
  (A : Option Addr) (n c : Nat) (l : List Value) (hown : ZP w base ty k A n c l) (hs : a.eval s = .slice A n c)
  (b m c2 : Nat) (news : List Value) (hx : a.eval x = .slice (some ⟨b, 0, none⟩) m c2) (hm0 : 0 < m) (hm : news.length = m * k) (hnews : CK w b news) (hsc : ∀ u ∈ news, u.oneCell' = true) (hnw : ∀ u ∈ news, ∀ x, u ≠ .int .u32 x)
  (hle : n + m ≤ 1000000) (hbase : base ≤ w.heap.size)
  (h : ∀ A' c' w', ZP w' base ty k A' (n + m) c' (l ++ news) → Below base w w' → Za w w' → K (a.put o.dst (.slice A' (n + m) c')) w') : o.wp P a w K Q := by
 obtain ⟨A', c', w', hr, h2, h3, h4, h5⟩ := Z7K (P := P) w base ts o.type ty i0 z k by' hu hi hz0 hz1 hz2 hzk hk hkb hzn A n c l hown ⟨b, 0, none⟩ m c2 news hm0 hm (fun j u hj => by
  have := hnews j u hj
  rw [show (⟨b, 0, none⟩ : Addr).add j = ⟨b, j, none⟩ from by unfold Addr.add; split <;> simp_all]
  exact this) hsc hnw hle hbase
 unfold Oper.wp execOp
 simp only [ho, resolve, invoke, builtin, Sem.run_bind, Sem.run_pure, Result.andThen_ok, List.map_toArray, List.map_cons, List.map_nil, hs, hx, hr]
 exact h A' c' w' h2 h3 h4
theorem Zao {P : Program} (w : World) (base : Nat) (t ty e : TypeId) (i : TypeInfo) (z : Value) (k by' : Nat) (ht : P.underlying t = some (.slice e)) (hi : P.info? e = some i) (hz : i.zero = some z)
  (hk : i.size = k) (hby : i.bytes = by') (hzk : z.cells.size = k) (hk0 : 0 < k) (hkb : by' ≤ 200) (hzn : ∀ v ∈ z.cells, ∀ x, v ≠ .int .u32 x)
  (g c : Nat) (hg : ∃ cur, w.heap[g]? = some (.cells cur e))
  (a : Addr) (m c2 : Nat) (news : List Value) (hm0 : 0 < m) (hl : news.length = m * k) (hnews : ∀ j u, news[j]? = some u → w.cell? (a.add j) = some u) (hnw : ∀ u ∈ news, ∀ x, u ≠ .int .u32 x)
  (hc : c < m) (hle : m ≤ 1000000) :
  ∃ c' w', (Builtin.append_ #[t, t] ty #[.slice (some ⟨g, 0, none⟩) 0 c, .slice (some a) m c2]).run P w = .ok (.slice (some ⟨w.heap.size, 0, none⟩) m c') w' ∧ ZP w' w.heap.size e k (some ⟨w.heap.size, 0, none⟩) m c' news ∧ Ext w w' := by
 subst hk
 subst hby
 have hb1 : m * i.bytes ≤ 200000000 := Nat.le_trans (Nat.mul_le_mul hle hkb) (by decide)
 have hbound : m ≤ maxLen := by simp only [maxLen]; omega
 have hr := run_append_grow (P := P) w t ty e i z ht hi hz ⟨g, 0, none⟩ 0 c [] (by simp) (fun j v h => by simp at h) a m c2 news hl hnews (by omega) (by omega) (growslice_fits (by omega) (by rw [Nat.zero_add]; omega))
 simp only [Nat.zero_add] at hr
 have hge := grownCap_ge w m c e
 have hlm := grownCap_le_maxLen w m c e hbound
 refine ⟨_, _, hr, ⟨⟨hl, .inr ⟨w.heap.size, _, _, rfl, Nat.le_refl _, heap_alloc_new w.drew _, hge, hlm, ?_, ?_⟩⟩, ?_⟩, (Ext.refl w).drew.alloc _⟩
 ·simp only [Array.size_append, List.size_toArray, size_zeroCells, hzk, hl, List.length_nil, Nat.zero_add, ← Nat.add_mul]
  congr 1
  omega
 ·simp only [Array.toList_append, List.append_assoc, List.nil_append]
  rw [← hl]
  exact List.take_left
 ·intro a' e'
  cases e'
  refine ⟨_, _, heap_alloc_new w.drew _, fun j x hj => ?_⟩
  exact (NBl.app (NBl.app (fun v hv => by simp at hv) (fun v hv => hnw v (by simpa using hv))) (NBl.rep hzn _)) _ (Array.mem_of_getElem? hj) x rfl
theorem BK.oth {w w' : World} {g : Nat} {c : Array Value} (h : BK w g c) (k : w'.heap[g]? = w.heap[g]?) : BK w' g c := by obtain ⟨ty, h⟩ := h; exact ⟨ty, k.trans h⟩
theorem Z74 {w : World} {o : Oper} {a : Act} {K : Act → World → Prop} {Q : Exit → Act → World → Prop} (s x : Operand)
  (ho : o.op = .call { callee := .builtin .append, args := #[s, x], argTypes := #[68, 68] })
  (g c : Nat) (hg : ∃ cur, w.heap[g]? = some (.cells cur 70)) (hs : a.eval s = .slice (some ⟨g, 0, none⟩) 0 c)
  (b m c2 : Nat) (news : List Value) (hx : a.eval x = .slice (some ⟨b, 0, none⟩) m c2) (hm0 : 0 < m) (hm : news.length = m * 7) (hnews : CK w b news) (hnw : ∀ u ∈ news, ∀ x, u ≠ .int .u32 x)
  (hc : c < m) (hle : m ≤ 1000000)
  (h : ∀ c' w', ZP w' w.heap.size 70 7 (some ⟨w.heap.size, 0, none⟩) m c' news → Ext w w' → K (a.put o.dst (.slice (some ⟨w.heap.size, 0, none⟩) m c')) w') : o.wp Tryz.prog a w K Q := by
 obtain ⟨i0, hi, hz0, hz1, hz2⟩ := info_parts Tryz.info_elem
 obtain ⟨c', w', hr, h2, h3⟩ := Zao (P := Tryz.prog) w 0 _ o.type _ i0 _ 7 120 Tryz.underlying68 hi hz0 hz1 hz2 rfl (by decide) (by decide) (by intro v hv; simp [Value.cells] at hv; rcases hv with rfl | rfl | rfl | rfl | rfl | rfl | rfl <;> (intro x h; cases h)) g c hg ⟨b, 0, none⟩ m c2 news hm0 hm (fun j u hj => by
  have := hnews j u hj
  rw [show (⟨b, 0, none⟩ : Addr).add j = ⟨b, j, none⟩ from by unfold Addr.add; split <;> simp_all]
  exact this) hnw hc hle
 unfold Oper.wp execOp
 simp only [ho, resolve, invoke, builtin, Sem.run_bind, Sem.run_pure, Result.andThen_ok, List.map_toArray, List.map_cons, List.map_nil, hs, hx, hr]
 exact h c' w' h2 h3
theorem Z1U {w : World} {o : Oper} {a : Act} {K : Act → World → Prop} {Q : Exit → Act → World → Prop} (s x : Operand)
  (ho : o.op = .call { callee := .builtin .append, args := #[s, x], argTypes := #[68, 68] }) (base : Nat)
  (A : Option Addr) (n c : Nat) (l : List Value) (hown : ZP w base 70 7 A n c l) (hs : a.eval s = .slice A n c)
  (b m c2 : Nat) (news : List Value) (hx : a.eval x = .slice (some ⟨b, 0, none⟩) m c2) (hm0 : 0 < m) (hm : news.length = m * 7) (hnews : CK w b news) (hsc : ∀ u ∈ news, u.oneCell' = true) (hnw : ∀ u ∈ news, ∀ x, u ≠ .int .u32 x)
  (hle : n + m ≤ 1000000) (hbase : base ≤ w.heap.size)
  (h : ∀ A' c' w', ZP w' base 70 7 A' (n + m) c' (l ++ news) → Below base w w' → (∀ b, b < w.heap.size → (∀ a, A = some a → a.block ≠ b) → w'.heap[b]? = w.heap[b]?) → K (a.put o.dst (.slice A' (n + m) c')) w') : o.wp Tryz.prog a w K Q := by
 obtain ⟨i0, hi, hz0, hz1, hz2⟩ := info_parts Tryz.info_elem
 obtain ⟨A', c', w', hr, h2, h3, h4, h5⟩ := Z7K (P := Tryz.prog) w base _ o.type _ i0 _ 7 120 Tryz.underlying68 hi hz0 hz1 hz2 rfl (by decide) (by decide) (by intro v hv; simp [Value.cells] at hv; rcases hv with rfl | rfl | rfl | rfl | rfl | rfl | rfl <;> (intro x h; cases h)) A n c l hown ⟨b, 0, none⟩ m c2 news hm0 hm (fun j u hj => by
  have := hnews j u hj
  rw [show (⟨b, 0, none⟩ : Addr).add j = ⟨b, j, none⟩ from by unfold Addr.add; split <;> simp_all]
  exact this) hsc hnw hle hbase
 unfold Oper.wp execOp
 simp only [ho, resolve, invoke, builtin, Sem.run_bind, Sem.run_pure, Result.andThen_ok, List.map_toArray, List.map_cons, List.map_nil, hs, hx, hr]
 exact h A' c' w' h2 h3 h5
theorem Z3g {w : World} {o : Oper} {a : Act} {K : Act → World → Prop} {Q : Exit → Act → World → Prop} (s x : Operand)
  (ho : o.op = .call { callee := .builtin .append, args := #[s, x], argTypes := #[174, 174] }) (base : Nat)
  (A : Option Addr) (n c : Nat) (l : List Value) (hown : ZP w base 176 4 A n c l) (hs : a.eval s = .slice A n c)
  (b m c2 : Nat) (news : List Value) (hx : a.eval x = .slice (some ⟨b, 0, none⟩) m c2) (hm0 : 0 < m) (hm : news.length = m * 4) (hnews : CK w b news) (hsc : ∀ u ∈ news, u.oneCell' = true) (hnw : ∀ u ∈ news, ∀ x, u ≠ .int .u32 x)
  (hle : n + m ≤ 1000000) (hbase : base ≤ w.heap.size)
  (h : ∀ A' c' w', ZP w' base 176 4 A' (n + m) c' (l ++ news) → Below base w w' → Za w w' → K (a.put o.dst (.slice A' (n + m) c')) w') : o.wp Tryz.prog a w K Q := by
 obtain ⟨i0, hi, hz0, hz1, hz2⟩ := info_parts Tryz.info_poly
 exact Z8Y s x _ _ i0 _ 4 64 Tryz.underlying174 hi hz0 hz1 hz2 rfl (by decide) (by decide) (by intro v hv; simp [Value.cells] at hv; rcases hv with rfl | rfl | rfl | rfl <;> (intro x h; cases h)) ho base A n c l hown hs b m c2 news hx hm0 hm hnews hsc hnw hle hbase h
theorem Z1i {w : World} {o : Oper} {a : Act} {K : Act → World → Prop} {Q : Exit → Act → World → Prop} (s x : Operand)
  (ho : o.op = .call { callee := .builtin .append, args := #[s, x], argTypes := #[68, 68] }) (base : Nat)
  (A : Option Addr) (n c : Nat) (l : List Value) (hown : ZP w base 70 7 A n c l) (hs : a.eval s = .slice A n c)
  (b m c2 : Nat) (news : List Value) (hx : a.eval x = .slice (some ⟨b, 0, none⟩) m c2) (hm0 : 0 < m) (hm : news.length = m * 7) (hnews : CK w b news) (hsc : ∀ u ∈ news, u.oneCell' = true) (hnw : ∀ u ∈ news, ∀ x, u ≠ .int .u32 x)
  (hle : n + m ≤ 1000000) (hbase : base ≤ w.heap.size)
  (h : ∀ A' c' w', ZP w' base 70 7 A' (n + m) c' (l ++ news) → Below base w w' → Za w w' → K (a.put o.dst (.slice A' (n + m) c')) w') : o.wp Tryz.prog a w K Q := by
 obtain ⟨i0, hi, hz0, hz1, hz2⟩ := info_parts Tryz.info_elem
 exact Z8Y s x _ _ i0 _ 7 120 Tryz.underlying68 hi hz0 hz1 hz2 rfl (by decide) (by decide) (by intro v hv; simp [Value.cells] at hv; rcases hv with rfl | rfl | rfl | rfl | rfl | rfl | rfl <;> (intro x h; cases h)) ho base A n c l hown hs b m c2 news hx hm0 hm hnews hsc hnw hle hbase h
theorem ZP.ck {w : World} {base : Nat} {ty : TypeId} {k : Nat} {A : Option Addr} {n c : Nat} {l : List Value} (h : ZP w base ty k A n c l) (hn : 0 < n) : ∃ g, A = some ⟨g, 0, none⟩ ∧ CK w g l ∧ base ≤ g ∧ g < w.heap.size ∧ n ≤ c := h.own.ck hn
theorem BK.belowN {w w' : World} {g B : Nat} {c : Array Value} (h : BK w g c) (k : Below B w w') (hg : g < B) : BK w' g c := by obtain ⟨ty, h⟩ := h; exact ⟨ty, (k.block g hg).trans h⟩
theorem nw4 {l : List Value} (h : l.all (fun u => match u with | .int .u32 _ => false | _ => true) = true) : ∀ u ∈ l, ∀ x, u ≠ .int .u32 x := fun u hu x e => by
 have := List.all_eq_true.1 h u hu
 subst e
 simp at this
theorem oc4 {l : List Value} (h : l.all (fun u => u.oneCell') = true) : ∀ u ∈ l, u.oneCell' = true := fun u hu => List.all_eq_true.1 h u hu
theorem BK.st24a {w : World} {g : Nat} {a b c d e f k l m n o p q r s t u v x y z α β γ : Value} (h : BK w g #[a, b, c, d, e, f, k, l, m, n, o, p, q, r, s, t, u, v, x, y, z, α, β, γ]) (y0 y1 y2 y3 y4 y5 y6 y7 : Value) : BK ((((((((w.setCell ⟨g, 0, none⟩ y0).setCell ⟨g, 1, none⟩ y1).setCell ⟨g, 2, none⟩ y2).setCell ⟨g, 3, none⟩ y3).setCell ⟨g, 4, none⟩ y4).setCell ⟨g, 5, none⟩ y5).setCell ⟨g, 6, none⟩ y6).setCell ⟨g, 7, none⟩ y7) g #[y0, y1, y2, y3, y4, y5, y6, y7, m, n, o, p, q, r, s, t, u, v, x, y, z, α, β, γ] := by
 have h0 : BK _ g #[y0, b, c, d, e, f, k, l, m, n, o, p, q, r, s, t, u, v, x, y, z, α, β, γ] := h.set 0 y0
 have h1 : BK _ g #[y0, y1, c, d, e, f, k, l, m, n, o, p, q, r, s, t, u, v, x, y, z, α, β, γ] := h0.set 1 y1
 have h2 : BK _ g #[y0, y1, y2, d, e, f, k, l, m, n, o, p, q, r, s, t, u, v, x, y, z, α, β, γ] := h1.set 2 y2
 have h3 : BK _ g #[y0, y1, y2, y3, e, f, k, l, m, n, o, p, q, r, s, t, u, v, x, y, z, α, β, γ] := h2.set 3 y3
 have h4 : BK _ g #[y0, y1, y2, y3, y4, f, k, l, m, n, o, p, q, r, s, t, u, v, x, y, z, α, β, γ] := h3.set 4 y4
 have h5 : BK _ g #[y0, y1, y2, y3, y4, y5, k, l, m, n, o, p, q, r, s, t, u, v, x, y, z, α, β, γ] := h4.set 5 y5
 have h6 : BK _ g #[y0, y1, y2, y3, y4, y5, y6, l, m, n, o, p, q, r, s, t, u, v, x, y, z, α, β, γ] := h5.set 6 y6
 have h7 : BK _ g #[y0, y1, y2, y3, y4, y5, y6, y7, m, n, o, p, q, r, s, t, u, v, x, y, z, α, β, γ] := h6.set 7 y7
 exact h7
theorem BK.st24b {w : World} {g : Nat} {a b c d e f k l m n o p q r s t u v x y z α β γ : Value} (h : BK w g #[a, b, c, d, e, f, k, l, m, n, o, p, q, r, s, t, u, v, x, y, z, α, β, γ]) (y0 y1 y2 y3 y4 y5 y6 y7 : Value) : BK ((((((((w.setCell ⟨g, 8, none⟩ y0).setCell ⟨g, 9, none⟩ y1).setCell ⟨g, 10, none⟩ y2).setCell ⟨g, 11, none⟩ y3).setCell ⟨g, 12, none⟩ y4).setCell ⟨g, 13, none⟩ y5).setCell ⟨g, 14, none⟩ y6).setCell ⟨g, 15, none⟩ y7) g #[a, b, c, d, e, f, k, l, y0, y1, y2, y3, y4, y5, y6, y7, u, v, x, y, z, α, β, γ] := by
 have h0 : BK _ g #[a, b, c, d, e, f, k, l, y0, n, o, p, q, r, s, t, u, v, x, y, z, α, β, γ] := h.set 8 y0
 have h1 : BK _ g #[a, b, c, d, e, f, k, l, y0, y1, o, p, q, r, s, t, u, v, x, y, z, α, β, γ] := h0.set 9 y1
 have h2 : BK _ g #[a, b, c, d, e, f, k, l, y0, y1, y2, p, q, r, s, t, u, v, x, y, z, α, β, γ] := h1.set 10 y2
 have h3 : BK _ g #[a, b, c, d, e, f, k, l, y0, y1, y2, y3, q, r, s, t, u, v, x, y, z, α, β, γ] := h2.set 11 y3
 have h4 : BK _ g #[a, b, c, d, e, f, k, l, y0, y1, y2, y3, y4, r, s, t, u, v, x, y, z, α, β, γ] := h3.set 12 y4
 have h5 : BK _ g #[a, b, c, d, e, f, k, l, y0, y1, y2, y3, y4, y5, s, t, u, v, x, y, z, α, β, γ] := h4.set 13 y5
 have h6 : BK _ g #[a, b, c, d, e, f, k, l, y0, y1, y2, y3, y4, y5, y6, t, u, v, x, y, z, α, β, γ] := h5.set 14 y6
 have h7 : BK _ g #[a, b, c, d, e, f, k, l, y0, y1, y2, y3, y4, y5, y6, y7, u, v, x, y, z, α, β, γ] := h6.set 15 y7
 exact h7
theorem BK.st24c {w : World} {g : Nat} {a b c d e f k l m n o p q r s t u v x y z α β γ : Value} (h : BK w g #[a, b, c, d, e, f, k, l, m, n, o, p, q, r, s, t, u, v, x, y, z, α, β, γ]) (y0 y1 y2 y3 y4 y5 y6 y7 : Value) : BK ((((((((w.setCell ⟨g, 16, none⟩ y0).setCell ⟨g, 17, none⟩ y1).setCell ⟨g, 18, none⟩ y2).setCell ⟨g, 19, none⟩ y3).setCell ⟨g, 20, none⟩ y4).setCell ⟨g, 21, none⟩ y5).setCell ⟨g, 22, none⟩ y6).setCell ⟨g, 23, none⟩ y7) g #[a, b, c, d, e, f, k, l, m, n, o, p, q, r, s, t, y0, y1, y2, y3, y4, y5, y6, y7] := by
 have h0 : BK _ g #[a, b, c, d, e, f, k, l, m, n, o, p, q, r, s, t, y0, v, x, y, z, α, β, γ] := h.set 16 y0
 have h1 : BK _ g #[a, b, c, d, e, f, k, l, m, n, o, p, q, r, s, t, y0, y1, x, y, z, α, β, γ] := h0.set 17 y1
 have h2 : BK _ g #[a, b, c, d, e, f, k, l, m, n, o, p, q, r, s, t, y0, y1, y2, y, z, α, β, γ] := h1.set 18 y2
 have h3 : BK _ g #[a, b, c, d, e, f, k, l, m, n, o, p, q, r, s, t, y0, y1, y2, y3, z, α, β, γ] := h2.set 19 y3
 have h4 : BK _ g #[a, b, c, d, e, f, k, l, m, n, o, p, q, r, s, t, y0, y1, y2, y3, y4, α, β, γ] := h3.set 20 y4
 have h5 : BK _ g #[a, b, c, d, e, f, k, l, m, n, o, p, q, r, s, t, y0, y1, y2, y3, y4, y5, β, γ] := h4.set 21 y5
 have h6 : BK _ g #[a, b, c, d, e, f, k, l, m, n, o, p, q, r, s, t, y0, y1, y2, y3, y4, y5, y6, γ] := h5.set 22 y6
 have h7 : BK _ g #[a, b, c, d, e, f, k, l, m, n, o, p, q, r, s, t, y0, y1, y2, y3, y4, y5, y6, y7] := h6.set 23 y7
 exact h7
theorem BK.st5 {w : World} {g : Nat} {a b c d e : Value} (h : BK w g #[a, b, c, d, e]) (y0 y1 y2 y3 y4 : Value) : BK (((((w.setCell ⟨g, 0, none⟩ y0).setCell ⟨g, 1, none⟩ y1).setCell ⟨g, 2, none⟩ y2).setCell ⟨g, 3, none⟩ y3).setCell ⟨g, 4, none⟩ y4) g #[y0, y1, y2, y3, y4] :=
 ((((h.set 0 y0).set 1 y1).set 2 y2).set 3 y3).set 4 y4
theorem BK.st5a {w : World} {g : Nat} {a b c d e : Value} (h : BK w g #[a, b, c, d, e]) (y0 : Value) : BK (w.setCell ⟨g, 0, none⟩ y0) g #[y0, b, c, d, e] := h.set 0 y0
theorem BK.c5 {w : World} {g : Nat} {a b c d e : Value} (h : BK w g #[a, b, c, d, e]) : w.cell? ⟨g, 0, none⟩ = some a ∧ w.cell? ⟨g, 1, none⟩ = some b ∧ w.cell? ⟨g, 2, none⟩ = some c ∧ w.cell? ⟨g, 3, none⟩ = some d ∧ w.cell? ⟨g, 4, none⟩ = some e ∧ ∀ o, w.frozen? ⟨g, o, none⟩ = false := ⟨h.cell 0, h.cell 1, h.cell 2, h.cell 3, h.cell 4, h.frozen⟩
theorem BZ {w : World} {g : Nat} {c : Array Value} (h : BK w g c := by with_reducible (repeat (first | assumption | (refine BK.new _ _ ?_; first | rfl | (simp only [SZ]; done)) | refine BK.alloc ?_ _ | refine BK.drew ?_ | apply BK.st24a | apply BK.st24b | apply BK.st24c | apply BK.st8 | apply BK.st8a | apply BK.st8b | apply BK.st7 | apply BK.st5 | apply BK.st5a | apply BK.st4 | apply BK.st3 | apply BK.st2 | apply BK.st1' | refine BK.other ?_ (by simp only; omega) _ | refine BK.ext ?_ (by assumption)))) : BK w g c := h
end Go.Proofs.YtnmmncccpdffaaaGreat
