/- What BoundBoxes calls, part 2. -/
import Derived.Laws.AppendOwn
import Derived.Test.YtnmmncccpdffaaaGreatQ01
set_option linter.unusedVariables false
set_option linter.unusedSimpArgs false
set_option maxRecDepth 100000
set_option maxHeartbeats 16000000
namespace Go.Proofs.YtnmmncccpdffaaaGreat
open Go.Proofs.Tryz Go Go.RowKit Go.Shelf
theorem Z5d (s : Bool) (A : Option Addr) (n c : Nat) (l : List Nat) (w : World) (h : WAt w A n c l) (hs : n ≤ Z8) :
  Ca 75 #[.agg #[.bool s, .slice A n c]] w fun e w' => e = .returned (.bool (isC s l)) ∧ Ext w w' := by
 unfold Z8 at hs
 by_cases h0 : n = 0
 ·have hr : isC s l = !s := by simp [isC, h.len.symm, h0]
  rw [h0, hr]
  clear h0 hr h hs
  go_enter func75, ntmps75
  go_wp2
  go_ret
  exact ⟨rfl, EX⟩
 ·obtain ⟨b, off, rfl, hb, hc⟩ := h.at (by omega)
  have HR : Hid (isC s l = decide (l.getD (n - 1) 0 ≠ 0)) := by show _ = _; simp [isC, h.len.symm, h0]
  have g := hc (n - 1) (by omega)
  obtain ⟨x, hx⟩ : ∃ x, l.getD (n - 1) 0 = x := ⟨_, rfl⟩
  rw [hx] at g HR
  clear h hc hx
  have hz : ((n : Int) == 0) = false := by simp; omega
  have hz2 : 0 < n := by omega
  go_enter func75, ntmps75
  go_wp2
  go_ret
  refine ⟨?_, EX⟩
  rw [HR.out]
  congr 1
  congr 1
  by_cases hx : x = 0 <;> simp [hx]
theorem Zf (s : Bool) (A : Option Addr) (n c : Nat) (z : Int) (w : World) (h : IAt w s A n c z) (hs : n ≤ Z8) :
  Ca 75 #[.agg #[.bool s, .slice A n c]] w fun e w' => e = .returned (.bool true) ∧ Ext w w' := by
 have := Z5d s A n c _ w h.rep hs
 rw [h.sgn, Z4L] at this
 rw [h.sgn]; exact this
theorem Z0w (s : Bool) (A : Option Addr) (n c : Nat) (z : Int) (w : World) (h : IAt w s A n c z) (hs : n ≤ Z8) :
  Ca 76 #[.agg #[.bool s, .slice A n c]] w fun e w' => e = .returned (.int .i64 (Z0R z)) ∧ Ext w w' := by
 have H0 := zH h.zero_iff
 have H1 := zH h.sgn
 have H := zH h
 clear h
 go_enter func76, ntmps76
 go_wp2_with (go_at_call 75; refine (Zf s A n c z _ (H.out.ext EX) hs).mono ?_; rintro e w1 ⟨rfl, hb⟩; obtain ⟨hc, hf⟩ := hb.cells)
 all_goals go_ret
 all_goals refine ⟨ZY ?_, EX⟩
 all_goals have h0 := H0.out
 all_goals have h1 := H1.out
 all_goals simp at *
 ·exact (Z2M (h0.1 (by omega))).symm
 ·exact (Z1x (by simp_all)).symm
 ·exact (Z00 (by (have : z ≠ 0 := fun e => (by have := h0.2 e; omega)); simp_all; omega)).symm
theorem ZS (A : Option Addr) (n c i : Nat) (l : List Nat) (w : World) (h : WAt w A n c l) (hs : n ≤ Z8) :
  Ca 216 #[.slice A n c, .int .i64 (i : Int)] w fun e w' => e = .returned (.int .u64 ((l.getD i 0 : Nat) : Int)) ∧ w = w' := by
 unfold Z8 at hs
 by_cases hi : i < n
 ·obtain ⟨b, off, rfl, hb, hc⟩ := h.at (by omega)
  have g := hc i hi
  have hx := Zd h.rep.ok i
  obtain ⟨x, hx'⟩ : ∃ x, l.getD i 0 = x := ⟨_, rfl⟩
  rw [hx'] at g hx ⊢
  clear h hc hx'
  simp only [B32] at hx
  go_enter func216, ntmps216
  go_wp2
  go_ret
  exact ⟨rfl, rfl⟩
 ·have e : l.getD i 0 = 0 := by rw [List.getD_eq_getElem?_getD, List.getElem?_eq_none (by have := h.len; omega)]; rfl
  rw [e]
  clear h e
  go_enter func216, ntmps216
  go_wp2
  go_ret
  exact ⟨rfl, rfl⟩
theorem Z2h {l : List Nat} (ho : WOk l) (m : Nat) (hm : m ≤ l.length) (hz : val (l.drop m) = 0) (ht : m = 0 ∨ l.getD (m - 1) 0 ≠ 0) : l.take m = Z7 (val l) := by
 have hv : val (l.take m) = val l := by rw [Zn l m hm, hz]; omega
 rw [← hv]
 refine (Z2B (ho.take m) ?_).symm
 rcases ht with e | e
 ·subst e; exact .inl rfl
 ·by_cases h0 : m = 0
  ·subst h0; exact .inl rfl
  ·refine .inr ?_
   rw [List.length_take, Nat.min_eq_left hm, List.getD_eq_getElem?_getD, List.getElem?_take_of_lt (by omega), ← List.getD_eq_getElem?_getD]
   exact e
def ZcU (w : World) (x : Nat) (e : Ending) (w' : World) : Prop := ∃ A n c, e = .returned (.slice A n c) ∧ WAt w' A n c (Z7 x) ∧ w = w'
theorem Z05 (A : Option Addr) (n c : Nat) (l : List Nat) (w : World) (h : WAt w A n c l) (hs : n ≤ Z8) :
  Ca 224 #[.slice A n c] w (ZcU w (val l)) := by
 unfold Z8 at hs
 have hcap := h.rep.cap
 have hlen := h.len
 have hcn : n ≤ c := by omega
 have HL := zH hlen
 have HOK := zH h.rep.ok
 have H0 : Hid (val (l.drop n) = 0) := by show _ = _; rw [List.drop_of_length_le (by omega)]; rfl
 have HF : ∀ m, m ≤ n → val (l.drop m) = 0 → (m = 0 ∨ l.getD (m - 1) 0 ≠ 0) → WAt w A m c (Z7 (val l)) := fun m hm hz ht => by
  rw [← Z2h h.rep.ok m (by omega) hz ht]
  refine ⟨by rw [List.length_take]; omega, ⟨fun hl => ?_, by rw [List.length_take]; omega, h.rep.ok.take m⟩⟩
  rw [List.length_take] at hl
  obtain ⟨b, off, rfl, hc⟩ := h.rep.words (by omega)
  refine ⟨b, off, rfl, fun j hj => ?_⟩
  rw [List.length_take] at hj
  rw [hc j (by omega)]
  simp only [List.getD_eq_getElem?_getD]
  rw [List.getElem?_take_of_lt (by omega)]
 have HF := zH HF
 have H := zH h
 clear h hcap hlen
 cases A with
 | none =>
  have hn : n = 0 := by
   rcases Nat.eq_zero_or_pos n with e | e
   ·exact e
   ·obtain ⟨b, off, e2, _⟩ := H.out.at e; cases e2
  subst hn
  have HW := zH (HF.out 0 (Nat.le_refl _) H0.out (.inl rfl))
  go_enter func224, ntmps224
  go_wp2_with fail
  go_loop [3] (fun i => i = .int .i64 0) (fun i => 0)
  case atStart => rfl
  case round =>
   subst hrel
   go_wp2
   go_ret
   exact ⟨_, _, _, rfl, HW.out, rfl⟩
 | some a =>
  go_enter func224, ntmps224
  go_wp2_with fail
  go_loop [3] (fun i => ∃ m : Nat, m ≤ n ∧ i = .int .i64 (m : Int) ∧ Hid (val (l.drop m) = 0)) (fun i => (intOf i).toNat)
  case atStart => exact ⟨n, Nat.le_refl _, rfl, H0⟩
  case round =>
   obtain ⟨m, hm, rfl, hv⟩ := hrel
   have hmc : m ≤ c := by omega
   by_cases hm0 : m = 0
   ·subst hm0
    go_wp2
    go_ret
    exact ⟨_, _, _, rfl, HF.out 0 (by omega) hv.out (.inl rfl), rfl⟩
   ·obtain ⟨k, rfl⟩ : ∃ k, m = k + 1 := ⟨m - 1, by omega⟩
    clear hm0
    obtain ⟨b, off, e, hb, hc⟩ := H.out.at (by omega)
    cases e
    have g := hc k (by omega)
    obtain ⟨x, hx⟩ : ∃ x, l.getD k 0 = x := ⟨_, rfl⟩
    rw [hx] at g
    have HX := zH hx
    clear hx hc
    have em : ((k + 1 : Nat) : Int) - 1 = k := by omega
    have hk : k < n := by omega
    by_cases hx0 : x = 0
    ·subst hx0
     have hv' : Hid (val (l.drop k) = 0) := by
      show _ = _
      rw [ZR l k (by have := HL.out; omega), HX.out, hv.out]; rfl
     go_wp2
     go_round
     case rel => exact ⟨k, by omega, by simp, hv'⟩
     case measure => simp [intOf]
    ·have hq : ((x : Int) == 0) = false := by simp; omega
     have HQ := zH hx0
     clear hx0
     go_wp2
     go_ret
     exact ⟨_, _, _, rfl, HF.out (k + 1) (by omega) hv.out (.inr (by rw [Nat.add_sub_cancel, HX.out]; exact HQ.out)), rfl⟩
structure Own (w : World) (base : Nat) (A : Option Addr) (n c : Nat) (l : List Nat) : Prop where
 row : w.ownsRow base 131 1 (.slice A n c) n (l.map wv)
 ok : WOk l
theorem Own.nil (w : World) (base : Nat) : Own w base none 0 0 [] := ⟨⟨rfl, .inl ⟨rfl, rfl⟩⟩, fun x hx => by simp at hx⟩
theorem Own.len {w : World} {base : Nat} {A : Option Addr} {n c : Nat} {l : List Nat} (h : Own w base A n c l) : n = l.length := by
 have := h.row.1; rw [List.length_map, Nat.mul_one] at this; exact this.symm
theorem Own.ext {w w' : World} {base : Nat} {A : Option Addr} {n c : Nat} {l : List Nat} (h : Own w base A n c l) (k : Ext w w') : Own w' base A n c l := by
 refine ⟨⟨h.row.1, ?_⟩, h.ok⟩
 rcases h.row.2 with e | ⟨g, cap, cur, e1, e2, e3, e4⟩
 ·exact .inl e
 ·exact .inr ⟨g, cap, cur, e1, e2, (k.below.block g (Array.getElem?_eq_some_iff.1 e3).1).trans e3, e4⟩
theorem Own.new0 (w : World) (base g : Nat) (hg : w.heap.size = g) (hb : base ≤ g) : Own (w.alloc (.cells #[] 131)) base (some ⟨g, 0, none⟩) 0 0 [] := by
 subst hg
 refine ⟨⟨rfl, .inr ⟨w.heap.size, 0, #[], rfl, hb, ?_, by omega, by decide, rfl, rfl⟩⟩, fun x hx => by simp at hx⟩
 show (w.heap.push _)[w.heap.size]? = _; simp
theorem Own.wat {w : World} {base : Nat} {A : Option Addr} {n c : Nat} {l : List Nat} (h : Own w base A n c l) : WAt w A n c l := by
 have hl := h.len
 rcases h.row.2 with ⟨e1, e2⟩ | ⟨g, cap, cur, e1, e2, e3, e4, e5, e6, e7⟩
 ·have : l = [] := List.eq_nil_of_length_eq_zero (by omega)
  subst this
  exact ⟨hl, LR.nil _ _ _⟩
 ·cases e1
  refine ⟨hl, ⟨fun _ => ⟨g, 0, rfl, fun j hj => ?_⟩, by omega, h.ok⟩⟩
  have hj2 : (cur.toList.take (n * 1))[j]? = some (wv (l.getD j 0)) := by
   rw [e7, List.getElem?_map, List.getD_eq_getElem?_getD, List.getElem?_eq_getElem hj]; rfl
  rw [List.getElem?_take_of_lt (by omega)] at hj2
  show (match w.heap[g]? with | some (.cells c _ _) => _ | _ => _) = _
  rw [e3]
  simp only [Nat.zero_add]
  simpa [wv] using hj2
theorem Z0j {w : World} {ops : Array Oper} {rest : List Oper} {o : Oper} {a : Act} {Q : Exit → Act → World → Prop} (hgd : o.guard = none) (s x : Operand)
  (ho : o.op = .call { callee := .builtin .append, args := #[s, x], argTypes := #[22, 22] }) (base : Nat)
  (A : Option Addr) (n c : Nat) (l : List Nat) (hown : Own w base A n c l) (hs : a.eval s = .slice A n c)
  (b off m c2 : Nat) (news : List Nat) (hx : a.eval x = .slice (some ⟨b, off, none⟩) m c2) (hm : news.length = m) (hnews : ∀ j, j < m → w.cell? ⟨b, off + j, none⟩ = some (.int .u32 ((news.getD j 0 : Nat) : Int))) (hok : WOk news)
  (hle : n + m ≤ 8589934592) (hbase : base ≤ w.heap.size)
  (h : ∀ A' c' w', Own w' base A' (n + m) c' (l ++ news) → Below base w w' → wpList Tryz.prog ops Q rest (a.put o.dst (.slice A' (n + m) c')) w') : wpList Tryz.prog ops Q (o :: rest) a w := by
 obtain ⟨i0, hi, hz0, hz1, hz2⟩ := info_parts Tryz.info_u32
 refine wpList_append_own w hgd s x 22 ho base 131 i0 (.int .u32 0) 1 4 Tryz.underlying22 hi hz0 hz1 hz2 rfl (by decide) _ n _ hs hown.row ⟨b, off, none⟩ m c2 (news.map wv) hx (by rw [List.length_map, hm, Nat.mul_one]) ?_ ?_ (by simp only [maxLen]; omega) (by omega) hbase ?_
 ·intro j u hj
  have hj1 : j < news.length := by
   have := (List.getElem?_eq_some_iff.1 hj).1
   rwa [List.length_map] at this
  have := hnews j (by omega)
  rw [show (⟨b, off, none⟩ : Addr).add j = ⟨b, off + j, none⟩ from by unfold Addr.add; split <;> simp_all, this]
  rw [List.getElem?_map, List.getElem?_eq_getElem hj1] at hj
  rw [List.getD_eq_getElem?_getD, List.getElem?_eq_getElem hj1]
  simpa [wv] using hj
 ·intro u hu
  obtain ⟨x, _, rfl⟩ := List.mem_map.1 hu
  rfl
 ·intro v' w' h1 h2 h3
  have hO : ∀ A' c', v' = .slice A' (n + m) c' → Own w' base A' (n + m) c' (l ++ news) := fun A' c' e => by
   subst e
   refine ⟨by rw [List.map_append]; exact h1, fun y hy => ?_⟩
   rcases List.mem_append.1 hy with e | e
   ·exact hown.ok y e
   ·exact hok y e
  have hB : Below base w w' := Below.grown (Below.refl _ _) h2 hbase (fun k hk => by
   rcases hown.row.2 with ⟨e1, e2⟩ | ⟨g, cap, cur, e1, e2, e3, e4, e5, e6, e7⟩
   ·rw [e1] at hk; cases hk
   ·rw [e1] at hk; cases hk; exact e2)
  rcases h1.2 with ⟨e1, e2⟩ | ⟨g, cap, cur, e1, e2, e3, e4, e5, e6, e7⟩
  ·have e3 : v' = .slice none (n + m) 0 := by rw [e1, e2]
   have := h _ _ w' (hO _ _ e3) hB
   rw [e3]; exact this
  ·have := h _ _ w' (hO _ _ e1) hB
   rw [e1]; exact this
theorem Ext.own {a b c : World} {g : Nat} (h : Ext a b) (k : Below g b c) (hg : a.heap.size ≤ g) : Ext a c := h.of_below k hg
theorem WAt.cells {w : World} {b off n c : Nat} {l : List Nat} (h : WAt w (some ⟨b, off, none⟩) n c l) : ∀ j, j < n → w.cell? ⟨b, off + j, none⟩ = some (.int .u32 ((l.getD j 0 : Nat) : Int)) := fun j hj => by
 obtain ⟨b', off', e, _, hc⟩ := h.at (by omega)
 cases e; exact hc j hj
theorem IAt.of_val {w : World} {s : Bool} {A : Option Addr} {n c x : Nat} (h : WAt w A n c (Z7 x)) (hx : x ≠ 0) : IAt w s A n c (sgd s x) := by
 refine ⟨?_, by rw [Z2Z]; exact h⟩
 unfold sgd; cases s <;> simp; omega
theorem Zz (s : Bool) (A : Option Addr) (n c : Nat) (l : List Nat) (w : World) (h : WAt w A n c l) (hs : n ≤ Z8) :
  Ca 164 #[.bool s, .slice A n c] w (Z1F w (sgd s (val l))) := by
 have H := zH h
 have HN := zH h.len
 have HLE : Hid ((Z7 (val l)).length ≤ n) := by
  show _
  rw [h.len]; exact Z0A (Z08 h.rep.ok)
 by_cases h0 : val l = 0
 ·have HV := zH h0
  clear h h0
  go_enter func164, ntmps164
  go_wp2_with (go_at_call 224; (with_reducible refine (Z05 A n c l _ (H.out.ext EX) hs).mono ?_); rintro e w1 ⟨A', n', c', rfl, hW', rfl⟩; have hn' : n' = 0 := (by rw [hW'.len, HV.out, Zp]; rfl); subst hn')
  refine bodyPost_ret (v := .agg #[.bool false, .slice none 0 0]) (by simp [results, results164, go_sem]) rfl ⟨_, _, _, _, rfl, ?_, EX⟩
  rw [HV.out]
  exact IAt.zero _ s
 ·have HV := zH h0
  have hv0 := h0
  clear h h0
  go_enter func164, ntmps164
  go_wp2_with (
   first
   | (go_at_call 224; (with_reducible refine (Z05 A n c l _ (H.out.ext EX) hs).mono ?_); rintro e w1 ⟨A', n', c', rfl, hW', rfl⟩; have HW' := zH hW'; have hn' : 0 < n' := (by rw [hW'.len]; exact List.length_pos_iff.2 (Z0k hv0)); have hz : ((n' : Int) == 0) = false := (by simp; omega); obtain ⟨b, off, rfl, hb, hcw⟩ := hW'.at hn'; clear hW')
   | ((with_reducible refine (id ?_ : wpList _ _ _ [⟨some 14, _, _, _, _, _⟩, _, _] _ _)); go_loud (refine Z0j rfl (.tmp 12) (.tmp 13) rfl (w.heap.size + 1) _ _ _ _ (Own.new0 _ _ (w.heap.size + 1) (by simp) (Nat.le_refl _)) rfl b off n' c' (Z7 (val l)) rfl HW'.out.len.symm (HW'.out.ext EX).cells (Z0f _) (by have := HW'.out.len; have := HLE.out; unfold Z8 at hs; omega) (by simp) ?_); intro A2 c2 w2 hO hB; obtain ⟨hc, hf⟩ := Below.cells' hB; have hx : Ext w w2 := Ext.own EX hB (by omega)))
  have hI := (IAt.of_val (s := s) (by have := hO.wat; simpa using this) HV.out)
  refine bodyPost_ret (v := .agg #[.bool s, .slice A2 n' c2]) (by simp [results, results164, go_sem, hc, hf]) rfl ⟨_, _, _, _, rfl, IAt.keep hI KP, EX⟩
theorem Z2O (W : World) (v : Int) (z g : Nat) (hv : v = (z : Int)) (hg : W.heap.size = g) : ∀ j, j < 1 → (W.alloc (.cells #[.int .u32 v] 131)).cell? ⟨g, 0 + j, none⟩ = some (.int .u32 (([z].getD j 0 : Nat) : Int)) := by
 intro j hj
 obtain rfl : j = 0 := by omega
 subst hv hg
 have := (Blk.new W [z]).cell 0 (by simp)
 exact this
theorem ZaS (x y c : Nat) (hx : x < 4294967296) (hy : y < 4294967296) (hc : c ≤ 1) :
  IntKind.u64.wrap (IntKind.u64.wrap ((x : Int) + y) + c) = ((x + y + c : Nat) : Int) := by
 rw [Z0m ((x : Int) + y) (by omega) (by omega), Z0m ((x : Int) + y + c) (by omega) (by omega)]; omega
theorem Z7e {l : List Nat} {i : Nat} (h : l.length ≤ i) : l.getD i 0 = 0 := by
 rw [List.getD_eq_getElem?_getD, List.getElem?_eq_none h]; rfl
theorem Z2z (A1 A2 : Option Addr) (n1 c1 n2 c2 : Nat) (l1 l2 : List Nat) (w : World) (h1 : WAt w A1 n1 c1 l1) (h2 : WAt w A2 n2 c2 l2) (hs1 : n1 < Z8) (hs2 : n2 < Z8) :
  Ca 175 #[.slice A1 n1 c1, .slice A2 n2 c2] w (Zb3 w (Z7 (val l1 + val l2))) := by
 have H1 := zH h1
 have H2 := zH h2
 have hs1' : n1 ≤ Z8 := by omega
 have hs2' : n2 ≤ Z8 := by omega
 have HZ := zH (fun k => Z8V l1 l2 k)
 have HB := zH (fun k => (Z6Z (h := Z25) Z9o l1 l2 k))
 have HC : Hid (∀ k, (zst Z2u Z25 l1 l2 k).2 ≤ 1) := by
  show _
  intro k
  induction k with
  | zero => simp [zst]
  | succ k ih => rw [Z1J]; exact Z9p _ _ _ (Zd h1.rep.ok k) (Zd h2.rep.ok k) ih
 have HX := zH (Zd h1.rep.ok)
 have HY := zH (Zd h2.rep.ok)
 clear h1 h2
 go_enter func175, ntmps175
 go_wp2_with fail
 go_loopw [5, 6, 7] (fun ov cv jv wr => ∃ (i c : Nat) (A : Option Addr), i ≤ max n1 n2 ∧ jv = .int .i64 (i : Int) ∧ cv = .int .u64 (((zst Z2u Z25 l1 l2 i).2 : Nat) : Int) ∧ ov = .slice A i c ∧ Own wr w.heap.size A i c (zst Z2u Z25 l1 l2 i).1 ∧ Ext w wr) (fun _ _ jv _ => max n1 n2 - (intOf jv).toNat)
 case atStart => exact ⟨0, 0, none, by omega, rfl, rfl, rfl, Own.nil _ _, Ext.refl _⟩
 case round =>
  obtain ⟨i, c, A, hi, rfl, rfl, rfl, hO, hx⟩ := hrel
  by_cases hlt : i < max n1 n2
  ·have hxi := HX.out i
   have hyi := HY.out i
   have hci := HC.out i
   have hO' := zH hO
   have HX' := zH hx
   have ez := Z1J Z2u Z25 l1 l2 i
   have ez1 : (zst Z2u Z25 l1 l2 (i + 1)).1 = (zst Z2u Z25 l1 l2 i).1 ++ [Z2u (l1.getD i 0) (l2.getD i 0) (zst Z2u Z25 l1 l2 i).2] := rfl
   have HE1 := zH ez1
   have HE2 := zH ez
   have HW1 := zH (fun W (k : WAt W A1 n1 c1 l1) => ZS A1 n1 c1 i l1 W k hs1')
   have HW2 := zH (fun W (k : WAt W A2 n2 c2 l2) => ZS A2 n2 c2 i l2 W k hs2')
   obtain ⟨x, hx1⟩ : ∃ x, l1.getD i 0 = x := ⟨_, rfl⟩
   obtain ⟨y, hy1⟩ : ∃ x, l2.getD i 0 = x := ⟨_, rfl⟩
   obtain ⟨cy, hc1⟩ : ∃ x, (zst Z2u Z25 l1 l2 i).2 = x := ⟨_, rfl⟩
   rw [hx1] at hxi HE1 HE2 HW1
   rw [hy1] at hyi HE1 HE2 HW2
   rw [hc1] at hci HE1 HE2 ⊢
   simp only [B32] at hxi hyi
   have HA := zH (ZaS x y cy hxi hyi hci)
   clear hO ez ez1 hx1 hy1 hc1
   have hiI : (i : Int) ≤ 4294967295 := by unfold Z8 at *; omega
   have hcond : (decide (i < n1) || decide (i < n2)) = true := by simp; omega
   go_wp2_with (
    first
    | (go_at_call 216; (with_reducible refine (HW1.out _ (H1.out.ext EX)).mono ?_); rintro e w1 ⟨rfl, rfl⟩)
    | (go_at_call 216; (with_reducible refine (HW2.out _ (H2.out.ext EX)).mono ?_); rintro e w1 ⟨rfl, rfl⟩)
    | ((with_reducible refine (id ?_ : wpList _ _ _ [⟨some 34, _, _, _, _, _⟩, _] _ _)); go_loud (refine Z0j rfl (.tmp 30) (.tmp 33) rfl w.heap.size _ _ _ _ (hO'.out.ext EX) rfl wr.heap.size 0 1 1 [(x + y + cy) % 4294967296] rfl rfl (Z2O _ _ _ _ (by simp) rfl) (by intro z hz; simp at hz; subst hz; exact Nat.mod_lt _ (by decide)) (by unfold Z8 at *; omega) (by rw [World.size_alloc]; exact Nat.le_succ_of_le hx.size) ?_); intro A3 c3 w3 hO3 hB3; have hx3 : Ext w w3 := Ext.own EX hB3 (Nat.le_refl _)))
   all_goals go_roundw
   case measure => simp [intOf]; omega
   case measure => simp [intOf]; omega
   case rel => exact ⟨i + 1, c3, A3, by omega, by simp, by rw [HE2.out]; unfold Z25; simp, rfl, by rw [HE1.out]; exact hO3, hx3⟩
   case rel => exact ⟨i + 1, c3, A3, by omega, by simp, by rw [HE2.out]; unfold Z25; simp, rfl, by rw [HE1.out]; exact hO3, hx3⟩
  ·obtain rfl : i = max n1 n2 := by omega
   have hd1 : decide (max n1 n2 < n1) = false := by simp; omega
   have hd2 : decide (max n1 n2 < n2) = false := by simp; omega
   have hci := HC.out (max n1 n2)
   have ez := HZ.out (max n1 n2)
   rw [List.take_of_length_le (by rw [← H1.out.len]; omega), List.take_of_length_le (by rw [← H2.out.len]; omega)] at ez
   have hO' := zH hO
   have EZ := zH ez
   obtain ⟨cy, hc1⟩ : ∃ x, (zst Z2u Z25 l1 l2 (max n1 n2)).2 = x := ⟨_, rfl⟩
   have hzl := Z1O Z2u Z25 l1 l2 (max n1 n2)
   rw [hc1] at hci EZ ⊢
   obtain ⟨o, ho⟩ : ∃ x, (zst Z2u Z25 l1 l2 (max n1 n2)).1 = x := ⟨_, rfl⟩
   rw [ho] at hO' EZ hzl
   have hE : Hid (val (o ++ [cy]) = val l1 + val l2) := by
    show _
    rw [Zx, Z0g, hzl]; exact EZ.out
   obtain ⟨k, hk⟩ : ∃ k, max n1 n2 = k := ⟨_, rfl⟩
   rw [hk] at hO' hd1 hd2 ⊢
   have hkb : k < Z8 := by omega
   clear hO ez hc1 ho EZ hzl hk hlt hi
   go_wp2_with (
    first
    | (go_at_call 224; (with_reducible refine (Z05 _ _ _ _ _ hO3.wat (by omega)).mono ?_); rintro e w4 ⟨A4, n4, c4, rfl, hW4, rfl⟩)
    | ((with_reducible refine (id ?_ : wpList _ _ _ [⟨some 41, _, _, _, _, _⟩, _] _ _)); go_loud (refine Z0j rfl (.tmp 37) (.tmp 40) rfl w.heap.size _ _ _ _ (hO'.out.ext EX) rfl wr.heap.size 0 1 1 [cy] rfl rfl (Z2O _ _ _ _ (by first | (simp; done) | (simp; omega)) rfl) (by intro z hz; simp at hz; subst hz; simp only [B32]; omega) (by unfold Z8 at *; omega) (by rw [World.size_alloc]; exact Nat.le_succ_of_le hx.size) ?_); intro A3 c3 w3 hO3 hB3; have hx3 : Ext w w3 := Ext.own EX hB3 (Nat.le_refl _)))
   go_ret
   rw [hE.out] at hW4
   exact ⟨_, _, _, rfl, hW4, hx3⟩
theorem Z87 (x y c : Nat) (hx : x < 4294967296) (hy : y < 4294967296) (hc : c ≤ 1) :
  (1 : Int) - ((x : Int) + 4294967296 - y - c) / 4294967296 = ((Z21 x y c : Nat) : Int) ∧ ((x : Int) + 4294967296 - y - c) % 4294967296 = ((Z2b x y c : Nat) : Int) := by
 unfold Z21 Z2b bor; split <;> omega
theorem Zbh (o v1 v2 P b : Nat) (h : o + v2 = v1 + P * b) (ho : o < P) (hle : v2 ≤ v1) (hb : b ≤ 1) : o = v1 - v2 := by
 have : b = 0 ∨ b = 1 := by omega
 rcases this with e | e <;> subst e
 ·rw [Nat.mul_zero] at h; omega
 ·rw [Nat.mul_one] at h; omega
theorem Z1G (A1 A2 : Option Addr) (n1 c1 n2 c2 : Nat) (l1 l2 : List Nat) (w : World) (h1 : WAt w A1 n1 c1 l1) (h2 : WAt w A2 n2 c2 l2) (hs1 : n1 < Z8) (hs2 : n2 < Z8) (t2 : Z0W l2) (hle : val l2 ≤ val l1) :
  Ca 176 #[.slice A1 n1 c1, .slice A2 n2 c2] w (Zb3 w (Z7 (val l1 - val l2))) := by
 have H1 := zH h1
 have H2 := zH h2
 have hs1' : n1 ≤ Z8 := by omega
 have hs2' : n2 ≤ Z8 := by omega
 have hn2 : n2 ≤ n1 := by rw [h1.len, h2.len]; exact Z4A t2 h1.rep.ok hle
 have HZ := zH (fun k => Z8U l1 l2 h1.rep.ok h2.rep.ok k)
 have HB := zH (fun k => (Z6Z (h := Z21) Z4B l1 l2 k))
 have HX := zH (Zd h1.rep.ok)
 have HY := zH (Zd h2.rep.ok)
 have HLE := zH hle
 clear h1 h2 t2 hle
 go_enter func176, ntmps176
 go_wp2_with fail
 go_loopw [5, 6, 7] (fun ov cv jv wr => ∃ (i c : Nat) (A : Option Addr), i ≤ n1 ∧ jv = .int .i64 (i : Int) ∧ cv = .int .u64 (((zst Z2b Z21 l1 l2 i).2 : Nat) : Int) ∧ ov = .slice A i c ∧ Own wr w.heap.size A i c (zst Z2b Z21 l1 l2 i).1 ∧ Ext w wr) (fun _ _ jv _ => n1 - (intOf jv).toNat)
 case atStart => exact ⟨0, 0, none, by omega, rfl, rfl, rfl, Own.nil _ _, Ext.refl _⟩
 case round =>
  obtain ⟨i, c, A, hi, rfl, rfl, rfl, hO, hx⟩ := hrel
  by_cases hlt : i < n1
  ·have hxi := HX.out i
   have hyi := HY.out i
   have hci := (HZ.out i).1
   have hO' := zH hO
   have ez := Z1J Z2b Z21 l1 l2 i
   have ez1 : (zst Z2b Z21 l1 l2 (i + 1)).1 = (zst Z2b Z21 l1 l2 i).1 ++ [Z2b (l1.getD i 0) (l2.getD i 0) (zst Z2b Z21 l1 l2 i).2] := rfl
   have HE1 := zH ez1
   have HE2 := zH ez
   have HW1 := zH (fun W (k : WAt W A1 n1 c1 l1) => ZS A1 n1 c1 i l1 W k hs1')
   have HW2 := zH (fun W (k : WAt W A2 n2 c2 l2) => ZS A2 n2 c2 i l2 W k hs2')
   obtain ⟨x, hx1⟩ : ∃ x, l1.getD i 0 = x := ⟨_, rfl⟩
   obtain ⟨y, hy1⟩ : ∃ x, l2.getD i 0 = x := ⟨_, rfl⟩
   obtain ⟨cy, hc1⟩ : ∃ x, (zst Z2b Z21 l1 l2 i).2 = x := ⟨_, rfl⟩
   rw [hx1] at hxi HE1 HE2 HW1
   rw [hy1] at hyi HE1 HE2 HW2
   rw [hc1] at hci HE1 HE2 ⊢
   simp only [B32] at hxi hyi
   have HA := zH (Z87 x y cy hxi hyi hci)
   have hiI : (i : Int) ≤ 4294967295 := by unfold Z8 at *; omega
   clear hO ez ez1 hx1 hy1 hc1
   go_wp2_with (
    first
    | (go_at_call 216; (with_reducible refine (HW1.out _ (H1.out.ext EX)).mono ?_); rintro e w1 ⟨rfl, rfl⟩)
    | (go_at_call 216; (with_reducible refine (HW2.out _ (H2.out.ext EX)).mono ?_); rintro e w1 ⟨rfl, rfl⟩)
    | ((with_reducible refine (id ?_ : wpList _ _ _ [⟨some 29, _, _, _, _, _⟩, _] _ _)); go_loud (refine Z0j rfl (.tmp 25) (.tmp 28) rfl w.heap.size _ _ _ _ (hO'.out.ext EX) rfl wr.heap.size 0 1 1 [Z2b x y cy] rfl rfl (Z2O _ _ _ _ (by rw [← HA.out.2]) rfl) (by intro z hz; simp at hz; subst hz; exact Z4B _ _ _) (by unfold Z8 at *; omega) (by rw [World.size_alloc]; exact Nat.le_succ_of_le hx.size) ?_); intro A3 c3 w3 hO3 hB3; have hx3 : Ext w w3 := Ext.own EX hB3 (Nat.le_refl _)))
   all_goals go_roundw
   case measure => simp [intOf]; omega
   case rel => exact ⟨i + 1, c3, A3, by omega, by simp, by rw [HE2.out, ← HA.out.1], rfl, by rw [HE1.out]; exact hO3, hx3⟩
  ·obtain rfl : i = n1 := by omega
   have ez := (HZ.out i).2
   have hcb := (HZ.out i).1
   have hb := Z08 (HB.out i)
   rw [Z1O] at hb
   rw [List.take_of_length_le (by rw [← H2.out.len]; omega), List.take_of_length_le (by rw [← H1.out.len]; omega)] at ez
   have hE := zH (Zbh _ _ _ _ _ ez hb HLE.out hcb)
   have hO' := zH hO
   obtain ⟨o, ho⟩ : ∃ x, (zst Z2b Z21 l1 l2 i).1 = x := ⟨_, rfl⟩
   rw [ho] at hO' hE
   clear hO ez hb hcb ho hlt hi
   go_wp2_with (go_at_call 224; (with_reducible refine (Z05 _ _ _ _ _ hO'.out.wat (by omega)).mono ?_); rintro e w4 ⟨A4, n4, c4, rfl, hW4, rfl⟩)
   go_ret
   rw [hE.out] at hW4
   exact ⟨_, _, _, rfl, hW4, hx⟩
theorem Z4x (A1 A2 : Option Addr) (n1 c1 n2 c2 : Nat) (l1 l2 : List Nat) (w : World) (h1 : WAt w A1 n1 c1 l1) (h2 : WAt w A2 n2 c2 l2) (hs1 : n1 + n2 ≤ Z8) :
  Ca 165 #[.slice A1 n1 c1, .slice A2 n2 c2] w (Zb3 w (Z7 (val l1 * val l2))) := by
 unfold Z8 at hs1
 have H1 := zH h1
 have H2 := zH h2
 clear h1 h2
 have hmk := Z1f ((n1 : Int) + n2) (n1 + n2) (by omega) (by omega)
 go_enter func165, ntmps165
 go_wp2_with fail
 have Z0 : ∃ out, Blk (w.alloc (ZZ (List.replicate (n1 + n2) 0))) w.heap.size out ∧ Z51 l1 l2 0 out :=
  ⟨_, by rw [H1.out.len, H2.out.len]; exact Blk.new w _, Z51.start l1 l2⟩
 go_loopw [6] (fun i wr => ∃ (k : Nat) (out : List Nat), k ≤ n1 ∧ i = .int .i64 (k : Int) ∧ Blk wr w.heap.size out ∧ Z51 l1 l2 k out ∧ Ext w wr) (fun i _ => n1 - (intOf i).toNat)
 case atStart => obtain ⟨out, hb, hm⟩ := Z0; exact ⟨0, out, by omega, rfl, hb, hm, EX⟩
 case round =>
  clear Z0 hmk
  obtain ⟨k, out, hk, rfl, hB, hM, hx⟩ := hrel
  by_cases hlt : k < n1
  ·have HB := zH hB
   have HM := zH hM
   have HX := zH hx
   obtain ⟨hc, hf⟩ := hx.cells
   clear hB hM hx
   obtain ⟨b1, f1, rfl, hb1, hc1⟩ := H1.out.at (by omega)
   have g1 := hc1 k hlt
   have p1 := (H1.out.pad k).1
   clear hc1
   obtain ⟨x, hx⟩ : ∃ x, l1.getD k 0 = x := ⟨_, rfl⟩
   rw [hx] at g1 p1
   have HXX := zH hx
   clear hx
   go_wp2_with fail
   obtain ⟨wo, rfl⟩ : ∃ wo : World, wo = wr := ⟨_, rfl⟩
   have R0 : Z6g l2 out k 0 x 0 out := HM.out.row
   have HR0 := zH R0
   clear R0
   go_loopw [8, 7] (fun i cv wq => ∃ (j c : Nat) (o' : List Nat), j ≤ n2 ∧ i = .int .i64 (j : Int) ∧ cv = .int .u64 (c : Int) ∧ Blk wq w.heap.size o' ∧ Z6g l2 out k j x c o' ∧ Ext w wq) (fun i _ _ => n2 - (intOf i).toNat)
   case atStart => exact ⟨0, 0, out, by omega, rfl, rfl, HB.out, HR0.out, HX.out⟩
   case round =>
    clear hc hf
    obtain ⟨j, c, o', hj, rfl, rfl, hB, hR, hx⟩ := hrel
    obtain ⟨hc, hf⟩ := hx.cells
    have hlen : o'.length = n1 + n2 := by rw [hR.len, HM.out.len, ← H1.out.len, ← H2.out.len]
    have pc := hR.car
    have HB' := zH hB
    have HR' := zH hR
    have HX' := zH hx
    by_cases hlt2 : j < n2
    ·have e0 := hB.cell (k + j) (by omega)
     have e1 := hB.frozen (k + j)
     have po := Zd hR.ok (k + j)
     obtain ⟨b2, f2, rfl, hb2, hc2⟩ := H2.out.at (by omega)
     have g2 := hc2 j hlt2
     have p2 := (H2.out.pad j).1
     obtain ⟨y, hy⟩ : ∃ y, l2.getD j 0 = y := ⟨_, rfl⟩
     obtain ⟨o, ho⟩ : ∃ o, o'.getD (k + j) 0 = o := ⟨_, rfl⟩
     rw [ho] at e0 po
     rw [hy] at g2 p2
     have HS := hR.step p1 H2.out.rep.ok (by rw [← H2.out.len]; exact hlt2) (by omega)
     rw [hy, ho] at HS
     have HS' := zH HS
     have HBS := zH (hB.set (k + j) ((x * y + o + c) % 4294967296))
     obtain ⟨m0, m1, m2⟩ := Z27 p1 p2 po pc
     simp only [B32] at po pc
     clear hB hR hx HS hy ho hc2
     go_wp2
     go_quiet (fail)
     go_wp2
     go_roundw
     case rel => exact ⟨j + 1, (x * y + o + c) / 4294967296, _, by omega, by simp, by simp, by simpa using (HB'.out.drewN _).set (k + j) ((x * y + o + c) % 4294967296), HS'.out, by have hxx := HX'.out; exact EX⟩
     case measure => simp [intOf]; omega
    ·obtain rfl : j = n2 := by omega
     have e0 := hB.cell (k + j) (by omega)
     have e1 := hB.frozen (k + j)
     obtain ⟨o, ho⟩ : ∃ o, o'.getD (k + j) 0 = o := ⟨_, rfl⟩
     rw [ho] at e0
     have HS := Z6g.done HM.out (by rw [← H1.out.len]; exact hlt) (by rw [← H2.out.len, HXX.out]; exact hR)
     rw [← H2.out.len] at HS
     have HS' := zH HS
     have HBS := zH (hB.set (k + j) c)
     simp only [B32] at pc
     clear hB hR hx HS ho
     go_wp2
     go_roundw
     case rel => exact ⟨k + 1, _, by omega, by simp, HBS.out, HS'.out, by have hxx := HX'.out; exact EX⟩
     case measure => simp [intOf]; omega
  ·obtain rfl : k = n1 := by omega
   have HB := zH hB
   have HM := zH hM
   clear hB hM
   have hm := HM.out
   rw [H1.out.len] at hm
   have hW := HB.out.wat hm.ok (k + n2) (k + n2) (by rw [hm.len, ← H1.out.len, ← H2.out.len]) (Nat.le_refl _)
   have HV := zH hm.all
   go_wp2_with (go_at_call 224; (with_reducible refine (Z05 _ _ _ _ _ hW (by unfold Z8; omega)).mono ?_); rintro e w4 ⟨A4, n4, c4, rfl, hW4, rfl⟩)
   go_ret
   rw [HV.out] at hW4
   exact ⟨_, _, _, rfl, hW4, hx⟩
theorem Z8h (A1 A2 : Option Addr) (c1 c2 : Nat) (l1 l2 : List Nat) (w : World) (h1 : Wd w A1 l1) (h2 : Wd w A2 l2) (hm1 : l1.length ≤ 4611686018427387904) (hm2 : l2.length ≤ 4611686018427387904)
  (o1 : WOk l1) (o2 : WOk l2) (t1 : Z0W l1) (t2 : Z0W l2) :
  Ca 163 #[.slice A1 l1.length c1, .slice A2 l2.length c2] w fun e w' => e = .returned (.int .i64 (Z1g (val l1) (val l2))) ∧ Ext w w' := by
 by_cases hl : l1.length = l2.length
 ·obtain ⟨n, hn⟩ : ∃ n, l1.length = n := ⟨_, rfl⟩
  have HN := zH hn
  have HN2 := zH (hl.symm.trans hn)
  rw [← hl, hn]
  rw [hn] at hm1
  have H0 : Hid (l1.drop n = l2.drop n) := by
   show _ = _
   rw [List.drop_of_length_le (by omega), List.drop_of_length_le (by omega)]
  clear hm2 hl hn
  go_enter func163, ntmps163
  go_wp2
  go_loopw [5] (fun i wr => ∃ m : Nat, m ≤ n ∧ i = .int .i64 ((m : Int) - 1) ∧ Hid (l1.drop m = l2.drop m) ∧ ∃ q, wr = w.drewN q) (fun i _ => (intOf i + 1).toNat)
  case atStart => exact ⟨n, Nat.le_refl _, rfl, H0, 0, rfl⟩
  case round =>
   obtain ⟨m, hmn, rfl, heq, q, rfl⟩ := hrel
   by_cases hm0 : m = 0
   ·subst hm0
    go_wp2
    go_ret
    refine ⟨ZY ?_, (Ext.refl _).drewN _⟩
    have := heq.out; simp at this; subst this; exact (Z9c _).symm
   ·obtain ⟨m, rfl⟩ : ∃ k, m = k + 1 := ⟨m - 1, by omega⟩
    clear hm0
    obtain ⟨b1, f1, rfl, hc1⟩ := h1 (by have := HN.out; omega)
    obtain ⟨b2, f2, rfl, hc2⟩ := h2 (by have := HN2.out; omega)
    have g1 := hc1 m (by have := HN.out; omega)
    have g2 := hc2 m (by have := HN2.out; omega)
    have r1 := Zd o1 m
    have r2 := Zd o2 m
    clear hc1 hc2
    obtain ⟨x1, hx1⟩ : ∃ x, l1.getD m 0 = x := ⟨_, rfl⟩
    obtain ⟨x2, hx2⟩ : ∃ x, l2.getD m 0 = x := ⟨_, rfl⟩
    rw [hx1] at g1 r1
    rw [hx2] at g2 r2
    have HX1 := zH hx1
    have HX2 := zH hx2
    clear hx1 hx2
    have em : ((m + 1 : Nat) : Int) - 1 = m := by omega
    rw [em]
    clear em
    have hm2 : m < n := by omega
    have heqs : x1 = x2 → Hid (l1.drop m = l2.drop m) := fun h => by
     show _ = _
     have b1 := HN.out
     have b2 := HN2.out
     rw [List.drop_eq_getElem_cons (show m < l1.length by omega), List.drop_eq_getElem_cons (show m < l2.length by omega), heq.out]
     have a1 := HX1.out; have a2 := HX2.out
     rw [List.getD_eq_getElem?_getD, List.getElem?_eq_getElem (by have := HN.out; omega)] at a1
     rw [List.getD_eq_getElem?_getD, List.getElem?_eq_getElem (by have := HN2.out; omega)] at a2
     simp only [Option.getD_some] at a1 a2
     rw [a1, a2, h]
    have hlts : x1 < x2 → val l1 < val l2 := fun h => Z2L o1 m (by have := HN.out; omega) (by have := HN2.out; omega) heq.out (by rw [HX1.out, HX2.out]; exact h)
    have hgts : x2 < x1 → val l2 < val l1 := fun h => Z2L o2 m (by have := HN2.out; omega) (by have := HN.out; omega) heq.out.symm (by rw [HX1.out, HX2.out]; exact h)
    go_wp2
    by_cases hx : x1 = x2
    ·subst hx
     clear hlts hgts
     replace heqs := heqs rfl
     go_quiet (fail)
     go_wp2
     go_quiet (fail)
     go_wp2
     go_roundw
     case rel => exact ⟨m, by omega, rfl, heqs, by trace_state; exact ⟨_, rfl⟩⟩
     case measure => simp [intOf]
    ·clear heqs
     by_cases hx2 : x1 < x2
     ·have HR := zH (Z4Q (hlts hx2))
      have hd : decide (x1 < x2) = true := by simp [hx2]
      clear hlts hgts hx hx2
      go_quiet (fail)
      go_wp2
      go_ret
      exact ⟨ZY HR.out.symm, ((Ext.refl _).drewN _).drewN _⟩
     ·have HR := zH (Z4R (hgts (by omega)))
      have hd : decide (x1 < x2) = false := by simp [hx2]
      have hd2 : decide (x2 < x1) = true := by simp; omega
      clear hlts hgts hx hx2
      go_quiet (fail)
      go_wp2
      go_quiet (fail)
      go_wp2
      go_ret
      exact ⟨ZY HR.out.symm, ((Ext.refl _).drewN _).drewN _ |>.drewN _⟩
 ·by_cases h : l1.length < l2.length
  ·have HR := zH (Z4Q (Z1t o1 t2 h))
   have hd : decide (l1.length < l2.length) = true := by simp [h]
   have hq : (((l1.length : Int)) != (l2.length : Int)) = true := by simp; omega
   clear hl
   go_enter func163, ntmps163
   go_wp2
   go_ret
   exact ⟨ZY HR.out.symm, Ext.refl _⟩
  ·have HR := zH (Z4R (Z1t o2 t1 (by omega)))
   have hd : decide (l1.length < l2.length) = false := by simp [h]
   have hq : (((l1.length : Int)) != (l2.length : Int)) = true := by simp; omega
   clear hl
   go_enter func163, ntmps163
   go_wp2
   go_ret
   exact ⟨ZY HR.out.symm, Ext.refl _⟩
theorem Z0J (A1 A2 : Option Addr) (n1 c1 n2 c2 : Nat) (l1 l2 : List Nat) (w : World) (h1 : WAt w A1 n1 c1 l1) (h2 : WAt w A2 n2 c2 l2) (hs1 : n1 ≤ Z8) (hs2 : n2 ≤ Z8) (t1 : Z0W l1) (t2 : Z0W l2) :
  Ca 163 #[.slice A1 n1 c1, .slice A2 n2 c2] w fun e w' => e = .returned (.int .i64 (Z1g (val l1) (val l2))) ∧ Ext w w' := by
 unfold Z8 at hs1 hs2
 have := Z8h A1 A2 c1 c2 l1 l2 w h1.rep.words h2.rep.words (by have := h1.len; omega) (by have := h2.len; omega) h1.rep.ok h2.rep.ok t1 t2
 rwa [← h1.len, ← h2.len] at this
def nb (n : Nat) : Nat := if n = 0 then 0 else Nat.log2 n + 1
theorem Zbm : nb 0 = 0 := rfl
theorem Zc6 {n k : Nat} (h1 : 2 ^ k ≤ n) (h2 : n < 2 ^ (k + 1)) : nb n = k + 1 := by
 have h0 : n ≠ 0 := by have : 0 < 2 ^ k := Nat.pow_pos (by decide); omega
 unfold nb; rw [if_neg h0, (Nat.log2_eq_iff h0).2 ⟨h1, h2⟩]
theorem ZcF (n : Nat) : n < 2 ^ nb n := by
 unfold nb; split
 ·omega
 ·exact Nat.lt_log2_self
theorem ZcG {n k : Nat} (h : nb n = k + 1) : 2 ^ k ≤ n := by
 unfold nb at h; split at h
 ·omega
 ·rename_i h0
  have := Nat.log2_self_le h0
  rwa [show n.log2 = k by omega] at this
theorem Z1V {n k : Nat} (h : n < 2 ^ k) : nb n ≤ k := by
 unfold nb; split
 ·omega
 ·rename_i h0; exact (Nat.log2_lt h0).2 h
theorem Zck {n : Nat} (h : n ≠ 0) : ∃ k, nb n = k + 1 := ⟨Nat.log2 n, by unfold nb; rw [if_neg h]⟩
theorem Zbn {n : Nat} (h : n ≠ 0) : nb n = nb (n / 2) + 1 := by
 unfold nb; rw [if_neg h, Nat.log2_def]
 by_cases h2 : 2 ≤ n
 ·rw [if_pos h2, if_neg (by omega)]
 ·rw [if_neg h2, if_pos (by omega)]
theorem Z8c {a P V k : Nat} (ha : a ≠ 0) (hP : P = 2 ^ k) (h1 : a * P ≤ V) (h2 : V < (a + 1) * P) : nb V = nb a + k := by
 obtain ⟨j, hj⟩ := Zck ha
 have g1 := ZcG hj
 have g2 := ZcF a
 rw [hj] at g2 ⊢
 rw [show j + 1 + k = j + k + 1 by omega]
 subst hP
 refine Zc6 ?_ ?_
 ·rw [Nat.pow_add]; exact Nat.le_trans (Nat.mul_le_mul_right _ g1) h1
 ·rw [show j + k + 1 = j + 1 + k by omega, Nat.pow_add]; exact Nat.lt_of_lt_of_le h2 (Nat.mul_le_mul_right _ g2)
theorem ZbW (k : Nat) : B32 ^ k = 2 ^ (32 * k) := by rw [Nat.pow_mul]
theorem Z8T {l : List Nat} {k : Nat} (hl : l.length = k + 1) (ho : WOk l) (ht : Z0W l) : nb (val l) = nb (l.getD k 0) + 32 * k := by
 have h0 : l.getD k 0 ≠ 0 := by
  rcases ht with e | e
  ·rw [e] at hl; simp at hl
  ·rwa [hl] at e
 obtain ⟨h1, h2⟩ := Zbg hl ho
 exact Z8c h0 (ZbW k) h1 h2
theorem Z5W (t : Nat) (h : t < 4294967296) : Lib.bitLen t = nb t := by
 by_cases h0 : t = 0
 ·subst h0; rfl
 ·obtain ⟨h1, h2, h3⟩ := Lib.bitLenAux_bounds 64 t (by omega) h0
  obtain ⟨k, hk⟩ : ∃ k, Lib.bitLenAux 64 t = k + 1 := ⟨Lib.bitLenAux 64 t - 1, by omega⟩
  show Lib.bitLenAux 64 t = _
  rw [hk] at h2 h3 ⊢
  exact (Zc6 h2 h3).symm
theorem ZaW {t : Nat} (h : t < 4294967296) : nb t ≤ 32 := Z1V (by exact h)
theorem Z3s (A : Option Addr) (n c : Nat) (l : List Nat) (w : World) (h : WAt w A n c l) (hs : n ≤ Z8) (ht : Z0W l) :
  Ca 180 #[.slice A n c] w fun e w' => e = .returned (.int .i64 ((nb (val l) : Nat) : Int)) ∧ w = w' := by
 unfold Z8 at hs
 by_cases h0 : n = 0
 ·have hl : l = [] := List.eq_nil_of_length_eq_zero (by rw [← h.len]; exact h0)
  subst hl h0
  clear h ht
  go_enter func180, ntmps180
  go_wp2
  go_ret
  exact ⟨rfl, rfl⟩
 ·obtain ⟨k, rfl⟩ : ∃ k, n = k + 1 := ⟨n - 1, by omega⟩
  obtain ⟨b, off, rfl, hb, hc⟩ := h.at (by omega)
  have g := hc k (by omega)
  have hx := Zd h.rep.ok k
  have hV := Z8T h.len.symm h.rep.ok ht
  obtain ⟨x, hx'⟩ : ∃ x, l.getD k 0 = x := ⟨_, rfl⟩
  rw [hx'] at g hx hV
  have HV := zH hV
  have hkI : (k : Int) ≤ 4294967295 := by omega
  have hz : ((k : Int) + 1 == 0) = false := by simp; omega
  clear h hc hx' hV ht h0 hs
  simp only [B32] at hx
  go_enter func180, ntmps180
  go_wp2_with fail
  go_loop [3, 4] (fun nv tv => ∃ (j t : Nat), nv = .int .i64 (32 * (k : Int) + j) ∧ tv = .int .u32 (t : Int) ∧ t < 4294967296 ∧ j ≤ 32 ∧ Hid (nb x = nb t + j)) (fun _ tv => (intOf tv).toNat)
  case atStart => exact ⟨0, x, by simp, rfl, hx, by omega, rfl⟩
  case round =>
   obtain ⟨j, t, rfl, rfl, ht, hj, hN⟩ := hrel
   by_cases ht0 : t = 0
   ·subst ht0
    go_wp2
    go_ret
    refine ⟨ZY ?_, rfl⟩
    rw [HV.out, hN.out, Zbm]; omega
   ·have hN' : Hid (nb x = nb (t / 2) + (j + 1)) := by show nb x = _; have h1 := hN.out; rw [Zbn ht0] at h1; omega
    have hj2 : j < 32 := by
     have h1 := hN'.out
     have h2 := ZaW hx
     clear hkI
     omega
    have hq : ((t : Int) != 0) = true := by simp; omega
    clear hN
    go_wp2
    go_round
    case rel => exact ⟨j + 1, t / 2, by simp; omega, by simp, by omega, by omega, hN'⟩
    case measure => simp [intOf]; omega
theorem ZU (s : Bool) (A : Option Addr) (n c : Nat) (z : Int) (w : World) (h : IAt w s A n c z) (hs : n ≤ Z8) :
  Ca 156 #[.agg #[.bool s, .slice A n c]] w fun e w' => e = .returned (.int .i64 ((nb z.natAbs : Nat) : Int)) ∧ Ext w w' := by
 have hs' := hs
 unfold Z8 at hs
 by_cases h0 : n = 0
 ·have hz := h.zero_iff.1 h0
  subst hz h0
  clear h
  go_enter func156, ntmps156
  go_wp2
  go_ret
  exact ⟨rfl, EX⟩
 ·obtain ⟨k, rfl⟩ : ∃ k, n = k + 1 := ⟨n - 1, by omega⟩
  have H := zH h
  obtain ⟨b, off, rfl, hb, hc⟩ := h.rep.at (by omega)
  have g := hc k (by omega)
  have hx := Zd h.rep.rep.ok k
  have hV := Z8T h.rep.len.symm h.rep.rep.ok (Zb _)
  rw [Z9] at hV
  obtain ⟨x, hx'⟩ : ∃ x, (Z7 z.natAbs).getD k 0 = x := ⟨_, rfl⟩
  rw [hx'] at g hx hV
  have HV := zH hV
  simp only [B32] at hx
  have HL := zH (fun W => Z9k (x : Int) W (by omega) (by omega))
  simp only [Int.toNat_natCast] at HL
  rw [Z5W x hx] at HL
  have hb32 := ZaW hx
  obtain ⟨y, hy⟩ : ∃ y, nb x = y := ⟨_, rfl⟩
  rw [hy] at HL HV hb32
  have hkI : (k : Int) ≤ 4294967295 := by omega
  have hz : ((k : Int) + 1 == 0) = false := by simp; omega
  have l1 : b < w.heap.size + 1 := by omega
  clear h hc hx' hV h0 hs hy
  go_enter func156, ntmps156
  go_wp2_with (
   first
   | (go_at_call 125; (with_reducible refine (Z0p s _ _ _ z _ (H.out.ext EX) hs').mono ?_); rintro e w1 ⟨rfl, hbw1⟩; (try clear hc hf); obtain ⟨hBw1, hc, hf⟩ := EC1 w1 w)
   | (go_at_call 218; (with_reducible refine (HL.out _).mono ?_); rintro e w3 ⟨rfl, rfl⟩))
  go_ret
  refine ⟨ZY ?_, EX⟩
  rw [HV.out]; omega
def Z8L (w : World) (x y : Nat) (e : Ending) (w' : World) : Prop :=
 ∃ A n c A' n' c', e = .returned (.tuple #[.slice A n c, .slice A' n' c']) ∧ WAt w' A n c (Z7 x) ∧ WAt w' A' n' c' (Z7 y) ∧ Ext w w'
structure Z82 (l : List Nat) (d m r : Nat) (κ : List Nat) : Prop where
 len : κ.length = l.length
 ok : WOk κ
 rem : r < d
 eq : val (l.drop m) = d * val (κ.drop m) + r
theorem Z82.start {l : List Nat} {d : Nat} (hd : 0 < d) : Z82 l d l.length 0 (List.replicate l.length 0) :=
 ⟨by simp, fun x hx => by rw [List.eq_of_mem_replicate hx]; decide, hd, by rw [List.drop_of_length_le (Nat.le_refl _), List.drop_of_length_le (by simp)]; simp [val]⟩
theorem Z82.step {l κ : List Nat} {d m r : Nat} (h : Z82 l d (m + 1) r κ) (hl : WOk l) (hd : d < 4294967296) (hm : m + 1 ≤ l.length) :
  (r * 4294967296 + l.getD m 0) / d < 4294967296 ∧ Z82 l d m ((r * 4294967296 + l.getD m 0) % d) (κ.set m ((r * 4294967296 + l.getD m 0) / d)) := by
 have hx := Zd hl m
 have hr := h.rem
 have hq : (r * 4294967296 + l.getD m 0) / d < 4294967296 := by
  rw [Nat.div_lt_iff_lt_mul (by omega)]
  have h1 : (r + 1) * 4294967296 ≤ d * 4294967296 := Nat.mul_le_mul_right _ hr
  rw [Nat.add_mul] at h1
  rw [Nat.mul_comm 4294967296 d]
  simp only [B32] at hx
  omega
 refine ⟨hq, by rw [List.length_set, h.len], h.ok.set _ _ hq, Nat.mod_lt _ (by omega), ?_⟩
 have e1 : val ((κ.set m ((r * 4294967296 + l.getD m 0) / d)).drop m) = (r * 4294967296 + l.getD m 0) / d + B32 * val (κ.drop (m + 1)) := by
  rw [ZR _ m (by rw [List.length_set, h.len]; omega), ZJ]
  congr 1
  rw [List.getD_eq_getElem?_getD, List.getElem?_set_self (by rw [h.len]; omega)]; rfl
 rw [e1, ZR l m (by omega)]
 exact Z7Z B32 d (l.getD m 0) r _ _ _ _ (Nat.div_add_mod _ _) h.eq
theorem Z82.all {l κ : List Nat} {d r : Nat} (h : Z82 l d 0 r κ) : val κ = val l / d ∧ r = val l % d := by
 have e := h.eq
 have hr := h.rem
 simp only [List.drop_zero] at e
 rw [e, Nat.add_comm, Nat.add_mul_div_left _ _ (by omega), Nat.add_mul_mod_self_left, Nat.div_eq_of_lt hr, Nat.mod_eq_of_lt hr]
 exact ⟨(Nat.zero_add _).symm, rfl⟩
theorem Z6z (A : Option Addr) (n c d : Nat) (l : List Nat) (w : World) (h : WAt w A n c l) (hs : n ≤ Z8) (hd : 0 < d) (hd2 : d < 4294967296) :
  Ca 276 #[.slice A n c, .int .u64 (d : Int)] w (Z8L w (val l / d) (val l % d)) := by
 unfold Z8 at hs
 have H := zH h
 have hmk := Z1f (n : Int) n rfl (by omega)
 have HS : Hid (Z82 l d n 0 (List.replicate n 0)) := by show _; rw [h.len]; exact Z82.start hd
 have HN := zH h.len
 have hnI : (n : Int) ≤ 4294967296 := by omega
 clear h
 go_enter func276, ntmps276
 go_wp2_with fail
 go_loopw [7, 6] (fun iv rv wr => ∃ (m r : Nat) (κ : List Nat), m ≤ n ∧ iv = .int .i64 ((m : Int) - 1) ∧ rv = .int .u64 (r : Int) ∧ Blk wr w.heap.size κ ∧ Z82 l d m r κ ∧ Ext w wr) (fun iv _ _ => (intOf iv + 1).toNat)
 case atStart => exact ⟨n, 0, _, Nat.le_refl _, rfl, rfl, Blk.new w _, HS.out, EX⟩
 case round =>
  obtain ⟨m, r, κ, hm, rfl, rfl, hB, hD, hx⟩ := hrel
  rcases m with _ | m
  ·have hA := hD.all
   have hk := hD.ok
   have hkl := hD.len
   have hW := hB.wat hk n n (by rw [hkl]; exact HN.out) (Nat.le_refl _)
   have hr := hD.rem
   have HA := zH hA
   have HW := zH hW
   have HR1 : Hid (∀ W : World, ∀ g, W.heap.size = g → WAt (W.alloc (.cells #[.int .u32 (r : Int)] 131)) (some ⟨g, 0, none⟩) 1 1 [r]) := by
    show _
    intro W g hg
    subst hg
    exact Z33 W [r] (by intro x hx; simp at hx; subst hx; simp only [B32]; omega) 1 1 rfl (Nat.le_refl _)
   have ei : (((0 : Nat) : Int) - 1) = -1 := rfl
   rw [ei]
   clear hA hk hkl hW hB hD
   go_wp2_with (
    first
    | (go_at_call 224; (with_reducible refine (Z05 _ _ _ _ _ HW.out (by unfold Z8; omega)).mono ?_); rintro e w4 ⟨A4, n4, c4, rfl, hW4, rfl⟩; have HW4 := zH hW4; clear hW4)
    | (go_at_call 224; (with_reducible refine (Z05 _ _ _ _ _ (HR1.out _ _ rfl) (by decide)).mono ?_); rintro e w5 ⟨A5, n5, c5, rfl, hW5, rfl⟩; have HW5 := zH hW5; clear hW5))
   go_ret2
   have hw5 := HW5.out
   rw [show Z7 (val [r]) = Z7 (val l % d) by rw [Z0g, ← HA.out.2]] at hw5
   have hw4 := HW4.out
   rw [show Z7 (val κ) = Z7 (val l / d) by rw [HA.out.1]] at hw4
   exact ⟨_, _, _, _, _, _, rfl, hw4.ext EX, hw5, EX⟩
  ·have ei : (((m + 1 : Nat) : Int) - 1) = (m : Int) := by omega
   rw [ei]
   have hlm := HN.out
   obtain ⟨hq, hst⟩ := hD.step H.out.rep.ok hd2 (by omega)
   have hr := hD.rem
   have hkl := hD.len
   have e0 := hB.cell m (by omega)
   have e1 := hB.frozen m
   obtain ⟨b2, f2, rfl, hb2, hc2⟩ := H.out.at (by omega)
   have g2 := hx.cell (hc2 m (by omega))
   have p2 := Zd H.out.rep.ok m
   obtain ⟨y, hy⟩ : ∃ y, l.getD m 0 = y := ⟨_, rfl⟩
   rw [hy] at g2 p2 hst hq
   obtain ⟨o, ho⟩ : ∃ y, κ.getD m 0 = y := ⟨_, rfl⟩
   rw [ho] at e0
   simp only [B32] at p2
   have hor := Z4d y r p2 (by omega)
   have HST := zH hst
   have hBS := zH (hB.set m ((r * 4294967296 + y) / d))
   have hx' : Ext w (wr.setCell ⟨w.heap.size, m, none⟩ (.int .u32 (((r * 4294967296 + y) / d : Nat) : Int))) := hx.setCell (p := ⟨w.heap.size, m, none⟩) (Nat.le_refl _) _
   have HX := zH hx'
   have hqi : ((r : Int) * 4294967296 + y) / d < 4294967296 := by
    have e : ((r : Int) * 4294967296 + y) / d = (((r * 4294967296 + y) / d : Nat) : Int) := by rw [Int.natCast_ediv, Int.natCast_add, Int.natCast_mul]; rfl
    rw [e]; omega
   have hq0 : (0 : Int) ≤ ((r : Int) * 4294967296 + y) / d := Int.ediv_nonneg (by omega) (by omega)
   have hdz : ((d : Int) == 0) = false := by simp; omega
   have hd0 : 0 < (d : Int) := by omega
   have E2 := zH (show ((r : Int) * 4294967296 + y) / d = (((r * 4294967296 + y) / d : Nat) : Int) by rw [Int.natCast_ediv, Int.natCast_add, Int.natCast_mul]; rfl)
   have E3 := zH (show ((r : Int) * 4294967296 + y) % d = (((r * 4294967296 + y) % d : Nat) : Int) by rw [Int.natCast_emod, Int.natCast_add, Int.natCast_mul]; rfl)
   have hmI : (m : Int) < (n : Int) := by omega
   clear hD hst hc2 hy ho hq hx hx' hB hkl
   go_wp2_with fail
   go_roundw
   case measure => simp [intOf]
   case rel => exact ⟨m, _, _, by omega, rfl, by rw [E3.out], by rw [E2.out]; exact hBS.out, HST.out, by rw [E2.out]; exact HX.out⟩
theorem Zch {x k : Nat} (hx : x < 4294967296) (hk : k < 32) : x * 2 ^ k < 18446744073709551616 := by
 have h1 : 2 ^ k ≤ 2 ^ 31 := Nat.pow_le_pow_right (by decide) (by omega)
 have h2 : x * 2 ^ k ≤ 4294967295 * 2 ^ 31 := Nat.mul_le_mul (by omega) h1
 omega
theorem Z90 (x k : Nat) (hx : x < 4294967296) (hk : k < 32) : IntKind.u64.wrap ((x : Int) * 2 ^ k) = ((x * 2 ^ k : Nat) : Int) ∧ (x : Int) * 2 ^ k = ((x * 2 ^ k : Nat) : Int) ∧ ((x * 2 ^ k : Nat) : Int) / 4294967296 % 4294967296 = ((x * 2 ^ k / 4294967296 : Nat) : Int) := by
 have h := Zch hx hk
 have e : (x : Int) * 2 ^ k = ((x * 2 ^ k : Nat) : Int) := by rw [Int.natCast_mul, Int.natCast_pow]; rfl
 rw [e]
 generalize x * 2 ^ k = z at *
 exact ⟨Z0m _ (by omega) (by omega), rfl, by omega⟩
theorem Zb6 (x y : Nat) (hx : x < 4294967296) (hy : y < 4294967296) : Go.bits .or .u64 (x : Int) ((y : Int) * 4294967296) = (y : Int) * 4294967296 + x := by
 rw [← Z4d x y hx hy]
 simp only [Go.bits, BitVec.or_comm, Nat.or_comm]
theorem Z5E (A : Option Addr) (n c k : Nat) (l : List Nat) (w : World) (h : WAt w A n c l) (hs : n < Z8) (hk : k < 32) :
  Ca 277 #[.slice A n c, .int .i64 (k : Int)] w (Zb3 w (Z7 (val l * 2 ^ k))) := by
 unfold Z8 at hs
 have H := zH h
 clear h
 have hmk := Z1f ((n : Int) + 1) (n + 1) (by omega) (by omega)
 have hq : Int.tdiv (k : Int) 32 = 0 := by rw [Int.tdiv_eq_ediv_of_nonneg (by omega)]; omega
 have hr : Int.tmod (k : Int) 32 = k := by rw [Int.tmod_eq_emod_of_nonneg (by omega)]; omega
 have hnI : (n : Int) ≤ 4294967295 := by omega
 clear hs
 go_enter func277, ntmps277
 go_wp2_with fail
 have Z0 : ∃ o, Blk (w.alloc (ZZ (List.replicate (n + 1) 0))) w.heap.size o ∧ Shf l k 0 o := ⟨_, by rw [H.out.len]; exact Blk.new w _, Shf.start l k⟩
 go_loopw [6] (fun i wr => ∃ (m : Nat) (o : List Nat), m ≤ n ∧ i = .int .i64 (m : Int) ∧ Blk wr w.heap.size o ∧ Shf l k m o ∧ Ext w wr) (fun i _ => n - (intOf i).toNat)
 case atStart => obtain ⟨o, hb, hm⟩ := Z0; exact ⟨0, o, by omega, rfl, hb, hm, EX⟩
 case round =>
  clear Z0 hmk
  obtain ⟨m, o, hm, rfl, hB, hS, hx⟩ := hrel
  have HX := zH hx
  by_cases hlt : m < n
  ·obtain ⟨hc, hf⟩ := hx.cells
   have hlen : o.length = n + 1 := by rw [hS.len, ← H.out.len]
   have e0 := hB.cell m (by omega)
   have e1 := hB.frozen m
   have e2 := hB.cell (m + 1) (by omega)
   have e3 := hB.frozen (m + 1)
   obtain ⟨b1, f1, rfl, hb1, hc1⟩ := H.out.at (by omega)
   have g1 := hc1 m hlt
   have p1 := Zd H.out.rep.ok m
   simp only [B32] at p1
   have htop := hS.top
   obtain ⟨hlt2, hSS⟩ := hS.step H.out.rep.ok hk (by rw [← H.out.len]; exact hlt)
   obtain ⟨x, hx1⟩ : ∃ x, l.getD m 0 = x := ⟨_, rfl⟩
   obtain ⟨y, hy1⟩ : ∃ x, o.getD m 0 = x := ⟨_, rfl⟩
   rw [hx1] at g1 p1 hlt2 hSS
   rw [hy1] at e0 hlt2 hSS htop
   have F1 := zH (Z8P x y k hk p1 htop)
   have F2 := zH (Z90 x k p1 hk)
   have HBS := zH ((hB.set m (y + x * 2 ^ k % 4294967296)).set (m + 1) (x * 2 ^ k / 4294967296))
   have HSS := zH hSS
   have HXX : Hid (Ext w ((wr.setCell ⟨w.heap.size, m, none⟩ (.int .u32 ((y + x * 2 ^ k % 4294967296 : Nat) : Int))).setCell ⟨w.heap.size, m + 1, none⟩ (.int .u32 ((x * 2 ^ k / 4294967296 : Nat) : Int)))) := by
    show _
    exact (hx.setCell (p := ⟨w.heap.size, m, none⟩) (Nat.le_refl _) _).setCell (p := ⟨w.heap.size, m + 1, none⟩) (Nat.le_refl _) _
   clear hB hS hx hSS hx1 hy1 hc1 htop hlt2
   go_wp2_with fail
   rw [F2.out.1, F2.out.2.2, ← F2.out.2.1, F1.out]
   go_roundw
   case measure => simp [intOf]; omega
   case rel => exact ⟨m + 1, _, by omega, by simp, HBS.out, HSS.out, HXX.out⟩
  ·obtain rfl : m = n := by omega
   have hS2 := (show val o = val l * 2 ^ k by have := hS; rw [H.out.len] at this; exact this.all)
   have hW := hB.wat hS.ok (m + 1) (m + 1) (by rw [hS.len, ← H.out.len]) (Nat.le_refl _)
   have HB := zH hW
   have HV := zH hS2
   clear hB hS hW hS2
   go_wp2_with (go_at_call 224; (with_reducible refine (Z05 _ _ _ _ _ HB.out (by unfold Z8; omega)).mono ?_); rintro e w4 ⟨A4, n4, c4, rfl, hW4, rfl⟩)
   go_ret
   rw [HV.out] at hW4
   exact ⟨_, _, _, rfl, hW4, hx⟩
theorem Zci (out ρ : List Nat) (i x : Nat) (ho : out.length = i) (hi : i < ρ.length) : (out ++ ρ.drop i).set i x = (out ++ [x]) ++ ρ.drop (i + 1) := by
 subst ho
 rw [List.set_append_right _ _ (Nat.le_refl _), Nat.sub_self, List.drop_eq_getElem_cons hi, List.set_cons_zero, List.append_assoc]; rfl
theorem Z4g (A1 : Option Addr) (n1 c1 s : Nat) (l1 : List Nat) (w : World) (h1 : WAt w A1 n1 c1 l1) (hs1 : n1 < Z8) (hs : s < 32) :
  Ca 278 #[.slice A1 n1 c1, .int .i64 (s : Int)] w (Zb3 w (Z7 (val l1 / 2 ^ s))) := by
 have H1 := zH h1
 have hs1' : n1 ≤ Z8 := by omega
 obtain ⟨ρ, hρ⟩ : ∃ ρ, l1 ++ [0] = ρ := ⟨_, rfl⟩
 have hρl : ρ.length = n1 + 1 := by rw [← hρ, h1.len]; simp
 have hρo : WOk ρ := hρ ▸ h1.rep.ok.snoc0
 have HG : Hid (∀ j, ρ.getD j 0 = l1.getD j 0) := by show _; intro j; rw [← hρ]; exact Z3k l1 j
 have HZ : Hid (val (ρ.drop n1) = 0) := by
  show _
  rw [← hρ, h1.len, List.drop_left]; rfl
 have HV : Hid (val ρ = val l1) := by show _; rw [← hρ]; exact Z3Q l1
 have HL := zH hρl
 have HO := zH hρo
 have HX := zH (Zd h1.rep.ok)
 clear h1 hρ hρl hρo
 go_enter func278, ntmps278
 go_wp2_with fail
 go_loopw [5, 6] (fun ov jv wr => ∃ (i c : Nat) (A : Option Addr) (o : List Nat), i ≤ n1 ∧ jv = .int .i64 (i : Int) ∧ ov = .slice A i c ∧ Own wr w.heap.size A i c o ∧ Uns ρ s i (o ++ ρ.drop i) ∧ Ext w wr) (fun _ jv _ => n1 - (intOf jv).toNat)
 case atStart => exact ⟨0, 0, none, [], by omega, rfl, rfl, Own.nil _ _, Uns.start s HO.out, Ext.refl _⟩
 case round =>
  obtain ⟨i, c, A, o, hi, rfl, rfl, hO, hU, hx⟩ := hrel
  by_cases hlt : i < n1
  ·have hol : o.length = i := hO.len.symm
   obtain ⟨_, _, hst⟩ := hU.step HO.out hs (by have := HL.out; omega)
   have hxi := HX.out i
   have hyi := HX.out (i + 1)
   have hO' := zH hO
   have HW1 := zH (fun W (k : WAt W A1 n1 c1 l1) => ZS A1 n1 c1 i l1 W k hs1')
   have HW2 := zH (fun W (k : WAt W A1 n1 c1 l1) => ZS A1 n1 c1 (i + 1) l1 W k hs1')
   rw [Zci o ρ i _ hol (by have := HL.out; omega), HG.out, HG.out] at hst
   rw [Int.natCast_add, Int.natCast_one] at HW2
   obtain ⟨x, hx1⟩ : ∃ x, l1.getD i 0 = x := ⟨_, rfl⟩
   obtain ⟨y, hy1⟩ : ∃ x, l1.getD (i + 1) 0 = x := ⟨_, rfl⟩
   rw [hx1] at hxi HW1 hst
   rw [hy1] at hyi HW2 hst
   simp only [B32] at hxi hyi
   have HST := zH hst
   have hor := Zb6 x y hxi hyi
   have E := zH (show (((y : Int) * 4294967296 + (x : Int)) / 2 ^ s % 4294967296) = (((y * 4294967296 + x) / 2 ^ s % 4294967296 : Nat) : Int) by rw [Int.natCast_emod, Int.natCast_ediv, Int.natCast_add, Int.natCast_mul, Int.natCast_pow]; rfl)
   have hiI : (i : Int) ≤ 4294967294 := by unfold Z8 at *; omega
   clear hO hU hst hx1 hy1 hol
   go_wp2_with (
    first
    | (go_at_call 216; (with_reducible refine (HW1.out _ (H1.out.ext EX)).mono ?_); rintro e w1 ⟨rfl, rfl⟩)
    | (go_at_call 216; (with_reducible refine (HW2.out _ (H1.out.ext EX)).mono ?_); rintro e w1 ⟨rfl, rfl⟩)
    | ((with_reducible refine (id ?_ : wpList _ _ _ [⟨some 27, _, _, _, _, _⟩, _] _ _)); go_loud (refine Z0j rfl (.tmp 13) (.tmp 26) rfl w.heap.size _ _ _ _ (hO'.out.ext EX) rfl wr.heap.size 0 1 1 [(y * 4294967296 + x) / 2 ^ s % 4294967296] rfl rfl (Z2O _ _ _ _ E.out rfl) (by intro z hz; simp at hz; subst hz; exact Nat.mod_lt _ (by decide)) (by unfold Z8 at *; omega) (by rw [World.size_alloc]; exact Nat.le_succ_of_le hx.size) ?_); intro A3 c3 w3 hO3 hB3; have hx3 : Ext w w3 := Ext.own EX hB3 (Nat.le_refl _)))
   all_goals go_roundw
   case measure => simp [intOf]; omega
   case rel => exact ⟨i + 1, c3, A3, _, by omega, by simp, rfl, hO3, HST.out, hx3⟩
  ·obtain rfl : i = n1 := by omega
   have hol : o.length = i := hO.len.symm
   have hE := hU.all HZ.out
   rw [List.take_append_of_le_length (by omega), List.take_of_length_le (by omega), HV.out] at hE
   have hO' := zH hO
   have hE := zH hE
   clear hO hU hol hlt hi
   go_wp2_with (go_at_call 224; (with_reducible refine (Z05 _ _ _ _ _ hO'.out.wat (by omega)).mono ?_); rintro e w4 ⟨A4, n4, c4, rfl, hW4, rfl⟩)
   go_ret
   rw [hE.out] at hW4
   exact ⟨_, _, _, rfl, hW4, hx⟩
theorem IAt.eq_of {w : World} {s : Bool} {A1 A2 : Option Addr} {n1 c1 n2 c2 : Nat} {x y : Int} (h1 : IAt w s A1 n1 c1 x) (h2 : IAt w s A2 n2 c2 y) (h : Z7 x.natAbs = Z7 y.natAbs) : x = y := by
 rw [← h1.sv, ← h2.sv, h]
theorem IAt.ne_sgn {w : World} {s1 s2 : Bool} {A1 A2 : Option Addr} {n1 c1 n2 c2 : Nat} {x y : Int} (h1 : IAt w s1 A1 n1 c1 x) (h2 : IAt w s2 A2 n2 c2 y) (h : s1 ≠ s2) : x ≠ y := by
 rintro rfl
 exact h (h1.sgn.trans h2.sgn.symm)
theorem Z3o (s1 s2 : Bool) (A1 A2 : Option Addr) (n1 c1 n2 c2 : Nat) (x y : Int) (w : World) (h1 : IAt w s1 A1 n1 c1 x) (h2 : IAt w s2 A2 n2 c2 y) (hs1 : n1 ≤ Z8) (hs2 : n2 ≤ Z8) :
  Ca 77 #[.agg #[.bool s1, .slice A1 n1 c1], .agg #[.bool s2, .slice A2 n2 c2]] w fun e w' => e = .returned (.bool (decide (x = y))) ∧ Ext w w' := by
 unfold Z8 at hs1 hs2
 by_cases hss : s1 = s2
 ·by_cases hnn : n1 = n2
  ·subst hss hnn
   have H1 := zH h1
   have H2 := zH h2
   have HL1 := zH h1.rep.len
   have HL2 := zH h2.rep.len
   have hnI : (n1 : Int) ≤ 4294967296 := by omega
   clear h1 h2 hs1 hs2
   go_enter func77, ntmps77
   go_wp2_with fail
   go_loopw [5] (fun i wr => ∃ (m : Nat), m ≤ n1 ∧ i = .int .i64 (m : Int) ∧ Hid ((Z7 x.natAbs).take m = (Z7 y.natAbs).take m) ∧ ∃ q, wr = ((w.alloc (.cells #[.bool s1, .slice A1 n1 c1] 24)).alloc (.cells #[.bool s1, .slice A2 n1 c2] 24)).drewN q) (fun i _ => n1 - (intOf i).toNat)
   case atStart => exact ⟨0, Nat.zero_le _, rfl, rfl, 0, rfl⟩
   case round =>
    obtain ⟨m, hm, rfl, hE, q, rfl⟩ := hrel
    by_cases hlt : m < n1
    ·obtain ⟨b1, f1, rfl, hb1, hc1⟩ := H1.out.rep.at (by omega)
     obtain ⟨b2, f2, rfl, hb2, hc2⟩ := H2.out.rep.at (by omega)
     have g1 := hc1 m hlt
     have g2 := hc2 m hlt
     have l11 : b1 < w.heap.size + 1 := by omega
     have l21 : b2 < w.heap.size + 1 := by omega
     have hE2 : (Z7 x.natAbs).getD m 0 = (Z7 y.natAbs).getD m 0 → Hid ((Z7 x.natAbs).take (m + 1) = (Z7 y.natAbs).take (m + 1)) := fun h => by
      show _ = _
      have a1 := HL1.out; have a2 := HL2.out
      rw [List.take_succ_eq_append_getElem (by omega), List.take_succ_eq_append_getElem (by omega), hE.out]
      simp only [List.getD_eq_getElem?_getD] at h
      rw [List.getElem?_eq_getElem (by omega), List.getElem?_eq_getElem (by omega)] at h
      simp only [Option.getD_some] at h
      rw [h]
     have hN2 : (Z7 x.natAbs).getD m 0 ≠ (Z7 y.natAbs).getD m 0 → x ≠ y := fun h e => h (by rw [e])
     obtain ⟨u, hu⟩ : ∃ u, (Z7 x.natAbs).getD m 0 = u := ⟨_, rfl⟩
     obtain ⟨v, hv⟩ : ∃ u, (Z7 y.natAbs).getD m 0 = u := ⟨_, rfl⟩
     rw [hu] at g1 hE2 hN2
     rw [hv] at g2 hE2 hN2
     clear hc1 hc2 hu hv
     by_cases huv : u = v
     ·subst huv
      have HE2 := hE2 rfl
      clear hE2 hN2
      go_wp2_with fail
      go_quiet (fail)
      go_wp2
      go_roundw
      case rel => exact ⟨m + 1, by omega, by simp, HE2, by exact ⟨_, rfl⟩⟩
      case measure => simp [intOf]; omega
     ·have HN2 := zH (hN2 huv)
      have hq : ((u : Int) != (v : Int)) = true := by simp; omega
      clear hE2 hN2 huv
      go_wp2_with fail
      go_quiet (fail)
      go_wp2
      go_ret
      exact ⟨by rw [decide_eq_false HN2.out]; rfl, EX⟩
    ·obtain rfl : m = n1 := by omega
     have e := hE.out
     rw [List.take_of_length_le (by have := HL1.out; omega), List.take_of_length_le (by have := HL2.out; omega)] at e
     have HXY := zH (H1.out.eq_of H2.out e)
     go_wp2
     go_ret
     exact ⟨by rw [decide_eq_true HXY.out]; rfl, EX⟩
  ·have hne : x ≠ y := by
    rintro rfl
    exact hnn (h1.rep.len.trans h2.rep.len.symm)
   have HN := zH hne
   have hq : ((n1 : Int) != (n2 : Int)) = true := by simp; omega
   subst hss
   clear h1 h2 hnn hne
   go_enter func77, ntmps77
   go_wp2
   go_ret
   exact ⟨by rw [decide_eq_false HN.out]; rfl, EX⟩
 ·have hne := h1.ne_sgn h2 hss
  have HN := zH hne
  have hq : (!s1 == s2) = true := by cases s1 <;> cases s2 <;> simp_all
  have hq2 : (s1 != s2) = true := by cases s1 <;> cases s2 <;> simp_all
  clear h1 h2 hss hne
  go_enter func77, ntmps77
  go_wp2
  all_goals go_ret
  all_goals exact ⟨by rw [decide_eq_false HN.out]; rfl, EX⟩
theorem Zv (z : Int) (w : World) (h0 : -9223372036854775808 ≤ z) (h1 : z ≤ 9223372036854775807) : Ca 93 #[.int .i64 z] w (Z1F w z) := by
 obtain ⟨m, hm⟩ : ∃ m, z.natAbs = m := ⟨_, rfl⟩
 have hmb : (m : Int) ≤ 9223372036854775808 := by omega
 have hv : Hid (val [m % 4294967296, m / 4294967296] = m) := by show _ = _; simp only [val, B32]; omega
 have ho : WOk [m % 4294967296, m / 4294967296] := by intro x hx; simp at hx; simp only [B32]; omega
 have H : ∀ W : World, W.heap.size = w.heap.size + 1 → WAt (W.alloc (.cells #[.int .u32 ((m : Int) % 4294967296), .int .u32 ((m : Int) / 4294967296)] 131)) (some ⟨w.heap.size + 1, 0, none⟩) 2 2 [m % 4294967296, m / 4294967296] := fun W hW => by
  rw [Z6G (m % 4294967296) (m / 4294967296) _ _ (by omega) (by omega), ← hW]
  exact Z33 W _ ho 2 2 rfl (by omega)
 have HH := zH H
 clear H ho
 have b1 : (m : Int) / 4294967296 < 4294967296 := by omega
 have b0 : (0 : Int) ≤ (m : Int) / 4294967296 := by omega
 have hm0 : (0 : Int) ≤ (m : Int) := by omega
 by_cases hz : z < 0
 ·have hd : decide (z < 0) = true := by simp [hz]
  have E1 := zH (show sgd true m = z by rw [← hm]; simp [sgd]; omega)
  have hw := Z2k z hz h0
  rw [hm] at hw
  clear hm
  go_enter func93, ntmps93
  go_wp2_with (go_at_call 164; (with_reducible refine (Zz true _ 2 2 _ _ (HH.out _ (by simp)) (by decide)).mono ?_); rintro e w1 ⟨sw1, Aw1, nw1, cw1, rfl, hIw1, hbw1⟩; (try clear hc hf); obtain ⟨hBw1, hc, hf⟩ := EC1 w1 w)
  rw [hv.out, E1.out] at hIw1
  refine bodyPost_ret (v := .agg #[.bool sw1, .slice Aw1 nw1 cw1]) (by simp [results, results93, go_sem, hc, hf]) rfl ⟨_, _, _, _, rfl, IAt.keep hIw1 KP, EX⟩
 ·obtain rfl : z = (m : Int) := by omega
  have hd : decide ((m : Int) < 0) = false := by simp
  have E1 := zH (show sgd false m = m by simp [sgd])
  have hw : IntKind.u64.wrap (m : Int) = m := Z0m _ (by omega) (by omega)
  clear hm hz
  go_enter func93, ntmps93
  go_wp2_with (go_at_call 164; (with_reducible refine (Zz false _ 2 2 _ _ (HH.out _ (by simp)) (by decide)).mono ?_); rintro e w1 ⟨sw1, Aw1, nw1, cw1, rfl, hIw1, hbw1⟩; (try clear hc hf); obtain ⟨hBw1, hc, hf⟩ := EC1 w1 w)
  rw [hv.out, E1.out] at hIw1
  refine bodyPost_ret (v := .agg #[.bool sw1, .slice Aw1 nw1 cw1]) (by simp [results, results93, go_sem, hc, hf]) rfl ⟨_, _, _, _, rfl, IAt.keep hIw1 KP, EX⟩
theorem Z5P {l : List Nat} (h : l.length ≤ 2) : l.getD 1 0 * 4294967296 + l.getD 0 0 = val l := by
 match l, h with
 | [], _ => rfl
 | [a], _ => simp [val]
 | [a, b], _ => simp [val, B32]; omega
def Z18 (x : Int) : Bool := decide (x.natAbs < 4611686018427387904)
theorem ZH (s : Bool) (A : Option Addr) (n c : Nat) (x : Int) (w : World) (h : IAt w s A n c x) (hs : n ≤ Z8) (hx : Z18 x = true) :
  Ca 146 #[.agg #[.bool s, .slice A n c]] w fun e w' => e = .returned (.tuple #[.int .i64 x, .bool true]) ∧ Ext w w' := by
 have H := zH h
 have hxb : x.natAbs < 4611686018427387904 := of_decide_eq_true hx
 have hn2 : n ≤ 2 := by
  rw [h.wl]
  exact Z0K (Nat.lt_trans hxb (by decide))
 have HW0 := zH (fun W (k : WAt W A n c (Z7 x.natAbs)) => ZS A n c 0 _ W k hs)
 have HW1 := zH (fun W (k : WAt W A n c (Z7 x.natAbs)) => ZS A n c 1 _ W k hs)
 have p0 := Zd (Z0f x.natAbs) 0
 have p1 := Zd (Z0f x.natAbs) 1
 have hv := Z5P (l := Z7 x.natAbs) (by rw [← h.rep.len]; exact hn2)
 rw [Z9] at hv
 obtain ⟨a, ha⟩ : ∃ a, (Z7 x.natAbs).getD 0 0 = a := ⟨_, rfl⟩
 obtain ⟨b, hb⟩ : ∃ a, (Z7 x.natAbs).getD 1 0 = a := ⟨_, rfl⟩
 rw [ha] at HW0 p0 hv
 rw [hb] at HW1 p1 hv
 rw [show ((0 : Nat) : Int) = 0 from rfl] at HW0
 rw [show ((1 : Nat) : Int) = 1 from rfl] at HW1
 simp only [B32] at p0 p1
 have hor := Zb6 a b p0 p1
 obtain ⟨m, hm⟩ : ∃ m, x.natAbs = m := ⟨_, rfl⟩
 rw [hm] at hv hxb
 have hU : (b : Int) * 4294967296 + a = m := by omega
 have hm1 : (m : Int) ≤ 4611686018427387903 := by omega
 have hm0 : (0 : Int) ≤ (m : Int) := by omega
 have hsg := h.sgn
 have E : Hid (∀ s', s = s' → (if s' = true then -(m : Int) else m) = x) := by
  show _
  rintro s' rfl
  rw [hsg]
  by_cases hx0 : x < 0 <;> simp [hx0] <;> omega
 rw [hU] at hor
 clear h hx ha hb hv hxb hm hsg hU
 go_enter func146, ntmps146
 go_wp2_with fail
 go_region_held3 (fun w' => zC w' w.heap.size 0 (.bool s) ∧ zC w' w.heap.size 1 (.slice A n c)) (first | (exact ‹_ ∧ _›) | simp [go_sem]) (first | (go_at_call 216; (with_reducible refine (HW0.out _ (H.out.rep.ext EX)).mono ?_); rintro e w1 ⟨rfl, rfl⟩) | (go_at_call 216; (with_reducible refine (HW1.out _ (H.out.rep.ext EX)).mono ?_); rintro e w1 ⟨rfl, rfl⟩))
 have hfin := E.out s rfl
 have HFIN := zH hfin
 clear hfin
 go_wp2_with fail
 all_goals go_ret2
 all_goals have hfin := HFIN.out
 all_goals refine ⟨?_, EX⟩
 all_goals rw [← hfin]
 all_goals simp [*]
theorem Z4h (s : Bool) (A : Option Addr) (n c : Nat) (x : Int) (w : World) (h : IAt w s A n c x) (hs : n ≤ Z8) (hx : Z18 x = false) :
  Ca 146 #[.agg #[.bool s, .slice A n c]] w fun e w' => e = .returned (.tuple #[.int .i64 0, .bool false]) ∧ Ext w w' := by
 have H := zH h
 have hxb : ¬ x.natAbs < 4611686018427387904 := of_decide_eq_false hx
 have HW0 := zH (fun W (k : WAt W A n c (Z7 x.natAbs)) => ZS A n c 0 _ W k hs)
 have HW1 := zH (fun W (k : WAt W A n c (Z7 x.natAbs)) => ZS A n c 1 _ W k hs)
 have p0 := Zd (Z0f x.natAbs) 0
 have p1 := Zd (Z0f x.natAbs) 1
 have hv := fun e => Z5P (l := Z7 x.natAbs) e
 rw [Z9, ← h.rep.len] at hv
 obtain ⟨a, ha⟩ : ∃ a, (Z7 x.natAbs).getD 0 0 = a := ⟨_, rfl⟩
 obtain ⟨b, hb⟩ : ∃ a, (Z7 x.natAbs).getD 1 0 = a := ⟨_, rfl⟩
 rw [ha] at HW0 p0 hv
 rw [hb] at HW1 p1 hv
 rw [show ((0 : Nat) : Int) = 0 from rfl] at HW0
 rw [show ((1 : Nat) : Int) = 1 from rfl] at HW1
 simp only [B32] at p0 p1
 have hor := Zb6 a b p0 p1
 obtain ⟨m, hm⟩ : ∃ m, b * 4294967296 + a = m := ⟨_, rfl⟩
 rw [hm] at hv
 have hU : (b : Int) * 4294967296 + a = m := by omega
 have hm1 : (m : Int) ≤ 18446744073709551615 := by omega
 have hm0 : (0 : Int) ≤ (m : Int) := by omega
 have hcond : (decide (2 < (n : Int)) || decide (4611686018427387904 ≤ (m : Int))) = true := by
  simp
  by_cases h2 : n ≤ 2
  ·right; have := hv h2; omega
  ·left; omega
 rw [hU] at hor
 clear h hx ha hb hv hxb hm hU
 go_enter func146, ntmps146
 go_wp2_with fail
 go_region_held3 (fun w' => zC w' w.heap.size 0 (.bool s) ∧ zC w' w.heap.size 1 (.slice A n c)) (first | (exact ‹_ ∧ _›) | simp [go_sem]) (first | (go_at_call 216; (with_reducible refine (HW0.out _ (H.out.rep.ext EX)).mono ?_); rintro e w1 ⟨rfl, rfl⟩) | (go_at_call 216; (with_reducible refine (HW1.out _ (H.out.rep.ext EX)).mono ?_); rintro e w1 ⟨rfl, rfl⟩))
 go_wp2_with fail
 all_goals go_ret2
 all_goals exact ⟨rfl, EX⟩
def Zab (x : Int) : Int := if Z18 x = true then x else 0
theorem ZM (s : Bool) (A : Option Addr) (n c : Nat) (x : Int) (w : World) (h : IAt w s A n c x) (hs : n ≤ Z8) :
  Ca 146 #[.agg #[.bool s, .slice A n c]] w fun e w' => e = .returned (.tuple #[.int .i64 (Zab x), .bool (Z18 x)]) ∧ Ext w w' := by
 cases hb : Z18 x with
 | true => unfold Zab; rw [if_pos hb]; exact ZH s A n c x w h hs hb
 | false => unfold Zab; rw [if_neg (by rw [hb]; decide)]; exact Z4h s A n c x w h hs hb
theorem Z68 (s1 : Bool) (A1 : Option Addr) (n1 c1 : Nat) (x : Int) (w : World) (h1 : IAt w s1 A1 n1 c1 x) (hs1 : n1 ≤ Z8) :
  Ca 101 #[.agg #[.bool s1, .slice A1 n1 c1]] w (Z1F w (-x)) := by
 have H1 := zH h1
 clear h1
 have HS := zH H1.out.svn
 go_enter func101, ntmps101
 go_wp2_with (first | (go_at_call 75; (with_reducible refine (Zf s1 A1 n1 c1 x _ (H1.out.ext EX) hs1).mono ?_); rintro e w1 ⟨rfl, hbw1⟩; (try clear hc hf); obtain ⟨hBw1, hc, hf⟩ := EC2 w1 w) | (go_at_call 164; (with_reducible refine (Zz (!s1) _ _ _ _ _ (H1.out.rep.ext EX) hs1).mono ?_); rw [HS.out]; rintro e w2 ⟨sw2, Aw2, nw2, cw2, rfl, hIw2, hbw2⟩; (try clear hc hf); obtain ⟨hBw2, hc, hf⟩ := EC2 w2 w))
 refine bodyPost_ret (v := .agg #[.bool sw2, .slice Aw2 nw2 cw2]) (by simp [results, results101, go_sem, hc, hf]) rfl ⟨_, _, _, _, rfl, IAt.keep hIw2 KP, EX⟩
theorem Z6a (s1 : Bool) (A1 : Option Addr) (n1 c1 : Nat) (x : Int) (w : World) (h1 : IAt w s1 A1 n1 c1 x) (hs1 : n1 ≤ Z8) :
  Ca 145 #[.agg #[.bool s1, .slice A1 n1 c1]] w (Z1F w (x.natAbs : Nat)) := by
 have H1 := zH h1
 clear h1
 have HS := zH (show sgd false (val (Z7 x.natAbs)) = ((x.natAbs : Nat) : Int) by rw [Z9]; rfl)
 go_enter func145, ntmps145
 go_wp2_with (first | (go_at_call 75; (with_reducible refine (Zf s1 A1 n1 c1 x _ (H1.out.ext EX) hs1).mono ?_); rintro e w1 ⟨rfl, hbw1⟩; (try clear hc hf); obtain ⟨hBw1, hc, hf⟩ := EC2 w1 w) | (go_at_call 164; (with_reducible refine (Zz false _ _ _ _ _ (H1.out.rep.ext EX) hs1).mono ?_); rw [HS.out]; rintro e w2 ⟨sw2, Aw2, nw2, cw2, rfl, hIw2, hbw2⟩; (try clear hc hf); obtain ⟨hBw2, hc, hf⟩ := EC2 w2 w))
 refine bodyPost_ret (v := .agg #[.bool sw2, .slice Aw2 nw2 cw2]) (by simp [results, results145, go_sem, hc, hf]) rfl ⟨_, _, _, _, rfl, IAt.keep hIw2 KP, EX⟩
theorem Z69 (s1 s2 : Bool) (A1 A2 : Option Addr) (n1 c1 n2 c2 : Nat) (x y : Int) (w : World) (h1 : IAt w s1 A1 n1 c1 x) (h2 : IAt w s2 A2 n2 c2 y) (hs1 : n1 < Z8) (hs2 : n2 < Z8) :
  Ca 90 #[.agg #[.bool s1, .slice A1 n1 c1], .agg #[.bool s2, .slice A2 n2 c2]] w fun e w' => e = .returned (.int .i64 (Z47 x y)) ∧ Ext w w' := by
 have hs1' : n1 ≤ Z8 := by omega
 have hs2' : n2 ≤ Z8 := by omega
 have e1 := h1.sgn
 have e2 := h2.sgn
 obtain ⟨cc, hcc⟩ : ∃ x', Z1g x.natAbs y.natAbs = x' := ⟨_, rfl⟩
 have HC : Hid (Z1g (val (Z7 x.natAbs)) (val (Z7 y.natAbs)) = cc) := by show _ = _; rw [Z9, Z9, hcc]
 have hbd : -1 ≤ cc ∧ cc ≤ 1 := by rw [← hcc]; unfold Z1g; split <;> (try split) <;> omega
 have HR : Hid (Z47 x y = if s1 then (if s2 then -cc else -1) else (if s2 then 1 else cc)) := by
  show _ = _
  rw [e1, e2, ← hcc]
  unfold Z47 Z1g
  by_cases hx : x < 0 <;> by_cases hy : y < 0 <;> simp [hx, hy] <;> (repeat' split) <;> omega
 obtain ⟨hb1, hb2⟩ := hbd
 have H1 := zH h1
 have H2 := zH h2
 clear h1 h2 e1 e2 hcc
 by_cases hss : s1 = s2
 ·subst hss
  go_enter func90, ntmps90
  have HSS := zH hs1'
  go_wp2_with (
   first
   | (go_at_call 75; (with_reducible refine (Zf s1 A1 n1 c1 x _ (H1.out.ext EX) hs1').mono ?_); rintro e w1 ⟨rfl, hbw1⟩; (try clear hc hf); obtain ⟨hBw1, hc, hf⟩ := EC2 w1 w)
   | (go_at_call 75; (with_reducible refine (Zf s1 A2 n2 c2 y _ (H2.out.ext EX) hs2').mono ?_); rintro e w2 ⟨rfl, hbw2⟩; (try clear hc hf); obtain ⟨hBw2, hc, hf⟩ := EC2 w2 w)
   | (go_at_call 163; (with_reducible refine (Z0J A1 A2 n1 c1 n2 c2 _ _ _ (H1.out.rep.ext EX) (H2.out.rep.ext EX) hs1' hs2' (Zb _) (Zb _)).mono ?_); rw [HC.out]; rintro e w3 ⟨rfl, hbw3⟩; (try clear hc hf); obtain ⟨hBw3, hc, hf⟩ := EC2 w3 w))
  all_goals go_ret
  all_goals refine ⟨ZY ?_, EX⟩
  all_goals rw [HR.out]
  all_goals simp_all
 ·have hne : (!s1 == s2) = true := by cases s1 <;> cases s2 <;> simp_all
  have HS := zH hss
  clear hss
  go_enter func90, ntmps90
  have hne2 : (s1 != s2) = true := by cases s1 <;> cases s2 <;> simp_all
  go_wp2_with (
   first
   | (go_at_call 75; (with_reducible refine (Zf s1 A1 n1 c1 x _ (H1.out.ext EX) hs1').mono ?_); rintro e w1 ⟨rfl, hbw1⟩; (try clear hc hf); obtain ⟨hBw1, hc, hf⟩ := EC2 w1 w)
   | (go_at_call 75; (with_reducible refine (Zf s2 A2 n2 c2 y _ (H2.out.ext EX) hs2').mono ?_); rintro e w2 ⟨rfl, hbw2⟩; (try clear hc hf); obtain ⟨hBw2, hc, hf⟩ := EC2 w2 w))
  all_goals go_ret
  all_goals refine ⟨ZY ?_, EX⟩
  all_goals rw [HR.out]
  all_goals cases s1 <;> cases s2 <;> simp_all
theorem Z4m {a k : Nat} (h : a < B32 ^ k) : (Z7 a).length ≤ k := Z0A h
theorem Z5q (a : Nat) : a < B32 ^ (Z7 a).length := Z0H (Nat.le_refl _)
theorem Z3A {a b : Nat} (h : a ≤ b) : (Z7 a).length ≤ (Z7 b).length := Z4m (Nat.lt_of_le_of_lt h (Z5q b))
theorem Z96 (a b : Nat) : (Z7 (a + b)).length ≤ max (Z7 a).length (Z7 b).length + 1 := Z4m (by
 rw [Nat.pow_succ]
 exact Z9m (Nat.lt_of_lt_of_le (Z5q a) (Z2J (Nat.le_max_left _ _))) (Nat.lt_of_lt_of_le (Z5q b) (Z2J (Nat.le_max_right _ _))))
theorem Z3G (a b : Nat) : (Z7 (a - b)).length ≤ (Z7 a).length := Z3A (Nat.sub_le _ _)
theorem Zbr (a b : Nat) : (Z7 (a * b)).length ≤ (Z7 a).length + (Z7 b).length := Z4m (by rw [Nat.pow_add]; exact Nat.mul_lt_mul'' (Z5q a) (Z5q b))
theorem Z5m (s1 s2 : Bool) (A1 A2 : Option Addr) (n1 c1 n2 c2 : Nat) (x y : Int) (w : World) (h1 : IAt w s1 A1 n1 c1 x) (h2 : IAt w s2 A2 n2 c2 y) (hs1 : n1 < Z8) (hs2 : n2 < Z8) (hb1 : Z18 x = true) (hb2 : Z18 y = true) :
  Ca 102 #[.agg #[.bool s1, .slice A1 n1 c1], .agg #[.bool s2, .slice A2 n2 c2]] w (Z1F w (x + y)) := by
 have H1 := zH h1
 have H2 := zH h2
 have hs1' : n1 ≤ Z8 := by omega
 have hs2' : n2 ≤ Z8 := by omega
 have g1 := of_decide_eq_true hb1
 have g2 := of_decide_eq_true hb2
 have HB1 := zH hb1
 have HB2 := zH hb2
 have x0 : (-4611686018427387904 : Int) < x := by omega
 have x1 : x < (4611686018427387904 : Int) := by omega
 have y0 : (-4611686018427387904 : Int) < y := by omega
 have y1 : y < (4611686018427387904 : Int) := by omega
 clear h1 h2 hb1 hb2 g1 g2
 go_enter func102, ntmps102
 go_wp2_with (
  first
  | (go_at_call 75; (with_reducible refine (Zf s1 A1 n1 c1 x _ (H1.out.ext EX) hs1').mono ?_); rintro e w1 ⟨rfl, hbw1⟩; (try clear hc hf); obtain ⟨hBw1, hc, hf⟩ := EC3 w1 w)
  | (go_at_call 75; (with_reducible refine (Zf s2 A2 n2 c2 y _ (H2.out.ext EX) hs2').mono ?_); rintro e w2 ⟨rfl, hbw2⟩; (try clear hc hf); obtain ⟨hBw2, hc, hf⟩ := EC3 w2 w)
  | (go_at_call 146; (with_reducible refine (ZH s1 A1 n1 c1 x _ (H1.out.ext EX) hs1' HB1.out).mono ?_); rintro e w3 ⟨rfl, hbw3⟩; (try clear hc hf); obtain ⟨hBw3, hc, hf⟩ := EC3 w3 w)
  | (go_at_call 146; (with_reducible refine (ZH s2 A2 n2 c2 y _ (H2.out.ext EX) hs2' HB2.out).mono ?_); rintro e w4 ⟨rfl, hbw4⟩; (try clear hc hf); obtain ⟨hBw4, hc, hf⟩ := EC3 w4 w)
  | (go_at_call 93; (with_reducible refine (Zv (x + y) _ (by omega) (by omega)).mono ?_); rintro e w5 ⟨sw5, Aw5, nw5, cw5, rfl, hIw5, hbw5⟩; (try clear hc hf); obtain ⟨hBw5, hc, hf⟩ := EC3 w5 w))
 refine bodyPost_ret (v := .agg #[.bool sw5, .slice Aw5 nw5 cw5]) (by simp [results, results102, go_sem, hc, hf]) rfl ⟨_, _, _, _, rfl, IAt.keep hIw5 KP, EX⟩
theorem Z76 (s1 s2 : Bool) (A1 A2 : Option Addr) (n1 c1 n2 c2 : Nat) (x y : Int) (w : World) (h1 : IAt w s1 A1 n1 c1 x) (h2 : IAt w s2 A2 n2 c2 y) (hs1 : n1 < Z8) (hs2 : n2 < Z8) (hb : (Z18 x && Z18 y) = false) :
  Ca 102 #[.agg #[.bool s1, .slice A1 n1 c1], .agg #[.bool s2, .slice A2 n2 c2]] w (Z1F w (x + y)) := by
 have H1 := zH h1
 have H2 := zH h2
 have hs1' : n1 ≤ Z8 := by omega
 have hs2' : n2 ≤ Z8 := by omega
 have V1 := zH h1.sv
 have V2 := zH h2.sv
 have NX := zH (fun W (k : IAt W s1 A1 n1 c1 x) => ZM s1 A1 n1 c1 x W k hs1')
 have NY := zH (fun W (k : IAt W s2 A2 n2 c2 y) => ZM s2 A2 n2 c2 y W k hs2')
 obtain ⟨b1, hb1⟩ : ∃ b, Z18 x = b := ⟨_, rfl⟩
 obtain ⟨b2, hb2⟩ : ∃ b, Z18 y = b := ⟨_, rfl⟩
 rw [hb1] at NX hb
 rw [hb2] at NY hb
 have T1 := zH (Zb x.natAbs)
 have T2 := zH (Zb y.natAbs)
 have HL1 := zH h1.wl
 have HL2 := zH h2.wl
 clear h1 h2 hb1 hb2
 by_cases hss : s1 = s2
 ·subst hss
  go_enter func102, ntmps102
  go_wp2_with (
   first
   | (go_at_call 75; (with_reducible refine (Zf s1 A1 n1 c1 x _ (H1.out.ext EX) hs1').mono ?_); rintro e w1 ⟨rfl, hbw1⟩; (try clear hc hf); obtain ⟨hBw1, hc, hf⟩ := EC3 w1 w)
   | (go_at_call 75; (with_reducible refine (Zf s1 A2 n2 c2 y _ (H2.out.ext EX) hs2').mono ?_); rintro e w2 ⟨rfl, hbw2⟩; (try clear hc hf); obtain ⟨hBw2, hc, hf⟩ := EC3 w2 w)
   | (go_at_call 146; (with_reducible refine (NX.out _ (H1.out.ext EX)).mono ?_); rintro e w3 ⟨rfl, hbw3⟩; (try clear hc hf); obtain ⟨hBw3, hc, hf⟩ := EC3 w3 w)
   | (go_at_call 146; (with_reducible refine (NY.out _ (H2.out.ext EX)).mono ?_); rintro e w4 ⟨rfl, hbw4⟩; (try clear hc hf); obtain ⟨hBw4, hc, hf⟩ := EC3 w4 w)
   | (go_at_call 93; exfalso; revert hb; simp [*]; done))
  all_goals go_region_held3 (fun w' => zC w' w.heap.size 0 (.bool s1) ∧ zC w' w.heap.size 1 (.slice A1 n1 c1) ∧ zC w' (w.heap.size + 1) 0 (.bool s1) ∧ zC w' (w.heap.size + 1) 1 (.slice A2 n2 c2)) (simp [go_sem, hc]) (first | (go_at_call 175; (with_reducible refine (Z2z A1 A2 n1 c1 n2 c2 _ _ _ (H1.out.rep.ext EX) (H2.out.rep.ext EX) hs1 hs2).mono ?_); rintro e w5 ⟨Aw5, nw5, cw5, rfl, hIw5, hbw5⟩; (try clear hc hf); obtain ⟨hBw5, hc, hf⟩ := EC3 w5 w) | (go_at_call 164; (with_reducible refine (Zz s1 Aw5 nw5 cw5 _ _ (hIw5.ext EX) (by have a := hIw5.len; have b := Z96 (val (Z7 x.natAbs)) (val (Z7 y.natAbs)); rw [Z9, Z9] at b a; have c := HL1.out; have d := HL2.out; rw [Z70] at c d; omega)).mono ?_); rintro e w6 ⟨sw6, Aw6, nw6, cw6, rfl, hIw6, hbw6⟩; (try clear hc hf); obtain ⟨hBw6, hc, hf⟩ := EC3 w6 w))
  all_goals go_wp2
  all_goals rw [Z9, ← Z4E, V1.out, V2.out] at hIw6
  all_goals refine bodyPost_ret (v := .agg #[.bool sw6, .slice Aw6 nw6 cw6]) (by simp [results, results102, go_sem, hc, hf]) rfl ⟨_, _, _, _, rfl, IAt.keep hIw6 KP, EX⟩
 ·have hne : (s1 == s2) = false := by cases s1 <;> cases s2 <;> simp_all
  have hs2e : s2 = !s1 := by cases s1 <;> cases s2 <;> simp_all
  have HS2 := zH hs2e
  clear hs2e hss
  obtain ⟨v1, hv1⟩ : ∃ v, val (Z7 x.natAbs) = v := ⟨_, rfl⟩
  obtain ⟨v2, hv2⟩ : ∃ v, val (Z7 y.natAbs) = v := ⟨_, rfl⟩
  have U1 := zH hv1
  have U2 := zH hv2
  have HC := zH (fun W (k1 : WAt W A1 n1 c1 (Z7 x.natAbs)) (k2 : WAt W A2 n2 c2 (Z7 y.natAbs)) => Z0J A1 A2 n1 c1 n2 c2 _ _ W k1 k2 hs1' hs2' T1.out T2.out)
  rw [hv1, hv2] at HC
  rw [hv1] at V1
  rw [hv2] at V2
  by_cases hle : v2 ≤ v1
  ·obtain ⟨cc, hcc⟩ : ∃ x, Z1g v1 v2 = x := ⟨_, rfl⟩
   have hc0 : 0 ≤ cc := hcc ▸ Z28 hle
   rw [hcc] at HC
   have HLE := zH hle
   clear hcc hv1 hv2 hle
   go_enter func102, ntmps102
   go_wp2_with (
    first
    | (go_at_call 75; (with_reducible refine (Zf s1 A1 n1 c1 x _ (H1.out.ext EX) hs1').mono ?_); rintro e w1 ⟨rfl, hbw1⟩; (try clear hc hf); obtain ⟨hBw1, hc, hf⟩ := EC3 w1 w)
    | (go_at_call 75; (with_reducible refine (Zf s2 A2 n2 c2 y _ (H2.out.ext EX) hs2').mono ?_); rintro e w2 ⟨rfl, hbw2⟩; (try clear hc hf); obtain ⟨hBw2, hc, hf⟩ := EC3 w2 w)
    | (go_at_call 146; (with_reducible refine (NX.out _ (H1.out.ext EX)).mono ?_); rintro e w3 ⟨rfl, hbw3⟩; (try clear hc hf); obtain ⟨hBw3, hc, hf⟩ := EC3 w3 w)
    | (go_at_call 146; (with_reducible refine (NY.out _ (H2.out.ext EX)).mono ?_); rintro e w4 ⟨rfl, hbw4⟩; (try clear hc hf); obtain ⟨hBw4, hc, hf⟩ := EC3 w4 w)
    | (go_at_call 93; exfalso; revert hb; simp [*]; done)
    | (go_at_call 163; (with_reducible refine (HC.out _ (H1.out.rep.ext EX) (H2.out.rep.ext EX)).mono ?_); rintro e w7 ⟨rfl, hbw7⟩; (try clear hc hf); obtain ⟨hBw7, hc, hf⟩ := EC3 w7 w))
   all_goals go_region_held3 (fun w' => zC w' w.heap.size 0 (.bool s1) ∧ zC w' w.heap.size 1 (.slice A1 n1 c1) ∧ zC w' (w.heap.size + 1) 0 (.bool s2) ∧ zC w' (w.heap.size + 1) 1 (.slice A2 n2 c2)) (simp [go_sem, hc]) (first | (go_at_call 176; (with_reducible refine (Z1G A1 A2 n1 c1 n2 c2 _ _ _ (H1.out.rep.ext EX) (H2.out.rep.ext EX) hs1 hs2 T2.out (by rw [U1.out, U2.out]; exact HLE.out)).mono ?_); rintro e w5 ⟨Aw5, nw5, cw5, rfl, hIw5, hbw5⟩; (try clear hc hf); obtain ⟨hBw5, hc, hf⟩ := EC3 w5 w) | (go_at_call 164; (with_reducible refine (Zz s1 Aw5 nw5 cw5 _ _ (hIw5.ext EX) (by have a := hIw5.len; have b := Z3G (val (Z7 x.natAbs)) (val (Z7 y.natAbs)); rw [Z9, Z9] at b a; have c := HL1.out; rw [Z70] at c; omega)).mono ?_); rintro e w6 ⟨sw6, Aw6, nw6, cw6, rfl, hIw6, hbw6⟩; (try clear hc hf); obtain ⟨hBw6, hc, hf⟩ := EC3 w6 w))
   all_goals go_wp2
   all_goals rw [Z9, U1.out, U2.out, ← Z6J s1 v1 v2 HLE.out, ← HS2.out, V1.out, V2.out] at hIw6
   all_goals refine bodyPost_ret (v := .agg #[.bool sw6, .slice Aw6 nw6 cw6]) (by simp [results, results102, go_sem, hc, hf]) rfl ⟨_, _, _, _, rfl, IAt.keep hIw6 KP, EX⟩
  ·obtain ⟨cc, hcc⟩ : ∃ x, Z1g v1 v2 = x := ⟨_, rfl⟩
   have hc0 : cc < 0 := hcc ▸ Z2K (by omega)
   rw [hcc] at HC
   have HLE := zH (show v1 ≤ v2 by omega)
   clear hcc hv1 hv2 hle
   go_enter func102, ntmps102
   go_wp2_with (
    first
    | (go_at_call 75; (with_reducible refine (Zf s1 A1 n1 c1 x _ (H1.out.ext EX) hs1').mono ?_); rintro e w1 ⟨rfl, hbw1⟩; (try clear hc hf); obtain ⟨hBw1, hc, hf⟩ := EC3 w1 w)
    | (go_at_call 75; (with_reducible refine (Zf s2 A2 n2 c2 y _ (H2.out.ext EX) hs2').mono ?_); rintro e w2 ⟨rfl, hbw2⟩; (try clear hc hf); obtain ⟨hBw2, hc, hf⟩ := EC3 w2 w)
    | (go_at_call 146; (with_reducible refine (NX.out _ (H1.out.ext EX)).mono ?_); rintro e w3 ⟨rfl, hbw3⟩; (try clear hc hf); obtain ⟨hBw3, hc, hf⟩ := EC3 w3 w)
    | (go_at_call 146; (with_reducible refine (NY.out _ (H2.out.ext EX)).mono ?_); rintro e w4 ⟨rfl, hbw4⟩; (try clear hc hf); obtain ⟨hBw4, hc, hf⟩ := EC3 w4 w)
    | (go_at_call 93; exfalso; revert hb; simp [*]; done)
    | (go_at_call 163; (with_reducible refine (HC.out _ (H1.out.rep.ext EX) (H2.out.rep.ext EX)).mono ?_); rintro e w7 ⟨rfl, hbw7⟩; (try clear hc hf); obtain ⟨hBw7, hc, hf⟩ := EC3 w7 w))
   all_goals go_region_held3 (fun w' => zC w' w.heap.size 0 (.bool s1) ∧ zC w' w.heap.size 1 (.slice A1 n1 c1) ∧ zC w' (w.heap.size + 1) 0 (.bool s2) ∧ zC w' (w.heap.size + 1) 1 (.slice A2 n2 c2)) (simp [go_sem, hc]) (first | (go_at_call 176; (with_reducible refine (Z1G A2 A1 n2 c2 n1 c1 _ _ _ (H2.out.rep.ext EX) (H1.out.rep.ext EX) hs2 hs1 T1.out (by rw [U1.out, U2.out]; exact HLE.out)).mono ?_); rintro e w5 ⟨Aw5, nw5, cw5, rfl, hIw5, hbw5⟩; (try clear hc hf); obtain ⟨hBw5, hc, hf⟩ := EC3 w5 w) | (go_at_call 164; (with_reducible refine (Zz s2 Aw5 nw5 cw5 _ _ (hIw5.ext EX) (by have a := hIw5.len; have b := Z3G (val (Z7 y.natAbs)) (val (Z7 x.natAbs)); rw [Z9, Z9] at b a; have c := HL2.out; rw [Z70] at c; omega)).mono ?_); rintro e w6 ⟨sw6, Aw6, nw6, cw6, rfl, hIw6, hbw6⟩; (try clear hc hf); obtain ⟨hBw6, hc, hf⟩ := EC3 w6 w))
   all_goals go_wp2
   all_goals have hfin : sgd s2 (v2 - v1) = sgd s1 v1 + sgd s2 v2 := (by rw [HS2.out, Z57 s1 v1 v2 HLE.out])
   all_goals rw [Z9, U1.out, U2.out, hfin, V1.out, V2.out] at hIw6
   all_goals refine bodyPost_ret (v := .agg #[.bool sw6, .slice Aw6 nw6 cw6]) (by simp [results, results102, go_sem, hc, hf]) rfl ⟨_, _, _, _, rfl, IAt.keep hIw6 KP, EX⟩
theorem Z40 (s1 s2 : Bool) (A1 A2 : Option Addr) (n1 c1 n2 c2 : Nat) (x y : Int) (w : World) (h1 : IAt w s1 A1 n1 c1 x) (h2 : IAt w s2 A2 n2 c2 y) (hs1 : n1 < Z8) (hs2 : n2 < Z8) :
  Ca 102 #[.agg #[.bool s1, .slice A1 n1 c1], .agg #[.bool s2, .slice A2 n2 c2]] w (Z1F w (x + y)) := by
 by_cases hb : (Z18 x && Z18 y) = false
 ·exact Z76 s1 s2 A1 A2 n1 c1 n2 c2 x y w h1 h2 hs1 hs2 hb
 ·have hb' : Z18 x = true ∧ Z18 y = true := by simpa using hb
  exact Z5m s1 s2 A1 A2 n1 c1 n2 c2 x y w h1 h2 hs1 hs2 hb'.1 hb'.2
theorem ZT (s1 s2 : Bool) (A1 A2 : Option Addr) (n1 c1 n2 c2 : Nat) (x y : Int) (w : World) (h1 : IAt w s1 A1 n1 c1 x) (h2 : IAt w s2 A2 n2 c2 y) (hs : n1 + n2 < Z8) :
  Ca 91 #[.agg #[.bool s1, .slice A1 n1 c1], .agg #[.bool s2, .slice A2 n2 c2]] w (Z1F w (x * y)) := by
 have HV : Hid (sgd (!s1 == s2) (val (Z7 x.natAbs) * val (Z7 y.natAbs)) = x * y) := by show _ = _; rw [Z93, h1.sv, h2.sv]
 have H1 := zH h1
 have H2 := zH h2
 have hs1' : n1 ≤ Z8 := by omega
 have hs2' : n2 ≤ Z8 := by omega
 have V1 := zH h1.sv
 have V2 := zH h2.sv
 have HL1 := zH h1.wl
 have HL2 := zH h2.wl
 clear h1 h2
 obtain ⟨sb, hsb⟩ : ∃ b, (!s1 == s2) = b := ⟨_, rfl⟩
 rw [hsb] at HV
 go_enter func91, ntmps91
 go_wp2_with (
  first
  | (go_at_call 75; (with_reducible refine (Zf s1 A1 n1 c1 x _ (H1.out.ext EX) hs1').mono ?_); rintro e w1 ⟨rfl, hbw1⟩; (try clear hc hf); obtain ⟨hBw1, hc, hf⟩ := EC3 w1 w)
  | (go_at_call 75; (with_reducible refine (Zf s2 A2 n2 c2 y _ (H2.out.ext EX) hs2').mono ?_); rintro e w2 ⟨rfl, hbw2⟩; (try clear hc hf); obtain ⟨hBw2, hc, hf⟩ := EC3 w2 w))
 go_region_held3 (fun w' => zC w' w.heap.size 0 (.bool s1) ∧ zC w' w.heap.size 1 (.slice A1 n1 c1) ∧ zC w' (w.heap.size + 1) 0 (.bool s2) ∧ zC w' (w.heap.size + 1) 1 (.slice A2 n2 c2)) (simp [go_sem, hc]) (first | (go_at_call 165; (with_reducible refine (Z4x A1 A2 n1 c1 n2 c2 _ _ _ (H1.out.rep.ext EX) (H2.out.rep.ext EX) (by omega)).mono ?_); rintro e w3 ⟨Aw3, nw3, cw3, rfl, hIw3, hbw3⟩; (try clear hc hf); obtain ⟨hBw3, hc, hf⟩ := EC3 w3 w) | (go_at_call 164; (with_reducible refine (Zz sb Aw3 nw3 cw3 _ _ (hIw3.ext EX) (by have a := hIw3.len; have b := Zbr (val (Z7 x.natAbs)) (val (Z7 y.natAbs)); rw [Z9, Z9] at b a; have c := HL1.out; have d := HL2.out; rw [Z70] at c d; omega)).mono ?_); rintro e w4 ⟨sw4, Aw4, nw4, cw4, rfl, hIw4, hbw4⟩; (try clear hc hf); obtain ⟨hBw4, hc, hf⟩ := EC3 w4 w))
 go_wp2
 rw [Z9, HV.out] at hIw4
 refine bodyPost_ret (v := .agg #[.bool sw4, .slice Aw4 nw4 cw4]) (by simp [results, results91, go_sem, hc, hf]) rfl ⟨_, _, _, _, rfl, IAt.keep hIw4 KP, EX⟩
structure Row (w : World) (g n c : Nat) (l : List Nat) : Prop where
 blk : ∃ cur : Array Value, w.heap[g]? = some (.cells cur 131 (0, 0)) ∧ cur.size = c ∧ cur.toList.take n = l.map wv
 len : l.length = n
 cap : n ≤ c
 ok : WOk l
theorem Row.lt {w : World} {g n c : Nat} {l : List Nat} (h : Row w g n c l) : g < w.heap.size := by
 obtain ⟨cur, h1, _⟩ := h.blk; exact (Array.getElem?_eq_some_iff.1 h1).1
theorem Row.ext {w w' : World} {g n c : Nat} {l : List Nat} (h : Row w g n c l) (k : Ext w w') : Row w' g n c l := by
 obtain ⟨cur, h1, h2⟩ := h.blk
 exact ⟨⟨cur, (k.below.block g (Array.getElem?_eq_some_iff.1 h1).1).trans h1, h2⟩, h.len, h.cap, h.ok⟩
theorem Row.other {w : World} {g n c : Nat} {l : List Nat} (h : Row w g n c l) {p : Addr} (hp : p.block ≠ g) (u : Value) : Row (w.setCell p u) g n c l := by
 obtain ⟨cur, h1, h2⟩ := h.blk
 exact ⟨⟨cur, (Below.heap_setCell w p u g (fun e => hp e.symm)).trans h1, h2⟩, h.len, h.cap, h.ok⟩
theorem Row.drewN {w : World} {g n c : Nat} {l : List Nat} (h : Row w g n c l) (q : Nat) : Row (w.drewN q) g n c l := h.ext ((Ext.refl w).drewN q)
theorem Row.drew {w : World} {g n c : Nat} {l : List Nat} (h : Row w g n c l) : Row w.drew g n c l := h.ext (Ext.refl w).drew
theorem Row.elem {w : World} {g n c : Nat} {l : List Nat} (h : Row w g n c l) (cur : Array Value) (h1 : cur.toList.take n = l.map wv) (j : Nat) (hj : j < n) : cur[j]? = some (.int .u32 ((l.getD j 0 : Nat) : Int)) := by
 have hl := h.len
 have : (cur.toList.take n)[j]? = some (wv (l.getD j 0)) := by
  rw [h1, List.getElem?_map, List.getD_eq_getElem?_getD, List.getElem?_eq_getElem (by omega)]; rfl
 rw [List.getElem?_take_of_lt hj] at this
 simpa [wv] using this
theorem Row.cell {w : World} {g n c : Nat} {l : List Nat} (h : Row w g n c l) (j : Nat) (hj : j < n) : w.cell? ⟨g, j, none⟩ = some (.int .u32 ((l.getD j 0 : Nat) : Int)) := by
 obtain ⟨cur, h1, h2, h3⟩ := h.blk
 simp only [World.cell?, h1]
 exact h.elem cur h3 j hj
theorem Row.frozen {w : World} {g n c : Nat} {l : List Nat} (h : Row w g n c l) (j : Nat) : w.frozen? ⟨g, j, none⟩ = false := by
 obtain ⟨cur, h1, _⟩ := h.blk
 simp [World.frozen?, h1]
theorem Row.set {w : World} {g n c : Nat} {l : List Nat} (h : Row w g n c l) (j x : Nat) (hx : x < B32) : Row (w.setCell ⟨g, j, none⟩ (.int .u32 (x : Int))) g n c (l.set j x) := by
 obtain ⟨cur, h1, h2, h3⟩ := h.blk
 refine ⟨⟨cur.setIfInBounds j (.int .u32 (x : Int)), ?_, by simp [h2], ?_⟩, by rw [List.length_set, h.len], h.cap, h.ok.set _ _ hx⟩
 ·simp [World.setCell, Array.getElem?_modify, h1]
 ·rw [Array.toList_setIfInBounds, List.take_set, h3, List.map_set]; rfl
theorem Row.wat {w : World} {g n c : Nat} {l : List Nat} (h : Row w g n c l) : WAt w (some ⟨g, 0, none⟩) n c l :=
 ⟨h.len.symm, ⟨fun _ => ⟨g, 0, rfl, fun j hj => by rw [Nat.zero_add]; exact h.cell j (by rw [← h.len]; exact hj)⟩, by rw [h.len]; exact h.cap, h.ok⟩⟩
theorem Row.own {w : World} {g n c : Nat} {l : List Nat} (h : Row w g n c l) (base : Nat) (hb : base ≤ g) (hc : c ≤ maxLen) : Own w base (some ⟨g, 0, none⟩) n c l := by
 obtain ⟨cur, h1, h2, h3⟩ := h.blk
 exact ⟨⟨by rw [List.length_map, h.len, Nat.mul_one], .inr ⟨g, c, cur, rfl, hb, h1, h.cap, hc, by rw [h2, Nat.mul_one], by rw [Nat.mul_one]; exact h3⟩⟩, h.ok⟩
theorem Own.row' {w : World} {base : Nat} {A : Option Addr} {n c : Nat} {l : List Nat} (h : Own w base A n c l) (hn : 0 < n) : ∃ g, A = some ⟨g, 0, none⟩ ∧ base ≤ g ∧ Row w g n c l := by
 rcases h.row.2 with ⟨e1, e2⟩ | ⟨g, cap, cur, e1, e2, e3, e4, e5, e6, e7⟩
 ·omega
 ·cases e1
  exact ⟨g, rfl, e2, ⟨cur, e3, by rw [e6, Nat.mul_one], by rw [← e7, Nat.mul_one]⟩, h.len.symm, e4, h.ok⟩
theorem Blk.row {w : World} {g : Nat} {l : List Nat} (h : Blk w g l) (ho : WOk l) (n c : Nat) (hc : l.length = c) (hn : n ≤ c) : Row w g n c (l.take n) := by
 refine ⟨⟨(l.map wv).toArray, h, by simp [hc], by simp⟩, by rw [List.length_take]; omega, hn, ho.take n⟩
theorem Z7x (A : Option Addr) (n c : Nat) (l : List Nat) (w : World) (h : WAt w A n c l) (hs : n ≤ Z8) (hA : A ≠ none) :
  Ca 224 #[.slice A n c] w fun e w' => ∃ m, e = .returned (.slice A m c) ∧ m ≤ n ∧ l.take m = Z7 (val l) ∧ WAt w A m c (Z7 (val l)) ∧ w = w' := by
 unfold Z8 at hs
 have hcap := h.rep.cap
 have hlen := h.len
 have hcn : n ≤ c := by omega
 have HL := zH hlen
 have HOK := zH h.rep.ok
 have H0 : Hid (val (l.drop n) = 0) := by show _ = _; rw [List.drop_of_length_le (by omega)]; rfl
 have HF : ∀ m, m ≤ n → val (l.drop m) = 0 → (m = 0 ∨ l.getD (m - 1) 0 ≠ 0) → m ≤ n ∧ l.take m = Z7 (val l) ∧ WAt w A m c (Z7 (val l)) := fun m hm hz ht => by
  refine ⟨hm, Z2h h.rep.ok m (by omega) hz ht, ?_⟩
  rw [← Z2h h.rep.ok m (by omega) hz ht]
  refine ⟨by rw [List.length_take]; omega, ⟨fun hl => ?_, by rw [List.length_take]; omega, h.rep.ok.take m⟩⟩
  rw [List.length_take] at hl
  obtain ⟨b, off, rfl, hc⟩ := h.rep.words (by omega)
  refine ⟨b, off, rfl, fun j hj => ?_⟩
  rw [List.length_take] at hj
  rw [hc j (by omega)]
  simp only [List.getD_eq_getElem?_getD]
  rw [List.getElem?_take_of_lt (by omega)]
 have HF := zH HF
 have H := zH h
 clear h hcap hlen
 cases A with
 | none => exact absurd rfl hA
 | some a =>
  clear hA
  go_enter func224, ntmps224
  go_wp2_with fail
  go_loop [3] (fun i => ∃ m : Nat, m ≤ n ∧ i = .int .i64 (m : Int) ∧ Hid (val (l.drop m) = 0)) (fun i => (intOf i).toNat)
  case atStart => exact ⟨n, Nat.le_refl _, rfl, H0⟩
  case round =>
   obtain ⟨m, hm, rfl, hv⟩ := hrel
   have hmc : m ≤ c := by omega
   by_cases hm0 : m = 0
   ·subst hm0
    go_wp2
    go_ret
    have hh := HF.out 0 (by omega) hv.out (.inl rfl)
    exact ⟨_, rfl, hh.1, hh.2.1, hh.2.2, rfl⟩
   ·obtain ⟨k, rfl⟩ : ∃ k, m = k + 1 := ⟨m - 1, by omega⟩
    clear hm0
    obtain ⟨b, off, e, hb, hc⟩ := H.out.at (by omega)
    cases e
    have g := hc k (by omega)
    obtain ⟨x, hx⟩ : ∃ x, l.getD k 0 = x := ⟨_, rfl⟩
    rw [hx] at g
    have HX := zH hx
    clear hx hc
    have em : ((k + 1 : Nat) : Int) - 1 = k := by omega
    have hk : k < n := by omega
    by_cases hx0 : x = 0
    ·subst hx0
     have hv' : Hid (val (l.drop k) = 0) := by
      show _ = _
      rw [ZR l k (by have := HL.out; omega), HX.out, hv.out]; rfl
     go_wp2
     go_round
     case rel => exact ⟨k, by omega, by simp, hv'⟩
     case measure => simp [intOf]
    ·have hq : ((x : Int) == 0) = false := by simp; omega
     have HQ := zH hx0
     clear hx0
     go_wp2
     go_ret
     have hh := HF.out (k + 1) (by omega) hv.out (.inr (by rw [Nat.add_sub_cancel, HX.out]; exact HQ.out))
     exact ⟨_, rfl, hh.1, hh.2.1, hh.2.2, rfl⟩
def Zdq (w : World) (l : List Nat) (e : Ending) (w' : World) : Prop := ∃ A n c, e = .returned (.slice A n c) ∧ Own w' w.heap.size A n c l ∧ Ext w w'
theorem Z4w (A : Option Addr) (n c k : Nat) (l : List Nat) (w : World) (h : WAt w A n c l) (hs : n < Z8) (hk : k < 32) :
  Ca 277 #[.slice A n c, .int .i64 (k : Int)] w (Zdq w (Z7 (val l * 2 ^ k))) := by
 unfold Z8 at hs
 have H := zH h
 clear h
 have hmk := Z1f ((n : Int) + 1) (n + 1) (by omega) (by omega)
 have hq : Int.tdiv (k : Int) 32 = 0 := by rw [Int.tdiv_eq_ediv_of_nonneg (by omega)]; omega
 have hr : Int.tmod (k : Int) 32 = k := by rw [Int.tmod_eq_emod_of_nonneg (by omega)]; omega
 have hnI : (n : Int) ≤ 4294967295 := by omega
 clear hs
 go_enter func277, ntmps277
 go_wp2_with fail
 have Z0 : ∃ o, Blk (w.alloc (ZZ (List.replicate (n + 1) 0))) w.heap.size o ∧ Shf l k 0 o := ⟨_, by rw [H.out.len]; exact Blk.new w _, Shf.start l k⟩
 go_loopw [6] (fun i wr => ∃ (m : Nat) (o : List Nat), m ≤ n ∧ i = .int .i64 (m : Int) ∧ Blk wr w.heap.size o ∧ Shf l k m o ∧ Ext w wr) (fun i _ => n - (intOf i).toNat)
 case atStart => obtain ⟨o, hb, hm⟩ := Z0; exact ⟨0, o, by omega, rfl, hb, hm, EX⟩
 case round =>
  clear Z0 hmk
  obtain ⟨m, o, hm, rfl, hB, hS, hx⟩ := hrel
  have HX := zH hx
  by_cases hlt : m < n
  ·obtain ⟨hc, hf⟩ := hx.cells
   have hlen : o.length = n + 1 := by rw [hS.len, ← H.out.len]
   have e0 := hB.cell m (by omega)
   have e1 := hB.frozen m
   have e2 := hB.cell (m + 1) (by omega)
   have e3 := hB.frozen (m + 1)
   obtain ⟨b1, f1, rfl, hb1, hc1⟩ := H.out.at (by omega)
   have g1 := hc1 m hlt
   have p1 := Zd H.out.rep.ok m
   simp only [B32] at p1
   have htop := hS.top
   obtain ⟨hlt2, hSS⟩ := hS.step H.out.rep.ok hk (by rw [← H.out.len]; exact hlt)
   obtain ⟨x, hx1⟩ : ∃ x, l.getD m 0 = x := ⟨_, rfl⟩
   obtain ⟨y, hy1⟩ : ∃ x, o.getD m 0 = x := ⟨_, rfl⟩
   rw [hx1] at g1 p1 hlt2 hSS
   rw [hy1] at e0 hlt2 hSS htop
   have F1 := zH (Z8P x y k hk p1 htop)
   have F2 := zH (Z90 x k p1 hk)
   have HBS := zH ((hB.set m (y + x * 2 ^ k % 4294967296)).set (m + 1) (x * 2 ^ k / 4294967296))
   have HSS := zH hSS
   have HXX : Hid (Ext w ((wr.setCell ⟨w.heap.size, m, none⟩ (.int .u32 ((y + x * 2 ^ k % 4294967296 : Nat) : Int))).setCell ⟨w.heap.size, m + 1, none⟩ (.int .u32 ((x * 2 ^ k / 4294967296 : Nat) : Int)))) := by
    show _
    exact (hx.setCell (p := ⟨w.heap.size, m, none⟩) (Nat.le_refl _) _).setCell (p := ⟨w.heap.size, m + 1, none⟩) (Nat.le_refl _) _
   clear hB hS hx hSS hx1 hy1 hc1 htop hlt2
   go_wp2_with fail
   rw [F2.out.1, F2.out.2.2, ← F2.out.2.1, F1.out]
   go_roundw
   case measure => simp [intOf]; omega
   case rel => exact ⟨m + 1, _, by omega, by simp, HBS.out, HSS.out, HXX.out⟩
  ·obtain rfl : m = n := by omega
   have hS2 := (show val o = val l * 2 ^ k by have := hS; rw [H.out.len] at this; exact this.all)
   have hW := hB.wat hS.ok (m + 1) (m + 1) (by rw [hS.len, ← H.out.len]) (Nat.le_refl _)
   have hol : o.length = m + 1 := by rw [hS.len, ← H.out.len]
   have hok := hS.ok
   have HB := zH hW
   have HV := zH hS2
   clear hS hW hS2
   go_wp2_with (go_at_call 224; (with_reducible refine (Z7x _ _ _ _ _ HB.out (by unfold Z8; omega) (by simp)).mono ?_); rintro e w4 ⟨n4, rfl, hn4, ht4, hW4, rfl⟩)
   go_ret
   have hr := (hB.row hok n4 (m + 1) hol hn4).own w.heap.size (Nat.le_refl _) (by simp only [maxLen]; omega)
   rw [ht4, HV.out] at hr
   exact ⟨_, _, _, rfl, hr, hx⟩
end Go.Proofs.YtnmmncccpdffaaaGreat
