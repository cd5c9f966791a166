/- What BoundBoxes calls, part 14. -/
import Derived.Test.YtnmmncccpdffaaaGreatQ12
import Derived.Test.YtnmmncccpdffaaaGreatQ13
set_option linter.unusedVariables false
set_option linter.unusedSimpArgs false
set_option maxRecDepth 100000
set_option maxHeartbeats 16000000
namespace Go.Proofs.YtnmmncccpdffaaaGreat
open Go.Proofs.Tryz Go Go.RowKit Go.Shelf
def ZcT (w : World) (x y : Int) (e : Ending) (w' : World) : Prop := ∃ (g d : Nat) (p q r : PV), e = .returned (.agg #[.int .i64 1, .bool false, .slice none 0 0, .slice (some ⟨g, 0, none⟩) 2 d, .int .i64 0, .bool r.s, .slice r.A r.n r.c, .slice r.C r.m r.d]) ∧ CK w' g (zL2 p q) ∧ 2 ≤ d ∧ p.At w' x ∧ q.At w' y ∧ r.At w' 1 ∧ w.heap.size ≤ g ∧ g < w'.heap.size ∧ Ext w w'
theorem Z12 {w : World} {o : Oper} {a : Act} {K : Act → World → Prop} {Q : Exit → Act → World → Prop} (s x : Operand)
  (ho : o.op = .call { callee := .builtin .append, args := #[s, x], argTypes := #[68, 68] })
  (g c : Nat) (hg : ∃ cur, w.heap[g]? = some (.cells cur 70)) (hs : a.eval s = .slice (some ⟨g, 0, none⟩) 0 c)
  (b m c2 : Nat) (news : List Value) (hx : a.eval x = .slice (some ⟨b, 0, none⟩) m c2) (hm0 : 0 < m) (hm : news.length = m * 7) (hnews : CK w b news) (hnw : ∀ u ∈ news, ∀ x, u ≠ .int .u32 x)
  (hc : c < m) (hle : m ≤ 1000000)
  (h : ∀ g' c' w', w.heap.size = g' → ZP w' g' 70 7 (some ⟨g', 0, none⟩) m c' news → Ext w w' → K (a.put o.dst (.slice (some ⟨g', 0, none⟩) m c')) w') : o.wp Tryz.prog a w K Q :=
 Z74 s x ho g c hg hs b m c2 news hx hm0 hm hnews hnw hc hle (fun c' w' h1 h2 => h _ c' w' rfl h1 h2)
theorem CK.take8 {w : World} {g : Nat} {a b c d e f k l m n o p : Value} (h : CK w g [a, b, c, d, e, f, k, l, m, n, o, p]) : CK w g [a, b, c, d, e, f, k, l] := fun i v hv => h i v (by have := List.getElem?_append_left (l₂ := [m, n, o, p]) (List.getElem?_eq_some_iff.1 hv).1; exact this.trans hv)
theorem E0N {w : World} {g : Nat} {cur : Array Value} (h : w.heap.size = g) : ∃ cur', (w.alloc (.cells cur 70)).heap[g]? = some (.cells cur' 70) := ⟨_, by subst h; exact heap_alloc_new w _⟩
theorem E0A {w : World} {g : Nat} (h : ∃ cur, w.heap[g]? = some (.cells cur 70)) (o : Obj) : ∃ cur, (w.alloc o).heap[g]? = some (.cells cur 70) := by obtain ⟨cur, h⟩ := h; exact ⟨cur, (heap_alloc_old w o (Array.getElem?_eq_some_iff.1 h).1).trans h⟩
theorem E0X {w : World} {g : Nat} (h : ∃ cur, w.heap[g]? = some (.cells cur 70) := by (first | exact E0N rfl | exact E0N (by (simp only [SZ])) | (refine E0A ?_ _; first | exact E0N rfl | exact E0N (by (simp only [SZ]))))) : ∃ cur, w.heap[g]? = some (.cells cur 70) := h
theorem Z37 (gn gd cn cd : Nat) (q0 q1 q2 : QC) (z : Int) (w : World) (h1 : CK w gn (zL1 q0 q1)) (h2 : CK w gd (zL6 q2)) (hq0 : q0.At w (z : Rat)) (hq1 : q1.At w ((1 : Int) : Rat)) (hq2 : q2.At w ((1 : Int) : Rat)) (hz : wl z < 400) :
  Ca 194 #[.agg (Z3q gn cn gd cd)] w (ZcT w z 1) := by
 have hmw : 100000 < Z8 := by decide
 have L1 := h1.lt
 have L2 := h2.lt
 have H0 := zH hq0
 have H1 := zH hq1
 have H2 := zH hq2
 clear hq0 hq1 hq2
 dsimp only [Z3q]
 go_enter func194, ntmps194
 go_wp2_with fail
 refine ZQ 43 [(1, .pointer (some ⟨w.heap.size, 0, none⟩)), (2, .pointer (some ⟨w.heap.size + 1, 0, none⟩))] (fun W => Ext w W ∧ BK W (w.heap.size) (Z3q gn cn gd cd) ∧ BK W (w.heap.size + 1) Z7I) ⟨EX, BZ, BZ⟩ ?_
 rintro W U ⟨hW, R0, R1⟩
 dsimp only [fr, frl, Nat.reduceBEq, Nat.reduceAdd, cond_true, cond_false]
 have Ll0 := R0.lt
 have Ll1 := R1.lt
 have Lw := hW.size
 have hk := R0.ca; dsimp only [CA, Nat.reduceAdd] at hk; obtain ⟨F0_0, F0_1, F0_2, F0_3, F0_4, F0_5, F0_6, _⟩ := hk
 refine Zc (fun a' w' => ∃ (g8 gl cl : Nat) (r0 r1 r2 dd : PV) (U : Nat → Value), a' = fr 43 U [(1, .pointer (some ⟨w.heap.size, 0, none⟩)), (2, .pointer (some ⟨w.heap.size + 1, 0, none⟩)), (3, .pointer (some ⟨g8, 0, none⟩))] ∧ BK w' g8 (ZbZ gl cl dd) ∧ CK w' gl (Zbc r0 r1 r2) ∧ r0.At w' z ∧ r1.At w' 1 ∧ r2.At w' 1 ∧ 3 ≤ cl ∧ W.heap.size ≤ g8 ∧ W.heap.size ≤ gl ∧ BK w' (w.heap.size) (Z3q gn cn gd cd) ∧ BK w' (w.heap.size + 1) Z7I ∧ Ext W w') (fun w' => CB w' w.heap.size 5 [.slice (some ⟨gn, 0, none⟩) 2 cn, .slice (some ⟨gd, 0, none⟩) 1 cd]) Z0a ?rest (by dsimp only [CB, Nat.reduceAdd]; exact KQ) ?expl
 case expl =>
  dsimp only [CB, Nat.reduceAdd]
  intro hHeld
  refine TH 1 ?_; refine TH 2 ?_; refine TH 4 ?_; refine TH 5 ?_
  refine RDH [0, 8] ?_
  refine ARH (fun K hK => ?_) ?_
  ·go_simp
   refine KH hK fun _ => ?_; clear hK K
   refine RDH [3, 8] ?_
   refine ARH (fun K hK => ?_) ?_
   ·(rw [if_pos (by rfl)]; (first | (refine Z12 (.tmp 17) (.tmp 19) (by rfl) (W.heap.size) 0 (by exact E0X) (by rfl) gn 2 cn [.int .i64 0, .bool q0.s, .slice q0.A q0.n q0.c, .bool q0.t, .slice q0.B q0.m q0.d, .slice none 0 0, .slice none 0 0, .int .i64 0, .bool q1.s, .slice q1.A q1.n q1.c, .bool q1.t, .slice q1.B q1.m q1.d, .slice none 0 0, .slice none 0 0] (by rfl) (by decide) (by rfl) CX (nw4 (by rfl)) (by decide) (by decide) ?_) | (refine Z12 (.tmp 17) (.tmp 19) (by rfl) (W.heap.size + 1) 0 (by exact E0X) (by rfl) gn 2 cn [.int .i64 0, .bool q0.s, .slice q0.A q0.n q0.c, .bool q0.t, .slice q0.B q0.m q0.d, .slice none 0 0, .slice none 0 0, .int .i64 0, .bool q1.s, .slice q1.A q1.n q1.c, .bool q1.t, .slice q1.B q1.m q1.d, .slice none 0 0, .slice none 0 0] (by rfl) (by decide) (by rfl) CX (nw4 (by rfl)) (by decide) (by decide) ?_)); intro gA c1 u1 hgA hO1 hx1; have hz1 := hx1.size; have lA : gA < u1.heap.size := (by obtain ⟨g9, e9, -, -, l9, -⟩ := hO1.own.ck (by decide); cases e9; exact l9); (try simp only [SZ] at hz1 hgA))
    refine KH hK fun _ => ?_; clear hK K
    refine RDH [6, 8] ?_
    refine ARH (fun K hK => ?_) ?_
    ·(rw [if_pos (by rfl)]; refine Z1U (.tmp 20) (.tmp 22) (by rfl) _ _ 2 c1 [.int .i64 0, .bool q0.s, .slice q0.A q0.n q0.c, .bool q0.t, .slice q0.B q0.m q0.d, .slice none 0 0, .slice none 0 0, .int .i64 0, .bool q1.s, .slice q1.A q1.n q1.c, .bool q1.t, .slice q1.B q1.m q1.d, .slice none 0 0, .slice none 0 0] hO1 (by rfl) gd 1 cd [.int .i64 0, .bool q2.s, .slice q2.A q2.n q2.c, .bool q2.t, .slice q2.B q2.m q2.d, .slice none 0 0, .slice none 0 0] (by rfl) (by decide) (by rfl) CX (oc4 (by rfl)) (nw4 (by rfl)) (by decide) (by (try simp only [SZ]); omega) ?_; intro A2 c2 u2 hO2 hB2 hoth; have hxW : Ext W u2 := Ext.own EX hB2 (by (try simp only [SZ]); omega); have hz2 := hB2.size; (try simp only [SZ] at hz2); obtain ⟨gr, rfl, hgr, hgrb, hgrl, hgrc⟩ := hO2.ck (by decide); have Rr : CK u2 gr (zL4 q0 q1 q2) := hgr; clear hgr; have F5 := hxW.cell F0_5; have F6 := hxW.cell F0_6)
     refine KH hK fun _ => ?_; clear hK K
     refine RDH [7, 8] ?_
     refine ARH (fun K hK => ?_) ?_
     ·go_simp
      refine (Z19 gr c2 q0 q1 q2 z _ CX QX QX QX hz).mono ?_; rintro e y7 ⟨gl, cl, r0, r1, r2, dd, rfl, hCl, hr0, hr1, hr2, hdd, hcl, hgl, hgll, hby7⟩; have Hr0 := zH hr0; have Hr1 := zH hr1; have Hr2 := zH hr2; clear hr0 hr1 hr2 hdd; (try simp only [SZ] at hgl); have := hby7.sz
      refine KH hK fun _ => ?_; clear hK K
      refine R1H 8 fun K hK => ?_
      go_simp
      refine KH hK fun _ => ?_; clear hK K
      refine R1H 9 fun K hK => ?_
      go_simp
      refine KH hK fun _ => ?_; clear hK K
      refine wpAnyH_done (by kernel_rfl) ?_ _
      exact ⟨_, gl, cl, r0, r1, r2, dd, _, Zh _ _, BZ, CX, IX, IX, IX, hcl, by ((try simp only [SZ]); omega), by omega, BZ, BZ, EX⟩
     refine ARH (fun K hK => ?_) ?_
     ·go_simp
      refine KH hK fun _ => ?_; clear hK K
      refine R1H 7 fun K hK => ?_
      go_simp
      refine (Z19 gr c2 q0 q1 q2 z _ CX QX QX QX hz).mono ?_; rintro e y7 ⟨gl, cl, r0, r1, r2, dd, rfl, hCl, hr0, hr1, hr2, hdd, hcl, hgl, hgll, hby7⟩; have Hr0 := zH hr0; have Hr1 := zH hr1; have Hr2 := zH hr2; clear hr0 hr1 hr2 hdd; (try simp only [SZ] at hgl); have := hby7.sz; (obtain ⟨T0, T1, T2, T3, T4, T5⟩ := (show BK y7 (u2.heap.size) Z26 by exact BZ).c5)
      refine KH hK fun _ => ?_; clear hK K
      refine R1H 9 fun K hK => ?_
      go_simp
      refine KH hK fun _ => ?_; clear hK K
      refine wpAnyH_done (by kernel_rfl) ?_ _
      exact ⟨_, gl, cl, r0, r1, r2, dd, _, Zh _ _, BZ, CX, IX, IX, IX, hcl, by ((try simp only [SZ]); omega), by omega, BZ, BZ, EX⟩
     exact AllReadyH.nil
    refine ARH (fun K hK => ?_) ?_
    ·go_simp
     refine KH hK fun _ => ?_; clear hK K
     refine R1H 6 fun K hK => ?_
     (rw [if_pos (by rfl)]; refine Z1U (.tmp 20) (.tmp 22) (by rfl) _ _ 2 c1 [.int .i64 0, .bool q0.s, .slice q0.A q0.n q0.c, .bool q0.t, .slice q0.B q0.m q0.d, .slice none 0 0, .slice none 0 0, .int .i64 0, .bool q1.s, .slice q1.A q1.n q1.c, .bool q1.t, .slice q1.B q1.m q1.d, .slice none 0 0, .slice none 0 0] (ZP.alloc hO1 _) (by rfl) gd 1 cd [.int .i64 0, .bool q2.s, .slice q2.A q2.n q2.c, .bool q2.t, .slice q2.B q2.m q2.d, .slice none 0 0, .slice none 0 0] (by rfl) (by decide) (by rfl) CX (oc4 (by rfl)) (nw4 (by rfl)) (by decide) (by (try simp only [SZ]); omega) ?_; intro A2 c2 u2 hO2 hB2 hoth; have hxW : Ext W u2 := Ext.own EX hB2 (by (try simp only [SZ]); omega); have hz2 := hB2.size; (try simp only [SZ] at hz2); obtain ⟨gr, rfl, hgr, hgrb, hgrl, hgrc⟩ := hO2.ck (by decide); have Rr : CK u2 gr (zL4 q0 q1 q2) := hgr; clear hgr; have F5 := hxW.cell F0_5; have F6 := hxW.cell F0_6; ((have G8 : BK u2 (u1.heap.size) Z26 := BK.oth BZ (hoth (u1.heap.size) (by (try simp only [SZ]); omega) (by intro a e; cases e; (try simp only [SZ]); omega))); obtain ⟨T0, T1, T2, T3, T4, T5⟩ := G8.c5))
     refine KH hK fun _ => ?_; clear hK K
     refine R1H 7 fun K hK => ?_
     go_simp
     refine (Z19 gr c2 q0 q1 q2 z _ CX QX QX QX hz).mono ?_; rintro e y7 ⟨gl, cl, r0, r1, r2, dd, rfl, hCl, hr0, hr1, hr2, hdd, hcl, hgl, hgll, hby7⟩; have Hr0 := zH hr0; have Hr1 := zH hr1; have Hr2 := zH hr2; clear hr0 hr1 hr2 hdd; (try simp only [SZ] at hgl); have := hby7.sz; (obtain ⟨T0, T1, T2, T3, T4, T5⟩ := (show BK y7 (u1.heap.size) Z26 by exact BZ).c5)
     refine KH hK fun _ => ?_; clear hK K
     refine R1H 9 fun K hK => ?_
     go_simp
     refine KH hK fun _ => ?_; clear hK K
     refine wpAnyH_done (by kernel_rfl) ?_ _
     exact ⟨_, gl, cl, r0, r1, r2, dd, _, Zh _ _, BZ, CX, IX, IX, IX, hcl, by ((try simp only [SZ]); omega), by omega, BZ, BZ, EX⟩
    exact AllReadyH.nil
   refine ARH (fun K hK => ?_) ?_
   ·go_simp
    refine KH hK fun _ => ?_; clear hK K
    refine R1H 3 fun K hK => ?_
    (rw [if_pos (by rfl)]; (first | (refine Z12 (.tmp 17) (.tmp 19) (by rfl) (W.heap.size) 0 (by exact E0X) (by rfl) gn 2 cn [.int .i64 0, .bool q0.s, .slice q0.A q0.n q0.c, .bool q0.t, .slice q0.B q0.m q0.d, .slice none 0 0, .slice none 0 0, .int .i64 0, .bool q1.s, .slice q1.A q1.n q1.c, .bool q1.t, .slice q1.B q1.m q1.d, .slice none 0 0, .slice none 0 0] (by rfl) (by decide) (by rfl) CX (nw4 (by rfl)) (by decide) (by decide) ?_) | (refine Z12 (.tmp 17) (.tmp 19) (by rfl) (W.heap.size + 1) 0 (by exact E0X) (by rfl) gn 2 cn [.int .i64 0, .bool q0.s, .slice q0.A q0.n q0.c, .bool q0.t, .slice q0.B q0.m q0.d, .slice none 0 0, .slice none 0 0, .int .i64 0, .bool q1.s, .slice q1.A q1.n q1.c, .bool q1.t, .slice q1.B q1.m q1.d, .slice none 0 0, .slice none 0 0] (by rfl) (by decide) (by rfl) CX (nw4 (by rfl)) (by decide) (by decide) ?_)); intro gA c1 u1 hgA hO1 hx1; have hz1 := hx1.size; have lA : gA < u1.heap.size := (by obtain ⟨g9, e9, -, -, l9, -⟩ := hO1.own.ck (by decide); cases e9; exact l9); (try simp only [SZ] at hz1 hgA))
    refine KH hK fun _ => ?_; clear hK K
    refine R1H 6 fun K hK => ?_
    (rw [if_pos (by rfl)]; refine Z1U (.tmp 20) (.tmp 22) (by rfl) _ _ 2 c1 [.int .i64 0, .bool q0.s, .slice q0.A q0.n q0.c, .bool q0.t, .slice q0.B q0.m q0.d, .slice none 0 0, .slice none 0 0, .int .i64 0, .bool q1.s, .slice q1.A q1.n q1.c, .bool q1.t, .slice q1.B q1.m q1.d, .slice none 0 0, .slice none 0 0] hO1 (by rfl) gd 1 cd [.int .i64 0, .bool q2.s, .slice q2.A q2.n q2.c, .bool q2.t, .slice q2.B q2.m q2.d, .slice none 0 0, .slice none 0 0] (by rfl) (by decide) (by rfl) CX (oc4 (by rfl)) (nw4 (by rfl)) (by decide) (by (try simp only [SZ]); omega) ?_; intro A2 c2 u2 hO2 hB2 hoth; have hxW : Ext W u2 := Ext.own EX hB2 (by (try simp only [SZ]); omega); have hz2 := hB2.size; (try simp only [SZ] at hz2); obtain ⟨gr, rfl, hgr, hgrb, hgrl, hgrc⟩ := hO2.ck (by decide); have Rr : CK u2 gr (zL4 q0 q1 q2) := hgr; clear hgr; have F5 := hxW.cell F0_5; have F6 := hxW.cell F0_6; ((have G8 : BK u2 (W.heap.size + 1) Z26 := BK.oth BZ (hoth (W.heap.size + 1) (by (try simp only [SZ]); omega) (by intro a e; cases e; (try simp only [SZ]); omega))); obtain ⟨T0, T1, T2, T3, T4, T5⟩ := G8.c5))
    refine KH hK fun _ => ?_; clear hK K
    refine R1H 7 fun K hK => ?_
    go_simp
    refine (Z19 gr c2 q0 q1 q2 z _ CX QX QX QX hz).mono ?_; rintro e y7 ⟨gl, cl, r0, r1, r2, dd, rfl, hCl, hr0, hr1, hr2, hdd, hcl, hgl, hgll, hby7⟩; have Hr0 := zH hr0; have Hr1 := zH hr1; have Hr2 := zH hr2; clear hr0 hr1 hr2 hdd; (try simp only [SZ] at hgl); have := hby7.sz; (obtain ⟨T0, T1, T2, T3, T4, T5⟩ := (show BK y7 (W.heap.size + 1) Z26 by exact BZ).c5)
    refine KH hK fun _ => ?_; clear hK K
    refine R1H 9 fun K hK => ?_
    go_simp
    refine KH hK fun _ => ?_; clear hK K
    refine wpAnyH_done (by kernel_rfl) ?_ _
    exact ⟨_, gl, cl, r0, r1, r2, dd, _, Zh _ _, BZ, CX, IX, IX, IX, hcl, by ((try simp only [SZ]); omega), by omega, BZ, BZ, EX⟩
   exact AllReadyH.nil
  refine ARH (fun K hK => ?_) ?_
  ·go_simp
   refine KH hK fun _ => ?_; clear hK K
   refine R1H 0 fun K hK => ?_
   go_simp
   refine KH hK fun _ => ?_; clear hK K
   refine R1H 3 fun K hK => ?_
   (rw [if_pos (by rfl)]; (first | (refine Z12 (.tmp 17) (.tmp 19) (by rfl) (W.heap.size) 0 (by exact E0X) (by rfl) gn 2 cn [.int .i64 0, .bool q0.s, .slice q0.A q0.n q0.c, .bool q0.t, .slice q0.B q0.m q0.d, .slice none 0 0, .slice none 0 0, .int .i64 0, .bool q1.s, .slice q1.A q1.n q1.c, .bool q1.t, .slice q1.B q1.m q1.d, .slice none 0 0, .slice none 0 0] (by rfl) (by decide) (by rfl) CX (nw4 (by rfl)) (by decide) (by decide) ?_) | (refine Z12 (.tmp 17) (.tmp 19) (by rfl) (W.heap.size + 1) 0 (by exact E0X) (by rfl) gn 2 cn [.int .i64 0, .bool q0.s, .slice q0.A q0.n q0.c, .bool q0.t, .slice q0.B q0.m q0.d, .slice none 0 0, .slice none 0 0, .int .i64 0, .bool q1.s, .slice q1.A q1.n q1.c, .bool q1.t, .slice q1.B q1.m q1.d, .slice none 0 0, .slice none 0 0] (by rfl) (by decide) (by rfl) CX (nw4 (by rfl)) (by decide) (by decide) ?_)); intro gA c1 u1 hgA hO1 hx1; have hz1 := hx1.size; have lA : gA < u1.heap.size := (by obtain ⟨g9, e9, -, -, l9, -⟩ := hO1.own.ck (by decide); cases e9; exact l9); (try simp only [SZ] at hz1 hgA))
   refine KH hK fun _ => ?_; clear hK K
   refine R1H 6 fun K hK => ?_
   (rw [if_pos (by rfl)]; refine Z1U (.tmp 20) (.tmp 22) (by rfl) _ _ 2 c1 [.int .i64 0, .bool q0.s, .slice q0.A q0.n q0.c, .bool q0.t, .slice q0.B q0.m q0.d, .slice none 0 0, .slice none 0 0, .int .i64 0, .bool q1.s, .slice q1.A q1.n q1.c, .bool q1.t, .slice q1.B q1.m q1.d, .slice none 0 0, .slice none 0 0] hO1 (by rfl) gd 1 cd [.int .i64 0, .bool q2.s, .slice q2.A q2.n q2.c, .bool q2.t, .slice q2.B q2.m q2.d, .slice none 0 0, .slice none 0 0] (by rfl) (by decide) (by rfl) CX (oc4 (by rfl)) (nw4 (by rfl)) (by decide) (by (try simp only [SZ]); omega) ?_; intro A2 c2 u2 hO2 hB2 hoth; have hxW : Ext W u2 := Ext.own EX hB2 (by (try simp only [SZ]); omega); have hz2 := hB2.size; (try simp only [SZ] at hz2); obtain ⟨gr, rfl, hgr, hgrb, hgrl, hgrc⟩ := hO2.ck (by decide); have Rr : CK u2 gr (zL4 q0 q1 q2) := hgr; clear hgr; have F5 := hxW.cell F0_5; have F6 := hxW.cell F0_6; ((have G8 : BK u2 (W.heap.size) Z26 := BK.oth BZ (hoth (W.heap.size) (by (try simp only [SZ]); omega) (by intro a e; cases e; (try simp only [SZ]); omega))); obtain ⟨T0, T1, T2, T3, T4, T5⟩ := G8.c5))
   refine KH hK fun _ => ?_; clear hK K
   refine R1H 7 fun K hK => ?_
   go_simp
   refine (Z19 gr c2 q0 q1 q2 z _ CX QX QX QX hz).mono ?_; rintro e y7 ⟨gl, cl, r0, r1, r2, dd, rfl, hCl, hr0, hr1, hr2, hdd, hcl, hgl, hgll, hby7⟩; have Hr0 := zH hr0; have Hr1 := zH hr1; have Hr2 := zH hr2; clear hr0 hr1 hr2 hdd; (try simp only [SZ] at hgl); have := hby7.sz; (obtain ⟨T0, T1, T2, T3, T4, T5⟩ := (show BK y7 (W.heap.size) Z26 by exact BZ).c5)
   refine KH hK fun _ => ?_; clear hK K
   refine R1H 9 fun K hK => ?_
   go_simp
   refine KH hK fun _ => ?_; clear hK K
   refine wpAnyH_done (by kernel_rfl) ?_ _
   exact ⟨_, gl, cl, r0, r1, r2, dd, _, Zh _ _, BZ, CX, IX, IX, IX, hcl, by ((try simp only [SZ]); omega), by omega, BZ, BZ, EX⟩
  exact AllReadyH.nil
 case rest =>
  rintro a' Y ⟨g8, gl, cl, r0, r1, r2, dd, U, rfl, B8, hCl, hr0, hr1, hr2, hcl, hg8, hgl, B0, B1, hY⟩
  dsimp only [fr, frl, Nat.reduceBEq, Nat.reduceAdd, cond_true, cond_false]
  have Hr0 := zH hr0
  have Hr1 := zH hr1
  have Hr2 := zH hr2
  clear hr0 hr1 hr2 F0_0 F0_1 F0_2 F0_3 F0_4 F0_5 F0_6
  have M0 := B0.lt
  have M1 := B1.lt
  have M8 := B8.lt
  have Ml := hCl.lt
  have hc2 : 2 ≤ cl := by omega
  have hc2' : (2 : Int) ≤ (cl : Int) := by omega
  have hc3' : (3 : Int) ≤ (cl : Int) := by omega
  have ww1 : IntKind.i64.wrap 2 = 2 := by decide
  have F8 := B8.c5
  have hk := B0.ca; dsimp only [CA, Nat.reduceAdd] at hk; obtain ⟨F0_0, F0_1, F0_2, F0_3, F0_4, F0_5, F0_6, _⟩ := hk
  have F1 := B1.ca; dsimp only [CA, Nat.reduceAdd] at F1
  have hk := hCl.ca; dsimp only [CC, Nat.reduceAdd] at hk; obtain ⟨Fl_0, Fl_1, Fl_2, Fl_3, Fl_4, Fl_5, Fl_6, Fl_7, Fl_8, Fl_9, Fl_10, Fl_11, _⟩ := hk
  go_wp2_with fail
  go_region_held3 (fun w' => zC w' w.heap.size 0 (.int .i64 1) ∧ zC w' g8 0 (.slice (some ⟨gl, 0, none⟩) 3 cl)) (first | (exact KQ) | (simp [go_sem, *]; done)) (first | (go_at_call 234; (with_reducible refine (Z1W gl cl r0 r1 z 1 _ (by omega) (CK.take8 CX) IX (by decide)).mono ?_); rintro e y1 ⟨rfl, hby1⟩; have := hby1.sz) | (go_at_call 234; (with_reducible refine (Z7t gl 8 (cl - 2) r2 1 _ (by omega) (by exact Ext.cell (EX : Ext Y _) Fl_8) (by exact Ext.cell (EX : Ext Y _) Fl_9) (by exact Ext.cell (EX : Ext Y _) Fl_10) (by exact Ext.cell (EX : Ext Y _) Fl_11) IX (by decide)).mono ?_); rintro e y2 ⟨rfl, hby2⟩; have := hby2.sz) | (go_at_call 197; (with_reducible refine (Z24 ⟨1, false, none, 0, 0, some ⟨gl, 0, none⟩, 2, cl⟩ r2 1 _ IX (by decide) (by decide +kernel)).mono ?_); rintro e y3 ⟨rfl, hby3⟩; have := hby3.sz; have Q1 : BK y3 (w.heap.size + 1) Z7I := BZ; have F1 := Q1.c8))
  all_goals go_wp2_with fail
  all_goals refine bodyPost_ret (v := .agg (Z6E gl cl r2)) (by simp [Z6E, results, results194, go_sem, Z6, F1]) rfl ⟨gl, cl, r0, r1, r2, rfl, CK.take8 CX, by omega, IX, IX, IX, by omega, by (try simp only [SZ]); omega, EX⟩
theorem ZcK : ((0 : Int) : Rat) = 0 := by decide +kernel
theorem Zb7 : ((1 : Int) : Rat) = 1 := by decide +kernel
theorem ZcI : ((-1 : Int) : Rat) = -1 := by decide +kernel
theorem QC.to0 {q : QC} {w : World} (h : q.At w 0) : q.At w ((0 : Int) : Rat) := by rw [ZcK]; exact h
theorem QC.to1 {q : QC} {w : World} (h : q.At w 1) : q.At w ((1 : Int) : Rat) := by rw [Zb7]; exact h
theorem QC.of1 {q : QC} {w : World} (h : q.At w ((1 : Int) : Rat)) : q.At w 1 := by rw [Zb7] at h; exact h
theorem Z6y (q : QC) (w : World) (hq : q.At w 1) : Ca 120 #[.agg (Z1A q)] w (Zb4 w ((-1 : Int) : Rat)) := by
 have := Z8q q 1 w hq (by decide +kernel)
 rw [ZcI]
 exact this
theorem Z6w (g d : Nat) (p0 p1 r s u : PV) (w : World) (h : CK w g (zL2 p0 p1)) (hd : 2 ≤ d) (h0 : p0.At w 0) (h1 : p1.At w 1) (hr : r.At w 1) (hs : s.At w (-1)) (hu : u.At w 1) : Ca 198 #[.agg (Z6E g d r), .agg (Z2j s u)] w (Zc9 w (-1) 1) := by
 have := Z7q g d p0 p1 r s u 0 1 (-1) w h hd h0 h1 hr hs hu (by have := h0.wl; have : wl 0 < 10 := (by decide +kernel); omega) (by have := h1.wl; have : wl 1 < 10 := (by decide +kernel); omega) (by have := hs.wl; have : wl (-1) < 10 := (by decide +kernel); omega) (by decide) (by decide)
 exact this
theorem Z8t (gn gd cn cd : Nat) (q0 q1 q2 q : QC) (w : World) (h1 : CK w gn (zL1 q0 q1)) (h2 : CK w gd (zL6 q2)) (hq0 : q0.At w ((0 : Int) : Rat)) (hq1 : q1.At w ((1 : Int) : Rat)) (hq2 : q2.At w ((1 : Int) : Rat)) (hq : q.At w ((-1 : Int) : Rat)) :
  Ca 119 #[.agg (Z3q gn cn gd cd), .agg (Z1A q)] w (Zb9 w (-1)) := by
 have L1 := h1.lt
 have L2 := h2.lt
 have H0 := zH hq0
 have H1 := zH hq1
 have H2 := zH hq2
 have H3 := zH hq
 clear hq0 hq1 hq2 hq
 dsimp only [Z3q, Z1A]
 go_enter func119, ntmps119
 go_wp2_with (
  first
  | (go_at_call 192; (with_reducible refine (Z38 gn gd 2 1 cn cd _).mono ?_); rintro e w1 ⟨rfl, hbw1⟩; have := hbw1.sz; obtain ⟨R0, L0, F0⟩ := BC7 w1 w.heap.size; obtain ⟨R1, L1, F1⟩ := BC7 w1 (w.heap.size + 1); obtain ⟨R2, L2, F2⟩ := BC7 w1 (w.heap.size + 1 + 1))
  | (go_at_call 192; (with_reducible refine (Z39 q ((-1 : Int) : Rat) _ QX (by decide +kernel) (by decide +kernel)).mono ?_); rintro e w2 ⟨rfl, hbw2⟩; have := hbw2.sz; obtain ⟨R0, L0, F0⟩ := BC7 w2 w.heap.size; obtain ⟨R1, L1, F1⟩ := BC7 w2 (w.heap.size + 1); obtain ⟨R2, L2, F2⟩ := BC7 w2 (w.heap.size + 1 + 1)))
 go_region_held3 (fun w' => zC w' w.heap.size 0 (.int .i64 1) ∧ zC w' w.heap.size 1 (.bool false) ∧ zC w' w.heap.size 2 (.slice none 0 0) ∧ zC w' w.heap.size 3 (.bool false) ∧ zC w' w.heap.size 4 (.slice none 0 0) ∧ zC w' w.heap.size 5 (.slice (some ⟨gn, 0, none⟩) 2 cn) ∧ zC w' w.heap.size 6 (.slice (some ⟨gd, 0, none⟩) 1 cd) ∧ zC w' (w.heap.size + 1) 0 (.int .i64 0) ∧ zC w' (w.heap.size + 1) 1 (.bool q.s) ∧ zC w' (w.heap.size + 1) 2 (.slice q.A q.n q.c) ∧ zC w' (w.heap.size + 1) 3 (.bool q.t) ∧ zC w' (w.heap.size + 1) 4 (.slice q.B q.m q.d) ∧ zC w' (w.heap.size + 1) 5 (.slice none 0 0) ∧ zC w' (w.heap.size + 1) 6 (.slice none 0 0)) (first | (exact KQ) | (simp [go_sem, *]; done)) (first | (go_at_call 194; (with_reducible refine (Z37 gn gd cn cd q0 q1 q2 0 _ CX CX QX QX QX (by decide +kernel)).mono ?_); rintro e w3 ⟨gf, df, pa, pb, pc, rfl, hCf, hdf, hpa, hpb, hpc, hgf, hlf, hbw3⟩; have Hpa := zH hpa; have Hpb := zH hpb; have Hpc := zH hpc; clear hpa hpb hpc; (try simp only [SZ] at hgf); have := hbw3.sz) | (go_at_call 194; (with_reducible refine (Z0Y q (-1) _ QX).mono ?_); rintro e w4 ⟨ps, pu, rfl, hps, hpu, hbw4⟩; have Hps := zH hps; have Hpu := zH hpu; clear hps hpu; have := hbw4.sz) | (go_at_call 198; (with_reducible refine (Z6w gf df pa pb pc ps pu _ CX hdf IX IX IX IX IX).mono ?_); rintro e w5 ⟨gs, ds, sa, sb, sc, rfl, hCs, hsa, hsb, hsc, hgs, hls, hbw5⟩; have Hsa := zH hsa; have Hsb := zH hsb; have Hsc := zH hsc; clear hsa hsb hsc; (try simp only [SZ] at hgs); have := hbw5.sz) | (go_at_call 195; (with_reducible refine (Z5D gs ds sa sb sc (-1) _ CX IX IX IX (Or.inr rfl)).mono ?_); rintro e w6 ⟨g1, g2, d1, d2, a, b, c, rfl, hC1, hC2, ha, hb', hc, hd1, hd2, hg1, hg2, hl1, hl2, hbw6⟩; have Ha := zH ha; have Hb := zH hb'; have Hc := zH hc; clear ha hb' hc; (try simp only [SZ] at hg1 hg2); have := hbw6.sz; obtain ⟨R2, L2, F2⟩ := BC7 w6 (w.heap.size + 1 + 1)))
 all_goals go_wp2_with ((with_reducible refine BK.fin3 (g := w.heap.size + 1 + 1) (c := #[.int .i64 1, .bool false, .slice none 0 0, .bool false, .slice none 0 0, .slice (some ⟨g1, 0, none⟩) 2 d1, .slice (some ⟨g2, 0, none⟩) 1 d2]) (w0 := w) (T := fun W => CK W g1 (zL1 a b) ∧ CK W g2 (zL6 c) ∧ a.At W ((-1 : Int) : Rat) ∧ b.At W ((1 : Int) : Rat) ∧ c.At W ((1 : Int) : Rat) ∧ g1 < W.heap.size ∧ g2 < W.heap.size) ?_ ?_ ?_ ?_); exact BY; exact EX; exact ⟨CX, CX, QX, QX, QX, by (try simp only [SZ]); omega, by (try simp only [SZ]); omega⟩; intro W U E hT; have Fu := U.c7; obtain ⟨t0, t1, t2, t3, t4, t5, t6⟩ := hT; refine bodyPost_ret (v := .agg (Z3q g1 d1 g2 d2)) (by simp [Z3q, results, results119, go_sem, Fu]) rfl ⟨g1, g2, d1, d2, a, b, c, rfl, t0, t1, t2, t3, t4, hd1, hd2, by omega, by omega, t5, t6, E⟩)
theorem Z8p (gn gd cn cd : Nat) (q0 q1 q2 q : QC) (w : World) (h1 : CK w gn (zL1 q0 q1)) (h2 : CK w gd (zL6 q2)) (hq0 : q0.At w 0) (hq1 : q1.At w 1) (hq2 : q2.At w 1) (hq : q.At w 1) :
  Ca 51 #[.agg (Z3q gn cn gd cd), .agg (Z1A q)] w (Zb9 w (-1)) := by
 have L1 := h1.lt
 have L2 := h2.lt
 have H0 := zH (QC.to0 hq0)
 have H1 := zH (QC.to1 hq1)
 have H2 := zH (QC.to1 hq2)
 have H3 := zH hq
 clear hq0 hq1 hq2 hq
 dsimp only [Z3q, Z1A]
 go_enter func51, ntmps51
 go_wp2_with fail
 go_region_held3 (fun w' => zC w' w.heap.size 0 (.int .i64 1) ∧ zC w' w.heap.size 1 (.bool false) ∧ zC w' w.heap.size 2 (.slice none 0 0) ∧ zC w' w.heap.size 3 (.bool false) ∧ zC w' w.heap.size 4 (.slice none 0 0) ∧ zC w' w.heap.size 5 (.slice (some ⟨gn, 0, none⟩) 2 cn) ∧ zC w' w.heap.size 6 (.slice (some ⟨gd, 0, none⟩) 1 cd) ∧ zC w' (w.heap.size + 1) 0 (.int .i64 0) ∧ zC w' (w.heap.size + 1) 1 (.bool q.s) ∧ zC w' (w.heap.size + 1) 2 (.slice q.A q.n q.c) ∧ zC w' (w.heap.size + 1) 3 (.bool q.t) ∧ zC w' (w.heap.size + 1) 4 (.slice q.B q.m q.d) ∧ zC w' (w.heap.size + 1) 5 (.slice none 0 0) ∧ zC w' (w.heap.size + 1) 6 (.slice none 0 0)) (first | (exact KQ) | (simp [go_sem, *]; done)) (first | (go_at_call 120; (with_reducible refine (Z6y q _ QX).mono ?_); rintro e w1 ⟨qn, rfl, hqn, hbw1⟩; have Hqn := zH hqn; clear hqn; have := hbw1.sz) | (go_at_call 119; (with_reducible refine (Z8t gn gd cn cd q0 q1 q2 qn _ CX CX QX QX QX QX).mono ?_); rintro e w2 ⟨g1, g2, d1, d2, a, b, c, rfl, hC1, hC2, ha, hb', hc, hd1, hd2, hg1, hg2, hl1, hl2, hbw2⟩; have Ha := zH ha; have Hb := zH hb'; have Hc := zH hc; clear ha hb' hc; (try simp only [SZ] at hg1 hg2); have := hbw2.sz; obtain ⟨R2, L2, F2⟩ := BC7 w2 (w.heap.size + 1 + 1)))
 all_goals go_wp2_with ((with_reducible refine BK.fin3 (g := w.heap.size + 1 + 1) (c := #[.int .i64 1, .bool false, .slice none 0 0, .bool false, .slice none 0 0, .slice (some ⟨g1, 0, none⟩) 2 d1, .slice (some ⟨g2, 0, none⟩) 1 d2]) (w0 := w) (T := fun W => CK W g1 (zL1 a b) ∧ CK W g2 (zL6 c) ∧ a.At W ((-1 : Int) : Rat) ∧ b.At W ((1 : Int) : Rat) ∧ c.At W ((1 : Int) : Rat) ∧ g1 < W.heap.size ∧ g2 < W.heap.size) ?_ ?_ ?_ ?_); exact BY; exact EX; exact ⟨CX, CX, QX, QX, QX, by (try simp only [SZ]); omega, by (try simp only [SZ]); omega⟩; intro W U E hT; have Fu := U.c7; obtain ⟨t0, t1, t2, t3, t4, t5, t6⟩ := hT; refine bodyPost_ret (v := .agg (Z3q g1 d1 g2 d2)) (by simp [Z3q, results, results51, go_sem, Fu]) rfl ⟨g1, g2, d1, d2, a, b, c, rfl, t0, t1, t2, t3, t4, hd1, hd2, by omega, by omega, t5, t6, E⟩)
theorem Z8s (gn gd cn cd : Nat) (q0 q1 q2 q : QC) (w : World) (h1 : CK w gn (zL1 q0 q1)) (h2 : CK w gd (zL6 q2)) (hq0 : q0.At w ((-1 : Int) : Rat)) (hq1 : q1.At w ((1 : Int) : Rat)) (hq2 : q2.At w ((1 : Int) : Rat)) (hq : q.At w 1) :
  Ca 117 #[.agg (Z1A q), .agg (Z3q gn cn gd cd)] w (fun e w' => ∃ (gn gd cn cd : Nat) (a0 b0 b1 : QC), e = .returned (.tuple #[.agg (Z0M gn cn gd cd), .int .i64 0]) ∧ CK w' gn (zL6 a0) ∧ CK w' gd (zL1 b0 b1) ∧ a0.At w' ((1 : Int) : Rat) ∧ b0.At w' ((-1 : Int) : Rat) ∧ b1.At w' ((1 : Int) : Rat) ∧ 1 ≤ cn ∧ 2 ≤ cd ∧ w.heap.size ≤ gn ∧ w.heap.size ≤ gd ∧ gn < w'.heap.size ∧ gd < w'.heap.size ∧ Ext w w') := by
 have hmw : 100000 < Z8 := by decide
 have L1 := h1.lt
 have L2 := h2.lt
 have H0 := zH hq0
 have H1 := zH hq1
 have H2 := zH hq2
 have H3 := zH hq
 have H3' := zH (QC.to1 hq)
 have hflag : Z53 1 := trivial
 clear hq0 hq1 hq2 hq
 dsimp only [Z1A, Z3q, Z0M]
 go_enter func117, ntmps117
 go_wp2_with (
  first
  | (go_at_call 192; (with_reducible refine (Z38 gn gd 2 1 cn cd _).mono ?_); rintro e w1 ⟨rfl, hbw1⟩; have := hbw1.sz; obtain ⟨R0, L0, F0⟩ := BC7 w1 w.heap.size; obtain ⟨R1, L1, F1⟩ := BC7 w1 (w.heap.size + 1); obtain ⟨R2, L2, F2⟩ := BC7 w1 (w.heap.size + 1 + 1))
  | (go_at_call 192; (with_reducible refine (Z39 q 1 _ QX (by decide +kernel) (by decide +kernel)).mono ?_); rintro e w2 ⟨rfl, hbw2⟩; have := hbw2.sz; obtain ⟨R0, L0, F0⟩ := BC7 w2 w.heap.size; obtain ⟨R1, L1, F1⟩ := BC7 w2 (w.heap.size + 1); obtain ⟨R2, L2, F2⟩ := BC7 w2 (w.heap.size + 1 + 1))
  | (go_at_call 193; (with_reducible refine (Z6x gn gd 2 1 cn cd _).mono ?_); rintro e w3 ⟨rfl, hbw3⟩; have := hbw3.sz; obtain ⟨R0, L0, F0⟩ := BC7 w3 w.heap.size; obtain ⟨R1, L1, F1⟩ := BC7 w3 (w.heap.size + 1); obtain ⟨R2, L2, F2⟩ := BC7 w3 (w.heap.size + 1 + 1))
  | (go_at_call 194; (with_reducible refine (Z37 gn gd cn cd q0 q1 q2 (-1) _ CX CX QX QX QX (by decide +kernel)).mono ?_); rintro e w4 ⟨gf, df, pa, pb, pc, rfl, hCf, hdf, hpa, hpb, hpc, hgf, hlf, hbw4⟩; have Hpa := zH hpa; have Hpb := zH hpb; have Hpc := zH hpc; clear hpa hpb hpc; (try simp only [SZ] at hgf); have := hbw4.sz; obtain ⟨R0, L0, F0⟩ := BC7 w4 w.heap.size; obtain ⟨R1, L1, F1⟩ := BC7 w4 (w.heap.size + 1); obtain ⟨R2, L2, F2⟩ := BC7 w4 (w.heap.size + 1 + 1))
  | ((with_reducible refine (id ?_ : wpList _ _ _ [⟨none, _, _, _, _, _⟩] _ _)); (have hfl : Z53 1 := (by with_reducible assumption)); clear hfl hflag; (obtain ⟨W, hWe⟩ : ∃ W, w4.alloc (.cells #[.int .i64 0, .bool false, .slice none 0 0, .slice none 0 0, .int .i64 0, .bool false, .slice none 0 0, .slice none 0 0] 178) = W := ⟨_, rfl⟩); (have RW : BK W w4.heap.size Z7I := (by rw [← hWe]; exact BY)); (have EW : Ext w4 W := (by rw [← hWe]; exact EX)); rw [hWe]; clear hWe; have LW := RW.lt; have hzW := EW.size; have FW := RW.c8))
 refine (?_ : ∀ W : World, Ext w W → BK W (w.heap.size) (Z1A q) → BK W (w.heap.size + 1 + 1) Z1T → BK W (w4.heap.size) (Z6E gf df pc) → CK W gf (zL2 pa pb) → pa.At W (-1) → pb.At W 1 → pc.At W 1 → Code.wp Tryz.prog _ _ _ W) _ EX BY BY BY CX IX IX IX
 intro W' hW R0 R2 R6 Rf hpa hpb hpc
 have Npa := Nat.le_of_eq hpa.wl
 have Npb := Nat.le_of_eq hpb.wl
 have wm1 : wl (-1) < 10 := by decide +kernel
 have wm2 : wl 1 < 10 := by decide +kernel
 have Gpa := zH hpa
 have Gpb := zH hpb
 have Gpc := zH hpc
 have Lr0 := R0.lt
 have Lr2 := R2.lt
 have Lr6 := R6.lt
 have Lrf := Rf.lt
 clear hpa hpb hpc Hpa Hpb Hpc F1 FW
 (try clear FF)
 have FF := And.intro R0.ca (And.intro R2.ca R6.ca); dsimp only [CA, CC, Nat.reduceAdd] at FF
 go_region_held3 (fun w' => zC w' w.heap.size 0 (.int .i64 0) ∧ zC w' w.heap.size 1 (.bool q.s) ∧ zC w' w.heap.size 2 (.slice q.A q.n q.c) ∧ zC w' w.heap.size 3 (.bool q.t) ∧ zC w' w.heap.size 4 (.slice q.B q.m q.d) ∧ zC w' w.heap.size 5 (.slice none 0 0) ∧ zC w' w.heap.size 6 (.slice none 0 0) ∧ zC w' w4.heap.size 0 (.int .i64 1) ∧ zC w' w4.heap.size 1 (.bool false) ∧ zC w' w4.heap.size 2 (.slice none 0 0) ∧ zC w' w4.heap.size 3 (.slice (some ⟨gf, 0, none⟩) 2 df) ∧ zC w' w4.heap.size 4 (.int .i64 0) ∧ zC w' w4.heap.size 5 (.bool pc.s) ∧ zC w' w4.heap.size 6 (.slice pc.A pc.n pc.c) ∧ zC w' w4.heap.size 7 (.slice pc.C pc.m pc.d)) (first | (exact KQ) | (simp [go_sem, *]; done)) (first | (go_at_call 194; (with_reducible refine (Z0Y q 1 _ QX).mono ?_); rintro e w5 ⟨ps, pu, rfl, hps, hpu, hbw5⟩; have Hps := zH hps; have Hpu := zH hpu; clear hps hpu; have := hbw5.sz) | (go_at_call 197; (with_reducible refine (Z36 gf df ⟨0, pc.s, pc.A, pc.n, pc.c, pc.C, pc.m, pc.d⟩ pa pb 1 _ CX IX (by decide) (by omega)).mono ?_); rintro e w6 ⟨rfl, hbw6⟩; have := hbw6.sz) | (go_at_call 196; (with_reducible refine (Z4f gf df pa pb ps pu pc (-1) 1 _ CX hdf IX IX IX IX IX (by omega) (by omega) (by decide) (by omega)).mono ?_); rintro e w7 ⟨gs, ds, sa, sb, sc, rfl, hCs, hsa, hsb, hsc, hgs, hls, hbw7⟩; have Hsa := zH hsa; have Hsb := zH hsb; have Hsc := zH hsc; clear hsa hsb hsc; (try simp only [SZ] at hgs); have := hbw7.sz) | (go_at_call 195; (with_reducible refine (Z5C gs ds sa sb sc (-1) _ CX IX IX IX (Or.inr rfl)).mono ?_); rintro e w8 ⟨g1, g2, d1, d2, a, b, c, rfl, hC1, hC2, ha, hb', hc, hd1, hd2, hg1, hg2, hl1, hl2, hbw8⟩; have Ha := zH ha; have Hb := zH hb'; have Hc := zH hc; clear ha hb' hc; (try simp only [SZ] at hg1 hg2); have := hbw8.sz; obtain ⟨R2, L2, F2⟩ := BC7 w8 (w.heap.size + 1 + 1)))
 all_goals go_wp2_with ((with_reducible refine BK.fin3 (g := w.heap.size + 1 + 1) (c := #[.int .i64 1, .bool false, .slice none 0 0, .bool false, .slice none 0 0, .slice (some ⟨g1, 0, none⟩) 1 d1, .slice (some ⟨g2, 0, none⟩) 2 d2]) (w0 := w) (T := fun W => CK W g1 (zL6 a) ∧ CK W g2 (zL1 b c) ∧ a.At W ((1 : Int) : Rat) ∧ b.At W ((-1 : Int) : Rat) ∧ c.At W ((1 : Int) : Rat) ∧ g1 < W.heap.size ∧ g2 < W.heap.size) ?_ ?_ ?_ ?_); exact BY; exact EX; exact ⟨CX, CX, QX, QX, QX, by (try simp only [SZ]); omega, by (try simp only [SZ]); omega⟩; intro W U E hT; have Fu := U.c7; obtain ⟨t0, t1, t2, t3, t4, t5, t6⟩ := hT; refine bodyPost_ret (v := .tuple #[.agg (Z0M g1 d1 g2 d2), .int .i64 0]) (by simp [Z0M, results, results117, go_sem, Fu]) rfl ⟨g1, g2, d1, d2, a, b, c, rfl, t0, t1, t2, t3, t4, hd1, hd2, by omega, by omega, t5, t6, E⟩)
theorem Z7o (gn gd cn cd : Nat) (q0 q1 q2 q : QC) (w : World) (h1 : CK w gn (zL1 q0 q1)) (h2 : CK w gd (zL6 q2)) (hq0 : q0.At w ((-1 : Int) : Rat)) (hq1 : q1.At w ((1 : Int) : Rat)) (hq2 : q2.At w ((1 : Int) : Rat)) (hq : q.At w 1) :
  Ca 49 #[.agg (Z1A q), .agg (Z3q gn cn gd cd)] w (Zcc w (-1)) := by
 have L1 := h1.lt
 have L2 := h2.lt
 have H0 := zH hq0
 have H1 := zH hq1
 have H2 := zH hq2
 have H3 := zH hq
 have hflag : Z53 1 := trivial
 clear hq0 hq1 hq2 hq
 dsimp only [Z1A, Z3q]
 go_enter func49, ntmps49
 go_wp2_with (
  first
  | (go_at_call 117; (with_reducible refine (Z8s gn gd cn cd q0 q1 q2 q _ CX CX QX QX QX QX).mono ?_); rintro e w1 ⟨g1, g2, d1, d2, a, b, c, rfl, hC1, hC2, ha, hb', hc, hd1, hd2, hg1, hg2, hl1, hl2, hbw1⟩; have Ha := zH ha; have Hb := zH hb'; have Hc := zH hc; clear ha hb' hc; (try simp only [SZ] at hg1 hg2); have := hbw1.sz; obtain ⟨R2, L2, F2⟩ := BC7 w1 (w.heap.size + 1 + 1))
  | ((with_reducible refine (id ?_ : wpList _ _ _ [⟨none, _, _, _, _, _⟩, _] _ _)); (have hfl : Z53 1 := (by with_reducible assumption)); clear hfl hflag; (obtain ⟨W, hWe⟩ : ∃ W, w1.alloc (.cells #[.int .i64 0, .bool false, .slice none 0 0, .bool false, .slice none 0 0, .slice none 0 0, .slice none 0 0] 70) = W := ⟨_, rfl⟩); (have RW : BK W w1.heap.size Z1T := (by rw [← hWe]; exact BY)); (have RW2 : BK W (w.heap.size + 1 + 1) Z1T := (by rw [← hWe]; exact BY)); (have EW : Ext w1 W := (by rw [← hWe]; exact EX)); rw [hWe]; clear hWe; have LW := RW.lt; have LW2 := RW2.lt; have hzW := EW.size; clear F2; have FW := RW.c7; have F2 := RW2.c7)
  | ((with_reducible refine BK.fin3 (g := w.heap.size + 1 + 1) (c := #[.int .i64 1, .bool false, .slice none 0 0, .bool false, .slice none 0 0, .slice (some ⟨g1, 0, none⟩) 1 d1, .slice (some ⟨g2, 0, none⟩) 2 d2]) (w0 := w) (T := fun W => CK W g1 (zL6 a) ∧ CK W g2 (zL1 b c) ∧ a.At W ((1 : Int) : Rat) ∧ b.At W ((-1 : Int) : Rat) ∧ c.At W ((1 : Int) : Rat) ∧ g1 < W.heap.size ∧ g2 < W.heap.size) ?_ ?_ ?_ ?_); exact BY; exact EX; exact ⟨CX, CX, QX, QX, QX, by (try simp only [SZ]); omega, by (try simp only [SZ]); omega⟩; intro W U E hT; have Fu := U.c7; obtain ⟨t0, t1, t2, t3, t4, t5, t6⟩ := hT; refine bodyPost_ret (v := .agg (Z0M g1 d1 g2 d2)) (by simp [Z0M, results, results49, go_sem, Fu]) rfl ⟨g1, g2, d1, d2, a, b, c, rfl, t0, t1, t2, t3, t4, hd1, hd2, by omega, by omega, t5, t6, E⟩))
end Go.Proofs.YtnmmncccpdffaaaGreat
