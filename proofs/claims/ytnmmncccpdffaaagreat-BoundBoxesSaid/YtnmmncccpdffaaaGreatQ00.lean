/- What BoundBoxes calls, part 0. -/
import Derived.Test.YtnmmncccpdffaaaGreatProg
import Derived.WalkKit
import Derived.WalkSpells
import Derived.WalkLawsBesides
import Derived.Lib.Hide
import Derived.Deep.QuietTactic
import Derived.BigQuiet
import Derived.Deep.RegionHeld3
import Derived.OrdersIn
import Derived.Below
import Derived.Laws.CopyOwn
import Derived.Laws.MakeOwn
import Derived.Shelf.Spec.BitsCarry
import Derived.Shelf.Abstract
set_option linter.unusedVariables false
set_option linter.unusedSimpArgs false
set_option maxRecDepth 100000
set_option maxHeartbeats 16000000
namespace Go.Proofs.YtnmmncccpdffaaaGreat
open Go Go.RowKit
@[go_sem] abbrev zC (w : World) (g i : Nat) (v : Value) : Prop := w.cell? ⟨g, i, none⟩ = some v
theorem zH {p : Prop} (h : p) : Hid p := h
abbrev Ca (f : FuncId) (args : Array Value) (w : World) (R : Ending → World → Prop) : Prop := Calls Tryz.prog f args w R
theorem Z0a : Tryz.prog.follows .mixedOrders = true := by kernel_rfl
theorem LY : (∀ (a : Act) d v, a.put (some d) v = { tmps := a.tmps.setIfInBounds d v, defers := a.defers }) ∧ (∀ (a : Act) v, a.put none v = a) ∧ (∀ (l : List Value) (i : Nat) (a : Value), l.toArray.setIfInBounds i a = (l.set i a).toArray) ∧ (∀ (x : Value) xs a, (x :: xs).set 0 a = a :: xs) ∧ (∀ (x : Value) xs i a, (x :: xs).set (i + 1) a = x :: xs.set i a) :=
 ⟨fun _ _ _ => rfl, fun _ _ => rfl, fun _ _ _ => by simp, fun _ _ _ => rfl, fun _ _ _ _ => rfl⟩
theorem SA : (∀ (w : World) o, (w.alloc o).heap.size = w.heap.size + 1) ∧ (∀ (w : World) a v, (w.setCell a v).heap.size = w.heap.size) := ⟨World.size_alloc, World.size_setCell⟩
theorem SZ : (∀ (w : World) o, (w.alloc o).heap.size = w.heap.size + 1) ∧ (∀ (w : World) a v, (w.setCell a v).heap.size = w.heap.size) ∧ (∀ (w : World), w.drew.heap.size = w.heap.size) := ⟨World.size_alloc, World.size_setCell, fun _ => rfl⟩
def ZW (K : Act → World → Prop) : Exit → Act → World → Prop
 | .normal, a, w => K a w
 | _, _, _ => False
section
variable {P : Program} {md : Region.Mode} {ops : Array Oper} {Q : Exit → Act → World → Prop} {S : World → Prop} {f : Nat}
def Z0d (P : Program) (md : Region.Mode) (ops : Array Oper) (Q : Exit → Act → World → Prop) (S : World → Prop) (f : Nat) : Nat → Array Bool → Act → World → Prop
 | 0, listed, a, w => Region.ready md ops listed = [] ∧ Q .normal a w
 | n + 1, listed, a, w =>
  (Region.ready md ops listed = [] → Q .normal a w) ∧
  ∀ i ∈ Region.ready md ops listed, wpOp P ops Q i (fun a' w' => (i ≠ f → listed.getD f true = false → S w') ∧ Z0d P md ops Q S f n (listed.setIfInBounds i true) a' w') a w
theorem Z0d.any : ∀ (n : Nat) (listed : Array Bool) (a : Act) (w : World), Z0d P md ops Q S f n listed a w → wpAny P md ops Q n listed a w
 | 0, _, _, _, h => h
 | n + 1, _, _, _, h => ⟨h.1, fun i hi => wpOp_mono (fun a' w' h' => Z0d.any n _ a' w' h'.2) (h.2 i hi)⟩
def Z2I (md : Region.Mode) (ops : Array Oper) (f i : Nat) : Bool := match ops[f]? with | some o => o.after.any fun e => Region.binds md e && e.on == i | none => true
theorem Z5h {i : Nat} {oj : Oper} (h : Z2I md ops f i = true) (ho : ops[f]? = some oj) : ∃ e ∈ oj.after, Region.binds md e = true ∧ e.on = i := by
 unfold Z2I at h
 rw [ho] at h
 obtain ⟨k, hk, he⟩ := Array.any_iff_exists.1 h
 simp only [Bool.and_eq_true, beq_iff_eq] at he
 exact ⟨_, Array.getElem_mem hk, he.2.2⟩
theorem Z0d.first {i : Nat} {oi : Oper} {v : Value} (hi : ops[i]? = some oi) (hsel : ∀ (j : Nat) (o : Oper) cs b, ops[j]? = some o → o.op ≠ .select cs b) (hne : i ≠ f) (hwf : Z2I md ops f i = true)
  (hQ : ∀ c a w, Q (.panic c) (a.put oi.dst v) w → Q (.panic c) a w) :
  ∀ (n : Nat) (listed : Array Bool) (a : Act) (w : World),
   (∀ j oj, ops[j]? = some oj → j ≠ i → listed.getD j true = false → (∀ e ∈ oj.after, Region.binds md e = true → e.on ≠ i) → oi.apart ops oj = true) →
   i ∈ Region.ready md ops listed → listed.getD f true = false → YieldsIf P ops S oi v a → S w →
   Z0d P md ops Q S f n (listed.setIfInBounds i true) (a.put oi.dst v) w → Z0d P md ops Q S f (n + 1) listed a w := by
 intro n
 induction n with
 | zero =>
  intro listed a w _ hr hlf hy hS H
  refine ⟨fun h => (by rw [h] at hr; cases hr), fun j hj => ?_⟩
  by_cases hji : j = i
  ·subst hji; exact hy.wpOp hi hS ⟨fun _ _ => hS, H⟩
  ·have h9 := ready_mono hj hji
   rw [H.1] at h9
   cases h9
 | succ n ih =>
  intro listed a w hfree hr hlf hy hS H
  refine ⟨fun h => (by rw [h] at hr; cases hr), fun j hj => ?_⟩
  by_cases hji : j = i
  ·subst hji; exact hy.wpOp hi hS ⟨fun _ _ => hS, H⟩
  ·have h1 := H.2 j (ready_mono hj hji)
   obtain ⟨hjun, oj, hoj, hall⟩ := mem_ready.1 hj
   have hnot : ∀ e ∈ oj.after, Region.binds md e = true → e.on ≠ i := fun e he hb heq => by
    have h2 := hall e he hb
    have h0 := (mem_ready.1 hr).1
    rw [heq] at h2
    rcases Nat.lt_or_ge i listed.size with h' | h'
    ·simp [h'] at h0 h2; rw [h0] at h2; cases h2
    ·simp [Array.getElem?_eq_none h'] at h2
   have hjf : j ≠ f := by
    rintro rfl
    obtain ⟨e, he, hb, hon⟩ := Z5h hwf hoj
    exact hnot e he hb hon
   have h2 := wpOp_putIf hoj (hfree j oj hoj hji hjun hnot) (fun cs b => hsel i oi cs b hi) (fun cs b => hsel j oj cs b hoj) hQ hy h1
   have hfree' : ∀ k ok, ops[k]? = some ok → k ≠ i → (listed.setIfInBounds j true).getD k true = false →
     (∀ e ∈ ok.after, Region.binds md e = true → e.on ≠ i) → oi.apart ops ok = true := fun k ok hk hki hun hno => by
    refine hfree k ok hk hki ?_ hno
    by_cases hjk : j = k
    ·subst hjk; exact hjun
    ·rw [getD_set_ne true hjk] at hun; exact hun
   have hlf' : (listed.setIfInBounds j true).getD f true = false := by rw [getD_set_ne true hjf]; exact hlf
   have hlf2 : (listed.setIfInBounds i true).getD f true = false := by rw [getD_set_ne true hne]; exact hlf
   refine wpOp_mono (fun a' w' h3 => ⟨fun e _ => h3.2.1 e hlf2, ih (listed.setIfInBounds j true) a' w' hfree' (ready_mono hr (Ne.symm hji)) hlf' h3.1 (h3.2.1 hjf hlf2) ?_⟩) h2
   rw [Array.setIfInBounds_comm _ _ hji]
   exact h3.2.2
theorem Z0d.done {listed : Array Bool} {a : Act} {w : World} (hr : Region.ready md ops listed = []) (h : Q .normal a w) : ∀ n, Z0d P md ops Q S f n listed a w
 | 0 => ⟨hr, h⟩
 | _ + 1 => ⟨fun _ => h, by rw [hr]; simp⟩
def Z54 (P : Program) (md : Region.Mode) (ops : Array Oper) (Q : Exit → Act → World → Prop) (S : World → Prop) (f n : Nat) (listed : Array Bool) (a : Act) (w : World) (rs : List Nat) : Prop :=
 ∀ i ∈ rs, wpOp P ops Q i (fun a' w' => (i ≠ f → listed.getD f true = false → S w') ∧ Z0d P md ops Q S f n (listed.setIfInBounds i true) a' w') a w
theorem Z54.nil {n : Nat} {listed : Array Bool} {a : Act} {w : World} : Z54 P md ops Q S f n listed a w [] := fun _ h => by cases h
theorem ARU {n : Nat} {listed : Array Bool} {a : Act} {w : World} {i : Nat} {o : Oper} {rs : List Nat}
  (h : ∀ K' : Act → World → Prop, Shut (∀ a w, S w → (S w → Z0d P md ops Q S f n (listed.setIfInBounds i true) a w) → K' a w) → if Region.wanted o (yielded ops a.tmps) = true then Oper.wp P o a w K' Q else K' (a.put o.dst undef) w)
  (hs : Z54 P md ops Q S f n listed a w rs) (ho : ops[i]? = some o := by first | (simp only [List.getElem?_toArray, List.getElem?_cons_succ, List.getElem?_cons_zero]; done) | (simp only [List.getElem?_toArray, List.getElem?_cons_succ, List.getElem?_cons_zero]; rfl)) : Z54 P md ops Q S f n listed a w (i :: rs) := fun j hj => by
 rcases List.mem_cons.1 hj with rfl | hj
 ·exact wpOp_step ho (fun K' hK => h K' (fun a w hS hW => hK a w ⟨fun _ _ => hS, hW hS⟩))
 ·exact hs j hj
theorem ARL {n : Nat} {listed : Array Bool} {a : Act} {w : World} {o : Oper}
  (h : ∀ K' : Act → World → Prop, Shut (∀ a w, Z0d P md ops Q S f n (listed.setIfInBounds f true) a w → K' a w) → if Region.wanted o (yielded ops a.tmps) = true then Oper.wp P o a w K' Q else K' (a.put o.dst undef) w)
  (ho : ops[f]? = some o := by first | (simp only [List.getElem?_toArray, List.getElem?_cons_succ, List.getElem?_cons_zero]; done) | (simp only [List.getElem?_toArray, List.getElem?_cons_succ, List.getElem?_cons_zero]; rfl)) : Z54 P md ops Q S f n listed a w [f] := fun j hj => by
 rcases List.mem_cons.1 hj with rfl | hj
 ·exact wpOp_step ho (fun K' hK => h K' (fun a w hW => hK a w ⟨fun e _ => absurd rfl e, hW⟩))
 ·cases hj
theorem ARP {n : Nat} {listed : Array Bool} {a : Act} {w : World} {i : Nat} {o : Oper}
  (h : ∀ K' : Act → World → Prop, Shut (∀ a w, Z0d P md ops Q S f n (listed.setIfInBounds i true) a w → K' a w) → if Region.wanted o (yielded ops a.tmps) = true then Oper.wp P o a w K' Q else K' (a.put o.dst undef) w)
  (ho : ops[i]? = some o := by first | (simp only [List.getElem?_toArray, List.getElem?_cons_succ, List.getElem?_cons_zero]; done) | (simp only [List.getElem?_toArray, List.getElem?_cons_succ, List.getElem?_cons_zero]; rfl)) (hl : listed.getD f true = true := by rfl) : Z54 P md ops Q S f n listed a w [i] := fun j hj => by
 rcases List.mem_cons.1 hj with rfl | hj
 ·exact wpOp_step ho (fun K' hK => h K' (fun a w hW => hK a w ⟨fun _ e => (by rw [hl] at e; cases e), hW⟩))
 ·cases hj
theorem KOP {n : Nat} {listed : Array Bool} {i : Nat} {K : Act → World → Prop} (hK : Shut (∀ a w, Z0d P md ops Q S f n (listed.setIfInBounds i true) a w → K a w)) {a : Act} {w : World}
  (h : Z0d P md ops Q S f n (listed.setIfInBounds i true) a w) : K a w := hK.out a w h
theorem RDU {n : Nat} {listed : Array Bool} {a : Act} {w : World} (rs : List Nat) (h : Z54 P md ops Q S f n listed a w rs)
  (hr : Region.ready md ops listed = rs := by kernel_rfl) (hne : rs ≠ [] := by simp) : Z0d P md ops Q S f (n + 1) listed a w := ⟨fun h0 => absurd (hr ▸ h0) hne, hr ▸ h⟩
theorem TKU {oi : Oper} {v : Value} {n : Nat} {listed : Array Bool} {a : Act} {w : World} (i : Nat) (h : Z0d P md ops Q S f n (listed.setIfInBounds i true) (a.put oi.dst v) w)
  (hi : ops[i]? = some oi := by first | (simp only [List.getElem?_toArray, List.getElem?_cons_succ, List.getElem?_cons_zero]; done) | (simp only [List.getElem?_toArray, List.getElem?_cons_succ, List.getElem?_cons_zero]; rfl))
  (hs : Region.noSelect ops = true := by kernel_rfl) (hf : Region.free md ops listed i = true := by kernel_rfl) (hr : (Region.ready md ops listed).contains i = true := by kernel_rfl) (hne : i ≠ f := by decide) (hwf : Z2I md ops f i = true := by kernel_rfl)
  (hQ : ∀ c a w, Q (.panic c) (a.put oi.dst v) w → Q (.panic c) a w := by exact fun _ _ _ h => h) (hy : YieldsIf P ops S oi v a := by exact Or.inl ⟨by rfl, by (intro w hSw; (try dsimp only at hSw); go_simp; (try with_reducible rfl))⟩) (hS : S w := by assumption) (hlf : listed.getD f true = false := by rfl) : Z0d P md ops Q S f (n + 1) listed a w :=
 Z0d.first hi (Region.noSelect_spec hs) hne hwf hQ n listed a w (Region.free_spec hi hf) (by simpa using hr) hlf hy hS h
theorem R1U {n : Nat} {listed : Array Bool} {a : Act} {w : World} {o : Oper} (i : Nat)
  (h : ∀ K' : Act → World → Prop, Shut (∀ a w, S w → (S w → Z0d P md ops Q S f n (listed.setIfInBounds i true) a w) → K' a w) → if Region.wanted o (yielded ops a.tmps) = true then Oper.wp P o a w K' Q else K' (a.put o.dst undef) w)
  (ho : ops[i]? = some o := by first | (simp only [List.getElem?_toArray, List.getElem?_cons_succ, List.getElem?_cons_zero]; done) | (simp only [List.getElem?_toArray, List.getElem?_cons_succ, List.getElem?_cons_zero]; rfl)) (hr : Region.ready md ops listed = [i] := by kernel_rfl) : Z0d P md ops Q S f (n + 1) listed a w := RDU [i] (ARU h Z54.nil ho) hr
theorem KOU {n : Nat} {listed : Array Bool} {i : Nat} {K : Act → World → Prop} (hK : Shut (∀ a w, S w → (S w → Z0d P md ops Q S f n (listed.setIfInBounds i true) a w) → K a w)) {a : Act} {w : World}
  (h : S w → Z0d P md ops Q S f n (listed.setIfInBounds i true) a w) (hS : S w := by exact KPH) : K a w := hK.out a w hS h
theorem KOL {n : Nat} {listed : Array Bool} {K : Act → World → Prop} (hK : Shut (∀ a w, Z0d P md ops Q S f n (listed.setIfInBounds f true) a w → K a w)) {a : Act} {w : World}
  (h : Z0d P md ops Q S f n (listed.setIfInBounds f true) a w) : K a w := hK.out a w h
end
theorem Zu {P : Program} {id : Nat} {ops : Array Oper} {Q : Exit → Act → World → Prop} {a : Act} {w : World} (f : Nat) (N : Act → World → Prop) (S : World → Prop) (hm : P.follows .mixedOrders = true) (hN : ∀ a w, N a w → Q .normal a w) (hS : S w.drew)
  (h : S w.drew → Z0d P .any ops (ZW N) S f ops.size (Array.replicate ops.size false) a w.drew) : (Code.region id ops true).wp P Q a w :=
 Code.wp_mono (by
  rintro e a w h
  cases e with
  | normal => exact hN _ _ h
  | ret => exact h.elim
  | exit id => exact h.elim
  | goto t => exact h.elim
  | panic ch => exact h.elim
  | outgrown => exact h.elim) (wp_region_any hm (Z0d.any _ _ _ _ (h hS)))
theorem Z1B {P : Program} {id : Nat} {ops : Array Oper} {Q : Exit → Act → World → Prop} {a : Act} {w : World} (f : Nat) (S : World → Prop) (hm : P.follows .mixedOrders = true) (hS : S w.drew)
  (h : S w.drew → Z0d P .any ops (ZW (Q .normal)) S f ops.size (Array.replicate ops.size false) a w.drew) : (Code.region id ops true).wp P Q a w := Zu f (Q .normal) S hm (fun _ _ h => h) hS h
section
variable {P : Program} {md : Region.Mode} {ops : Array Oper} {Q : Exit → Act → World → Prop} {S : World → Prop} {f : Nat}
theorem TU {oi : Oper} {v : Value} {n : Nat} {listed : Array Bool} {a a2 : Act} {w : World} (i : Nat) (h : Z0d P md ops Q S f n (listed.setIfInBounds i true) a2 w)
  (hi : ops[i]? = some oi := by first | (simp only [List.getElem?_toArray, List.getElem?_cons_succ, List.getElem?_cons_zero]; done) | (simp only [List.getElem?_toArray, List.getElem?_cons_succ, List.getElem?_cons_zero]; rfl))
  (hs : Region.noSelect ops = true := by kernel_rfl) (hf : Region.free md ops listed i = true := by kernel_rfl) (hr : (Region.ready md ops listed).contains i = true := by kernel_rfl) (hne : i ≠ f := by decide) (hwf : Z2I md ops f i = true := by kernel_rfl)
  (hQ : ∀ c a w, Q (.panic c) (a.put oi.dst v) w → Q (.panic c) a w := by exact fun _ _ _ h => h) (hy : YieldsIf P ops S oi v a := by exact Or.inl ⟨by rfl, by (intro w hSw; (try dsimp only at hSw); go_simp; (try with_reducible rfl))⟩) (hS : S w := by assumption) (e : a.put oi.dst v = a2 := by first | (simp only [LY]; rfl) | rfl) (hlf : listed.getD f true = false := by rfl) : Z0d P md ops Q S f (n + 1) listed a w :=
 TKU i (e ▸ h) hi hs hf hr hne hwf hQ hy hS hlf
theorem KU {n : Nat} {listed : Array Bool} {i : Nat} {K : Act → World → Prop} {a a2 : Act} {w : World} (hK : Shut (∀ a w, S w → (S w → Z0d P md ops Q S f n (listed.setIfInBounds i true) a w) → K a w))
  (h : S w → Z0d P md ops Q S f n (listed.setIfInBounds i true) a2 w) (hS : S w := by exact KQ) (e : a = a2 := by first | (simp only [LY]; rfl) | rfl) : K a w := hK.out a w hS (fun s => e ▸ h s)
theorem KUL {n : Nat} {listed : Array Bool} {K : Act → World → Prop} {a a2 : Act} {w : World} (hK : Shut (∀ a w, Z0d P md ops Q S f n (listed.setIfInBounds f true) a w → K a w))
  (h : Z0d P md ops Q S f n (listed.setIfInBounds f true) a2 w) (e : a = a2 := by first | (simp only [LY]; rfl) | rfl) : K a w := hK.out a w (e ▸ h)
end
open Go.Proofs.Tryz
abbrev B32 : Nat := 4294967296
def val : List Nat → Nat
 | [] => 0
 | x :: r => x + B32 * val r
def WOk (ws : List Nat) : Prop := ∀ x ∈ ws, x < B32
def Z0W (ws : List Nat) : Prop := ws = [] ∨ ws.getD (ws.length - 1) 0 ≠ 0
def Z7 (n : Nat) : List Nat := if _h : n = 0 then [] else n % B32 :: Z7 (n / B32)
termination_by n
decreasing_by exact Nat.div_lt_self (Nat.pos_of_ne_zero _h) (by decide)
theorem Zp : Z7 0 = [] := by rw [Z7]; rfl
theorem Z13 {n : Nat} (h : n ≠ 0) : Z7 n = n % B32 :: Z7 (n / B32) := by rw [Z7]; simp [h]
theorem Z9 (n : Nat) : val (Z7 n) = n := by
 induction n using Nat.strongRecOn with
 | ind n ih =>
  by_cases h : n = 0
  ·subst h; rw [Zp]; rfl
  ·rw [Z13 h, val, ih (n / B32) (Nat.div_lt_self (Nat.pos_of_ne_zero h) (by decide))]
   exact Nat.mod_add_div n B32
theorem Z0f (n : Nat) : WOk (Z7 n) := by
 induction n using Nat.strongRecOn with
 | ind n ih =>
  by_cases h : n = 0
  ·subst h; rw [Zp]; intro x hx; simp at hx
  ·rw [Z13 h]; intro x hx
   rcases List.mem_cons.1 hx with rfl | hx
   ·exact Nat.mod_lt _ (by decide)
   ·exact ih _ (Nat.div_lt_self (Nat.pos_of_ne_zero h) (by decide)) x hx
theorem Z0k {n : Nat} (h : n ≠ 0) : Z7 n ≠ [] := by rw [Z13 h]; simp
theorem Zb (n : Nat) : Z0W (Z7 n) := by
 induction n using Nat.strongRecOn with
 | ind n ih =>
  by_cases h : n = 0
  ·subst h; rw [Zp]; exact .inl rfl
  ·refine .inr ?_
   rw [Z13 h]
   have := ih (n / B32) (Nat.div_lt_self (Nat.pos_of_ne_zero h) (by decide))
   by_cases h2 : n / B32 = 0
   ·rw [h2, Zp]; simp only [B32] at h2 ⊢; simp; omega
   ·rcases this with e | e
    ·exact absurd e (Z0k h2)
    ·have hl : 0 < (Z7 (n / B32)).length := List.length_pos_iff.2 (Z0k h2)
     have : (n % B32 :: Z7 (n / B32)).length - 1 = (Z7 (n / B32)).length - 1 + 1 := by simp; omega
     rw [this]; simpa using e
theorem Z08 {ws : List Nat} (h : WOk ws) : val ws < B32 ^ ws.length := by
 induction ws with
 | nil => simp [val]
 | cons x r ih =>
  have hx := h x (by simp)
  have hr := ih (fun y hy => h y (by simp [hy]))
  simp only [val, List.length_cons, Nat.pow_succ]
  have : B32 * val r + B32 ≤ B32 * B32 ^ r.length := by
   rw [← Nat.mul_succ]; exact Nat.mul_le_mul_left _ hr
  rw [Nat.mul_comm (B32 ^ _)]
  omega
theorem Zx (a b : List Nat) : val (a ++ b) = val a + B32 ^ a.length * val b := by
 induction a with
 | nil => simp [val]
 | cons x r ih =>
  simp only [List.cons_append, val, ih, List.length_cons, Nat.pow_succ, Nat.mul_add]
  rw [Nat.mul_comm (B32 ^ r.length) B32, Nat.mul_assoc, Nat.add_assoc]
theorem Z1E (n : Nat) : val (List.replicate n 0) = 0 := by
 induction n with
 | zero => rfl
 | succ n ih => simp [List.replicate_succ, val, ih]
theorem Z2B {ws : List Nat} (h : WOk ws) (ht : Z0W ws) : Z7 (val ws) = ws := by
 induction ws with
 | nil => exact Zp
 | cons x r ih =>
  have hx := h x (by simp)
  have hr : WOk r := fun y hy => h y (by simp [hy])
  have hn : val (x :: r) ≠ 0 := by
   intro h0
   simp only [val] at h0
   have h1 : x = 0 := by omega
   have h2 : val r = 0 := by
    rcases Nat.mul_eq_zero.1 (show B32 * val r = 0 by omega) with h | h
    ·exact absurd h (by decide)
    ·exact h
   rcases ht with e | e
   ·simp at e
   ·by_cases hr0 : r = []
    ·subst hr0; simp at e; omega
    ·have ht' : Z0W r := by
      refine .inr ?_
      have hl : 0 < r.length := List.length_pos_iff.2 hr0
      have : (x :: r).length - 1 = r.length - 1 + 1 := by simp; omega
      rw [this] at e; simpa using e
     have := ih hr ht'
     rw [h2, Zp] at this
     exact hr0 this.symm
  rw [Z13 hn]
  have e1 : val (x :: r) % B32 = x := by
   simp only [val]; rw [Nat.add_mul_mod_self_left, Nat.mod_eq_of_lt hx]
  have e2 : val (x :: r) / B32 = val r := by
   simp only [val]; rw [Nat.add_mul_div_left _ _ (by decide), Nat.div_eq_of_lt hx, Nat.zero_add]
  rw [e1, e2]
  by_cases hr0 : r = []
  ·subst hr0; rw [show val [] = 0 from rfl, Zp]
  ·have ht' : Z0W r := by
    refine .inr ?_
    rcases ht with e | e
    ·simp at e
    ·have hl : 0 < r.length := List.length_pos_iff.2 hr0
     have : (x :: r).length - 1 = r.length - 1 + 1 := by simp; omega
     rw [this] at e; simpa using e
   rw [ih hr ht']
theorem Z0A {n k : Nat} (h : n < B32 ^ k) : (Z7 n).length ≤ k := by
 induction k generalizing n with
 | zero =>
  have : n = 0 := by simp at h; exact h
  subst this; rw [Zp]; simp
 | succ k ih =>
  by_cases h0 : n = 0
  ·subst h0; rw [Zp]; simp
  ·rw [Z13 h0, List.length_cons]
   have : n / B32 < B32 ^ k := by
    rw [Nat.div_lt_iff_lt_mul (by decide)]; rwa [Nat.pow_succ] at h
   have := ih this; omega
theorem Z0H {n k : Nat} (h : (Z7 n).length ≤ k) : n < B32 ^ k := by
 have := Z08 (Z0f n)
 rw [Z9] at this
 exact Nat.lt_of_lt_of_le this (Nat.pow_le_pow_right (by decide) h)
theorem Z3p {n k : Nat} (h1 : B32 ^ k ≤ n) (h2 : n < B32 ^ (k + 1)) : (Z7 n).length = k + 1 := by
 have h3 := Z0A h2
 by_cases h : (Z7 n).length ≤ k
 ·have := Z0H h; omega
 ·omega
def sg (z : Int) : Bool := decide (z < 0)
def ws (z : Int) : List Nat := Z7 z.natAbs
def wl (z : Int) : Nat := (ws z).length
theorem Z70 (z : Int) : wl z = (Z7 z.natAbs).length := rfl
def Z1g (a b : Nat) : Int := if a < b then -1 else if b < a then 1 else 0
theorem Zd {l : List Nat} (h : WOk l) (j : Nat) : l.getD j 0 < B32 := by
 rw [List.getD_eq_getElem?_getD]
 by_cases hj : j < l.length
 ·rw [List.getElem?_eq_getElem hj]; exact h _ (List.getElem_mem _)
 ·rw [List.getElem?_eq_none (by omega)]; decide
theorem ZR (l : List Nat) (j : Nat) (h : j < l.length) : val (l.drop j) = l.getD j 0 + B32 * val (l.drop (j + 1)) := by
 rw [List.drop_eq_getElem_cons h, val, List.getD_eq_getElem?_getD, List.getElem?_eq_getElem h]; rfl
theorem Zn (l : List Nat) (j : Nat) (h : j ≤ l.length) : val l = val (l.take j) + B32 ^ j * val (l.drop j) := by
 have := Zx (l.take j) (l.drop j)
 rw [List.take_append_drop, List.length_take, Nat.min_eq_left h] at this
 exact this
theorem WOk.take {l : List Nat} (h : WOk l) (j : Nat) : WOk (l.take j) := fun x hx => h x (List.mem_of_mem_take hx)
theorem WOk.drop {l : List Nat} (h : WOk l) (j : Nat) : WOk (l.drop j) := fun x hx => h x (List.mem_of_mem_drop hx)
theorem Z16 {l : List Nat} (ht : Z0W l) (hl : 0 < l.length) : B32 ^ (l.length - 1) ≤ val l := by
 rcases ht with e | e
 ·subst e; simp at hl
 ·have h1 := Zn l (l.length - 1) (by omega)
  have h2 := ZR l (l.length - 1) (by omega)
  have : val (l.drop (l.length - 1)) ≥ 1 := by
   have : 1 ≤ l.getD (l.length - 1) 0 := Nat.pos_of_ne_zero e
   omega
  have := Nat.mul_le_mul_left (B32 ^ (l.length - 1)) this
  omega
theorem Z1t {a b : List Nat} (ha : WOk a) (hb : Z0W b) (h : a.length < b.length) : val a < val b := by
 have h1 := Z08 ha
 have h2 := Z16 hb (by omega)
 have h3 : B32 ^ a.length ≤ B32 ^ (b.length - 1) := Nat.pow_le_pow_right (by decide) (by omega)
 omega
theorem Z4Q {a b : Nat} (h : a < b) : Z1g a b = -1 := by simp [Z1g, h]
theorem Z4R {a b : Nat} (h : b < a) : Z1g a b = 1 := by simp [Z1g, h, Nat.not_lt_of_gt h]
theorem Z9c (a : Nat) : Z1g a a = 0 := by simp [Z1g]
theorem Z2L {a b : List Nat} (ha : WOk a) (m : Nat) (hm : m < a.length) (hm' : m < b.length) (he : a.drop (m + 1) = b.drop (m + 1)) (h : a.getD m 0 < b.getD m 0) : val a < val b := by
 rw [Zn a m (by omega), Zn b m (by omega), ZR a m hm, ZR b m hm', he]
 have h1 := Z08 (ha.take m)
 rw [List.length_take, Nat.min_eq_left (by omega)] at h1
 have h2 : B32 ^ m * (a.getD m 0 + B32 * val (b.drop (m + 1)) + 1) ≤ B32 ^ m * (b.getD m 0 + B32 * val (b.drop (m + 1))) := Nat.mul_le_mul_left _ (by omega)
 rw [Nat.mul_add, Nat.mul_one] at h2
 omega
def Ext (w w' : World) : Prop := Below w.heap.size w w'
theorem Ext.refl (w : World) : Ext w w := Below.refl _ _
theorem Ext.trans {a b c : World} (h : Ext a b) (k : Ext b c) : Ext a c := Below.trans h (Below.mono k h.size)
theorem Ext.alloc {a b : World} (h : Ext a b) (o : Obj) : Ext a (b.alloc o) := Below.alloc h h.size o
theorem Ext.drewN {a b : World} (h : Ext a b) (n : Nat) : Ext a (b.drewN n) := ⟨h.os, h.tape, h.output, h.size, h.block⟩
theorem Ext.drew {a b : World} (h : Ext a b) : Ext a b.drew := ⟨h.os, h.tape, h.output, h.size, h.block⟩
theorem Ext.setCell {a b : World} (h : Ext a b) {p : Addr} (hp : a.heap.size ≤ p.block) (u : Value) : Ext a (b.setCell p u) := Below.setCell h hp u
theorem EX {a b : World} (h : Ext a b := by (with_reducible (repeat (first | exact Ext.refl _ | refine Ext.alloc ?_ _ | refine Ext.drewN ?_ _ | refine Ext.drew ?_ | refine Ext.setCell ?_ (by first | exact Nat.le_refl _ | (dsimp only; omega) | omega) _ | assumption | refine Ext.trans ?_ (by assumption))))) : Ext a b := h
theorem Ext.size {a b : World} (h : Ext a b) : a.heap.size ≤ b.heap.size := Below.size h
theorem Ext.below {a b : World} (h : Ext a b) : Below a.heap.size a b := h
theorem Ext.cells {W w1 : World} (hb : Ext W w1) : (∀ b o, b < W.heap.size → w1.cell? ⟨b, o, none⟩ = W.cell? ⟨b, o, none⟩) ∧ (∀ b o, b < W.heap.size → w1.frozen? ⟨b, o, none⟩ = W.frozen? ⟨b, o, none⟩) :=
 ⟨fun b o h => hb.below.cell (p := ⟨b, o, none⟩) h, fun b o h => hb.below.frozen (p := ⟨b, o, none⟩) h⟩
def Wd (w : World) (A : Option Addr) (l : List Nat) : Prop :=
 0 < l.length → ∃ b off, A = some ⟨b, off, none⟩ ∧ ∀ j, j < l.length → w.cell? ⟨b, off + j, none⟩ = some (.int .u32 ((l.getD j 0 : Nat) : Int))
theorem Wd.ext {w w' : World} {A : Option Addr} {l : List Nat} (h : Wd w A l) (hb : Ext w w') : Wd w' A l := fun hl => by
 obtain ⟨b, off, rfl, hc⟩ := h hl
 refine ⟨b, off, rfl, fun j hj => ?_⟩
 have h0 := hc j hj
 exact (hb.below.cell (World.block_lt_of_cell? w _ h0)).trans h0
theorem Wd.nil (w : World) (A : Option Addr) : Wd w A [] := fun h => absurd h (by simp)
structure LR (w : World) (A : Option Addr) (c : Nat) (l : List Nat) : Prop where
 words : Wd w A l
 cap : l.length ≤ c
 ok : WOk l
theorem LR.ext {w w' : World} {A : Option Addr} {c : Nat} {l : List Nat} (h : LR w A c l) (hb : Ext w w') : LR w' A c l := ⟨h.words.ext hb, h.cap, h.ok⟩
theorem LR.nil (w : World) (A : Option Addr) (c : Nat) : LR w A c [] := ⟨Wd.nil _ _, by simp, by intro x hx; simp at hx⟩
abbrev IR (w : World) (A : Option Addr) (c : Nat) (z : Int) : Prop := LR w A c (ws z)
abbrev iv (z : Int) (A : Option Addr) (c : Nat) : Value := .agg #[.bool (sg z), .slice A (wl z) c]
def wv (x : Nat) : Value := .int .u32 (x : Int)
def ZZ (l : List Nat) : Obj := .cells (l.map wv).toArray 131 (0, 0)
def Blk (w : World) (g : Nat) (l : List Nat) : Prop := w.heap[g]? = some (ZZ l)
theorem Blk.lt {w : World} {g : Nat} {l : List Nat} (h : Blk w g l) : g < w.heap.size := (Array.getElem?_eq_some_iff.1 h).1
theorem Blk.ext {w w' : World} {g : Nat} {l : List Nat} (h : Blk w g l) (hb : Ext w w') : Blk w' g l := (hb.below.block g h.lt).trans h
theorem Blk.new (w : World) (l : List Nat) : Blk (w.alloc (ZZ l)) w.heap.size l := by show (w.heap.push _)[w.heap.size]? = _; simp
theorem ZY {k : IntKind} {a b : Int} (h : a = b) : Ending.returned (.int k a) = .returned (.int k b) := by rw [h]
theorem Tryz.info_u32 : (Tryz.prog.info? 131).map (fun i => (i.zero, i.size, i.bytes)) = some (some (.int .u32 0), 1, 4) := by kernel_rfl
theorem Tryz.size_u32 : (Tryz.prog.info? 131).map (·.size) = some 1 := by kernel_rfl
theorem Blk.cell {w : World} {g : Nat} {l : List Nat} (h : Blk w g l) (j : Nat) (hj : j < l.length) : w.cell? ⟨g, j, none⟩ = some (.int .u32 ((l.getD j 0 : Nat) : Int)) := by
 have h' : w.heap[g]? = some (.cells (l.map wv).toArray 131 (0, 0)) := h
 simp [World.cell?, h', List.getD_eq_getElem?_getD, hj, wv]
theorem Blk.frozen {w : World} {g : Nat} {l : List Nat} (h : Blk w g l) (j : Nat) : w.frozen? ⟨g, j, none⟩ = false := by
 have h' : w.heap[g]? = some (.cells (l.map wv).toArray 131 (0, 0)) := h
 simp [World.frozen?, h']
theorem Blk.wd {w : World} {g : Nat} {l : List Nat} (h : Blk w g l) (n : Nat) (hn : n ≤ l.length) : Wd w (some ⟨g, 0, none⟩) (l.take n) := fun _ => ⟨g, 0, rfl, fun j hj => by
 rw [List.length_take] at hj
 rw [Nat.zero_add, h.cell j (by omega)]
 simp [List.getD_eq_getElem?_getD, show j < n by omega]⟩
theorem Blk.lr {w : World} {g : Nat} {l : List Nat} (h : Blk w g l) (ho : WOk l) (c : Nat) (hc : l.length ≤ c) : LR w (some ⟨g, 0, none⟩) c l :=
 ⟨by have := h.wd l.length (Nat.le_refl _); rwa [List.take_length] at this, hc, ho⟩
theorem Blk.set {w : World} {g : Nat} {l : List Nat} (h : Blk w g l) (j : Nat) (x : Nat) : Blk (w.setCell ⟨g, j, none⟩ (.int .u32 (x : Int))) g (l.set j x) := by
 have h' : w.heap[g]? = some (.cells (l.map wv).toArray 131 (0, 0)) := h
 show (w.setCell ⟨g, j, none⟩ (.int .u32 (x : Int))).heap[g]? = some (.cells ((l.set j x).map wv).toArray 131 (0, 0))
 simp [World.setCell, Array.getElem?_modify, h', List.map_set, wv]
theorem Z9q (m : Nat) (z : Value) (h : z = .int .u32 0) (k : Nat) (hk : k = 1) : (Obj.cells (madeCells z.cells (m * k)) 131) = ZZ (List.replicate m 0) := by
 subst h hk
 have : madeCells (Value.int .u32 0).cells (m * 1) = ((List.replicate m 0).map wv).toArray := by
  apply Array.ext
  ·simp [size_madeCells]
  ·intro j h1 h2
   simp [madeCells, Value.cells, wv, Nat.mod_one]
 rw [this]; rfl
theorem Zcl (m : Nat) (hm : m ≤ 17179869184) (W : World) : (Instr.makeSlice 22 (.int .i64 (m : Int)) (.int .i64 (m : Int))).run Tryz.prog W = .ok (.slice (some ⟨W.heap.size, 0, none⟩) m m) (W.alloc (ZZ (List.replicate m 0))) := by
 obtain ⟨i0, hi, hz0, hz1, hz2⟩ := info_parts Tryz.info_u32
 have hb : (i0.bytes : Int) * (m : Int) ≤ 281474976710656 := by rw [hz2]; omega
 have := run_make (P := Tryz.prog) W 22 131 i0 _ Tryz.underlying22 hi hz0 .i64 .i64 m m (by omega) (by omega) hb (by omega)
 rw [this, Int.toNat_natCast, Z9q m _ rfl _ hz1]
theorem Blk.other {w w' : World} {g B : Nat} {l : List Nat} (h : Blk w g l) (hb : Below B w w') (hg : g < B) : Blk w' g l := (hb.block g hg).trans h
theorem Blk.setOther {w : World} {g : Nat} {l : List Nat} (h : Blk w g l) {p : Addr} (hp : p.block ≠ g) (u : Value) : Blk (w.setCell p u) g l :=
 (Below.heap_setCell w p u g (fun e => hp e.symm)).trans h
theorem Blk.alloc {w : World} {g : Nat} {l : List Nat} (h : Blk w g l) (o : Obj) : Blk (w.alloc o) g l := (Below.heap_alloc w o g h.lt).trans h
theorem Below.cells' {B : Nat} {W w1 : World} (hb : Below B W w1) : (∀ b o, b < B → w1.cell? ⟨b, o, none⟩ = W.cell? ⟨b, o, none⟩) ∧ (∀ b o, b < B → w1.frozen? ⟨b, o, none⟩ = W.frozen? ⟨b, o, none⟩) :=
 ⟨fun b o h => hb.cell (p := ⟨b, o, none⟩) h, fun b o h => hb.frozen (p := ⟨b, o, none⟩) h⟩
theorem Ext.of_below {a b c : World} {g : Nat} (h : Ext a b) (k : Below g b c) (hg : a.heap.size ≤ g) : Ext a c := Below.trans h (Below.mono k hg)
theorem Z1f (z : Int) (m : Nat) (e : z = m) (hm : m ≤ 17179869184) (W : World) : (Instr.makeSlice 22 (.int .i64 z) (.int .i64 z)).run Tryz.prog W = .ok (.slice (some ⟨W.heap.size, 0, none⟩) m m) (W.alloc (ZZ (List.replicate m 0))) := by
 rw [e]; exact Zcl m hm W
def Za (w w' : World) : Prop := ∀ a x, w.cell? a = some (.int .u32 x) → w'.cell? a = some (.int .u32 x)
theorem Za.refl (w : World) : Za w w := fun _ _ h => h
theorem Za.trans {a b c : World} (h : Za a b) (k : Za b c) : Za a c := fun p x hp => k p x (h p x hp)
theorem Ext.keeps {w w' : World} (h : Ext w w') : Za w w' := fun a x ha => (h.below.cell (World.block_lt_of_cell? w _ ha)).trans ha
theorem Za.alloc {a b : World} (h : Za a b) (o : Obj) : Za a (b.alloc o) := h.trans ((Ext.refl b).alloc o).keeps
theorem Za.drewN {a b : World} (h : Za a b) (n : Nat) : Za a (b.drewN n) := h.trans ((Ext.refl b).drewN n).keeps
theorem Za.setCell {a b : World} (h : Za a b) {p : Addr} (hp : ∀ x, b.cell? p ≠ some (.int .u32 x)) (u : Value) : Za a (b.setCell p u) := h.trans fun q x hq => by
 have : p ≠ q := fun e => hp x (e ▸ hq)
 exact (World.cell?_setCell_other (w := b) (a := p) (b := q) (v := u) this).trans hq
theorem KP {a b : World} (h : Za a b := by (repeat (first | (with_reducible exact Za.refl _) | (with_reducible refine Za.setCell ?_ (by intro _; simp [go_sem, hc, hf]) _) | (with_reducible refine Za.alloc ?_ _) | (with_reducible refine Za.drewN ?_ _) | (with_reducible refine Za.drew ?_) | (with_reducible exact Ext.keeps (by with_reducible assumption)) | (with_reducible refine Za.trans ?_ (Ext.keeps (by with_reducible assumption)))))) : Za a b := h
theorem LR.keep {w w' : World} {A : Option Addr} {c : Nat} {l : List Nat} (h : LR w A c l) (hb : Za w w') : LR w' A c l := ⟨fun hl => by
 obtain ⟨b, off, rfl, hc⟩ := h.words hl
 exact ⟨b, off, rfl, fun j hj => hb _ _ (hc j hj)⟩, h.cap, h.ok⟩
structure WAt (w : World) (A : Option Addr) (n c : Nat) (l : List Nat) : Prop where
 len : n = l.length
 rep : LR w A c l
theorem WAt.ext {w w' : World} {A : Option Addr} {n c : Nat} {l : List Nat} (h : WAt w A n c l) (hb : Ext w w') : WAt w' A n c l := ⟨h.len, h.rep.ext hb⟩
theorem WAt.keep {w w' : World} {A : Option Addr} {n c : Nat} {l : List Nat} (h : WAt w A n c l) (hb : Za w w') : WAt w' A n c l := ⟨h.len, h.rep.keep hb⟩
structure IAt (w : World) (s : Bool) (A : Option Addr) (n c : Nat) (z : Int) : Prop where
 sgn : s = decide (z < 0)
 rep : WAt w A n c (Z7 z.natAbs)
theorem IAt.ext {w w' : World} {s : Bool} {A : Option Addr} {n c : Nat} {z : Int} (h : IAt w s A n c z) (hb : Ext w w') : IAt w' s A n c z := ⟨h.sgn, h.rep.ext hb⟩
theorem IAt.keep {w w' : World} {s : Bool} {A : Option Addr} {n c : Nat} {z : Int} (h : IAt w s A n c z) (hb : Za w w') : IAt w' s A n c z := ⟨h.sgn, h.rep.keep hb⟩
theorem IAt.zero_iff {w : World} {s : Bool} {A : Option Addr} {n c : Nat} {z : Int} (h : IAt w s A n c z) : n = 0 ↔ z = 0 := by
 rw [h.rep.len]
 constructor
 ·intro e
  by_cases h2 : z.natAbs = 0
  ·omega
  ·exact absurd (List.eq_nil_of_length_eq_zero e) (Z0k h2)
 ·rintro rfl; rw [show (0:Int).natAbs = 0 from rfl, Zp]; rfl
theorem WAt.at {w : World} {A : Option Addr} {n c : Nat} {l : List Nat} (h : WAt w A n c l) (hn : 0 < n) : ∃ b off, A = some ⟨b, off, none⟩ ∧ b < w.heap.size ∧ ∀ j, j < n → w.cell? ⟨b, off + j, none⟩ = some (.int .u32 ((l.getD j 0 : Nat) : Int)) := by
 obtain ⟨b, off, e, hc⟩ := h.rep.words (by have := h.len; omega)
 have h0 := World.block_lt_of_cell? w _ (hc 0 (by have := h.len; omega))
 exact ⟨b, off, e, h0, fun j hj => hc j (by have := h.len; omega)⟩
abbrev Z8 : Nat := 4294967296
def isC (neg : Bool) (l : List Nat) : Bool := if l.length = 0 then !neg else decide (l.getD (l.length - 1) 0 ≠ 0)
def Z0R (z : Int) : Int := if z < 0 then -1 else if 0 < z then 1 else 0
theorem Z4L (z : Int) : isC (decide (z < 0)) (Z7 z.natAbs) = true := by
 unfold isC
 by_cases h : (Z7 z.natAbs).length = 0
 ·have : z.natAbs = 0 := by
   by_cases h2 : z.natAbs = 0
   ·exact h2
   ·exact absurd (List.eq_nil_of_length_eq_zero h) (Z0k h2)
  have : z = 0 := by omega
  subst this; rw [if_pos h]; rfl
 ·rw [if_neg h]
  rcases Zb z.natAbs with e | e
  ·exact absurd (by rw [e]; rfl) h
  ·exact decide_eq_true e
def sgd (s : Bool) (n : Nat) : Int := if s then -(n : Int) else n
theorem IAt.of_words {w : World} {s : Bool} {A : Option Addr} {n c : Nat} {l : List Nat} (h : WAt w A n c l) (hi : isC s l = true) : IAt w s A n c (sgd s (val l)) := by
 have ht : Z0W l := by
  unfold isC at hi
  by_cases h0 : l.length = 0
  ·exact .inl (List.eq_nil_of_length_eq_zero h0)
  ·rw [if_neg h0] at hi; exact .inr (of_decide_eq_true hi)
 have hv : (sgd s (val l)).natAbs = val l := by unfold sgd; split <;> omega
 refine ⟨?_, by rw [hv, Z2B h.rep.ok ht]; exact h⟩
 unfold isC at hi
 by_cases h0 : l.length = 0
 ·rw [if_pos h0] at hi
  have : l = [] := List.eq_nil_of_length_eq_zero h0
  subst this
  cases s
  ·rfl
  ·simp at hi
 ·have : val l ≠ 0 := by
   have := Z16 ht (by omega)
   have : 0 < B32 ^ (l.length - 1) := Nat.pow_pos (by decide)
   omega
  unfold sgd
  cases s
  ·simp
  ·simp; omega
theorem Z2M {z : Int} (h : z = 0) : Z0R z = 0 := by subst h; rfl
theorem Z1x {z : Int} (h : z < 0) : Z0R z = -1 := by simp [Z0R, h]
theorem Z00 {z : Int} (h : 0 < z) : Z0R z = 1 := by simp [Z0R, h]; omega
def Z1F (w : World) (z : Int) (e : Ending) (w' : World) : Prop := ∃ s A n c, e = .returned (.agg #[.bool s, .slice A n c]) ∧ IAt w' s A n c z ∧ Ext w w'
def Zb3 (w : World) (l : List Nat) (e : Ending) (w' : World) : Prop := ∃ A n c, e = .returned (.slice A n c) ∧ WAt w' A n c l ∧ Ext w w'
theorem IAt.zero (w : World) (s : Bool) : IAt w false none 0 0 (sgd s 0) := by
 have : sgd s 0 = 0 := by unfold sgd; split <;> rfl
 rw [this]
 refine ⟨rfl, ?_, ?_⟩
 ·rw [show (0:Int).natAbs = 0 from rfl, Zp]; rfl
 ·rw [show (0:Int).natAbs = 0 from rfl, Zp]; exact LR.nil _ _ _
theorem Z3r {w : World} {ops : Array Oper} {rest : List Oper} {o : Oper} {a : Act} {Q : Exit → Act → World → Prop} (hgd : o.guard = none) (d s : Operand)
  (ho : o.op = .call { callee := .builtin .copy, args := #[d, s], argTypes := #[22, 22] }) (g : Nat) (l0 : List Nat) (hB : Blk w g l0)
  (A : Option Addr) (n c : Nat) (l : List Nat) (hW : WAt w A n c l) (dn dc : Nat) (hd : a.eval d = .slice (some ⟨g, 0, none⟩) dn dc) (hs : a.eval s = .slice A n c)
  (hdn : dn = l0.length) (hle : dn ≤ n)
  (h : ∀ w', Blk w' g (l.take dn) → Below g w w' → wpList Tryz.prog ops Q rest (a.put o.dst (goInt dn)) w') : wpList Tryz.prog ops Q (o :: rest) a w := by
 have hl : (l.take dn).length = dn := by rw [List.length_take]; have := hW.len; omega
 refine wpList_copy_splice hgd d s 22 22 ho 131 Tryz.underlying22 Tryz.size_u32 _ _ _ _ _ _ hd hs g 0 (l0.map wv) 131 hB ((l.take dn).map wv) ?_ ?_ ?_ ?_ g w (Below.refl _ _) (Nat.le_refl _) ?_
 ·rw [List.length_map, hl]; exact (Nat.min_eq_right hle).symm
 ·intro hp
  refine ⟨rfl, ?_⟩
  rw [List.length_map, hl] at hp
  obtain ⟨b, off, rfl, hb, hc⟩ := hW.at (by omega)
  refine ⟨_, rfl, fun j v hj => ?_⟩
  have hj1 : j < dn := by
   have := (List.getElem?_eq_some_iff.1 hj).1
   rw [List.length_map, hl] at this; exact this
  have := hc j (by omega)
  rw [show (⟨b, off, none⟩ : Addr).add j = ⟨b, off + j, none⟩ from by unfold Addr.add; split <;> simp_all, this]
  rw [List.getElem?_map, List.getElem?_take_of_lt hj1] at hj
  rw [List.getD_eq_getElem?_getD]
  have hlt : j < l.length := by have := hW.len; omega
  rw [List.getElem?_eq_getElem hlt] at hj ⊢
  simpa [wv] using hj
 ·rw [List.length_map, List.length_map, hl]; omega
 ·intro v hv
  obtain ⟨x, _, rfl⟩ := List.mem_map.1 hv
  rfl
 ·intro w' hH hb
  have e : ((List.map wv (l.take dn)).length : Int) = (dn : Int) := by rw [List.length_map, hl]
  have h2 := h w' (by
   have := hH.out
   have e2 : splice (l0.map wv) 0 ((l.take dn).map wv) = (l.take dn).map wv := by
    unfold splice
    rw [List.take_zero, List.nil_append, Nat.zero_add, List.drop_of_length_le (by rw [List.length_map, List.length_map, hl]; omega), List.append_nil]
   rw [e2] at this
   exact this) hb
  rw [e]; exact h2
theorem EC (w' W : World) {n : Nat} (h : Ext W w' := by (with_reducible (repeat (first | exact Ext.refl _ | refine Ext.alloc ?_ _ | refine Ext.drewN ?_ _ | refine Ext.drew ?_ | refine Ext.setCell ?_ (by first | exact Nat.le_refl _ | (dsimp only; omega) | omega) _ | assumption | refine Ext.trans ?_ (by assumption))))) (e : W.heap.size = n := by first | (simp only [SA, Nat.add_assoc, Nat.reduceAdd]; rfl) | rfl) :
  Ext W w' ∧ (∀ b o, b < n → w'.cell? ⟨b, o, none⟩ = W.cell? ⟨b, o, none⟩) ∧ (∀ b o, b < n → w'.frozen? ⟨b, o, none⟩ = W.frozen? ⟨b, o, none⟩) := by
 subst e
 exact ⟨h, h.cells⟩
theorem EC1 (w' w : World) {o0 : Obj} (h : Ext (w.alloc o0) w' := by (with_reducible (repeat (first | exact Ext.refl _ | refine Ext.alloc ?_ _ | refine Ext.drewN ?_ _ | refine Ext.drew ?_ | refine Ext.setCell ?_ (by first | exact Nat.le_refl _ | (dsimp only; omega) | omega) _ | assumption | refine Ext.trans ?_ (by assumption))))) : Ext (w.alloc o0) w' ∧ (∀ b o, b < w.heap.size + 1 → w'.cell? ⟨b, o, none⟩ = (w.alloc o0).cell? ⟨b, o, none⟩) ∧ (∀ b o, b < w.heap.size + 1 → w'.frozen? ⟨b, o, none⟩ = (w.alloc o0).frozen? ⟨b, o, none⟩) := EC w' (w.alloc o0) h (by simp only [SA, Nat.add_assoc, Nat.reduceAdd])
theorem EC2 (w' w : World) {o0 o1 : Obj} (h : Ext ((w.alloc o0).alloc o1) w' := by (with_reducible (repeat (first | exact Ext.refl _ | refine Ext.alloc ?_ _ | refine Ext.drewN ?_ _ | refine Ext.drew ?_ | refine Ext.setCell ?_ (by first | exact Nat.le_refl _ | (dsimp only; omega) | omega) _ | assumption | refine Ext.trans ?_ (by assumption))))) : Ext ((w.alloc o0).alloc o1) w' ∧ (∀ b o, b < w.heap.size + 2 → w'.cell? ⟨b, o, none⟩ = ((w.alloc o0).alloc o1).cell? ⟨b, o, none⟩) ∧ (∀ b o, b < w.heap.size + 2 → w'.frozen? ⟨b, o, none⟩ = ((w.alloc o0).alloc o1).frozen? ⟨b, o, none⟩) := EC w' ((w.alloc o0).alloc o1) h (by simp only [SA, Nat.add_assoc, Nat.reduceAdd])
theorem EC3 (w' w : World) {o0 o1 o2 : Obj} (h : Ext (((w.alloc o0).alloc o1).alloc o2) w' := by (with_reducible (repeat (first | exact Ext.refl _ | refine Ext.alloc ?_ _ | refine Ext.drewN ?_ _ | refine Ext.drew ?_ | refine Ext.setCell ?_ (by first | exact Nat.le_refl _ | (dsimp only; omega) | omega) _ | assumption | refine Ext.trans ?_ (by assumption))))) : Ext (((w.alloc o0).alloc o1).alloc o2) w' ∧ (∀ b o, b < w.heap.size + 3 → w'.cell? ⟨b, o, none⟩ = (((w.alloc o0).alloc o1).alloc o2).cell? ⟨b, o, none⟩) ∧ (∀ b o, b < w.heap.size + 3 → w'.frozen? ⟨b, o, none⟩ = (((w.alloc o0).alloc o1).alloc o2).frozen? ⟨b, o, none⟩) := EC w' (((w.alloc o0).alloc o1).alloc o2) h (by simp only [SA, Nat.add_assoc, Nat.reduceAdd])
theorem EC4 (w' w : World) {o0 o1 o2 o3 : Obj} (h : Ext ((((w.alloc o0).alloc o1).alloc o2).alloc o3) w' := by (with_reducible (repeat (first | exact Ext.refl _ | refine Ext.alloc ?_ _ | refine Ext.drewN ?_ _ | refine Ext.drew ?_ | refine Ext.setCell ?_ (by first | exact Nat.le_refl _ | (dsimp only; omega) | omega) _ | assumption | refine Ext.trans ?_ (by assumption))))) : Ext ((((w.alloc o0).alloc o1).alloc o2).alloc o3) w' ∧ (∀ b o, b < w.heap.size + 4 → w'.cell? ⟨b, o, none⟩ = ((((w.alloc o0).alloc o1).alloc o2).alloc o3).cell? ⟨b, o, none⟩) ∧ (∀ b o, b < w.heap.size + 4 → w'.frozen? ⟨b, o, none⟩ = ((((w.alloc o0).alloc o1).alloc o2).alloc o3).frozen? ⟨b, o, none⟩) := EC w' ((((w.alloc o0).alloc o1).alloc o2).alloc o3) h (by simp only [SA, Nat.add_assoc, Nat.reduceAdd])
theorem EC5 (w' w : World) {o0 o1 o2 o3 o4 : Obj} (h : Ext (((((w.alloc o0).alloc o1).alloc o2).alloc o3).alloc o4) w' := by (with_reducible (repeat (first | exact Ext.refl _ | refine Ext.alloc ?_ _ | refine Ext.drewN ?_ _ | refine Ext.drew ?_ | refine Ext.setCell ?_ (by first | exact Nat.le_refl _ | (dsimp only; omega) | omega) _ | assumption | refine Ext.trans ?_ (by assumption))))) : Ext (((((w.alloc o0).alloc o1).alloc o2).alloc o3).alloc o4) w' ∧ (∀ b o, b < w.heap.size + 5 → w'.cell? ⟨b, o, none⟩ = (((((w.alloc o0).alloc o1).alloc o2).alloc o3).alloc o4).cell? ⟨b, o, none⟩) ∧ (∀ b o, b < w.heap.size + 5 → w'.frozen? ⟨b, o, none⟩ = (((((w.alloc o0).alloc o1).alloc o2).alloc o3).alloc o4).frozen? ⟨b, o, none⟩) := EC w' (((((w.alloc o0).alloc o1).alloc o2).alloc o3).alloc o4) h (by simp only [SA, Nat.add_assoc, Nat.reduceAdd])
theorem EC6 (w' w : World) {o0 o1 o2 o3 o4 o5 : Obj} (h : Ext ((((((w.alloc o0).alloc o1).alloc o2).alloc o3).alloc o4).alloc o5) w' := by (with_reducible (repeat (first | exact Ext.refl _ | refine Ext.alloc ?_ _ | refine Ext.drewN ?_ _ | refine Ext.drew ?_ | refine Ext.setCell ?_ (by first | exact Nat.le_refl _ | (dsimp only; omega) | omega) _ | assumption | refine Ext.trans ?_ (by assumption))))) : Ext ((((((w.alloc o0).alloc o1).alloc o2).alloc o3).alloc o4).alloc o5) w' ∧ (∀ b o, b < w.heap.size + 6 → w'.cell? ⟨b, o, none⟩ = ((((((w.alloc o0).alloc o1).alloc o2).alloc o3).alloc o4).alloc o5).cell? ⟨b, o, none⟩) ∧ (∀ b o, b < w.heap.size + 6 → w'.frozen? ⟨b, o, none⟩ = ((((((w.alloc o0).alloc o1).alloc o2).alloc o3).alloc o4).alloc o5).frozen? ⟨b, o, none⟩) := EC w' ((((((w.alloc o0).alloc o1).alloc o2).alloc o3).alloc o4).alloc o5) h (by simp only [SA, Nat.add_assoc, Nat.reduceAdd])
theorem Ext.sz {w w' : World} {n : Nat} (h : Ext w w') (e : w.heap.size = n := by first | (simp only [SZ]; rfl) | rfl) : n ≤ w'.heap.size := e ▸ h.size
theorem KPC {a b : World} (h : Za a b := by (repeat (first | (with_reducible exact Za.refl _) | (with_reducible refine Za.alloc ?_ _) | (with_reducible refine Za.drewN ?_ _) | (with_reducible refine Za.drew ?_) | (with_reducible exact Ext.keeps (by with_reducible assumption)) | (with_reducible refine Za.trans ?_ (Ext.keeps (by with_reducible assumption))) | (with_reducible refine Za.setCell ?_ (by intro _; simp [go_sem, Z6, hc, hf]) _)))) : Za a b := h
theorem KPD {a b : World} (h : Za a b := by (repeat (first | (with_reducible exact Za.refl _) | (with_reducible refine Za.alloc ?_ _) | (with_reducible refine Za.drewN ?_ _) | (with_reducible refine Za.drew ?_) | (with_reducible exact Ext.keeps (by with_reducible assumption)) | (with_reducible refine Za.trans ?_ (Ext.keeps (by with_reducible assumption))) | (with_reducible refine Za.setCell ?_ (by intro _; simp [go_sem, Z6, hc, hf, kf]) _)))) : Za a b := h
theorem KPE {a b : World} (h : Za a b := by (repeat (first | (with_reducible exact Za.refl _) | (with_reducible refine Za.alloc ?_ _) | (with_reducible refine Za.drewN ?_ _) | (with_reducible refine Za.drew ?_) | (with_reducible exact Ext.keeps (by with_reducible assumption)) | (with_reducible refine Za.trans ?_ (Ext.keeps (by with_reducible assumption))) | (with_reducible refine Za.setCell ?_ (by intro _; simp [go_sem, Z6, kf]) _)))) : Za a b := h
theorem HX2 {Q : Prop} (h : Q := by (obtain ⟨q0, q1⟩ := ‹_ ∧ _›; simp [go_sem, q0, q1])) : Q := h
theorem HX4 {Q : Prop} (h : Q := by (obtain ⟨q0, q1, q2, q3⟩ := ‹_ ∧ _ ∧ _ ∧ _›; simp [go_sem, q0, q1, q2, q3])) : Q := h
theorem HX6 {Q : Prop} (h : Q := by (obtain ⟨q0, q1, q2, q3, q4, q5⟩ := ‹_ ∧ _ ∧ _ ∧ _ ∧ _ ∧ _›; simp [go_sem, q0, q1, q2, q3, q4, q5])) : Q := h
theorem HX8 {Q : Prop} (h : Q := by (obtain ⟨q0, q1, q2, q3, q4, q5, q6, q7⟩ := ‹_ ∧ _ ∧ _ ∧ _ ∧ _ ∧ _ ∧ _ ∧ _›; simp [go_sem, q0, q1, q2, q3, q4, q5, q6, q7])) : Q := h
theorem Zdu {Q : Prop} (h : Q := by (obtain ⟨q0, q1, q2, q3, q4, q5, q6, q7, q8, q9, q10, q11⟩ := ‹_ ∧ _ ∧ _ ∧ _ ∧ _ ∧ _ ∧ _ ∧ _ ∧ _ ∧ _ ∧ _ ∧ _›; simp [go_sem, q0, q1, q2, q3, q4, q5, q6, q7, q8, q9, q10, q11])) : Q := h
theorem Zac {Q : Prop} (h : Q := by (obtain ⟨q0, q1, q2, q3, q4, q5, q6, q7, q8, q9, q10, q11, q12, q13, q14, q15⟩ := ‹_ ∧ _ ∧ _ ∧ _ ∧ _ ∧ _ ∧ _ ∧ _ ∧ _ ∧ _ ∧ _ ∧ _ ∧ _ ∧ _ ∧ _ ∧ _›; simp [go_sem, q0, q1, q2, q3, q4, q5, q6, q7, q8, q9, q10, q11, q12, q13, q14, q15])) : Q := h
theorem HXC {Q : Prop} (h : Q := by ((repeat (cases ‹_ ∧ _›)); (repeat' (with_reducible apply And.intro)); all_goals (with_reducible (first | (refine Ext.cell (by assumption) ?_; assumption) | (refine Ext.cell (w := ?_) ?_ ?_; rotate_left 2; (focus assumption); assumption))))) : Q := h
theorem rI {V : Bool → Option Addr → Nat → Nat → Value} {w : World} {z : Int} {R : Ending → World → Prop} (k : ∀ w' s A n c, Hid (IAt w' s A n c z) → Ext w w' → R (.returned (V s A n c)) w') : ∀ e w', (∃ s A n c, e = .returned (V s A n c) ∧ IAt w' s A n c z ∧ Ext w w') → R e w' :=
 fun e w' h => by obtain ⟨s, A, n, c, rfl, h1, h2⟩ := h; exact k _ _ _ _ _ (Lib.hid h1) h2
theorem rIz {V : Bool → Option Addr → Nat → Nat → Value} {w : World} {m : Nat} {z : Int} {R : Ending → World → Prop} (k : ∀ w' s A n c, Hid (IAt w' s A n c z) → Ext w w' → m ≤ w'.heap.size → R (.returned (V s A n c)) w') (e : w.heap.size = m := by first | (simp only [SZ]; rfl) | rfl) : ∀ e w', (∃ s A n c, e = .returned (V s A n c) ∧ IAt w' s A n c z ∧ Ext w w') → R e w' :=
 rI (fun w' s A n c h1 h2 => k w' s A n c h1 h2 (e ▸ h2.size))
theorem Z5e (s : Bool) (A : Option Addr) (n c : Nat) (l : List Nat) (w : World) (h : WAt w A n c l) (hs : n ≤ Z8) :
  Ca 125 #[.agg #[.bool s, .slice A n c]] w fun e w' => e = .returned (.bool (isC s l)) ∧ Ext w w' := by
 unfold Z8 at hs
 by_cases h0 : n = 0
 ·have hr : isC s l = !s := by simp [isC, h.len.symm, h0]
  rw [h0, hr]
  clear h0 hr h hs
  go_enter func125, ntmps125
  go_wp2
  go_ret
  exact ⟨rfl, EX⟩
 ·obtain ⟨b, off, rfl, hb, hc⟩ := h.at (by omega)
  have HR : Hid (isC s l = decide (l.getD (n - 1) 0 ≠ 0)) := by show _ = _; simp [isC, h.len.symm, h0]
  have g := hc (n - 1) (by omega)
  obtain ⟨x, hx⟩ : ∃ x, l.getD (n - 1) 0 = x := ⟨_, rfl⟩
  rw [hx] at g HR
  clear h hc hx
  have hz : ((n : Int) == 0) = false := by simp; omega
  have hz2 : 0 < n := by omega
  go_enter func125, ntmps125
  go_wp2
  go_ret
  refine ⟨?_, EX⟩
  rw [HR.out]
  congr 1
  congr 1
  by_cases hx : x = 0 <;> simp [hx]
theorem Z0p (s : Bool) (A : Option Addr) (n c : Nat) (z : Int) (w : World) (h : IAt w s A n c z) (hs : n ≤ Z8) :
  Ca 125 #[.agg #[.bool s, .slice A n c]] w fun e w' => e = .returned (.bool true) ∧ Ext w w' := by
 have := Z5e s A n c _ w h.rep hs
 rw [h.sgn, Z4L] at this
 rw [h.sgn]; exact this
theorem Z11 (s : Bool) (A : Option Addr) (n c : Nat) (z : Int) (w : World) (h : IAt w s A n c z) (hs : n ≤ Z8) :
  Ca 126 #[.agg #[.bool s, .slice A n c]] w fun e w' => e = .returned (.int .i64 (Z0R z)) ∧ Ext w w' := by
 have H0 := zH h.zero_iff
 have H1 := zH h.sgn
 have H := zH h
 clear h
 go_enter func126, ntmps126
 go_wp2_with (go_at_call 125; refine (Z0p s A n c z _ (H.out.ext EX) hs).mono ?_; rintro e w1 ⟨rfl, hb⟩; obtain ⟨hc, hf⟩ := hb.cells)
 all_goals go_ret
 all_goals refine ⟨ZY ?_, EX⟩
 all_goals have h0 := H0.out
 all_goals have h1 := H1.out
 all_goals simp at *
 ·exact (Z2M (h0.1 (by omega))).symm
 ·exact (Z1x (by simp_all)).symm
 ·exact (Z00 (by (have : z ≠ 0 := fun e => (by have := h0.2 e; omega)); simp_all; omega)).symm
theorem Zs (s : Bool) (A : Option Addr) (n c : Nat) (l : List Nat) (w : World) (h : WAt w A n c l) (hs : n ≤ Z8) :
  Ca 207 #[.bool s, .slice A n c] w (Z1F w (sgd s (val l))) := by
 unfold Z8 at hs
 have H := zH h
 clear h
 go_enter func207, ntmps207
 go_wp2
 have H0 : Hid (val (l.drop n) = 0) := by show _ = _; rw [List.drop_of_length_le (by have := H.out.len; omega)]; rfl
 go_loop [5] (fun i => ∃ m : Nat, m ≤ n ∧ i = .int .i64 (m : Int) ∧ Hid (val (l.drop m) = 0)) (fun i => (intOf i).toNat)
 case atStart => exact ⟨n, Nat.le_refl _, rfl, H0⟩
 case round =>
  obtain ⟨m, hm, rfl, hv⟩ := hrel
  by_cases hm0 : m = 0
  ·subst hm0
   go_wp2
   refine bodyPost_ret (v := .agg #[.bool false, .slice none 0 0]) (by simp [results, results207, go_sem]) rfl ?_
   refine ⟨_, _, _, _, rfl, ?_, EX⟩
   have := hv.out
   simp only [List.drop_zero] at this
   rw [this]
   exact IAt.zero _ s
  ·obtain ⟨k, rfl⟩ : ∃ k, m = k + 1 := ⟨m - 1, by omega⟩
   clear hm0
   obtain ⟨b, off, rfl, hb, hc⟩ := H.out.at (by omega)
   have g := hc k (by omega)
   obtain ⟨x, hx⟩ : ∃ x, l.getD k 0 = x := ⟨_, rfl⟩
   rw [hx] at g
   have HX := zH hx
   clear hx hc
   have em : ((k + 1 : Nat) : Int) - 1 = k := by omega
   have hk : k < n := by omega
   by_cases hx0 : x = 0
   ·subst hx0
    have hv' : Hid (val (l.drop k) = 0) := by
     show _ = _
     rw [ZR l k (by have := H.out.len; omega), HX.out, hv.out]; rfl
    go_wp2
    go_round
    case rel => exact ⟨k, by omega, by simp, hv'⟩
    case measure => simp [intOf]
   ·have hq : ((x : Int) == 0) = false := by simp; omega
    have hmk := Z1f ((k : Int) + 1) (k + 1) (by omega) (by omega)
    clear hx0
    have hlen := zH H.out.len
    have hr : ∃ s' A' n' c', (Value.agg #[.bool s, .slice (some ⟨w.heap.size + 1, 0, none⟩) (k + 1) (k + 1)]) = .agg #[.bool s', .slice A' n' c'] ∧ ∀ W, Blk W (w.heap.size + 1) (l.take (k + 1)) → IAt W s' A' n' c' (sgd s (val l)) := by
     refine ⟨_, _, _, _, rfl, fun W hW => ?_⟩
     have hl : (l.take (k + 1)).length = k + 1 := by rw [List.length_take]; have := hlen.out; omega
     have hv2 : val (l.take (k + 1)) = val l := by
      rw [Zn l (k + 1) (by have := hlen.out; omega), hv.out]; omega
     rw [← hv2]
     refine IAt.of_words ⟨hl.symm, hW.lr (H.out.rep.ok.take _) _ (by omega)⟩ ?_
     unfold isC
     rw [if_neg (by omega), hl]
     simp only [Nat.add_sub_cancel]
     refine decide_eq_true ?_
     rw [List.getD_eq_getElem?_getD, List.getElem?_take_of_lt (by omega), ← List.getD_eq_getElem?_getD, HX.out]
     intro e; subst e; simp at hq
    have HR := zH hr
    clear hr
    have HW := H.out.ext (((Ext.refl w).alloc (.cells #[.bool false, .slice none 0 0] 24)).alloc (ZZ (List.replicate (k + 1) 0)))
    have HB : Blk ((w.alloc (.cells #[.bool false, .slice none 0 0] 24)).alloc (ZZ (List.replicate (k + 1) 0))) (w.heap.size + 1) (List.replicate (k + 1) 0) := by
     have := Blk.new (w.alloc (.cells #[.bool false, .slice none 0 0] 24)) (List.replicate (k + 1) 0)
     rwa [World.size_alloc] at this
    have HW' := zH HW
    have HB' := zH HB
    clear HW HB
    go_wp2_with ((with_reducible refine (id ?_ : wpList _ _ _ [⟨some 28, _, _, _, _, _⟩] _ _)); go_must (refine Z3r rfl (.tmp 26) (.tmp 27) rfl _ _ HB'.out _ _ _ _ HW'.out _ _ rfl rfl (by simp) (by omega) ?_; intro w2 hB2 hb; obtain ⟨hc, hf⟩ := Below.cells' hb; have HB2 := zH hB2; clear hB2))
    have hx := zH (Ext.of_below (((Ext.refl w).alloc (.cells #[.bool false, .slice none 0 0] 24)).alloc (ZZ (List.replicate (k + 1) 0))) hb (by omega))
    have hz := hb.size
    simp only [World.size_alloc] at hz
    refine bodyPost_ret (v := .agg #[.bool s, .slice (some ⟨w.heap.size + 1, 0, none⟩) (k + 1) (k + 1)]) (by simp [results, results207, go_sem, hc, hf]) rfl ?_
    obtain ⟨s', A', n', c', e, hI⟩ := HR.out
    refine ⟨s', A', n', c', by rw [e], hI _ ?_, ?_⟩
    ·repeat (first | exact HB2.out | refine Blk.setOther ?_ (by simp) _)
    ·have hx' := hx.out
     exact EX
theorem Z6G (x y : Nat) (a b : Int) (hx : a = (x : Int)) (hy : b = (y : Int)) : (Obj.cells #[.int .u32 a, .int .u32 b] 131) = ZZ [x, y] := by subst hx hy; rfl
theorem Zbl (x : Nat) (a : Int) (hx : a = (x : Int)) : (Obj.cells #[.int .u32 a] 131) = ZZ [x] := by subst hx; rfl
theorem Blk.wat {w : World} {g : Nat} {l : List Nat} (h : Blk w g l) (ho : WOk l) (n c : Nat) (hn : n = l.length) (hc : n ≤ c) : WAt w (some ⟨g, 0, none⟩) n c l := ⟨hn, h.lr ho c (by omega)⟩
theorem Z33 (w : World) (l : List Nat) (ho : WOk l) (n c : Nat) (hn : n = l.length) (hc : n ≤ c) : WAt (w.alloc (ZZ l)) (some ⟨w.heap.size, 0, none⟩) n c l := (Blk.new w l).wat ho n c hn hc
theorem Z1r (s : Bool) (m : Nat) (w : World) (hm : m < 18446744073709551616) : Ca 205 #[.bool s, .int .u64 (m : Int)] w (Z1F w (sgd s m)) := by
 have hv : Hid (val [m % 4294967296, m / 4294967296] = m) := by show _ = _; simp only [val, B32]; omega
 have ho : WOk [m % 4294967296, m / 4294967296] := by intro x hx; simp at hx; simp only [B32]; omega
 have H : ∀ W : World, W.heap.size = w.heap.size + 1 → WAt (W.alloc (.cells #[.int .u32 ((m : Int) % 4294967296), .int .u32 ((m : Int) / 4294967296)] 131)) (some ⟨w.heap.size + 1, 0, none⟩) 2 2 [m % 4294967296, m / 4294967296] := fun W hW => by
  rw [Z6G (m % 4294967296) (m / 4294967296) _ _ (by omega) (by omega), ← hW]
  exact Z33 W _ ho 2 2 rfl (by omega)
 have HH := zH H
 clear H ho
 have b1 : (m : Int) / 4294967296 < 4294967296 := by omega
 have b0 : (0 : Int) ≤ (m : Int) / 4294967296 := by omega
 go_enter func205, ntmps205
 go_wp2_with (go_at_call 207; (with_reducible refine (Zs s _ 2 2 _ _ (HH.out _ (by simp)) (by decide)).mono ?_); rintro e w1 ⟨sw1, Aw1, nw1, cw1, rfl, hIw1, hbw1⟩; (try clear hc hf); obtain ⟨hBw1, hc, hf⟩ := EC1 w1 w)
 rw [hv.out] at hIw1
 refine bodyPost_ret (v := .agg #[.bool sw1, .slice Aw1 nw1 cw1]) (by simp [results, results205, go_sem, hc, hf]) rfl ⟨_, _, _, _, rfl, IAt.keep hIw1 KP, EX⟩
theorem Z2k (z : Int) (h0 : z < 0) (h1 : -9223372036854775808 ≤ z) : IntKind.u64.wrap (-(IntKind.u64.wrap z)) = ((z.natAbs : Nat) : Int) := by
 simp only [IntKind.wrap_u64]; omega
theorem Zk (z : Int) (w : World) (h0 : -9223372036854775808 ≤ z) (h1 : z ≤ 9223372036854775807) : Ca 148 #[.int .i64 z] w (Z1F w z) := by
 by_cases hz : z < 0
 ·have hd : decide (z < 0) = true := by simp [hz]
  have e1 : sgd true z.natAbs = z := by simp [sgd]; omega
  have E1 := zH e1
  have E2 := zH (Z2k z hz h0)
  have hm : z.natAbs < 18446744073709551616 := by omega
  clear e1
  go_enter func148, ntmps148
  go_wp2_with (go_at_call 205; rw [E2.out]; refine (Z1r true z.natAbs _ hm).mono ?_; rintro e w1 ⟨sw1, Aw1, nw1, cw1, rfl, hIw1, hbw1⟩; (try clear hc hf); obtain ⟨hBw1, hc, hf⟩ := EC1 w1 w)
  rw [E1.out] at hIw1
  refine bodyPost_ret (v := .agg #[.bool sw1, .slice Aw1 nw1 cw1]) (by simp [results, results148, go_sem, hc, hf]) rfl ⟨_, _, _, _, rfl, IAt.keep hIw1 KP, EX⟩
 ·obtain ⟨m, rfl⟩ : ∃ m : Nat, z = m := ⟨z.toNat, by omega⟩
  have hd : decide ((m : Int) < 0) = false := by simp
  have e1 : sgd false m = m := by simp [sgd]
  have E1 := zH e1
  clear e1 hz
  go_enter func148, ntmps148
  go_wp2_with (go_at_call 205; (with_reducible refine (Z1r false m _ (by omega)).mono ?_); rintro e w1 ⟨sw1, Aw1, nw1, cw1, rfl, hIw1, hbw1⟩; (try clear hc hf); obtain ⟨hBw1, hc, hf⟩ := EC1 w1 w)
  rw [E1.out] at hIw1
  refine bodyPost_ret (v := .agg #[.bool sw1, .slice Aw1 nw1 cw1]) (by simp [results, results148, go_sem, hc, hf]) rfl ⟨_, _, _, _, rfl, IAt.keep hIw1 KP, EX⟩
def Zdv (s : Bool) (l : List Nat) : Int := sgd s (l.getD 0 0)
theorem Z4W (s : Bool) (A : Option Addr) (n c : Nat) (l : List Nat) (w : World) (h : WAt w A n c l) (hs : n ≤ Z8) :
  Ca 272 #[.bool s, .slice A n c] w fun e w' => e = .returned (if n ≤ 1 then .tuple #[.int .i64 (sgd s (val l)), .bool true] else .tuple #[.int .i64 0, .bool false]) ∧ Ext w w' := by
 unfold Z8 at hs
 by_cases h1 : n ≤ 1
 ·rw [if_pos h1]
  by_cases h0 : n = 0
  ·subst h0
   have : l = [] := List.eq_nil_of_length_eq_zero h.len.symm
   subst this
   clear h hs h1
   cases s <;> (go_enter func272, ntmps272; go_wp2; go_ret2; exact ⟨rfl, Ext.refl _⟩)
  ·obtain rfl : n = 1 := by omega
   obtain ⟨b, off, rfl, hb, hc⟩ := h.at (by omega)
   have g := hc 0 (by omega)
   obtain ⟨x, rfl⟩ : ∃ x, l = [x] := List.length_eq_one_iff.1 h.len.symm
   have hx := h.rep.ok x (by simp)
   simp only [List.getD_cons_zero, Nat.add_zero, B32] at g hx
   have hv : sgd s (val [x]) = if s then -(x : Int) else x := by simp [sgd, val]
   rw [hv]
   clear h hc h1 h0 hv hs
   cases s <;> (go_enter func272, ntmps272; go_wp2; go_ret2; exact ⟨rfl, Ext.refl _⟩)
 ·rw [if_neg h1]
  have hd : decide (1 < n) = true := by simp; omega
  clear h
  go_enter func272, ntmps272
  go_wp2
  go_ret2
  exact ⟨rfl, Ext.refl _⟩
theorem Z0m (n : Int) (h₀ : 0 ≤ n) (h₁ : n < 2 ^ 64) : IntKind.u64.wrap n = n := by rw [IntKind.wrap_u64]; omega
theorem Z4d (x y : Nat) (hx : x < 4294967296) (hy : y < 4294967296) : bits .or .u64 ((y : Int) * 4294967296) (x : Int) = (y : Int) * 4294967296 + x :=
 bits_join .u64 64 (by decide) Z0m 32 _ _ (by omega) (by omega) (by omega) (by omega) (by omega) (by omega)
theorem Z4Y (A : Option Addr) (n c : Nat) (l : List Nat) (w : World) (h : WAt w A n c l) (hs : n ≤ Z8) :
  Ca 204 #[.slice A n c] w fun e w' => e = .returned (if n ≤ 2 then .tuple #[.int .u64 (val l), .bool true] else .tuple #[.int .u64 0, .bool false]) ∧ Ext w w' := by
 unfold Z8 at hs
 by_cases h2 : n ≤ 2
 ·rw [if_pos h2]
  by_cases h0 : n = 0
  ·subst h0
   have : l = [] := List.eq_nil_of_length_eq_zero h.len.symm
   subst this
   clear h hs h2
   go_enter func204, ntmps204; go_wp2; go_ret2; exact ⟨rfl, Ext.refl _⟩
  ·obtain ⟨b, off, rfl, hb, hc⟩ := h.at (by omega)
   by_cases h1 : n = 1
   ·subst h1
    have g := hc 0 (by omega)
    obtain ⟨x, rfl⟩ : ∃ x, l = [x] := List.length_eq_one_iff.1 h.len.symm
    have hx := h.rep.ok x (by simp)
    simp only [List.getD_cons_zero, Nat.add_zero, B32] at g hx
    have hv : val [x] = x := by simp [val]
    rw [hv]
    clear h hc h2 h0 hv hs
    go_enter func204, ntmps204; go_wp2; go_ret2; exact ⟨rfl, Ext.refl _⟩
   ·obtain rfl : n = 2 := by omega
    have g0 := hc 0 (by omega)
    have g1 := hc 1 (by omega)
    obtain ⟨x, y, rfl⟩ : ∃ x y, l = [x, y] := (by match l, h.len with | [x, y], _ => exact ⟨x, y, rfl⟩)
    have hx := h.rep.ok x (by simp)
    have hy := h.rep.ok y (by simp)
    simp only [List.getD_cons_zero, List.getD_cons_succ, Nat.add_zero, B32] at g0 g1 hx hy
    have hv : Hid (val [x, y] = x + 4294967296 * y) := by show _ = _; simp [val, B32]
    clear h hc h2 h0 h1 hs
    go_enter func204, ntmps204
    go_wp2
    go_quiet (fail)
    go_wp2
    go_ret2
    refine ⟨?_, EX⟩
    rw [hv.out, Z4d x y (by omega) (by omega)]
    simp [Int.add_comm, Int.mul_comm]
 ·rw [if_neg h2]
  have hd0 : ((n : Int) == 0) = false := by simp; omega
  have hd1 : ((n : Int) == 1) = false := by simp; omega
  have hd2 : ((n : Int) == 2) = false := by simp; omega
  clear h
  go_enter func204, ntmps204
  go_wp2
  go_ret2
  exact ⟨rfl, Ext.refl _⟩
theorem Z9j (x y b : Nat) (hb : b ≤ 1) (w : World) : (callFunc 270 #[.int .u64 (x : Int), .int .u64 (y : Int), .int .u64 (b : Int)]).run Tryz.prog w =
  .ok (.value (.tuple #[.int .u64 (((x + 18446744073709551616 - y - b) % 18446744073709551616 : Nat) : Int), .int .u64 ((if x < y + b then 1 else 0 : Nat) : Int)])) w := by
 rw [run_callFunc_extern func270 (by kernel_rfl) (by kernel_rfl) (by kernel_rfl) (e := sub64Entry) (by kernel_rfl), run_sub64 x y b hb]
 rfl
def bor (x t : Nat) : Nat := if x < t then 1 else 0
theorem Z3O (n : Int) (h₀ : 0 ≤ n) (h₁ : n < 2 ^ 32) : IntKind.u32.wrap n = n := by rw [IntKind.wrap_u32]; omega
theorem Z4Z (a b : Nat) (ha : a < 2 ^ 32) (hb : b < 2 ^ 32) : bits .xor .u32 (a : Int) (b : Int) = ((a ^^^ b : Nat) : Int) := by
 have ha' : a % 2 ^ IntKind.u32.bits = a := Nat.mod_eq_of_lt ha
 have hb' : b % 2 ^ IntKind.u32.bits = b := Nat.mod_eq_of_lt hb
 simp only [bits, BitVec.ofInt_natCast, BitVec.toNat_xor, BitVec.toNat_ofNat, ha', hb']
 exact Z3O _ (Int.natCast_nonneg _) (by exact_mod_cast Nat.xor_lt_two_pow ha hb)
theorem Zc4 (a : Nat) (ha : a < 2 ^ 32) : bits .xor .u32 IntKind.u32.max (a : Int) = ((4294967295 - a : Nat) : Int) := by
 rw [show IntKind.u32.max = ((4294967295 : Nat) : Int) from rfl, Z4Z _ _ (by decide) ha]
 congr 1
 apply Nat.eq_of_testBit_eq
 intro i
 have := Nat.testBit_two_pow_sub_succ ha i
 rw [show 2 ^ 32 - (a + 1) = 4294967295 - a by omega] at this
 rw [this, Nat.testBit_xor]
 rw [show 4294967295 = 2 ^ 32 - 1 by rfl, Nat.testBit_two_pow_sub_one]
 by_cases hi : i < 32
 ·simp [hi]
 ·have : a.testBit i = false := Nat.testBit_lt_two_pow (Nat.lt_of_lt_of_le ha (Nat.pow_le_pow_right (by decide) (by omega)))
  simp [hi, this]
theorem Zdh (n : Nat) (h : n < 2 ^ 32) : n / 2147483648 = if n.testBit 31 then 1 else 0 := by
 have : n.testBit 31 = decide (n / 2147483648 % 2 = 1) := by
  rw [Nat.testBit_eq_decide_div_mod_eq]
 rw [this]
 by_cases h1 : n / 2147483648 % 2 = 1 <;> simp [h1] <;> omega
theorem Z5M (n : Nat) (h : n < 2 ^ 32) : n.testBit 31 = decide (2147483648 ≤ n) := by
 rw [Nat.testBit_eq_decide_div_mod_eq]
 by_cases h1 : 2147483648 ≤ n <;> simp [h1] <;> omega
theorem Z88 (x y c : Nat) (hx : x < 4294967296) (hy : y < 4294967296) (hc : c ≤ 1) :
  bits .or .u32 (bits .and .u32 (bits .xor .u32 IntKind.u32.max (x : Int)) (y : Int)) (bits .and .u32 (bits .xor .u32 IntKind.u32.max (bits .xor .u32 (x : Int) (y : Int))) (((x : Int) - y - c) % 4294967296)) / 2147483648 = ((bor x (y + c) : Nat) : Int) := by
 obtain ⟨d, hd⟩ : ∃ d : Nat, ((x : Int) - y - c) % 4294967296 = d := ⟨(((x : Int) - y - c) % 4294967296).toNat, by omega⟩
 have hd2 : d < 4294967296 := by omega
 rw [hd, Zc4 x hx, Z4Z x y hx hy]
 have hxy : x ^^^ y < 2 ^ 32 := Nat.xor_lt_two_pow hx hy
 rw [Zc4 _ hxy]
 have w32 := Z3O
 rw [(bits_nat .u32 32 (by decide) w32 (4294967295 - x) y (by omega) hy).1, (bits_nat .u32 32 (by decide) w32 (4294967295 - (x ^^^ y)) d (by omega) hd2).1]
 have h1 : (4294967295 - x) &&& y < 2 ^ 32 := Nat.and_lt_two_pow _ hy
 have h2 : (4294967295 - (x ^^^ y)) &&& d < 2 ^ 32 := Nat.and_lt_two_pow _ hd2
 rw [(bits_nat .u32 32 (by decide) w32 _ _ h1 h2).2]
 have e := Zdh _ (Nat.or_lt_two_pow h1 h2)
 rw [Nat.testBit_or, Nat.testBit_and, Nat.testBit_and, Z5M y hy, Z5M d hd2] at e
 have ex : (4294967295 - x).testBit 31 = !(decide (2147483648 ≤ x)) := by
  rw [Z5M _ (by omega)]
  by_cases h : 2147483648 ≤ x <;> simp [h] <;> omega
 have exy : (4294967295 - (x ^^^ y)).testBit 31 = !((decide (2147483648 ≤ x)) != (decide (2147483648 ≤ y))) := by
  have := Z5M (x ^^^ y) hxy
  rw [Nat.testBit_xor, Z5M x hx, Z5M y hy] at this
  rw [Z5M _ (by omega), show decide (2147483648 ≤ 4294967295 - (x ^^^ y)) = !(decide (2147483648 ≤ x ^^^ y)) by by_cases h : 2147483648 ≤ x ^^^ y <;> simp [h] <;> omega, ← this]
 rw [ex, exy] at e
 have e2 : ((((4294967295 - x) &&& y) ||| ((4294967295 - (x ^^^ y)) &&& d) : Nat) : Int) / 2147483648 = (((((4294967295 - x) &&& y) ||| ((4294967295 - (x ^^^ y)) &&& d)) / 2147483648 : Nat) : Int) := by omega
 rw [e2, e]
 congr 1
 unfold bor
 by_cases hxx : 2147483648 ≤ x <;> by_cases hyy : 2147483648 ≤ y <;> by_cases hdd : 2147483648 ≤ d <;> simp [hxx, hyy, hdd] <;> omega
theorem Z9l (x y c : Nat) (w : World) (hx : x < 4294967296) (hy : y < 4294967296) (hc : c ≤ 1) :
  Ca 271 #[.int .u32 (x : Int), .int .u32 (y : Int), .int .u32 (c : Int)] w fun e w' => e = .returned (.tuple #[.int .u32 (((x + y + c) % 4294967296 : Nat) : Int), .int .u32 (((x + y + c) / 4294967296 : Nat) : Int)]) ∧ w = w' := by
 go_enter func271, ntmps271
 go_wp2
 go_ret2
 exact ⟨by simp, rfl⟩
theorem ZbI (x y c : Nat) (w : World) (hx : x < 4294967296) (hy : y < 4294967296) (hc : c ≤ 1) :
  Ca 285 #[.int .u32 (x : Int), .int .u32 (y : Int), .int .u32 (c : Int)] w fun e w' => e = .returned (.tuple #[.int .u32 (((x + 4294967296 - y - c) % 4294967296 : Nat) : Int), .int .u32 ((bor x (y + c) : Nat) : Int)]) ∧ w = w' := by
 have e1 : (((x + 4294967296 - y - c) % 4294967296 : Nat) : Int) = ((x : Int) - y - c) % 4294967296 := by omega
 rw [e1]
 have E := zH (Z88 x y c hx hy hc)
 clear e1
 go_enter func285, ntmps285
 go_wp2
 go_ret2
 exact ⟨by simp [E.out], rfl⟩
theorem Z4a (m : Nat) (w : World) (hm : m < 18446744073709551616) : Ca 247 #[.int .u64 (m : Int)] w (Zb3 w [m % 4294967296, m / 4294967296]) := by
 have ho : WOk [m % 4294967296, m / 4294967296] := by intro x hx; simp at hx; simp only [B32]; omega
 have H : WAt (w.alloc (.cells #[.int .u32 ((m : Int) % 4294967296), .int .u32 ((m : Int) / 4294967296)] 131)) (some ⟨w.heap.size, 0, none⟩) 2 2 [m % 4294967296, m / 4294967296] := by
  rw [Z6G (m % 4294967296) (m / 4294967296) _ _ (by omega) (by omega)]
  exact Z33 w _ ho 2 2 rfl (by omega)
 have HH := zH H
 clear H ho
 have b1 : (m : Int) / 4294967296 < 4294967296 := by omega
 have b0 : (0 : Int) ≤ (m : Int) / 4294967296 := by omega
 go_enter func247, ntmps247
 go_wp2
 go_ret
 exact ⟨_, _, _, rfl, HH.out, EX⟩
/-! The steps of a sum and of a difference: the carry lies in a variable. -/
def Z2u (x y c : Nat) : Nat := (x + y + c) % 4294967296
def Z25 (x y c : Nat) : Nat := (x + y + c) / 4294967296
def Z2b (x y c : Nat) : Nat := (x + 4294967296 - y - c) % 4294967296
def Z21 (x y c : Nat) : Nat := bor x (y + c)
def ZbR (K : FuncId) (f h : Nat → Nat → Nat → Nat) : Prop := ∀ (x y c g : Nat) (w : World), x < 4294967296 → y < 4294967296 → c ≤ 1 → w.cell? ⟨g, 0, none⟩ = some (.int .u32 (c : Int)) → w.frozen? ⟨g, 0, none⟩ = false →
 Ca K #[.int .u32 (x : Int), .int .u32 (y : Int), .pointer (some ⟨g, 0, none⟩)] w fun e w' => e = .returned (.int .u32 (f x y c : Nat)) ∧ w' = w.setCell ⟨g, 0, none⟩ (.int .u32 (h x y c : Nat))
theorem ZbC : ZbR 283 Z2u Z25 := by
 intro x y c g w hx hy hc hcell hfz
 unfold Z2u Z25
 go_enter func283, ntmps283
 go_wp2_with (go_at_call 271; refine (Z9l x y c _ hx hy hc).mono ?_; rintro e w1 ⟨rfl, rfl⟩)
 go_ret
 exact ⟨rfl, rfl⟩
theorem ZaJ : ZbR 284 Z2b Z21 := by
 intro x y c g w hx hy hc hcell hfz
 unfold Z2b Z21
 go_enter func284, ntmps284
 go_wp2_with (go_at_call 285; refine (ZbI x y c _ hx hy hc).mono ?_; rintro e w1 ⟨rfl, rfl⟩)
 go_ret
 exact ⟨rfl, rfl⟩
open Go.Shelf
def zst (f h : Nat → Nat → Nat → Nat) (l1 l2 : List Nat) : Nat → List Nat × Nat
 | 0 => ([], 0)
 | k + 1 => ((zst f h l1 l2 k).1 ++ [f (l1.getD k 0) (l2.getD k 0) (zst f h l1 l2 k).2], h (l1.getD k 0) (l2.getD k 0) (zst f h l1 l2 k).2)
theorem Z1O (f h : Nat → Nat → Nat → Nat) (l1 l2 : List Nat) (k : Nat) : (zst f h l1 l2 k).1.length = k := by
 induction k with
 | zero => rfl
 | succ k ih => simp [zst, ih]
theorem Z9t (r : List Nat) (k n v : Nat) (hr : r.length = k) (hk : k < n) : (r ++ List.replicate (n - k) 0).set k v = (r ++ [v]) ++ List.replicate (n - (k + 1)) 0 := by
 rw [List.set_append_right _ _ (by omega), hr, Nat.sub_self, show n - k = n - (k + 1) + 1 by omega, List.replicate_succ, List.set_cons_zero, List.append_assoc]; rfl
theorem Z6u : ∀ args w, (callFunc 283 args).run Tryz.prog w = .ok (.enter 283 args) w := enters_of func283 (by kernel_rfl) rfl
theorem Z5v : ∀ args w, (callFunc 284 args).run Tryz.prog w = .ok (.enter 284 args) w := enters_of func284 (by kernel_rfl) rfl
theorem ZbR.at {K : FuncId} {f h : Nat → Nat → Nat → Nat} (hS : ZbR K f h) (x y c : Nat) (X Y : Int) (eX : X = x) (eY : Y = y) (g : Nat) (w : World) (hx : x < 4294967296) (hy : y < 4294967296) (hc : c ≤ 1)
  (hcell : w.cell? ⟨g, 0, none⟩ = some (.int .u32 (c : Int))) (hf : w.frozen? ⟨g, 0, none⟩ = false) :
  Ca K #[.int .u32 X, .int .u32 Y, .pointer (some ⟨g, 0, none⟩)] w fun e w' => e = .returned (.int .u32 (f x y c : Nat)) ∧ w' = w.setCell ⟨g, 0, none⟩ (.int .u32 (h x y c : Nat)) := by
 subst eX eY; exact hS x y c g w hx hy hc hcell hf
theorem WAt.pad {w : World} {A : Option Addr} {n c : Nat} {l : List Nat} (h : WAt w A n c l) (k : Nat) : l.getD k 0 < 4294967296 ∧ (n ≤ k → l.getD k 0 = 0) :=
 ⟨Zd h.rep.ok k, fun hk => by rw [List.getD_eq_getElem?_getD, List.getElem?_eq_none (by have := h.len; omega)]; rfl⟩
structure ZbQ (f h : Nat → Nat → Nat → Nat) (l1 l2 : List Nat) (w wr : World) (m k : Nat) : Prop where
 blk : Blk wr (w.heap.size + 1) ((zst f h l1 l2 k).1 ++ List.replicate (m + 1 - k) 0)
 cell : wr.cell? ⟨w.heap.size, 0, none⟩ = some (.int .u32 ((zst f h l1 l2 k).2 : Nat))
 froz : wr.frozen? ⟨w.heap.size, 0, none⟩ = false
 one : (zst f h l1 l2 k).2 ≤ 1
 ext : Ext w wr
theorem ZbQ.step {f h : Nat → Nat → Nat → Nat} {l1 l2 : List Nat} {w wr : World} {m k : Nat} (z : ZbQ f h l1 l2 w wr m k) (hk : k < m + 1) (hh : h (l1.getD k 0) (l2.getD k 0) (zst f h l1 l2 k).2 ≤ 1) :
  ZbQ f h l1 l2 w ((wr.setCell ⟨w.heap.size, 0, none⟩ (.int .u32 (h (l1.getD k 0) (l2.getD k 0) (zst f h l1 l2 k).2 : Nat))).setCell ⟨w.heap.size + 1, k, none⟩ (.int .u32 (f (l1.getD k 0) (l2.getD k 0) (zst f h l1 l2 k).2 : Nat))) m (k + 1) := by
 have hn : (⟨w.heap.size + 1, k, none⟩ : Addr) ≠ ⟨w.heap.size, 0, none⟩ := fun e => by injection e; omega
 refine ⟨?_, ?_, ?_, hh, ?_⟩
 ·have hb := (z.blk.setOther (p := ⟨w.heap.size, 0, none⟩) (by simp) (.int .u32 (h (l1.getD k 0) (l2.getD k 0) (zst f h l1 l2 k).2 : Nat))).set k (f (l1.getD k 0) (l2.getD k 0) (zst f h l1 l2 k).2)
  rw [Z9t _ k (m + 1) _ (Z1O ..) hk] at hb
  exact hb
 ·exact (World.cell?_setCell_other _ _ _ _ hn).trans (World.cell?_setCell_same _ _ _ z.cell)
 ·rw [World.frozen?_setCell, World.frozen?_setCell]; exact z.froz
 ·exact (z.ext.setCell (p := ⟨w.heap.size, 0, none⟩) (Nat.le_refl _) _).setCell (p := ⟨w.heap.size + 1, k, none⟩) (Nat.le_succ _) _
theorem Z6Z {f h : Nat → Nat → Nat → Nat} (hf : ∀ x y c, f x y c < 4294967296) (l1 l2 : List Nat) (k : Nat) : WOk (zst f h l1 l2 k).1 := by
 induction k with
 | zero => intro x hx; simp [zst] at hx
 | succ k ih =>
  intro x hx
  rcases List.mem_append.1 hx with hx | hx
  ·exact ih x hx
  ·rw [List.mem_singleton.1 hx]; exact hf _ _ _
theorem Z7S (K : FuncId) (hK : ∀ args w, (callFunc K args).run Tryz.prog w = .ok (.enter K args) w) (f h : Nat → Nat → Nat → Nat) (hS : ZbR K f h) (hf : ∀ x y c, f x y c < 4294967296) (hh : ∀ x y c, x < 4294967296 → y < 4294967296 → c ≤ 1 → h x y c ≤ 1)
  (A1 A2 : Option Addr) (n1 c1 n2 c2 n : Nat) (l1 l2 : List Nat) (w : World) (h1 : WAt w A1 n1 c1 l1) (h2 : WAt w A2 n2 c2 l2) (hs1 : n1 ≤ Z8) (hs2 : n2 ≤ Z8) (hn : n = max n1 n2 + 1) :
  Ca 282 #[.slice A1 n1 c1, .slice A2 n2 c2, .func (.func K) #[] #[.pointer (some ⟨w.heap.size, 0, none⟩)]] (w.alloc (.cells #[.int .u32 0] 131))
   (fun e w' => ∃ A' n' c', e = .returned (.slice A' n' c') ∧ WAt w' A' n' c' (zst f h l1 l2 n).1 ∧ Ext w w') := by
 unfold Z8 at hs1 hs2
 have H1 := zH h1
 have H2 := zH h2
 have HF := zH hf
 have HH := zH hh
 have HN := zH hn
 clear h1 h2 hf hh hn
 obtain ⟨m, hm0, hm2, hm3, hm4, hm5⟩ : ∃ m : Nat, m + 1 = n ∧ m ≤ 4294967296 ∧ n1 ≤ m ∧ n2 ≤ m ∧ (m = n1 ∨ (m = n2 ∧ ¬ n2 ≤ n1)) := ⟨max n1 n2, by rw [HN.out], by omega, by omega, by omega, by omega⟩
 have HM := zH hm0
 clear hm0
 have hmk := Z1f ((m : Int) + 1) (m + 1) (by omega) (by omega)
 rcases hm5 with rfl | ⟨rfl, hm5⟩
 all_goals go_enter func282, ntmps282
 all_goals go_wp2_with fail
 all_goals
  have HS := zH hS
  clear hS
  have Z0 : ZbQ f h l1 l2 w ((w.alloc (.cells #[.int .u32 0] 131)).alloc (ZZ (List.replicate (m + 1) 0))) m 0 := by
   refine ⟨?_, by simp [go_sem, zst], by simp [go_sem], by simp [zst], EX⟩
   have := Blk.new (w.alloc (.cells #[.int .u32 0] 131)) (List.replicate (m + 1) 0)
   rw [World.size_alloc] at this
   simpa [zst] using this
  go_loopw [21] (fun i wr => ∃ k : Nat, k ≤ m + 1 ∧ i = .int .i64 (k : Int) ∧ ZbQ f h l1 l2 w wr m k) (fun i _ => m + 1 - (intOf i).toNat)
  case atStart => exact ⟨0, by omega, rfl, Z0⟩
  case round =>
   clear Z0
   obtain ⟨k, hk, rfl, hZ⟩ := hrel
   obtain ⟨hc, hf⟩ := hZ.ext.cells
   by_cases hlt : k < m + 1
   ·obtain ⟨p1, q1⟩ := H1.out.pad k
    obtain ⟨p2, q2⟩ := H2.out.pad k
    have e0 := hZ.blk.cell k (by rw [List.length_append, Z1O, List.length_replicate]; omega)
    have e1 := hZ.blk.frozen k
    have hco := hZ.one
    have hcl := hZ.cell
    have hfz := hZ.froz
    have hstep := zH (hZ.step hlt (HH.out _ _ _ p1 p2 hco))
    obtain ⟨y0, hy0⟩ : ∃ y, ((zst f h l1 l2 k).1 ++ List.replicate (m + 1 - k) 0).getD k 0 = y := ⟨_, rfl⟩
    rw [hy0] at e0
    clear hy0 hZ
    obtain ⟨x1, hx1⟩ : ∃ x, l1.getD k 0 = x := ⟨_, rfl⟩
    obtain ⟨x2, hx2⟩ : ∃ x, l2.getD k 0 = x := ⟨_, rfl⟩
    obtain ⟨co, hco'⟩ : ∃ x, (zst f h l1 l2 k).2 = x := ⟨_, rfl⟩
    rw [hx1] at p1 q1 hstep
    rw [hx2] at p2 q2 hstep
    rw [hco'] at hco hcl hstep
    have g1 : k < l1.length → ∃ b off, A1 = some ⟨b, off, none⟩ ∧ b < w.heap.size ∧ w.cell? ⟨b, off + k, none⟩ = some (.int .u32 (x1 : Int)) := fun hk1 => by
     obtain ⟨b, off, e, hb, hcc⟩ := H1.out.at (by have := H1.out.len; omega)
     exact ⟨b, off, e, hb, by rw [← hx1]; exact hcc k (by have := H1.out.len; omega)⟩
    have g2 : k < l2.length → ∃ b off, A2 = some ⟨b, off, none⟩ ∧ b < w.heap.size ∧ w.cell? ⟨b, off + k, none⟩ = some (.int .u32 (x2 : Int)) := fun hk2 => by
     obtain ⟨b, off, e, hb, hcc⟩ := H2.out.at (by have := H2.out.len; omega)
     exact ⟨b, off, e, hb, by rw [← hx2]; exact hcc k (by have := H2.out.len; omega)⟩
    clear hx1 hx2 hco'
    have L1 := H1.out.len
    have L2 := H2.out.len
    by_cases hk1 : k < l1.length <;> by_cases hk2 : k < l2.length
    ·obtain ⟨b1, f1, rfl, hb1, g1⟩ := g1 hk1
     obtain ⟨b2, f2, rfl, hb2, g2⟩ := g2 hk2
     rw [← L1] at hk1
     rw [← L2] at hk2
     clear q1 q2 H1 H2 L1 L2
     go_wp2_with ((with_reducible refine (id ?_ : Calls _ K _ _ _)); (refine (HS.out.at x1 x2 co _ _ (by simp) (by simp) _ _ (by omega) (by omega) hco hcl hfz).mono ?_); rintro e w1 ⟨rfl, rfl⟩)
     all_goals refine ⟨⟨k + 1, by omega, by simp, hstep.out⟩, by simp [intOf]; omega⟩
    ·obtain ⟨b1, f1, rfl, hb1, g1⟩ := g1 hk1
     obtain rfl : x2 = 0 := q2 (by omega)
     clear g2
     rw [← L1] at hk1
     rw [← L2] at hk2
     clear q1 q2 H1 H2 L1 L2
     go_wp2_with ((with_reducible refine (id ?_ : Calls _ K _ _ _)); (refine (HS.out.at x1 0 co _ _ (by simp) (by simp) _ _ (by omega) (by omega) hco hcl hfz).mono ?_); rintro e w1 ⟨rfl, rfl⟩)
     all_goals refine ⟨⟨k + 1, by omega, by simp, hstep.out⟩, by simp [intOf]; omega⟩
    ·obtain rfl : x1 = 0 := q1 (by omega)
     clear g1
     obtain ⟨b2, f2, rfl, hb2, g2⟩ := g2 hk2
     rw [← L1] at hk1
     rw [← L2] at hk2
     clear q1 q2 H1 H2 L1 L2
     go_wp2_with ((with_reducible refine (id ?_ : Calls _ K _ _ _)); (refine (HS.out.at 0 x2 co _ _ (by simp) (by simp) _ _ (by omega) (by omega) hco hcl hfz).mono ?_); rintro e w1 ⟨rfl, rfl⟩)
     all_goals refine ⟨⟨k + 1, by omega, by simp, hstep.out⟩, by simp [intOf]; omega⟩
    ·obtain rfl : x1 = 0 := q1 (by omega)
     clear g1
     obtain rfl : x2 = 0 := q2 (by omega)
     clear g2
     rw [← L1] at hk1
     rw [← L2] at hk2
     clear q1 q2 H1 H2 L1 L2
     go_wp2_with ((with_reducible refine (id ?_ : Calls _ K _ _ _)); (refine (HS.out.at 0 0 co _ _ (by simp) (by simp) _ _ (by omega) (by omega) hco hcl hfz).mono ?_); rintro e w1 ⟨rfl, rfl⟩)
     all_goals refine ⟨⟨k + 1, by omega, by simp, hstep.out⟩, by simp [intOf]; omega⟩
   ·obtain rfl : k = m + 1 := by omega
    go_wp2
    go_ret
    refine ⟨_, _, _, rfl, ?_, hZ.ext⟩
    have hb := hZ.blk
    rw [Nat.sub_self, List.replicate_zero, List.append_nil] at hb
    rw [← HM.out]
    refine hb.wat ?_ _ _ (by rw [Z1O]) (by omega)
    exact Z6Z HF.out _ _ _
theorem Z1k (l : List Nat) (k : Nat) : val (l.take (k + 1)) = val (l.take k) + B32 ^ k * l.getD k 0 := by
 by_cases h : k < l.length
 ·rw [List.take_succ_eq_append_getElem h, Zx, List.length_take, Nat.min_eq_left (by omega), List.getD_eq_getElem?_getD, List.getElem?_eq_getElem h]
  simp [val]
 ·rw [List.take_of_length_le (by omega), List.take_of_length_le (by omega), List.getD_eq_getElem?_getD, List.getElem?_eq_none (by omega)]
  simp
theorem ZaT (x y c : Nat) : Z2u x y c + B32 * Z25 x y c = x + y + c := by unfold Z2u Z25; simp only [B32]; omega
theorem Zaj (x y c : Nat) (hx : x < B32) (hy : y < B32) (hc : c ≤ 1) : Z2b x y c + y + c = x + B32 * Z21 x y c := by
 simp only [B32] at *; unfold Z2b Z21 bor; split <;> omega
theorem ZbP (P B s t x y c : Nat) (h : s + B * t = x + y + c) : P * s + P * B * t = P * x + P * y + P * c := by
 have := congrArg (P * ·) h
 simp only [Nat.mul_add] at this
 rw [Nat.mul_assoc]; omega
theorem ZbL (P B s t x y c : Nat) (h : s + y + c = x + B * t) : P * s + P * y + P * c = P * x + P * B * t := by
 have := congrArg (P * ·) h
 simp only [Nat.mul_add] at this
 rw [Nat.mul_assoc]; omega
theorem Z0g (x : Nat) : val [x] = x := by simp [val]
theorem Z7F (f h : Nat → Nat → Nat → Nat) (l1 l2 : List Nat) (k : Nat) : val (zst f h l1 l2 (k + 1)).1 = val (zst f h l1 l2 k).1 + B32 ^ k * f (l1.getD k 0) (l2.getD k 0) (zst f h l1 l2 k).2 := by
 show val ((zst f h l1 l2 k).1 ++ [_]) = _
 rw [Zx, Z1O, Z0g]
theorem Z1J (f h : Nat → Nat → Nat → Nat) (l1 l2 : List Nat) (k : Nat) : (zst f h l1 l2 (k + 1)).2 = h (l1.getD k 0) (l2.getD k 0) (zst f h l1 l2 k).2 := rfl
theorem Zbt (r v1 v2 a b c d e : Nat) (h : a + b = c + d + e) (h3 : r + e = v1 + v2) : r + a + b = v1 + c + (v2 + d) := by omega
theorem Zbs (r v1 v2 a b c d e : Nat) (h : a + b + c = d + e) (h3 : r + v2 = v1 + c) : r + a + (v2 + b) = v1 + d + e := by omega
theorem Z8V (l1 l2 : List Nat) (k : Nat) : val (zst Z2u Z25 l1 l2 k).1 + B32 ^ k * (zst Z2u Z25 l1 l2 k).2 = val (l1.take k) + val (l2.take k) := by
 induction k with
 | zero => simp [zst, val]
 | succ k ih =>
  have e := ZbP (B32 ^ k) B32 _ _ _ _ _ (ZaT (l1.getD k 0) (l2.getD k 0) (zst Z2u Z25 l1 l2 k).2)
  rw [Z1k, Z1k, Nat.pow_succ, Z7F, Z1J]
  exact Zbt _ _ _ _ _ _ _ _ e ih
theorem Z8U (l1 l2 : List Nat) (h1 : WOk l1) (h2 : WOk l2) (k : Nat) : (zst Z2b Z21 l1 l2 k).2 ≤ 1 ∧ val (zst Z2b Z21 l1 l2 k).1 + val (l2.take k) = val (l1.take k) + B32 ^ k * (zst Z2b Z21 l1 l2 k).2 := by
 induction k with
 | zero => simp [zst, val]
 | succ k ih =>
  have e := ZbL (B32 ^ k) B32 _ _ _ _ _ (Zaj (l1.getD k 0) (l2.getD k 0) (zst Z2b Z21 l1 l2 k).2 (Zd h1 k) (Zd h2 k) ih.1)
  refine ⟨by rw [Z1J]; unfold Z21 bor; split <;> simp, ?_⟩
  rw [Z1k, Z1k, Nat.pow_succ, Z7F, Z1J]
  exact Zbs _ _ _ _ _ _ _ _ e ih.2
def ZcB (w : World) (v k : Nat) (e : Ending) (w' : World) : Prop := ∃ A n c l, e = .returned (.slice A n c) ∧ WAt w' A n c l ∧ val l = v ∧ n ≤ k ∧ Ext w w'
theorem Z9o (x y c : Nat) : Z2u x y c < 4294967296 := Nat.mod_lt _ (by decide)
theorem Z4B (x y c : Nat) : Z2b x y c < 4294967296 := Nat.mod_lt _ (by decide)
theorem Z9p (x y c : Nat) (hx : x < 4294967296) (hy : y < 4294967296) (hc : c ≤ 1) : Z25 x y c ≤ 1 := by unfold Z25; omega
theorem Zbi (x y c : Nat) (hx : x < 4294967296) (hy : y < 4294967296) (hc : c ≤ 1) : Z21 x y c ≤ 1 := by unfold Z21 bor; split <;> omega
theorem Zau {l1 l2 : List Nat} (h1 : WOk l1) (h2 : WOk l2) {n : Nat} (hn : n = max l1.length l2.length + 1) : val (zst Z2u Z25 l1 l2 n).1 = val l1 + val l2 := by
 have h := Z8V l1 l2 n
 rw [List.take_of_length_le (by omega), List.take_of_length_le (by omega)] at h
 have b1 : val l1 < B32 ^ (n - 1) := Nat.lt_of_lt_of_le (Z08 h1) (Nat.pow_le_pow_right (by decide) (by omega))
 have b2 : val l2 < B32 ^ (n - 1) := Nat.lt_of_lt_of_le (Z08 h2) (Nat.pow_le_pow_right (by decide) (by omega))
 have b3 : 2 * B32 ^ (n - 1) ≤ B32 ^ n := by
  have : n = (n - 1) + 1 := by omega
  rw [this, Nat.pow_succ, Nat.mul_comm]; simp only [Nat.add_sub_cancel]
  exact Nat.mul_le_mul_left _ (by decide)
 rcases Nat.eq_zero_or_pos (zst Z2u Z25 l1 l2 n).2 with e | e
 ·rw [e] at h; simpa using h
 ·have := Nat.mul_le_mul_left (B32 ^ n) e
  omega
theorem Z9y {l1 l2 : List Nat} (h1 : WOk l1) (h2 : WOk l2) (hle : val l2 ≤ val l1) {n : Nat} (hn : n = max l1.length l2.length + 1) : val (zst Z2b Z21 l1 l2 n).1 = val l1 - val l2 := by
 have h := (Z8U l1 l2 h1 h2 n).2
 rw [List.take_of_length_le (by omega), List.take_of_length_le (by omega)] at h
 have b1 := Z08 (Z6Z Z4B l1 l2 (h := Z21) n)
 rw [Z1O] at b1
 rcases Nat.eq_zero_or_pos (zst Z2b Z21 l1 l2 n).2 with e | e
 ·rw [e] at h; omega
 ·have := Nat.mul_le_mul_left (B32 ^ n) e
  omega
theorem Z4X (A1 A2 : Option Addr) (n1 c1 n2 c2 : Nat) (l1 l2 : List Nat) (w : World) (h1 : WAt w A1 n1 c1 l1) (h2 : WAt w A2 n2 c2 l2) (hs1 : n1 ≤ Z8) (hs2 : n2 ≤ Z8) :
  Ca 273 #[.slice A1 n1 c1, .slice A2 n2 c2] w (ZcB w (val l1 + val l2) (max n1 n2 + 1)) := by
 have HC := zH (Z7S 283 Z6u Z2u Z25 ZbC Z9o Z9p A1 A2 n1 c1 n2 c2 (max n1 n2 + 1) l1 l2 w h1 h2 hs1 hs2 rfl)
 have HV := zH (Zau (n := max n1 n2 + 1) h1.rep.ok h2.rep.ok (by rw [h1.len, h2.len]))
 have HL := zH (Z1O Z2u Z25 l1 l2 (max n1 n2 + 1))
 clear h1 h2
 go_enter func273, ntmps273
 go_wp2_with (go_at_call 282; refine HC.out.mono ?_; rintro e w1 ⟨A, n, c, rfl, hW, hb⟩)
 go_ret
 exact ⟨A, n, c, _, rfl, hW, HV.out, by rw [hW.len, HL.out]; exact Nat.le_refl _, hb⟩
theorem Z1Y (A1 A2 : Option Addr) (n1 c1 n2 c2 : Nat) (l1 l2 : List Nat) (w : World) (h1 : WAt w A1 n1 c1 l1) (h2 : WAt w A2 n2 c2 l2) (hs1 : n1 ≤ Z8) (hs2 : n2 ≤ Z8) (hle : val l2 ≤ val l1) :
  Ca 274 #[.slice A1 n1 c1, .slice A2 n2 c2] w (ZcB w (val l1 - val l2) (max n1 n2 + 1)) := by
 have HC := zH (Z7S 284 Z5v Z2b Z21 ZaJ Z4B Zbi A1 A2 n1 c1 n2 c2 (max n1 n2 + 1) l1 l2 w h1 h2 hs1 hs2 rfl)
 have HV := zH (Z9y (n := max n1 n2 + 1) h1.rep.ok h2.rep.ok hle (by rw [h1.len, h2.len]))
 have HL := zH (Z1O Z2b Z21 l1 l2 (max n1 n2 + 1))
 clear h1 h2 hle
 go_enter func274, ntmps274
 go_wp2_with (go_at_call 282; refine HC.out.mono ?_; rintro e w1 ⟨A, n, c, rfl, hW, hb⟩)
 go_ret
 exact ⟨A, n, c, _, rfl, hW, HV.out, by rw [hW.len, HL.out]; exact Nat.le_refl _, hb⟩
theorem ZaE (A1 A2 : Option Addr) (c1 c2 : Nat) (l1 l2 : List Nat) (w : World) (h1 : Wd w A1 l1) (h2 : Wd w A2 l2) (hm1 : l1.length ≤ 4611686018427387904) (hm2 : l2.length ≤ 4611686018427387904)
  (o1 : WOk l1) (o2 : WOk l2) (t1 : Z0W l1) (t2 : Z0W l2) :
  Ca 202 #[.slice A1 l1.length c1, .slice A2 l2.length c2] w fun e w' => e = .returned (.int .i64 (Z1g (val l1) (val l2))) ∧ Ext w w' := by
 by_cases hl : l1.length = l2.length
 ·obtain ⟨n, hn⟩ : ∃ n, l1.length = n := ⟨_, rfl⟩
  have HN := zH hn
  have HN2 := zH (hl.symm.trans hn)
  rw [← hl, hn]
  rw [hn] at hm1
  have H0 : Hid (l1.drop n = l2.drop n) := by
   show _ = _
   rw [List.drop_of_length_le (by omega), List.drop_of_length_le (by omega)]
  clear hm2 hl hn
  go_enter func202, ntmps202
  go_wp2
  go_loopw [5] (fun i wr => ∃ m : Nat, m ≤ n ∧ i = .int .i64 ((m : Int) - 1) ∧ Hid (l1.drop m = l2.drop m) ∧ ∃ q, wr = w.drewN q) (fun i _ => (intOf i + 1).toNat)
  case atStart => exact ⟨n, Nat.le_refl _, rfl, H0, 0, rfl⟩
  case round =>
   obtain ⟨m, hmn, rfl, heq, q, rfl⟩ := hrel
   by_cases hm0 : m = 0
   ·subst hm0
    go_wp2
    go_ret
    refine ⟨ZY ?_, (Ext.refl _).drewN _⟩
    have := heq.out; simp at this; subst this; exact (Z9c _).symm
   ·obtain ⟨m, rfl⟩ : ∃ k, m = k + 1 := ⟨m - 1, by omega⟩
    clear hm0
    obtain ⟨b1, f1, rfl, hc1⟩ := h1 (by have := HN.out; omega)
    obtain ⟨b2, f2, rfl, hc2⟩ := h2 (by have := HN2.out; omega)
    have g1 := hc1 m (by have := HN.out; omega)
    have g2 := hc2 m (by have := HN2.out; omega)
    have r1 := Zd o1 m
    have r2 := Zd o2 m
    clear hc1 hc2
    obtain ⟨x1, hx1⟩ : ∃ x, l1.getD m 0 = x := ⟨_, rfl⟩
    obtain ⟨x2, hx2⟩ : ∃ x, l2.getD m 0 = x := ⟨_, rfl⟩
    rw [hx1] at g1 r1
    rw [hx2] at g2 r2
    have HX1 := zH hx1
    have HX2 := zH hx2
    clear hx1 hx2
    have em : ((m + 1 : Nat) : Int) - 1 = m := by omega
    rw [em]
    clear em
    have hm2 : m < n := by omega
    have heqs : x1 = x2 → Hid (l1.drop m = l2.drop m) := fun h => by
     show _ = _
     have b1 := HN.out
     have b2 := HN2.out
     rw [List.drop_eq_getElem_cons (show m < l1.length by omega), List.drop_eq_getElem_cons (show m < l2.length by omega), heq.out]
     have a1 := HX1.out; have a2 := HX2.out
     rw [List.getD_eq_getElem?_getD, List.getElem?_eq_getElem (by have := HN.out; omega)] at a1
     rw [List.getD_eq_getElem?_getD, List.getElem?_eq_getElem (by have := HN2.out; omega)] at a2
     simp only [Option.getD_some] at a1 a2
     rw [a1, a2, h]
    have hlts : x1 < x2 → val l1 < val l2 := fun h => Z2L o1 m (by have := HN.out; omega) (by have := HN2.out; omega) heq.out (by rw [HX1.out, HX2.out]; exact h)
    have hgts : x2 < x1 → val l2 < val l1 := fun h => Z2L o2 m (by have := HN2.out; omega) (by have := HN.out; omega) heq.out.symm (by rw [HX1.out, HX2.out]; exact h)
    go_wp2
    by_cases hx : x1 = x2
    ·subst hx
     clear hlts hgts
     replace heqs := heqs rfl
     go_quiet (fail)
     go_wp2
     go_roundw
     case rel => exact ⟨m, by omega, rfl, heqs, q + nq, rfl⟩
     case measure => simp [intOf]
    ·clear heqs
     by_cases hx2 : x1 < x2
     ·have HR := zH (Z4Q (hlts hx2))
      have hd : decide (x1 < x2) = true := by simp [hx2]
      have hq : (((x1 : Int)) != (x2 : Int)) = true := by simp; omega
      clear hlts hgts hx hx2
      go_quiet (fail)
      go_wp2
      go_quiet (fail)
      go_wp2
      go_ret
      exact ⟨ZY HR.out.symm, ((Ext.refl _).drewN _).drewN _ |>.drewN _⟩
     ·have HR := zH (Z4R (hgts (by omega)))
      have hd : decide (x1 < x2) = false := by simp [hx2]
      have hq : (((x1 : Int)) != (x2 : Int)) = true := by simp; omega
      clear hlts hgts hx hx2
      go_quiet (fail)
      go_wp2
      go_quiet (fail)
      go_wp2
      go_ret
      exact ⟨ZY HR.out.symm, ((Ext.refl _).drewN _).drewN _ |>.drewN _⟩
 ·by_cases h : l1.length < l2.length
  ·have HR := zH (Z4Q (Z1t o1 t2 h))
   have hd : decide (l1.length < l2.length) = true := by simp [h]
   have hq : (((l1.length : Int)) != (l2.length : Int)) = true := by simp; omega
   clear hl
   go_enter func202, ntmps202
   go_wp2
   go_ret
   exact ⟨ZY HR.out.symm, Ext.refl _⟩
  ·have HR := zH (Z4R (Z1t o2 t1 (by omega)))
   have hd : decide (l1.length < l2.length) = false := by simp [h]
   have hq : (((l1.length : Int)) != (l2.length : Int)) = true := by simp; omega
   clear hl
   go_enter func202, ntmps202
   go_wp2
   go_ret
   exact ⟨ZY HR.out.symm, Ext.refl _⟩
theorem ZB (A1 A2 : Option Addr) (n1 c1 n2 c2 : Nat) (l1 l2 : List Nat) (w : World) (h1 : WAt w A1 n1 c1 l1) (h2 : WAt w A2 n2 c2 l2) (hs1 : n1 ≤ Z8) (hs2 : n2 ≤ Z8) (t1 : Z0W l1) (t2 : Z0W l2) :
  Ca 202 #[.slice A1 n1 c1, .slice A2 n2 c2] w fun e w' => e = .returned (.int .i64 (Z1g (val l1) (val l2))) ∧ Ext w w' := by
 unfold Z8 at hs1 hs2
 have := ZaE A1 A2 c1 c2 l1 l2 w h1.rep.words h2.rep.words (by have := h1.len; omega) (by have := h2.len; omega) h1.rep.ok h2.rep.ok t1 t2
 rwa [← h1.len, ← h2.len] at this
theorem Z0o (s1 s2 : Bool) (A1 A2 : Option Addr) (n1 c1 n2 c2 g : Nat) (x y : Int) (w : World) (h1 : IAt w s1 A1 n1 c1 x) (h2 : IAt w s2 A2 n2 c2 y) (hs1 : n1 ≤ Z8) (hs2 : n2 ≤ Z8)
  (k0 : w.cell? ⟨g, 0, none⟩ = some (.bool s1)) (k1 : w.cell? ⟨g, 1, none⟩ = some (.slice A1 n1 c1)) (k2 : w.cell? ⟨g, 2, none⟩ = some (.bool s2)) (k3 : w.cell? ⟨g, 3, none⟩ = some (.slice A2 n2 c2)) :
  Ca 201 #[.slice (some ⟨g, 0, none⟩) 2 2] w fun e w' => e = .returned (.bool true) ∧ Ext w w' := by
 have hg := World.block_lt_of_cell? w _ k0
 simp only at hg
 have H1 := zH h1
 have H2 := zH h2
 clear h1 h2
 go_enter func201, ntmps201
 go_wp2_with fail
 go_loopw [7] (fun i wr => (i = .int .i64 0 ∨ i = .int .i64 1 ∨ i = .int .i64 2) ∧ Ext w wr) (fun i _ => 2 - (intOf i).toNat)
 case atStart => exact ⟨.inl rfl, Ext.refl _⟩
 case round =>
  obtain ⟨hi, hb⟩ := hrel
  obtain ⟨hc, hf⟩ := hb.cells
  rcases hi with rfl | rfl | rfl
  ·go_wp2_with (go_at_call 125; (with_reducible refine (Z0p s1 A1 n1 c1 x _ (H1.out.ext EX) hs1).mono ?_); rintro e w1 ⟨rfl, hbw1⟩; (try clear hc hf); obtain ⟨hBw1, hc, hf⟩ := EC w1 (w))
   go_roundw
   case rel => exact ⟨.inr (.inl rfl), EX⟩
   case measure => simp [intOf]
  ·go_wp2_with (go_at_call 125; (with_reducible refine (Z0p s2 A2 n2 c2 y _ (H2.out.ext EX) hs2).mono ?_); rintro e w1 ⟨rfl, hbw1⟩; (try clear hc hf); obtain ⟨hBw1, hc, hf⟩ := EC w1 (w))
   go_roundw
   case rel => exact ⟨.inr (.inr rfl), EX⟩
   case measure => simp [intOf]
  ·go_wp2
   go_ret
   exact ⟨rfl, hb⟩
theorem Z1I (s : Bool) (A : Option Addr) (n c : Nat) (l : List Nat) (w : World) (h : WAt w A n c l) (hn : n ≤ 1) :
  Ca 272 #[.bool s, .slice A n c] w fun e w' => e = .returned (.tuple #[.int .i64 (sgd s (val l)), .bool true]) ∧ Ext w w' := by
 have := Z4W s A n c l w h (by unfold Z8; omega)
 rwa [if_pos hn] at this
theorem Z3a (s : Bool) (A : Option Addr) (n c : Nat) (l : List Nat) (w : World) (h : WAt w A n c l) (hs : n ≤ Z8) (hn : ¬ n ≤ 1) :
  Ca 272 #[.bool s, .slice A n c] w fun e w' => e = .returned (.tuple #[.int .i64 0, .bool false]) ∧ Ext w w' := by
 have := Z4W s A n c l w h hs
 rwa [if_neg hn] at this
theorem Z2Z (s : Bool) (n : Nat) : (sgd s n).natAbs = n := by unfold sgd; split <;> omega
theorem Z8Q {s : Bool} {l : List Nat} (h : WOk l) (hl : l.length ≤ 1) : -4294967296 < sgd s (val l) ∧ sgd s (val l) < 4294967296 := by
 have h1 := Z08 h
 have h2 : B32 ^ l.length ≤ B32 ^ 1 := Nat.pow_le_pow_right (by decide) hl
 have h3 : val l < 4294967296 := by simpa using Nat.lt_of_lt_of_le h1 h2
 unfold sgd; split <;> omega
theorem Z4E (s : Bool) (a b : Nat) : sgd s a + sgd s b = sgd s (a + b) := by unfold sgd; split <;> omega
theorem Z6J (s : Bool) (a b : Nat) (h : b ≤ a) : sgd s a + sgd (!s) b = sgd s (a - b) := by unfold sgd; cases s <;> simp <;> omega
theorem Z57 (s : Bool) (a b : Nat) (h : a ≤ b) : sgd s a + sgd (!s) b = sgd (!s) (b - a) := by unfold sgd; cases s <;> simp <;> omega
theorem Z28 {a b : Nat} (h : b ≤ a) : 0 ≤ Z1g a b := by unfold Z1g; split <;> (try split) <;> omega
theorem Z2K {a b : Nat} (h : a < b) : Z1g a b < 0 := by unfold Z1g; rw [if_pos h]; decide
theorem Z4C (s1 s2 : Bool) (A1 A2 : Option Addr) (n1 c1 n2 c2 : Nat) (l1 l2 : List Nat) (w : World) (h1 : WAt w A1 n1 c1 l1) (h2 : WAt w A2 n2 c2 l2) (hs1 : n1 < Z8) (hs2 : n2 < Z8) (t1 : Z0W l1) (t2 : Z0W l2) (hbig : ¬ n1 ≤ 1 ∨ ¬ n2 ≤ 1) :
  Ca 253 #[.slice A1 n1 c1, .bool s1, .slice A2 n2 c2, .bool s2] w (Z1F w (sgd s1 (val l1) + sgd s2 (val l2))) := by
 unfold Z8 at hs1 hs2
 have H1 := zH h1
 have H2 := zH h2
 have T1 := zH t1
 have T2 := zH t2
 have HWN1 : Hid (¬ n1 ≤ 1 → ∀ W, WAt W A1 n1 c1 l1 → Ca 272 #[.bool s1, .slice A1 n1 c1] W (fun e w' => e = .returned (.tuple #[.int .i64 0, .bool false]) ∧ Ext W w')) := fun k W hW => Z3a s1 A1 n1 c1 l1 W hW (by unfold Z8; omega) k
 have HWN2 : Hid (¬ n2 ≤ 1 → ∀ W, WAt W A2 n2 c2 l2 → Ca 272 #[.bool s2, .slice A2 n2 c2] W (fun e w' => e = .returned (.tuple #[.int .i64 0, .bool false]) ∧ Ext W w')) := fun k W hW => Z3a s2 A2 n2 c2 l2 W hW (by unfold Z8; omega) k
 clear h1 h2 t1 t2
 obtain ⟨v1, hv1⟩ : ∃ v, val l1 = v := ⟨_, rfl⟩
 obtain ⟨v2, hv2⟩ : ∃ v, val l2 = v := ⟨_, rfl⟩
 have V1 := zH hv1
 have V2 := zH hv2
 rw [hv1, hv2]
 clear hv1 hv2
 by_cases k1 : n1 ≤ 1
 ·have k2 : ¬ n2 ≤ 1 := by omega
  have HK2 := zH k2
  clear hbig
  have W1 := fun W hW => Z1I s1 A1 n1 c1 l1 W hW k1
  have bb := Z8Q (s := s1) H1.out.rep.ok (by have := H1.out.len; omega)
  obtain ⟨x, hx⟩ : ∃ x, sgd s1 (val l1) = x := ⟨_, rfl⟩
  rw [hx] at W1 bb
  obtain ⟨bb1, bb2⟩ := bb
  have HW1 := zH W1
  clear W1 hx
  by_cases hss : s1 = s2
  ·subst hss
   go_enter func253, ntmps253
   go_wp2_with (first | (go_at_call 272; (with_reducible refine (HW1.out _ (H1.out.ext EX)).mono ?_); rintro e w1 ⟨rfl, hbw1⟩; (try clear hc hf); obtain ⟨hBw1, hc, hf⟩ := EC1 w1 w) | (go_at_call 272; (with_reducible refine (HWN2.out HK2.out _ (H2.out.ext EX)).mono ?_); rintro e w2 ⟨rfl, hbw2⟩; (try clear hc hf); obtain ⟨hBw2, hc, hf⟩ := EC1 w2 w) | (go_at_call 273; (with_reducible refine (Z4X A1 A2 n1 c1 n2 c2 l1 l2 _ (H1.out.ext EX) (H2.out.ext EX) (by unfold Z8; omega) (by unfold Z8; omega)).mono ?_); rintro e w3 ⟨Aw3, nw3, cw3, lw3, rfl, hIw3, hvw3, hnw3, hbw3⟩; (try clear hc hf); obtain ⟨hBw3, hc, hf⟩ := EC1 w3 w; have HVw3 := zH hvw3; clear hvw3) | (go_at_call 207; (with_reducible refine (Zs s1 _ _ _ _ _ (hIw3.ext EX) (by unfold Z8; omega)).mono ?_); rintro e w4 ⟨sw4, Aw4, nw4, cw4, rfl, hIw4, hbw4⟩; (try clear hc hf); obtain ⟨hBw4, hc, hf⟩ := EC1 w4 w))
   rw [HVw3.out, V1.out, V2.out, ← Z4E] at hIw4
   refine bodyPost_ret (v := .agg #[.bool sw4, .slice Aw4 nw4 cw4]) (by simp [results, results253, go_sem, hc, hf]) rfl ⟨_, _, _, _, rfl, IAt.keep hIw4 KP, EX⟩
  ·have hne : (s1 == s2) = false := by cases s1 <;> cases s2 <;> simp_all
   have hs2 : s2 = !s1 := by cases s1 <;> cases s2 <;> simp_all
   have HS2 := zH hs2
   clear hs2 hss
   by_cases hle : v2 ≤ v1
   ·obtain ⟨cc, hcc⟩ : ∃ x, Z1g v1 v2 = x := ⟨_, rfl⟩
    have hc0 : 0 ≤ cc := hcc ▸ Z28 hle
    have HC := zH hcc
    clear hcc
    go_enter func253, ntmps253
    go_wp2_with (first | (go_at_call 272; (with_reducible refine (HW1.out _ (H1.out.ext EX)).mono ?_); rintro e w1 ⟨rfl, hbw1⟩; (try clear hc hf); obtain ⟨hBw1, hc, hf⟩ := EC1 w1 w) | (go_at_call 272; (with_reducible refine (HWN2.out HK2.out _ (H2.out.ext EX)).mono ?_); rintro e w2 ⟨rfl, hbw2⟩; (try clear hc hf); obtain ⟨hBw2, hc, hf⟩ := EC1 w2 w) | (go_at_call 202; (with_reducible refine (ZB A1 A2 n1 c1 n2 c2 l1 l2 _ (H1.out.ext EX) (H2.out.ext EX) (by unfold Z8; omega) (by unfold Z8; omega) T1.out T2.out).mono ?_); rw [V1.out, V2.out, HC.out]; rintro e w5 ⟨rfl, hbw5⟩; (try clear hc hf); obtain ⟨hBw5, hc, hf⟩ := EC1 w5 w) | (go_at_call 274; (with_reducible refine (Z1Y A1 A2 n1 c1 n2 c2 l1 l2 _ (H1.out.ext EX) (H2.out.ext EX) (by unfold Z8; omega) (by unfold Z8; omega) (by rw [V1.out, V2.out]; exact hle)).mono ?_); rintro e w3 ⟨Aw3, nw3, cw3, lw3, rfl, hIw3, hvw3, hnw3, hbw3⟩; (try clear hc hf); obtain ⟨hBw3, hc, hf⟩ := EC1 w3 w; have HVw3 := zH hvw3; clear hvw3) | (go_at_call 207; (with_reducible refine (Zs s1 _ _ _ _ _ (hIw3.ext EX) (by unfold Z8; omega)).mono ?_); rintro e w4 ⟨sw4, Aw4, nw4, cw4, rfl, hIw4, hbw4⟩; (try clear hc hf); obtain ⟨hBw4, hc, hf⟩ := EC1 w4 w))
    rw [HVw3.out, V1.out, V2.out, ← Z6J s1 v1 v2 hle, ← HS2.out] at hIw4
    refine bodyPost_ret (v := .agg #[.bool sw4, .slice Aw4 nw4 cw4]) (by simp [results, results253, go_sem, hc, hf]) rfl ⟨_, _, _, _, rfl, IAt.keep hIw4 KP, EX⟩
   ·obtain ⟨cc, hcc⟩ : ∃ x, Z1g v1 v2 = x := ⟨_, rfl⟩
    have hc0 : cc < 0 := hcc ▸ Z2K (by omega)
    have HC := zH hcc
    clear hcc
    go_enter func253, ntmps253
    go_wp2_with (first | (go_at_call 272; (with_reducible refine (HW1.out _ (H1.out.ext EX)).mono ?_); rintro e w1 ⟨rfl, hbw1⟩; (try clear hc hf); obtain ⟨hBw1, hc, hf⟩ := EC1 w1 w) | (go_at_call 272; (with_reducible refine (HWN2.out HK2.out _ (H2.out.ext EX)).mono ?_); rintro e w2 ⟨rfl, hbw2⟩; (try clear hc hf); obtain ⟨hBw2, hc, hf⟩ := EC1 w2 w) | (go_at_call 202; (with_reducible refine (ZB A1 A2 n1 c1 n2 c2 l1 l2 _ (H1.out.ext EX) (H2.out.ext EX) (by unfold Z8; omega) (by unfold Z8; omega) T1.out T2.out).mono ?_); rw [V1.out, V2.out, HC.out]; rintro e w5 ⟨rfl, hbw5⟩; (try clear hc hf); obtain ⟨hBw5, hc, hf⟩ := EC1 w5 w) | (go_at_call 274; (with_reducible refine (Z1Y A2 A1 n2 c2 n1 c1 l2 l1 _ (H2.out.ext EX) (H1.out.ext EX) (by unfold Z8; omega) (by unfold Z8; omega) (by rw [V1.out, V2.out]; omega)).mono ?_); rintro e w3 ⟨Aw3, nw3, cw3, lw3, rfl, hIw3, hvw3, hnw3, hbw3⟩; (try clear hc hf); obtain ⟨hBw3, hc, hf⟩ := EC1 w3 w; have HVw3 := zH hvw3; clear hvw3) | (go_at_call 207; (with_reducible refine (Zs s2 _ _ _ _ _ (hIw3.ext EX) (by unfold Z8; omega)).mono ?_); rintro e w4 ⟨sw4, Aw4, nw4, cw4, rfl, hIw4, hbw4⟩; (try clear hc hf); obtain ⟨hBw4, hc, hf⟩ := EC1 w4 w))
    have hfin : sgd s2 (v2 - v1) = sgd s1 v1 + sgd s2 v2 := by rw [HS2.out, Z57 s1 v1 v2 (by omega)]
    rw [HVw3.out, V1.out, V2.out, hfin] at hIw4
    refine bodyPost_ret (v := .agg #[.bool sw4, .slice Aw4 nw4 cw4]) (by simp [results, results253, go_sem, hc, hf]) rfl ⟨_, _, _, _, rfl, IAt.keep hIw4 KP, EX⟩
 ·clear hbig
  have HK1 := zH k1
  by_cases hss : s1 = s2
  ·subst hss
   go_enter func253, ntmps253
   go_wp2_with (first | (go_at_call 272; (with_reducible refine (HWN1.out HK1.out _ (H1.out.ext EX)).mono ?_); rintro e w1 ⟨rfl, hbw1⟩; (try clear hc hf); obtain ⟨hBw1, hc, hf⟩ := EC1 w1 w) | (go_at_call 272; (with_reducible refine (HWN2.out HK2.out _ (H2.out.ext EX)).mono ?_); rintro e w2 ⟨rfl, hbw2⟩; (try clear hc hf); obtain ⟨hBw2, hc, hf⟩ := EC1 w2 w) | (go_at_call 273; (with_reducible refine (Z4X A1 A2 n1 c1 n2 c2 l1 l2 _ (H1.out.ext EX) (H2.out.ext EX) (by unfold Z8; omega) (by unfold Z8; omega)).mono ?_); rintro e w3 ⟨Aw3, nw3, cw3, lw3, rfl, hIw3, hvw3, hnw3, hbw3⟩; (try clear hc hf); obtain ⟨hBw3, hc, hf⟩ := EC1 w3 w; have HVw3 := zH hvw3; clear hvw3) | (go_at_call 207; (with_reducible refine (Zs s1 _ _ _ _ _ (hIw3.ext EX) (by unfold Z8; omega)).mono ?_); rintro e w4 ⟨sw4, Aw4, nw4, cw4, rfl, hIw4, hbw4⟩; (try clear hc hf); obtain ⟨hBw4, hc, hf⟩ := EC1 w4 w))
   rw [HVw3.out, V1.out, V2.out, ← Z4E] at hIw4
   refine bodyPost_ret (v := .agg #[.bool sw4, .slice Aw4 nw4 cw4]) (by simp [results, results253, go_sem, hc, hf]) rfl ⟨_, _, _, _, rfl, IAt.keep hIw4 KP, EX⟩
  ·have hne : (s1 == s2) = false := by cases s1 <;> cases s2 <;> simp_all
   have hs2 : s2 = !s1 := by cases s1 <;> cases s2 <;> simp_all
   have HS2 := zH hs2
   clear hs2 hss
   by_cases hle : v2 ≤ v1
   ·obtain ⟨cc, hcc⟩ : ∃ x, Z1g v1 v2 = x := ⟨_, rfl⟩
    have hc0 : 0 ≤ cc := hcc ▸ Z28 hle
    have HC := zH hcc
    clear hcc
    go_enter func253, ntmps253
    go_wp2_with (first | (go_at_call 272; (with_reducible refine (HWN1.out HK1.out _ (H1.out.ext EX)).mono ?_); rintro e w1 ⟨rfl, hbw1⟩; (try clear hc hf); obtain ⟨hBw1, hc, hf⟩ := EC1 w1 w) | (go_at_call 272; (with_reducible refine (HWN2.out HK2.out _ (H2.out.ext EX)).mono ?_); rintro e w2 ⟨rfl, hbw2⟩; (try clear hc hf); obtain ⟨hBw2, hc, hf⟩ := EC1 w2 w) | (go_at_call 202; (with_reducible refine (ZB A1 A2 n1 c1 n2 c2 l1 l2 _ (H1.out.ext EX) (H2.out.ext EX) (by unfold Z8; omega) (by unfold Z8; omega) T1.out T2.out).mono ?_); rw [V1.out, V2.out, HC.out]; rintro e w5 ⟨rfl, hbw5⟩; (try clear hc hf); obtain ⟨hBw5, hc, hf⟩ := EC1 w5 w) | (go_at_call 274; (with_reducible refine (Z1Y A1 A2 n1 c1 n2 c2 l1 l2 _ (H1.out.ext EX) (H2.out.ext EX) (by unfold Z8; omega) (by unfold Z8; omega) (by rw [V1.out, V2.out]; exact hle)).mono ?_); rintro e w3 ⟨Aw3, nw3, cw3, lw3, rfl, hIw3, hvw3, hnw3, hbw3⟩; (try clear hc hf); obtain ⟨hBw3, hc, hf⟩ := EC1 w3 w; have HVw3 := zH hvw3; clear hvw3) | (go_at_call 207; (with_reducible refine (Zs s1 _ _ _ _ _ (hIw3.ext EX) (by unfold Z8; omega)).mono ?_); rintro e w4 ⟨sw4, Aw4, nw4, cw4, rfl, hIw4, hbw4⟩; (try clear hc hf); obtain ⟨hBw4, hc, hf⟩ := EC1 w4 w))
    rw [HVw3.out, V1.out, V2.out, ← Z6J s1 v1 v2 hle, ← HS2.out] at hIw4
    refine bodyPost_ret (v := .agg #[.bool sw4, .slice Aw4 nw4 cw4]) (by simp [results, results253, go_sem, hc, hf]) rfl ⟨_, _, _, _, rfl, IAt.keep hIw4 KP, EX⟩
   ·obtain ⟨cc, hcc⟩ : ∃ x, Z1g v1 v2 = x := ⟨_, rfl⟩
    have hc0 : cc < 0 := hcc ▸ Z2K (by omega)
    have HC := zH hcc
    clear hcc
    go_enter func253, ntmps253
    go_wp2_with (first | (go_at_call 272; (with_reducible refine (HWN1.out HK1.out _ (H1.out.ext EX)).mono ?_); rintro e w1 ⟨rfl, hbw1⟩; (try clear hc hf); obtain ⟨hBw1, hc, hf⟩ := EC1 w1 w) | (go_at_call 272; (with_reducible refine (HWN2.out HK2.out _ (H2.out.ext EX)).mono ?_); rintro e w2 ⟨rfl, hbw2⟩; (try clear hc hf); obtain ⟨hBw2, hc, hf⟩ := EC1 w2 w) | (go_at_call 202; (with_reducible refine (ZB A1 A2 n1 c1 n2 c2 l1 l2 _ (H1.out.ext EX) (H2.out.ext EX) (by unfold Z8; omega) (by unfold Z8; omega) T1.out T2.out).mono ?_); rw [V1.out, V2.out, HC.out]; rintro e w5 ⟨rfl, hbw5⟩; (try clear hc hf); obtain ⟨hBw5, hc, hf⟩ := EC1 w5 w) | (go_at_call 274; (with_reducible refine (Z1Y A2 A1 n2 c2 n1 c1 l2 l1 _ (H2.out.ext EX) (H1.out.ext EX) (by unfold Z8; omega) (by unfold Z8; omega) (by rw [V1.out, V2.out]; omega)).mono ?_); rintro e w3 ⟨Aw3, nw3, cw3, lw3, rfl, hIw3, hvw3, hnw3, hbw3⟩; (try clear hc hf); obtain ⟨hBw3, hc, hf⟩ := EC1 w3 w; have HVw3 := zH hvw3; clear hvw3) | (go_at_call 207; (with_reducible refine (Zs s2 _ _ _ _ _ (hIw3.ext EX) (by unfold Z8; omega)).mono ?_); rintro e w4 ⟨sw4, Aw4, nw4, cw4, rfl, hIw4, hbw4⟩; (try clear hc hf); obtain ⟨hBw4, hc, hf⟩ := EC1 w4 w))
    have hfin : sgd s2 (v2 - v1) = sgd s1 v1 + sgd s2 v2 := by rw [HS2.out, Z57 s1 v1 v2 (by omega)]
    rw [HVw3.out, V1.out, V2.out, hfin] at hIw4
    refine bodyPost_ret (v := .agg #[.bool sw4, .slice Aw4 nw4 cw4]) (by simp [results, results253, go_sem, hc, hf]) rfl ⟨_, _, _, _, rfl, IAt.keep hIw4 KP, EX⟩
theorem Z2i (s1 s2 : Bool) (A1 A2 : Option Addr) (n1 c1 n2 c2 : Nat) (l1 l2 : List Nat) (w : World) (h1 : WAt w A1 n1 c1 l1) (h2 : WAt w A2 n2 c2 l2) (hs1 : n1 < Z8) (hs2 : n2 < Z8) (t1 : Z0W l1) (t2 : Z0W l2) :
  Ca 253 #[.slice A1 n1 c1, .bool s1, .slice A2 n2 c2, .bool s2] w (Z1F w (sgd s1 (val l1) + sgd s2 (val l2))) := by
 unfold Z8 at hs1 hs2
 have H1 := zH h1
 have H2 := zH h2
 have T1 := zH t1
 have T2 := zH t2
 clear h1 h2 t1 t2
 by_cases k1 : n1 ≤ 1
 ·by_cases k2 : n2 ≤ 1
  ·have b1 := Z8Q (s := s1) H1.out.rep.ok (by have := H1.out.len; omega)
   have b2 := Z8Q (s := s2) H2.out.rep.ok (by have := H2.out.len; omega)
   obtain ⟨x, hx⟩ : ∃ x, sgd s1 (val l1) = x := ⟨_, rfl⟩
   obtain ⟨y, hy⟩ : ∃ y, sgd s2 (val l2) = y := ⟨_, rfl⟩
   have W1 := fun W hW => Z1I s1 A1 n1 c1 l1 W hW k1
   have W2 := fun W hW => Z1I s2 A2 n2 c2 l2 W hW k2
   rw [hx] at b1 W1 ⊢
   rw [hy] at b2 W2 ⊢
   have HW1 := zH W1
   have HW2 := zH W2
   clear W1 W2 hx hy
   obtain ⟨b11, b12⟩ := b1
   obtain ⟨b21, b22⟩ := b2
   go_enter func253, ntmps253
   go_wp2_with (first | (go_at_call 272; (with_reducible refine (HW1.out _ (H1.out.ext EX)).mono ?_); rintro e w1 ⟨rfl, hbw1⟩; (try clear hc hf); obtain ⟨hBw1, hc, hf⟩ := EC1 w1 w; clear HW1) | (go_at_call 272; (with_reducible refine (HW2.out _ (H2.out.ext EX)).mono ?_); rintro e w2 ⟨rfl, hbw2⟩; (try clear hc hf); obtain ⟨hBw2, hc, hf⟩ := EC1 w2 w) | (go_at_call 148; (with_reducible refine (Zk (x + y) _ (by omega) (by omega)).mono ?_); rintro e w3 ⟨sw3, Aw3, nw3, cw3, rfl, hIw3, hbw3⟩; (try clear hc hf); obtain ⟨hBw3, hc, hf⟩ := EC1 w3 w))
   refine bodyPost_ret (v := .agg #[.bool sw3, .slice Aw3 nw3 cw3]) (by simp [results, results253, go_sem, hc, hf]) rfl ⟨_, _, _, _, rfl, IAt.keep hIw3 KP, EX⟩
  ·exact Z4C s1 s2 A1 A2 n1 c1 n2 c2 l1 l2 w H1.out H2.out (by unfold Z8; omega) (by unfold Z8; omega) T1.out T2.out (.inr k2)
 ·exact Z4C s1 s2 A1 A2 n1 c1 n2 c2 l1 l2 w H1.out H2.out (by unfold Z8; omega) (by unfold Z8; omega) T1.out T2.out (.inl k1)
theorem IAt.sv {w : World} {s : Bool} {A : Option Addr} {n c : Nat} {z : Int} (h : IAt w s A n c z) : sgd s (val (Z7 z.natAbs)) = z := by
 rw [Z9, h.sgn]; unfold sgd
 by_cases hz : z < 0 <;> simp [hz] <;> omega
theorem IAt.svn {w : World} {s : Bool} {A : Option Addr} {n c : Nat} {z : Int} (h : IAt w s A n c z) : sgd (!s) (val (Z7 z.natAbs)) = -z := by
 rw [Z9, h.sgn]; unfold sgd
 by_cases hz : z < 0 <;> simp [hz] <;> omega
theorem Z0B (s1 s2 : Bool) (A1 A2 : Option Addr) (n1 c1 n2 c2 : Nat) (x y : Int) (w : World) (h1 : IAt w s1 A1 n1 c1 x) (h2 : IAt w s2 A2 n2 c2 y) (hs1 : n1 < Z8) (hs2 : n2 < Z8) :
  Ca 209 #[.agg #[.bool s1, .slice A1 n1 c1], .agg #[.bool s2, .slice A2 n2 c2]] w (Z1F w (x + y)) := by
 have H1 := zH h1
 have H2 := zH h2
 clear h1 h2
 have hs1' : n1 ≤ Z8 := by omega
 have hs2' : n2 ≤ Z8 := by omega
 have HS := zH (show sgd s1 (val (Z7 x.natAbs)) + sgd s2 (val (Z7 y.natAbs)) = x + y by rw [H1.out.sv, H2.out.sv])
 go_enter func209, ntmps209
 go_wp2_with (first | (go_at_call 201; (with_reducible refine (Z0o s1 s2 A1 A2 n1 c1 n2 c2 _ x y _ (H1.out.ext EX) (H2.out.ext EX) hs1' hs2' (by simp [go_sem]) (by simp [go_sem]) (by simp [go_sem]) (by simp [go_sem])).mono ?_); rintro e w1 ⟨rfl, hbw1⟩; (try clear hc hf); obtain ⟨hBw1, hc, hf⟩ := EC3 w1 w) | (go_at_call 253; (with_reducible refine (Z2i s1 s2 A1 A2 n1 c1 n2 c2 _ _ _ (H1.out.rep.ext EX) (H2.out.rep.ext EX) hs1 hs2 (Zb _) (Zb _)).mono ?_); rw [HS.out]; rintro e w2 ⟨sw2, Aw2, nw2, cw2, rfl, hIw2, hbw2⟩; (try clear hc hf); obtain ⟨hBw2, hc, hf⟩ := EC3 w2 w))
 refine bodyPost_ret (v := .agg #[.bool sw2, .slice Aw2 nw2 cw2]) (by simp [results, results209, go_sem, hc, hf]) rfl ⟨_, _, _, _, rfl, IAt.keep hIw2 KP, EX⟩
theorem Z9N (s1 s2 : Bool) (A1 A2 : Option Addr) (n1 c1 n2 c2 : Nat) (x y : Int) (w : World) (h1 : IAt w s1 A1 n1 c1 x) (h2 : IAt w s2 A2 n2 c2 y) (hs1 : n1 < Z8) (hs2 : n2 < Z8) :
  Ca 275 #[.agg #[.bool s1, .slice A1 n1 c1], .agg #[.bool s2, .slice A2 n2 c2]] w (Z1F w (x - y)) := by
 have H1 := zH h1
 have H2 := zH h2
 clear h1 h2
 have hs1' : n1 ≤ Z8 := by omega
 have hs2' : n2 ≤ Z8 := by omega
 have HS := zH (show sgd s1 (val (Z7 x.natAbs)) + sgd (!s2) (val (Z7 y.natAbs)) = x - y by rw [H1.out.sv, H2.out.svn]; omega)
 go_enter func275, ntmps275
 go_wp2_with (first | (go_at_call 201; (with_reducible refine (Z0o s1 s2 A1 A2 n1 c1 n2 c2 _ x y _ (H1.out.ext EX) (H2.out.ext EX) hs1' hs2' (by simp [go_sem]) (by simp [go_sem]) (by simp [go_sem]) (by simp [go_sem])).mono ?_); rintro e w1 ⟨rfl, hbw1⟩; (try clear hc hf); obtain ⟨hBw1, hc, hf⟩ := EC3 w1 w) | (go_at_call 253; (with_reducible refine (Z2i s1 (!s2) A1 A2 n1 c1 n2 c2 _ _ _ (H1.out.rep.ext EX) (H2.out.rep.ext EX) hs1 hs2 (Zb _) (Zb _)).mono ?_); rw [HS.out]; rintro e w2 ⟨sw2, Aw2, nw2, cw2, rfl, hIw2, hbw2⟩; (try clear hc hf); obtain ⟨hBw2, hc, hf⟩ := EC3 w2 w))
 refine bodyPost_ret (v := .agg #[.bool sw2, .slice Aw2 nw2 cw2]) (by simp [results, results275, go_sem, hc, hf]) rfl ⟨_, _, _, _, rfl, IAt.keep hIw2 KP, EX⟩
theorem Z2U (s1 : Bool) (A1 : Option Addr) (n1 c1 : Nat) (x : Int) (w : World) (h1 : IAt w s1 A1 n1 c1 x) (hs1 : n1 ≤ Z8) :
  Ca 214 #[.agg #[.bool s1, .slice A1 n1 c1]] w (Z1F w (-x)) := by
 have H1 := zH h1
 clear h1
 have HS := zH H1.out.svn
 go_enter func214, ntmps214
 go_wp2_with (first | (go_at_call 125; (with_reducible refine (Z0p s1 A1 n1 c1 x _ (H1.out.ext EX) hs1).mono ?_); rintro e w1 ⟨rfl, hbw1⟩; (try clear hc hf); obtain ⟨hBw1, hc, hf⟩ := EC2 w1 w) | (go_at_call 207; (with_reducible refine (Zs (!s1) _ _ _ _ _ (H1.out.rep.ext EX) hs1).mono ?_); rw [HS.out]; rintro e w2 ⟨sw2, Aw2, nw2, cw2, rfl, hIw2, hbw2⟩; (try clear hc hf); obtain ⟨hBw2, hc, hf⟩ := EC2 w2 w))
 refine bodyPost_ret (v := .agg #[.bool sw2, .slice Aw2 nw2 cw2]) (by simp [results, results214, go_sem, hc, hf]) rfl ⟨_, _, _, _, rfl, IAt.keep hIw2 KP, EX⟩
theorem Z41 (s1 : Bool) (A1 : Option Addr) (n1 c1 : Nat) (x : Int) (w : World) (h1 : IAt w s1 A1 n1 c1 x) (hs1 : n1 ≤ Z8) :
  Ca 203 #[.agg #[.bool s1, .slice A1 n1 c1]] w (Z1F w (x.natAbs : Nat)) := by
 have H1 := zH h1
 clear h1
 have HS := zH (show sgd false (val (Z7 x.natAbs)) = ((x.natAbs : Nat) : Int) by rw [Z9]; rfl)
 go_enter func203, ntmps203
 go_wp2_with (first | (go_at_call 125; (with_reducible refine (Z0p s1 A1 n1 c1 x _ (H1.out.ext EX) hs1).mono ?_); rintro e w1 ⟨rfl, hbw1⟩; (try clear hc hf); obtain ⟨hBw1, hc, hf⟩ := EC2 w1 w) | (go_at_call 207; (with_reducible refine (Zs false _ _ _ _ _ (H1.out.rep.ext EX) hs1).mono ?_); rw [HS.out]; rintro e w2 ⟨sw2, Aw2, nw2, cw2, rfl, hIw2, hbw2⟩; (try clear hc hf); obtain ⟨hBw2, hc, hf⟩ := EC2 w2 w))
 refine bodyPost_ret (v := .agg #[.bool sw2, .slice Aw2 nw2 cw2]) (by simp [results, results203, go_sem, hc, hf]) rfl ⟨_, _, _, _, rfl, IAt.keep hIw2 KP, EX⟩
def Z47 (x y : Int) : Int := if x < y then -1 else if y < x then 1 else 0
theorem Z2e (s1 s2 : Bool) (A1 A2 : Option Addr) (n1 c1 n2 c2 : Nat) (x y : Int) (w : World) (h1 : IAt w s1 A1 n1 c1 x) (h2 : IAt w s2 A2 n2 c2 y) (hs1 : n1 < Z8) (hs2 : n2 < Z8) :
  Ca 127 #[.agg #[.bool s1, .slice A1 n1 c1], .agg #[.bool s2, .slice A2 n2 c2]] w fun e w' => e = .returned (.int .i64 (Z47 x y)) ∧ Ext w w' := by
 have hs1' : n1 ≤ Z8 := by omega
 have hs2' : n2 ≤ Z8 := by omega
 have e1 := h1.sgn
 have e2 := h2.sgn
 obtain ⟨cc, hcc⟩ : ∃ x', Z1g x.natAbs y.natAbs = x' := ⟨_, rfl⟩
 have HC : Hid (Z1g (val (Z7 x.natAbs)) (val (Z7 y.natAbs)) = cc) := by show _ = _; rw [Z9, Z9, hcc]
 have hbd : -1 ≤ cc ∧ cc ≤ 1 := by rw [← hcc]; unfold Z1g; split <;> (try split) <;> omega
 have HR : Hid (Z47 x y = if s1 then (if s2 then -cc else -1) else (if s2 then 1 else cc)) := by
  show _ = _
  rw [e1, e2, ← hcc]
  unfold Z47 Z1g
  by_cases hx : x < 0 <;> by_cases hy : y < 0 <;> simp [hx, hy] <;> (repeat' split) <;> omega
 obtain ⟨hb1, hb2⟩ := hbd
 have H1 := zH h1
 have H2 := zH h2
 clear h1 h2 e1 e2 hcc
 by_cases hss : s1 = s2
 ·subst hss
  go_enter func127, ntmps127
  go_wp2_with (first | (go_at_call 201; (with_reducible refine (Z0o s1 s1 A1 A2 n1 c1 n2 c2 _ x y _ (H1.out.ext EX) (H2.out.ext EX) hs1' hs2' (by simp [go_sem]) (by simp [go_sem]) (by simp [go_sem]) (by simp [go_sem])).mono ?_); rintro e w1 ⟨rfl, hbw1⟩; (try clear hc hf); obtain ⟨hBw1, hc, hf⟩ := EC2 w1 w) | (go_at_call 202; (with_reducible refine (ZB A1 A2 n1 c1 n2 c2 _ _ _ (H1.out.rep.ext EX) (H2.out.rep.ext EX) hs1' hs2' (Zb _) (Zb _)).mono ?_); rw [HC.out]; rintro e w2 ⟨rfl, hbw2⟩; (try clear hc hf); obtain ⟨hBw2, hc, hf⟩ := EC2 w2 w))
  all_goals go_ret
  all_goals refine ⟨ZY ?_, EX⟩
  all_goals rw [HR.out]
  all_goals simp_all
 ·have hne : (!s1 == s2) = true := by cases s1 <;> cases s2 <;> simp_all
  have HS := zH hss
  clear hss
  go_enter func127, ntmps127
  go_wp2_with (go_at_call 201; (with_reducible refine (Z0o s1 s2 A1 A2 n1 c1 n2 c2 _ x y _ (H1.out.ext EX) (H2.out.ext EX) hs1' hs2' (by simp [go_sem]) (by simp [go_sem]) (by simp [go_sem]) (by simp [go_sem])).mono ?_); rintro e w1 ⟨rfl, hbw1⟩; (try clear hc hf); obtain ⟨hBw1, hc, hf⟩ := EC2 w1 w)
  all_goals go_ret
  all_goals refine ⟨ZY ?_, EX⟩
  all_goals rw [HR.out]
  all_goals cases s1 <;> cases s2 <;> simp_all
theorem ZL (l : List Nat) (k v : Nat) (h : k < l.length) : val ((l.set k v).take (k + 1)) = val (l.take k) + B32 ^ k * v := by
 have h1 : (l.set k v).take (k + 1) = l.take k ++ [v] := by
  rw [List.take_succ_eq_append_getElem (by rw [List.length_set]; exact h), List.getElem_set_self]
  congr 1
  rw [List.take_set, List.set_eq_of_length_le (by rw [List.length_take]; omega)]
 rw [h1, Zx, List.length_take, Nat.min_eq_left (by omega)]
 simp [val]
theorem ZJ (l : List Nat) (k v : Nat) : (l.set k v).drop (k + 1) = l.drop (k + 1) := by
 rw [List.drop_set, if_pos (by omega)]
theorem Zi (l : List Nat) (k : Nat) (h : k < l.length) : val (l.take (k + 1)) = val (l.take k) + B32 ^ k * l.getD k 0 := by
 rw [List.take_succ_eq_append_getElem h, Zx, List.length_take, Nat.min_eq_left (by omega), List.getD_eq_getElem?_getD, List.getElem?_eq_getElem h]
 simp [val]
theorem Z0n (l : List Nat) (k j : Nat) : (l.drop k).getD j 0 = l.getD (k + j) 0 := by
 simp [List.getD_eq_getElem?_getD]
theorem WOk.set {l : List Nat} (h : WOk l) (k v : Nat) (hv : v < B32) : WOk (l.set k v) := by
 intro x hx
 rcases List.mem_or_eq_of_mem_set hx with h1 | h1
 ·exact h x h1
 ·rw [h1]; exact hv
structure Z6g (l2 out0 : List Nat) (i j x c : Nat) (out : List Nat) : Prop where
 len : out.length = out0.length
 ok : WOk out
 car : c < B32
 eq : val (out0.take (i + j)) + x * (B32 ^ i * val (l2.take j)) = val (out.take (i + j)) + B32 ^ (i + j) * c
 rest : out.drop (i + j) = out0.drop (i + j)
theorem ZbN (Pi Pij B y x o c q r X V0 V Vj : Nat) (hP : Pij = Pi * Vj) (ht : r + B * q = x * y + o + c) (h : V0 + x * (Pi * X) = V + Pij * c) :
  V0 + Pij * o + x * (Pi * (X + Vj * y)) = V + Pij * r + Pij * B * q := by
 have e : Pij * (r + B * q) = Pij * (x * y + o + c) := by rw [ht]
 simp only [Nat.mul_add] at e
 have e2 : x * (Pi * (X + Vj * y)) = x * (Pi * X) + Pij * (x * y) := by
  rw [Nat.mul_add, Nat.mul_add, hP]
  congr 1
  simp only [Nat.mul_assoc, Nat.mul_comm, Nat.mul_left_comm]
 have e3 : Pij * (B * q) = Pij * B * q := by rw [Nat.mul_assoc]
 omega
theorem Z34 {x y o c : Nat} (hx : x < 4294967296) (hy : y < 4294967296) (ho : o < 4294967296) (hc : c < 4294967296) : x * y + o + c < 18446744073709551616 := by
 have : x * y ≤ 4294967295 * 4294967295 := Nat.mul_le_mul (by omega) (by omega)
 omega
theorem Z27 {x y o c : Nat} (hx : x < 4294967296) (hy : y < 4294967296) (ho : o < 4294967296) (hc : c < 4294967296) : (0 : Int) ≤ (x : Int) * y ∧ (x : Int) * y + o + c < 18446744073709551616 ∧ (x : Int) * y ≤ 18446744065119617025 := by
 have h1 := Z34 hx hy ho hc
 have h2 : x * y ≤ 4294967295 * 4294967295 := Nat.mul_le_mul (by omega) (by omega)
 have e : ((x * y : Nat) : Int) = (x : Int) * y := Int.natCast_mul x y
 rw [← e]
 generalize x * y = m at *
 omega
theorem Z6g.step {l2 out0 out : List Nat} {i j x c : Nat} (h : Z6g l2 out0 i j x c out) (hx : x < B32) (h2 : WOk l2) (hj : j < l2.length) (hl : i + j < out.length) :
  Z6g l2 out0 i (j + 1) x ((x * l2.getD j 0 + out.getD (i + j) 0 + c) / 4294967296) (out.set (i + j) ((x * l2.getD j 0 + out.getD (i + j) 0 + c) % 4294967296)) := by
 have hy := Zd h2 j
 have ho := Zd h.ok (i + j)
 have hb := Z34 hx hy ho h.car
 refine ⟨by rw [List.length_set, h.len], h.ok.set _ _ (Nat.mod_lt _ (by decide)), (Nat.div_lt_iff_lt_mul (by decide)).2 hb, ?_, ?_⟩
 ·have e0 : out0.getD (i + j) 0 = out.getD (i + j) 0 := by
   have := congrArg (fun l => l.getD 0 0) h.rest
   simp only [Z0n, Nat.add_zero] at this
   exact this.symm
  rw [show i + (j + 1) = (i + j) + 1 by omega, ZL _ _ _ hl, Zi out0 (i + j) (by rw [← h.len]; exact hl), Zi l2 j hj, e0, Nat.pow_succ]
  exact ZbN (B32 ^ i) (B32 ^ (i + j)) B32 (l2.getD j 0) x (out.getD (i + j) 0) c _ _ (val (l2.take j)) _ _ (B32 ^ j) (Nat.pow_add ..) (Nat.mod_add_div _ 4294967296) h.eq
 ·rw [show i + (j + 1) = (i + j) + 1 by omega, ZJ]
  have := congrArg (List.drop 1) h.rest
  simpa [List.drop_drop] using this
structure Z51 (l1 l2 : List Nat) (i : Nat) (out : List Nat) : Prop where
 len : out.length = l1.length + l2.length
 ok : WOk out
 eq : val (out.take (i + l2.length)) = val (l1.take i) * val l2
 rest : ∀ k, i + l2.length ≤ k → out.getD k 0 = 0
theorem Z51.row {l1 l2 out : List Nat} {i x : Nat} (h : Z51 l1 l2 i out) : Z6g l2 out i 0 x 0 out :=
 ⟨rfl, h.ok, by decide, by simp [val], rfl⟩
theorem Z51.start (l1 l2 : List Nat) : Z51 l1 l2 0 (List.replicate (l1.length + l2.length) 0) :=
 ⟨by simp, fun x hx => by rw [List.eq_of_mem_replicate hx]; decide, by simp [List.take_replicate, Z1E, val], fun k _ => by
  rw [List.getD_eq_getElem?_getD, List.getElem?_replicate]; split <;> rfl⟩
theorem Z6g.done {l1 l2 out0 out : List Nat} {i c : Nat} (h0 : Z51 l1 l2 i out0) (hi : i < l1.length) (h : Z6g l2 out0 i l2.length (l1.getD i 0) c out) :
  Z51 l1 l2 (i + 1) (out.set (i + l2.length) c) := by
 have hl : i + l2.length < out.length := by rw [h.len, h0.len]; omega
 refine ⟨by rw [List.length_set, h.len, h0.len], h.ok.set _ _ h.car, ?_, ?_⟩
 ·rw [show i + 1 + l2.length = (i + l2.length) + 1 by omega, ZL _ _ _ hl, Zi l1 i hi]
  have := h.eq
  rw [List.take_of_length_le (Nat.le_refl l2.length), h0.eq] at this
  rw [← this, Nat.add_mul, Nat.mul_assoc, Nat.mul_left_comm]
 ·intro k hk
  have e := congrArg (fun l => l.getD (k - (i + l2.length)) 0) h.rest
  simp only [Z0n] at e
  rw [show i + l2.length + (k - (i + l2.length)) = k by omega] at e
  rw [List.getD_eq_getElem?_getD, List.getElem?_set_ne (by omega), ← List.getD_eq_getElem?_getD, e]
  exact h0.rest k (by omega)
theorem Z51.all {l1 l2 out : List Nat} (h : Z51 l1 l2 l1.length out) : val out = val l1 * val l2 := by
 have := h.eq
 rwa [List.take_of_length_le (by rw [h.len]; exact Nat.le_refl _), List.take_of_length_le (Nat.le_refl l1.length)] at this
end Go.Proofs.YtnmmncccpdffaaaGreat
