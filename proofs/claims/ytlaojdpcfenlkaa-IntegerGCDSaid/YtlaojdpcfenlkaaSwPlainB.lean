/-
  What lists of limbs are worth; the limbs of a number; comparisons.
  Conditions: none.
-/
import Derived.Test.YtlaojdpcfenlkaaSwPlainA
namespace Go.Sw
def val : List Nat → Nat
  | [] => 0
  | x :: r => x + 1000000000 * val r
def Lb (l : List Nat) : Prop := ∀ x ∈ l, x < 1000000000
theorem Lb.nil : Lb [] := fun _ h => by cases h
theorem Lb.cons {x : Nat} {r : List Nat} (h : x < 1000000000) (k : Lb r) : Lb (x :: r) := fun y hy => by
  rcases List.mem_cons.1 hy with rfl | hy
  · exact h
  · exact k y hy
theorem Lb.head {x : Nat} {r : List Nat} (h : Lb (x :: r)) : x < 1000000000 := h x (by simp)
theorem Lb.tail {x : Nat} {r : List Nat} (h : Lb (x :: r)) : Lb r := fun y hy => h y (by simp [hy])
theorem Lb.append {a b : List Nat} (h : Lb a) (k : Lb b) : Lb (a ++ b) := fun y hy => by
  rcases List.mem_append.1 hy with hy | hy
  · exact h y hy
  · exact k y hy
theorem Lb.take {l : List Nat} (h : Lb l) (n : Nat) : Lb (l.take n) := fun y hy => h y (List.mem_of_mem_take hy)
theorem Lb.drop {l : List Nat} (h : Lb l) (n : Nat) : Lb (l.drop n) := fun y hy => h y (List.mem_of_mem_drop hy)
theorem Lb.getD {l : List Nat} (h : Lb l) (i : Nat) : l.getD i 0 < 1000000000 := by
  by_cases hi : i < l.length
  · have := h l[i] (List.getElem_mem hi)
    simpa [List.getD, hi] using this
  · simp [List.getD, hi]
theorem val_append : ∀ (a b : List Nat), val (a ++ b) = val a + 1000000000 ^ a.length * val b
  | [], b => by simp [val]
  | x :: r, b => by
    have := val_append r b
    simp only [List.cons_append, val, this, List.length_cons, Nat.pow_succ]
    rw [Nat.mul_add, ← Nat.mul_assoc, Nat.add_assoc, Nat.mul_comm (1000000000 ^ r.length) 1000000000]
theorem val_lt : ∀ (l : List Nat), Lb l → val l < 1000000000 ^ l.length
  | [], _ => by simp [val]
  | x :: r, h => by
    have := val_lt r h.tail
    have hx := h.head
    simp only [val, List.length_cons, Nat.pow_succ]
    omega
theorem trimz_lb {l : List Nat} (h : Lb l) : Lb (trimz l) := by
  induction l with
  | nil => exact h
  | cons x r ih =>
    have hr := ih h.tail
    simp only [trimz]
    cases ht : trimz r with
    | nil => by_cases hx : x = 0 <;> simp [hx]; exact Lb.nil; exact Lb.cons h.head Lb.nil
    | cons y s => rw [ht] at hr; exact Lb.cons h.head hr
theorem val_trimz (l : List Nat) : val (trimz l) = val l := by
  induction l with
  | nil => rfl
  | cons x r ih =>
    simp only [trimz]
    cases ht : trimz r with
    | nil =>
      rw [ht] at ih
      simp only [val] at ih
      by_cases hx : x = 0 <;> simp [hx, val, ← ih]
    | cons y s => rw [ht] at ih; simp only [val] at ih ⊢; rw [ih]
theorem trimz_trimz (l : List Nat) : trimz (trimz l) = trimz l := by
  induction l with
  | nil => rfl
  | cons x r ih =>
    simp only [trimz]
    cases ht : trimz r with
    | nil => by_cases hx : x = 0 <;> simp [hx, trimz]
    | cons y s =>
      rw [ht] at ih
      simp only [trimz] at ih ⊢
      cases hs : trimz s with
      | nil =>
        rw [hs] at ih
        by_cases hy : y = 0 <;> simp [hy] at ih ⊢
        exact ih
      | cons z u => rw [hs] at ih; simp at ih; simp [ih]
/-- The limbs of a number, none of them 0 at the end. -/
def lim (n : Nat) : List Nat := if n = 0 then [] else n % 1000000000 :: lim (n / 1000000000)
termination_by n
decreasing_by omega
theorem lim_zero : lim 0 = [] := by rw [lim]; simp
theorem lim_pos {n : Nat} (h : n ≠ 0) : lim n = n % 1000000000 :: lim (n / 1000000000) := by rw [lim]; simp [h]
theorem lim_nil {n : Nat} : lim n = [] ↔ n = 0 := by
  constructor
  · intro h
    by_cases h0 : n = 0
    · exact h0
    · rw [lim_pos h0] at h; cases h
  · rintro rfl; exact lim_zero
theorem val_lim (n : Nat) : val (lim n) = n := by
  induction n using Nat.strongRecOn with
  | _ n ih =>
    by_cases h : n = 0
    · subst h; simp [lim_zero, val]
    · rw [lim_pos h, val, ih _ (by omega)]; omega
theorem lb_lim (n : Nat) : Lb (lim n) := by
  induction n using Nat.strongRecOn with
  | _ n ih =>
    by_cases h : n = 0
    · subst h; rw [lim_zero]; exact Lb.nil
    · rw [lim_pos h]; exact Lb.cons (Nat.mod_lt _ (by omega)) (ih _ (by omega))
theorem trimz_lim (n : Nat) : trimz (lim n) = lim n := by
  induction n using Nat.strongRecOn with
  | _ n ih =>
    by_cases h : n = 0
    · subst h; rw [lim_zero]; rfl
    · rw [lim_pos h]
      simp only [trimz, ih _ (show n / 1000000000 < n by omega)]
      cases hl : lim (n / 1000000000) with
      | nil =>
        have : n / 1000000000 = 0 := lim_nil.1 hl
        have : n % 1000000000 ≠ 0 := by omega
        simp [this]
      | cons y s => rfl
theorem lim_val : ∀ (l : List Nat), Lb l → lim (val l) = trimz l
  | [], _ => by simp [val, lim_zero, trimz]
  | x :: r, h => by
    have ih := lim_val r h.tail
    have hx := h.head
    simp only [trimz, val]
    by_cases h0 : x + 1000000000 * val r = 0
    · have hr : val r = 0 := by omega
      have hx0 : x = 0 := by omega
      rw [hr, lim_zero] at ih
      rw [h0, lim_zero, ← ih]; simp [hx0]
    · rw [lim_pos h0, show (x + 1000000000 * val r) % 1000000000 = x by omega, show (x + 1000000000 * val r) / 1000000000 = val r by omega, ih]
      cases ht : trimz r with
      | nil =>
        have hr : val r = 0 := by have := val_trimz r; rw [ht] at this; simpa [val] using this.symm
        have : x ≠ 0 := by omega
        simp [this]
      | cons y s => rfl
theorem trimz_pos {l : List Nat} {k : Nat} (ht : l.take k = trimz l) (hk : k ≤ l.length) : (0 < val l) = (k > 0) := by
  have h1 := val_trimz l
  have h2 := trimz_empty ht hk
  refine propext ⟨fun h => ?_, fun h => ?_⟩
  · rcases Nat.eq_zero_or_pos k with h0 | h0
    · subst h0
      have ht' : trimz l = [] := by simpa using ht.symm
      rw [ht'] at h1
      simp only [val] at h1
      omega
    · exact h0
  · rcases Nat.eq_zero_or_pos (val l) with h0 | h0
    · exfalso
      have h3 : decide (k > 0) = true := by simpa using h
      rw [h3] at h2
      cases hc : trimz l with
      | nil => rw [hc] at h2; simp at h2
      | cons x r =>
        have hz : ∀ m : List Nat, val m = 0 → trimz m = [] := by
          intro m
          induction m with
          | nil => intro _; rfl
          | cons y s ih =>
            intro hm
            simp only [val] at hm
            simp [trimz, ih (by omega)]
            omega
        rw [hz l h0] at hc
        cases hc
    · exact h0
theorem take_zero {l : List Nat} {k : Nat} (hk : 0 < k) (h : (l.take k).getD (k - 1) 0 = 0) : l.getD (k - 1) 0 = 0 := by
  have e : (l.take k).getD (k - 1) 0 = l.getD (k - 1) 0 := by
    simp only [List.getD, List.getElem?_take]
    rw [if_pos (by omega)]
  rwa [e] at h
theorem take_last {l : List Nat} {k : Nat} (_ : k ≤ l.length) (h : k = 0 ∨ (l.take k).getD (k - 1) 0 ≠ 0) : k = 0 ∨ l.getD (k - 1) 0 ≠ 0 := by
  rcases Nat.eq_zero_or_pos k with h0 | h0
  · exact .inl h0
  · refine .inr fun h' => (h.resolve_left (by omega)) ?_
    simp only [List.getD, List.getElem?_take]
    rw [if_pos (by omega)]
    exact h'
/-- A list of limbs without a zero at the end. -/
def CanL (l : List Nat) : Prop := Lb l ∧ trimz l = l
theorem CanL.lim (n : Nat) : CanL (lim n) := ⟨lb_lim n, trimz_lim n⟩
theorem CanL.eq {l : List Nat} (h : CanL l) : Sw.lim (val l) = l := by rw [lim_val l h.1, h.2]
theorem can_trimz {l : List Nat} (h : Lb l) : CanL (trimz l) := ⟨trimz_lb h, trimz_trimz l⟩
theorem can_iff {l : List Nat} (h : Lb l) : CanL l ↔ (l = [] ∨ l.getD (l.length - 1) 0 ≠ 0) := by
  constructor
  · intro hc
    induction l with
    | nil => exact .inl rfl
    | cons x r ih =>
      refine .inr ?_
      have hc2 := hc.2
      simp only [trimz] at hc2
      cases ht : trimz r with
      | nil =>
        rw [ht] at hc2
        by_cases hx : x = 0
        · simp [hx] at hc2
        · simp [hx] at hc2; subst hc2; simpa using hx
      | cons y s =>
        rw [ht] at hc2
        simp at hc2
        subst hc2
        rcases ih h.tail ⟨h.tail, ht⟩ with h' | h'
        · cases h'
        · simpa [List.getD] using h'
  · rintro (rfl | h')
    · exact ⟨Lb.nil, rfl⟩
    · refine ⟨h, ?_⟩
      have := trimz_take l l.length (Nat.le_refl _) (fun j hj => by simp [List.getD, hj]) (.inr h')
      rw [List.take_length] at this
      exact this.symm
theorem can_pow {l : List Nat} (h : CanL l) (hn : l ≠ []) : 1000000000 ^ (l.length - 1) ≤ val l := by
  have h1 := ((can_iff h.1).1 h).resolve_left hn
  obtain ⟨i, x, rfl⟩ : ∃ i x, l = i ++ [x] := ⟨l.dropLast, l.getLast hn, (List.dropLast_concat_getLast hn).symm⟩
  have hx : x ≠ 0 := by simpa [List.getD] using h1
  rw [val_append]
  simp only [List.length_append, List.length_cons, List.length_nil, Nat.add_sub_cancel, val]
  have := Nat.mul_le_mul_left (1000000000 ^ i.length) (show 1 ≤ x + 1000000000 * 0 by omega)
  omega
def cmpN (x y : Nat) : Int := if x < y then -1 else if y < x then 1 else 0
theorem cmpN_lt {x y : Nat} (h : x < y) : cmpN x y = -1 := by simp [cmpN, h]
theorem cmpN_gt {x y : Nat} (h : y < x) : cmpN x y = 1 := by simp [cmpN, h]; omega
theorem cmpN_eq {x y : Nat} (h : x = y) : cmpN x y = 0 := by subst h; simp [cmpN]
theorem val_lt_of_length {a b : List Nat} (ha : CanL a) (hb : CanL b) (h : a.length < b.length) : val a < val b := by
  have h1 := val_lt a ha.1
  have h2 := can_pow hb (by intro e; subst e; simp at h)
  have h3 : 1000000000 ^ a.length ≤ 1000000000 ^ (b.length - 1) := Nat.pow_le_pow_right (by omega) (by omega)
  omega
/-- Where lists agree above i, the limb i decides. -/
theorem val_lt_of_limb : ∀ {a b : List Nat} (i : Nat), Lb a → Lb b → a.length = b.length → i < a.length → (∀ j, i < j → a.getD j 0 = b.getD j 0) → a.getD i 0 < b.getD i 0 → val a < val b
  | [], _, i, _, _, _, hi, _, _ => by simp at hi
  | _ :: _, [], i, _, _, hl, _, _, _ => by simp at hl
  | x :: r, y :: s, 0, _, _, hl, _, hj, h => by
    have hrs : r = s := by
      apply List.ext_getElem?
      intro k
      have := hj (k + 1) (by omega)
      simp only [getD_succ] at this
      have hl' : r.length = s.length := by simpa using hl
      by_cases hk : k < r.length
      · have hk' : k < s.length := by omega
        simpa [List.getD, hk, hk'] using this
      · have hk' : ¬ k < s.length := by omega
        simp [hk, hk']
    subst hrs
    have h' : x < y := by simpa [List.getD] using h
    simp only [val]; omega
  | x :: r, y :: s, i + 1, ha, hb, hl, hi, hj, h => by
    have ih := val_lt_of_limb (a := r) (b := s) i ha.tail hb.tail (by simpa using hl) (by simpa using hi) (fun j hj' => by have := hj (j + 1) (by omega); simpa only [getD_succ] using this) (by simpa only [getD_succ] using h)
    have := ha.head
    simp only [val]; omega
theorem eq_of_limbs {a b : List Nat} (hl : a.length = b.length) (h : ∀ j, a.getD j 0 = b.getD j 0) : a = b := by
  apply List.ext_getElem?
  intro k
  by_cases hk : k < a.length
  · have hk' : k < b.length := by omega
    have := h k
    simpa [List.getD, hk, hk'] using this
  · have hk' : ¬ k < b.length := by omega
    simp [hk, hk']
theorem agree_step {a b : List Nat} {k : Nat} (h : ∀ j, k ≤ j → a.getD j 0 = b.getD j 0) (hk : a.getD (k - 1) 0 = b.getD (k - 1) 0) : ∀ j, k - 1 ≤ j → a.getD j 0 = b.getD j 0 := by
  intro j hj
  rcases Nat.lt_or_ge j k with hlt | hge
  · rw [show j = k - 1 by omega]; exact hk
  · exact h j hge
end Go.Sw
