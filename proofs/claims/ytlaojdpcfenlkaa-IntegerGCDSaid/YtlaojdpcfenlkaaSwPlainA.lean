/-
  Lists of limbs: what they are worth, and their zeros at the end.
  Conditions: none.
-/
namespace Go.Sw
/-- Without the zeros at its end. -/
def trimz : List Nat → List Nat
  | [] => []
  | x :: r => match trimz r with
    | [] => if x = 0 then [] else [x]
    | y :: s => x :: y :: s
theorem trimz_zeros : ∀ (l : List Nat), (∀ j, l.getD j 0 = 0) → trimz l = []
  | [], _ => rfl
  | x :: r, h => by
    have h0 : x = 0 := h 0
    have hr := trimz_zeros r (fun j => h (j + 1))
    simp [trimz, hr, h0]
theorem getD_succ (x : Nat) (r : List Nat) (k : Nat) : (x :: r).getD (k + 1) 0 = r.getD k 0 := by simp [List.getD]
theorem trimz_take : ∀ (l : List Nat) (k : Nat), k ≤ l.length → (∀ j, k ≤ j → l.getD j 0 = 0) → (k = 0 ∨ l.getD (k - 1) 0 ≠ 0) → l.take k = trimz l
  | l, 0, _, hz, _ => by simp [trimz_zeros l (fun j => hz j (Nat.zero_le _))]
  | [], k + 1, hk, _, _ => by simp at hk
  | x :: r, k + 1, hk, hz, h => by
    have hr := trimz_take r k (by simpa using hk) (fun j hj => hz (j + 1) (by omega)) (by
      rcases Nat.eq_zero_or_pos k with h0 | h0
      · exact .inl h0
      · refine .inr ?_
        have h' := h.resolve_left (Nat.succ_ne_zero k)
        rw [show k + 1 - 1 = (k - 1) + 1 by omega, getD_succ] at h'
        exact h')
    rw [List.take_succ_cons, hr]
    simp only [trimz]
    cases ht : trimz r with
    | nil =>
      have hk0 : k = 0 := by
        rcases Nat.eq_zero_or_pos k with h0 | h0
        · exact h0
        · have h1 : min k r.length = 0 := by rw [← List.length_take, hr, ht]; rfl
          have h2 : k ≤ r.length := by simpa using hk
          omega
      subst hk0
      have hx : x ≠ 0 := by have := h.resolve_left (Nat.succ_ne_zero 0); simpa using this
      simp [hx]
    | cons y s => rfl
theorem zero_step {l : List Nat} {k : Nat} (h : ∀ j, k ≤ j → l.getD j 0 = 0) (hk : l.getD (k - 1) 0 = 0) : ∀ j, k - 1 ≤ j → l.getD j 0 = 0 := by
  intro j hj
  rcases Nat.lt_or_ge j k with hlt | hge
  · rw [show j = k - 1 by omega]; exact hk
  · exact h j hge
theorem trimz_length_le (l : List Nat) : (trimz l).length ≤ l.length := by
  induction l with
  | nil => simp [trimz]
  | cons x r ih =>
    simp only [trimz]
    cases h : trimz r with
    | nil => by_cases hx : x = 0 <;> simp [hx]
    | cons y s => rw [h] at ih; simpa using ih
theorem trimz_empty {l : List Nat} {k : Nat} (ht : l.take k = trimz l) (hk : k ≤ l.length) : (!(trimz l).isEmpty) = decide (k > 0) := by
  rw [← ht]
  cases k with
  | zero => simp
  | succ k => cases l with
    | nil => simp at hk
    | cons x r => simp
end Go.Sw
