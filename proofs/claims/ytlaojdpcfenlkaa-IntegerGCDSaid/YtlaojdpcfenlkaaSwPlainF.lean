/-
  Sizes of results, and valid limbs.
  Conditions: none.
-/
import Derived.Test.YtlaojdpcfenlkaaSwPlainE
namespace Go.Sw
open Go

theorem lim_lt (n : Nat) : n < 1000000000 ^ (lim n).length := by
  have := val_lt (lim n) (lb_lim n)
  rwa [val_lim] at this
theorem sz_le {x : Int} {k : Nat} (h : x.natAbs < 1000000000 ^ k) : sz x ≤ k := lim_len_le h
theorem sz_add (a b : Int) : sz (a + b) ≤ sz a + sz b + 1 := by
  apply sz_le
  have ha := lim_lt a.natAbs
  have hb := lim_lt b.natAbs
  change a.natAbs < 1000000000 ^ sz a at ha
  change b.natAbs < 1000000000 ^ sz b at hb
  have h1 : 1000000000 ^ sz a ≤ 1000000000 ^ (sz a + sz b) := Nat.pow_le_pow_right (by decide) (by omega)
  have h2 : 1000000000 ^ sz b ≤ 1000000000 ^ (sz a + sz b) := Nat.pow_le_pow_right (by decide) (by omega)
  rw [Nat.pow_succ]
  omega
theorem sz_mul (a b : Int) : sz (a * b) ≤ sz a + sz b := by
  apply sz_le
  have ha := lim_lt a.natAbs
  have hb := lim_lt b.natAbs
  change a.natAbs < 1000000000 ^ sz a at ha
  change b.natAbs < 1000000000 ^ sz b at hb
  rw [Int.natAbs_mul, Nat.pow_add]
  rcases Nat.eq_zero_or_pos a.natAbs with h | h
  · rw [h, Nat.zero_mul]; exact Nat.mul_pos (Nat.pow_pos (by decide)) (Nat.pow_pos (by decide))
  · exact Nat.mul_lt_mul_of_lt_of_lt ha hb
theorem sz_neg (a : Int) : sz (-a) = sz a := by unfold sz; rw [Int.natAbs_neg]
theorem sz_sub (a b : Int) : sz (a - b) ≤ sz a + sz b + 1 := by
  have := sz_add a (-b)
  rw [sz_neg] at this
  rwa [Int.sub_eq_add_neg]
theorem sz_64 {n : Int} (h1 : -9223372036854775808 ≤ n) (h2 : n ≤ 9223372036854775807) : sz n ≤ 3 := sz_le (by omega)
theorem sz_mono {a b : Int} (h : a.natAbs ≤ b.natAbs) : sz a ≤ sz b := lim_le_of_le h
theorem trimz_prefix (l : List Nat) : trimz l <+: l := by
  induction l with
  | nil => exact List.prefix_rfl
  | cons x r ih =>
    simp only [trimz]
    cases ht : trimz r with
    | nil => by_cases hx : x = 0 <;> simp [hx]
    | cons y s => rw [ht] at ih; exact (List.prefix_cons_inj x).2 ih
def validL (neg : Bool) (l : List Nat) : Bool := l.all (fun x => decide (x < 1000000000)) && decide ((trimz l).length = l.length) && (!neg || decide (0 < l.length))
theorem validL_bad {neg : Bool} {l : List Nat} {k : Nat} (hk : k < l.length) (h : 1000000000 ≤ l.getD k 0) : false = validL neg l := by
  unfold validL
  have : (l.all fun x => decide (x < 1000000000)) = false := by
    rw [List.all_eq_false]
    refine ⟨l.getD k 0, ?_, by simp; simpa using h⟩
    rw [List.getD_eq_getElem?_getD, List.getElem?_eq_getElem hk]
    exact List.getElem_mem hk
  simp [this]
theorem validL_all {l : List Nat} (h : ∀ j, j < l.length → l.getD j 0 < 1000000000) : Lb l := by
  intro x hx
  obtain ⟨i, hi, rfl⟩ := List.mem_iff_getElem.1 hx
  have := h i hi
  rwa [List.getD_eq_getElem?_getD, List.getElem?_eq_getElem hi] at this
theorem lb_all {l : List Nat} (h : Lb l) : (l.all fun x => decide (x < 1000000000)) = true := by
  rw [List.all_eq_true]
  intro x hx
  have := h x hx
  simpa using this
theorem validL_of {neg : Bool} {l : List Nat} (h : Lb l) : validL neg l = (decide ((trimz l).length = l.length) && (!neg || decide (0 < l.length))) := by
  unfold validL
  rw [lb_all h]; simp
theorem trimz_len {l : List Nat} (h : Lb l) (hl : 0 < l.length) : ((trimz l).length = l.length) ↔ l.getD (l.length - 1) 0 ≠ 0 := by
  have h1 := can_iff h
  constructor
  · intro e
    have : CanL l := ⟨h, (trimz_prefix l).eq_of_length e⟩
    rcases h1.1 this with h2 | h2
    · subst h2; simp at hl
    · exact h2
  · intro e
    have := (h1.2 (.inr e)).2
    rw [this]
theorem validL_iff {neg : Bool} {l : List Nat} : validL neg l = true ↔ CanL l ∧ (neg = true → 0 < l.length) := by
  unfold validL
  constructor
  · intro h
    simp only [Bool.and_eq_true, Bool.or_eq_true, decide_eq_true_eq, List.all_eq_true, Bool.not_eq_true'] at h
    obtain ⟨⟨h1, h2⟩, h3⟩ := h
    refine ⟨⟨fun x hx => h1 x hx, (trimz_prefix l).eq_of_length h2⟩, fun hn => ?_⟩
    rcases h3 with h3 | h3
    · rw [hn] at h3; cases h3
    · exact h3
  · rintro ⟨⟨h1, h2⟩, h3⟩
    simp only [Bool.and_eq_true, Bool.or_eq_true, decide_eq_true_eq, List.all_eq_true, Bool.not_eq_true']
    refine ⟨⟨fun x hx => h1 x hx, by rw [h2]⟩, ?_⟩
    cases neg
    · exact .inl rfl
    · exact .inr (h3 rfl)
theorem validL_lim (x : Int) : validL (decide (x < 0)) (lim x.natAbs) = true := by
  rw [validL_iff]
  refine ⟨CanL.lim _, fun h => ?_⟩
  have hx : x < 0 := by simpa using h
  have := lim_len_zero (n := x.natAbs)
  omega
/-- The number of valid limbs. -/
theorem validL_int {neg : Bool} {l : List Nat} (h : validL neg l = true) : neg = decide (sgnv neg (val l) < 0) ∧ l = lim (sgnv neg (val l)).natAbs := by
  obtain ⟨h1, h2⟩ := validL_iff.1 h
  rw [natAbs_sgnv, neg_sgnv, h1.eq]
  refine ⟨?_, rfl⟩
  cases neg
  · rfl
  · have h3 := h2 rfl
    have : 0 < val l := by
      rcases Nat.eq_zero_or_pos (val l) with h4 | h4
      · have := h1.eq; rw [h4, lim_zero] at this; rw [← this] at h3; simp at h3
      · exact h4
    simp [this]
theorem cmpN_self (n : Nat) : cmpN n n = 0 := by simp [cmpN]
theorem sgnv_t {x : Int} (h : x < 0) : sgnv true x.natAbs = x := by
  unfold sgnv
  rw [if_pos rfl]; omega
theorem sgnv_f {x : Int} (h : ¬ x < 0) : sgnv false x.natAbs = x := by
  unfold sgnv
  rw [if_neg (by decide)]; omega
theorem validL_pos {neg : Bool} {l : List Nat} (h : Lb l) (hl : 0 < l.length) : (!decide (((l.getD (l.length - 1) 0 : Nat) : Int) = 0)) = validL neg l := by
  rw [validL_of h]
  have h1 := trimz_len h hl
  by_cases h2 : l.getD (l.length - 1) 0 = 0
  · have h3 : ¬ (trimz l).length = l.length := fun e => h1.1 e h2
    simp only [h2, h3]; simp
  · have h3 := h1.2 h2
    have h4 : ¬ ((l.getD (l.length - 1) 0 : Nat) : Int) = 0 := by omega
    simp only [h4, h3, hl]; simp
theorem validL_nil {neg : Bool} {l : List Nat} (h : l.length = 0) : (!neg) = validL neg l := by
  have : l = [] := List.length_eq_zero_iff.1 h
  subst this
  cases neg <;> rfl
theorem lt_step {P : Nat → Prop} {k : Nat} (h : ∀ j, j < k → P j) (hk : P k) : ∀ j, j < k + 1 → P j := by
  intro j hj
  by_cases e : j = k
  · rw [e]; exact hk
  · exact h j (by omega)
theorem dec_len (a b : Nat) : decide (a = b) = decide ((a : Int) = (b : Int)) := by rw [decide_eq_decide]; omega
end Go.Sw
