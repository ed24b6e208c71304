/-
  What the laws of the integer layer ask, in plain numbers.
  Conditions: none.
-/
import Derived.Test.YtlaojdpcfenlkaaSwPlainI
namespace Go.Sw
theorem small1 {a : Int} (ha : sz a ≤ 16) : ([(decide (a < 0), lim a.natAbs)].all fun p => decide ((p.2.length : Int) ≤ 16) && validL p.1 p.2) = true := by
  unfold sz at ha
  simp [validL_lim]; omega
theorem small2 {a b : Int} (ha : sz a ≤ 16) (hb : sz b ≤ 16) : ([(decide (a < 0), lim a.natAbs), (decide (b < 0), lim b.natAbs)].all fun p => decide ((p.2.length : Int) ≤ 16) && validL p.1 p.2) = true := by
  unfold sz at ha hb
  simp [validL_lim]; omega
theorem small3 {a b c : Int} (ha : sz a ≤ 16) (hb : sz b ≤ 16) (hc : sz c ≤ 16) : ([(decide (a < 0), lim a.natAbs), (decide (b < 0), lim b.natAbs), (decide (c < 0), lim c.natAbs)].all fun p => decide ((p.2.length : Int) ≤ 16) && validL p.1 p.2) = true := by
  unfold sz at ha hb hc
  simp [validL_lim]; omega
theorem cmpI_add (a b c : Int) : cmpI (a + c) (b + c) = cmpI a b := by unfold cmpI; split <;> split <;> (try split) <;> (try split) <;> omega
theorem sgnI_bound (a : Int) : -1 ≤ sgnI a ∧ sgnI a ≤ 1 := by unfold sgnI; split <;> (try split) <;> omega
theorem cmpI_bound (a b : Int) : -1 ≤ cmpI a b ∧ cmpI a b ≤ 1 := by unfold cmpI; split <;> (try split) <;> omega
theorem cmpI_mul (a b c : Int) : cmpI a b * sgnI c = cmpI (a * c) (b * c) := by
  rcases Int.lt_trichotomy c 0 with h | h | h
  · rcases Int.lt_trichotomy a b with h1 | h1 | h1
    · rw [cmpI_lt h1, cmpI_gt (Int.mul_lt_mul_of_neg_right h1 h)]; simp [sgnI, h]
    · subst h1; simp [cmpI_eq]
    · rw [cmpI_gt h1, cmpI_lt (Int.mul_lt_mul_of_neg_right h1 h)]; simp [sgnI, h]
  · subst h; simp [sgnI, cmpI_eq]
  · have hs : sgnI c = 1 := by unfold sgnI; rw [if_neg (by omega), if_neg (by omega)]
    rcases Int.lt_trichotomy a b with h1 | h1 | h1
    · rw [cmpI_lt h1, cmpI_lt (Int.mul_lt_mul_of_pos_right h1 h), hs]; rfl
    · subst h1; simp [cmpI_eq]
    · rw [cmpI_gt h1, cmpI_gt (Int.mul_lt_mul_of_pos_right h1 h), hs]; rfl
theorem sgnI_zero {a : Int} : sgnI a = 0 ↔ a = 0 := by unfold sgnI; split <;> (try split) <;> omega
theorem fdm_add {a b : Int} (_ : b ≠ 0) : a.fdiv b * b + a.fmod b = a := by
  have := Int.fmod_add_mul_fdiv a b
  rw [Int.mul_comm, Int.add_comm]; exact this
theorem fmod_range {a b : Int} (hb : b ≠ 0) : (0 ≤ a.fmod b ∧ a.fmod b < b) ∨ (b < a.fmod b ∧ a.fmod b ≤ 0) := by
  rcases Int.lt_trichotomy b 0 with h | h | h
  · right; have := (Int.fdiv_fmod_unique' (a := a) (r := a.fmod b) (q := a.fdiv b) h).1 ⟨rfl, rfl⟩; exact ⟨this.2.1, this.2.2⟩
  · exact absurd h hb
  · left; have := (Int.fdiv_fmod_unique (a := a) (r := a.fmod b) (q := a.fdiv b) h).1 ⟨rfl, rfl⟩; exact ⟨this.2.1, this.2.2⟩
theorem fmod_sign {a b : Int} (hb : b ≠ 0) (h : ¬ sgnI (a.fmod b) = 0) : sgnI (a.fmod b) = sgnI b ∧ cmpI (a.fmod b) b = 0 - sgnI b := by
  rw [sgnI_zero] at h
  rcases fmod_range (a := a) hb with ⟨h1, h2⟩ | ⟨h1, h2⟩
  · rw [cmpI_lt h2]; unfold sgnI; rw [if_neg (by omega), if_neg (by omega), if_neg (by omega), if_neg (by omega)]; exact ⟨rfl, rfl⟩
  · rw [cmpI_gt h1]; unfold sgnI; rw [if_pos (by omega), if_pos (by omega)]; exact ⟨rfl, rfl⟩
theorem sz_fmod {a b : Int} (hb : b ≠ 0) : sz (a.fmod b) ≤ sz b := sz_mono (by rcases fmod_range (a := a) hb with ⟨h1, h2⟩ | ⟨h1, h2⟩ <;> omega)
theorem sz_fdiv {a b : Int} (hb : b ≠ 0) : sz (a.fdiv b) ≤ sz a + sz b + 2 := by
  have h := fdm_add (a := a) hb
  have hr := fmod_range (a := a) hb
  have h1 : (a.fdiv b).natAbs ≤ (a - a.fmod b).natAbs := by
    have h2 : a.fdiv b * b = a - a.fmod b := by omega
    rw [← h2, Int.natAbs_mul]
    exact Nat.le_mul_of_pos_right _ (by omega)
  have h3 := sz_mono h1
  have h4 := sz_sub a (a.fmod b)
  have h5 := sz_fmod (a := a) hb
  omega
theorem sqrt_cmp {a : Int} {r : Nat} (h0 : ¬ a < 0) (h : a < 0 ∧ r = 0 ∨ 0 ≤ a ∧ r * r ≤ a.natAbs ∧ a.natAbs < (r + 1) * (r + 1)) : cmpI ((r : Int) * (r : Int)) a ≤ 0 ∧ cmpI (((r : Int) + 1) * ((r : Int) + 1)) a > 0 ∧ sz (r : Int) ≤ sz a := by
  rcases h with h | ⟨h1, h2, h3⟩
  · exact absurd h.1 h0
  · have h2' : (r : Int) * (r : Int) ≤ a := by have : ((r * r : Nat) : Int) ≤ (a.natAbs : Int) := by exact_mod_cast h2
                                               rw [Int.natCast_mul] at this; omega
    have h3' : a < ((r : Int) + 1) * ((r : Int) + 1) := by
      have : (a.natAbs : Int) < (((r + 1) * (r + 1) : Nat) : Int) := by exact_mod_cast h3
      rw [Int.natCast_mul, Int.natCast_add] at this
      have e : ((1 : Nat) : Int) = 1 := rfl
      rw [e] at this; omega
    refine ⟨?_, cmpI_gt0.2 h3', sz_mono ?_⟩
    · have := mt cmpI_gt0.1 (Int.not_lt.2 h2'); omega
    · rw [Int.natAbs_natCast]
      rcases Nat.eq_zero_or_pos r with h | h
      · omega
      · have := Nat.mul_le_mul_left r h; omega
end Go.Sw
