/-
  Sums, differences and products of lists of limbs, limb by limb.
  Conditions: none.
-/
import Derived.Test.YtlaojdpcfenlkaaSwPlainB
namespace Go.Sw
theorem getD_none {l : List Nat} {k : Nat} (h : l.length ≤ k) : l.getD k 0 = 0 := by simp [List.getD, h]
theorem val_take_succ (l : List Nat) (k : Nat) : val (l.take (k + 1)) = val (l.take k) + 1000000000 ^ k * l.getD k 0 := by
  by_cases h : k < l.length
  · have e : l.take (k + 1) = l.take k ++ [l.getD k 0] := by
      rw [List.take_succ_eq_append_getElem h]
      simp [List.getD, h]
    rw [e, val_append]
    simp [val, Nat.min_eq_left (Nat.le_of_lt h)]
  · rw [getD_none (by omega), List.take_of_length_le (by omega), List.take_of_length_le (by omega)]
    simp
theorem val_take_all {l : List Nat} {k : Nat} (h : l.length ≤ k) : val (l.take k) = val l := by rw [List.take_of_length_le h]
theorem val_zeros (n : Nat) : val (List.replicate n 0) = 0 := by
  induction n with
  | zero => rfl
  | succ n ih => simp [List.replicate_succ, val, ih]
theorem lb_zeros (n : Nat) : Lb (List.replicate n 0) := fun x hx => by have := (List.mem_replicate.1 hx).2; omega
theorem lb_set {l : List Nat} (h : Lb l) {i d : Nat} (hd : d < 1000000000) : Lb (l.set i d) := fun x hx => by
  rcases List.mem_or_eq_of_mem_set hx with hx | rfl
  · exact h x hx
  · exact hd
theorem lb_snoc {l : List Nat} (h : Lb l) {d : Nat} (hd : d < 1000000000) : Lb (l ++ [d]) := h.append (Lb.cons hd Lb.nil)
theorem take_set_lt {l : List Nat} {i d m : Nat} (h : m ≤ i) : (l.set i d).take m = l.take m := by
  apply List.ext_getElem?
  intro j
  simp only [List.getElem?_take, List.getElem?_set]
  by_cases hj : j < m
  · rw [if_pos hj, if_pos hj, if_neg (by omega)]
  · rw [if_neg hj, if_neg hj]
theorem getD_set_same {l : List Nat} {i d : Nat} (h : i < l.length) : (l.set i d).getD i 0 = d := by simp [List.getD, h]
theorem getD_set_other {l : List Nat} {i j d : Nat} (h : i ≠ j) : (l.set i d).getD j 0 = l.getD j 0 := by simp [List.getD, h]
theorem val_set_take {l : List Nat} {k d : Nat} (h : k < l.length) : val ((l.set k d).take (k + 1)) = val (l.take k) + 1000000000 ^ k * d := by
  rw [val_take_succ, take_set_lt (Nat.le_refl _), getD_set_same h]
/-- A limb written over within a part. -/
theorem val_set_in {l : List Nat} {j d : Nat} (h : j < l.length) : ∀ m, j < m → val ((l.set j d).take m) + 1000000000 ^ j * l.getD j 0 = val (l.take m) + 1000000000 ^ j * d := by
  intro m hm
  induction m with
  | zero => omega
  | succ m ih =>
    by_cases e : j = m
    · subst e
      rw [val_set_take h, val_take_succ]
      omega
    · rw [val_take_succ, val_take_succ l m, getD_set_other e]
      have := ih (by omega)
      omega
theorem carry_step (p d s : Nat) (h : s % 1000000000 = d) : p * d + p * 1000000000 * (s / 1000000000) = p * s := by
  have : s = d + 1000000000 * (s / 1000000000) := by omega
  rw [Nat.mul_assoc, ← Nat.mul_add, ← this]
theorem plus_step {o x y : List Nat} {k cr s d c : Nat} (hk : k < o.length) (h : val (o.take k) + 1000000000 ^ k * cr = val (x.take k) + val (y.take k)) (hs : s = cr + x.getD k 0 + y.getD k 0) (hd : d = s % 1000000000) (hc : c = s / 1000000000) :
    val ((o.set k d).take (k + 1)) + 1000000000 ^ (k + 1) * c = val (x.take (k + 1)) + val (y.take (k + 1)) := by
  subst hd hc
  rw [val_set_take hk, val_take_succ x, val_take_succ y, Nat.pow_succ]
  have h1 := carry_step (1000000000 ^ k) _ s rfl
  have h2 : 1000000000 ^ k * s = 1000000000 ^ k * cr + 1000000000 ^ k * x.getD k 0 + 1000000000 ^ k * y.getD k 0 := by rw [hs, Nat.mul_add, Nat.mul_add]
  omega
theorem plus_end {o x y : List Nat} {k cr : Nat} (ho : o.length = x.length + 1) (hk : k = x.length) (hy : y.length ≤ x.length) (hv : val (o.take k) + 1000000000 ^ k * cr = val (x.take k) + val (y.take k)) : val (o.set x.length cr) = val x + val y := by
  subst hk
  have h1 := val_set_take (d := cr) (show x.length < o.length by omega)
  rw [val_take_all (by simp; omega), hv, val_take_all (Nat.le_refl _), val_take_all hy] at h1
  exact h1
theorem plus_snoc {o x y : List Nat} {k cr s d c : Nat} (hk : o.length = k) (h : val o + 1000000000 ^ k * cr = val (x.take k) + val (y.take k)) (hs : s = cr + x.getD k 0 + y.getD k 0) (hd : d = s % 1000000000) (hc : c = s / 1000000000) :
    val (o ++ [d]) + 1000000000 ^ (k + 1) * c = val (x.take (k + 1)) + val (y.take (k + 1)) := by
  subst hd hc
  rw [val_append, hk, val_take_succ x, val_take_succ y, Nat.pow_succ]
  have h1 := carry_step (1000000000 ^ k) _ s rfl
  have h2 : 1000000000 ^ k * s = 1000000000 ^ k * cr + 1000000000 ^ k * x.getD k 0 + 1000000000 ^ k * y.getD k 0 := by rw [hs, Nat.mul_add, Nat.mul_add]
  simp only [val, Nat.mul_zero, Nat.add_zero]
  omega
theorem val_snoc {o : List Nat} {k : Nat} (hk : o.length = k) (d : Nat) : val (o ++ [d]) = val o + 1000000000 ^ k * d := by
  rw [val_append, hk]; simp [val]
/-- o - and what is borrowed - is x without y, so far. -/
theorem minus_step {o x y : List Nat} {k br d b : Nat} (hk : k < o.length) (h : val (o.take k) + val (y.take k) = val (x.take k) + 1000000000 ^ k * br) (hs : d + (br + y.getD k 0) = x.getD k 0 + 1000000000 * b) :
    val ((o.set k d).take (k + 1)) + val (y.take (k + 1)) = val (x.take (k + 1)) + 1000000000 ^ (k + 1) * b := by
  rw [val_set_take hk, val_take_succ x, val_take_succ y, Nat.pow_succ]
  have h2 : 1000000000 ^ k * (d + (br + y.getD k 0)) = 1000000000 ^ k * (x.getD k 0 + 1000000000 * b) := by rw [hs]
  simp only [Nat.mul_add, ← Nat.mul_assoc] at h2
  omega
theorem minus_end {o x y n br : Nat} (_ : x < n) (h : o + y = x + n * br) (hy : y ≤ x) (ho : o < n) : o = x - y := by
  have : br = 0 := by
    rcases Nat.eq_zero_or_pos br with h0 | h0
    · exact h0
    · exfalso
      have : n * 1 ≤ n * br := Nat.mul_le_mul_left n h0
      omega
  subst this
  omega
theorem times_step {o a b : List Nat} {i k m cr t d c p : Nat} (hj : i + k < o.length) (hm : i + k < m) (h : val (o.take m) + 1000000000 ^ (i + k) * cr = p + 1000000000 ^ i * (a.getD i 0 * val (b.take k))) (ht : t = o.getD (i + k) 0 + a.getD i 0 * b.getD k 0 + cr) (hd : d = t % 1000000000) (hc : c = t / 1000000000) :
    val ((o.set (i + k) d).take m) + 1000000000 ^ (i + (k + 1)) * c = p + 1000000000 ^ i * (a.getD i 0 * val (b.take (k + 1))) := by
  subst hd hc
  have h0 := val_set_in (d := t % 1000000000) hj m hm
  have h1 := carry_step (1000000000 ^ (i + k)) _ t rfl
  have h2 : 1000000000 ^ (i + k) * t = 1000000000 ^ (i + k) * o.getD (i + k) 0 + 1000000000 ^ (i + k) * (a.getD i 0 * b.getD k 0) + 1000000000 ^ (i + k) * cr := by rw [ht, Nat.mul_add, Nat.mul_add]
  have h3 : 1000000000 ^ i * (a.getD i 0 * val (b.take (k + 1))) = 1000000000 ^ i * (a.getD i 0 * val (b.take k)) + 1000000000 ^ (i + k) * (a.getD i 0 * b.getD k 0) := by
    rw [val_take_succ, Nat.mul_add, Nat.mul_add, Nat.pow_add]
    congr 1
    simp only [Nat.mul_assoc, Nat.mul_left_comm, Nat.mul_comm]
  rw [h3, show i + (k + 1) = (i + k) + 1 by omega, Nat.pow_succ]
  omega
theorem times_row {o a b : List Nat} {i cr : Nat} (hj : i + b.length < o.length) (h : val (o.take (i + b.length)) + 1000000000 ^ (i + b.length) * cr = val (a.take i) * val b + 1000000000 ^ i * (a.getD i 0 * val (b.take b.length))) :
    val ((o.set (i + b.length) cr).take (i + 1 + b.length)) = val (a.take (i + 1)) * val b := by
  rw [show i + 1 + b.length = i + b.length + 1 by omega, val_set_take hj, h, List.take_length, val_take_succ, Nat.add_mul, Nat.mul_assoc]
theorem carry_lt {x y o c : Nat} (hx : x < 1000000000) (hy : y < 1000000000) (ho : o < 1000000000) (hc : c < 1000000000) : x * y ≤ 999999998000000001 ∧ (o + x * y + c) / 1000000000 < 1000000000 := by
  have := Nat.mul_le_mul (show x ≤ 999999999 by omega) (show y ≤ 999999999 by omega)
  refine ⟨by omega, by omega⟩
end Go.Sw
