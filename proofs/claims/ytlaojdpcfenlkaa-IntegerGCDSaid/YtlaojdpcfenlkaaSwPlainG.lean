/-
  Windows of limbs: the difference and the sum within a part of a number.
  Conditions: none.
-/
import Derived.Test.YtlaojdpcfenlkaaSwPlainF
namespace Go.Sw
open Go

def win (o : List Nat) (k i : Nat) : List Nat := (o.drop k).take i
theorem getD_drop (o : List Nat) (k i : Nat) : (o.drop k).getD i 0 = o.getD (k + i) 0 := by
  simp [List.getD, List.getElem?_drop]
theorem win_zero (o : List Nat) (k : Nat) : val (win o k 0) = 0 := by simp [win, val]
theorem win_succ (o : List Nat) (k i : Nat) : val (win o k (i + 1)) = val (win o k i) + 1000000000 ^ i * o.getD (k + i) 0 := by
  unfold win
  rw [val_take_succ, getD_drop]
theorem win_set_same {o : List Nat} {k i x : Nat} : win (o.set (k + i) x) k i = win o k i := by
  unfold win
  apply List.ext_getElem?
  intro j
  simp only [List.getElem?_take, List.getElem?_drop, List.getElem?_set]
  split
  · rw [if_neg (by omega)]
  · rfl
theorem win_set {o : List Nat} {k i x : Nat} (h : k + i < o.length) : val (win (o.set (k + i) x) k (i + 1)) = val (win o k i) + 1000000000 ^ i * x := by
  rw [win_succ, win_set_same, getD_set_same h]
theorem set_take {o : List Nat} {k i x : Nat} : (o.set (k + i) x).take k = o.take k := by
  apply List.ext_getElem?
  intro j
  simp only [List.getElem?_take, List.getElem?_set]
  split
  · rw [if_neg (by omega)]
  · rfl
theorem set_drop {o : List Nat} {k i x : Nat} : (o.set (k + i) x).drop (k + (i + 1)) = o.drop (k + (i + 1)) := drop_set_lt (by omega)
theorem drop_next {o U : List Nat} {k i : Nat} (h : o.drop (k + i) = U.drop (k + i)) : o.drop (k + (i + 1)) = U.drop (k + (i + 1)) := by
  have h2 := congrArg (List.drop 1) h
  rw [List.drop_drop, List.drop_drop] at h2
  exact h2
theorem drop_getD {o U : List Nat} {k : Nat} (h : o.drop k = U.drop k) : o.getD k 0 = U.getD k 0 := by
  have h1 := getD_drop o k 0
  have h2 := getD_drop U k 0
  rw [h] at h1
  simpa using h1.symm.trans h2
theorem sub_step {o U v : List Nat} {k i cr br bw x z t b2 : Nat} (hk : k + i < o.length) (hv : val (win o k i) + val (v.take i) * bw = val (win U k i) + 1000000000 ^ i * (cr + br)) (hx : U.getD (k + i) 0 = x) (ht : t = cr + v.getD i 0 * bw) (hz : z + (t % 1000000000 + br) = x + 1000000000 * b2) :
    val (win (o.set (k + i) z) k (i + 1)) + val (v.take (i + 1)) * bw = val (win U k (i + 1)) + 1000000000 ^ (i + 1) * (t / 1000000000 + b2) := by
  rw [win_set hk, win_succ, val_take_succ, hx, Nat.pow_succ]
  have h1 := Nat.div_add_mod t 1000000000
  generalize t / 1000000000 = q at *
  generalize t % 1000000000 = r at *
  generalize 1000000000 ^ i = B at *
  generalize v.getD i 0 = y at *
  generalize val (v.take i) = V at *
  have e1 : (V + B * y) * bw = V * bw + B * (y * bw) := by rw [Nat.add_mul, Nat.mul_assoc]
  have e2 : B * 1000000000 * (q + b2) = B * (1000000000 * q) + B * (1000000000 * b2) := by rw [Nat.mul_assoc, Nat.mul_add, Nat.mul_add]
  have e3 : B * z + B * (y * bw) + B * br = B * x + B * (1000000000 * q) + B * (1000000000 * b2) - B * cr ∧ B * cr ≤ B * x + B * (1000000000 * q) + B * (1000000000 * b2) := by
    have : z + y * bw + br + cr = x + 1000000000 * q + 1000000000 * b2 := by omega
    have h2 := congrArg (B * ·) this
    simp only [Nat.mul_add] at h2
    omega
  rw [e1, e2]
  rw [Nat.mul_add] at hv
  omega
theorem add_step {o U v : List Nat} {k i cr x z c2 : Nat} (hk : k + i < o.length) (hv : val (win o k i) + 1000000000 ^ i * cr = val (win U k i) + val (v.take i)) (hx : U.getD (k + i) 0 = x) (hz : z + 1000000000 * c2 = x + cr + v.getD i 0) :
    val (win (o.set (k + i) z) k (i + 1)) + 1000000000 ^ (i + 1) * c2 = val (win U k (i + 1)) + val (v.take (i + 1)) := by
  rw [win_set hk, win_succ, val_take_succ, hx, Nat.pow_succ]
  generalize 1000000000 ^ i = B at *
  generalize v.getD i 0 = y at *
  have h2 := congrArg (B * ·) hz
  simp only [Nat.mul_add] at h2
  rw [Nat.mul_assoc]
  omega
end Go.Sw
