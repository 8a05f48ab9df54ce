/-
  Cutting at one byte, in plain words: what is ahead of the first such byte is the first part. No program in this text.
-/
import Derived.Lib.SplitLaws
namespace Go.Proofs.YtibknkdgdfdkiaaGreatDoor.SplitLaw
open Go.Lib

theorem index_none (c : UInt8) : ∀ (l : List UInt8), c ∉ l → index l [c] = -1
  | [], _ => rfl
  | b :: l, h => by
    have hb : b ≠ c := fun e => h (by simp [e])
    have hp : ([c] : List UInt8).isPrefixOf (b :: l) = false := by simp [List.isPrefixOf, Ne.symm hb]
    rw [index, hp, index_none c l (fun e => h (by simp [e]))]
    rfl
theorem index_at (c : UInt8) (r : List UInt8) : ∀ (l : List UInt8), c ∉ l → index (l ++ c :: r) [c] = l.length
  | [], _ => by rw [List.nil_append, index]; simp [List.isPrefixOf]
  | b :: l, h => by
    have hb : b ≠ c := fun e => h (by simp [e])
    have hp : ([c] : List UInt8).isPrefixOf (b :: (l ++ c :: r)) = false := by simp [List.isPrefixOf, Ne.symm hb]
    rw [List.cons_append, index, hp, index_at c r l (fun e => h (by simp [e]))]
    have : ¬ (((l.length : Nat) : Int) == -1) = true := by simp
    simp [this]
theorem splitK_none (c : UInt8) (k : Nat) (l : List UInt8) (h : c ∉ l) : splitK [c] 0 k l = [l] := by
  cases k with
  | zero => rfl
  | succ k => unfold splitK; rw [index_none c l h]; rfl
theorem splitK_at (c : UInt8) (k : Nat) (l r : List UInt8) (h : c ∉ l) : splitK [c] 0 (k + 1) (l ++ c :: r) = l :: splitK [c] 0 k r := by
  have hm : ¬ ((((l.length : Nat) : Int) == -1) = true) := by simp
  rw [splitK, index_at c r l h, if_neg hm]
  simp
theorem bytes_inj {a b : ByteArray} (h : a.data.toList = b.data.toList) : a = b := by
  cases a; cases b
  congr 1
  exact Array.toList_inj.mp h
theorem map_inj {xs ys : List ByteArray} (h : xs.map (·.data.toList) = ys.map (·.data.toList)) : xs = ys := by
  induction xs generalizing ys with
  | nil => cases ys with
    | nil => rfl
    | cons _ _ => simp at h
  | cons x xs ih => cases ys with
    | nil => simp at h
    | cons y ys =>
      simp only [List.map_cons, List.cons.injEq] at h
      rw [bytes_inj h.1, ih h.2]
/-- No such byte: one part, the whole. -/
theorem split_none (c : UInt8) (k : Nat) (s : ByteArray) (h : c ∉ s.data.toList) : splitB ⟨#[c]⟩ 0 k s = [s] := by
  apply map_inj
  rw [splitB_data]
  exact splitK_none c k _ h
/-- The first such byte: what is ahead of it, and what the rest is cut into. -/
theorem split_at (c : UInt8) (k : Nat) (s a b : ByteArray) (hs : s.data.toList = a.data.toList ++ c :: b.data.toList) (h : c ∉ a.data.toList) :
    splitB ⟨#[c]⟩ 0 (k + 1) s = a :: splitB ⟨#[c]⟩ 0 k b := by
  apply map_inj
  rw [splitB_data, hs, List.map_cons, splitB_data]
  exact splitK_at c k _ _ h
/-- How often the byte stands in a text. -/
theorem count_at (c : UInt8) (s a b : ByteArray) (hs : s.data.toList = a.data.toList ++ c :: b.data.toList) (h : c ∉ a.data.toList) : countB s ⟨#[c]⟩ = countB b ⟨#[c]⟩ + 1 := by
  unfold countB
  show count s.data.toList [c] = count b.data.toList [c] + 1
  rw [count_one, count_one, hs, List.count_append, List.count_eq_zero_of_not_mem h, List.count_cons_self]
  omega
theorem count_none (c : UInt8) (s : ByteArray) (h : c ∉ s.data.toList) : countB s ⟨#[c]⟩ = 0 := by
  unfold countB
  show count s.data.toList [c] = 0
  rw [count_one, List.count_eq_zero_of_not_mem h]
end Go.Proofs.YtibknkdgdfdkiaaGreatDoor.SplitLaw
