/-
  The twenty lines that are no steps, and what a blank cuts them into. No program in this text.
-/
import Derived.Test.YtibknkdgdfdkiaaGreatDoorSplitLaw
import Derived.KernelRfl
namespace Go.Proofs.YtibknkdgdfdkiaaGreatDoor.hubForms
open Go.Lib Go.Proofs.YtibknkdgdfdkiaaGreatDoor.SplitLaw

/-- The twenty lines, over a word. -/
def tab (w : ByteArray) : Nat → ByteArray
  | 0 => ⟨#[112, 117, 116, 32]⟩ ++ w
  | 1 => ⟨#[112, 117, 116]⟩
  | 2 => ⟨#[100, 114, 111, 112]⟩
  | 3 => ⟨#[100, 114, 111, 112, 32]⟩ ++ w ++ ⟨#[32, 120]⟩
  | 4 => ⟨#[98, 117, 105, 108, 100, 32, 120]⟩
  | 5 => ⟨#[99, 114, 97, 115, 104, 32, 49]⟩
  | 6 => ⟨#[99, 114, 97, 115, 104, 32, 49, 32, 45, 49]⟩
  | 7 => ⟨#[99, 114, 97, 115, 104, 32, 48, 49, 32, 49]⟩
  | 8 => ⟨#[102, 117, 115, 101]⟩
  | 9 => ⟨#[102, 117, 115, 101, 32, 120]⟩
  | 10 => ⟨#[102, 117, 115, 101, 32, 43, 49]⟩
  | 11 => w
  | 12 => ⟨#[]⟩
  | 13 => ⟨#[32, 98, 117, 105, 108, 100]⟩
  | 14 => ⟨#[66, 117, 105, 108, 100]⟩
  | 15 => ⟨#[112, 117, 116, 32, 97, 32, 37, 52]⟩
  | 16 => ⟨#[114, 101, 97, 100]⟩
  | 17 => ⟨#[115, 119, 101, 101, 112, 32]⟩
  | 18 => ⟨#[99, 114, 97, 115, 104, 32, 49, 32, 50, 32, 51]⟩
  | _ => ⟨#[102, 117, 115, 101, 32, 57, 57, 57, 57, 57, 57, 57, 57, 57, 57, 57, 57, 57, 57, 57, 57, 57, 57, 57, 57]⟩
/-- What a blank cuts them into, three parts at most. -/
def parts (w : ByteArray) : Nat → List ByteArray
  | 0 => [⟨#[112, 117, 116]⟩, w]
  | 1 => [⟨#[112, 117, 116]⟩]
  | 2 => [⟨#[100, 114, 111, 112]⟩]
  | 3 => [⟨#[100, 114, 111, 112]⟩, w, ⟨#[120]⟩]
  | 4 => [⟨#[98, 117, 105, 108, 100]⟩, ⟨#[120]⟩]
  | 5 => [⟨#[99, 114, 97, 115, 104]⟩, ⟨#[49]⟩]
  | 6 => [⟨#[99, 114, 97, 115, 104]⟩, ⟨#[49]⟩, ⟨#[45, 49]⟩]
  | 7 => [⟨#[99, 114, 97, 115, 104]⟩, ⟨#[48, 49]⟩, ⟨#[49]⟩]
  | 8 => [⟨#[102, 117, 115, 101]⟩]
  | 9 => [⟨#[102, 117, 115, 101]⟩, ⟨#[120]⟩]
  | 10 => [⟨#[102, 117, 115, 101]⟩, ⟨#[43, 49]⟩]
  | 11 => [w]
  | 12 => [⟨#[]⟩]
  | 13 => [⟨#[]⟩, ⟨#[98, 117, 105, 108, 100]⟩]
  | 14 => [⟨#[66, 117, 105, 108, 100]⟩]
  | 15 => [⟨#[112, 117, 116]⟩, ⟨#[97]⟩, ⟨#[37, 52]⟩]
  | 16 => [⟨#[114, 101, 97, 100]⟩]
  | 17 => [⟨#[115, 119, 101, 101, 112]⟩, ⟨#[]⟩]
  | 18 => [⟨#[99, 114, 97, 115, 104]⟩, ⟨#[49]⟩, ⟨#[50, 32, 51]⟩]
  | _ => [⟨#[102, 117, 115, 101]⟩, ⟨#[57, 57, 57, 57, 57, 57, 57, 57, 57, 57, 57, 57, 57, 57, 57, 57, 57, 57, 57, 57]⟩]
/-- A word: small letters alone, the first a w. -/
structure Word (w : ByteArray) : Prop where
  small : ∀ b ∈ w.data.toList, 97 ≤ b.toNat ∧ b.toNat ≤ 122
  first : w.data.toList.head? = some 119
theorem Word.no {w : ByteArray} (h : Word w) (c : UInt8) (hc : c.toNat < 97) : c ∉ w.data.toList := fun m => by
  have := (h.small c m).1
  omega
theorem Word.size {w : ByteArray} (h : Word w) : 1 ≤ w.size := by
  have := h.first
  cases e : w.data.toList with
  | nil => simp [e] at this
  | cons a l =>
    have h1 : w.data.toList.length = l.length + 1 := by rw [e]; rfl
    rw [Array.length_toList] at h1
    show 1 ≤ w.data.size
    omega
theorem parts_are (w : ByteArray) (h : Word w) : ∀ r, r < 20 → splitB ⟨#[32]⟩ 0 (min 3 ((tab w r).size + 1) - 1) (tab w r) = parts w r
  | 0, _ => by
    have hz := h.size
    have : min 3 ((tab w 0).size + 1) - 1 = 1 + 1 := by
      have e1 : (⟨#[112, 117, 116, 32]⟩ : ByteArray).size = 4 := rfl
      have e2 : (tab w 0).size = 4 + w.size := by rw [← e1, ← ByteArray.size_append]; rfl
      omega
    rw [this, split_at 32 1 (tab w 0) ⟨#[112, 117, 116]⟩ w (by simp [tab]) (by decide), split_none 32 1 w (h.no 32 (by decide))]
    rfl
  | 1, _ => by kernel_rfl
  | 2, _ => by kernel_rfl
  | 3, _ => by
    have hz := h.size
    have : min 3 ((tab w 3).size + 1) - 1 = 1 + 1 := by
      have e1 : (⟨#[100, 114, 111, 112, 32]⟩ : ByteArray).size = 5 := rfl
      have e3 : (⟨#[32, 120]⟩ : ByteArray).size = 2 := rfl
      have e2 : (tab w 3).size = 5 + w.size + 2 := by rw [← e1, ← e3, ← ByteArray.size_append, ← ByteArray.size_append]; rfl
      omega
    rw [this, split_at 32 1 (tab w 3) ⟨#[100, 114, 111, 112]⟩ (w ++ ⟨#[32, 120]⟩) (by simp [tab]) (by decide), split_at 32 0 (w ++ ⟨#[32, 120]⟩) w ⟨#[120]⟩ (by simp) (h.no 32 (by decide))]
    rfl
  | 4, _ => by kernel_rfl
  | 5, _ => by kernel_rfl
  | 6, _ => by kernel_rfl
  | 7, _ => by kernel_rfl
  | 8, _ => by kernel_rfl
  | 9, _ => by kernel_rfl
  | 10, _ => by kernel_rfl
  | 11, _ => by
    rw [show tab w 11 = w from rfl, split_none 32 _ w (h.no 32 (by decide))]
    rfl
  | 12, _ => by kernel_rfl
  | 13, _ => by kernel_rfl
  | 14, _ => by kernel_rfl
  | 15, _ => by kernel_rfl
  | 16, _ => by kernel_rfl
  | 17, _ => by kernel_rfl
  | 18, _ => by kernel_rfl
  | 19, _ => by kernel_rfl
  | r + 20, hr => absurd hr (by omega)
theorem no_break (w : ByteArray) (h : Word w) : ∀ r, r < 20 → (10 : UInt8) ∉ (tab w r).data.toList
  | 0, _ => by have := h.no 10 (by decide); simp [tab, this]
  | 1, _ => by show (10 : UInt8) ∉ (⟨#[112, 117, 116]⟩ : ByteArray).data.toList; decide
  | 2, _ => by show (10 : UInt8) ∉ (⟨#[100, 114, 111, 112]⟩ : ByteArray).data.toList; decide
  | 3, _ => by have := h.no 10 (by decide); simp [tab, this]
  | 4, _ => by show (10 : UInt8) ∉ (⟨#[98, 117, 105, 108, 100, 32, 120]⟩ : ByteArray).data.toList; decide
  | 5, _ => by show (10 : UInt8) ∉ (⟨#[99, 114, 97, 115, 104, 32, 49]⟩ : ByteArray).data.toList; decide
  | 6, _ => by show (10 : UInt8) ∉ (⟨#[99, 114, 97, 115, 104, 32, 49, 32, 45, 49]⟩ : ByteArray).data.toList; decide
  | 7, _ => by show (10 : UInt8) ∉ (⟨#[99, 114, 97, 115, 104, 32, 48, 49, 32, 49]⟩ : ByteArray).data.toList; decide
  | 8, _ => by show (10 : UInt8) ∉ (⟨#[102, 117, 115, 101]⟩ : ByteArray).data.toList; decide
  | 9, _ => by show (10 : UInt8) ∉ (⟨#[102, 117, 115, 101, 32, 120]⟩ : ByteArray).data.toList; decide
  | 10, _ => by show (10 : UInt8) ∉ (⟨#[102, 117, 115, 101, 32, 43, 49]⟩ : ByteArray).data.toList; decide
  | 11, _ => by have := h.no 10 (by decide); simp [tab, this]
  | 12, _ => by show (10 : UInt8) ∉ (⟨#[]⟩ : ByteArray).data.toList; decide
  | 13, _ => by show (10 : UInt8) ∉ (⟨#[32, 98, 117, 105, 108, 100]⟩ : ByteArray).data.toList; decide
  | 14, _ => by show (10 : UInt8) ∉ (⟨#[66, 117, 105, 108, 100]⟩ : ByteArray).data.toList; decide
  | 15, _ => by show (10 : UInt8) ∉ (⟨#[112, 117, 116, 32, 97, 32, 37, 52]⟩ : ByteArray).data.toList; decide
  | 16, _ => by show (10 : UInt8) ∉ (⟨#[114, 101, 97, 100]⟩ : ByteArray).data.toList; decide
  | 17, _ => by show (10 : UInt8) ∉ (⟨#[115, 119, 101, 101, 112, 32]⟩ : ByteArray).data.toList; decide
  | 18, _ => by show (10 : UInt8) ∉ (⟨#[99, 114, 97, 115, 104, 32, 49, 32, 50, 32, 51]⟩ : ByteArray).data.toList; decide
  | 19, _ => by show (10 : UInt8) ∉ (⟨#[102, 117, 115, 101, 32, 57, 57, 57, 57, 57, 57, 57, 57, 57, 57, 57, 57, 57, 57, 57, 57, 57, 57, 57, 57]⟩ : ByteArray).data.toList; decide
  | r + 20, hr => absurd hr (by omega)
theorem tab_size (w : ByteArray) (hw : w.size ≤ 10) : ∀ r, r < 20 → (tab w r).size ≤ 40
  | 0, _ => by
    show (⟨#[112, 117, 116, 32]⟩ ++ w : ByteArray).size ≤ 40
    have e1 : (⟨#[112, 117, 116, 32]⟩ : ByteArray).size = 4 := rfl
    simp only [ByteArray.size_append, e1]
    omega
  | 1, _ => by show (⟨#[112, 117, 116]⟩ : ByteArray).size ≤ 40; decide
  | 2, _ => by show (⟨#[100, 114, 111, 112]⟩ : ByteArray).size ≤ 40; decide
  | 3, _ => by
    show (⟨#[100, 114, 111, 112, 32]⟩ ++ w ++ ⟨#[32, 120]⟩ : ByteArray).size ≤ 40
    have e1 : (⟨#[100, 114, 111, 112, 32]⟩ : ByteArray).size = 5 := rfl
    have e2 : (⟨#[32, 120]⟩ : ByteArray).size = 2 := rfl
    simp only [ByteArray.size_append, e1, e2]
    omega
  | 4, _ => by show (⟨#[98, 117, 105, 108, 100, 32, 120]⟩ : ByteArray).size ≤ 40; decide
  | 5, _ => by show (⟨#[99, 114, 97, 115, 104, 32, 49]⟩ : ByteArray).size ≤ 40; decide
  | 6, _ => by show (⟨#[99, 114, 97, 115, 104, 32, 49, 32, 45, 49]⟩ : ByteArray).size ≤ 40; decide
  | 7, _ => by show (⟨#[99, 114, 97, 115, 104, 32, 48, 49, 32, 49]⟩ : ByteArray).size ≤ 40; decide
  | 8, _ => by show (⟨#[102, 117, 115, 101]⟩ : ByteArray).size ≤ 40; decide
  | 9, _ => by show (⟨#[102, 117, 115, 101, 32, 120]⟩ : ByteArray).size ≤ 40; decide
  | 10, _ => by show (⟨#[102, 117, 115, 101, 32, 43, 49]⟩ : ByteArray).size ≤ 40; decide
  | 11, _ => by show w.size ≤ 40; omega
  | 12, _ => by show (⟨#[]⟩ : ByteArray).size ≤ 40; decide
  | 13, _ => by show (⟨#[32, 98, 117, 105, 108, 100]⟩ : ByteArray).size ≤ 40; decide
  | 14, _ => by show (⟨#[66, 117, 105, 108, 100]⟩ : ByteArray).size ≤ 40; decide
  | 15, _ => by show (⟨#[112, 117, 116, 32, 97, 32, 37, 52]⟩ : ByteArray).size ≤ 40; decide
  | 16, _ => by show (⟨#[114, 101, 97, 100]⟩ : ByteArray).size ≤ 40; decide
  | 17, _ => by show (⟨#[115, 119, 101, 101, 112, 32]⟩ : ByteArray).size ≤ 40; decide
  | 18, _ => by show (⟨#[99, 114, 97, 115, 104, 32, 49, 32, 50, 32, 51]⟩ : ByteArray).size ≤ 40; decide
  | 19, _ => by show (⟨#[102, 117, 115, 101, 32, 57, 57, 57, 57, 57, 57, 57, 57, 57, 57, 57, 57, 57, 57, 57, 57, 57, 57, 57, 57]⟩ : ByteArray).size ≤ 40; decide
  | r + 20, hr => absurd hr (by omega)
end Go.Proofs.YtibknkdgdfdkiaaGreatDoor.hubForms
