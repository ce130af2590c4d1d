/- Plain facts on the runes of a string, and when a string is a name: no program in sight. -/
import Derived.Laws.Runes
import Derived.Laws.RangeAny
set_option linter.unusedVariables false
set_option linter.unusedSimpArgs false
namespace Go.Proofs.Ytocndmgimcmfaaa.Plain

theorem width_pos (s : ByteArray) (pos : Nat) (h : pos < s.size) : 1 ≤ (Utf8.decode s pos).2 := by
  by_cases ha : (s[pos]'h).toNat < 128
  · rw [decode_ascii s pos h ha]
    exact Nat.le_refl _
  · exact (decode_high s pos h (by omega)).2

/-- The runes of s from place pos on, by at most so many steps: each with its place. -/
def runesFrom (s : ByteArray) : Nat → Nat → List (Nat × Nat)
  | 0, _ => []
  | f + 1, pos => if pos < s.size then (pos, (Utf8.decode s pos).1) :: runesFrom s f (pos + (Utf8.decode s pos).2) else []
def runes (s : ByteArray) : List (Nat × Nat) := runesFrom s s.size 0

def letterB (c : Int) : Bool := (decide (97 ≤ c) && decide (c ≤ 122)) || (decide (945 ≤ c) && decide (c ≤ 969))
def digitB (c : Int) : Bool := decide (48 ≤ c) && decide (c ≤ 57)
def okRune (p : Nat × Nat) : Bool := letterB p.2 || (digitB p.2 && p.1 != 0)
def nameB (s : ByteArray) : Bool := (runes s).all okRune && (!s.toList.isEmpty && decide ((runes s).length ≤ 8))

theorem runesFrom_end (s : ByteArray) (f pos : Nat) (h : ¬ pos < s.size) : runesFrom s f pos = [] := by
  cases f <;> simp [runesFrom, h]
theorem runesFrom_go (s : ByteArray) (f pos : Nat) (h : pos < s.size) : runesFrom s (f + 1) pos = (pos, (Utf8.decode s pos).1) :: runesFrom s f (pos + (Utf8.decode s pos).2) := by
  simp [runesFrom, h]
theorem runesFrom_le (s : ByteArray) : ∀ f pos, (runesFrom s f pos).length ≤ f
  | 0, _ => by simp [runesFrom]
  | f + 1, pos => by
    have ih := runesFrom_le s f (pos + (Utf8.decode s pos).2)
    unfold runesFrom
    split
    · simp only [List.length_cons]; omega
    · simp
theorem runes_le (s : ByteArray) : (runes s).length ≤ s.size := runesFrom_le s _ _
theorem runesFrom_none (s : ByteArray) (f pos : Nat) (h : s.size ≤ pos + f) (h0 : pos < s.size) : runesFrom s f pos ≠ [] := by
  cases f with
  | zero => omega
  | succ f => simp [runesFrom, h0]
end Go.Proofs.Ytocndmgimcmfaaa.Plain
