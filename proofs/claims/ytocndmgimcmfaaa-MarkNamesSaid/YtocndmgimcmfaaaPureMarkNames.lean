/- MarkNames, over plain Lean functions: whether a text is a name and how many runes it has are the document's, at every text that the law makes. -/
import Derived.Test.YtocndmgimcmfaaaPx2
import Derived.Test.YtocndmgimcmfaaaFacts
set_option linter.unusedVariables false
set_option linter.unusedSimpArgs false
namespace Go.Proofs.Ytocndmgimcmfaaa.Pure
open Go.RowKit Go.Proofs.Ytocndmgimcmfaaa.P Go.Proofs.Ytocndmgimcmfaaa.Facts Go.Proofs.Ytocndmgimcmfaaa.Base Go.Proofs.Ytocndmgimcmfaaa.Plain Go.Proofs.YtocndmgimcmfaaaW.PrintWords Go.Proofs.YtocndmgimcmfaaaW.PrintLast

def signs : List ByteArray := ([(⟨#[97]⟩ : ByteArray), (⟨#[122]⟩ : ByteArray), (⟨#[206, 177]⟩ : ByteArray), (⟨#[207, 137]⟩ : ByteArray), (⟨#[48]⟩ : ByteArray), (⟨#[57]⟩ : ByteArray), (⟨#[206, 178]⟩ : ByteArray), (⟨#[109]⟩ : ByteArray), (⟨#[65]⟩ : ByteArray), (⟨#[207, 138]⟩ : ByteArray), (⟨#[206]⟩ : ByteArray), (⟨#[45]⟩ : ByteArray), (⟨#[206, 145]⟩ : ByteArray), (⟨#[206, 176]⟩ : ByteArray), (⟨#[255]⟩ : ByteArray), (⟨#[113]⟩ : ByteArray)] : List ByteArray)
theorem signs_le : ∀ t : Fin 16, (rdOf ByteArray.empty signs (t.val : Int)).size ≤ 2 := by decide +kernel

theorem text_some (l : List Int) (d : Nat) : ∀ (k : Nat) (i : Int) (s : ByteArray), 0 ≤ i → i ≤ 12 → 12 - i = d → d < k → (s.size : Int) ≤ 2 * i → ∃ r, joinerylaw2_Text.l0 k l s i = some r ∧ r.size ≤ 24 := by
  induction d with
  | zero =>
    intro k i s h0 h1 hd hk hs
    obtain ⟨k, rfl⟩ : ∃ m, k = m + 1 := ⟨k - 1, by omega⟩
    refine ⟨s, ?_, by omega⟩
    simp only [joinerylaw2_Text.l0]
    split
    · rw [if_neg (by omega)]
    · rfl
  | succ d ih =>
    intro k i s h0 h1 hd hk hs
    obtain ⟨k, rfl⟩ : ∃ m, k = m + 1 := ⟨k - 1, by omega⟩
    by_cases hlt : i < (l.length : Int)
    · have hw := within_eq (rd l i) 16 (by omega) (by omega)
      have q0 := Int.emod_nonneg (rd l i) (show (16 : Int) ≠ 0 by omega)
      have q1 := Int.emod_lt_of_pos (rd l i) (show (0 : Int) < 16 by omega)
      have hsz := signs_le ⟨((rd l i) % 16).toNat, by omega⟩
      simp only [Int.toNat_of_nonneg q0] at hsz
      obtain ⟨r, hr, hle⟩ := ih k (i + 1) (s ++ rdOf ByteArray.empty signs (rd l i % 16)) (by omega) (by omega) (by omega) (by omega) (by rw [ByteArray.size_append]; omega)
      refine ⟨r, ?_, hle⟩
      simp only [joinerylaw2_Text.l0]
      rw [if_pos hlt, if_pos (by omega)]
      show (some signs).bind _ = _
      rw [Option.bind_some, if_pos h0, hw, Option.bind_some, if_pos q0, if_pos (show rd l i % 16 < (signs.length : Int) from q1), if_pos (by omega)]
      rw [show wrap64 (i + 1) = i + 1 by unfold wrap64; omega]
      exact hr
    · refine ⟨s, ?_, by omega⟩
      simp only [joinerylaw2_Text.l0]
      rw [if_neg hlt]

theorem all_alike (l : List ByteArray) (hl : l.length ≤ 100) (hs : ∀ x ∈ l, x.size ≤ B62) (d : Nat) : ∀ (k : Nat) (i : Int), 0 ≤ i → i ≤ l.length → (l.length : Int) - i = d → d < k → joinerylaw2_MarkNames.l0 k l i = some true := by
  induction d with
  | zero =>
    intro k i h0 h1 hd hk
    obtain ⟨k, rfl⟩ : ∃ m, k = m + 1 := ⟨k - 1, by omega⟩
    simp only [joinerylaw2_MarkNames.l0]
    rw [if_neg (by omega)]
  | succ d ih =>
    intro k i h0 h1 hd hk
    obtain ⟨k, rfl⟩ : ∃ m, k = m + 1 := ⟨k - 1, by omega⟩
    have hm : rdOf ByteArray.empty l i ∈ l := by
      unfold rdOf
      rw [List.getD_eq_getElem?_getD, List.getElem?_eq_getElem (show i.toNat < l.length by omega)]
      exact List.getElem_mem _
    have hz := hs _ hm
    have hn : mark_Name.f (rdOf ByteArray.empty l i) = some (nameB (rdOf ByteArray.empty l i)) := by unfold mark_Name.f; rw [if_pos hz]
    have hr : mark_Runes.f (rdOf ByteArray.empty l i) = some ((runes (rdOf ByteArray.empty l i)).length : Int) := by unfold mark_Runes.f; rw [if_pos hz]
    simp only [joinerylaw2_MarkNames.l0, joineryref2_Name.f, joineryref2_Runes.f]
    rw [if_pos (by omega), if_pos h0, hn, Option.bind_some, Option.bind_some, if_neg (by simp), hr, Option.bind_some, Option.bind_some, if_pos rfl]
    rw [show wrap64 (i + 1) = i + 1 by unfold wrap64; omega]
    exact ih k (i + 1) (by omega) (by omega) (by omega) (by omega)

theorem MarkNames : joinerylaw2_MarkNames.Pure := by
  intro l0 a1 a2 _ _ _ _ _
  refine ⟨20, ?_⟩
  unfold joinerylaw2_MarkNames.f
  rw [known_yes]
  simp only [Option.bind_some, if_true]
  by_cases hb : (a1.size : Int) > 200
  · rw [if_pos hb]
  rw [if_neg hb]
  obtain ⟨t, ht, hle⟩ := text_some l0 12 20 0 ⟨#[]⟩ (by omega) (by omega) (by omega) (by omega) (by show (0 : Int) ≤ _; omega)
  have ht' : joinerylaw2_Text.f 20 l0 = some t := ht
  rw [ht', Option.bind_some, Option.bind_some, if_pos (by omega)]
  have p0 := Int.emod_nonneg a2 (show (11 : Int) ≠ 0 by omega)
  have p1 := Int.emod_lt_of_pos a2 (show (0 : Int) < 11 by omega)
  have r0 := Int.emod_nonneg a2 (show (21 : Int) ≠ 0 by omega)
  have r1 := Int.emod_lt_of_pos a2 (show (0 : Int) < 21 by omega)
  rw [within_eq a2 11 (by omega) (by omega), within_eq a2 21 (by omega) (by omega)]
  simp only [Option.bind_some]
  rw [show wrap64 (2 * (a2 % 11)) = 2 * (a2 % 11) by unfold wrap64; omega]
  rw [if_pos (by omega), if_pos (by omega), if_pos (by omega), if_pos (by omega), if_pos (by omega), if_pos (by omega)]
  refine all_alike _ (by simp) ?_ 8 20 0 (by omega) (by simp) (by simp) (by omega)
  intro x hx
  have big : (1000 : Nat) ≤ B62 := by unfold B62; omega
  have ext : ∀ (u : ByteArray) (n : Nat), (u.extract 0 n).size ≤ u.size := fun u n => by rw [ByteArray.size_extract]; omega
  simp only [List.mem_cons, List.not_mem_nil, or_false] at hx
  rcases hx with rfl | rfl | rfl | rfl | rfl | rfl | rfl | rfl
  · omega
  · omega
  · rw [ByteArray.size_append]
    have : (⟨#[97]⟩ : ByteArray).size = 1 := rfl
    omega
  · refine Nat.le_trans (ext _ _) (Nat.le_trans ?_ big); decide
  · refine Nat.le_trans (ext _ _) (Nat.le_trans ?_ big); decide
  · refine Nat.le_trans (ext _ _) (Nat.le_trans ?_ big); decide
  · refine Nat.le_trans ?_ big; decide
  · refine Nat.le_trans ?_ big; decide

end Go.Proofs.Ytocndmgimcmfaaa.Pure
