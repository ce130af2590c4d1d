/- MarkRunes, over plain Lean functions: runes are counted, not bytes; a text behind another one has as many as both; at every two rows of whole numbers and every whole number. -/
import Derived.Test.YtocndmgimcmfaaaPx3
import Derived.Test.YtocndmgimcmfaaaFacts
import Derived.Test.YtocndmgimcmfaaaCat
set_option linter.unusedVariables false
set_option linter.unusedSimpArgs false
namespace Go.Proofs.Ytocndmgimcmfaaa.Pure
open Go.RowKit Go.Proofs.Ytocndmgimcmfaaa.P Go.Proofs.Ytocndmgimcmfaaa.Facts Go.Proofs.Ytocndmgimcmfaaa.Base Go.Proofs.Ytocndmgimcmfaaa.Plain Go.Proofs.YtocndmgimcmfaaaW.PrintWords Go.Proofs.YtocndmgimcmfaaaW.PrintLast

def six : List ByteArray := ([(⟨#[97]⟩ : ByteArray), (⟨#[206, 177]⟩ : ByteArray), (⟨#[226, 130, 172]⟩ : ByteArray), (⟨#[240, 159, 152, 128]⟩ : ByteArray), (⟨#[255]⟩ : ByteArray), (⟨#[32]⟩ : ByteArray)] : List ByteArray)
def fours : List ByteArray := ([(⟨#[98]⟩ : ByteArray), (⟨#[207, 137]⟩ : ByteArray), (⟨#[237, 149, 156]⟩ : ByteArray), (⟨#[240, 157, 132, 158]⟩ : ByteArray)] : List ByteArray)
def tenP : List (ByteArray × Nat) := [(⟨#[97]⟩, 97), (⟨#[206, 177]⟩, 945), (⟨#[226, 130, 172]⟩, 8364), (⟨#[240, 159, 152, 128]⟩, 128512), (⟨#[255]⟩, 65533), (⟨#[32]⟩, 32), (⟨#[98]⟩, 98), (⟨#[207, 137]⟩, 969), (⟨#[237, 149, 156]⟩, 54620), (⟨#[240, 157, 132, 158]⟩, 119070)]
theorem six_at (t : Int) (h0 : 0 ≤ t) (h1 : t < 6) : ∃ q, q ∈ tenP ∧ rdOf ByteArray.empty six t = q.1 := by
  have h : t = 0 ∨ t = 1 ∨ t = 2 ∨ t = 3 ∨ t = 4 ∨ t = 5 := by omega
  rcases h with rfl | rfl | rfl | rfl | rfl | rfl
  · exact ⟨(⟨#[97]⟩, 97), by simp [tenP], rfl⟩
  · exact ⟨(⟨#[206, 177]⟩, 945), by simp [tenP], rfl⟩
  · exact ⟨(⟨#[226, 130, 172]⟩, 8364), by simp [tenP], rfl⟩
  · exact ⟨(⟨#[240, 159, 152, 128]⟩, 128512), by simp [tenP], rfl⟩
  · exact ⟨(⟨#[255]⟩, 65533), by simp [tenP], rfl⟩
  · exact ⟨(⟨#[32]⟩, 32), by simp [tenP], rfl⟩
theorem fours_at (t : Int) (h0 : 0 ≤ t) (h1 : t < 4) : ∃ q, q ∈ tenP ∧ rdOf ByteArray.empty fours t = q.1 := by
  have h : t = 0 ∨ t = 1 ∨ t = 2 ∨ t = 3 := by omega
  rcases h with rfl | rfl | rfl | rfl
  · exact ⟨(⟨#[98]⟩, 98), by simp [tenP], rfl⟩
  · exact ⟨(⟨#[207, 137]⟩, 969), by simp [tenP], rfl⟩
  · exact ⟨(⟨#[237, 149, 156]⟩, 54620), by simp [tenP], rfl⟩
  · exact ⟨(⟨#[240, 157, 132, 158]⟩, 119070), by simp [tenP], rfl⟩
theorem ten_good : ∀ q ∈ tenP, Whole q.1 q.2 := by
  intro q hq
  simp only [tenP, List.mem_cons, List.not_mem_nil, or_false] at hq
  rcases hq with rfl | rfl | rfl | rfl | rfl | rfl | rfl | rfl | rfl | rfl
  · exact good1 97 (by decide)
  · exact good2 206 177 945 (by decide) (by decide) (by decide) (by decide) (by decide)
  · exact good3 226 130 172 8364 (by decide) (by decide) (by decide) (by decide) (by decide) (by decide +kernel) (by decide +kernel)
  · exact good4 240 159 152 128 128512 (by decide) (by decide) (by decide) (by decide) (by decide) (by decide) (by decide) (by decide +kernel) (by decide +kernel)
  · exact good_bad 255 (by decide)
  · exact good1 32 (by decide)
  · exact good1 98 (by decide)
  · exact good2 207 137 969 (by decide) (by decide) (by decide) (by decide) (by decide)
  · exact good3 237 149 156 54620 (by decide) (by decide) (by decide) (by decide) (by decide) (by decide +kernel) (by decide +kernel)
  · exact good4 240 157 132 158 119070 (by decide) (by decide) (by decide) (by decide) (by decide) (by decide) (by decide) (by decide +kernel) (by decide +kernel)
theorem ten_size : ∀ q ∈ tenP, q.1.size ≤ 4 := by
  intro q hq
  simp only [tenP, List.mem_cons, List.not_mem_nil, or_false] at hq
  rcases hq with rfl | rfl | rfl | rfl | rfl | rfl | rfl | rfl | rfl | rfl <;> decide

theorem count (ps : List (ByteArray × Nat)) (hps : ∀ q ∈ ps, q ∈ tenP) (hl : ps.length ≤ 100) : mark_Runes.f (catP ps) = some (ps.length : Int) := by
  have hz := size_catP 4 ps (fun q hq => ten_size q (hps q hq))
  unfold mark_Runes.f
  rw [if_pos (show (catP ps).size ≤ B62 by unfold B62; omega), runes_catP ps (fun q hq => ten_good q (hps q hq)), places_length]

theorem cuts : ∀ t : Fin 7, (mark_Runes.f ((⟨#[206, 177, 206, 178, 206, 179]⟩ : ByteArray).extract 0 ((t.val : Int)).toNat)).bind (fun t152 => (some (t152 == (wrap64 (Int.tdiv (wrap64 ((t.val : Int) + 1)) 2))))) = some true := by decide +kernel

theorem runes_last (a : Int) (ps qs : List (ByteArray × Nat)) (hps : ∀ q ∈ ps, q ∈ tenP) (hqs : ∀ q ∈ qs, q ∈ tenP) (hl : ps.length ≤ 30) (hm : qs.length ≤ 30) (k : Nat) (hk : 0 < k) :
    joinerylaw2_MarkRunes.j3 k a (catP ps) (ps.length : Int) (catP qs) = some true := by
  obtain ⟨k, rfl⟩ : ∃ m, k = m + 1 := ⟨k - 1, by omega⟩
  have hz := size_catP 4 ps (fun q hq => ten_size q (hps q hq))
  have hy := size_catP 4 qs (fun q hq => ten_size q (hqs q hq))
  have h0 := Int.emod_nonneg a (show (7 : Int) ≠ 0 by omega)
  have h1 := Int.emod_lt_of_pos a (show (0 : Int) < 7 by omega)
  have hc : ∀ q ∈ ps ++ qs, q ∈ tenP := fun q hq => by
    rcases List.mem_append.1 hq with h | h
    · exact hps q h
    · exact hqs q h
  simp only [joinerylaw2_MarkRunes.j3]
  rw [within_eq a 7 (by omega) (by omega), Option.bind_some, count ps hps (by omega), Option.bind_some, if_pos rfl, if_pos (by omega), ← catP_append, count (ps ++ qs) hc (by rw [List.length_append]; omega), Option.bind_some, count qs hqs (by omega), Option.bind_some,
    if_pos (by rw [List.length_append]; unfold wrap64; omega), if_pos h0, if_pos (by omega)]
  have h := cuts ⟨(a % 7).toNat, by omega⟩
  simp only [Int.toNat_of_nonneg h0] at h
  exact h

theorem second (m : List Int) (a : Int) (ps : List (ByteArray × Nat)) (hps : ∀ q ∈ ps, q ∈ tenP) (hl : ps.length ≤ 30) (d : Nat) : ∀ (k : Nat) (qs : List (ByteArray × Nat)), (∀ q ∈ qs, q ∈ tenP) → qs.length ≤ 30 → 30 - qs.length = d → d + 1 < k →
    joinerylaw2_MarkRunes.l1 k m a (catP ps) (ps.length : Int) (catP qs) (qs.length : Int) = some true := by
  induction d with
  | zero =>
    intro k qs hqs h0 hd hk
    obtain ⟨k, rfl⟩ : ∃ m, k = m + 1 := ⟨k - 1, by omega⟩
    simp only [joinerylaw2_MarkRunes.l1]
    split
    · rw [if_neg (by omega)]
      exact runes_last a ps qs hps hqs hl h0 k (by omega)
    · exact runes_last a ps qs hps hqs hl h0 k (by omega)
  | succ d ih =>
    intro k qs hqs h0 hd hk
    obtain ⟨k, rfl⟩ : ∃ m, k = m + 1 := ⟨k - 1, by omega⟩
    simp only [joinerylaw2_MarkRunes.l1]
    split
    · rw [if_pos (by omega)]
      have m0 := Int.emod_nonneg (rd m (qs.length : Int)) (show (4 : Int) ≠ 0 by omega)
      have m1 := Int.emod_lt_of_pos (rd m (qs.length : Int)) (show (0 : Int) < 4 by omega)
      obtain ⟨q, hq, e⟩ := fours_at _ m0 m1
      have hq2 := ten_size q hq
      have hy := size_catP 4 qs (fun q hq => ten_size q (hqs q hq))
      show (some fours).bind _ = _
      rw [Option.bind_some, if_pos (by omega), within_eq _ 4 (by omega) (by omega), Option.bind_some, if_pos m0, if_pos (show _ < (fours.length : Int) from m1), e, if_pos (by omega), ← catP_snoc]
      rw [show wrap64 ((qs.length : Int) + 1) = ((qs ++ [q]).length : Int) by unfold wrap64; simp only [List.length_append, List.length_cons, List.length_nil]; omega]
      refine ih k (qs ++ [q]) ?_ (by simp; omega) (by simp; omega) (by omega)
      intro y hy
      rcases List.mem_append.1 hy with h | h
      · exact hqs y h
      · rw [List.mem_singleton.1 h]; exact hq
    · exact runes_last a ps qs hps hqs hl h0 k (by omega)

theorem between (m : List Int) (a : Int) (ps : List (ByteArray × Nat)) (hps : ∀ q ∈ ps, q ∈ tenP) (hl : ps.length ≤ 30) (k : Nat) (hk : 40 < k) : joinerylaw2_MarkRunes.j1 k m a (catP ps) (ps.length : Int) = some true := by
  obtain ⟨k, rfl⟩ : ∃ m, k = m + 1 := ⟨k - 1, by omega⟩
  simp only [joinerylaw2_MarkRunes.j1]
  exact second m a ps hps hl 30 k [] (fun _ h => by cases h) (by simp) (by simp) (by omega)

theorem first_ (l m : List Int) (a : Int) (d : Nat) : ∀ (k : Nat) (ps : List (ByteArray × Nat)), (∀ q ∈ ps, q ∈ tenP) → ps.length ≤ 30 → 30 - ps.length = d → d + 50 < k →
    joinerylaw2_MarkRunes.l0 k l m a (catP ps) (ps.length : Int) (ps.length : Int) = some true := by
  induction d with
  | zero =>
    intro k ps hps h0 hd hk
    obtain ⟨k, rfl⟩ : ∃ m, k = m + 1 := ⟨k - 1, by omega⟩
    simp only [joinerylaw2_MarkRunes.l0]
    split
    · rw [if_neg (by omega)]
      exact between m a ps hps h0 k (by omega)
    · exact between m a ps hps h0 k (by omega)
  | succ d ih =>
    intro k ps hps h0 hd hk
    obtain ⟨k, rfl⟩ : ∃ m, k = m + 1 := ⟨k - 1, by omega⟩
    simp only [joinerylaw2_MarkRunes.l0]
    split
    · rw [if_pos (by omega)]
      have m0 := Int.emod_nonneg (rd l (ps.length : Int)) (show (6 : Int) ≠ 0 by omega)
      have m1 := Int.emod_lt_of_pos (rd l (ps.length : Int)) (show (0 : Int) < 6 by omega)
      obtain ⟨q, hq, e⟩ := six_at _ m0 m1
      have hq2 := ten_size q hq
      have hy := size_catP 4 ps (fun q hq => ten_size q (hps q hq))
      show (some six).bind _ = _
      rw [Option.bind_some, if_pos (by omega), within_eq _ 6 (by omega) (by omega), Option.bind_some, if_pos m0, if_pos (show _ < (six.length : Int) from m1), e, if_pos (by omega), ← catP_snoc]
      rw [show wrap64 ((ps.length : Int) + 1) = ((ps ++ [q]).length : Int) by unfold wrap64; simp only [List.length_append, List.length_cons, List.length_nil]; omega]
      refine ih k (ps ++ [q]) ?_ (by simp; omega) (by simp; omega) (by omega)
      intro y hy
      rcases List.mem_append.1 hy with h | h
      · exact hps y h
      · rw [List.mem_singleton.1 h]; exact hq
    · exact between m a ps hps h0 k (by omega)

theorem MarkRunes : joinerylaw2_MarkRunes.Pure := by
  intro l0 l1 a2 _ _ _ _ _ _ _
  refine ⟨100, ?_⟩
  unfold joinerylaw2_MarkRunes.f
  rw [known_yes]
  simp only [Option.bind_some, if_true]
  exact first_ l0 l1 a2 30 100 [] (fun _ h => by cases h) (by simp) (by simp) (by omega)

end Go.Proofs.Ytocndmgimcmfaaa.Pure
