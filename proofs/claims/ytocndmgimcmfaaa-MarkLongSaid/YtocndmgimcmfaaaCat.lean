/- Plain facts on the runes of texts put together out of whole pieces. -/
import Derived.Test.YtocndmgimcmfaaaPlain
set_option linter.unusedVariables false
set_option linter.unusedSimpArgs false
namespace Go.Proofs.Ytocndmgimcmfaaa.Plain

theorem get_mid (pre p rest : ByteArray) (k : Nat) (h : k < p.size) : (pre ++ p ++ rest).get! (pre.size + k) = p.get! k := by
  have h1 : pre.size + k < (pre ++ p ++ rest).size := by simp only [ByteArray.size_append]; omega
  have e1 : (pre ++ p ++ rest).get! (pre.size + k) = (pre ++ p ++ rest)[pre.size + k]'h1 := get_at _ _ h1
  have e2 : p.get! k = p[k]'h := by have := get_at p k h; simpa using this
  rw [e1, e2]
  rw [ByteArray.getElem_append_left (by simp only [ByteArray.size_append]; omega)]
  rw [ByteArray.getElem_append_right (by omega)]
  congr 1
  omega

/-- A piece that is one rune, wherever it stands. -/
def Whole (p : ByteArray) (r : Nat) : Prop := 0 < p.size ∧ ∀ pre rest : ByteArray, Utf8.decode (pre ++ p ++ rest) pre.size = (r, p.size)

theorem good1 (a : UInt8) (h : a.toNat < 128) : Whole ⟨#[a]⟩ a.toNat := by
  refine ⟨Nat.zero_lt_one, fun pre rest => ?_⟩
  have e0 : ((pre ++ ⟨#[a]⟩ ++ rest : ByteArray).get! (pre.size + 0)) = a := by rw [get_mid _ _ _ 0 (by show 0 < 1; omega)]; rfl
  simp only [Utf8.decode, e0, h, if_true]
  rfl
theorem good_bad (a : UInt8) (h : 248 ≤ a.toNat) : Whole ⟨#[a]⟩ 65533 := by
  refine ⟨Nat.zero_lt_one, fun pre rest => ?_⟩
  have e0 : ((pre ++ ⟨#[a]⟩ ++ rest : ByteArray).get! (pre.size + 0)) = a := by rw [get_mid _ _ _ 0 (by show 0 < 1; omega)]; rfl
  have hl := a.toNat_lt
  have h1 : ¬ a.toNat < 128 := by omega
  have h2 : (a.toNat / 32 == 6) = false := by rw [beq_eq_false_iff_ne]; omega
  have h3 : (a.toNat / 16 == 14) = false := by rw [beq_eq_false_iff_ne]; omega
  have h4 : (a.toNat / 8 == 30) = false := by rw [beq_eq_false_iff_ne]; omega
  simp only [Utf8.decode, e0, h1, h2, h3, h4, if_false, Bool.false_and, Bool.false_eq_true]
  rfl
theorem good2 (a b : UInt8) (r : Nat) (h : ¬ a.toNat < 128) (h2 : (a.toNat / 32 == 6) = true) (hb : (b.toNat / 64 == 2) = true) (hr : a.toNat % 32 * 64 + b.toNat % 64 = r) (hv : 128 ≤ r) : Whole ⟨#[a, b]⟩ r := by
  refine ⟨Nat.zero_lt_two, fun pre rest => ?_⟩
  have e0 : ((pre ++ ⟨#[a, b]⟩ ++ rest : ByteArray).get! (pre.size + 0)) = a := by rw [get_mid _ _ _ 0 (by show 0 < 2; omega)]; rfl
  have e1 : ((pre ++ ⟨#[a, b]⟩ ++ rest : ByteArray).get! (pre.size + 1)) = b := by rw [get_mid _ _ _ 1 (by show 1 < 2; omega)]; rfl
  have s1 : decide (pre.size + 1 < (pre ++ ⟨#[a, b]⟩ ++ rest : ByteArray).size) = true := decide_eq_true (by simp only [ByteArray.size_append]; have : (⟨#[a, b]⟩ : ByteArray).size = 2 := rfl; omega)
  simp only [Utf8.decode, e0, e1, h, h2, hb, s1, if_false, Bool.and_self, if_true, hr, ge_iff_le, hv]
  rfl
theorem good3 (a b c : UInt8) (r : Nat) (h : ¬ a.toNat < 128) (h1 : (a.toNat / 32 == 6) = false) (h2 : (a.toNat / 16 == 14) = true) (hb : (b.toNat / 64 == 2) = true) (hc : (c.toNat / 64 == 2) = true)
    (hr : a.toNat % 16 * 4096 + b.toNat % 64 * 64 + c.toNat % 64 = r) (hv : (decide (2048 ≤ r) && Utf8.valid r) = true) : Whole ⟨#[a, b, c]⟩ r := by
  refine ⟨by show 0 < 3; omega, fun pre rest => ?_⟩
  have hz : (⟨#[a, b, c]⟩ : ByteArray).size = 3 := rfl
  have e0 : ((pre ++ ⟨#[a, b, c]⟩ ++ rest : ByteArray).get! (pre.size + 0)) = a := by rw [get_mid _ _ _ 0 (by omega)]; rfl
  have e1 : ((pre ++ ⟨#[a, b, c]⟩ ++ rest : ByteArray).get! (pre.size + 1)) = b := by rw [get_mid _ _ _ 1 (by omega)]; rfl
  have e2 : ((pre ++ ⟨#[a, b, c]⟩ ++ rest : ByteArray).get! (pre.size + 2)) = c := by rw [get_mid _ _ _ 2 (by omega)]; rfl
  have s1 : decide (pre.size + 1 < (pre ++ ⟨#[a, b, c]⟩ ++ rest : ByteArray).size) = true := decide_eq_true (by simp only [ByteArray.size_append]; omega)
  have s2 : decide (pre.size + 2 < (pre ++ ⟨#[a, b, c]⟩ ++ rest : ByteArray).size) = true := decide_eq_true (by simp only [ByteArray.size_append]; omega)
  simp only [Utf8.decode, e0, e1, e2, h, h1, h2, hb, hc, s1, s2, if_false, Bool.and_self, Bool.false_and, Bool.false_eq_true, if_true, hr, ge_iff_le, hv]
  rfl
theorem good4 (a b c d : UInt8) (r : Nat) (h : ¬ a.toNat < 128) (h1 : (a.toNat / 32 == 6) = false) (h2 : (a.toNat / 16 == 14) = false) (h3 : (a.toNat / 8 == 30) = true) (hb : (b.toNat / 64 == 2) = true) (hc : (c.toNat / 64 == 2) = true) (hd : (d.toNat / 64 == 2) = true)
    (hr : a.toNat % 8 * 262144 + b.toNat % 64 * 4096 + c.toNat % 64 * 64 + d.toNat % 64 = r) (hv : (decide (65536 ≤ r) && Utf8.valid r) = true) : Whole ⟨#[a, b, c, d]⟩ r := by
  refine ⟨by show 0 < 4; omega, fun pre rest => ?_⟩
  have hz : (⟨#[a, b, c, d]⟩ : ByteArray).size = 4 := rfl
  have e0 : ((pre ++ ⟨#[a, b, c, d]⟩ ++ rest : ByteArray).get! (pre.size + 0)) = a := by rw [get_mid _ _ _ 0 (by omega)]; rfl
  have e1 : ((pre ++ ⟨#[a, b, c, d]⟩ ++ rest : ByteArray).get! (pre.size + 1)) = b := by rw [get_mid _ _ _ 1 (by omega)]; rfl
  have e2 : ((pre ++ ⟨#[a, b, c, d]⟩ ++ rest : ByteArray).get! (pre.size + 2)) = c := by rw [get_mid _ _ _ 2 (by omega)]; rfl
  have e3 : ((pre ++ ⟨#[a, b, c, d]⟩ ++ rest : ByteArray).get! (pre.size + 3)) = d := by rw [get_mid _ _ _ 3 (by omega)]; rfl
  have s1 : decide (pre.size + 1 < (pre ++ ⟨#[a, b, c, d]⟩ ++ rest : ByteArray).size) = true := decide_eq_true (by simp only [ByteArray.size_append]; omega)
  have s2 : decide (pre.size + 2 < (pre ++ ⟨#[a, b, c, d]⟩ ++ rest : ByteArray).size) = true := decide_eq_true (by simp only [ByteArray.size_append]; omega)
  have s3 : decide (pre.size + 3 < (pre ++ ⟨#[a, b, c, d]⟩ ++ rest : ByteArray).size) = true := decide_eq_true (by simp only [ByteArray.size_append]; omega)
  simp only [Utf8.decode, e0, e1, e2, e3, h, h1, h2, h3, hb, hc, hd, s1, s2, s3, if_false, Bool.and_self, Bool.false_and, Bool.false_eq_true, if_true, hr, ge_iff_le, hv]
  rfl

/-- Pieces, one behind the other; where each begins, with its rune. -/
def catP : List (ByteArray × Nat) → ByteArray
  | [] => ⟨#[]⟩
  | q :: t => q.1 ++ catP t
def places : Nat → List (ByteArray × Nat) → List (Nat × Nat)
  | _, [] => []
  | pos, q :: t => (pos, q.2) :: places (pos + q.1.size) t
theorem places_length : ∀ (ps : List (ByteArray × Nat)) (pos : Nat), (places pos ps).length = ps.length
  | [], _ => rfl
  | q :: t, pos => by simp [places, places_length t]
theorem nil_app (x : ByteArray) : (⟨#[]⟩ : ByteArray) ++ x = x := ByteArray.empty_append
theorem app_nil (x : ByteArray) : x ++ (⟨#[]⟩ : ByteArray) = x := ByteArray.append_empty
theorem catP_snoc : ∀ (ps : List (ByteArray × Nat)) (q : ByteArray × Nat), catP (ps ++ [q]) = catP ps ++ q.1
  | [], q => by simp only [List.nil_append, catP, nil_app, app_nil]
  | p :: t, q => by simp only [List.cons_append, catP, catP_snoc t q, ByteArray.append_assoc]
theorem catP_append : ∀ (ps qs : List (ByteArray × Nat)), catP (ps ++ qs) = catP ps ++ catP qs
  | [], q => by simp only [List.nil_append, catP, nil_app]
  | p :: t, q => by simp only [List.cons_append, catP, catP_append t q, ByteArray.append_assoc]

theorem runes_cat (ps : List (ByteArray × Nat)) : ∀ (pre : ByteArray) (f : Nat), (∀ q ∈ ps, Whole q.1 q.2) → (catP ps).size ≤ f → runesFrom (pre ++ catP ps) f pre.size = places pre.size ps := by
  induction ps with
  | nil =>
    intro pre f _ _
    rw [catP, app_nil]
    exact runesFrom_end _ _ _ (by omega)
  | cons q t ih =>
    intro pre f hg hf
    obtain ⟨h0, hd⟩ := hg q (List.mem_cons_self ..)
    rw [catP, ByteArray.size_append] at hf
    obtain ⟨f, rfl⟩ : ∃ m, f = m + 1 := ⟨f - 1, by omega⟩
    have e : pre ++ catP (q :: t) = pre ++ q.1 ++ catP t := by rw [catP, ByteArray.append_assoc]
    rw [e, runesFrom_go _ _ _ (by simp only [ByteArray.size_append]; omega), hd pre (catP t)]
    have := ih (pre ++ q.1) f (fun x hx => hg x (List.mem_cons_of_mem _ hx)) (by omega)
    rw [ByteArray.size_append] at this
    rw [this]
    rfl
theorem runes_catP (ps : List (ByteArray × Nat)) (hg : ∀ q ∈ ps, Whole q.1 q.2) : runes (catP ps) = places 0 ps := by
  have h := runes_cat ps ⟨#[]⟩ (catP ps).size hg (Nat.le_refl _)
  rw [nil_app] at h
  exact h
theorem size_catP (m : Nat) : ∀ (ps : List (ByteArray × Nat)), (∀ q ∈ ps, q.1.size ≤ m) → (catP ps).size ≤ m * ps.length
  | [], _ => by simp [catP]; rfl
  | q :: t, h => by
    have h1 := h q (List.mem_cons_self ..)
    have h2 := size_catP m t (fun x hx => h x (List.mem_cons_of_mem _ hx))
    rw [catP, ByteArray.size_append, List.length_cons, Nat.mul_succ]
    omega
end Go.Proofs.Ytocndmgimcmfaaa.Plain
