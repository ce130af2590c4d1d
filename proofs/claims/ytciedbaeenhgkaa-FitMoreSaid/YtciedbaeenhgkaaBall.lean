/- What the machine's call of mark.All comes to (a function value through slices.ContainsFunc and slices.IndexFunc, which calls slices.Contains), at any two rows of texts. -/
import Derived.Test.YtciedbaeenhgkaaProg
import Derived.Test.YtciedbaeenhgkaaWWords
import Derived.WalkKit
import Derived.KernelRfl
import Derived.RowKit3
import Derived.Deep.LoopGhost
import Derived.Deep.QuietTactic
import Derived.BigQuiet
set_option linter.unusedVariables false
set_option linter.unusedSimpArgs false
namespace Go.Proofs.Ytciedbaeenhgkaa.BaseM
open Go.RowKit Go.Proofs.YtciedbaeenhgkaaW.PrintWords

/-- A fact that the walk's simp does not look into. -/
structure Side (p : Prop) : Prop where mk :: (out : p)

def isIn (l : List ByteArray) (s : ByteArray) : Bool := l.any fun x => s.toList == x.toList
def allIn (l m : List ByteArray) : Bool := l.all fun x => isIn m x
def firstAt (p : ByteArray → Bool) : List ByteArray → Nat → Int
  | [], _ => -1
  | x :: t, k => if p x then (k : Int) else firstAt p t (k + 1)
theorem firstAt_ge (p : ByteArray → Bool) : ∀ (l : List ByteArray) (k : Nat), decide (0 ≤ firstAt p l k) = l.any p
  | [], k => by simp [firstAt]
  | x :: t, k => by
    have ih := firstAt_ge p t (k + 1)
    cases h : p x
    · simp [firstAt, h, ← ih]
    · simp [firstAt, h]
theorem firstAt_le (p : ByteArray → Bool) : ∀ (l : List ByteArray) (k : Nat), firstAt p l k ≤ k + l.length ∧ -1 ≤ firstAt p l k
  | [], k => by simp only [firstAt, List.length_nil]; omega
  | x :: t, k => by
    have ih := firstAt_le p t (k + 1)
    cases h : p x
    · simp [firstAt, h]; omega
    · simp [firstAt, h]; omega
theorem drop_go (l : List ByteArray) (k : Nat) (h : k < l.length) : l.drop k = rdOf ByteArray.empty l (k : Int) :: l.drop (k + 1) := by
  rw [List.drop_eq_getElem_cons h]
  simp [rdOf, List.getD_eq_getElem?_getD, List.getElem?_eq_getElem h]

set_option maxHeartbeats 1000000 in
set_option maxRecDepth 100000 in
theorem index_any (A : Option Addr) (c : Nat) (l : List ByteArray) (s : ByteArray) (w : World) (hr : Kd.C Kd.string w A l.length l) (hc : l.length ≤ c) :
    Calls Try.prog 37 #[.slice A l.length c, .string s] w fun e w' => e = .returned (.int .i64 (firstAt (fun x => s.toList == x.toList) l 0)) ∧ w' = w := by
  have hm : l.length ≤ 9223372036854775807 := hr.2.1
  have HR := Side.mk hr
  clear hr
  go_enter Try.func37, Try.ntmps37
  go_wp2
  go_loopg [8] l.length (fun g v w' => ∃ k : Nat, w' = w ∧ v = .int .i64 k ∧ Side (firstAt (fun x => s.toList == x.toList) (l.drop k) k = firstAt (fun x => s.toList == x.toList) l 0) ∧ Side (g + k = l.length))
  case atStart => exact ⟨0, rfl, rfl, ⟨by simp⟩, ⟨by simp⟩⟩
  case round =>
    obtain ⟨k, rfl, rfl, hf, hg⟩ := hrel
    by_cases hlt : k < l.length
    · have hlt' : (k : Int) < (l.length : Int) := by omega
      obtain ⟨ad, rfl, hx⟩ := Kd.at_string HR.out (k : Int) (by omega) hlt'
      have hx' : wr.cell? (ad.add k) = some (.string (rdOf ByteArray.empty l (k : Int))) := by simpa using hx
      clear hx
      rw [drop_go l k hlt] at hf
      obtain ⟨x, hxe⟩ : ∃ x, rdOf ByteArray.empty l (k : Int) = x := ⟨_, rfl⟩
      rw [hxe] at hf hx'
      clear hxe
      cases heq : (s.toList == x.toList) with
      | true =>
        have hf2 : Side (firstAt (fun x => s.toList == x.toList) l 0 = k) := ⟨by rw [← hf.out]; simp only [firstAt, heq, if_true]⟩
        clear hf
        go_wp2
        go_ret
        exact ⟨by rw [hf2.out]; rfl, rfl⟩
      | false =>
        have hf2 : Side (firstAt (fun x => s.toList == x.toList) (l.drop (k + 1)) (k + 1) = firstAt (fun x => s.toList == x.toList) l 0) := ⟨by rw [← hf.out]; simp only [firstAt, heq]; rfl⟩
        clear hf
        have hg' := hg.out
        go_wp2
        go_roundg (gk - 1)
        case measure => have := hg.out; omega
        case rel => exact ⟨k + 1, rfl, by go_num, hf2, ⟨by have := hg.out; omega⟩⟩
    · have hf2 : Side (firstAt (fun x => s.toList == x.toList) l 0 = -1) := ⟨by rw [← hf.out, List.drop_of_length_le (by omega)]; rfl⟩
      clear hf
      go_wp2
      go_ret
      exact ⟨by rw [hf2.out]; rfl, rfl⟩

set_option maxHeartbeats 1000000 in
theorem contains_any (A : Option Addr) (c : Nat) (l : List ByteArray) (s : ByteArray) (w : World) (hr : Kd.C Kd.string w A l.length l) (hc : l.length ≤ c) :
    Calls Try.prog 32 #[.slice A l.length c, .string s] w fun e w' => e = .returned (.bool (isIn l s)) ∧ w' = w := by
  have HR := Side.mk hr
  clear hr
  have hd := Side.mk (firstAt_ge (fun x => s.toList == x.toList) l 0)
  go_enter Try.func32, Try.ntmps32
  go_wp2_with (go_at_call 37; refine (index_any _ _ _ _ _ HR.out hc).mono ?_; rintro e w' ⟨rfl, rfl⟩)
  go_ret
  exact ⟨by unfold isIn; rw [← hd.out]; rfl, rfl⟩

set_option maxHeartbeats 1000000 in
theorem closure_any (A1 : Option Addr) (c1 : Nat) (l1 : List ByteArray) (s : ByteArray) (b : Nat) (w : World) (hcell : w.cell? ⟨b, 0, none⟩ = some (.slice A1 l1.length c1)) (hr : Kd.C Kd.string w A1 l1.length l1) (hc : l1.length ≤ c1) :
    Calls Try.prog 31 #[.string s, .pointer (some ⟨b, 0, none⟩)] w fun e w' => e = .returned (.bool (!isIn l1 s)) ∧ w' = w := by
  have HR := Side.mk hr
  clear hr
  go_enter Try.func31, Try.ntmps31
  go_wp2_with (go_at_call 32; refine (contains_any _ _ _ _ _ HR.out hc).mono ?_; rintro e w' ⟨rfl, rfl⟩)
  go_ret
  exact ⟨rfl, rfl⟩

set_option maxHeartbeats 1000000 in
set_option maxRecDepth 100000 in
theorem indexFunc_any (A : Option Addr) (c : Nat) (l : List ByteArray) (A1 : Option Addr) (c1 : Nat) (l1 : List ByteArray) (b : Nat) (w : World) (hr : Kd.C Kd.string w A l.length l) (hc : l.length ≤ c)
    (hcell : w.cell? ⟨b, 0, none⟩ = some (.slice A1 l1.length c1)) (hr1 : Kd.C Kd.string w A1 l1.length l1) (hc1 : l1.length ≤ c1) :
    Calls Try.prog 36 #[.slice A l.length c, .func (.func 31) #[] #[.pointer (some ⟨b, 0, none⟩)]] w fun e w' => e = .returned (.int .i64 (firstAt (fun x => !isIn l1 x) l 0)) ∧ w' = w := by
  have hm : l.length ≤ 9223372036854775807 := hr.2.1
  have HR := Side.mk hr
  have HC := Side.mk hcell
  have HR1 := Side.mk hr1
  clear hr hr1 hcell
  go_enter Try.func36, Try.ntmps36
  go_wp2
  go_loopg [8] l.length (fun g v w' => ∃ k : Nat, w' = w ∧ v = .int .i64 k ∧ Side (firstAt (fun x => !isIn l1 x) (l.drop k) k = firstAt (fun x => !isIn l1 x) l 0) ∧ Side (g + k = l.length))
  case atStart => exact ⟨0, rfl, rfl, ⟨by simp⟩, ⟨by simp⟩⟩
  case round =>
    obtain ⟨k, rfl, rfl, hf, hg⟩ := hrel
    by_cases hlt : k < l.length
    · have hlt' : (k : Int) < (l.length : Int) := by omega
      obtain ⟨ad, rfl, hx⟩ := Kd.at_string HR.out (k : Int) (by omega) hlt'
      have hx' : wr.cell? (ad.add k) = some (.string (rdOf ByteArray.empty l (k : Int))) := by simpa using hx
      clear hx
      rw [drop_go l k hlt] at hf
      obtain ⟨x, hxe⟩ : ∃ x, rdOf ByteArray.empty l (k : Int) = x := ⟨_, rfl⟩
      rw [hxe] at hf hx'
      clear hxe
      have hcl := Side.mk (closure_any A1 c1 l1 x b wr HC.out HR1.out hc1)
      obtain ⟨q, hq⟩ : ∃ q, isIn l1 x = q := ⟨_, rfl⟩
      rw [hq] at hcl
      cases q with
      | false =>
        have hf2 : Side (firstAt (fun x => !isIn l1 x) l 0 = k) := ⟨by rw [← hf.out]; simp only [firstAt, hq]; rfl⟩
        clear hf hq
        go_wp2_with (go_at_call 31; refine hcl.out.mono ?_; rintro e w' ⟨rfl, rfl⟩)
        go_ret
        exact ⟨by rw [hf2.out]; rfl, rfl⟩
      | true =>
        have hf2 : Side (firstAt (fun x => !isIn l1 x) (l.drop (k + 1)) (k + 1) = firstAt (fun x => !isIn l1 x) l 0) := ⟨by rw [← hf.out]; simp only [firstAt, hq]; rfl⟩
        clear hf hq
        go_wp2_with (go_at_call 31; refine hcl.out.mono ?_; rintro e w' ⟨rfl, rfl⟩)
        go_roundg (gk - 1)
        case measure => have := hg.out; omega
        case rel => exact ⟨k + 1, rfl, by go_num, hf2, ⟨by have := hg.out; omega⟩⟩
    · have hf2 : Side (firstAt (fun x => !isIn l1 x) l 0 = -1) := ⟨by rw [← hf.out, List.drop_of_length_le (by omega)]; rfl⟩
      clear hf
      go_wp2
      go_ret
      exact ⟨by rw [hf2.out]; rfl, rfl⟩

def mark_All.f (l0 l1 : List ByteArray) : Option Bool := some (allIn l0 l1)

set_option maxHeartbeats 1000000 in
theorem containsFunc_any (A : Option Addr) (c : Nat) (l : List ByteArray) (A1 : Option Addr) (c1 : Nat) (l1 : List ByteArray) (b : Nat) (w : World) (hr : Kd.C Kd.string w A l.length l) (hc : l.length ≤ c)
    (hcell : w.cell? ⟨b, 0, none⟩ = some (.slice A1 l1.length c1)) (hr1 : Kd.C Kd.string w A1 l1.length l1) (hc1 : l1.length ≤ c1) :
    Calls Try.prog 30 #[.slice A l.length c, .func (.func 31) #[] #[.pointer (some ⟨b, 0, none⟩)]] w fun e w' => e = .returned (.bool (!allIn l l1)) ∧ w' = w := by
  have h0 := firstAt_ge (fun x => !isIn l1 x) l 0
  have hd : Side (decide (0 ≤ firstAt (fun x => !isIn l1 x) l 0) = !allIn l l1) := ⟨by rw [h0]; unfold allIn; rw [← List.not_all_eq_any_not]⟩
  clear h0
  have HR := Side.mk hr
  have HC := Side.mk hcell
  have HR1 := Side.mk hr1
  clear hr hr1 hcell
  go_enter Try.func30, Try.ntmps30
  go_wp2_with (go_at_call 36; refine (indexFunc_any _ _ _ _ _ _ _ _ HR.out hc HC.out HR1.out hc1).mono ?_; rintro e w' ⟨rfl, rfl⟩)
  go_ret
  exact ⟨by rw [← hd.out]; rfl, rfl⟩

set_option maxHeartbeats 1000000 in
theorem mark_All.calls (A0 : Option Addr) (c0 : Nat) (l0 : List ByteArray) (A1 : Option Addr) (c1 : Nat) (l1 : List ByteArray) (r : Bool) (w : World) (hr0 : Kd.C Kd.string w A0 l0.length l0) (hc0 : l0.length ≤ c0) (hr1 : Kd.C Kd.string w A1 l1.length l1) (hc1 : l1.length ≤ c1) (h : mark_All.f l0 l1 = some r) :
    Calls Try.prog 24 #[.slice A0 l0.length c0, .slice A1 l1.length c1] w fun e w' => e = .returned (.bool r) ∧ Below w.heap.size w w' := by
  have hr := Side.mk (Option.some.inj h)
  clear h
  have hb : Below w.heap.size w (w.alloc (.cells #[.slice A1 l1.length c1] 26)) := (Below.refl _ w).alloc (Nat.le_refl _) _
  have HR0 := Side.mk (Kd.C_below hr0 hb)
  have HR1 := Side.mk (Kd.C_below hr1 hb)
  have HC : Side ((w.alloc (.cells #[.slice A1 l1.length c1] 26)).cell? ⟨w.heap.size, 0, none⟩ = some (.slice A1 l1.length c1)) := ⟨by rw [World.cell?_alloc_at _ _ _ _ rfl]; rfl⟩
  clear hr0 hr1
  have HB := Side.mk hb
  clear hb
  have hmf : ∀ (fn : Fn) (first cap : Array Value) (w : World), (Instr.makeFunc fn first cap).run Try.prog w = .ok (.func fn first cap) w := fun _ _ _ _ => rfl
  go_enter Try.func24, Try.ntmps24
  go_wp2_with (go_at_call 30; refine (containsFunc_any _ _ _ _ _ _ _ _ HR0.out hc0 HC.out HR1.out hc1).mono ?_; rintro e w' ⟨rfl, rfl⟩)
  go_ret
  exact ⟨by rw [← hr.out]; simp, HB.out⟩
end Go.Proofs.Ytciedbaeenhgkaa.BaseM
