/- What the machine's call of mark.Set comes to, at any row of texts shorter than 2^62 bytes each. -/
import Derived.Test.YtocndmgimcmfaaaBase
import Derived.Test.YtocndmgimcmfaaaBall
import Derived.Laws.Cover1
set_option linter.unusedVariables false
set_option linter.unusedSimpArgs false
namespace Go.Proofs.Ytocndmgimcmfaaa.Base
open Go.RowKit Go.Proofs.Ytocndmgimcmfaaa.Plain Go.Proofs.YtocndmgimcmfaaaW.PrintWords

def at_ (l : List ByteArray) (i : Int) : ByteArray := rdOf ByteArray.empty l i
def okAt (l : List ByteArray) (i : Nat) : Bool := nameB (at_ l i) && (decide ((i : Int) ≤ 0) || Op.bytesLess (at_ l ((i : Int) - 1)).toList (at_ l i).toList)
def okFrom (l : List ByteArray) (k : Nat) : Bool := (List.range' k (l.length - k)).all (okAt l)
def setB (l : List ByteArray) : Bool := okFrom l 0 && decide (l.length ≤ 4)
theorem okFrom_end (l : List ByteArray) (k : Nat) (h : ¬ k < l.length) : okFrom l k = true := by
  unfold okFrom
  rw [show l.length - k = 0 by omega]
  rfl
theorem okFrom_go (l : List ByteArray) (k : Nat) (h : k < l.length) : okFrom l k = (okAt l k && okFrom l (k + 1)) := by
  unfold okFrom
  rw [show l.length - k = (l.length - (k + 1)) + 1 by omega, List.range'_succ, List.all_cons]
def small (l : List ByteArray) : Bool := l.all fun x => decide (x.size ≤ B62)
theorem small_at (l : List ByteArray) (h : small l = true) (i : Int) (h0 : 0 ≤ i) (h1 : i < l.length) : (at_ l i).size ≤ B62 := by
  have hm : at_ l i ∈ l := by
    unfold at_ rdOf
    rw [List.getD_eq_getElem?_getD, List.getElem?_eq_getElem (show i.toNat < l.length by omega)]
    exact List.getElem_mem _
  exact of_decide_eq_true (List.all_eq_true.1 h _ hm)
def mark_Set.f (l0 : List ByteArray) : Option Bool := if small l0 = true then some (setB l0) else none

theorem name_at (l : List ByteArray) (hs : small l = true) (i : Int) (h0 : 0 ≤ i) (h1 : i < l.length) (b : Bool) (hb : nameB (at_ l i) = b) (w : World) :
    Calls Try.prog 16 #[.string (at_ l i)] w fun e w' => e = .returned (.bool b) ∧ Below w.heap.size w w' :=
  mark_Name.calls _ _ _ (by unfold mark_Name.f; rw [if_pos (small_at l hs i h0 h1), hb])
set_option maxHeartbeats 2000000 in
set_option maxRecDepth 100000 in
theorem mark_Set.calls (A0 : Option Addr) (c0 : Nat) (l0 : List ByteArray) (r : Bool) (w : World) (hr0 : Kd.C Kd.string w A0 l0.length l0) (hc0 : l0.length ≤ c0) (h : mark_Set.f l0 = some r) :
    Calls Try.prog 23 #[.slice A0 l0.length c0] w fun e w' => e = .returned (.bool r) ∧ Below w.heap.size w w' := by
  unfold mark_Set.f at h
  cases hs : small l0 with
  | false => rw [hs] at h; cases h
  | true =>
  rw [hs, if_pos rfl] at h
  have HS := Side.mk hs
  clear hs
  have hr := Side.mk (Option.some.inj h)
  clear h
  have hm : l0.length ≤ 9223372036854775807 := hr0.2.1
  have HR := Side.mk hr0
  clear hr0
  go_enter Try.func23, Try.ntmps23
  go_wp2
  go_loopg [7] l0.length (fun g v w' => ∃ k : Nat, v = .int .i64 k ∧ Side (okFrom l0 k = okFrom l0 0) ∧ Side (g + k = l0.length) ∧ Side (Below w.heap.size w w'))
  case atStart => exact ⟨0, rfl, ⟨rfl⟩, ⟨by omega⟩, ⟨Below.refl _ _⟩⟩
  case round =>
    obtain ⟨k, rfl, hf, hg, HB⟩ := hrel
    have HRk := Side.mk (Kd.C_below HR.out HB.out)
    by_cases hlt : k < l0.length
    · have hlt' : (k : Int) < (l0.length : Int) := by omega
      obtain ⟨ad, rfl, hx⟩ := Kd.at_string HRk.out (k : Int) (by omega) hlt'
      have hx' : wr.cell? (ad.add k) = some (.string (at_ l0 (k : Int))) := by simpa [at_] using hx
      clear hx
      rw [okFrom_go l0 k hlt] at hf
      obtain ⟨q, hq⟩ : ∃ q, nameB (at_ l0 (k : Int)) = q := ⟨_, rfl⟩
      have hn := Side.mk (fun W => name_at l0 HS.out (k : Int) (by omega) hlt' q hq W)
      have HQ := Side.mk hq
      clear hq
      cases q with
      | false =>
        have hf2 : Side (okFrom l0 0 = false) := ⟨by rw [← hf.out]; unfold okAt; rw [HQ.out]; rfl⟩
        clear hf
        go_wp2_with (go_at_call 16; refine (hn.out _).mono ?_; rintro e w' ⟨rfl, hb⟩)
        go_ret
        exact ⟨by rw [← hr.out]; unfold setB; rw [hf2.out]; rfl, HB.out.trans (hb.mono HB.out.size)⟩
      | true =>
        by_cases h0 : 0 < k
        · have hk1 : (0 : Int) ≤ (k : Int) - 1 := by omega
          obtain ⟨p, hp⟩ : ∃ p : Nat, k = p + 1 := ⟨k - 1, by omega⟩
          obtain ⟨ad', e', hy⟩ := Kd.at_string HRk.out ((k : Int) - 1) (by omega) (by omega)
          injection e' with e'
          subst e'
          obtain ⟨j, hj⟩ : ∃ j, Op.bytesLess (at_ l0 ((k : Int) - 1)).toList (at_ l0 (k : Int)).toList = j := ⟨_, rfl⟩
          have hok : Side (okAt l0 k = j) := ⟨by unfold okAt; rw [HQ.out, hj, decide_eq_false (by omega)]; rfl⟩
          have hy' : wr.cell? (ad.add (k - 1)) = some (.string (at_ l0 ((k : Int) - 1))) := by
            have e : ((k : Int) - 1).toNat = k - 1 := by omega
            rw [e] at hy
            exact hy
          clear hy
          obtain ⟨x, hxe⟩ : ∃ x, at_ l0 (k : Int) = x := ⟨_, rfl⟩
          obtain ⟨y, hye⟩ : ∃ y, at_ l0 ((k : Int) - 1) = y := ⟨_, rfl⟩
          rw [hxe] at hx' hn hj
          rw [hye] at hy' hj
          clear hxe hye
          have hwk : IntKind.i64.wrap ((k : Int) - 1) = (k : Int) - 1 := by unfold IntKind.wrap; simp [IntKind.bits]; omega
          clear hp
          cases j with
          | false =>
            have hf2 : Side (okFrom l0 0 = false) := ⟨by rw [← hf.out, hok.out]; rfl⟩
            clear hf
            go_wp2_with (go_at_call 16; refine (hn.out _).mono ?_; rintro e w' ⟨rfl, hb⟩; have hy2 := (hb.cell (World.block_lt_of_cell? _ _ hy')).trans hy')
            go_ret
            exact ⟨by rw [← hr.out]; unfold setB; rw [hf2.out]; rfl, HB.out.trans (hb.mono HB.out.size)⟩
          | true =>
            have hf2 : Side (okFrom l0 (k + 1) = okFrom l0 0) := ⟨by rw [← hf.out, hok.out]; rfl⟩
            clear hf
            go_wp2_with (go_at_call 16; refine (hn.out _).mono ?_; rintro e w' ⟨rfl, hb⟩; have hy2 := (hb.cell (World.block_lt_of_cell? _ _ hy')).trans hy')
            go_roundg (gk - 1)
            case measure => have := hg.out; omega
            case rel => exact ⟨k + 1, by go_num, hf2, ⟨by have := hg.out; omega⟩, ⟨HB.out.trans (hb.mono HB.out.size)⟩⟩
        · have hk0 : k = 0 := by omega
          have hok : Side (okAt l0 k = true) := ⟨by unfold okAt; rw [HQ.out, decide_eq_true (by omega)]; rfl⟩
          have hf2 : Side (okFrom l0 (k + 1) = okFrom l0 0) := ⟨by rw [← hf.out, hok.out]; rfl⟩
          clear hf hk0
          go_wp2_with (go_at_call 16; refine (hn.out _).mono ?_; rintro e w' ⟨rfl, hb⟩)
          go_roundg (gk - 1)
          case measure => have := hg.out; omega
          case rel => exact ⟨k + 1, by go_num, hf2, ⟨by have := hg.out; omega⟩, ⟨HB.out.trans (hb.mono HB.out.size)⟩⟩
    · have hf2 : Side (okFrom l0 0 = true) := ⟨by rw [← hf.out, okFrom_end l0 k hlt]⟩
      have hd : Side (decide ((l0.length : Int) ≤ 4) = decide (l0.length ≤ 4)) := ⟨by rw [Bool.eq_iff_iff]; simp; omega⟩
      clear hf
      go_wp2
      go_ret
      exact ⟨by rw [← hr.out]; unfold setB; rw [hf2.out, ← hd.out]; rfl, HB.out⟩

end Go.Proofs.Ytocndmgimcmfaaa.Base
