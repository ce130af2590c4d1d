/- A scope that is left forward by a goto to its one label: what is asked at the goto is what is asked of the code behind the label. -/
import Derived.ScopeJumps
import Derived.WalkMore
import Derived.BigFrame
namespace Go.Proofs.Ytciedbaeenhgkaa
open Go

def fwd (l : Nat) (J : Act → World → Prop) (Q : Exit → Act → World → Prop) : Exit → Act → World → Prop
  | .goto l', a, w => l' = l ∧ J a w
  | e, a, w => Q e a w
section
variable {P : Program} {a : Act} {w : World} {Q : Exit → Act → World → Prop} {l : Nat} {J : Act → World → Prop}
theorem fwd_normal : fwd l J Q .normal a w = Q .normal a w := rfl
theorem fwd_ret : fwd l J Q .ret a w = Q .ret a w := rfl
theorem fwd_exit (id : Nat) : fwd l J Q (.exit id) a w = Q (.exit id) a w := rfl
theorem fwd_panic (ch : List PanicEntry) : fwd l J Q (.panic ch) a w = Q (.panic ch) a w := rfl
theorem fwd_here (h : J a w) : fwd l J Q (.goto l) a w := ⟨rfl, h⟩
theorem wp_scope_fwd {c : Code} (l : Nat) {rest : Code} (hf : findLabel c l = some rest)
    (first : c.wp P (fwd l (rest.wp P (fwd l (fun _ _ => False) Q)) Q) a w) : (Code.scope c).wp P Q a w := by
  refine wp_scope_jumps l (rest.wp P (fwd l (fun _ _ => False) Q)) (fun _ _ => 0) hf (wp_mono first ?_) ?_
  · intro e a w h
    cases e <;> exact h
  · intro a w h
    refine wp_mono h ?_
    intro e a w h
    cases e with
    | goto l' => exact ⟨h.1, h.2.elim⟩
    | _ => exact h
end
end Go.Proofs.Ytciedbaeenhgkaa
