/- wires.None, and the opening of a message, in the form of a decoder's walk. -/
import Derived.Test.YtnhblhhkjnmkkaaRd
import Derived.Test.YtnhblhhkjnmkkaaBk
import Derived.Defers
import Derived.RegionTactic
import Derived.ChangeAlike
namespace Go.Proofs.Ytnhblhhkjnmkkaa.Q
open Go.RowKit Go.Proofs.YtnhblhhkjnmkkaaW.PrintWords Go.Proofs.YtnhblhhkjnmkkaaW.PrintLast Go.Proofs.YtnhblhhkjnmkkaaW.PrintMore
open Go.Proofs.Ytnhblhhkjnmkkaa.Sp Go.Proofs.Ytnhblhhkjnmkkaa.Va
set_option linter.unusedVariables false
set_option linter.unusedSimpArgs false
theorem none_nil (W : World) : Calls Try.prog 107 #[.nilIface] W fun e w' => e = .returned (.bool false) ∧ W = w' := by
  go_enter Try.func107, Try.ntmps107
  go_wp2
  go_ret
  exact ⟨rfl, rfl⟩
theorem none_gave (W : World) : Calls Try.prog 107 #[.iface 163 (.agg #[])] W fun e w' => e = .returned (.bool true) ∧ Below W.heap.size W w' := by
  have hta : ∀ (W : World), (Instr.typeAssert (.iface 163 (.agg #[])) 20 163 true).run Try.prog W = .ok (.tuple #[.agg #[], .bool true]) W := fun W => by kernel_rfl
  go_enter Try.func107, Try.ntmps107
  go_wp2
  go_ret
  exact ⟨rfl, below_alloc (Below.refl _ _) _⟩
theorem open_calls (W0 : World) (A : Option Addr) (c : Nat) (kind : Int) (l : List Int) (W : World) (hC0 : Kd.C (Kd.int .u8) W0 A l.length l) (hc : l.length ≤ c) (hb : Below W0.heap.size W0 W) :
    Calls Try.prog 108 #[.slice A l.length c, .int .u8 kind] W fun e w' =>
      match ropen kind l with
      | some t => e = .returned (.pointer (some ⟨W.heap.size, 0, none⟩)) ∧ Rat W0 w' W.heap.size t ∧ KeepBut W w' W.heap.size none
      | none => e = .panicked [gaveUp] ∧ Below W.heap.size W w' := by
  cases l with
  | nil => exact open_nil A c kind W
  | cons b t =>
    by_cases h : b = kind
    · subst h
      simp only [ropen, if_pos]
      exact open_yes W0 A c b t W hC0 hc hb
    · simp only [ropen, if_neg h]
      exact open_other A c b kind t W (Kd.C_below hC0 hb) h
end Go.Proofs.Ytnhblhhkjnmkkaa.Q
