import Derived.Test.YtnpkeganpkobjaaGreatDoorRows
import Derived.JoinedOf
import Derived.KernelRfl
set_option linter.all false
namespace Go.Proofs.YtnpkeganpkobjaaGreatDoor.Hd
open Go
noncomputable section
def ch (l : List Nat) : List Char := l.map Char.ofNat
def rest : List (List Char) := [ch [99, 117, 116], ch [97, 116], ch [116, 117, 114, 110, 99, 111, 99, 107, 47, 116, 117, 114, 110, 99, 111, 99, 107, 116, 111, 112, 46, 84, 111, 112, 76, 111, 110, 103], ch [116, 117, 114, 110, 99, 111, 99, 107, 47, 116, 117, 114, 110, 99, 111, 99, 107, 116, 111, 112, 46, 84, 111, 112, 76, 105, 109, 105, 116], ch [116, 117, 114, 110, 99, 111, 99, 107, 47, 116, 117, 114, 110, 99, 111, 99, 107, 116, 111, 112, 46, 84, 111, 112, 87, 105, 110, 100, 111, 119, 115], ch [116, 117, 114, 110, 99, 111, 99, 107, 47, 116, 117, 114, 110, 99, 111, 99, 107, 116, 111, 112, 46, 84, 111, 112, 80, 97, 114, 116, 115]]
def signs : List Char := [Char.ofNat 104, Char.ofNat 97, Char.ofNat 114, Char.ofNat 110, Char.ofNat 101, Char.ofNat 115, Char.ofNat 115, Char.ofNat 32, Char.ofNat 54, Char.ofNat 101, Char.ofNat 98, Char.ofNat 98, Char.ofNat 56, Char.ofNat 49, Char.ofNat 99, Char.ofNat 55, Char.ofNat 101, Char.ofNat 53, Char.ofNat 99, Char.ofNat 57, Char.ofNat 53, Char.ofNat 48, Char.ofNat 97, Char.ofNat 102, Char.ofNat 97, Char.ofNat 52, Char.ofNat 52, Char.ofNat 48, Char.ofNat 97, Char.ofNat 54, Char.ofNat 102, Char.ofNat 57, Char.ofNat 99, Char.ofNat 99, Char.ofNat 57, Char.ofNat 98, Char.ofNat 98, Char.ofNat 53, Char.ofNat 53, Char.ofNat 101, Char.ofNat 49, Char.ofNat 98, Char.ofNat 98, Char.ofNat 54, Char.ofNat 49, Char.ofNat 53, Char.ofNat 52, Char.ofNat 97, Char.ofNat 100, Char.ofNat 100, Char.ofNat 57, Char.ofNat 51, Char.ofNat 100, Char.ofNat 48, Char.ofNat 101, Char.ofNat 98, Char.ofNat 53, Char.ofNat 54, Char.ofNat 98, Char.ofNat 97, Char.ofNat 52, Char.ofNat 56, Char.ofNat 51, Char.ofNat 98, Char.ofNat 102, Char.ofNat 99, Char.ofNat 102, Char.ofNat 100, Char.ofNat 99, Char.ofNat 52, Char.ofNat 53, Char.ofNat 97, Char.ofNat 32, Char.ofNat 99, Char.ofNat 117, Char.ofNat 116, Char.ofNat 32, Char.ofNat 97, Char.ofNat 116, Char.ofNat 32, Char.ofNat 116, Char.ofNat 117, Char.ofNat 114, Char.ofNat 110, Char.ofNat 99, Char.ofNat 111, Char.ofNat 99, Char.ofNat 107, Char.ofNat 47, Char.ofNat 116, Char.ofNat 117, Char.ofNat 114, Char.ofNat 110, Char.ofNat 99, Char.ofNat 111, Char.ofNat 99, Char.ofNat 107, Char.ofNat 116, Char.ofNat 111, Char.ofNat 112, Char.ofNat 46, Char.ofNat 84, Char.ofNat 111, Char.ofNat 112, Char.ofNat 76, Char.ofNat 111, Char.ofNat 110, Char.ofNat 103, Char.ofNat 32, Char.ofNat 116, Char.ofNat 117, Char.ofNat 114, Char.ofNat 110, Char.ofNat 99, Char.ofNat 111, Char.ofNat 99, Char.ofNat 107, Char.ofNat 47, Char.ofNat 116, Char.ofNat 117, Char.ofNat 114, Char.ofNat 110, Char.ofNat 99, Char.ofNat 111, Char.ofNat 99, Char.ofNat 107, Char.ofNat 116, Char.ofNat 111, Char.ofNat 112, Char.ofNat 46, Char.ofNat 84, Char.ofNat 111, Char.ofNat 112, Char.ofNat 76, Char.ofNat 105, Char.ofNat 109, Char.ofNat 105, Char.ofNat 116, Char.ofNat 32, Char.ofNat 116, Char.ofNat 117, Char.ofNat 114, Char.ofNat 110, Char.ofNat 99, Char.ofNat 111, Char.ofNat 99, Char.ofNat 107, Char.ofNat 47, Char.ofNat 116, Char.ofNat 117, Char.ofNat 114, Char.ofNat 110, Char.ofNat 99, Char.ofNat 111, Char.ofNat 99, Char.ofNat 107, Char.ofNat 116, Char.ofNat 111, Char.ofNat 112, Char.ofNat 46, Char.ofNat 84, Char.ofNat 111, Char.ofNat 112, Char.ofNat 87, Char.ofNat 105, Char.ofNat 110, Char.ofNat 100, Char.ofNat 111, Char.ofNat 119, Char.ofNat 115, Char.ofNat 32, Char.ofNat 116, Char.ofNat 117, Char.ofNat 114, Char.ofNat 110, Char.ofNat 99, Char.ofNat 111, Char.ofNat 99, Char.ofNat 107, Char.ofNat 47, Char.ofNat 116, Char.ofNat 117, Char.ofNat 114, Char.ofNat 110, Char.ofNat 99, Char.ofNat 111, Char.ofNat 99, Char.ofNat 107, Char.ofNat 116, Char.ofNat 111, Char.ofNat 112, Char.ofNat 46, Char.ofNat 84, Char.ofNat 111, Char.ofNat 112, Char.ofNat 80, Char.ofNat 97, Char.ofNat 114, Char.ofNat 116, Char.ofNat 115]
set_option maxRecDepth 100000 in
theorem order : Tryz.prog.initOrder = "harness 6ebb81c7e5c950afa440a6f9cc9bb55e1bb6154add93d0eb56ba483bfcfdc45a cut at turncock/turncocktop.TopLong turncock/turncocktop.TopLimit turncock/turncocktop.TopWindows turncock/turncocktop.TopParts" := by kernel_rfl
set_option maxRecDepth 100000 in
theorem lit : "harness 6ebb81c7e5c950afa440a6f9cc9bb55e1bb6154add93d0eb56ba483bfcfdc45a cut at turncock/turncocktop.TopLong turncock/turncocktop.TopLimit turncock/turncocktop.TopWindows turncock/turncocktop.TopParts" = String.ofList [Char.ofNat 104, Char.ofNat 97, Char.ofNat 114, Char.ofNat 110, Char.ofNat 101, Char.ofNat 115, Char.ofNat 115, Char.ofNat 32, Char.ofNat 54, Char.ofNat 101, Char.ofNat 98, Char.ofNat 98, Char.ofNat 56, Char.ofNat 49, Char.ofNat 99, Char.ofNat 55, Char.ofNat 101, Char.ofNat 53, Char.ofNat 99, Char.ofNat 57, Char.ofNat 53, Char.ofNat 48, Char.ofNat 97, Char.ofNat 102, Char.ofNat 97, Char.ofNat 52, Char.ofNat 52, Char.ofNat 48, Char.ofNat 97, Char.ofNat 54, Char.ofNat 102, Char.ofNat 57, Char.ofNat 99, Char.ofNat 99, Char.ofNat 57, Char.ofNat 98, Char.ofNat 98, Char.ofNat 53, Char.ofNat 53, Char.ofNat 101, Char.ofNat 49, Char.ofNat 98, Char.ofNat 98, Char.ofNat 54, Char.ofNat 49, Char.ofNat 53, Char.ofNat 52, Char.ofNat 97, Char.ofNat 100, Char.ofNat 100, Char.ofNat 57, Char.ofNat 51, Char.ofNat 100, Char.ofNat 48, Char.ofNat 101, Char.ofNat 98, Char.ofNat 53, Char.ofNat 54, Char.ofNat 98, Char.ofNat 97, Char.ofNat 52, Char.ofNat 56, Char.ofNat 51, Char.ofNat 98, Char.ofNat 102, Char.ofNat 99, Char.ofNat 102, Char.ofNat 100, Char.ofNat 99, Char.ofNat 52, Char.ofNat 53, Char.ofNat 97, Char.ofNat 32, Char.ofNat 99, Char.ofNat 117, Char.ofNat 116, Char.ofNat 32, Char.ofNat 97, Char.ofNat 116, Char.ofNat 32, Char.ofNat 116, Char.ofNat 117, Char.ofNat 114, Char.ofNat 110, Char.ofNat 99, Char.ofNat 111, Char.ofNat 99, Char.ofNat 107, Char.ofNat 47, Char.ofNat 116, Char.ofNat 117, Char.ofNat 114, Char.ofNat 110, Char.ofNat 99, Char.ofNat 111, Char.ofNat 99, Char.ofNat 107, Char.ofNat 116, Char.ofNat 111, Char.ofNat 112, Char.ofNat 46, Char.ofNat 84, Char.ofNat 111, Char.ofNat 112, Char.ofNat 76, Char.ofNat 111, Char.ofNat 110, Char.ofNat 103, Char.ofNat 32, Char.ofNat 116, Char.ofNat 117, Char.ofNat 114, Char.ofNat 110, Char.ofNat 99, Char.ofNat 111, Char.ofNat 99, Char.ofNat 107, Char.ofNat 47, Char.ofNat 116, Char.ofNat 117, Char.ofNat 114, Char.ofNat 110, Char.ofNat 99, Char.ofNat 111, Char.ofNat 99, Char.ofNat 107, Char.ofNat 116, Char.ofNat 111, Char.ofNat 112, Char.ofNat 46, Char.ofNat 84, Char.ofNat 111, Char.ofNat 112, Char.ofNat 76, Char.ofNat 105, Char.ofNat 109, Char.ofNat 105, Char.ofNat 116, Char.ofNat 32, Char.ofNat 116, Char.ofNat 117, Char.ofNat 114, Char.ofNat 110, Char.ofNat 99, Char.ofNat 111, Char.ofNat 99, Char.ofNat 107, Char.ofNat 47, Char.ofNat 116, Char.ofNat 117, Char.ofNat 114, Char.ofNat 110, Char.ofNat 99, Char.ofNat 111, Char.ofNat 99, Char.ofNat 107, Char.ofNat 116, Char.ofNat 111, Char.ofNat 112, Char.ofNat 46, Char.ofNat 84, Char.ofNat 111, Char.ofNat 112, Char.ofNat 87, Char.ofNat 105, Char.ofNat 110, Char.ofNat 100, Char.ofNat 111, Char.ofNat 119, Char.ofNat 115, Char.ofNat 32, Char.ofNat 116, Char.ofNat 117, Char.ofNat 114, Char.ofNat 110, Char.ofNat 99, Char.ofNat 111, Char.ofNat 99, Char.ofNat 107, Char.ofNat 47, Char.ofNat 116, Char.ofNat 117, Char.ofNat 114, Char.ofNat 110, Char.ofNat 99, Char.ofNat 111, Char.ofNat 99, Char.ofNat 107, Char.ofNat 116, Char.ofNat 111, Char.ofNat 112, Char.ofNat 46, Char.ofNat 84, Char.ofNat 111, Char.ofNat 112, Char.ofNat 80, Char.ofNat 97, Char.ofNat 114, Char.ofNat 116, Char.ofNat 115] := by kernel_rfl
set_option maxRecDepth 100000 in
theorem lit2 : "harness 6ebb81c7e5c950afa440a6f9cc9bb55e1bb6154add93d0eb56ba483bfcfdc45a cut at turncock/turncocktop.TopLong turncock/turncocktop.TopLimit turncock/turncocktop.TopWindows turncock/turncocktop.TopParts" = String.ofList signs := lit
theorem words0 : behindMainWord (wordsSigns signs) = rest := by kernel_rfl
theorem words : behindMainWord (wordsSigns Tryz.prog.initOrder.toList) = rest := by rw [order, lit2, String.toList_ofList]; exact words0
theorem strip (rest : List (List Char)) : stripLifts liftWords ("cut".toList :: rest) = ([], "cut".toList :: rest) := by kernel_rfl
theorem make_of (P : Program) (rest : List (List Char)) (h : behindMainWord (wordsSigns P.initOrder.toList) = "cut".toList :: rest) : P.make = some .cut := by
  unfold Program.make
  rw [h]
  simp
theorem lifts_of (P : Program) (rest : List (List Char)) (h : behindMainWord (wordsSigns P.initOrder.toList) = "cut".toList :: rest) : P.liftsFinal = false := by
  unfold Program.liftsFinal Program.headLifts
  simp only [h, strip]
  simp
theorem enter_of (P : Program) (rest : List (List Char)) (h : behindMainWord (wordsSigns P.initOrder.toList) = "cut".toList :: rest) (h1 : P.laysLater = false) (h2 : P.bearsReflect = false) (h3 : P.doorFits [] = true) : P.mayEnter = true := by
  unfold Program.mayEnter
  rw [h]
  simp only [strip, h1, h2, h3]
  simp
theorem words2 : behindMainWord (wordsSigns Tryz.prog.initOrder.toList) = "cut".toList :: rest.tail := words.trans (by kernel_rfl)
theorem lays : Tryz.prog.laysLater = false := by kernel_rfl
theorem bears : Tryz.prog.bearsReflect = false := by kernel_rfl
theorem door : Tryz.prog.doorFits [] = true := by kernel_rfl
theorem mayEnter : Tryz.pinned.checked.prog.mayEnter = true := enter_of Tryz.prog _ words2 lays bears door
theorem liftsFinal : Tryz.pinned.checked.prog.liftsFinal = false := lifts_of Tryz.prog _ words2
theorem make : Tryz.pinned.checked.prog.make = some .cut := make_of Tryz.prog _ words2
end
end Go.Proofs.YtnpkeganpkobjaaGreatDoor.Hd
namespace Go.Proofs.YtnpkeganpkobjaaGreatDoor.topLimit
open Go
noncomputable section
abbrev P : Program := Tryz.pinned.checked.prog
abbrev fn : Func := Tryz.f4
abbrev f : Nat := 4
abbrev s : ChangeSpec := Rows.topLimitSpec
abbrev c : OpenClaim := Rows.topLimitRow
end
end Go.Proofs.YtnpkeganpkobjaaGreatDoor.topLimit
