/- Facts of the whole program that look at the dump's head. Conditions: none. -/
import Derived.Test.YtnjgdkfhgmebjaaGreatRows
import Derived.KernelRfl
import Derived.JoinedOf
/- Facts of the whole program that look at the dump's head. Conditions: none. -/
namespace Go.Proofs.YtnjgdkfhgmebjaaGreat
open Go
theorem words_one : ∀ {w r : List Char}, (∀ c ∈ w, c ≠ Char.ofNat 32) → wordsSigns (w ++ Char.ofNat 32 :: r) = w :: wordsSigns r
  | [], r, _ => by rw [List.nil_append, wordsSigns]
  | c :: w, r, h => by
    have ih := words_one (w := w) (r := r) (fun x hx => h x (List.mem_cons_of_mem _ hx))
    have hc := h c (List.mem_cons_self ..)
    rw [List.cons_append, wordsSigns]
    · rw [ih]
    · exact hc
def headA : List Char := List.map Char.ofNat [104, 97, 114, 110, 101, 115, 115]
def headB : List Char := List.map Char.ofNat [54, 101, 56, 57, 56, 98, 49, 55, 48, 52, 101, 49, 50, 53, 54, 100, 57, 48, 102, 51, 97, 53, 50, 97, 57, 57, 52, 48, 97, 51, 51, 50, 50, 48, 52, 50, 100, 49, 102, 102, 53, 98, 102, 48, 102, 56, 52, 48, 50, 53, 102, 99, 53, 48, 55, 98, 56, 52, 101, 51, 53, 102, 52, 51]
def headC : List Char := List.map Char.ofNat [99, 117, 116]
def headT : List Char := List.map Char.ofNat [97, 116, 32, 102, 97, 117, 108, 116, 108, 105, 110, 101, 47, 102, 97, 117, 108, 116, 108, 105, 110, 101, 108, 97, 119, 52, 53, 46, 67, 111, 109, 109, 111, 110, 69, 120, 112, 97, 110, 100, 115, 32, 102, 97, 117, 108, 116, 108, 105, 110, 101, 47, 102, 97, 117, 108, 116, 108, 105, 110, 101, 108, 97, 119, 52, 53, 46, 67, 111, 109, 109, 111, 110, 83, 116, 114, 105, 107, 101, 115, 32, 102, 97, 117, 108, 116, 108, 105, 110, 101, 47, 102, 97, 117, 108, 116, 108, 105, 110, 101, 108, 97, 119, 52, 55, 46, 77, 105, 115, 115, 105, 111, 110, 69, 110, 117, 109, 101, 114, 97, 116, 101, 115, 32, 102, 97, 117, 108, 116, 108, 105, 110, 101, 47, 102, 97, 117, 108, 116, 108, 105, 110, 101, 108, 97, 119, 52, 55, 46, 77, 105, 115, 115, 105, 111, 110, 70, 97, 105, 108, 115, 32, 102, 97, 117, 108, 116, 108, 105, 110, 101, 47, 102, 97, 117, 108, 116, 108, 105, 110, 101, 108, 97, 119, 52, 55, 46, 77, 105, 115, 115, 105, 111, 110, 87, 111, 114, 116, 104, 32, 102, 97, 117, 108, 116, 108, 105, 110, 101, 47, 102, 97, 117, 108, 116, 108, 105, 110, 101, 108, 97, 119, 52, 55, 46, 77, 105, 115, 115, 105, 111, 110, 80, 104, 97, 115, 101, 32, 102, 97, 117, 108, 116, 108, 105, 110, 101, 47, 102, 97, 117, 108, 116, 108, 105, 110, 101, 108, 97, 119, 52, 55, 46, 77, 105, 115, 115, 105, 111, 110, 70, 105, 114, 115, 116, 32, 102, 97, 117, 108, 116, 108, 105, 110, 101, 47, 102, 97, 117, 108, 116, 108, 105, 110, 101, 108, 97, 119, 52, 55, 46, 77, 105, 115, 115, 105, 111, 110, 83, 117, 109, 115, 32, 102, 97, 117, 108, 116, 108, 105, 110, 101, 47, 102, 97, 117, 108, 116, 108, 105, 110, 101, 108, 97, 119, 52, 55, 46, 77, 105, 115, 115, 105, 111, 110, 72, 97, 108, 118, 101, 115, 32, 102, 97, 117, 108, 116, 108, 105, 110, 101, 47, 102, 97, 117, 108, 116, 108, 105, 110, 101, 108, 97, 119, 52, 55, 46, 77, 105, 115, 115, 105, 111, 110, 83, 112, 108, 105, 116, 115, 32, 102, 97, 117, 108, 116, 108, 105, 110, 101, 47, 102, 97, 117, 108, 116, 108, 105, 110, 101, 116, 111, 112, 46, 87, 104, 111, 108, 101, 67, 117, 116, 115]
theorem head_eq : Tryz.prog.initOrder = String.ofList (headA ++ Char.ofNat 32 :: (headB ++ Char.ofNat 32 :: (headC ++ Char.ofNat 32 :: headT))) := by kernel_rfl
theorem head_list : Tryz.prog.initOrder.toList = headA ++ Char.ofNat 32 :: (headB ++ Char.ofNat 32 :: (headC ++ Char.ofNat 32 :: headT)) := by rw [head_eq]; exact String.toList_ofList
theorem head_words : behindMainWord (wordsSigns Tryz.prog.initOrder.toList) = headC :: wordsSigns headT := by
  rw [head_list, words_one (by decide), words_one (by decide), words_one (by decide)]
  generalize wordsSigns headT = T
  kernel_rfl
theorem may_of {P : Program} {c : List Char} {rest : List (List Char)} (h : behindMainWord (wordsSigns P.initOrder.toList) = c :: rest) (h1 : stripLifts liftWords (c :: rest) = ([], c :: rest)) (h2 : P.laysLater = false) (h3 : P.bearsReflect = false) (h4 : P.doorFits [] = true)
    (h5 : c = "cut".toList) : P.mayEnter = true := by
  unfold Program.mayEnter
  rw [h]
  dsimp only
  rw [h1, h2, h3]
  dsimp only
  rw [h4, h5]
  simp
theorem make_of {P : Program} {c : List Char} {rest : List (List Char)} (h : behindMainWord (wordsSigns P.initOrder.toList) = c :: rest) (h1 : (c == "gc".toList) = false) (h2 : (c == "spec".toList) = false) (h3 : (c == "cut".toList) = true) : P.make = some Make.cut := by
  unfold Program.make
  rw [h]
  dsimp only
  rw [h1, h2, h3]
  rfl
theorem strip_eq (T : List (List Char)) : stripLifts liftWords (headC :: T) = ([], headC :: T) := by kernel_rfl
theorem later_eq : Tryz.prog.laysLater = false := by kernel_rfl
theorem bears_eq : Tryz.prog.bearsReflect = false := by kernel_rfl
theorem door_eq : Tryz.prog.doorFits [] = true := by kernel_rfl
theorem gc_eq : (headC == "gc".toList) = false := by kernel_rfl
theorem spec_eq : (headC == "spec".toList) = false := by kernel_rfl
theorem cut_eq : (headC == "cut".toList) = true := by kernel_rfl
theorem fact_may : Tryz.prog.mayEnter = true := may_of head_words (strip_eq _) later_eq bears_eq door_eq (by kernel_rfl)
theorem fact_lift : (Rows.missionEnumeratesRow.lifted == Tryz.prog.liftsFinal) = true := by
  unfold Program.liftsFinal Program.headLifts
  rw [head_words]
  generalize wordsSigns headT = T
  kernel_rfl
theorem make_is : Tryz.prog.make = some Make.cut := make_of head_words gc_eq spec_eq cut_eq
theorem row_make : (some Make.cut == some Rows.missionEnumeratesRow.make) = true := by kernel_rfl
theorem fact_make : (Tryz.prog.make == some Rows.missionEnumeratesRow.make) = true := by rw [make_is]; exact row_make
end Go.Proofs.YtnjgdkfhgmebjaaGreat
