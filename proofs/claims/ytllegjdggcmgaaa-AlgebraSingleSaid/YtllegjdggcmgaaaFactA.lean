/- Facts of the whole program that look at the dump's head. Conditions: none. -/
import Derived.Test.YtllegjdggcmgaaaRows
import Derived.KernelRfl
import Derived.JoinedOf
/- Facts of the whole program that look at the dump's head. Conditions: none. -/
namespace Go.Proofs.Ytllegjdggcmgaaa
open Go
theorem words_one : ∀ {w r : List Char}, (∀ c ∈ w, c ≠ Char.ofNat 32) → wordsSigns (w ++ Char.ofNat 32 :: r) = w :: wordsSigns r
  | [], r, _ => by rw [List.nil_append, wordsSigns]
  | c :: w, r, h => by
    have ih := words_one (w := w) (r := r) (fun x hx => h x (List.mem_cons_of_mem _ hx))
    have hc := h c (List.mem_cons_self ..)
    rw [List.cons_append, wordsSigns]
    · rw [ih]
    · exact hc
def headA : List Char := List.map Char.ofNat [104, 97, 114, 110, 101, 115, 115]
def headB : List Char := List.map Char.ofNat [102, 53, 102, 97, 99, 101, 100, 48, 100, 56, 54, 49, 100, 102, 50, 98, 54, 52, 57, 54, 48, 55, 53, 48, 97, 102, 49, 102, 49, 51, 57, 52, 51, 55, 102, 56, 52, 99, 102, 51, 97, 98, 53, 52, 48, 56, 99, 102, 48, 51, 50, 51, 102, 52, 100, 57, 99, 101, 52, 102, 49, 98, 102, 55]
def headC : List Char := List.map Char.ofNat [99, 117, 116]
def headT : List Char := List.map Char.ofNat [97, 116, 32, 102, 97, 117, 108, 116, 108, 105, 110, 101, 47, 102, 97, 117, 108, 116, 108, 105, 110, 101, 108, 97, 119, 49, 54, 46, 65, 108, 103, 101, 98, 114, 97, 83, 105, 110, 103, 108, 101, 32, 102, 97, 117, 108, 116, 108, 105, 110, 101, 47, 102, 97, 117, 108, 116, 108, 105, 110, 101, 108, 97, 119, 49, 54, 46, 65, 108, 103, 101, 98, 114, 97, 76, 97, 119, 115, 32, 102, 97, 117, 108, 116, 108, 105, 110, 101, 47, 102, 97, 117, 108, 116, 108, 105, 110, 101, 108, 97, 119, 49, 54, 46, 65, 108, 103, 101, 98, 114, 97, 80, 97, 105, 114, 115, 32, 102, 97, 117, 108, 116, 108, 105, 110, 101, 47, 102, 97, 117, 108, 116, 108, 105, 110, 101, 108, 97, 119, 49, 54, 46, 65, 108, 103, 101, 98, 114, 97, 67, 111, 117, 110, 116, 115, 32, 102, 97, 117, 108, 116, 108, 105, 110, 101, 47, 102, 97, 117, 108, 116, 108, 105, 110, 101, 108, 97, 119, 49, 54, 46, 65, 108, 103, 101, 98, 114, 97, 67, 104, 111, 111, 115, 101, 115, 32, 102, 97, 117, 108, 116, 108, 105, 110, 101, 47, 102, 97, 117, 108, 116, 108, 105, 110, 101, 108, 97, 119, 49, 54, 46, 65, 108, 103, 101, 98, 114, 97, 86, 97, 108, 117, 101, 115, 32, 102, 97, 117, 108, 116, 108, 105, 110, 101, 47, 102, 97, 117, 108, 116, 108, 105, 110, 101, 108, 97, 119, 49, 54, 46, 65, 108, 103, 101, 98, 114, 97, 82, 101, 115, 116, 114, 105, 99, 116, 115, 32, 102, 97, 117, 108, 116, 108, 105, 110, 101, 47, 102, 97, 117, 108, 116, 108, 105, 110, 101, 108, 97, 119, 49, 54, 46, 65, 108, 103, 101, 98, 114, 97, 69, 120, 112, 97, 110, 100, 115, 32, 102, 97, 117, 108, 116, 108, 105, 110, 101, 47, 102, 97, 117, 108, 116, 108, 105, 110, 101, 108, 97, 119, 49, 53, 46, 68, 105, 97, 103, 114, 97, 109, 67, 104, 101, 99, 107, 115, 32, 102, 97, 117, 108, 116, 108, 105, 110, 101, 47, 102, 97, 117, 108, 116, 108, 105, 110, 101, 108, 97, 119, 49, 53, 46, 68, 105, 97, 103, 114, 97, 109, 66, 117, 105, 108, 100, 115, 32, 102, 97, 117, 108, 116, 108, 105, 110, 101, 47, 102, 97, 117, 108, 116, 108, 105, 110, 101, 108, 97, 119, 49, 53, 46, 68, 105, 97, 103, 114, 97, 109, 66, 97, 115, 105, 99, 115, 32, 102, 97, 117, 108, 116, 108, 105, 110, 101, 47, 102, 97, 117, 108, 116, 108, 105, 110, 101, 108, 97, 119, 49, 53, 46, 68, 105, 97, 103, 114, 97, 109, 82, 101, 97, 100, 115, 32, 102, 97, 117, 108, 116, 108, 105, 110, 101, 47, 102, 97, 117, 108, 116, 108, 105, 110, 101, 108, 97, 119, 49, 53, 46, 68, 105, 97, 103, 114, 97, 109, 67, 117, 98, 101, 115, 32, 102, 97, 117, 108, 116, 108, 105, 110, 101, 47, 102, 97, 117, 108, 116, 108, 105, 110, 101, 108, 97, 119, 49, 53, 46, 68, 105, 97, 103, 114, 97, 109, 86, 97, 108, 117, 101, 115, 32, 102, 97, 117, 108, 116, 108, 105, 110, 101, 47, 102, 97, 117, 108, 116, 108, 105, 110, 101, 108, 97, 119, 49, 53, 46, 68, 105, 97, 103, 114, 97, 109, 69, 113, 117, 97, 108, 32, 102, 97, 117, 108, 116, 108, 105, 110, 101, 47, 102, 97, 117, 108, 116, 108, 105, 110, 101, 108, 97, 119, 49, 53, 46, 68, 105, 97, 103, 114, 97, 109, 68, 101, 112, 101, 110, 100, 115, 32, 102, 97, 117, 108, 116, 108, 105, 110, 101, 47, 102, 97, 117, 108, 116, 108, 105, 110, 101, 108, 97, 119, 49, 55, 46, 83, 105, 102, 116, 105, 110, 103, 83, 105, 102, 116, 115, 32, 102, 97, 117, 108, 116, 108, 105, 110, 101, 47, 102, 97, 117, 108, 116, 108, 105, 110, 101, 108, 97, 119, 49, 55, 46, 83, 105, 102, 116, 105, 110, 103, 66, 101, 115, 116, 32, 102, 97, 117, 108, 116, 108, 105, 110, 101, 47, 102, 97, 117, 108, 116, 108, 105, 110, 101, 108, 97, 119, 49, 55, 46, 83, 105, 102, 116, 105, 110, 103, 82, 101, 111, 114, 100, 101, 114, 115, 32, 102, 97, 117, 108, 116, 108, 105, 110, 101, 47, 102, 97, 117, 108, 116, 108, 105, 110, 101, 108, 97, 119, 49, 55, 46, 83, 105, 102, 116, 105, 110, 103, 76, 101, 115, 115, 32, 102, 97, 117, 108, 116, 108, 105, 110, 101, 47, 102, 97, 117, 108, 116, 108, 105, 110, 101, 108, 97, 119, 49, 52, 46, 79, 114, 100, 101, 114, 77, 101, 116, 114, 105, 99, 32, 102, 97, 117, 108, 116, 108, 105, 110, 101, 47, 102, 97, 117, 108, 116, 108, 105, 110, 101, 108, 97, 119, 49, 52, 46, 79, 114, 100, 101, 114, 67, 104, 101, 99, 107, 115, 32, 102, 97, 117, 108, 116, 108, 105, 110, 101, 47, 102, 97, 117, 108, 116, 108, 105, 110, 101, 108, 97, 119, 49, 52, 46, 79, 114, 100, 101, 114, 73, 110, 118, 101, 114, 116, 115, 32, 102, 97, 117, 108, 116, 108, 105, 110, 101, 47, 102, 97, 117, 108, 116, 108, 105, 110, 101, 108, 97, 119, 49, 52, 46, 79, 114, 100, 101, 114, 69, 120, 99, 104, 97, 110, 103, 101, 115, 32, 102, 97, 117, 108, 116, 108, 105, 110, 101, 47, 102, 97, 117, 108, 116, 108, 105, 110, 101, 108, 97, 119, 49, 52, 46, 79, 114, 100, 101, 114, 80, 97, 105, 114, 115, 32, 102, 97, 117, 108, 116, 108, 105, 110, 101, 47, 102, 97, 117, 108, 116, 108, 105, 110, 101, 108, 97, 119, 49, 55, 46, 83, 105, 102, 116, 105, 110, 103, 77, 111, 118, 101, 115, 32, 102, 97, 117, 108, 116, 108, 105, 110, 101, 47, 102, 97, 117, 108, 116, 108, 105, 110, 101, 108, 97, 119, 49, 55, 46, 83, 105, 102, 116, 105, 110, 103, 66, 97, 99, 107, 32, 102, 97, 117, 108, 116, 108, 105, 110, 101, 47, 102, 97, 117, 108, 116, 108, 105, 110, 101, 108, 97, 119, 49, 55, 46, 83, 105, 102, 116, 105, 110, 103, 75, 101, 101, 112, 115, 32, 102, 97, 117, 108, 116, 108, 105, 110, 101, 47, 102, 97, 117, 108, 116, 108, 105, 110, 101, 108, 97, 119, 49, 52, 46, 79, 114, 100, 101, 114, 82, 101, 116, 117, 114, 110, 115, 32, 102, 97, 117, 108, 116, 108, 105, 110, 101, 47, 102, 97, 117, 108, 116, 108, 105, 110, 101, 108, 97, 119, 49, 55, 46, 83, 105, 102, 116, 105, 110, 103, 66, 117, 105, 108, 100, 115]
theorem head_eq : Try.prog.initOrder = String.ofList (headA ++ Char.ofNat 32 :: (headB ++ Char.ofNat 32 :: (headC ++ Char.ofNat 32 :: headT))) := by kernel_rfl
theorem head_list : Try.prog.initOrder.toList = headA ++ Char.ofNat 32 :: (headB ++ Char.ofNat 32 :: (headC ++ Char.ofNat 32 :: headT)) := by rw [head_eq]; exact String.toList_ofList
theorem head_words : behindMainWord (wordsSigns Try.prog.initOrder.toList) = headC :: wordsSigns headT := by
  rw [head_list, words_one (by decide), words_one (by decide), words_one (by decide)]
  generalize wordsSigns headT = T
  kernel_rfl
theorem may_of {P : Program} {c : List Char} {rest : List (List Char)} (h : behindMainWord (wordsSigns P.initOrder.toList) = c :: rest) (h1 : stripLifts liftWords (c :: rest) = ([], c :: rest)) (h2 : P.laysLater = false) (h3 : P.bearsReflect = false) (h4 : P.doorFits [] = true)
    (h5 : c = "cut".toList) : P.mayEnter = true := by
  unfold Program.mayEnter
  rw [h]
  dsimp only
  rw [h1, h2, h3]
  dsimp only
  rw [h4, h5]
  simp
theorem make_of {P : Program} {c : List Char} {rest : List (List Char)} (h : behindMainWord (wordsSigns P.initOrder.toList) = c :: rest) (h1 : (c == "gc".toList) = false) (h2 : (c == "spec".toList) = false) (h3 : (c == "cut".toList) = true) : P.make = some Make.cut := by
  unfold Program.make
  rw [h]
  dsimp only
  rw [h1, h2, h3]
  rfl
theorem strip_eq (T : List (List Char)) : stripLifts liftWords (headC :: T) = ([], headC :: T) := by kernel_rfl
theorem later_eq : Try.prog.laysLater = false := by kernel_rfl
theorem bears_eq : Try.prog.bearsReflect = false := by kernel_rfl
theorem door_eq : Try.prog.doorFits [] = true := by kernel_rfl
theorem gc_eq : (headC == "gc".toList) = false := by kernel_rfl
theorem spec_eq : (headC == "spec".toList) = false := by kernel_rfl
theorem cut_eq : (headC == "cut".toList) = true := by kernel_rfl
theorem fact_may : Try.prog.mayEnter = true := may_of head_words (strip_eq _) later_eq bears_eq door_eq (by kernel_rfl)
theorem fact_lift : (Rows.algebraSingleRow.lifted == Try.prog.liftsFinal) = true := by
  unfold Program.liftsFinal Program.headLifts
  rw [head_words]
  generalize wordsSigns headT = T
  kernel_rfl
theorem make_is : Try.prog.make = some Make.cut := make_of head_words gc_eq spec_eq cut_eq
theorem row_make : (some Make.cut == some Rows.algebraSingleRow.make) = true := by kernel_rfl
theorem fact_make : (Try.prog.make == some Rows.algebraSingleRow.make) = true := by rw [make_is]; exact row_make
end Go.Proofs.Ytllegjdggcmgaaa
