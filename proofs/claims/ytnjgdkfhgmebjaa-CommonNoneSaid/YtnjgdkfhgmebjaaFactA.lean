/- Facts of the whole program that look at the dump's head. Conditions: none. -/
import Derived.Test.YtnjgdkfhgmebjaaRows
import Derived.KernelRfl
import Derived.JoinedOf
/- Facts of the whole program that look at the dump's head. Conditions: none. -/
namespace Go.Proofs.Ytnjgdkfhgmebjaa
open Go
theorem words_one : ∀ {w r : List Char}, (∀ c ∈ w, c ≠ Char.ofNat 32) → wordsSigns (w ++ Char.ofNat 32 :: r) = w :: wordsSigns r
  | [], r, _ => by rw [List.nil_append, wordsSigns]
  | c :: w, r, h => by
    have ih := words_one (w := w) (r := r) (fun x hx => h x (List.mem_cons_of_mem _ hx))
    have hc := h c (List.mem_cons_self ..)
    rw [List.cons_append, wordsSigns]
    · rw [ih]
    · exact hc
def headA : List Char := List.map Char.ofNat [104, 97, 114, 110, 101, 115, 115]
def headB : List Char := List.map Char.ofNat [97, 50, 102, 97, 51, 57, 97, 50, 55, 102, 51, 51, 101, 100, 51, 98, 54, 97, 52, 51, 56, 57, 97, 101, 53, 55, 98, 101, 53, 52, 102, 98, 53, 57, 57, 49, 57, 52, 54, 52, 57, 98, 99, 98, 56, 51, 101, 101, 57, 48, 55, 50, 98, 97, 55, 52, 51, 54, 102, 48, 99, 97, 55, 100]
def headC : List Char := List.map Char.ofNat [99, 117, 116]
def headT : List Char := List.map Char.ofNat [97, 116, 32, 102, 97, 117, 108, 116, 108, 105, 110, 101, 47, 102, 97, 117, 108, 116, 108, 105, 110, 101, 108, 97, 119, 52, 53, 46, 67, 111, 109, 109, 111, 110, 78, 111, 110, 101]
theorem head_eq : Try.prog.initOrder = String.ofList (headA ++ Char.ofNat 32 :: (headB ++ Char.ofNat 32 :: (headC ++ Char.ofNat 32 :: headT))) := by kernel_rfl
theorem head_list : Try.prog.initOrder.toList = headA ++ Char.ofNat 32 :: (headB ++ Char.ofNat 32 :: (headC ++ Char.ofNat 32 :: headT)) := by rw [head_eq]; exact String.toList_ofList
theorem head_words : behindMainWord (wordsSigns Try.prog.initOrder.toList) = headC :: wordsSigns headT := by
  rw [head_list, words_one (by decide), words_one (by decide), words_one (by decide)]
  generalize wordsSigns headT = T
  kernel_rfl
theorem may_of {P : Program} {c : List Char} {rest : List (List Char)} (h : behindMainWord (wordsSigns P.initOrder.toList) = c :: rest) (h1 : stripLifts liftWords (c :: rest) = ([], c :: rest)) (h2 : P.laysLater = false) (h3 : P.bearsReflect = false) (h4 : P.doorFits [] = true)
    (h5 : c = "cut".toList) : P.mayEnter = true := by
  unfold Program.mayEnter
  rw [h]
  dsimp only
  rw [h1, h2, h3]
  dsimp only
  rw [h4, h5]
  simp
theorem make_of {P : Program} {c : List Char} {rest : List (List Char)} (h : behindMainWord (wordsSigns P.initOrder.toList) = c :: rest) (h1 : (c == "gc".toList) = false) (h2 : (c == "spec".toList) = false) (h3 : (c == "cut".toList) = true) : P.make = some Make.cut := by
  unfold Program.make
  rw [h]
  dsimp only
  rw [h1, h2, h3]
  rfl
theorem strip_eq (T : List (List Char)) : stripLifts liftWords (headC :: T) = ([], headC :: T) := by kernel_rfl
theorem later_eq : Try.prog.laysLater = false := by kernel_rfl
theorem bears_eq : Try.prog.bearsReflect = false := by kernel_rfl
theorem door_eq : Try.prog.doorFits [] = true := by kernel_rfl
theorem gc_eq : (headC == "gc".toList) = false := by kernel_rfl
theorem spec_eq : (headC == "spec".toList) = false := by kernel_rfl
theorem cut_eq : (headC == "cut".toList) = true := by kernel_rfl
theorem fact_may : Try.prog.mayEnter = true := may_of head_words (strip_eq _) later_eq bears_eq door_eq (by kernel_rfl)
theorem fact_lift : (Rows.commonNoneRow.lifted == Try.prog.liftsFinal) = true := by
  unfold Program.liftsFinal Program.headLifts
  rw [head_words]
  generalize wordsSigns headT = T
  kernel_rfl
theorem make_is : Try.prog.make = some Make.cut := make_of head_words gc_eq spec_eq cut_eq
theorem row_make : (some Make.cut == some Rows.commonNoneRow.make) = true := by kernel_rfl
theorem fact_make : (Try.prog.make == some Rows.commonNoneRow.make) = true := by rw [make_is]; exact row_make
end Go.Proofs.Ytnjgdkfhgmebjaa
