/- Facts of the whole program that look at the dump's head. Conditions: none. -/
import Derived.Test.YtaphmailhjfiaaaRows
import Derived.KernelRfl
import Derived.JoinedOf
/- Facts of the whole program that look at the dump's head. Conditions: none. -/
namespace Go.Proofs.Ytaphmailhjfiaaa
open Go
theorem words_one : ∀ {w r : List Char}, (∀ c ∈ w, c ≠ Char.ofNat 32) → wordsSigns (w ++ Char.ofNat 32 :: r) = w :: wordsSigns r
  | [], r, _ => by rw [List.nil_append, wordsSigns]
  | c :: w, r, h => by
    have ih := words_one (w := w) (r := r) (fun x hx => h x (List.mem_cons_of_mem _ hx))
    have hc := h c (List.mem_cons_self ..)
    rw [List.cons_append, wordsSigns]
    · rw [ih]
    · exact hc
def headA : List Char := List.map Char.ofNat [104, 97, 114, 110, 101, 115, 115]
def headB : List Char := List.map Char.ofNat [51, 99, 49, 49, 101, 51, 98, 52, 50, 99, 55, 100, 98, 49, 99, 52, 48, 48, 48, 102, 55, 49, 101, 52, 57, 52, 57, 102, 102, 56, 57, 102, 98, 97, 51, 52, 53, 50, 98, 99, 102, 99, 56, 52, 57, 51, 48, 100, 53, 51, 48, 50, 55, 54, 55, 53, 99, 56, 48, 51, 55, 52, 99, 48]
def headC : List Char := List.map Char.ofNat [99, 117, 116]
def headT : List Char := List.map Char.ofNat [97, 116, 32, 102, 97, 117, 108, 116, 108, 105, 110, 101, 47, 102, 97, 117, 108, 116, 108, 105, 110, 101, 108, 97, 119, 49, 52, 46, 79, 114, 100, 101, 114, 82, 101, 116, 117, 114, 110, 115]
theorem head_eq : Try.prog.initOrder = String.ofList (headA ++ Char.ofNat 32 :: (headB ++ Char.ofNat 32 :: (headC ++ Char.ofNat 32 :: headT))) := by kernel_rfl
theorem head_list : Try.prog.initOrder.toList = headA ++ Char.ofNat 32 :: (headB ++ Char.ofNat 32 :: (headC ++ Char.ofNat 32 :: headT)) := by rw [head_eq]; exact String.toList_ofList
theorem head_words : behindMainWord (wordsSigns Try.prog.initOrder.toList) = headC :: wordsSigns headT := by
  rw [head_list, words_one (by decide), words_one (by decide), words_one (by decide)]
  generalize wordsSigns headT = T
  kernel_rfl
theorem may_of {P : Program} {c : List Char} {rest : List (List Char)} (h : behindMainWord (wordsSigns P.initOrder.toList) = c :: rest) (h1 : stripLifts liftWords (c :: rest) = ([], c :: rest)) (h2 : P.laysLater = false) (h3 : P.bearsReflect = false) (h4 : P.doorFits [] = true)
    (h5 : c = "cut".toList) : P.mayEnter = true := by
  unfold Program.mayEnter
  rw [h]
  dsimp only
  rw [h1, h2, h3]
  dsimp only
  rw [h4, h5]
  simp
theorem make_of {P : Program} {c : List Char} {rest : List (List Char)} (h : behindMainWord (wordsSigns P.initOrder.toList) = c :: rest) (h1 : (c == "gc".toList) = false) (h2 : (c == "spec".toList) = false) (h3 : (c == "cut".toList) = true) : P.make = some Make.cut := by
  unfold Program.make
  rw [h]
  dsimp only
  rw [h1, h2, h3]
  rfl
theorem strip_eq (T : List (List Char)) : stripLifts liftWords (headC :: T) = ([], headC :: T) := by kernel_rfl
theorem later_eq : Try.prog.laysLater = false := by kernel_rfl
theorem bears_eq : Try.prog.bearsReflect = false := by kernel_rfl
theorem door_eq : Try.prog.doorFits [] = true := by kernel_rfl
theorem gc_eq : (headC == "gc".toList) = false := by kernel_rfl
theorem spec_eq : (headC == "spec".toList) = false := by kernel_rfl
theorem cut_eq : (headC == "cut".toList) = true := by kernel_rfl
theorem fact_may : Try.prog.mayEnter = true := may_of head_words (strip_eq _) later_eq bears_eq door_eq (by kernel_rfl)
theorem fact_lift : (Rows.orderReturnsRow.lifted == Try.prog.liftsFinal) = true := by
  unfold Program.liftsFinal Program.headLifts
  rw [head_words]
  generalize wordsSigns headT = T
  kernel_rfl
theorem make_is : Try.prog.make = some Make.cut := make_of head_words gc_eq spec_eq cut_eq
theorem row_make : (some Make.cut == some Rows.orderReturnsRow.make) = true := by kernel_rfl
theorem fact_make : (Try.prog.make == some Rows.orderReturnsRow.make) = true := by rw [make_is]; exact row_make
end Go.Proofs.Ytaphmailhjfiaaa
