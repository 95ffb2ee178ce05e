/- Part 4 of the proof of DiagKey, for every input: CutWords, FactsKey, RowKey. No condition. -/
import Derived.Test.YthjnlggommennaaProg
import Derived.JoinedOf
import Derived.KernelRfl
import Derived.Test.YthjnlggommennaaRows
import Derived.WalkKit
import Derived.ProofKit
import Derived.Test.YthjnlggommennaaK2
import Derived.OpenShut
import Derived.ShutString
import Derived.ChangeOld
import Derived.Below
import Derived.SizedLaws
import Derived.Carry
set_option linter.unusedVariables false
set_option linter.unusedSimpArgs false
/- What the program's own words say of how it was cut. No condition. -/
namespace Go.Proofs.Ythjnlggommennaa.cutWords
abbrev sp : Char := Char.ofNat 32
theorem words_last : ∀ (a : List Char), a.all (fun c => c != sp) = true → wordsSigns a = [a]
  | [], _ => rfl
  | c :: a, h => by
    simp only [List.all_cons, Bool.and_eq_true, bne_iff_ne] at h
    have ih := words_last a h.2
    unfold wordsSigns
    split
    · rename_i e; cases e
    · rename_i e
      injection e with e1 e2
      exact absurd e1 h.1
    · rename_i e
      injection e with e1 e2
      subst e1 e2
      rw [ih]
theorem words_cons : ∀ (a b : List Char), a.all (fun c => c != sp) = true → wordsSigns (a ++ sp :: b) = a :: wordsSigns b
  | [], _, _ => rfl
  | c :: a, b, h => by
    simp only [List.all_cons, Bool.and_eq_true, bne_iff_ne] at h
    have ih := words_cons a b h.2
    rw [List.cons_append]
    conv => lhs; unfold wordsSigns
    split
    · rename_i e; cases e
    · rename_i e
      injection e with e1 e2
      exact absurd e1 h.1
    · rename_i e
      injection e with e1 e2
      subst e1 e2
      rw [ih]
def w0 : List Char := [Char.ofNat 104, Char.ofNat 97, Char.ofNat 114, Char.ofNat 110, Char.ofNat 101, Char.ofNat 115, Char.ofNat 115]
def w1 : List Char := [Char.ofNat 54, Char.ofNat 100, Char.ofNat 102, Char.ofNat 54, Char.ofNat 48, Char.ofNat 52, Char.ofNat 54, Char.ofNat 49, Char.ofNat 51, Char.ofNat 102, Char.ofNat 98, Char.ofNat 100, Char.ofNat 55, Char.ofNat 50, Char.ofNat 100, Char.ofNat 49, Char.ofNat 50, Char.ofNat 48, Char.ofNat 57, Char.ofNat 49, Char.ofNat 48, Char.ofNat 50, Char.ofNat 100, Char.ofNat 57, Char.ofNat 50, Char.ofNat 50, Char.ofNat 98, Char.ofNat 102, Char.ofNat 51, Char.ofNat 52, Char.ofNat 55, Char.ofNat 48, Char.ofNat 56, Char.ofNat 102, Char.ofNat 98, Char.ofNat 101, Char.ofNat 98, Char.ofNat 97, Char.ofNat 100, Char.ofNat 48, Char.ofNat 56, Char.ofNat 100, Char.ofNat 97, Char.ofNat 55, Char.ofNat 55, Char.ofNat 99, Char.ofNat 98, Char.ofNat 51, Char.ofNat 99, Char.ofNat 99, Char.ofNat 55, Char.ofNat 101, Char.ofNat 49, Char.ofNat 100, Char.ofNat 99, Char.ofNat 52, Char.ofNat 55, Char.ofNat 54, Char.ofNat 99, Char.ofNat 53, Char.ofNat 53, Char.ofNat 53, Char.ofNat 101, Char.ofNat 57]
def w2 : List Char := [Char.ofNat 99, Char.ofNat 117, Char.ofNat 116]
def w3 : List Char := [Char.ofNat 97, Char.ofNat 116]
def w4 : List Char := [Char.ofNat 112, Char.ofNat 104, Char.ofNat 97, Char.ofNat 101, Char.ofNat 116, Char.ofNat 111, Char.ofNat 110, Char.ofNat 47, Char.ofNat 112, Char.ofNat 104, Char.ofNat 97, Char.ofNat 101, Char.ofNat 116, Char.ofNat 111, Char.ofNat 110, Char.ofNat 108, Char.ofNat 97, Char.ofNat 119, Char.ofNat 50, Char.ofNat 50, Char.ofNat 46, Char.ofNat 68, Char.ofNat 105, Char.ofNat 97, Char.ofNat 103, Char.ofNat 84, Char.ofNat 101, Char.ofNat 108, Char.ofNat 108, Char.ofNat 115]
def w5 : List Char := [Char.ofNat 112, Char.ofNat 104, Char.ofNat 97, Char.ofNat 101, Char.ofNat 116, Char.ofNat 111, Char.ofNat 110, Char.ofNat 47, Char.ofNat 112, Char.ofNat 104, Char.ofNat 97, Char.ofNat 101, Char.ofNat 116, Char.ofNat 111, Char.ofNat 110, Char.ofNat 108, Char.ofNat 97, Char.ofNat 119, Char.ofNat 50, Char.ofNat 50, Char.ofNat 46, Char.ofNat 68, Char.ofNat 105, Char.ofNat 97, Char.ofNat 103, Char.ofNat 83, Char.ofNat 104, Char.ofNat 117, Char.ofNat 116]
def w6 : List Char := [Char.ofNat 112, Char.ofNat 104, Char.ofNat 97, Char.ofNat 101, Char.ofNat 116, Char.ofNat 111, Char.ofNat 110, Char.ofNat 47, Char.ofNat 112, Char.ofNat 104, Char.ofNat 97, Char.ofNat 101, Char.ofNat 116, Char.ofNat 111, Char.ofNat 110, Char.ofNat 108, Char.ofNat 97, Char.ofNat 119, Char.ofNat 50, Char.ofNat 50, Char.ofNat 46, Char.ofNat 68, Char.ofNat 105, Char.ofNat 97, Char.ofNat 103, Char.ofNat 79, Char.ofNat 112, Char.ofNat 101, Char.ofNat 110, Char.ofNat 115]
def w7 : List Char := [Char.ofNat 112, Char.ofNat 104, Char.ofNat 97, Char.ofNat 101, Char.ofNat 116, Char.ofNat 111, Char.ofNat 110, Char.ofNat 47, Char.ofNat 112, Char.ofNat 104, Char.ofNat 97, Char.ofNat 101, Char.ofNat 116, Char.ofNat 111, Char.ofNat 110, Char.ofNat 108, Char.ofNat 97, Char.ofNat 119, Char.ofNat 50, Char.ofNat 50, Char.ofNat 46, Char.ofNat 68, Char.ofNat 105, Char.ofNat 97, Char.ofNat 103, Char.ofNat 71, Char.ofNat 117, Char.ofNat 101, Char.ofNat 115, Char.ofNat 115]
def w8 : List Char := [Char.ofNat 112, Char.ofNat 104, Char.ofNat 97, Char.ofNat 101, Char.ofNat 116, Char.ofNat 111, Char.ofNat 110, Char.ofNat 47, Char.ofNat 112, Char.ofNat 104, Char.ofNat 97, Char.ofNat 101, Char.ofNat 116, Char.ofNat 111, Char.ofNat 110, Char.ofNat 108, Char.ofNat 97, Char.ofNat 119, Char.ofNat 50, Char.ofNat 50, Char.ofNat 46, Char.ofNat 68, Char.ofNat 105, Char.ofNat 97, Char.ofNat 103, Char.ofNat 81, Char.ofNat 117, Char.ofNat 105, Char.ofNat 101, Char.ofNat 116]
def w9 : List Char := [Char.ofNat 112, Char.ofNat 104, Char.ofNat 97, Char.ofNat 101, Char.ofNat 116, Char.ofNat 111, Char.ofNat 110, Char.ofNat 47, Char.ofNat 112, Char.ofNat 104, Char.ofNat 97, Char.ofNat 101, Char.ofNat 116, Char.ofNat 111, Char.ofNat 110, Char.ofNat 108, Char.ofNat 97, Char.ofNat 119, Char.ofNat 50, Char.ofNat 50, Char.ofNat 46, Char.ofNat 68, Char.ofNat 105, Char.ofNat 97, Char.ofNat 103, Char.ofNat 65, Char.ofNat 110, Char.ofNat 115, Char.ofNat 119, Char.ofNat 101, Char.ofNat 114, Char.ofNat 115]
def w10 : List Char := [Char.ofNat 112, Char.ofNat 104, Char.ofNat 97, Char.ofNat 101, Char.ofNat 116, Char.ofNat 111, Char.ofNat 110, Char.ofNat 47, Char.ofNat 112, Char.ofNat 104, Char.ofNat 97, Char.ofNat 101, Char.ofNat 116, Char.ofNat 111, Char.ofNat 110, Char.ofNat 108, Char.ofNat 97, Char.ofNat 119, Char.ofNat 50, Char.ofNat 50, Char.ofNat 46, Char.ofNat 68, Char.ofNat 105, Char.ofNat 97, Char.ofNat 103, Char.ofNat 72, Char.ofNat 97, Char.ofNat 110, Char.ofNat 100, Char.ofNat 115]
def w11 : List Char := [Char.ofNat 112, Char.ofNat 104, Char.ofNat 97, Char.ofNat 101, Char.ofNat 116, Char.ofNat 111, Char.ofNat 110, Char.ofNat 47, Char.ofNat 112, Char.ofNat 104, Char.ofNat 97, Char.ofNat 101, Char.ofNat 116, Char.ofNat 111, Char.ofNat 110, Char.ofNat 116, Char.ofNat 111, Char.ofNat 112, Char.ofNat 46, Char.ofNat 84, Char.ofNat 111, Char.ofNat 112, Char.ofNat 84, Char.ofNat 97, Char.ofNat 108, Char.ofNat 107]
def w12 : List Char := [Char.ofNat 112, Char.ofNat 104, Char.ofNat 97, Char.ofNat 101, Char.ofNat 116, Char.ofNat 111, Char.ofNat 110, Char.ofNat 47, Char.ofNat 112, Char.ofNat 104, Char.ofNat 97, Char.ofNat 101, Char.ofNat 116, Char.ofNat 111, Char.ofNat 110, Char.ofNat 108, Char.ofNat 97, Char.ofNat 119, Char.ofNat 50, Char.ofNat 50, Char.ofNat 46, Char.ofNat 68, Char.ofNat 105, Char.ofNat 97, Char.ofNat 103, Char.ofNat 75, Char.ofNat 101, Char.ofNat 121]
def w13 : List Char := [Char.ofNat 112, Char.ofNat 104, Char.ofNat 97, Char.ofNat 101, Char.ofNat 116, Char.ofNat 111, Char.ofNat 110, Char.ofNat 47, Char.ofNat 112, Char.ofNat 104, Char.ofNat 97, Char.ofNat 101, Char.ofNat 116, Char.ofNat 111, Char.ofNat 110, Char.ofNat 108, Char.ofNat 97, Char.ofNat 119, Char.ofNat 50, Char.ofNat 51, Char.ofNat 46, Char.ofNat 84, Char.ofNat 101, Char.ofNat 115, Char.ofNat 116, Char.ofNat 101, Char.ofNat 114, Char.ofNat 84, Char.ofNat 104, Char.ofNat 114, Char.ofNat 111, Char.ofNat 117, Char.ofNat 103, Char.ofNat 104]
def w14 : List Char := [Char.ofNat 112, Char.ofNat 104, Char.ofNat 97, Char.ofNat 101, Char.ofNat 116, Char.ofNat 111, Char.ofNat 110, Char.ofNat 47, Char.ofNat 112, Char.ofNat 104, Char.ofNat 97, Char.ofNat 101, Char.ofNat 116, Char.ofNat 111, Char.ofNat 110, Char.ofNat 108, Char.ofNat 97, Char.ofNat 119, Char.ofNat 50, Char.ofNat 51, Char.ofNat 46, Char.ofNat 84, Char.ofNat 101, Char.ofNat 115, Char.ofNat 116, Char.ofNat 101, Char.ofNat 114, Char.ofNat 87, Char.ofNat 104, Char.ofNat 111, Char.ofNat 108, Char.ofNat 101]
def w15 : List Char := [Char.ofNat 112, Char.ofNat 104, Char.ofNat 97, Char.ofNat 101, Char.ofNat 116, Char.ofNat 111, Char.ofNat 110, Char.ofNat 47, Char.ofNat 112, Char.ofNat 104, Char.ofNat 97, Char.ofNat 101, Char.ofNat 116, Char.ofNat 111, Char.ofNat 110, Char.ofNat 108, Char.ofNat 97, Char.ofNat 119, Char.ofNat 50, Char.ofNat 51, Char.ofNat 46, Char.ofNat 84, Char.ofNat 101, Char.ofNat 115, Char.ofNat 116, Char.ofNat 101, Char.ofNat 114, Char.ofNat 89, Char.ofNat 101, Char.ofNat 115]
def w16 : List Char := [Char.ofNat 112, Char.ofNat 104, Char.ofNat 97, Char.ofNat 101, Char.ofNat 116, Char.ofNat 111, Char.ofNat 110, Char.ofNat 47, Char.ofNat 112, Char.ofNat 104, Char.ofNat 97, Char.ofNat 101, Char.ofNat 116, Char.ofNat 111, Char.ofNat 110, Char.ofNat 108, Char.ofNat 97, Char.ofNat 119, Char.ofNat 50, Char.ofNat 51, Char.ofNat 46, Char.ofNat 84, Char.ofNat 101, Char.ofNat 115, Char.ofNat 116, Char.ofNat 101, Char.ofNat 114, Char.ofNat 79, Char.ofNat 112, Char.ofNat 101, Char.ofNat 110, Char.ofNat 115]
def w17 : List Char := [Char.ofNat 112, Char.ofNat 104, Char.ofNat 97, Char.ofNat 101, Char.ofNat 116, Char.ofNat 111, Char.ofNat 110, Char.ofNat 47, Char.ofNat 112, Char.ofNat 104, Char.ofNat 97, Char.ofNat 101, Char.ofNat 116, Char.ofNat 111, Char.ofNat 110, Char.ofNat 108, Char.ofNat 97, Char.ofNat 119, Char.ofNat 50, Char.ofNat 51, Char.ofNat 46, Char.ofNat 84, Char.ofNat 101, Char.ofNat 115, Char.ofNat 116, Char.ofNat 101, Char.ofNat 114, Char.ofNat 73, Char.ofNat 116, Char.ofNat 101, Char.ofNat 109]
def w18 : List Char := [Char.ofNat 112, Char.ofNat 104, Char.ofNat 97, Char.ofNat 101, Char.ofNat 116, Char.ofNat 111, Char.ofNat 110, Char.ofNat 47, Char.ofNat 112, Char.ofNat 104, Char.ofNat 97, Char.ofNat 101, Char.ofNat 116, Char.ofNat 111, Char.ofNat 110, Char.ofNat 108, Char.ofNat 97, Char.ofNat 119, Char.ofNat 50, Char.ofNat 51, Char.ofNat 46, Char.ofNat 84, Char.ofNat 101, Char.ofNat 115, Char.ofNat 116, Char.ofNat 101, Char.ofNat 114, Char.ofNat 66, Char.ofNat 121, Char.ofNat 116, Char.ofNat 101, Char.ofNat 115]
def w19 : List Char := [Char.ofNat 112, Char.ofNat 104, Char.ofNat 97, Char.ofNat 101, Char.ofNat 116, Char.ofNat 111, Char.ofNat 110, Char.ofNat 47, Char.ofNat 112, Char.ofNat 104, Char.ofNat 97, Char.ofNat 101, Char.ofNat 116, Char.ofNat 111, Char.ofNat 110, Char.ofNat 108, Char.ofNat 97, Char.ofNat 119, Char.ofNat 50, Char.ofNat 51, Char.ofNat 46, Char.ofNat 84, Char.ofNat 101, Char.ofNat 115, Char.ofNat 116, Char.ofNat 101, Char.ofNat 114, Char.ofNat 72, Char.ofNat 97, Char.ofNat 110, Char.ofNat 100, Char.ofNat 115]
def w20 : List Char := [Char.ofNat 112, Char.ofNat 104, Char.ofNat 97, Char.ofNat 101, Char.ofNat 116, Char.ofNat 111, Char.ofNat 110, Char.ofNat 47, Char.ofNat 112, Char.ofNat 104, Char.ofNat 97, Char.ofNat 101, Char.ofNat 116, Char.ofNat 111, Char.ofNat 110, Char.ofNat 116, Char.ofNat 111, Char.ofNat 112, Char.ofNat 46, Char.ofNat 84, Char.ofNat 111, Char.ofNat 112, Char.ofNat 83, Char.ofNat 104, Char.ofNat 117, Char.ofNat 116]
def w21 : List Char := [Char.ofNat 112, Char.ofNat 104, Char.ofNat 97, Char.ofNat 101, Char.ofNat 116, Char.ofNat 111, Char.ofNat 110, Char.ofNat 47, Char.ofNat 112, Char.ofNat 104, Char.ofNat 97, Char.ofNat 101, Char.ofNat 116, Char.ofNat 111, Char.ofNat 110, Char.ofNat 116, Char.ofNat 111, Char.ofNat 112, Char.ofNat 46, Char.ofNat 84, Char.ofNat 111, Char.ofNat 112, Char.ofNat 84, Char.ofNat 101, Char.ofNat 120, Char.ofNat 116]
def w22 : List Char := [Char.ofNat 112, Char.ofNat 104, Char.ofNat 97, Char.ofNat 101, Char.ofNat 116, Char.ofNat 111, Char.ofNat 110, Char.ofNat 47, Char.ofNat 112, Char.ofNat 104, Char.ofNat 97, Char.ofNat 101, Char.ofNat 116, Char.ofNat 111, Char.ofNat 110, Char.ofNat 116, Char.ofNat 111, Char.ofNat 112, Char.ofNat 46, Char.ofNat 84, Char.ofNat 111, Char.ofNat 112, Char.ofNat 78, Char.ofNat 117, Char.ofNat 109, Char.ofNat 98, Char.ofNat 101, Char.ofNat 114]
def w23 : List Char := [Char.ofNat 112, Char.ofNat 104, Char.ofNat 97, Char.ofNat 101, Char.ofNat 116, Char.ofNat 111, Char.ofNat 110, Char.ofNat 47, Char.ofNat 112, Char.ofNat 104, Char.ofNat 97, Char.ofNat 101, Char.ofNat 116, Char.ofNat 111, Char.ofNat 110, Char.ofNat 116, Char.ofNat 111, Char.ofNat 112, Char.ofNat 46, Char.ofNat 84, Char.ofNat 111, Char.ofNat 112, Char.ofNat 73, Char.ofNat 110, Char.ofNat 115, Char.ofNat 105, Char.ofNat 115, Char.ofNat 116, Char.ofNat 115]
def w24 : List Char := [Char.ofNat 112, Char.ofNat 104, Char.ofNat 97, Char.ofNat 101, Char.ofNat 116, Char.ofNat 111, Char.ofNat 110, Char.ofNat 47, Char.ofNat 112, Char.ofNat 104, Char.ofNat 97, Char.ofNat 101, Char.ofNat 116, Char.ofNat 111, Char.ofNat 110, Char.ofNat 116, Char.ofNat 111, Char.ofNat 112, Char.ofNat 46, Char.ofNat 84, Char.ofNat 111, Char.ofNat 112, Char.ofNat 87, Char.ofNat 114, Char.ofNat 105, Char.ofNat 116, Char.ofNat 116, Char.ofNat 101, Char.ofNat 110]
def w25 : List Char := [Char.ofNat 112, Char.ofNat 104, Char.ofNat 97, Char.ofNat 101, Char.ofNat 116, Char.ofNat 111, Char.ofNat 110, Char.ofNat 47, Char.ofNat 112, Char.ofNat 104, Char.ofNat 97, Char.ofNat 101, Char.ofNat 116, Char.ofNat 111, Char.ofNat 110, Char.ofNat 116, Char.ofNat 111, Char.ofNat 112, Char.ofNat 46, Char.ofNat 84, Char.ofNat 111, Char.ofNat 112, Char.ofNat 71, Char.ofNat 117, Char.ofNat 101, Char.ofNat 115, Char.ofNat 115, Char.ofNat 101, Char.ofNat 100]
def w26 : List Char := [Char.ofNat 112, Char.ofNat 104, Char.ofNat 97, Char.ofNat 101, Char.ofNat 116, Char.ofNat 111, Char.ofNat 110, Char.ofNat 47, Char.ofNat 112, Char.ofNat 104, Char.ofNat 97, Char.ofNat 101, Char.ofNat 116, Char.ofNat 111, Char.ofNat 110, Char.ofNat 116, Char.ofNat 111, Char.ofNat 112, Char.ofNat 46, Char.ofNat 84, Char.ofNat 111, Char.ofNat 112, Char.ofNat 84, Char.ofNat 114, Char.ofNat 111, Char.ofNat 117, Char.ofNat 98, Char.ofNat 108, Char.ofNat 101, Char.ofNat 115]
theorem text : Try.prog.initOrder = String.ofList (w0 ++ sp :: (w1 ++ sp :: (w2 ++ sp :: (w3 ++ sp :: (w4 ++ sp :: (w5 ++ sp :: (w6 ++ sp :: (w7 ++ sp :: (w8 ++ sp :: (w9 ++ sp :: (w10 ++ sp :: (w11 ++ sp :: (w12 ++ sp :: (w13 ++ sp :: (w14 ++ sp :: (w15 ++ sp :: (w16 ++ sp :: (w17 ++ sp :: (w18 ++ sp :: (w19 ++ sp :: (w20 ++ sp :: (w21 ++ sp :: (w22 ++ sp :: (w23 ++ sp :: (w24 ++ sp :: (w25 ++ sp :: (w26))))))))))))))))))))))))))) := by kernel_rfl
theorem words : wordsSigns Try.prog.initOrder.toList = [w0, w1, w2, w3, w4, w5, w6, w7, w8, w9, w10, w11, w12, w13, w14, w15, w16, w17, w18, w19, w20, w21, w22, w23, w24, w25, w26] := by
  rw [text, String.toList_ofList]
  rw [words_cons w0 _ (by decide +kernel)]
  rw [words_cons w1 _ (by decide +kernel)]
  rw [words_cons w2 _ (by decide +kernel)]
  rw [words_cons w3 _ (by decide +kernel)]
  rw [words_cons w4 _ (by decide +kernel)]
  rw [words_cons w5 _ (by decide +kernel)]
  rw [words_cons w6 _ (by decide +kernel)]
  rw [words_cons w7 _ (by decide +kernel)]
  rw [words_cons w8 _ (by decide +kernel)]
  rw [words_cons w9 _ (by decide +kernel)]
  rw [words_cons w10 _ (by decide +kernel)]
  rw [words_cons w11 _ (by decide +kernel)]
  rw [words_cons w12 _ (by decide +kernel)]
  rw [words_cons w13 _ (by decide +kernel)]
  rw [words_cons w14 _ (by decide +kernel)]
  rw [words_cons w15 _ (by decide +kernel)]
  rw [words_cons w16 _ (by decide +kernel)]
  rw [words_cons w17 _ (by decide +kernel)]
  rw [words_cons w18 _ (by decide +kernel)]
  rw [words_cons w19 _ (by decide +kernel)]
  rw [words_cons w20 _ (by decide +kernel)]
  rw [words_cons w21 _ (by decide +kernel)]
  rw [words_cons w22 _ (by decide +kernel)]
  rw [words_cons w23 _ (by decide +kernel)]
  rw [words_cons w24 _ (by decide +kernel)]
  rw [words_cons w25 _ (by decide +kernel)]
  rw [words_last w26 (by decide +kernel)]
def rest : List (List Char) := [w3, w4, w5, w6, w7, w8, w9, w10, w11, w12, w13, w14, w15, w16, w17, w18, w19, w20, w21, w22, w23, w24, w25, w26]
theorem told : behindMainWord (wordsSigns Try.prog.initOrder.toList) = w2 :: rest := by
  rw [words]
  kernel_rfl
theorem lays : Try.prog.laysLater = false := by kernel_rfl
theorem reflects : Try.prog.bearsReflect = false := by kernel_rfl
theorem strip : stripLifts liftWords (w2 :: rest) = ([], w2 :: rest) := by kernel_rfl
theorem door : Try.prog.doorFits [] = true := by kernel_rfl
theorem mayEnter : Try.prog.mayEnter = true := by
  unfold Program.mayEnter
  rw [told]
  show ((_ : Bool) = true)
  simp only [strip, lays, reflects, door]
  kernel_rfl
theorem headLifts : Try.prog.headLifts = [] := by
  unfold Program.headLifts
  rw [told]
  simp only [strip]
  kernel_rfl
theorem liftsFinal : Try.prog.liftsFinal = false := by
  unfold Program.liftsFinal
  rw [told, headLifts]
  kernel_rfl
end Go.Proofs.Ythjnlggommennaa.cutWords
/- The closed facts of the row of DiagKey, each for itself. No condition. -/
namespace Go.Proofs.Ythjnlggommennaa.diagKey
theorem k0 : (Rows.diagKeyRow.wf (OpenSpec.ofChange Rows.diagKeySpec)) = true := by kernel_rfl
theorem k1 : (laidOutB Try.prog) = true := by kernel_rfl
theorem k2 : (mapsRowed Try.prog) = true := by kernel_rfl
theorem k3 : (Try.f11.params.all (Try.prog.readableRec ·)) = true := by kernel_rfl
theorem k4 : (namedTie Try.prog Rows.diagKeyRow.named Rows.diagKeySpec.vars) = true := by kernel_rfl
theorem k5 : ((Rows.diagKeyRow.stops == [])) = true := by kernel_rfl
theorem k6 : ((Try.prog.stops == [])) = true := by kernel_rfl
theorem k7 : ((Rows.diagKeyRow.knobs == [])) = true := by kernel_rfl
theorem k8 : ((Try.prog.stopKnobs == [])) = true := by kernel_rfl
theorem k9 : ((Rows.diagKeyRow.inPlace == Try.prog.inPlace 11)) = true := by kernel_rfl
theorem k10 : ((Rows.diagKeyRow.unfollowed == Try.prog.unfollowed 11)) = true := by kernel_rfl
theorem k11 : ((Rows.diagKeyRow.recurses == Try.prog.recurses 11)) = true := by kernel_rfl
theorem k12 : ((Rows.diagKeyRow.named == Try.prog.varsNamed 11)) = true := by kernel_rfl
theorem k13 : ((Rows.diagKeyRow.maps == (Try.f11.params.toList ++ Rows.diagKeySpec.plain.varTypes Try.prog).any (Try.prog.mapsRec ·))) = true := by kernel_rfl
theorem k14 : ((Rows.diagKeyRow.ifaces == (Try.f11.params.toList ++ Rows.diagKeySpec.plain.varTypes Try.prog).any (Try.prog.ifacesRec ·))) = true := by kernel_rfl
theorem k15 : ((Rows.diagKeyRow.mapsOut == Try.prog.mapsAmong Try.f11.resultTypes.toList)) = true := by kernel_rfl
theorem k16 : ((Rows.diagKeyRow.loops == (Try.f11.params.toList ++ Rows.diagKeySpec.plain.varTypes Try.prog).any (Try.prog.loopsFrom ·))) = true := by kernel_rfl
theorem k17 : ((Rows.diagKeyRow.wideKeys == (Try.f11.params.toList ++ Rows.diagKeySpec.plain.varTypes Try.prog ++ Try.f11.resultTypes.toList).any (Try.prog.wideKeysFrom ·))) = true := by kernel_rfl
theorem k18 : (Rows.diagKeySpec.vars.all (Try.prog.varReadable ·)) = true := by kernel_rfl
theorem k19 : (Try.f11.resultTypes.all (fun t => Try.prog.readableRec t && decide (t < Try.prog.types.size))) = true := by kernel_rfl
theorem k20 : ((Rows.diagKeyRow.ifacesOut == Try.f11.resultTypes.toList.any (Try.prog.ifacesRec ·))) = true := by kernel_rfl
theorem k21 : ((Rows.diagKeyRow.loopsOut == Try.f11.resultTypes.toList.any (Try.prog.loopsFrom ·))) = true := by kernel_rfl
theorem k22 : ((Rows.diagKeyRow.plainKeys == Try.prog.plainKeys)) = true := by kernel_rfl
theorem k23 : (Rows.diagKeyRow.shortTexts.isNone) = true := by kernel_rfl
theorem k24 : (Try.prog.stopsHeard) = true := by kernel_rfl
theorem k25 : (Try.prog.mayEnter) = true := cutWords.mayEnter
theorem k26 : ((Rows.diagKeyRow.lifted == Try.prog.liftsFinal)) = true := by
  rw [cutWords.liftsFinal]
  kernel_rfl
theorem k27 : ((Try.prog.make == some Rows.diagKeyRow.make)) = true := by kernel_rfl
theorem k28 : ((Rows.diagKeyRow.kinds == (if Rows.diagKeyRow.domain.isEmpty then [] else Try.f11.params.toList.map fun t => match Try.prog.underlying t with | some (.int k) => some k | _ => none))) = true := by kernel_rfl
theorem k29 : ((Rows.diagKeyRow.pinned == Rows.diagKeyRow.pinnedBy)) = true := by kernel_rfl
theorem k30 : ((Rows.diagKeyRow.veiled == (Try.f11.params.toList ++ Rows.diagKeySpec.plain.varTypes Try.prog ++ Try.f11.resultTypes.toList).any (Try.prog.veiledRec ·))) = true := by kernel_rfl
theorem k31 : (Rows.diagKeyRow.veiledFits Try.prog Try.f11.params.toList (Try.f11.params.toList ++ Rows.diagKeySpec.plain.varTypes Try.prog ++ Try.f11.resultTypes.toList)) = true := by kernel_rfl
set_option maxRecDepth 100000 in
theorem facts : joinedFacts Try.prog 11 Try.f11 Rows.diagKeySpec Rows.diagKeyRow = true := by
  unfold joinedFacts
  simp only [Bool.and_eq_true]
  exact ⟨⟨⟨⟨⟨⟨⟨⟨⟨⟨⟨⟨⟨⟨⟨⟨⟨⟨⟨⟨⟨⟨⟨⟨⟨⟨⟨⟨⟨⟨⟨k0, k1⟩, k2⟩, k3⟩, k4⟩, k5⟩, k6⟩, k7⟩, k8⟩, k9⟩, k10⟩, k11⟩, k12⟩, k13⟩, k14⟩, k15⟩, k16⟩, k17⟩, k18⟩, k19⟩, k20⟩, k21⟩, k22⟩, k23⟩, k24⟩, k25⟩, k26⟩, k27⟩, k28⟩, k29⟩, k30⟩, k31⟩
end Go.Proofs.Ythjnlggommennaa.diagKey
/- The law DiagKey, for every input: its row, out of its walk. No condition. -/
namespace Go.Proofs.Ythjnlggommennaa.diagKey
open Go.ChangeShapes Go.WideShapes Go.ChangeAt Go.RowKit Go.Proofs.Ph
open Go.ChangeMaps (open_string shut_string)
theorem own : ownKnob Try.prog.godebug = none := by kernel_rfl
set_option maxRecDepth 100000 in
theorem lifted (os : Os) (started : os.Started) (H : Type) (enc : TypeId × Value → H) :
    ReturnsInHanded {} Try.checked os 11 .any (Rows.diagKeySpec.pre6 enc Try.prog Try.f11 Rows.diagKeyRow.domain false) (Rows.diagKeySpec.post enc Try.prog Try.f11 false true false false) := by
  refine returnsInHanded_of_change_sized (C := Try.checked) own started (by kernel_rfl) Try.func11
    (ChangeSpec.witness6 (enc := enc) (C := Try.checked) false ⟨#[], #[.int .i64 0, .int .i64 0, .int .i64 0], []⟩ 8 (by kernel_rfl) (by kernel_rfl) (by kernel_rfl) (by kernel_rfl)) ?_
  intro W base args ds gs before hval0 hW hcnd hsz0 _
  have hval : ∀ (j : Nat) t v, Try.f11.params[j]? = some t → args[j]? = some v → Value.okWide Try.prog W .any base t v := hval0
  have hW' := hW
  obtain ⟨p, q, hA0, hV, rfl, hfz, hnd⟩ := hW
  have hA : DataW.TrodAll enc Try.prog W 0 (fun _ => true) true Try.f11.params.toList args.toList ds p := hA0
  rw [Try.params11] at hA hval
  obtain ⟨v0, vs0, d0, ds0, p0, q0, hargs, rfl, rfl, h0, r0⟩ := trodAll_cons hA
  obtain ⟨v1, vs1, d1, ds1, p1, q1, rfl, rfl, rfl, h1, r1⟩ := trodAll_cons r0
  obtain ⟨v2, vs2, d2, ds2, p2, q2, rfl, rfl, rfl, h2, r2⟩ := trodAll_cons r1
  obtain ⟨rfl, rfl, rfl⟩ := trodAll_nil r2
  obtain rfl : args = #[v0, v1, v2] := by cases args; simp_all
  obtain ⟨rfl, rfl⟩ := trodVars_none hV
  obtain ⟨a0, rfl, rfl, rfl, w0⟩ := open_int Try.underlying3 (hval 0 3 v0 rfl rfl) h0
  obtain ⟨a1, rfl, rfl, rfl, w1⟩ := open_int Try.underlying3 (hval 1 3 v1 rfl rfl) h1
  obtain ⟨a2, rfl, rfl, rfl, w2⟩ := open_int Try.underlying3 (hval 2 3 v2 rfl rfl) h2
  clear hA0 hval0 hsz0
  refine (diagKey_row a0 w0 a1 w1 a2 w2 W).mono fun e W' ⟨he, bel⟩ => ?_
  subst he
  exact ⟨_, rfl, _, _, _, [], _, [], hW', trodAll_mk1 (shut_bool Try.underlying4 _), (trodAll_cons_mk (shut_int Try.underlying3 w0) (trodAll_cons_mk (shut_int Try.underlying3 w1) (trodAll_cons_mk (shut_int Try.underlying3 w2) trodAll_mk0))), rfl, bel.frame _, fun h => by cases h⟩
theorem named : Try.prog.funcNamed Rows.diagKeyRow.func = some 11 := by kernel_rfl
theorem instance_ : Try.f11.isInstance Try.prog Rows.diagKeyRow.origin Rows.diagKeyRow.targs := of_decide_eq_true (by kernel_rfl)
theorem wrapper_ : Try.f11.isWrapper Try.prog Rows.diagKeyRow.wrapper Rows.diagKeyRow.mainSum := by unfold Func.isWrapper; first | (rw [if_pos (by decide +kernel)]; kernel_rfl) | (rw [if_neg (by decide +kernel)]; exact ⟨rfl, rfl⟩)
theorem over : Rows.diagKeyRow.holds Try.pinned (OpenSpec.ofChange Rows.diagKeySpec) :=
  OpenClaim.holds_of_wide 11 Try.f11 rfl rfl rfl rfl rfl rfl rfl ⟨rfl, rfl, rfl, rfl, rfl⟩ rfl rfl rfl rfl rfl named Try.func11 facts
    instance_ wrapper_
    (fun os started H enc _ => lifted os started H enc)
theorem proved : Rows.DiagKeySaid := over
end Go.Proofs.Ythjnlggommennaa.diagKey
namespace Go.Proofs.Ythjnlggommennaa
/-- The row, under a short name, for the claim. -/
theorem diagKey_holds : Rows.DiagKeySaid := diagKey.proved
end Go.Proofs.Ythjnlggommennaa
#print axioms Go.Proofs.Ythjnlggommennaa.diagKey_holds
