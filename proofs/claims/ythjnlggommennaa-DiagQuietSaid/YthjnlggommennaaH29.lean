/- Part 30 of the proof of DiagHands, for every input: CutWords. No condition. -/
import Derived.Test.YthjnlggommennaaProg
import Derived.JoinedOf
import Derived.KernelRfl
set_option linter.unusedVariables false
set_option linter.unusedSimpArgs false
set_option linter.unusedSectionVars false
/- What the program's own words say of how it was cut. No condition. -/
namespace Go.Proofs.Ythjnlggommennaa.cutWords
abbrev sp : Char := Char.ofNat 32
theorem words_last : ∀ (a : List Char), a.all (fun c => c != sp) = true → wordsSigns a = [a]
  | [], _ => rfl
  | c :: a, h => by
    simp only [List.all_cons, Bool.and_eq_true, bne_iff_ne] at h
    have ih := words_last a h.2
    unfold wordsSigns
    split
    · rename_i e; cases e
    · rename_i e
      injection e with e1 e2
      exact absurd e1 h.1
    · rename_i e
      injection e with e1 e2
      subst e1 e2
      rw [ih]
theorem words_cons : ∀ (a b : List Char), a.all (fun c => c != sp) = true → wordsSigns (a ++ sp :: b) = a :: wordsSigns b
  | [], _, _ => rfl
  | c :: a, b, h => by
    simp only [List.all_cons, Bool.and_eq_true, bne_iff_ne] at h
    have ih := words_cons a b h.2
    rw [List.cons_append]
    conv => lhs; unfold wordsSigns
    split
    · rename_i e; cases e
    · rename_i e
      injection e with e1 e2
      exact absurd e1 h.1
    · rename_i e
      injection e with e1 e2
      subst e1 e2
      rw [ih]
def w0 : List Char := [Char.ofNat 104, Char.ofNat 97, Char.ofNat 114, Char.ofNat 110, Char.ofNat 101, Char.ofNat 115, Char.ofNat 115]
def w1 : List Char := [Char.ofNat 54,Char.ofNat 100,Char.ofNat 102,Char.ofNat 54,Char.ofNat 48,Char.ofNat 52,Char.ofNat 54,Char.ofNat 49,Char.ofNat 51,Char.ofNat 102,Char.ofNat 98,Char.ofNat 100,Char.ofNat 55,Char.ofNat 50,Char.ofNat 100,Char.ofNat 49,Char.ofNat 50,Char.ofNat 48,Char.ofNat 57,Char.ofNat 49,Char.ofNat 48,Char.ofNat 50,Char.ofNat 100,Char.ofNat 57,Char.ofNat 50,Char.ofNat 50,Char.ofNat 98,Char.ofNat 102,Char.ofNat 51,Char.ofNat 52,Char.ofNat 55,Char.ofNat 48,Char.ofNat 56,Char.ofNat 102,Char.ofNat 98,Char.ofNat 101,Char.ofNat 98,Char.ofNat 97,Char.ofNat 100,Char.ofNat 48,Char.ofNat 56,Char.ofNat 100,Char.ofNat 97,Char.ofNat 55,Char.ofNat 55,Char.ofNat 99,Char.ofNat 98,Char.ofNat 51,Char.ofNat 99,Char.ofNat 99,Char.ofNat 55,Char.ofNat 101,Char.ofNat 49,Char.ofNat 100,Char.ofNat 99,Char.ofNat 52,Char.ofNat 55,Char.ofNat 54,Char.ofNat 99,Char.ofNat 53,Char.ofNat 53,Char.ofNat 53,Char.ofNat 101,Char.ofNat 57]
def w2 : List Char := [Char.ofNat 99, Char.ofNat 117, Char.ofNat 116]
def w3 : List Char := [Char.ofNat 97, Char.ofNat 116]
def w4 : List Char := [Char.ofNat 112,Char.ofNat 104,Char.ofNat 97,Char.ofNat 101,Char.ofNat 116,Char.ofNat 111,Char.ofNat 110,Char.ofNat 47,Char.ofNat 112,Char.ofNat 104,Char.ofNat 97,Char.ofNat 101,Char.ofNat 116,Char.ofNat 111,Char.ofNat 110,Char.ofNat 108,Char.ofNat 97,Char.ofNat 119,Char.ofNat 50,Char.ofNat 50,Char.ofNat 46,Char.ofNat 68,Char.ofNat 105,Char.ofNat 97,Char.ofNat 103,Char.ofNat 84,Char.ofNat 101,Char.ofNat 108,Char.ofNat 108,Char.ofNat 115]
def w5 : List Char := [Char.ofNat 112,Char.ofNat 104,Char.ofNat 97,Char.ofNat 101,Char.ofNat 116,Char.ofNat 111,Char.ofNat 110,Char.ofNat 47,Char.ofNat 112,Char.ofNat 104,Char.ofNat 97,Char.ofNat 101,Char.ofNat 116,Char.ofNat 111,Char.ofNat 110,Char.ofNat 108,Char.ofNat 97,Char.ofNat 119,Char.ofNat 50,Char.ofNat 50,Char.ofNat 46,Char.ofNat 68,Char.ofNat 105,Char.ofNat 97,Char.ofNat 103,Char.ofNat 83,Char.ofNat 104,Char.ofNat 117,Char.ofNat 116]
def w6 : List Char := [Char.ofNat 112,Char.ofNat 104,Char.ofNat 97,Char.ofNat 101,Char.ofNat 116,Char.ofNat 111,Char.ofNat 110,Char.ofNat 47,Char.ofNat 112,Char.ofNat 104,Char.ofNat 97,Char.ofNat 101,Char.ofNat 116,Char.ofNat 111,Char.ofNat 110,Char.ofNat 108,Char.ofNat 97,Char.ofNat 119,Char.ofNat 50,Char.ofNat 50,Char.ofNat 46,Char.ofNat 68,Char.ofNat 105,Char.ofNat 97,Char.ofNat 103,Char.ofNat 79,Char.ofNat 112,Char.ofNat 101,Char.ofNat 110,Char.ofNat 115]
def w7 : List Char := [Char.ofNat 112,Char.ofNat 104,Char.ofNat 97,Char.ofNat 101,Char.ofNat 116,Char.ofNat 111,Char.ofNat 110,Char.ofNat 47,Char.ofNat 112,Char.ofNat 104,Char.ofNat 97,Char.ofNat 101,Char.ofNat 116,Char.ofNat 111,Char.ofNat 110,Char.ofNat 108,Char.ofNat 97,Char.ofNat 119,Char.ofNat 50,Char.ofNat 50,Char.ofNat 46,Char.ofNat 68,Char.ofNat 105,Char.ofNat 97,Char.ofNat 103,Char.ofNat 71,Char.ofNat 117,Char.ofNat 101,Char.ofNat 115,Char.ofNat 115]
def w8 : List Char := [Char.ofNat 112,Char.ofNat 104,Char.ofNat 97,Char.ofNat 101,Char.ofNat 116,Char.ofNat 111,Char.ofNat 110,Char.ofNat 47,Char.ofNat 112,Char.ofNat 104,Char.ofNat 97,Char.ofNat 101,Char.ofNat 116,Char.ofNat 111,Char.ofNat 110,Char.ofNat 108,Char.ofNat 97,Char.ofNat 119,Char.ofNat 50,Char.ofNat 50,Char.ofNat 46,Char.ofNat 68,Char.ofNat 105,Char.ofNat 97,Char.ofNat 103,Char.ofNat 81,Char.ofNat 117,Char.ofNat 105,Char.ofNat 101,Char.ofNat 116]
def w9 : List Char := [Char.ofNat 112,Char.ofNat 104,Char.ofNat 97,Char.ofNat 101,Char.ofNat 116,Char.ofNat 111,Char.ofNat 110,Char.ofNat 47,Char.ofNat 112,Char.ofNat 104,Char.ofNat 97,Char.ofNat 101,Char.ofNat 116,Char.ofNat 111,Char.ofNat 110,Char.ofNat 108,Char.ofNat 97,Char.ofNat 119,Char.ofNat 50,Char.ofNat 50,Char.ofNat 46,Char.ofNat 68,Char.ofNat 105,Char.ofNat 97,Char.ofNat 103,Char.ofNat 65,Char.ofNat 110,Char.ofNat 115,Char.ofNat 119,Char.ofNat 101,Char.ofNat 114,Char.ofNat 115]
def w10 : List Char := [Char.ofNat 112,Char.ofNat 104,Char.ofNat 97,Char.ofNat 101,Char.ofNat 116,Char.ofNat 111,Char.ofNat 110,Char.ofNat 47,Char.ofNat 112,Char.ofNat 104,Char.ofNat 97,Char.ofNat 101,Char.ofNat 116,Char.ofNat 111,Char.ofNat 110,Char.ofNat 108,Char.ofNat 97,Char.ofNat 119,Char.ofNat 50,Char.ofNat 50,Char.ofNat 46,Char.ofNat 68,Char.ofNat 105,Char.ofNat 97,Char.ofNat 103,Char.ofNat 72,Char.ofNat 97,Char.ofNat 110,Char.ofNat 100,Char.ofNat 115]
def w11 : List Char := [Char.ofNat 112,Char.ofNat 104,Char.ofNat 97,Char.ofNat 101,Char.ofNat 116,Char.ofNat 111,Char.ofNat 110,Char.ofNat 47,Char.ofNat 112,Char.ofNat 104,Char.ofNat 97,Char.ofNat 101,Char.ofNat 116,Char.ofNat 111,Char.ofNat 110,Char.ofNat 116,Char.ofNat 111,Char.ofNat 112,Char.ofNat 46,Char.ofNat 84,Char.ofNat 111,Char.ofNat 112,Char.ofNat 84,Char.ofNat 97,Char.ofNat 108,Char.ofNat 107]
def w12 : List Char := [Char.ofNat 112,Char.ofNat 104,Char.ofNat 97,Char.ofNat 101,Char.ofNat 116,Char.ofNat 111,Char.ofNat 110,Char.ofNat 47,Char.ofNat 112,Char.ofNat 104,Char.ofNat 97,Char.ofNat 101,Char.ofNat 116,Char.ofNat 111,Char.ofNat 110,Char.ofNat 108,Char.ofNat 97,Char.ofNat 119,Char.ofNat 50,Char.ofNat 50,Char.ofNat 46,Char.ofNat 68,Char.ofNat 105,Char.ofNat 97,Char.ofNat 103,Char.ofNat 75,Char.ofNat 101,Char.ofNat 121]
def w13 : List Char := [Char.ofNat 112,Char.ofNat 104,Char.ofNat 97,Char.ofNat 101,Char.ofNat 116,Char.ofNat 111,Char.ofNat 110,Char.ofNat 47,Char.ofNat 112,Char.ofNat 104,Char.ofNat 97,Char.ofNat 101,Char.ofNat 116,Char.ofNat 111,Char.ofNat 110,Char.ofNat 108,Char.ofNat 97,Char.ofNat 119,Char.ofNat 50,Char.ofNat 51,Char.ofNat 46,Char.ofNat 84,Char.ofNat 101,Char.ofNat 115,Char.ofNat 116,Char.ofNat 101,Char.ofNat 114,Char.ofNat 84,Char.ofNat 104,Char.ofNat 114,Char.ofNat 111,Char.ofNat 117,Char.ofNat 103,Char.ofNat 104]
def w14 : List Char := [Char.ofNat 112,Char.ofNat 104,Char.ofNat 97,Char.ofNat 101,Char.ofNat 116,Char.ofNat 111,Char.ofNat 110,Char.ofNat 47,Char.ofNat 112,Char.ofNat 104,Char.ofNat 97,Char.ofNat 101,Char.ofNat 116,Char.ofNat 111,Char.ofNat 110,Char.ofNat 108,Char.ofNat 97,Char.ofNat 119,Char.ofNat 50,Char.ofNat 51,Char.ofNat 46,Char.ofNat 84,Char.ofNat 101,Char.ofNat 115,Char.ofNat 116,Char.ofNat 101,Char.ofNat 114,Char.ofNat 87,Char.ofNat 104,Char.ofNat 111,Char.ofNat 108,Char.ofNat 101]
def w15 : List Char := [Char.ofNat 112,Char.ofNat 104,Char.ofNat 97,Char.ofNat 101,Char.ofNat 116,Char.ofNat 111,Char.ofNat 110,Char.ofNat 47,Char.ofNat 112,Char.ofNat 104,Char.ofNat 97,Char.ofNat 101,Char.ofNat 116,Char.ofNat 111,Char.ofNat 110,Char.ofNat 108,Char.ofNat 97,Char.ofNat 119,Char.ofNat 50,Char.ofNat 51,Char.ofNat 46,Char.ofNat 84,Char.ofNat 101,Char.ofNat 115,Char.ofNat 116,Char.ofNat 101,Char.ofNat 114,Char.ofNat 89,Char.ofNat 101,Char.ofNat 115]
def w16 : List Char := [Char.ofNat 112,Char.ofNat 104,Char.ofNat 97,Char.ofNat 101,Char.ofNat 116,Char.ofNat 111,Char.ofNat 110,Char.ofNat 47,Char.ofNat 112,Char.ofNat 104,Char.ofNat 97,Char.ofNat 101,Char.ofNat 116,Char.ofNat 111,Char.ofNat 110,Char.ofNat 108,Char.ofNat 97,Char.ofNat 119,Char.ofNat 50,Char.ofNat 51,Char.ofNat 46,Char.ofNat 84,Char.ofNat 101,Char.ofNat 115,Char.ofNat 116,Char.ofNat 101,Char.ofNat 114,Char.ofNat 79,Char.ofNat 112,Char.ofNat 101,Char.ofNat 110,Char.ofNat 115]
def w17 : List Char := [Char.ofNat 112,Char.ofNat 104,Char.ofNat 97,Char.ofNat 101,Char.ofNat 116,Char.ofNat 111,Char.ofNat 110,Char.ofNat 47,Char.ofNat 112,Char.ofNat 104,Char.ofNat 97,Char.ofNat 101,Char.ofNat 116,Char.ofNat 111,Char.ofNat 110,Char.ofNat 108,Char.ofNat 97,Char.ofNat 119,Char.ofNat 50,Char.ofNat 51,Char.ofNat 46,Char.ofNat 84,Char.ofNat 101,Char.ofNat 115,Char.ofNat 116,Char.ofNat 101,Char.ofNat 114,Char.ofNat 73,Char.ofNat 116,Char.ofNat 101,Char.ofNat 109]
def w18 : List Char := [Char.ofNat 112,Char.ofNat 104,Char.ofNat 97,Char.ofNat 101,Char.ofNat 116,Char.ofNat 111,Char.ofNat 110,Char.ofNat 47,Char.ofNat 112,Char.ofNat 104,Char.ofNat 97,Char.ofNat 101,Char.ofNat 116,Char.ofNat 111,Char.ofNat 110,Char.ofNat 108,Char.ofNat 97,Char.ofNat 119,Char.ofNat 50,Char.ofNat 51,Char.ofNat 46,Char.ofNat 84,Char.ofNat 101,Char.ofNat 115,Char.ofNat 116,Char.ofNat 101,Char.ofNat 114,Char.ofNat 66,Char.ofNat 121,Char.ofNat 116,Char.ofNat 101,Char.ofNat 115]
def w19 : List Char := [Char.ofNat 112,Char.ofNat 104,Char.ofNat 97,Char.ofNat 101,Char.ofNat 116,Char.ofNat 111,Char.ofNat 110,Char.ofNat 47,Char.ofNat 112,Char.ofNat 104,Char.ofNat 97,Char.ofNat 101,Char.ofNat 116,Char.ofNat 111,Char.ofNat 110,Char.ofNat 108,Char.ofNat 97,Char.ofNat 119,Char.ofNat 50,Char.ofNat 51,Char.ofNat 46,Char.ofNat 84,Char.ofNat 101,Char.ofNat 115,Char.ofNat 116,Char.ofNat 101,Char.ofNat 114,Char.ofNat 72,Char.ofNat 97,Char.ofNat 110,Char.ofNat 100,Char.ofNat 115]
def w20 : List Char := [Char.ofNat 112,Char.ofNat 104,Char.ofNat 97,Char.ofNat 101,Char.ofNat 116,Char.ofNat 111,Char.ofNat 110,Char.ofNat 47,Char.ofNat 112,Char.ofNat 104,Char.ofNat 97,Char.ofNat 101,Char.ofNat 116,Char.ofNat 111,Char.ofNat 110,Char.ofNat 116,Char.ofNat 111,Char.ofNat 112,Char.ofNat 46,Char.ofNat 84,Char.ofNat 111,Char.ofNat 112,Char.ofNat 83,Char.ofNat 104,Char.ofNat 117,Char.ofNat 116]
def w21 : List Char := [Char.ofNat 112,Char.ofNat 104,Char.ofNat 97,Char.ofNat 101,Char.ofNat 116,Char.ofNat 111,Char.ofNat 110,Char.ofNat 47,Char.ofNat 112,Char.ofNat 104,Char.ofNat 97,Char.ofNat 101,Char.ofNat 116,Char.ofNat 111,Char.ofNat 110,Char.ofNat 116,Char.ofNat 111,Char.ofNat 112,Char.ofNat 46,Char.ofNat 84,Char.ofNat 111,Char.ofNat 112,Char.ofNat 84,Char.ofNat 101,Char.ofNat 120,Char.ofNat 116]
def w22 : List Char := [Char.ofNat 112,Char.ofNat 104,Char.ofNat 97,Char.ofNat 101,Char.ofNat 116,Char.ofNat 111,Char.ofNat 110,Char.ofNat 47,Char.ofNat 112,Char.ofNat 104,Char.ofNat 97,Char.ofNat 101,Char.ofNat 116,Char.ofNat 111,Char.ofNat 110,Char.ofNat 116,Char.ofNat 111,Char.ofNat 112,Char.ofNat 46,Char.ofNat 84,Char.ofNat 111,Char.ofNat 112,Char.ofNat 78,Char.ofNat 117,Char.ofNat 109,Char.ofNat 98,Char.ofNat 101,Char.ofNat 114]
def w23 : List Char := [Char.ofNat 112,Char.ofNat 104,Char.ofNat 97,Char.ofNat 101,Char.ofNat 116,Char.ofNat 111,Char.ofNat 110,Char.ofNat 47,Char.ofNat 112,Char.ofNat 104,Char.ofNat 97,Char.ofNat 101,Char.ofNat 116,Char.ofNat 111,Char.ofNat 110,Char.ofNat 116,Char.ofNat 111,Char.ofNat 112,Char.ofNat 46,Char.ofNat 84,Char.ofNat 111,Char.ofNat 112,Char.ofNat 73,Char.ofNat 110,Char.ofNat 115,Char.ofNat 105,Char.ofNat 115,Char.ofNat 116,Char.ofNat 115]
def w24 : List Char := [Char.ofNat 112,Char.ofNat 104,Char.ofNat 97,Char.ofNat 101,Char.ofNat 116,Char.ofNat 111,Char.ofNat 110,Char.ofNat 47,Char.ofNat 112,Char.ofNat 104,Char.ofNat 97,Char.ofNat 101,Char.ofNat 116,Char.ofNat 111,Char.ofNat 110,Char.ofNat 116,Char.ofNat 111,Char.ofNat 112,Char.ofNat 46,Char.ofNat 84,Char.ofNat 111,Char.ofNat 112,Char.ofNat 87,Char.ofNat 114,Char.ofNat 105,Char.ofNat 116,Char.ofNat 116,Char.ofNat 101,Char.ofNat 110]
def w25 : List Char := [Char.ofNat 112,Char.ofNat 104,Char.ofNat 97,Char.ofNat 101,Char.ofNat 116,Char.ofNat 111,Char.ofNat 110,Char.ofNat 47,Char.ofNat 112,Char.ofNat 104,Char.ofNat 97,Char.ofNat 101,Char.ofNat 116,Char.ofNat 111,Char.ofNat 110,Char.ofNat 116,Char.ofNat 111,Char.ofNat 112,Char.ofNat 46,Char.ofNat 84,Char.ofNat 111,Char.ofNat 112,Char.ofNat 71,Char.ofNat 117,Char.ofNat 101,Char.ofNat 115,Char.ofNat 115,Char.ofNat 101,Char.ofNat 100]
def w26 : List Char := [Char.ofNat 112,Char.ofNat 104,Char.ofNat 97,Char.ofNat 101,Char.ofNat 116,Char.ofNat 111,Char.ofNat 110,Char.ofNat 47,Char.ofNat 112,Char.ofNat 104,Char.ofNat 97,Char.ofNat 101,Char.ofNat 116,Char.ofNat 111,Char.ofNat 110,Char.ofNat 116,Char.ofNat 111,Char.ofNat 112,Char.ofNat 46,Char.ofNat 84,Char.ofNat 111,Char.ofNat 112,Char.ofNat 84,Char.ofNat 114,Char.ofNat 111,Char.ofNat 117,Char.ofNat 98,Char.ofNat 108,Char.ofNat 101,Char.ofNat 115]
theorem text : Try.prog.initOrder = String.ofList (w0 ++ sp :: (w1 ++ sp :: (w2 ++ sp :: (w3 ++ sp :: (w4 ++ sp :: (w5 ++ sp :: (w6 ++ sp :: (w7 ++ sp :: (w8 ++ sp :: (w9 ++ sp :: (w10 ++ sp :: (w11 ++ sp :: (w12 ++ sp :: (w13 ++ sp :: (w14 ++ sp :: (w15 ++ sp :: (w16 ++ sp :: (w17 ++ sp :: (w18 ++ sp :: (w19 ++ sp :: (w20 ++ sp :: (w21 ++ sp :: (w22 ++ sp :: (w23 ++ sp :: (w24 ++ sp :: (w25 ++ sp :: (w26))))))))))))))))))))))))))) := by kernel_rfl
theorem words : wordsSigns Try.prog.initOrder.toList = [w0,w1,w2,w3,w4,w5,w6,w7,w8,w9,w10,w11,w12,w13,w14,w15,w16,w17,w18,w19,w20,w21,w22,w23,w24,w25,w26] := by
  rw [text, String.toList_ofList]
  rw [words_cons w0 _ (by decide +kernel)]
  rw [words_cons w1 _ (by decide +kernel)]
  rw [words_cons w2 _ (by decide +kernel)]
  rw [words_cons w3 _ (by decide +kernel)]
  rw [words_cons w4 _ (by decide +kernel)]
  rw [words_cons w5 _ (by decide +kernel)]
  rw [words_cons w6 _ (by decide +kernel)]
  rw [words_cons w7 _ (by decide +kernel)]
  rw [words_cons w8 _ (by decide +kernel)]
  rw [words_cons w9 _ (by decide +kernel)]
  rw [words_cons w10 _ (by decide +kernel)]
  rw [words_cons w11 _ (by decide +kernel)]
  rw [words_cons w12 _ (by decide +kernel)]
  rw [words_cons w13 _ (by decide +kernel)]
  rw [words_cons w14 _ (by decide +kernel)]
  rw [words_cons w15 _ (by decide +kernel)]
  rw [words_cons w16 _ (by decide +kernel)]
  rw [words_cons w17 _ (by decide +kernel)]
  rw [words_cons w18 _ (by decide +kernel)]
  rw [words_cons w19 _ (by decide +kernel)]
  rw [words_cons w20 _ (by decide +kernel)]
  rw [words_cons w21 _ (by decide +kernel)]
  rw [words_cons w22 _ (by decide +kernel)]
  rw [words_cons w23 _ (by decide +kernel)]
  rw [words_cons w24 _ (by decide +kernel)]
  rw [words_cons w25 _ (by decide +kernel)]
  rw [words_last w26 (by decide +kernel)]
def rest : List (List Char) := [w3, w4, w5, w6, w7, w8, w9, w10, w11, w12, w13, w14, w15, w16, w17, w18, w19, w20, w21, w22, w23, w24, w25, w26]
theorem told : behindMainWord (wordsSigns Try.prog.initOrder.toList) = w2 :: rest := by
  rw [words]
  kernel_rfl
theorem lays : Try.prog.laysLater = false := by kernel_rfl
theorem reflects : Try.prog.bearsReflect = false := by kernel_rfl
theorem strip : stripLifts liftWords (w2 :: rest) = ([], w2 :: rest) := by kernel_rfl
theorem door : Try.prog.doorFits [] = true := by kernel_rfl
theorem mayEnter : Try.prog.mayEnter = true := by
  unfold Program.mayEnter
  rw [told]
  show ((_ : Bool) = true)
  simp only [strip, lays, reflects, door]
  kernel_rfl
theorem headLifts : Try.prog.headLifts = [] := by
  unfold Program.headLifts
  rw [told]
  simp only [strip]
  kernel_rfl
theorem liftsFinal : Try.prog.liftsFinal = false := by
  unfold Program.liftsFinal
  rw [told, headLifts]
  kernel_rfl
end Go.Proofs.Ythjnlggommennaa.cutWords
