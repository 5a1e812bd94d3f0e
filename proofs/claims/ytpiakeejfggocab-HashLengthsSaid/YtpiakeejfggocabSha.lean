/- The digest as a plain function of bytes. -/
import Derived.Test.YtpiakeejfggocabNum
import Derived.Test.YtpiakeejfggocabBit
import Derived.KernelRfl
set_option linter.unusedVariables false
set_option linter.unusedSimpArgs false
namespace Go.Proofs.Ytpiakeejfggocab.Sha
open Go Go.RowKit Go.Proofs.YtpiakeejfggocabW.PrintWords Go.Proofs.YtpiakeejfggocabW.PrintLast Go.Proofs.YtpiakeejfggocabW.PrintMore Go.Proofs.Ytpiakeejfggocab.Num

def init : List Int := [1779033703, 3144134277, 1013904242, 2773480762, 1359893119, 2600822924, 528734635, 1541459225]
/-! ### Blocks, one after the other -/
section
variable (blk : List Int → List Int → List Int)
def runN : Nat → List Int → List Int → List Int
  | 0, h, _ => h
  | n + 1, h, m => runN n (blk h (m.take 64)) (m.drop 64)
theorem runN_add : ∀ (a b : Nat) (h m : List Int), runN blk (a + b) h m = runN blk b (runN blk a h m) (m.drop (64 * a))
  | 0, b, h, m => by simp [runN]
  | a + 1, b, h, m => by
    rw [show a + 1 + b = (a + b) + 1 by omega]
    simp only [runN]
    rw [runN_add a b, List.drop_drop]
    congr 2
    omega
theorem runN_append : ∀ (a : Nat) (h m x : List Int), 64 * a ≤ m.length → runN blk a h (m ++ x) = runN blk a h m
  | 0, _, _, _, _ => rfl
  | a + 1, h, m, x, hl => by
    simp only [runN]
    rw [List.take_append_of_le_length (by omega), List.drop_append_of_le_length (by omega), runN_append a _ _ _ (by rw [List.length_drop]; omega)]
/-- The state behind the whole blocks of m, and what is left of m. -/
def mid (m : List Int) : List Int := runN blk (m.length / 64) init m
def left (m : List Int) : List Int := m.drop (64 * (m.length / 64))
theorem left_len (m : List Int) : (left m).length = m.length % 64 := by unfold left; rw [List.length_drop]; omega
theorem run_more (m x : List Int) : runN blk ((m ++ x).length / 64) init (m ++ x) = runN blk ((left m ++ x).length / 64) (mid blk m) (left m ++ x) := by
  have e : (m ++ x).length / 64 = m.length / 64 + (left m ++ x).length / 64 := by
    rw [List.length_append, List.length_append, left_len]; omega
  have hl : 64 * (m.length / 64) ≤ m.length := by omega
  rw [e, runN_add, runN_append blk _ _ _ _ hl, List.drop_append_of_le_length hl]
  rfl
theorem mid_more (m x : List Int) : mid blk (m ++ x) = runN blk ((left m ++ x).length / 64) (mid blk m) (left m ++ x) := run_more blk m x
theorem left_more (m x : List Int) : left (m ++ x) = (left m ++ x).drop (64 * ((left m ++ x).length / 64)) := by
  have hl : 64 * (m.length / 64) ≤ m.length := by omega
  have e : 64 * ((m ++ x).length / 64) = 64 * (m.length / 64) + 64 * ((left m ++ x).length / 64) := by
    rw [List.length_append, List.length_append, left_len]; omega
  have h2 : (left m ++ x) = (m ++ x).drop (64 * (m.length / 64)) := by unfold left; rw [List.drop_append_of_le_length hl]
  unfold left at *
  rw [e, h2, List.drop_drop]
def zs (n : Nat) : Nat := (119 - n % 64) % 64
def len8 (n : Nat) : List Int := (List.range 8).map fun i => (((8 * n) / 256 ^ (7 - i) % 256 : Nat) : Int)
def pad (n : Nat) : List Int := 128 :: (List.replicate (zs n) 0 ++ len8 n)
theorem pad_len (n : Nat) : (pad n).length = 9 + zs n := by unfold pad len8; simp; omega
theorem pad_whole (m : List Int) : (m ++ pad m.length).length % 64 = 0 := by rw [List.length_append, pad_len]; unfold zs; omega
def out (h : List Int) : List Int := h.flatMap fun x => [x / 16777216 % 256, x / 65536 % 256, x / 256 % 256, x % 256]
def sha (m : List Int) : List Int := out (runN blk ((m ++ pad m.length).length / 64) init (m ++ pad m.length))
theorem sha_left (m : List Int) : sha blk m = out (runN blk ((left m ++ pad m.length).length / 64) (mid blk m) (left m ++ pad m.length)) := by unfold sha; rw [run_more]
theorem tail_whole (m : List Int) : (left m ++ pad m.length).length % 64 = 0 := by rw [List.length_append, pad_len, left_len]; unfold zs; omega
end
end Go.Proofs.Ytpiakeejfggocab.Sha
