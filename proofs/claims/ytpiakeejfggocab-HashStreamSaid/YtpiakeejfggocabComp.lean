/- SHA-256's function of a block as a plain function, and that the program's comes to it. -/
import Derived.Test.YtpiakeejfggocabQx3
import Derived.Test.YtpiakeejfggocabStrm
set_option linter.unusedVariables false
set_option linter.unusedSimpArgs false
namespace Go.Proofs.Ytpiakeejfggocab.Comp
open Go Go.RowKit Go.Proofs.YtpiakeejfggocabW.PrintWords Go.Proofs.YtpiakeejfggocabW.PrintLast Go.Proofs.YtpiakeejfggocabW.PrintMore Go.Proofs.Ytpiakeejfggocab.Num Go.Proofs.Ytpiakeejfggocab.Sha Go.Proofs.Ytpiakeejfggocab.Strm

def word (g : Int → Int) (i : Int) : Int := Go.bits .or .u32 (Go.bits .or .u32 (Go.bits .or .u32 (((g (4 * i) % 4294967296) * 16777216) % 4294967296) (((g (4 * i + 1) % 4294967296) * 65536) % 4294967296)) (((g (4 * i + 2) % 4294967296) * 256) % 4294967296)) (g (4 * i + 3) % 4294967296)
def s0 (x : Int) : Int := (Go.bits .xor .u32 (Go.bits .xor .u32 (Go.bits .or .u32 (x / 128) ((x * 33554432) % 4294967296)) (Go.bits .or .u32 (x / 262144) ((x * 16384) % 4294967296))) (x / 8))
def s1 (x : Int) : Int := (Go.bits .xor .u32 (Go.bits .xor .u32 (Go.bits .or .u32 (x / 131072) ((x * 32768) % 4294967296)) (Go.bits .or .u32 (x / 524288) ((x * 8192) % 4294967296))) (x / 1024))
def b0 (x : Int) : Int := (Go.bits .xor .u32 (Go.bits .xor .u32 (Go.bits .or .u32 (x / 4) ((x * 1073741824) % 4294967296)) (Go.bits .or .u32 (x / 8192) ((x * 524288) % 4294967296))) (Go.bits .or .u32 (x / 4194304) ((x * 1024) % 4294967296)))
def b1 (x : Int) : Int := (Go.bits .xor .u32 (Go.bits .xor .u32 (Go.bits .or .u32 (x / 64) ((x * 67108864) % 4294967296)) (Go.bits .or .u32 (x / 2048) ((x * 2097152) % 4294967296))) (Go.bits .or .u32 (x / 33554432) ((x * 128) % 4294967296)))
def ch (e f g : Int) : Int := Go.bits .xor .u32 (Go.bits .and .u32 e f) (Go.bits .and .u32 (Go.bits .xor .u32 4294967295 e) g)
def maj (a b c : Int) : Int := Go.bits .xor .u32 (Go.bits .xor .u32 (Go.bits .and .u32 a b) (Go.bits .and .u32 a c)) (Go.bits .and .u32 b c)
def fillA (g : Int → Int) : Nat → Nat → List Int → List Int
  | 0, _, w => w
  | d + 1, i, w => fillA g d (i + 1) (w.set i (word g i))
def nxt (w : List Int) (i : Nat) : Int := (((rd w ((i : Int) - 16) + s0 (rd w ((i : Int) - 15))) + rd w ((i : Int) - 7)) + s1 (rd w ((i : Int) - 2))) % 4294967296
def fillB : Nat → Nat → List Int → List Int
  | 0, _, w => w
  | d + 1, i, w => fillB d (i + 1) (w.set i (nxt w i))
def t1 (w : List Int) (i : Nat) (e f g h : Int) : Int := (((h + b1 e) + ch e f g) + rd Hand.K64 i) + rd w i
def rnd (w : List Int) : Nat → Nat → Int → Int → Int → Int → Int → Int → Int → Int → List Int
  | 0, _, a, b, c, d, e, f, g, h => [a, b, c, d, e, f, g, h]
  | n + 1, i, a, b, c, d, e, f, g, h => rnd w n (i + 1) ((t1 w i e f g h + (b0 a + maj a b c)) % 4294967296) a b c ((d + t1 w i e f g h) % 4294967296) e f g
def sched (g : Int → Int) : List Int := fillB 48 16 (fillA g 16 0 (List.replicate 64 0))
def compG (h : List Int) (g : Int → Int) : List Int := List.zipWith (fun x y => (x + y) % 4294967296) h (rnd (sched g) 64 0 (wd h 0) (wd h 1) (wd h 2) (wd h 3) (wd h 4) (wd h 5) (wd h 6) (wd h 7))
def comp (h m : List Int) : List Int := compG h (rd m)
theorem rnd_len (w : List Int) : ∀ n i a b c d e f g h, (rnd w n i a b c d e f g h).length = 8
  | 0, _, _, _, _, _, _, _, _, _ => rfl
  | n + 1, i, a, b, c, d, e, f, g, h => rnd_len w n (i + 1) _ _ _ _ _ _ _ _
theorem comp_good (h m : List Int) (hg : Strm.Good h) : Strm.Good (comp h m) := by
  refine ⟨by unfold comp compG; rw [List.length_zipWith, rnd_len, hg.1]; rfl, ?_⟩
  intro x hx
  unfold comp compG at hx
  obtain ⟨i, hi, rfl⟩ := List.mem_iff_getElem.1 hx
  rw [List.getElem_zipWith]
  omega
theorem turn_at (x n : Int) (a b : Int) (h0 : 0 ≤ n) (h1 : 0 ≤ IntKind.u64.wrap (32 - n)) (h2 : shr .u32 x n = a) (h3 : shl .u32 x (IntKind.u64.wrap (32 - n)) = b) : Q.hash_turn.f x n = some (Go.bits .or .u32 a b) := by
  unfold Q.hash_turn.f
  rw [if_pos h0, if_pos h1, h2, h3]
theorem turn2 (x : Int) : Q.hash_turn.f x 2 = some (Go.bits .or .u32 (x / 4) ((x * 1073741824) % 4294967296)) := turn_at x 2 _ _ (by decide) (by decide) (by first | rfl | (unfold shr; rfl)) (by first | rfl | (unfold shl; rfl))
theorem turn6 (x : Int) : Q.hash_turn.f x 6 = some (Go.bits .or .u32 (x / 64) ((x * 67108864) % 4294967296)) := turn_at x 6 _ _ (by decide) (by decide) (by first | rfl | (unfold shr; rfl)) (by first | rfl | (unfold shl; rfl))
theorem turn7 (x : Int) : Q.hash_turn.f x 7 = some (Go.bits .or .u32 (x / 128) ((x * 33554432) % 4294967296)) := turn_at x 7 _ _ (by decide) (by decide) (by first | rfl | (unfold shr; rfl)) (by first | rfl | (unfold shl; rfl))
theorem turn11 (x : Int) : Q.hash_turn.f x 11 = some (Go.bits .or .u32 (x / 2048) ((x * 2097152) % 4294967296)) := turn_at x 11 _ _ (by decide) (by decide) (by first | rfl | (unfold shr; rfl)) (by first | rfl | (unfold shl; rfl))
theorem turn13 (x : Int) : Q.hash_turn.f x 13 = some (Go.bits .or .u32 (x / 8192) ((x * 524288) % 4294967296)) := turn_at x 13 _ _ (by decide) (by decide) (by first | rfl | (unfold shr; rfl)) (by first | rfl | (unfold shl; rfl))
theorem turn17 (x : Int) : Q.hash_turn.f x 17 = some (Go.bits .or .u32 (x / 131072) ((x * 32768) % 4294967296)) := turn_at x 17 _ _ (by decide) (by decide) (by first | rfl | (unfold shr; rfl)) (by first | rfl | (unfold shl; rfl))
theorem turn18 (x : Int) : Q.hash_turn.f x 18 = some (Go.bits .or .u32 (x / 262144) ((x * 16384) % 4294967296)) := turn_at x 18 _ _ (by decide) (by decide) (by first | rfl | (unfold shr; rfl)) (by first | rfl | (unfold shl; rfl))
theorem turn19 (x : Int) : Q.hash_turn.f x 19 = some (Go.bits .or .u32 (x / 524288) ((x * 8192) % 4294967296)) := turn_at x 19 _ _ (by decide) (by decide) (by first | rfl | (unfold shr; rfl)) (by first | rfl | (unfold shl; rfl))
theorem turn22 (x : Int) : Q.hash_turn.f x 22 = some (Go.bits .or .u32 (x / 4194304) ((x * 1024) % 4294967296)) := turn_at x 22 _ _ (by decide) (by decide) (by first | rfl | (unfold shr; rfl)) (by first | rfl | (unfold shl; rfl))
theorem turn25 (x : Int) : Q.hash_turn.f x 25 = some (Go.bits .or .u32 (x / 33554432) ((x * 128) % 4294967296)) := turn_at x 25 _ _ (by decide) (by decide) (by first | rfl | (unfold shr; rfl)) (by first | rfl | (unfold shl; rfl))
theorem wr (n : Int) (h0 : -1000 ≤ n) (h1 : n ≤ 1000) : wrap64 n = n := w64 n (by omega) (by omega)
theorem set_i (w : List Int) (i : Nat) (v : Int) : w.set ((i : Int) : Int).toNat v = w.set i v := by rw [Int.toNat_natCast]
/-! ### The program's -/
section
variable {x0 x1 x2 x3 x4 x5 x6 x7 : Int} {r : Int × Int × Int × Int × Int × Int × Int × Int}
theorem b_l0 (m : List Int) (hm : m.length = 64) : ∀ (d i : Nat) (w : List Int), i + d = 16 → (∃ k, Q.hash_state_block.l1 k (fillA (rd m) d i w) 16 x0 x1 x2 x3 x4 x5 x6 x7 = some r) → ∃ k, Q.hash_state_block.l0 k m w i x0 x1 x2 x3 x4 x5 x6 x7 = some r
  | 0, i, w, hi, ⟨k, hk⟩ => ⟨k + 1, by
      simp only [Q.hash_state_block.l0]
      rw [if_neg (by omega)]
      exact hk⟩
  | d + 1, i, w, hi, hk => by
    obtain ⟨k, hk⟩ := b_l0 m hm d (i + 1) (w.set i (word (rd m) i)) (by omega) hk
    refine ⟨k + 1, ?_⟩
    simp only [Q.hash_state_block.l0]
    rw [wr (4 * (i : Int)) (by omega) (by omega), wr (4 * (i : Int) + 1) (by omega) (by omega), wr (4 * (i : Int) + 2) (by omega) (by omega), wr (4 * (i : Int) + 3) (by omega) (by omega), wr ((i : Int) + 1) (by omega) (by omega)]
    rw [if_pos (by omega), if_pos (by omega), if_pos (by omega), if_pos (by omega), if_pos (by omega), if_pos (by omega), if_pos (by omega), if_pos (by omega), if_pos (by omega), if_pos (by omega), if_pos (by omega), set_i]
    exact hk
theorem b_l1 : ∀ (d i : Nat) (w : List Int), i + d = 64 → 16 ≤ i → (∃ k, Q.hash_state_block.l2 k (fillB d i w) Hand.K64 0 x0 x1 x2 x3 x4 x5 x6 x7 x0 x1 x2 x3 x4 x5 x6 x7 = some r) → ∃ k, Q.hash_state_block.l1 k w i x0 x1 x2 x3 x4 x5 x6 x7 = some r
  | 0, i, w, hi, h16, ⟨k, hk⟩ => ⟨k + 1, by
      simp only [Q.hash_state_block.l1]
      rw [if_neg (by omega), show Hand.hash_rounds.f = some Hand.K64 from rfl]
      simp only [Option.bind_some]
      rw [if_pos (by decide)]
      exact hk⟩
  | d + 1, i, w, hi, h16, hk => by
    obtain ⟨k, hk⟩ := b_l1 d (i + 1) (w.set i (nxt w i)) (by omega) (by omega) hk
    refine ⟨k + 1, ?_⟩
    simp only [Q.hash_state_block.l1]
    rw [wr ((i : Int) - 15) (by omega) (by omega), wr ((i : Int) - 2) (by omega) (by omega), wr ((i : Int) - 16) (by omega) (by omega), wr ((i : Int) - 7) (by omega) (by omega), wr ((i : Int) + 1) (by omega) (by omega)]
    rw [if_pos (by omega), if_pos (by omega), if_pos (by omega), turn7, Option.bind_some, turn18, Option.bind_some, if_pos (by omega), if_pos (by omega), turn17, Option.bind_some, turn19, Option.bind_some, if_pos (by omega), if_pos (by omega), if_pos (by omega), if_pos (by omega), if_pos (by omega), if_pos (by omega), set_i]
    exact hk
theorem b_l2 (w : List Int) : ∀ (n i : Nat) (a b c d e f g h : Int), i + n = 64 → (∀ a' b' c' d' e' f' g' h', rnd w n i a b c d e f g h = [a', b', c', d', e', f', g', h'] → ∃ k, Q.hash_state_block.l3 k 0 x0 x1 x2 x3 x4 x5 x6 x7 a' b' c' d' e' f' g' h' = some r) → ∃ k, Q.hash_state_block.l2 k w Hand.K64 i x0 x1 x2 x3 x4 x5 x6 x7 a b c d e f g h = some r
  | 0, i, a, b, c, d, e, f, g, h, hi, hk => by
    obtain ⟨k, hk⟩ := hk a b c d e f g h rfl
    refine ⟨k + 1, ?_⟩
    simp only [Q.hash_state_block.l2]
    rw [if_neg (by omega)]
    exact hk
  | n + 1, i, a, b, c, d, e, f, g, h, hi, hk => by
    obtain ⟨k, hk⟩ := b_l2 w n (i + 1) ((t1 w i e f g h + (b0 a + maj a b c)) % 4294967296) a b c ((d + t1 w i e f g h) % 4294967296) e f g (by omega) hk
    refine ⟨k + 1, ?_⟩
    simp only [Q.hash_state_block.l2]
    rw [wr ((i : Int) + 1) (by omega) (by omega)]
    rw [if_pos (by omega), turn6, Option.bind_some, turn11, Option.bind_some, turn25, Option.bind_some, if_pos (by omega), if_pos (by omega), turn2, Option.bind_some, turn13, Option.bind_some, turn22, Option.bind_some]
    rw [← Int.add_assoc] at hk
    exact hk
theorem b_l3 (a b c d e f g h : Int) : ∃ k, Q.hash_state_block.l3 k 0 x0 x1 x2 x3 x4 x5 x6 x7 a b c d e f g h = some ((a + x0) % 4294967296, (b + x1) % 4294967296, (c + x2) % 4294967296, (d + x3) % 4294967296, (e + x4) % 4294967296, (f + x5) % 4294967296, (g + x6) % 4294967296, (h + x7) % 4294967296) := ⟨9, by
  simp [Q.hash_state_block.l3, wrap64]⟩
end
theorem wd_zip (h v : List Int) (hh : h.length = 8) (hv : v.length = 8) (i : Nat) (hi : i < 8) : wd (List.zipWith (fun x y => (x + y) % 4294967296) h v) i = (wd v i + wd h i) % 4294967296 := by
  unfold wd
  simp only [List.getD_eq_getElem?_getD]
  rw [List.getElem?_eq_getElem (by rw [List.length_zipWith]; omega), List.getElem?_eq_getElem (by omega), List.getElem?_eq_getElem (by omega), List.getElem_zipWith]
  simp only [Option.getD_some]
  rw [Int.add_comm]
theorem list8 {v : List Int} (h : v.length = 8) : v = [wd v 0, wd v 1, wd v 2, wd v 3, wd v 4, wd v 5, wd v 6, wd v 7] := by
  match v, h with
  | [a, b, c, d, e, f, g, i], _ => rfl
theorem comp_ok : BlkOk comp where
  good := comp_good
  run := by
    intro h m hg hm hB
    unfold Q.hash_state_block.f
    refine b_l0 m hm 16 0 _ rfl (b_l1 48 16 _ rfl (by decide) (b_l2 _ 64 0 _ _ _ _ _ _ _ _ rfl ?_))
    intro a b c d e f g i hr
    obtain ⟨k, hk⟩ := b_l3 (x0 := wd h 0) (x1 := wd h 1) (x2 := wd h 2) (x3 := wd h 3) (x4 := wd h 4) (x5 := wd h 5) (x6 := wd h 6) (x7 := wd h 7) a b c d e f g i
    refine ⟨k, hk.trans ?_⟩
    have hv := rnd_len (sched (rd m)) 64 0 (wd h 0) (wd h 1) (wd h 2) (wd h 3) (wd h 4) (wd h 5) (wd h 6) (wd h 7)
    unfold comp compG
    rw [wd_zip _ _ hg.1 hv 0 (by decide), wd_zip _ _ hg.1 hv 1 (by decide), wd_zip _ _ hg.1 hv 2 (by decide), wd_zip _ _ hg.1 hv 3 (by decide), wd_zip _ _ hg.1 hv 4 (by decide), wd_zip _ _ hg.1 hv 5 (by decide), wd_zip _ _ hg.1 hv 6 (by decide), wd_zip _ _ hg.1 hv 7 (by decide)]
    have hr' : rnd (sched (rd m)) 64 0 (wd h 0) (wd h 1) (wd h 2) (wd h 3) (wd h 4) (wd h 5) (wd h 6) (wd h 7) = [a, b, c, d, e, f, g, i] := hr
    rw [hr']
    rfl
end Go.Proofs.Ytpiakeejfggocab.Comp
