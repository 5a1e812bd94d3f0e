/- Contracts of this session's own: library functions by the shelf's contracts. -/
import Derived.Test.YtcmmlemajlhjoaaDoorProg
import Derived.Test.YtcmmlemajlhjoaaDoorExtR
import Derived.Test.YtcmmlemajlhjoaaDoorShelf
import Derived.Below
import Derived.Tactics
import Derived.WalkKit
import Derived.KernelRfl
import Derived.RowKit3
import Derived.Deep.QuietTactic
import Derived.BigQuiet
import Derived.Lib.ConvBytes
import Derived.Lib.Hide
import Derived.LoopTactic
import Derived.RowKit
import Derived.Sort.Grow
set_option linter.unusedVariables false
set_option linter.unusedSimpArgs false
namespace Go.Proofs.YtcmmlemajlhjoaaDoor.Hand
open Go Go.RowKit Go.Proofs.YtcmmlemajlhjoaaDoorW.PrintWords Go.Proofs.YtcmmlemajlhjoaaDoorW.PrintLast Go.Proofs.YtcmmlemajlhjoaaDoorW.PrintMore

def strings_Split.f (s t : ByteArray) : Option (List ByteArray) := if s.size < 4294967281 then (if 1 ≤ t.size then some (Go.Lib.splitB t 0 (Go.Lib.countB s t) s) else none) else none
theorem strings_Split.calls (s t : ByteArray) (r : List ByteArray) (w : World) (hG_ : Ext.G w) (h : strings_Split.f s t = some r) :
    Calls Tryd.prog 29 #[.string s, .string t] w fun e w' => ∃ v0_ : Value, e = .returned (v0_) ∧ Kd.R Kd.string 9 w' w.heap.size (fun _ => True) v0_ r ∧ Below w.heap.size w w' := by
  unfold strings_Split.f at h
  split at h
  · rename_i hs
    split at h
    · rename_i ht
      obtain rfl := Option.some.inj h
      obtain ⟨m, hm⟩ := hG_.out
      refine (Tryd.strings_Split s t m w hs hm ht).mono ?_
      rintro e w' ⟨rfl, rfl⟩
      have hlen := Go.Lib.splitB_all t ht 0 _ s rfl
      have hle := Go.Lib.countB_le t ht s.size s (Nat.le_refl _)
      refine ⟨_, rfl, ?_, below_alloc (Below.refl _ _) _⟩
      rw [← hlen]
      exact Kd.R_of_own (own_lit_of (enc := Value.string) w w.heap.size 9 _ (Nat.le_refl _) (by omega)) (fun _ _ => trivial)
    · cases h
  · cases h

def strconv_Itoa.f (n : Int) : Option ByteArray := if -9223372036854775808 ≤ n then (if n ≤ 9223372036854775807 then some ⟨(Go.Lib.itoa n).toArray⟩ else none) else none
theorem below_more (w : World) (k : Nat) (os : Array Obj) : Below w.heap.size w (Go.Sort.grow (w.drewN k) os) :=
  ⟨rfl, rfl, rfl, by show w.heap.size ≤ (w.heap ++ os).size; rw [Array.size_append]; omega, fun i hi => by
    show (w.heap ++ os)[i]? = w.heap[i]?
    exact Array.getElem?_append_left hi⟩
theorem strconv_Itoa.calls (n : Int) (r : ByteArray) (w : World) (hG_ : Ext.G w) (h : strconv_Itoa.f n = some r) :
    Calls Tryd.prog 27 #[.int .i64 n] w fun e w' => e = .returned (.string r) ∧ Below w.heap.size w w' := by
  unfold strconv_Itoa.f at h
  split at h
  · rename_i h0
    split at h
    · rename_i h1
      obtain rfl := Option.some.inj h
      refine (Tryd.strconv_Itoa n h0 h1 w hG_.tab).mono ?_
      rintro e w' ⟨rfl, k, os, rfl⟩
      exact ⟨rfl, below_more w k os⟩
    · cases h
  · cases h
def joinB (xs : List ByteArray) (sep : ByteArray) : ByteArray := ⟨(Go.Lib.join (xs.map (·.data.toList)) sep.data.toList).toArray⟩
def strings_Join.f (xs : List ByteArray) (sep : ByteArray) : Option ByteArray := if xs.length ≤ 140737488355328 then (if (Go.Lib.join (xs.map (·.data.toList)) sep.data.toList).length ≤ 140737488355328 then some (joinB xs sep) else none) else none
theorem strings_Join.calls (A : Option Addr) (c : Nat) (xs : List ByteArray) (sep : ByteArray) (r : ByteArray) (w : World) (hG_ : Ext.G w) (hr0 : Kd.C Kd.string w A xs.length xs) (hc0 : xs.length ≤ c) (h : strings_Join.f xs sep = some r) :
    Calls Tryd.prog 28 #[.slice A xs.length c, .string sep] w fun e w' => e = .returned (.string r) ∧ Below w.heap.size w w' := by
  unfold strings_Join.f at h
  split at h
  · rename_i hN
    split at h
    · rename_i hl
      obtain rfl := Option.some.inj h
      cases xs with
      | nil =>
        refine (Tryd.strings_Join_none A c sep w).mono ?_
        rintro e w' ⟨rfl, rfl⟩
        exact ⟨rfl, Below.refl _ _⟩
      | cons x xs =>
        have hat := fun (j : Nat) (hj : j < (x :: xs).length) => Kd.at_string hr0 (j : Int) (by omega) (by omega)
        obtain ⟨ad, rfl, h0⟩ := hat 0 (by simp)
        have hspot : ad.spot = none := by
          cases hs : ad.spot with
          | none => rfl
          | some f =>
            have hn : w.cell? (ad.add ((0 : Nat) : Int).toNat) = none := by
              unfold World.cell? Addr.add
              split <;> simp [hs]
            rw [hn] at h0; cases h0
        obtain ⟨bk, o, sp⟩ := ad
        have hspot' : sp = none := hspot
        subst hspot'
        refine (Tryd.strings_Join bk o c (x :: xs) sep w ?_ ?_ hN hc0 hl).mono ?_
        · intro j y hy
          obtain ⟨hj, rfl⟩ := List.getElem?_eq_some_iff.1 hy
          obtain ⟨ad2, e2, hc⟩ := hat j hj
          obtain rfl := (Option.some.inj e2)
          have e3 : rdOf ByteArray.empty (x :: xs) (j : Int) = (x :: xs)[j] := by
            unfold rdOf
            rw [Int.toNat_natCast, List.getD_eq_getElem?_getD, List.getElem?_eq_getElem hj]; rfl
          rw [e3, Int.toNat_natCast] at hc
          have e4 : (⟨bk, o, none⟩ : Addr).add j = ⟨bk, o + j, none⟩ := by simp [Addr.add]
          rw [e4] at hc
          exact hc
        · have := World.block_lt_of_cell? _ _ h0
          exact this
        · rintro e w' ⟨rfl, hb⟩
          exact ⟨rfl, hb⟩
    · cases h
  · cases h

end Go.Proofs.YtcmmlemajlhjoaaDoor.Hand
