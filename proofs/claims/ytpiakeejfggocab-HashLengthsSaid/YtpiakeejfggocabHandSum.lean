/- hash.Sum's contract, and those of a stream for any string, all over the plain function of a block. -/
import Derived.Test.YtpiakeejfggocabComp
set_option linter.unusedVariables false
set_option linter.unusedSimpArgs false
namespace Go.Proofs.Ytpiakeejfggocab.Hand
open Go Go.RowKit Go.Proofs.YtpiakeejfggocabW.PrintWords Go.Proofs.YtpiakeejfggocabW.PrintLast Go.Proofs.YtpiakeejfggocabW.PrintMore Go.Proofs.Ytpiakeejfggocab.Num Go.Proofs.Ytpiakeejfggocab.Sha Go.Proofs.Ytpiakeejfggocab.Strm Go.Proofs.Ytpiakeejfggocab.Comp

def cat (l : List ByteArray) : List Int := l.flatMap bytesOf
def digest (m : List Int) : ByteArray := strOfNums (Sha.sha Comp.comp m)
theorem write_any (b : ByteArray) (base g : Nat) (m : List Int) (w : World) (hI : Strm.Strm Comp.comp base w g m) (hbase : base ≤ w.heap.size) (hm : m.length + b.size ≤ 1000000000) :
    Calls Try.prog 15 #[.pointer (some ⟨g, 0, none⟩), .string b] w fun e w' => e = .returned (.tuple #[]) ∧ Strm.Strm Comp.comp base w' g (m ++ bytesOf b) ∧ w.grownBy w' (some g) := by
  rcases Nat.eq_zero_or_pos b.size with h | h
  · refine (write_empty g b w h).mono ?_
    rintro e w' ⟨rfl, rfl⟩
    have e0 : bytesOf b = [] := List.eq_nil_of_length_eq_zero (by rw [bytesOf_length, h])
    rw [e0, List.append_nil]
    exact ⟨rfl, hI, World.grownBy.refl _ _⟩
  · exact write_calls Comp.comp_ok b h base g m w hI hbase hm
theorem cat_take (l : List ByteArray) (k : Nat) (hk : k < l.length) : cat (l.take (k + 1)) = cat (l.take k) ++ bytesOf (rdOf ByteArray.empty l (k : Int)) := by
  unfold cat
  rw [List.take_succ_eq_append_getElem hk, List.flatMap_append]
  simp [rdOf, List.getD_eq_getElem?_getD, List.getElem?_eq_getElem hk]
theorem cat_le (l : List ByteArray) (k : Nat) : (cat (l.take k)).length ≤ (cat l).length := by
  have h := congrArg (fun x => (cat x).length) (List.take_append_drop k l)
  simp only [cat, List.flatMap_append, List.length_append] at h
  unfold cat
  omega
def hash_Sum.f (l : List ByteArray) : Option ByteArray := if (cat l).length ≤ 1000000000 then (if l.length ≤ 1000000000 then some (digest (cat l)) else none) else none
set_option maxHeartbeats 4000000 in
set_option maxRecDepth 100000 in
theorem hash_Sum.calls (A0 : Option Addr) (c0 : Nat) (l0 : List ByteArray) (r : ByteArray) (w : World) (hr0 : Kd.C Kd.string w A0 l0.length l0) (hc0 : l0.length ≤ c0) (h : hash_Sum.f l0 = some r) :
    Calls Try.prog 10 #[.slice A0 l0.length c0] w fun e w' => e = .returned (.string r) ∧ Below w.heap.size w w' := by
  unfold hash_Sum.f at h
  split at h
  · split at h
    · rename_i hcat hlen
      obtain rfl := Option.some.inj h
      have HR0 := Aside0.mk hr0
      have HC0 := Aside0.mk hc0
      have HCAT := Aside0.mk hcat
      have HLEN := Aside0.mk hlen
      clear hr0 hc0 h hcat hlen
      go_enter Try.func10, Try.ntmps10
      go_wp2_with (go_at_call 14; refine (start_calls _).mono ?_; rintro e w1 ⟨g, rfl, hg, hs, hb⟩; have GE := Aside0.mk hg; have HS := Aside0.mk (strm_new (blk := Comp.comp) hs hg); have HB := Aside0.mk hb; clear hg hs hb)
      go_loopg [9] l0.length (fun kq v9 wr => ∃ (i : Int) (k : Nat), v9 = .int .i64 i ∧ Aside0 (Strm.Strm Comp.comp w.heap.size wr g (cat (l0.take k))) ∧ Aside0 (Below w.heap.size w wr) ∧ Aside0 (i = k ∧ k + kq = l0.length))
      case atStart => exact ⟨0, 0, rfl, HS, HB, ⟨rfl, by omega⟩⟩
      case round =>
        clear HS HB
        obtain ⟨i, k, rfl, HS, HB, HI⟩ := hrel
        have hi0 : 0 ≤ i := by have := HI.out.1; omega
        have hi1 : i ≤ 1000000000 := by have := HI.out; have := HLEN.out; omega
        by_cases hlt : i < (l0.length : Int)
        · have t1 : decide (i < (l0.length : Int)) = true := decide_eq_true hlt
          obtain ⟨ad, e1, hx⟩ := Kd.at_string HR0.out i hi0 hlt
          have HLT := Aside0.mk hlt
          clear hlt
          cases e1
          replace hx := (HB.out.cell (World.block_lt_of_cell? w _ hx)).trans hx
          have q1 := eq_true hi0
          have q2 := eq_true HLT.out
          have HK := Aside0.mk (show k < l0.length by have := HI.out; have := HLT.out; omega)
          have HIk := Aside0.mk (show rdOf ByteArray.empty l0 i = rdOf ByteArray.empty l0 (k : Int) by rw [HI.out.1])
          have HSZ := Aside0.mk (show (cat (l0.take k)).length + (rdOf ByteArray.empty l0 i).size ≤ 1000000000 by
            have h1 := cat_le l0 (k + 1)
            rw [cat_take l0 k HK.out, List.length_append, bytesOf_length, ← HIk.out] at h1
            have := HCAT.out
            omega)
          go_wp2_with (go_at_call 15; refine (write_any (rdOf ByteArray.empty l0 i) w.heap.size g (cat (l0.take k)) wr HS.out HB.out.size HSZ.out).mono ?_; rintro e w3 ⟨rfl, hs3, hg3⟩; have HS3 := Aside0.mk hs3; have HG3 := Aside0.mk hg3; clear hs3 hg3)
          go_roundg (l0.length - (k + 1))
          case measure => have := HI.out; have := HK.out; omega
          case rel =>
            refine ⟨i + 1, k + 1, rfl, ⟨?_⟩, ⟨HB.out.grown HG3.out HB.out.size (fun q hq => by injection hq with hq; rw [← hq]; exact GE.out)⟩, ⟨?_, ?_⟩⟩
            · rw [cat_take l0 k HK.out, ← HIk.out]; exact HS3.out
            · have := HI.out.1; omega
            · have := HK.out; omega
        · have t1 : decide (i < (l0.length : Int)) = false := decide_eq_false hlt
          have HK := Aside0.mk (show l0.take k = l0 from List.take_of_length_le (by have := HI.out.1; omega))
          clear hlt
          have HSZ := Aside0.mk (show (cat (l0.take k)).length ≤ 1000000000 from Nat.le_trans (cat_le l0 k) HCAT.out)
          go_wp2_with (go_at_call 16; refine (sum_calls Comp.comp_ok w.heap.size g (cat (l0.take k)) wr HS.out HSZ.out).mono ?_; rintro e w3 ⟨rfl, hb3⟩; have HB3 := Aside0.mk hb3; clear hb3)
          go_ret
          exact ⟨ret_str (by rw [HK.out]; rfl), below_step HB.out HB3.out⟩
    · cases h
  · cases h
theorem runN_length {m : List Int} : ∀ (n : Nat) (h : List Int), h.length = 8 → (Sha.runN comp n h m).length = 8
  | 0, h, hh => hh
  | n + 1, h, hh => by
    unfold Sha.runN
    have : ∀ (n : Nat) (h m : List Int), h.length = 8 → (Sha.runN comp n h m).length = 8 := by
      intro n
      induction n with
      | zero => exact fun _ _ h => h
      | succ n ih => exact fun h m hh => ih _ _ (by unfold comp compG; rw [List.length_zipWith, rnd_len, hh]; rfl)
    exact this n _ _ (by unfold comp compG; rw [List.length_zipWith, rnd_len, hh]; rfl)
theorem sum_some (l : List ByteArray) (hcat : (cat l).length ≤ 1000000000) (hlen : l.length ≤ 1000000000) : hash_Sum.f l = some (digest (cat l)) := by
  unfold hash_Sum.f
  rw [if_pos hcat, if_pos hlen]
theorem digest_size (m : List Int) : (digest m).size = 32 := by
  unfold digest
  have h : (Sha.sha comp m).length = 32 := by
    unfold Sha.sha
    have hh := runN_length (m := m ++ pad m.length) ((m ++ pad m.length).length / 64) Sha.init rfl
    rw [← outN_all _ hh, outN_len]
  unfold strOfNums
  simp [ByteArray.size, h]
end Go.Proofs.Ytpiakeejfggocab.Hand
