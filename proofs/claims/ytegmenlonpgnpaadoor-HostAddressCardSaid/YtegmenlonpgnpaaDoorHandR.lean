/- Contracts of this session's own: library functions by the shelf's contracts, and functions that range over []byte(s). -/
import Derived.Test.YtegmenlonpgnpaaDoorProg
import Derived.Test.YtegmenlonpgnpaaDoorExtR
import Derived.Test.YtegmenlonpgnpaaDoorShelf
import Derived.Below
import Derived.Tactics
import Derived.WalkKit
import Derived.KernelRfl
import Derived.RowKit3
import Derived.Deep.QuietTactic
import Derived.BigQuiet
import Derived.Lib.ConvBytes
import Derived.Lib.Hide
import Derived.LoopTactic
import Derived.RowKit
set_option linter.unusedVariables false
set_option linter.unusedSimpArgs false
namespace Go.Proofs.YtegmenlonpgnpaaDoor.Hand
open Go Go.RowKit Go.Proofs.YtegmenlonpgnpaaDoorW.PrintWords Go.Proofs.YtegmenlonpgnpaaDoorW.PrintLast Go.Proofs.YtegmenlonpgnpaaDoorW.PrintMore

def stringslite_IndexByte.f (s : ByteArray) (c : Int) : Option Int := some (Go.Lib.indexByte s.data.toList c.toNat.toUInt8)
theorem stringslite_IndexByte.calls (s : ByteArray) (c : Int) (r : Int) (w : World) (hG_ : Ext.G w) (h : stringslite_IndexByte.f s c = some r) :
    Calls Tryd.prog 70 #[.string s, .int .u8 c] w fun e w' => e = .returned (.int .i64 r) ∧ Drawn0 w w' := by
  obtain rfl := Option.some.inj h
  refine (Tryd.stringslite_IndexByte s c w).mono ?_
  rintro e w' ⟨rfl, rfl⟩
  exact ⟨rfl, Drawn0.refl _⟩
def stringslite_Index.f (s t : ByteArray) : Option Int := if s.size < 4294967281 then some (Go.Lib.index s.data.toList t.data.toList) else none
theorem stringslite_Index.calls (s t : ByteArray) (r : Int) (w : World) (hG_ : Ext.G w) (h : stringslite_Index.f s t = some r) :
    Calls Tryd.prog 69 #[.string s, .string t] w fun e w' => e = .returned (.int .i64 r) ∧ Drawn0 w w' := by
  unfold stringslite_Index.f at h
  split at h
  · rename_i hs
    obtain rfl := Option.some.inj h
    obtain ⟨m, hm⟩ := hG_.out
    refine (Tryd.stringslite_Index s t m w hs hm).mono ?_
    rintro e w' ⟨rfl, rfl⟩
    exact ⟨rfl, Drawn0.refl _⟩
  · cases h
def strings_Split.f (s t : ByteArray) : Option (List ByteArray) := if s.size < 4294967281 then (if 1 ≤ t.size then some (Go.Lib.splitB t 0 (Go.Lib.countB s t) s) else none) else none
theorem strings_Split.calls (s t : ByteArray) (r : List ByteArray) (w : World) (hG_ : Ext.G w) (h : strings_Split.f s t = some r) :
    Calls Tryd.prog 39 #[.string s, .string t] w fun e w' => ∃ v0_ : Value, e = .returned (v0_) ∧ Kd.R Kd.string 9 w' w.heap.size (fun _ => True) v0_ r ∧ Below w.heap.size w w' := by
  unfold strings_Split.f at h
  split at h
  · rename_i hs
    split at h
    · rename_i ht
      obtain rfl := Option.some.inj h
      obtain ⟨m, hm⟩ := hG_.out
      refine (Tryd.strings_Split s t m w hs hm ht).mono ?_
      rintro e w' ⟨rfl, rfl⟩
      have hlen := Go.Lib.splitB_all t ht 0 _ s rfl
      have hle := Go.Lib.countB_le t ht s.size s (Nat.le_refl _)
      refine ⟨_, rfl, ?_, below_alloc (Below.refl _ _) _⟩
      rw [← hlen]
      exact Kd.R_of_own (own_lit_of (enc := Value.string) w w.heap.size 9 _ (Nat.le_refl _) (by omega)) (fun _ _ => trivial)
    · cases h
  · cases h
theorem ret_bool {a b : Bool} (h : a = b) : Ending.returned (.bool a) = .returned (.bool b) := by rw [h]
def letterB (c : Int) : Bool := (decide (97 ≤ c) && decide (c ≤ 122)) || (decide (65 ≤ c) && decide (c ≤ 90))
def digitB (c : Int) : Bool := decide (48 ≤ c) && decide (c ≤ 57)
set_option maxHeartbeats 1000000 in
theorem letter_any (c : Int) (w : World) : Calls Tryd.prog 56 #[.int .u8 c] w fun e w' => e = .returned (.bool (letterB c)) ∧ Drawn0 w w' := by
  unfold letterB
  by_cases a : 97 ≤ c <;> by_cases b : c ≤ 122 <;> by_cases a2 : 65 ≤ c <;> by_cases b2 : c ≤ 90
  all_goals first
    | (exfalso; omega)
    | (have ha : decide (97 ≤ c) = decide (97 ≤ c) := rfl
       clear ha
       first | (have ha : decide (97 ≤ c) = true := decide_eq_true a) | (have ha : decide (97 ≤ c) = false := decide_eq_false a)
       first | (have hb : decide (c ≤ 122) = true := decide_eq_true b) | (have hb : decide (c ≤ 122) = false := decide_eq_false b)
       first | (have ha2 : decide (65 ≤ c) = true := decide_eq_true a2) | (have ha2 : decide (65 ≤ c) = false := decide_eq_false a2)
       first | (have hb2 : decide (c ≤ 90) = true := decide_eq_true b2) | (have hb2 : decide (c ≤ 90) = false := decide_eq_false b2)
       rw [ha, hb, ha2, hb2]
       clear a b a2 b2
       go_enter Tryd.func56, Tryd.ntmps56
       go_wp2
       repeat (go_quiet (fail); try go_wp2)
       go_ret
       exact ⟨by first | rfl | (simp; done), by repeat (first | exact Drawn0.refl _ | apply Drawn0.step)⟩)
set_option maxHeartbeats 1000000 in
theorem digit_any (c : Int) (w : World) : Calls Tryd.prog 57 #[.int .u8 c] w fun e w' => e = .returned (.bool (digitB c)) ∧ Drawn0 w w' := by
  unfold digitB
  by_cases a : 48 ≤ c <;> by_cases b : c ≤ 57
  all_goals first
    | (exfalso; omega)
    | (first | (have ha : decide (48 ≤ c) = true := decide_eq_true a) | (have ha : decide (48 ≤ c) = false := decide_eq_false a)
       first | (have hb : decide (c ≤ 57) = true := decide_eq_true b) | (have hb : decide (c ≤ 57) = false := decide_eq_false b)
       rw [ha, hb]
       clear a b
       go_enter Tryd.func57, Tryd.ntmps57
       go_wp2
       repeat (go_quiet (fail); try go_wp2)
       go_ret
       exact ⟨by first | rfl | (simp; done), by repeat (first | exact Drawn0.refl _ | apply Drawn0.step)⟩)
def ldh (c : Int) : Bool := letterB c || digitB c || decide (c = 45)
def labelB (s : ByteArray) : Bool := decide (1 ≤ s.size) && decide (s.size ≤ 63) && !decide (bt s 0 = 45) && !decide (bt s ((s.size : Int) - 1) = 45) && (bytesOf s).all ldh
def host_label.f (s : ByteArray) : Option Bool := if s.size ≤ 140737488351232 then some (labelB s) else none
theorem all_take (s : ByteArray) (p : Int → Bool) (k : Nat) (hk : k < s.size) : ((bytesOf s).take (k + 1)).all p = (((bytesOf s).take k).all p && p (bt s k)) := by
  have h : k < (bytesOf s).length := by rw [bytesOf_length]; exact hk
  rw [List.take_succ_eq_append_getElem h, List.all_append]
  simp only [List.all_cons, List.all_nil, Bool.and_true]
  congr 2
  rw [← rd_bytesOf]; unfold rd; rw [Int.toNat_natCast, List.getD_eq_getElem?_getD, List.getElem?_eq_getElem h, Option.getD_some]
set_option maxHeartbeats 4000000 in
set_option maxRecDepth 100000 in
theorem label_loop_part (s : ByteArray) (w : World) (h1 : 1 ≤ s.size) (h63 : s.size ≤ 63) (n0 : Int) (hn0 : ((bt s 0) == 45) = false) (hn1 : ((bt s ((s.size : Int) - 1)) == 45) = false) :
    Calls Tryd.prog 40 #[.string s] w fun e w' => e = .returned (.bool ((bytesOf s).all ldh)) ∧ Below w.heap.size w w' := by
  have kb := fun W => print_bytes (P := Tryd.prog) 9 22 5 Tryd.underlying9 Tryd.underlying22 Tryd.underlying5 s W
  have p1 : decide (s.size < 1) = false := decide_eq_false (by omega)
  have p2 : decide (63 < s.size) = false := decide_eq_false (by omega)
  have p1' : decide ((s.size : Int) < 1) = false := decide_eq_false (by omega)
  have p2' : decide (63 < (s.size : Int)) = false := decide_eq_false (by omega)
  have q4 : 0 < s.size := by omega
  have hx4 : ∀ h : 0 < s.size, ((s[0]'h).toNat : Int) = bt s 0 := bt_at s 0
  have hx5 : ∀ h : s.size - 1 < s.size, ((s[s.size - 1]'h).toNat : Int) = bt s ((s.size : Int) - 1) := fun h => by
    have := bt_at s ((s.size : Int) - 1) (by omega)
    have e : ((s.size : Int) - 1).toNat = s.size - 1 := by omega
    simp only [e] at this
    exact this
  have HA : Hid (∀ k, k < s.size → ((bytesOf s).take (k + 1)).all ldh = (((bytesOf s).take k).all ldh && ldh (bt s k))) := Lib.hid (all_take s ldh)
  have HC : Hid (∀ W n k, k < s.size → ((Lib.bytesWorld W 5 s).drewN n).cell? ⟨W.heap.size, k, none⟩ = some (.int .u8 (bt s k))) := Lib.hid (fun W n k hk => by
    have := Lib.bytesWorld_cell W 5 s k hk
    have e : ((s.data.toList.getD k 0).toNat : Int) = bt s k := by
      have h' : k < s.data.toList.length := by rw [data_length]; exact hk
      rw [← rd_bytesOf]; simp [rd, bytesOf, List.getD_eq_getElem?_getD, List.getElem?_eq_getElem h']
    rw [e] at this
    exact this)
  have HBB : Hid (Below w.heap.size w (Lib.bytesWorld w 5 s)) := Go.Lib.hid (bytes_below (Below.refl _ _) (Nat.le_refl _) 5 s)
  go_enter Tryd.func40, Tryd.ntmps40
  go_wp2
  go_loopw [29] (fun i wr => ∃ k n : Nat, k ≤ s.size ∧ i = .int .i64 k ∧ wr = (Lib.bytesWorld w 5 s).drewN n ∧ ((bytesOf s).take k).all ldh = true) (fun i _ => s.size - (intOf i).toNat)
  case atStart => exact ⟨0, 0, Nat.zero_le _, rfl, rfl, rfl⟩
  case round =>
    obtain ⟨k, n, hk, rfl, rfl, hall⟩ := hrel
    have HL := Lib.hid hall
    clear hall
    by_cases hlt : k < s.size
    · have hc := HC.out w n k hlt
      have hs := HA.out k hlt
      rw [HL.out, Bool.true_and] at hs
      have HS := Lib.hid hs
      clear hs
      have hr := bt_range s k
      generalize hcc : bt s (k : Int) = c at *
      have HCC := Lib.hid hcc
      clear hcc
      have HT : Hid (ldh c = true → ((bytesOf s).take (k + 1)).all ldh = true) := Go.Lib.hid (fun h => by rw [HS.out]; exact h)
      by_cases a : letterB c = true
      · go_wp2_with (go_at_call 56; refine (letter_any _ _).mono ?_; rintro e w' ⟨rfl, ⟨nd, rfl⟩⟩)
        go_roundw
        case rel => exact ⟨k + 1, _, by omega, by go_num, rfl, HT.out (by unfold ldh; rw [a]; rfl)⟩
        case measure => simp [intOf]; omega
      · have a := Bool.eq_false_iff.2 a
        by_cases b : digitB c = true
        · go_wp2_with (first | (go_at_call 56; refine (letter_any _ _).mono ?_; rintro e w' ⟨rfl, ⟨nd, rfl⟩⟩) | (go_at_call 57; refine (digit_any _ _).mono ?_; rintro e w' ⟨rfl, ⟨nd2, rfl⟩⟩))
          go_roundw
          case rel => exact ⟨k + 1, _, by omega, by go_num, rfl, HT.out (by unfold ldh; rw [a, b]; rfl)⟩
          case measure => simp [intOf]; omega
        · have b := Bool.eq_false_iff.2 b
          by_cases d : c = 45
          · have d1 : (c == 45) = true := beq_iff_eq.2 d
            have d2 : (c != 45) = false := bne_eq_false_iff_eq.2 d
            have HD := Go.Lib.hid d
            clear d
            go_wp2_with (first | (go_at_call 56; refine (letter_any _ _).mono ?_; rintro e w' ⟨rfl, ⟨nd, rfl⟩⟩) | (go_at_call 57; refine (digit_any _ _).mono ?_; rintro e w' ⟨rfl, ⟨nd2, rfl⟩⟩))
            go_roundw
            case rel => exact ⟨k + 1, _, by omega, by go_num, rfl, HT.out (by unfold ldh; rw [HD.out]; decide)⟩
            case measure => simp [intOf]; omega
          · have d1 : (c == 45) = false := beq_eq_false_iff_ne.2 d
            have d2 : (c != 45) = true := bne_iff_ne.2 d
            have HF : Hid ((bytesOf s).all ldh = false) := Go.Lib.hid (by
              have h := HS.out
              unfold ldh at h
              rw [a, b, show decide (c = 45) = false from decide_eq_false d] at h
              have : (bytesOf s).all ldh = (((bytesOf s).take (k + 1)).all ldh && ((bytesOf s).drop (k + 1)).all ldh) := by rw [← List.all_append, List.take_append_drop]
              rw [this]; unfold ldh at *; rw [h]; rfl)
            clear d
            go_wp2_with (first | (go_at_call 56; refine (letter_any _ _).mono ?_; rintro e w' ⟨rfl, ⟨nd, rfl⟩⟩) | (go_at_call 57; refine (digit_any _ _).mono ?_; rintro e w' ⟨rfl, ⟨nd2, rfl⟩⟩))
            go_ret
            exact ⟨ret_bool HF.out.symm, by repeat (first | exact HBB.out | apply pw_below_drewN)⟩
    · have HE : Hid ((bytesOf s).all ldh = true) := Go.Lib.hid (by
        have h := HL.out
        rw [List.take_of_length_le (by rw [bytesOf_length]; omega)] at h
        exact h)
      go_wp2
      go_ret
      exact ⟨ret_bool HE.out.symm, by repeat (first | exact HBB.out | apply pw_below_drewN)⟩

set_option maxHeartbeats 1000000 in
set_option maxRecDepth 100000 in
theorem host_label.calls (s : ByteArray) (r : Bool) (w : World) (hG_ : Ext.G w) (h : host_label.f s = some r) :
    Calls Tryd.prog 40 #[.string s] w fun e w' => e = .returned (.bool r) ∧ Below w.heap.size w w' := by
  unfold host_label.f at h
  split at h
  · rename_i hs
    obtain rfl := Option.some.inj h
    clear h
    by_cases h1 : 1 ≤ s.size
    · by_cases h63 : s.size ≤ 63
      · by_cases h0 : bt s 0 = 45
        · have HR : Hid (labelB s = false) := Go.Lib.hid (by unfold labelB; simp [h0])
          have p1 : decide (s.size < 1) = false := decide_eq_false (by omega)
          have p2 : decide (63 < s.size) = false := decide_eq_false (by omega)
          have p1' : decide ((s.size : Int) < 1) = false := decide_eq_false (by omega)
          have p2' : decide (63 < (s.size : Int)) = false := decide_eq_false (by omega)
          have q4 : 0 < s.size := by omega
          have hx4 : ∀ h : 0 < s.size, ((s[0]'h).toNat : Int) = bt s 0 := bt_at s 0
          have h0' : (bt s 0 == 45) = true := beq_iff_eq.2 h0
          clear h0
          go_enter Tryd.func40, Tryd.ntmps40
          go_wp2
          go_ret
          exact ⟨ret_bool HR.out.symm, Below.refl _ _⟩
        · have hn0 : (bt s 0 == 45) = false := beq_eq_false_iff_ne.2 h0
          by_cases h2 : bt s ((s.size : Int) - 1) = 45
          · have HR : Hid (labelB s = false) := Go.Lib.hid (by unfold labelB; simp [h2])
            have p1 : decide (s.size < 1) = false := decide_eq_false (by omega)
            have p2 : decide (63 < s.size) = false := decide_eq_false (by omega)
            have p1' : decide ((s.size : Int) < 1) = false := decide_eq_false (by omega)
            have p2' : decide (63 < (s.size : Int)) = false := decide_eq_false (by omega)
            have q4 : 0 < s.size := by omega
            have hx4 : ∀ h : 0 < s.size, ((s[0]'h).toNat : Int) = bt s 0 := bt_at s 0
            have hx5 : ∀ h : s.size - 1 < s.size, ((s[s.size - 1]'h).toNat : Int) = bt s ((s.size : Int) - 1) := fun h => by
              have := bt_at s ((s.size : Int) - 1) (by omega)
              have e : ((s.size : Int) - 1).toNat = s.size - 1 := by omega
              simp only [e] at this
              exact this
            have h2' : (bt s ((s.size : Int) - 1) == 45) = true := beq_iff_eq.2 h2
            clear h0 h2
            go_enter Tryd.func40, Tryd.ntmps40
            go_wp2
            go_ret
            exact ⟨ret_bool HR.out.symm, Below.refl _ _⟩
          · have e : labelB s = (bytesOf s).all ldh := by unfold labelB; simp [h1, h63, h0, h2]
            rw [e]
            exact label_loop_part s w h1 h63 0 hn0 (beq_eq_false_iff_ne.2 h2)
      · have HR : Hid (labelB s = false) := Go.Lib.hid (by unfold labelB; simp [h63])
        have p1 : decide (s.size < 1) = false := decide_eq_false (by omega)
        have p2 : decide (63 < s.size) = true := decide_eq_true (by omega)
        have p1' : decide ((s.size : Int) < 1) = false := decide_eq_false (by omega)
        have p2' : decide (63 < (s.size : Int)) = true := decide_eq_true (by omega)
        clear h1 h63
        go_enter Tryd.func40, Tryd.ntmps40
        go_wp2
        go_ret
        exact ⟨ret_bool HR.out.symm, Below.refl _ _⟩
    · have HR : Hid (labelB s = false) := Go.Lib.hid (by unfold labelB; simp [h1])
      have p1 : decide (s.size < 1) = true := decide_eq_true (by omega)
      have p1' : decide ((s.size : Int) < 1) = true := decide_eq_true (by omega)
      clear h1
      go_enter Tryd.func40, Tryd.ntmps40
      go_wp2
      go_ret
      exact ⟨ret_bool HR.out.symm, Below.refl _ _⟩
  · cases h
def marks : ByteArray := ⟨#[33, 35, 36, 37, 38, 39, 42, 43, 45, 47, 61, 63, 94, 95, 96, 123, 124, 125, 126, 46]⟩
def okL (c : Int) : Bool := letterB c || digitB c || decide (0 ≤ Go.Lib.indexByte marks.data.toList c.toNat.toUInt8)
def localB (s : ByteArray) : Bool := decide (1 ≤ s.size) && decide (s.size ≤ 64) && !decide (bt s 0 = 46) && !decide (bt s ((s.size : Int) - 1) = 46) && !(Go.Lib.contains s.data.toList [46, 46]) && (bytesOf s).all okL
def host_local.f (s : ByteArray) : Option Bool := if s.size ≤ 140737488351232 then some (localB s) else none
theorem contains_any (s t : ByteArray) (m : Int) (w : World) (hs : s.size < 4294967281) (hm : w.cell? ⟨0, 0, none⟩ = some (.int .i64 m)) :
    Calls Tryd.prog 44 #[.string s, .string t] w fun e w' => e = .returned (.bool (Go.Lib.contains s.data.toList t.data.toList)) ∧ w = w' :=
  (Tryd.strings_Contains s t m w hs hm).mono fun _ _ h => ⟨h.1, h.2.symm⟩
theorem indexByte_any (s : ByteArray) (c : Int) (x : Int) (w : World) (hx : Go.Lib.indexByte s.data.toList c.toNat.toUInt8 = x) :
    Calls Tryd.prog 61 #[.string s, .int .u8 c] w fun e w' => e = .returned (.int .i64 x) ∧ w = w' :=
  hx ▸ (Tryd.strings_IndexByte s c w).mono fun _ _ h => ⟨h.1, h.2.symm⟩
set_option maxHeartbeats 4000000 in
set_option maxRecDepth 100000 in
theorem local_loop_part (s : ByteArray) (w : World) (hG_ : Ext.G w) (h1 : 1 ≤ s.size) (h64 : s.size ≤ 64) (hn0 : ((bt s 0) == 46) = false) (hn1 : ((bt s ((s.size : Int) - 1)) == 46) = false) (hd : Go.Lib.contains s.data.toList [46, 46] = false) :
    Calls Tryd.prog 46 #[.string s] w fun e w' => e = .returned (.bool ((bytesOf s).all okL)) ∧ Below w.heap.size w w' := by
  obtain ⟨m, hm⟩ := hG_.out
  have HM := Go.Lib.hid hm
  have hd2 : Go.Lib.contains s.data.toList (⟨#[46, 46]⟩ : ByteArray).data.toList = false := hd
  have kb := fun W => print_bytes (P := Tryd.prog) 9 22 5 Tryd.underlying9 Tryd.underlying22 Tryd.underlying5 s W
  have p1 : decide (s.size < 1) = false := decide_eq_false (by omega)
  have p2 : decide (64 < s.size) = false := decide_eq_false (by omega)
  have p1' : decide ((s.size : Int) < 1) = false := decide_eq_false (by omega)
  have p2' : decide (64 < (s.size : Int)) = false := decide_eq_false (by omega)
  have q4 : 0 < s.size := by omega
  have hx4 : ∀ h : 0 < s.size, ((s[0]'h).toNat : Int) = bt s 0 := bt_at s 0
  have hx5 : ∀ h : s.size - 1 < s.size, ((s[s.size - 1]'h).toNat : Int) = bt s ((s.size : Int) - 1) := fun h => by
    have := bt_at s ((s.size : Int) - 1) (by omega)
    have e : ((s.size : Int) - 1).toNat = s.size - 1 := by omega
    simp only [e] at this
    exact this
  have HA : Hid (∀ k, k < s.size → ((bytesOf s).take (k + 1)).all okL = (((bytesOf s).take k).all okL && okL (bt s k))) := Go.Lib.hid (all_take s okL)
  have HC : Hid (∀ W n k, k < s.size → ((Lib.bytesWorld W 5 s).drewN n).cell? ⟨W.heap.size, k, none⟩ = some (.int .u8 (bt s k))) := Go.Lib.hid (fun W n k hk => by
    have := Lib.bytesWorld_cell W 5 s k hk
    have e : ((s.data.toList.getD k 0).toNat : Int) = bt s k := by
      have h' : k < s.data.toList.length := by rw [data_length]; exact hk
      rw [← rd_bytesOf]; simp [rd, bytesOf, List.getD_eq_getElem?_getD, List.getElem?_eq_getElem h']
    rw [e] at this
    exact this)
  clear hm
  go_enter Tryd.func46, Tryd.ntmps46
  go_wp2_with (go_at_call 44; refine (contains_any s ⟨#[46, 46]⟩ m _ (by omega) HM.out).mono ?_; rintro e w' ⟨rfl, rfl⟩)
  have HBB : Hid (Below w.heap.size w (Lib.bytesWorld w 5 s)) := Go.Lib.hid (bytes_below (Below.refl _ _) (Nat.le_refl _) 5 s)
  go_loopw [34] (fun i wr => ∃ k n : Nat, k ≤ s.size ∧ i = .int .i64 k ∧ wr = (Lib.bytesWorld w 5 s).drewN n ∧ ((bytesOf s).take k).all okL = true) (fun i _ => s.size - (intOf i).toNat)
  case atStart => exact ⟨0, 0, Nat.zero_le _, rfl, rfl, rfl⟩
  case round =>
    obtain ⟨k, n, hk, rfl, rfl, hall⟩ := hrel
    have HL := Go.Lib.hid hall
    clear hall
    by_cases hlt : k < s.size
    · have hc := HC.out w n k hlt
      have hs := HA.out k hlt
      rw [HL.out, Bool.true_and] at hs
      have HS := Go.Lib.hid hs
      clear hs
      have hr := bt_range s k
      generalize hcc : bt s (k : Int) = c at *
      have HCC := Go.Lib.hid hcc
      clear hcc
      have HT : Hid (okL c = true → ((bytesOf s).take (k + 1)).all okL = true) := Go.Lib.hid (fun h => by rw [HS.out]; exact h)
      by_cases a : letterB c = true
      · go_wp2_with (go_at_call 56; refine (letter_any _ _).mono ?_; rintro e w' ⟨rfl, ⟨nd, rfl⟩⟩)
        go_roundw
        case rel => exact ⟨k + 1, _, by omega, by go_num, rfl, HT.out (by unfold okL; rw [a]; rfl)⟩
        case measure => simp [intOf]; omega
      · have a := Bool.eq_false_iff.2 a
        by_cases b : digitB c = true
        · go_wp2_with (first | (go_at_call 56; refine (letter_any _ _).mono ?_; rintro e w' ⟨rfl, ⟨nd, rfl⟩⟩) | (go_at_call 57; refine (digit_any _ _).mono ?_; rintro e w' ⟨rfl, ⟨nd2, rfl⟩⟩))
          go_roundw
          case rel => exact ⟨k + 1, _, by omega, by go_num, rfl, HT.out (by unfold okL; rw [a, b]; rfl)⟩
          case measure => simp [intOf]; omega
        · have b := Bool.eq_false_iff.2 b
          by_cases d : 0 ≤ Go.Lib.indexByte marks.data.toList c.toNat.toUInt8
          · have HD := Go.Lib.hid d
            have d1 : decide (0 ≤ Go.Lib.indexByte marks.data.toList c.toNat.toUInt8) = true := decide_eq_true d
            generalize hidx : Go.Lib.indexByte marks.data.toList c.toNat.toUInt8 = ix at *
            have CI := Go.Lib.hid (fun W => indexByte_any marks c ix W hidx)
            have HX := Go.Lib.hid hidx
            clear d hidx
            go_wp2_with (first | (go_at_call 56; refine (letter_any _ _).mono ?_; rintro e w' ⟨rfl, ⟨nd, rfl⟩⟩) | (go_at_call 57; refine (digit_any _ _).mono ?_; rintro e w' ⟨rfl, ⟨nd2, rfl⟩⟩) | (go_at_call 61; refine (CI.out _).mono ?_; rintro e w' ⟨rfl, rfl⟩))
            go_roundw
            case rel => exact ⟨k + 1, _, by omega, by go_num, rfl, HT.out (by unfold okL; rw [a, b, HX.out, decide_eq_true HD.out]; rfl)⟩
            case measure => simp [intOf]; omega
          · have HD := Go.Lib.hid d
            have d1 : decide (0 ≤ Go.Lib.indexByte marks.data.toList c.toNat.toUInt8) = false := decide_eq_false d
            generalize hidx : Go.Lib.indexByte marks.data.toList c.toNat.toUInt8 = ix at *
            have CI := Go.Lib.hid (fun W => indexByte_any marks c ix W hidx)
            have HX := Go.Lib.hid hidx
            clear d hidx
            have HF : Hid ((bytesOf s).all okL = false) := Go.Lib.hid (by
              have h := HS.out
              unfold okL at h
              rw [a, b, HX.out, decide_eq_false HD.out] at h
              have : (bytesOf s).all okL = (((bytesOf s).take (k + 1)).all okL && ((bytesOf s).drop (k + 1)).all okL) := by rw [← List.all_append, List.take_append_drop]
              rw [this]; unfold okL at *; rw [h]; rfl)
            go_wp2_with (first | (go_at_call 56; refine (letter_any _ _).mono ?_; rintro e w' ⟨rfl, ⟨nd, rfl⟩⟩) | (go_at_call 57; refine (digit_any _ _).mono ?_; rintro e w' ⟨rfl, ⟨nd2, rfl⟩⟩) | (go_at_call 61; refine (CI.out _).mono ?_; rintro e w' ⟨rfl, rfl⟩))
            go_ret
            exact ⟨ret_bool HF.out.symm, by repeat (first | exact HBB.out | apply pw_below_drewN)⟩
    · have HE : Hid ((bytesOf s).all okL = true) := Go.Lib.hid (by
        have h := HL.out
        rw [List.take_of_length_le (by rw [bytesOf_length]; omega)] at h
        exact h)
      go_wp2
      go_ret
      exact ⟨ret_bool HE.out.symm, by repeat (first | exact HBB.out | apply pw_below_drewN)⟩

set_option maxHeartbeats 2000000 in
set_option maxRecDepth 100000 in
theorem host_local.calls (s : ByteArray) (r : Bool) (w : World) (hG_ : Ext.G w) (h : host_local.f s = some r) :
    Calls Tryd.prog 46 #[.string s] w fun e w' => e = .returned (.bool r) ∧ Below w.heap.size w w' := by
  unfold host_local.f at h
  split at h
  · rename_i hs
    obtain rfl := Option.some.inj h
    clear h
    obtain ⟨m, hm⟩ := hG_.out
    have HM := Go.Lib.hid hm
    clear hm
    by_cases h1 : 1 ≤ s.size
    · by_cases h64 : s.size ≤ 64
      · have p1 : decide (s.size < 1) = false := decide_eq_false (by omega)
        have p2 : decide (64 < s.size) = false := decide_eq_false (by omega)
        have p1' : decide ((s.size : Int) < 1) = false := decide_eq_false (by omega)
        have p2' : decide (64 < (s.size : Int)) = false := decide_eq_false (by omega)
        have q4 : 0 < s.size := by omega
        have hx4 : ∀ h : 0 < s.size, ((s[0]'h).toNat : Int) = bt s 0 := bt_at s 0
        have hx5 : ∀ h : s.size - 1 < s.size, ((s[s.size - 1]'h).toNat : Int) = bt s ((s.size : Int) - 1) := fun h => by
          have := bt_at s ((s.size : Int) - 1) (by omega)
          have e : ((s.size : Int) - 1).toNat = s.size - 1 := by omega
          simp only [e] at this
          exact this
        by_cases h0 : bt s 0 = 46
        · have HR : Hid (localB s = false) := Go.Lib.hid (by unfold localB; simp [h0])
          have h0' : (bt s 0 == 46) = true := beq_iff_eq.2 h0
          clear h0
          go_enter Tryd.func46, Tryd.ntmps46
          go_wp2
          go_ret
          exact ⟨ret_bool HR.out.symm, Below.refl _ _⟩
        · have hn0 : (bt s 0 == 46) = false := beq_eq_false_iff_ne.2 h0
          by_cases h2 : bt s ((s.size : Int) - 1) = 46
          · have HR : Hid (localB s = false) := Go.Lib.hid (by unfold localB; simp [h2])
            have h2' : (bt s ((s.size : Int) - 1) == 46) = true := beq_iff_eq.2 h2
            clear h0 h2
            go_enter Tryd.func46, Tryd.ntmps46
            go_wp2
            go_ret
            exact ⟨ret_bool HR.out.symm, Below.refl _ _⟩
          · have hn1 : (bt s ((s.size : Int) - 1) == 46) = false := beq_eq_false_iff_ne.2 h2
            by_cases hd : Go.Lib.contains s.data.toList [46, 46] = true
            · have HR : Hid (localB s = false) := Go.Lib.hid (by unfold localB; simp [hd])
              have hd2 : Go.Lib.contains s.data.toList (⟨#[46, 46]⟩ : ByteArray).data.toList = true := hd
              clear h0 h2
              go_enter Tryd.func46, Tryd.ntmps46
              go_wp2_with (go_at_call 44; refine (contains_any s ⟨#[46, 46]⟩ m _ (by omega) HM.out).mono ?_; rintro e w' ⟨rfl, rfl⟩)
              go_ret
              exact ⟨ret_bool HR.out.symm, Below.refl _ _⟩
            · have e : localB s = (bytesOf s).all okL := by unfold localB; simp [h1, h64, h0, h2, hd]
              rw [e]
              clear p1 p2 p1' p2' q4 hx4 hx5
              exact local_loop_part s w hG_ h1 h64 hn0 hn1 (by simpa using hd)
      · have HR : Hid (localB s = false) := Go.Lib.hid (by unfold localB; simp [h64])
        have p1 : decide (s.size < 1) = false := decide_eq_false (by omega)
        have p2 : decide (64 < s.size) = true := decide_eq_true (by omega)
        have p1' : decide ((s.size : Int) < 1) = false := decide_eq_false (by omega)
        have p2' : decide (64 < (s.size : Int)) = true := decide_eq_true (by omega)
        clear h1 h64
        go_enter Tryd.func46, Tryd.ntmps46
        go_wp2
        go_ret
        exact ⟨ret_bool HR.out.symm, Below.refl _ _⟩
    · have HR : Hid (localB s = false) := Go.Lib.hid (by unfold localB; simp [h1])
      have p1 : decide (s.size < 1) = true := decide_eq_true (by omega)
      have p1' : decide ((s.size : Int) < 1) = true := decide_eq_true (by omega)
      clear h1
      go_enter Tryd.func46, Tryd.ntmps46
      go_wp2
      go_ret
      exact ⟨ret_bool HR.out.symm, Below.refl _ _⟩
  · cases h
structure RowB (w wr : World) (n : Nat) (xs : List Int) : Prop where
  reads : ReadsInt wr .u8 (some ⟨w.heap.size, 0, none⟩) n xs
  free : ∀ j, j < n → wr.frozen? ⟨w.heap.size, j, none⟩ = false
  below : Below w.heap.size w wr
theorem RowB.start (w : World) (s : ByteArray) (hs : s.size ≤ 9223372036854775807) : RowB w (Lib.bytesWorld w 5 s) s.size (bytesOf s) := by
  refine ⟨bytes_reads w 5 s hs, fun j hj => ?_, bytes_below (Below.refl _ _) (Nat.le_refl _) 5 s⟩
  have hc := Lib.bytesWorld_cell w 5 s j hj
  have hn := Lib.bytesWorld_at_new w 5 s
  have hl : j < (Lib.bytesCells w 5 s).size := by
    rw [World.cell?] at hc
    simp [hn] at hc
    by_cases h : j < (Lib.bytesCells w 5 s).size
    · exact h
    · rw [Array.getElem?_eq_none (by omega)] at hc; cases hc
  simp [World.frozen?, hn]
  omega
theorem RowB.drewN {w wr : World} {n : Nat} {xs : List Int} (h : RowB w wr n xs) (m : Nat) : RowB w (wr.drewN m) n xs := ⟨h.reads, h.free, pw_below_drewN h.below m⟩
theorem RowB.cell {w wr : World} {n : Nat} {xs : List Int} (h : RowB w wr n xs) (j : Nat) (hj : j < n) : wr.cell? ⟨w.heap.size, j, none⟩ = some (.int .u8 (rd xs j)) := by
  obtain ⟨ad, e, hc⟩ := h.reads.2.2 (by omega)
  obtain rfl := Option.some.inj e
  have := hc j hj
  rw [add_plain] at this
  simpa [rd, List.getD_eq_getElem?_getD] using this
theorem RowB.set {w wr : World} {n : Nat} {xs : List Int} (h : RowB w wr n xs) (j : Nat) (hj : j < n) (v : Int) : RowB w (wr.setCell ⟨w.heap.size, j, none⟩ (.int .u8 v)) n (xs.set j v) := by
  refine ⟨⟨by rw [List.length_set]; exact h.reads.1, h.reads.2.1, fun hn => ⟨_, rfl, fun i hi => ?_⟩⟩, fun i hi => ?_, h.below.setCell (by simp) _⟩
  · rw [add_plain]
    by_cases e : j = i
    · subst e
      have h0 : (wr.setCell ⟨w.heap.size, j, none⟩ (.int .u8 v)).cell? ⟨w.heap.size, j, none⟩ = some (.int .u8 v) := World.cell?_setCell_same' _ _ _ (by rw [h.cell j hj]; rfl)
      rw [h0]
      simp [List.getD_eq_getElem?_getD, List.getElem?_set, h.reads.1, hj]
    · have h0 : (wr.setCell ⟨w.heap.size, j, none⟩ (.int .u8 v)).cell? ⟨w.heap.size, i, none⟩ = wr.cell? ⟨w.heap.size, i, none⟩ := World.cell?_setCell_other _ _ _ _ (by simp [e])
      rw [h0, h.cell i hi]
      simp [rd, List.getD_eq_getElem?_getD, List.getElem?_set, e]
  · rw [World.frozen?_setCell]; exact h.free i hi
theorem RowB.string {P : Program} {w wr : World} {n c : Nat} {xs : List Int} {src dst e : TypeId} (h : RowB w wr n xs) (hs : P.underlying src = some (.slice e)) (he : P.underlying e = some (.int .u8)) (hd : P.underlying dst = some .string) :
    (convert src dst (.slice (some ⟨w.heap.size, 0, none⟩) n c)).run P wr = .ok (.string (strOfNums xs)) wr := string_of_reads hs he hd h.reads
def low (c : Int) : Int := if 65 ≤ c ∧ c ≤ 90 then c + 32 else c
def lowTo (s : ByteArray) (k : Nat) : List Int := ((bytesOf s).take k).map low ++ (bytesOf s).drop k
theorem lowTo_length (s : ByteArray) (k : Nat) : (lowTo s k).length = s.size := by unfold lowTo; rw [List.length_append, List.length_map, ← List.length_append, List.take_append_drop, bytesOf_length]
theorem lowTo_zero (s : ByteArray) : lowTo s 0 = bytesOf s := by simp [lowTo]
theorem lowTo_end (s : ByteArray) (k : Nat) (h : s.size ≤ k) : lowTo s k = (bytesOf s).map low := by
  unfold lowTo; rw [List.take_of_length_le (by rw [bytesOf_length]; exact h), List.drop_of_length_le (by rw [bytesOf_length]; exact h), List.append_nil]
theorem lowTo_rd (s : ByteArray) (k : Nat) (h : k < s.size) : rd (lowTo s k) k = bt s k := by
  have hb : k < (bytesOf s).length := by rw [bytesOf_length]; exact h
  rw [← rd_bytesOf]
  unfold rd lowTo
  simp only [Int.toNat_natCast, List.getD_eq_getElem?_getD]
  rw [List.getElem?_append_right (by simp; omega)]
  simp [List.getElem?_drop, Nat.min_eq_left (Nat.le_of_lt hb)]
theorem lowTo_succ (s : ByteArray) (k : Nat) (h : k < s.size) : lowTo s (k + 1) = (lowTo s k).set k (low (bt s k)) := by
  have hb : k < (bytesOf s).length := by rw [bytesOf_length]; exact h
  have e : (bytesOf s)[k] = bt s k := by rw [← rd_bytesOf]; unfold rd; rw [Int.toNat_natCast, List.getD_eq_getElem?_getD, List.getElem?_eq_getElem hb, Option.getD_some]
  unfold lowTo
  rw [List.set_append_right _ _ (by simp; omega)]
  rw [List.take_succ_eq_append_getElem hb, List.map_append, List.map_cons, List.map_nil, List.append_assoc, e]
  congr 1
  have hk : k - (List.map low (List.take k (bytesOf s))).length = 0 := by rw [List.length_map, List.length_take]; omega
  rw [hk, List.drop_eq_getElem_cons hb]
  rfl
theorem lowTo_same (s : ByteArray) (k : Nat) (h : k < s.size) (hl : low (bt s k) = bt s k) : lowTo s (k + 1) = lowTo s k := by
  rw [lowTo_succ s k h, hl]
  apply List.ext_getElem?
  intro i
  rw [List.getElem?_set]
  by_cases e : k = i
  · subst e
    have hb : k < (lowTo s k).length := by rw [lowTo_length]; exact h
    have := lowTo_rd s k h
    unfold rd at this
    rw [Int.toNat_natCast, List.getD_eq_getElem?_getD, List.getElem?_eq_getElem hb, Option.getD_some] at this
    simp [hb, this]
  · simp [e]
def lowS (s : ByteArray) : ByteArray := strOfNums ((bytesOf s).map low)
def host_small.f (s : ByteArray) : Option ByteArray := if s.size ≤ 140737488351232 then some (lowS s) else none
def ref01_Lower.f (s : ByteArray) : Option ByteArray := if s.size ≤ 140737488351232 then some (lowS s) else none
theorem ret_str {a b : ByteArray} (h : a = b) : Ending.returned (.string a) = .returned (.string b) := by rw [h]
set_option maxHeartbeats 2000000 in
set_option maxRecDepth 100000 in
theorem host_small.calls (s : ByteArray) (r : ByteArray) (w : World) (hG_ : Ext.G w) (h : host_small.f s = some r) :
    Calls Tryd.prog 64 #[.string s] w fun e w' => e = .returned (.string r) ∧ Below w.heap.size w w' := by
  unfold host_small.f at h
  split at h
  · rename_i hs
    obtain rfl := Option.some.inj h
    clear h
    have kb := fun W => print_bytes (P := Tryd.prog) 9 22 5 Tryd.underlying9 Tryd.underlying22 Tryd.underlying5 s W
    have HR0 := Go.Lib.hid (RowB.start w s (by omega))
    have HE := Go.Lib.hid (lowTo_end s)
    have HRD := Go.Lib.hid (lowTo_rd s)
    have HSU := Go.Lib.hid (lowTo_succ s)
    have HSA := Go.Lib.hid (lowTo_same s)
    have HZ := Go.Lib.hid (lowTo_zero s)
    go_enter Tryd.func64, Tryd.ntmps64
    go_wp2
    go_loopw [10] (fun i wr => ∃ k : Nat, k ≤ s.size ∧ i = .int .i64 k ∧ Aside0 (RowB w wr s.size (lowTo s k))) (fun i _ => s.size - (intOf i).toNat)
    case atStart => exact ⟨0, Nat.zero_le _, rfl, ⟨by rw [HZ.out]; exact HR0.out⟩⟩
    case round =>
      obtain ⟨k, hk, rfl, HRB⟩ := hrel
      by_cases hlt : k < s.size
      · have hc := HRB.out.cell k hlt
        rw [HRD.out k hlt] at hc
        have hf := HRB.out.free k hlt
        have hr := bt_range s k
        have HN := Go.Lib.hid (HSU.out k hlt)
        have HM := Go.Lib.hid (HSA.out k hlt)
        generalize hcc : bt s (k : Int) = c at *
        clear hcc
        by_cases a : 65 ≤ c
        · by_cases b : c ≤ 90
          · have HL : Hid (low c = c + 32) := Go.Lib.hid (by unfold low; rw [if_pos ⟨a, b⟩])
            go_wp2
            go_roundw
            case rel => exact ⟨k + 1, by omega, by go_num, ⟨by rw [HN.out, HL.out, show c + 32 = c + 97 - 65 by omega]; exact HRB.out.set k hlt _⟩⟩
            case measure => simp [intOf]; omega
          · have HL : Hid (low c = c) := Go.Lib.hid (by unfold low; rw [if_neg (by omega)])
            go_wp2
            go_roundw
            case rel => exact ⟨k + 1, by omega, by go_num, ⟨by rw [HM.out HL.out]; exact HRB.out⟩⟩
            case measure => simp [intOf]; omega
        · have HL : Hid (low c = c) := Go.Lib.hid (by unfold low; rw [if_neg (by omega)])
          go_wp2
          go_roundw
          case rel => exact ⟨k + 1, by omega, by go_num, ⟨by rw [HM.out HL.out]; exact HRB.out⟩⟩
          case measure => simp [intOf]; omega
      · have HQ := Go.Lib.hid (HE.out k (by omega))
        have kc := (HRB.out.string (P := Tryd.prog) (c := grownCap w s.size 0 5) Tryd.underlying22 Tryd.underlying5 Tryd.underlying9)
        go_wp2
        go_ret
        exact ⟨ret_str (by rw [HQ.out]; rfl), HRB.out.below⟩
  · cases h
set_option maxHeartbeats 2000000 in
set_option maxRecDepth 100000 in
theorem ref01_Lower.calls (s : ByteArray) (r : ByteArray) (w : World) (hG_ : Ext.G w) (h : ref01_Lower.f s = some r) :
    Calls Tryd.prog 23 #[.string s] w fun e w' => e = .returned (.string r) ∧ Below w.heap.size w w' := by
  unfold ref01_Lower.f at h
  split at h
  · rename_i hs
    obtain rfl := Option.some.inj h
    clear h
    have kb := fun W => print_bytes (P := Tryd.prog) 9 22 5 Tryd.underlying9 Tryd.underlying22 Tryd.underlying5 s W
    have HR0 := Go.Lib.hid (RowB.start w s (by omega))
    have HE := Go.Lib.hid (lowTo_end s)
    have HRD := Go.Lib.hid (lowTo_rd s)
    have HSU := Go.Lib.hid (lowTo_succ s)
    have HSA := Go.Lib.hid (lowTo_same s)
    have HZ := Go.Lib.hid (lowTo_zero s)
    go_enter Tryd.func23, Tryd.ntmps23
    go_wp2
    go_loopw [9] (fun i wr => ∃ k : Nat, k ≤ s.size ∧ i = .int .i64 k ∧ Aside0 (RowB w wr s.size (lowTo s k))) (fun i _ => s.size - (intOf i).toNat)
    case atStart => exact ⟨0, Nat.zero_le _, rfl, ⟨by rw [HZ.out]; exact HR0.out⟩⟩
    case round =>
      obtain ⟨k, hk, rfl, HRB⟩ := hrel
      by_cases hlt : k < s.size
      · have hc := HRB.out.cell k hlt
        rw [HRD.out k hlt] at hc
        have hf := HRB.out.free k hlt
        have hr := bt_range s k
        have HN := Go.Lib.hid (HSU.out k hlt)
        have HM := Go.Lib.hid (HSA.out k hlt)
        generalize hcc : bt s (k : Int) = c at *
        clear hcc
        by_cases a : 65 ≤ c
        · by_cases b : c ≤ 90
          · have HL : Hid (low c = c + 32) := Go.Lib.hid (by unfold low; rw [if_pos ⟨a, b⟩])
            go_wp2
            go_roundw
            case rel => exact ⟨k + 1, by omega, by go_num, ⟨by rw [HN.out, HL.out]; exact HRB.out.set k hlt _⟩⟩
            case measure => simp [intOf]; omega
          · have HL : Hid (low c = c) := Go.Lib.hid (by unfold low; rw [if_neg (by omega)])
            go_wp2
            go_roundw
            case rel => exact ⟨k + 1, by omega, by go_num, ⟨by rw [HM.out HL.out]; exact HRB.out⟩⟩
            case measure => simp [intOf]; omega
        · have HL : Hid (low c = c) := Go.Lib.hid (by unfold low; rw [if_neg (by omega)])
          go_wp2
          go_roundw
          case rel => exact ⟨k + 1, by omega, by go_num, ⟨by rw [HM.out HL.out]; exact HRB.out⟩⟩
          case measure => simp [intOf]; omega
      · have HQ := Go.Lib.hid (HE.out k (by omega))
        have kc := (HRB.out.string (P := Tryd.prog) (c := grownCap w s.size 0 5) Tryd.underlying22 Tryd.underlying5 Tryd.underlying9)
        go_wp2
        go_ret
        exact ⟨ret_str (by rw [HQ.out]; rfl), HRB.out.below⟩
  · cases h
end Go.Proofs.YtegmenlonpgnpaaDoor.Hand
