/- How an object identifier's contents are read, by the program and by the document's definition. -/
import Derived.Test.YtcmmlemajlhjoaaDoorRx7
import Derived.Test.YtcmmlemajlhjoaaDoorRx8
import Derived.Test.YtcmmlemajlhjoaaDoorRx12
import Derived.Test.YtcmmlemajlhjoaaDoorRx11
import Derived.Test.YtcmmlemajlhjoaaDoorOidIdR
import Derived.Lib.ItoaMem
import Derived.Lib.Join
set_option linter.unusedVariables false
set_option linter.unusedSimpArgs false
namespace Go.Proofs.YtcmmlemajlhjoaaDoor.Oid
open Go Go.RowKit Go.Proofs.YtcmmlemajlhjoaaDoor.Q Go.Proofs.YtcmmlemajlhjoaaDoorW.PrintWords Go.Proofs.YtcmmlemajlhjoaaDoorW.PrintLast Go.Proofs.YtcmmlemajlhjoaaDoorW.PrintMore Go.Proofs.YtcmmlemajlhjoaaDoor.Num Go.Proofs.YtcmmlemajlhjoaaDoor.Str

/-! ### Groups of seven bits -/
def grps : Bool → Nat → List Int → Option (List Nat)
  | true, _, [] => none
  | false, _, [] => some []
  | true, n, b :: l => if b < 128 then (grps false 0 l).map (fun r => (128 * n + (b % 128).toNat) :: r) else grps true (128 * n + (b % 128).toNat) l
  | false, n, b :: l => if b = 128 then none else if b < 128 then (grps false 0 l).map (fun r => (128 * n + (b % 128).toNat) :: r) else grps true (128 * n + (b % 128).toNat) l
theorem grps_ge : ∀ (l : List Int) (n : Nat) (ms : List Nat), grps true n l = some ms → ∃ m r, ms = m :: r ∧ n ≤ m
  | [], n, ms, h => by simp [grps] at h
  | b :: l, n, ms, h => by
    simp only [grps] at h
    by_cases hb : b < 128
    · rw [if_pos hb] at h
      cases hr : grps false 0 l with
      | none => rw [hr] at h; simp at h
      | some r =>
        rw [hr] at h
        exact ⟨_, r, (Option.some.inj h).symm, by omega⟩
    · rw [if_neg hb] at h
      obtain ⟨m, r, e, hm⟩ := grps_ge l _ ms h
      exact ⟨m, r, e, by omega⟩
theorem or7 (n : Nat) (x : Nat) (hn : n < 4294967296) (hx : x < 128) : bits .or .i64 (wrap64 ((n : Int) * 128)) (x : Int) = ((128 * n + x : Nat) : Int) := by
  rw [w64 _ (by omega) (by omega), bits_or_i64]
  have e1 : ((n : Int) * 128 % 18446744073709551616).toNat = 128 * n := by omega
  have e2 : ((x : Int) % 18446744073709551616).toNat = x := by omega
  have e3 : 128 * n ||| x = 128 * n + x := by
    have := Nat.two_pow_add_eq_or_of_lt (i := 7) (b := x) (by omega) n
    have e : (2 : Nat) ^ 7 = 128 := rfl
    rw [e] at this; exact this.symm
  rw [e1, e2, e3, w64 _ (by omega) (by omega)]
def fin (acc : List Int) (B : Nat) : Option (List Nat) → List Int
  | none => []
  | some ms => if ms.all (fun m => decide (m ≤ B)) = true then acc ++ ms.map (fun m : Nat => (m : Int)) else []
theorem fin_pos (acc : List Int) (B : Nat) (ms : List Nat) (h : ∀ m ∈ ms, m ≤ B) : fin acc B (some ms) = acc ++ ms.map (fun m : Nat => (m : Int)) := by
  simp only [fin]
  rw [if_pos (List.all_eq_true.2 fun m hm => decide_eq_true (h m hm))]
theorem fin_neg (acc : List Int) (B : Nat) (ms : List Nat) (h : ¬ ∀ m ∈ ms, m ≤ B) : fin acc B (some ms) = [] := by
  simp only [fin]
  rw [if_neg (fun hh => h fun m hm => of_decide_eq_true (List.all_eq_true.1 hh m hm))]
theorem fin_big (acc : List Int) (B n : Nat) (l : List Int) (h : B < n) : fin acc B (grps true n l) = [] := by
  cases hg : grps true n l with
  | none => rfl
  | some ms =>
    obtain ⟨m, r, rfl, hm⟩ := grps_ge l n ms hg
    exact fin_neg _ _ _ fun hh => by have := hh m (by simp); omega
theorem fin_map (acc : List Int) (B m : Nat) (o : Option (List Nat)) (h : m ≤ B) : fin acc B (o.map (fun r => m :: r)) = fin (acc ++ [(m : Int)]) B o := by
  cases o with
  | none => rfl
  | some ms =>
    rw [Option.map_some]
    by_cases hc : ∀ x ∈ ms, x ≤ B
    · rw [fin_pos _ _ ms hc, fin_pos _ _ (m :: ms) (fun x hx => (List.mem_cons.1 hx).elim (fun e => e ▸ h) (hc x))]
      simp
    · rw [fin_neg _ _ ms hc, fin_neg _ _ (m :: ms) (fun hh => hc fun x hx => hh x (by simp [hx]))]
theorem fin_map_big (acc : List Int) (B m : Nat) (o : Option (List Nat)) (h : B < m) : fin acc B (o.map (fun r => m :: r)) = [] := by
  cases o with
  | none => rfl
  | some ms =>
    rw [Option.map_some]
    exact fin_neg _ _ _ fun hh => by have := hh m (by simp); omega
theorem byte_bt (s : ByteArray) (i : Nat) (b : Int) (l : List Int) (h : (bytesOf s).drop i = b :: l) : bt s i = b ∧ (bytesOf s).drop (i + 1) = l ∧ i < s.size ∧ 0 ≤ b ∧ b < 256 := by
  have hlen : (bytesOf s).length = s.size := by unfold bytesOf; rw [List.length_map]; exact (size_L s).symm
  have hl : i < s.size := by
    rcases Nat.lt_or_ge i s.size with h' | h'
    · exact h'
    · rw [List.drop_eq_nil_of_le (by omega)] at h; cases h
  have hm : b ∈ bytesOf s := List.mem_of_mem_drop (by rw [h]; simp)
  rw [drop_bt s i hl] at h
  injection h with h1 h2
  exact ⟨h1, h2, hl, byte_of s b hm⟩
theorem nums_start (s : ByteArray) (hs : s.size ≤ 100000) (l : List Int) (i : Nat) (acc : List Int) (hd : (bytesOf s).drop i = l) (hi : i + l.length = s.size)
    (ih : Ev (fun k => oid_numbers.l1 k s acc i 0) (fin acc 4294967294 (grps true 0 l))) : Ev (fun k => oid_numbers.l0 k s acc i) (fin acc 4294967294 (grps false 0 l)) := by
  cases l with
  | nil =>
    refine Ev.step (f := fun _ => some acc) (fun k => ?_) (cast_ev (Ev.now _) (by simp [fin, grps]))
    simp only [oid_numbers.l0]
    simp only [List.length_nil] at hi
    rw [if_neg (by omega)]
  | cons b l =>
    obtain ⟨hb, hr, hlt, b0, b1⟩ := byte_bt s i b l hd
    by_cases h : b = 128
    · refine Ev.step (f := fun _ => some []) (fun k => ?_) (cast_ev (Ev.now _) (by subst h; simp [fin, grps]))
      simp only [oid_numbers.l0]
      rw [if_pos (by omega), if_pos (by omega), hb, if_pos h]
    · have e : grps false 0 (b :: l) = grps true 0 (b :: l) := by
        simp only [grps]
        rw [if_neg h]
      rw [e]
      refine Ev.step (fun k => ?_) ih
      simp only [oid_numbers.l0]
      rw [if_pos (by omega), if_pos (by omega), hb, if_neg h]
theorem nums_loop (s : ByteArray) (hs : s.size ≤ 100000) : ∀ (l : List Int) (i : Nat) (acc : List Int) (n : Nat), (bytesOf s).drop i = l → i + l.length = s.size → n ≤ 4294967294 → acc.length ≤ i →
    Ev (fun k => oid_numbers.l1 k s acc i n) (fin acc 4294967294 (grps true n l))
  | [], i, acc, n, hd, hi, hn, ha => by
    refine Ev.step (f := fun _ => some []) (fun k => ?_) (cast_ev (Ev.now _) (by simp [fin, grps]))
    simp only [oid_numbers.l1]
    simp only [List.length_nil] at hi
    rw [if_neg (by omega)]
  | b :: l, i, acc, n, hd, hi, hn, ha => by
    obtain ⟨hb, hr, hlt, b0, b1⟩ := byte_bt s i b l hd
    have hlen : i + 1 + l.length = s.size := by simp only [List.length_cons] at hi; omega
    obtain ⟨x, rfl⟩ : ∃ x : Nat, b = (x : Int) := ⟨b.toNat, by omega⟩
    have e1 : bits .and .i64 (wrap64 (x : Int)) 127 = ((x % 128 : Nat) : Int) := by rw [w64 _ (by omega) (by omega), and127 x (by omega)]
    have e2 : ((x : Int) % 128).toNat = x % 128 := by omega
    have hg : grps true n ((x : Int) :: l) = if (x : Int) < 128 then (grps false 0 l).map (fun r => (128 * n + x % 128) :: r) else grps true (128 * n + x % 128) l := by
      simp only [grps]
      rw [e2]
    rw [hg]
    by_cases hbig : 128 * n + x % 128 > 4294967294
    · refine Ev.step (f := fun _ => some []) (fun k => ?_) (cast_ev (Ev.now _) ?_)
      · simp only [oid_numbers.l1]
        rw [if_pos (by omega), if_pos (by omega), hb, e1, or7 n (x % 128) (by omega) (by omega), if_pos (by omega)]
      · by_cases hx : (x : Int) < 128
        · rw [if_pos hx, fin_map_big _ _ _ _ (by omega)]
        · rw [if_neg hx, fin_big _ _ _ _ (by omega)]
    · by_cases hx : (x : Int) < 128
      · rw [if_pos hx, fin_map _ _ _ _ (by omega)]
        have ih := nums_start s hs l (i + 1) (acc ++ [((128 * n + x % 128 : Nat) : Int)]) hr hlen (nums_loop s hs l (i + 1) _ 0 hr hlen (by omega) (by rw [List.length_append]; simp only [List.length_cons, List.length_nil]; omega))
        refine Ev.step (fun k => ?_) ih
        simp only [oid_numbers.l1]
        rw [if_pos (by omega), if_pos (by omega), hb, e1, or7 n (x % 128) (by omega) (by omega), if_neg (by omega), w64 (x : Int) (by omega) (by omega), if_pos hx, if_pos (by omega), w64 _ (by omega) (by omega)]
        rfl
      · rw [if_neg hx]
        have ih := nums_loop s hs l (i + 1) acc (128 * n + x % 128) hr hlen (by omega) (by omega)
        refine Ev.step (fun k => ?_) ih
        simp only [oid_numbers.l1]
        rw [if_pos (by omega), if_pos (by omega), hb, e1, or7 n (x % 128) (by omega) (by omega), if_neg (by omega), w64 (x : Int) (by omega) (by omega), if_neg hx, w64 _ (by omega) (by omega)]
        rfl
theorem nums_f (s : ByteArray) (hs : s.size ≤ 100000) : Ev (fun k => oid_numbers.f k s) (fin [] 4294967294 (grps false 0 (bytesOf s))) := by
  have hlen : (bytesOf s).length = s.size := by unfold bytesOf; rw [List.length_map]; exact (size_L s).symm
  exact nums_start s hs (bytesOf s) 0 [] List.drop_zero (by omega) (nums_loop s hs (bytesOf s) 0 [] 0 List.drop_zero (by omega) (by omega) (by simp))

/-! ### What is read -/
def arcsOf : List Nat → List Nat
  | [] => []
  | m :: r => min (m / 40) 2 :: (m - 40 * min (m / 40) 2) :: r
def decS (o : Option (List Nat)) : Option (List Nat) := match o with
  | none => none
  | some ms => if ms ≠ [] ∧ ms.length ≤ 11 ∧ (arcsOf ms).all (fun m => decide (m ≤ 2147483647)) = true then some (arcsOf ms) else none
def outT : Option (List Nat) → ByteArray × Int
  | some vs => (ba (tex vs), 0)
  | none => (⟨#[]⟩, 11)
theorem decDigits_dec (n : Nat) : Lib.decDigits n = dec n := by
  induction n using Nat.strongRecOn with
  | ind n ih =>
    by_cases h : n < 10
    · rw [Lib.decDigits, dif_pos h, dec_small n h]
    · rw [Lib.decDigits, dif_neg h, dec_big n h, ih (n / 10) (by omega)]
theorem itoa_dec (n : Nat) (h : n ≤ 9223372036854775807) : Hand.strconv_Itoa.f (n : Int) = some (ba (dec n)) := by
  unfold Hand.strconv_Itoa.f
  rw [if_pos (by omega), if_pos (by omega), Lib.itoa_nonneg, decDigits_dec]; rfl
theorem tail_tex : ∀ (r : List Nat) (v : Nat), tex (v :: r) = dec v ++ Lib.joinTail [46] (r.map dec)
  | [], v => by simp [tex, Lib.joinTail]
  | w :: r, v => by
    show dec v ++ 46 :: tex (w :: r) = _
    rw [tail_tex r w]
    simp [Lib.joinTail]
theorem join_tex (vs : List Nat) (h : vs.length ≤ 100) (hv : ∀ v ∈ vs, v ≤ 2147483647) : Hand.strings_Join.f (vs.map (fun v => ba (dec v))) ⟨#[46]⟩ = some (ba (tex vs)) := by
  have e : Lib.join ((vs.map (fun v => ba (dec v))).map (·.data.toList)) ((⟨#[46]⟩ : ByteArray).data.toList) = tex vs := by
    have e1 : (vs.map (fun v => ba (dec v))).map (·.data.toList) = vs.map dec := by
      rw [List.map_map]
      exact List.map_congr_left fun v _ => L_ba (dec v)
    have e2 : (⟨#[46]⟩ : ByteArray).data.toList = [46] := rfl
    rw [e1, e2]
    cases vs with
    | nil => rfl
    | cons v r => rw [List.map_cons, Lib.join_cons, tail_tex]
  unfold Hand.strings_Join.f Hand.joinB
  have hl := tex_len vs hv
  rw [if_pos (by rw [List.length_map]; omega), e, if_pos (by omega)]
  rfl
theorem mn_nat (a b : Nat) : mn (a : Int) (b : Int) = ((min a b : Nat) : Int) := by
  unfold mn
  by_cases h : a ≤ b
  · have := Nat.min_eq_left h
    split <;> omega
  · have := Nat.min_eq_right (show b ≤ a by omega)
    split <;> omega
theorem dec_loop (vs : List Nat) (h12 : vs.length ≤ 12) : ∀ (d i : Nat), i + d = vs.length → (∀ v ∈ vs.take i, v ≤ 2147483647) → (∀ v ∈ vs, v ≤ 4294967294) →
    Ev (fun k => oid_Decode.l0 k ((vs.take i).map (fun v => ba (dec v))) (vs.map (fun v : Nat => (v : Int))) vs.length i) (outT (if vs.all (fun m => decide (m ≤ 2147483647)) = true then some vs else none))
  | 0, i, hi, hv, hb => by
    have hi' : i = vs.length := by omega
    subst hi'
    rw [List.take_length] at hv ⊢
    rw [if_pos (by rw [List.all_eq_true]; intro x hx; exact decide_eq_true (hv x hx))]
    refine Ev.step (f := fun _ => some _) (fun k => ?_) (Ev.now _)
    simp only [oid_Decode.l0]
    rw [if_neg (by omega), join_tex vs (by omega) hv]
    rfl
  | d + 1, i, hi, hv, hb => by
    have hlt : i < vs.length := by omega
    have hr : rd (vs.map (fun v : Nat => (v : Int))) (i : Int) = ((vs[i] : Nat) : Int) := by
      unfold rd
      rw [Int.toNat_natCast, List.getD_eq_getElem?_getD, List.getElem?_map, List.getElem?_eq_getElem hlt]; rfl
    by_cases hbig : vs[i] > 2147483647
    · refine Ev.step (f := fun _ => some _) (fun k => ?_) (cast_ev (Ev.now (⟨#[]⟩, 11)) ?_)
      · simp only [oid_Decode.l0, List.length_map]
        rw [if_pos (by omega), if_pos (by omega), if_pos (by omega), hr, if_pos (by omega)]
      · rw [if_neg]; · rfl
        rw [List.all_eq_true]
        intro h
        have := of_decide_eq_true (h vs[i] (List.getElem_mem _))
        omega
    · have ih := dec_loop vs h12 d (i + 1) (by omega) (by
        intro v hm
        rw [List.take_succ_eq_append_getElem hlt] at hm
        rcases List.mem_append.1 hm with h | h
        · exact hv v h
        · obtain rfl := List.mem_singleton.1 h
          omega) hb
      refine Ev.step (fun k => ?_) ih
      simp only [oid_Decode.l0, List.length_map]
      rw [if_pos (by omega), if_pos (by omega), if_pos (by omega), hr, if_neg (by omega), itoa_dec _ (by omega), Option.bind_some, if_pos (by rw [List.length_take]; omega), w64 _ (by omega) (by omega), List.take_succ_eq_append_getElem hlt, List.map_append]
      rfl
theorem first_cast (m : Nat) (hm : m ≤ 4294967294) : mn (wrap64 (Int.tdiv (m : Int) 40)) 2 = ((min (m / 40) 2 : Nat) : Int) ∧ wrap64 ((m : Int) - (wrap64 (40 * ((min (m / 40) 2 : Nat) : Int)))) = ((m - 40 * min (m / 40) 2 : Nat) : Int) := by
  have e : Int.tdiv (m : Int) 40 = ((m / 40 : Nat) : Int) := by rw [Int.tdiv_eq_ediv_of_nonneg (by omega)]; rfl
  have e2 : mn (wrap64 (Int.tdiv (m : Int) 40)) 2 = ((min (m / 40) 2 : Nat) : Int) := by
    rw [e, w64 _ (by omega) (by omega)]
    exact mn_nat _ 2
  have h1 : 40 * min (m / 40) 2 ≤ m := by
    have := Nat.min_le_left (m / 40) 2
    omega
  have h2 := Nat.min_le_right (m / 40) 2
  refine ⟨e2, ?_⟩
  generalize min (m / 40) 2 = f at *
  rw [w64 (40 * (f : Int)) (by omega) (by omega), w64 _ (by omega) (by omega)]
  omega
theorem arcsOf_cast (m : Nat) (r : List Nat) (hm : m ≤ 4294967294) : ([mn (wrap64 (Int.tdiv (m : Int) 40)) 2, wrap64 ((m : Int) - (wrap64 (40 * (mn (wrap64 (Int.tdiv (m : Int) 40)) 2))))] : List Int) ++ r.map (fun v : Nat => (v : Int)) = (arcsOf (m :: r)).map (fun v : Nat => (v : Int)) := by
  obtain ⟨e1, e2⟩ := first_cast m hm
  rw [e1, e2]; rfl
theorem arcsOf_le (ms : List Nat) (B : Nat) (hB : 2 ≤ B) (h : ∀ m ∈ ms, m ≤ B) : ∀ v ∈ arcsOf ms, v ≤ B := by
  cases ms with
  | nil => intro v hv; cases hv
  | cons m r =>
    intro v hv
    have := h m (by simp)
    have h2 := Nat.min_le_right (m / 40) 2
    simp only [arcsOf, List.mem_cons] at hv
    rcases hv with rfl | rfl | hv
    · omega
    · omega
    · exact h v (by simp [hv])
theorem arcsOf_back (ms : List Nat) (B : Nat) (h : ∀ v ∈ arcsOf ms, v ≤ B) : ∀ m ∈ ms, m ≤ B + 80 := by
  cases ms with
  | nil => intro v hv; cases hv
  | cons m r =>
    intro v hv
    have h2 := Nat.min_le_right (m / 40) 2
    simp only [List.mem_cons] at hv
    rcases hv with rfl | hv
    · have := h (v - 40 * min (v / 40) 2) (by simp [arcsOf])
      omega
    · have := h v (by simp [arcsOf, hv])
      omega
theorem arcsOf_len (m : Nat) (r : List Nat) : (arcsOf (m :: r)).length = r.length + 2 := rfl
theorem dec_p (s : ByteArray) (hs : s.size ≤ 100000) : Ev (fun k => oid_Decode.f k s) (outT (decS (grps false 0 (bytesOf s)))) := by
  refine Ev.bind (nums_f s hs) ?_
  have bad : ∀ l, Ev (fun k => oid_Decode.j0 k l true) (⟨#[]⟩, 11) := fun l => Ev.step (f := fun _ => some _) (fun k => by simp only [oid_Decode.j0]; rw [if_pos trivial]) (Ev.now _)
  generalize grps false 0 (bytesOf s) = o
  have none_ : fin [] 4294967294 o = [] → decS o = none → Ev (fun k => (if ((fin [] 4294967294 o).length : Int) = 0 then (oid_Decode.j0 k (fin [] 4294967294 o) true) else (oid_Decode.j0 k (fin [] 4294967294 o) (decide (((fin [] 4294967294 o).length : Int) > 11))))) (outT (decS o)) := by
    intro h1 h2
    rw [h1, h2]
    exact Ev.congr (fun k => by rw [if_pos (by rfl)]) (bad _)
  cases o with
  | none => exact none_ rfl rfl
  | some ms =>
    by_cases hb : (ms.all fun m => decide (m ≤ 4294967294)) = true
    · cases ms with
      | nil => exact none_ rfl rfl
      | cons m r =>
        have hall : ∀ v ∈ m :: r, v ≤ 4294967294 := fun v hv => of_decide_eq_true (List.all_eq_true.1 hb v hv)
        have e : fin [] 4294967294 (some (m :: r)) = (m :: r).map (fun m : Nat => (m : Int)) := by rw [fin_pos _ _ _ hall, List.nil_append]
        rw [e]
        simp only [List.length_map, List.length_cons]
        refine Ev.congr (fun k => by rw [if_neg (by omega)]) ?_
        by_cases h11 : r.length + 1 ≤ 11
        · rw [decide_eq_false (show ¬ ((r.length + 1 : Nat) : Int) > 11 by omega)]
          have hm := hall m (by simp)
          have hr0 : rd ((m :: r).map (fun m : Nat => (m : Int))) 0 = (m : Int) := rfl
          have hd1 : ((m :: r).map (fun m : Nat => (m : Int))).drop 1 = r.map (fun m : Nat => (m : Int)) := rfl
          have L := dec_loop (arcsOf (m :: r)) (by rw [arcsOf_len]; omega) (arcsOf (m :: r)).length 0 (by omega) (by simp) (arcsOf_le _ _ (by omega) hall)
          refine Ev.step (fun k => by
            simp only [oid_Decode.j0]
            rw [if_neg (by decide), List.length_map, List.length_cons, if_pos (by omega), Option.bind_some, if_pos (by omega), Option.bind_some, hr0, hd1, if_pos (by simp only [List.length_cons, List.length_nil, List.length_map]; omega), Option.bind_some, arcsOf_cast m r hm, List.length_map]) ?_
          refine cast_ev L ?_
          unfold decS
          by_cases hc : ((arcsOf (m :: r)).all fun m => decide (m ≤ 2147483647)) = true
          · simp only [if_pos hc]
            rw [if_pos ⟨by simp, by simp only [List.length_cons]; omega, hc⟩]
          · simp only [if_neg hc]
            rw [if_neg (fun h => hc h.2.2)]
        · rw [decide_eq_true (show ((r.length + 1 : Nat) : Int) > 11 by omega)]
          refine cast_ev (bad _) ?_
          unfold decS
          simp only []
          rw [if_neg (fun h => h11 (by simpa using h.2.1))]; rfl
    · refine none_ ?_ ?_
      · exact fin_neg _ _ _ fun hh => hb (List.all_eq_true.2 fun m hm => decide_eq_true (hh m hm))
      · unfold decS
        simp only []
        rw [if_neg]
        rintro ⟨h1, h2, h3⟩
        apply hb
        rw [List.all_eq_true]
        intro m hm
        have := arcsOf_back ms 2147483647 (fun v hv => of_decide_eq_true (List.all_eq_true.1 h3 v hv)) m hm
        exact decide_eq_true (by omega)

/-! ### The definition's -/
def comb (vs ms : List Nat) : List Nat := if vs = [] then arcsOf ms else vs ++ ms
def rfin (vs : List Nat) : Option (List Nat) → Option (List Nat)
  | none => none
  | some ms => if comb vs ms ≠ [] ∧ (comb vs ms).length ≤ 12 ∧ ∀ v ∈ comb vs ms, v ≤ 2147483647 then some (comb vs ms) else none
theorem rfin_congr (vs us : List Nat) (m : Nat) (o : Option (List Nat)) (h : ∀ r, comb vs (m :: r) = comb us r) : rfin vs (o.map (fun r => m :: r)) = rfin us o := by
  cases o with
  | none => rfl
  | some r => simp only [Option.map_some, rfin, h]
theorem rfin_none (vs : List Nat) (m : Nat) (o : Option (List Nat)) (h : ∀ r, ¬ ((comb vs (m :: r)).length ≤ 12 ∧ ∀ v ∈ comb vs (m :: r), v ≤ 2147483647)) : rfin vs (o.map (fun r => m :: r)) = none := by
  cases o with
  | none => rfl
  | some r =>
    simp only [Option.map_some, rfin]
    rw [if_neg (fun hh => h r hh.2)]
theorem comb_big (vs : List Nat) (m : Nat) (h : 2147483727 < m) (r : List Nat) : ¬ ((comb vs (m :: r)).length ≤ 12 ∧ ∀ v ∈ comb vs (m :: r), v ≤ 2147483647) := by
  rintro ⟨_, hh⟩
  unfold comb at hh
  by_cases hv : vs = []
  · rw [if_pos hv] at hh
    have := arcsOf_back _ _ hh m (by simp)
    omega
  · rw [if_neg hv] at hh
    have := hh m (by simp)
    omega
theorem rfin_big (vs : List Nat) (m : Nat) (h : 2147483727 < m) (o : Option (List Nat)) : rfin vs (o.map (fun r => m :: r)) = none := rfin_none vs m o (comb_big vs m h)
theorem rfin_grow (vs : List Nat) (n : Nat) (h : 2147483727 < n) (l : List Int) : rfin vs (grps true n l) = none := by
  cases hg : grps true n l with
  | none => rfl
  | some ms =>
    obtain ⟨m, r, rfl, hm⟩ := grps_ge l n ms hg
    exact rfin_big vs m (by omega) (some r)
theorem okP_dec_big (v : Nat) (h : 2147483647 < v) : okP (dec v) = false := by
  rw [Bool.eq_false_iff]
  intro hh
  have := (okP_parts _ hh).2.2.2.1
  rw [(dec_facts v).2.1] at this
  omega
theorem arcs_tex_big (vs : List Nat) (hne : vs ≠ []) (v : Nat) (hm : v ∈ vs) (h : 2147483647 < v) : arcsS (ba (tex vs)) = none := by
  unfold arcsS
  rw [L_ba, spl_tex vs hne, if_neg]
  rintro ⟨_, _, hh, _⟩
  have := List.all_eq_true.1 hh (dec v) (List.mem_map.2 ⟨v, hm, rfl⟩)
  rw [okP_dec_big v h] at this
  cases this
theorem dec_len10 (v : Nat) (h : v ≤ 4294967294) : (dec v).length ≤ 10 := dec_len 9 v (by
  have : (10 : Nat) ^ (9 + 1) = 10000000000 := by decide
  omega)
theorem tex_len2 : ∀ vs : List Nat, (∀ v ∈ vs, v ≤ 4294967294) → (tex vs).length ≤ 11 * vs.length
  | [], _ => by simp [tex]
  | [v], h => by
    have := dec_len10 v (h v (by simp))
    simp [tex]; omega
  | v :: w :: r, h => by
    have ih := tex_len2 (w :: r) (fun x hx => h x (by simp only [List.mem_cons] at hx ⊢; exact Or.inr hx))
    have := dec_len10 v (h v (by simp))
    simp only [tex, List.length_append, List.length_cons] at ih ⊢
    omega
abbrev ints (vs : List Nat) : List Int := vs.map (fun v : Nat => (v : Int))
theorem root_first (m : Nat) : rootB ((min (m / 40) 2 : Nat) : Int) ((m - 40 * min (m / 40) 2 : Nat) : Int) = true := by
  unfold rootB
  simp only [Bool.or_eq_true, Bool.and_eq_true, decide_eq_true_eq]
  by_cases h : m / 40 ≤ 2
  · rw [Nat.min_eq_left h]; omega
  · rw [Nat.min_eq_right (show 2 ≤ m / 40 by omega)]; omega
theorem grps_open (n : Nat) (b : Int) (l : List Int) (h : b ≠ 128) : grps false n (b :: l) = grps true n (b :: l) := by
  simp only [grps]
  rw [if_neg h]
theorem rdec_end (s : ByteArray) (vs : List Nat) (g : Bool) (v : Nat) (i : Nat) (hi : i = s.size) (h12 : vs.length ≤ 12) (hvs : vs ≠ [] → 0 < i ∧ 2 ≤ vs.length ∧ rootB (rd (ints vs) 0) (rd (ints vs) 1) = true) (hb : ∀ x ∈ vs, x ≤ 2147483727) :
    Ev (fun k => certpathref01_DecodeOID.l0 k s (ba (tex vs)) v g vs.length i) (outT (rfin vs (grps g v []))) := by
  by_cases h0 : s.size = 0
  · have hv : vs = [] := by
      by_cases e : vs = []
      · exact e
      · have := (hvs e).1; omega
    refine Ev.step (f := fun _ => some _) (fun k => ?_) (cast_ev (Ev.now (⟨#[]⟩, 11)) ?_)
    · simp only [certpathref01_DecodeOID.l0]
      rw [if_neg (by omega), if_pos (by omega)]
    · subst hv
      cases g <;> rfl
  · cases g with
    | true =>
      refine Ev.step (f := fun _ => some ((⟨#[]⟩ : ByteArray), (11 : Int))) (fun k => ?_) (Ev.now _)
      simp only [certpathref01_DecodeOID.l0]
      rw [if_neg (by omega), if_neg (by omega), if_pos trivial]
    | false =>
      refine Ev.step (fun k => by
        simp only [certpathref01_DecodeOID.l0]
        rw [if_neg (by omega), if_neg (by omega), if_neg (by decide)]) ?_
      have hts := tex_len2 vs (fun x hx => by have := hb x hx; omega)
      refine Ev.bind (valid_r (ba (tex vs)) (by rw [size_ba]; omega)) ?_
      by_cases hv : vs = []
      · subst hv
        have e : (arcsS (ba (tex []))).isSome = false := by kernel_rfl
        rw [e]
        exact Ev.congr (f := fun _ => some ((⟨#[]⟩ : ByteArray), (11 : Int))) (fun k => by rw [if_neg (by decide)]) (Ev.now _)
      · obtain ⟨_, h2, hr⟩ := hvs hv
        have ec : comb vs [] = vs := by unfold comb; rw [if_neg hv, List.append_nil]
        have er : rfin vs (grps false v []) = if ∀ x ∈ vs, x ≤ 2147483647 then some vs else none := by
          simp only [grps, rfin, ec]
          by_cases hc : ∀ x ∈ vs, x ≤ 2147483647
          · rw [if_pos hc, if_pos ⟨hv, h12, hc⟩]
          · rw [if_neg hc, if_neg (fun hh => hc hh.2.2)]
        rw [er]
        by_cases hc : ∀ x ∈ vs, x ≤ 2147483647
        · rw [if_pos hc, arcs_tex vs h2 h12 hc hr]
          exact Ev.congr (f := fun _ => some (ba (tex vs), (0 : Int))) (fun k => by rw [if_pos (by rfl)]) (Ev.now _)
        · rw [if_neg hc]
          have : ∃ x, x ∈ vs ∧ 2147483647 < x := by
            apply Classical.byContradiction
            intro hn
            exact hc fun x hx => Nat.le_of_not_lt fun hl => hn ⟨x, hx, hl⟩
          obtain ⟨x, hx, hl⟩ := this
          rw [arcs_tex_big vs hv x hx hl]
          exact Ev.congr (f := fun _ => some ((⟨#[]⟩ : ByteArray), (11 : Int))) (fun k => by rw [if_neg (by decide)]) (Ev.now _)
theorem rdec_loop (s : ByteArray) (hs : s.size ≤ 100000) : ∀ (l : List Int) (i : Nat) (vs : List Nat) (g : Bool) (v : Nat), (bytesOf s).drop i = l → i + l.length = s.size → vs.length ≤ 12 → (vs ≠ [] → 0 < i ∧ 2 ≤ vs.length ∧ rootB (rd (ints vs) 0) (rd (ints vs) 1) = true) → (∀ x ∈ vs, x ≤ 2147483727) → v ≤ 2147483727 →
    Ev (fun k => certpathref01_DecodeOID.l0 k s (ba (tex vs)) v g vs.length i) (outT (rfin vs (grps g v l)))
  | [], i, vs, g, v, hd, hi, h12, hvs, hb, hv => rdec_end s vs g v i (by simpa using hi) h12 hvs hb
  | b :: l, i, vs, g, v, hd, hi, h12, hvs, hb, hv => by
    obtain ⟨hbt, hr, hlt, b0, b1⟩ := byte_bt s i b l hd
    have hlen : i + 1 + l.length = s.size := by simp only [List.length_cons] at hi; omega
    obtain ⟨x, rfl⟩ : ∃ x : Nat, b = (x : Int) := ⟨b.toNat, by omega⟩
    have bad : ∀ st n, Ev (fun k => certpathref01_DecodeOID.j1 k s st v n i true) (⟨#[]⟩, 11) := fun st n => Ev.step (f := fun _ => some _) (fun k => by simp only [certpathref01_DecodeOID.j1]; rw [if_pos trivial]) (Ev.now _)
    have J : Ev (fun k => certpathref01_DecodeOID.j1 k s (ba (tex vs)) v vs.length i false) (outT (rfin vs (grps true v ((x : Int) :: l)))) := by
      have e1 : wrap64 ((wrap64 (128 * (v : Int))) + (wrap64 (Int.tmod (x : Int) 128))) = ((128 * v + x % 128 : Nat) : Int) := by
        have e0 : Int.tmod (x : Int) 128 = ((x % 128 : Nat) : Int) := by rw [Int.tmod_eq_emod_of_nonneg (by omega)]; rfl
        rw [e0, w64 (128 * (v : Int)) (by omega) (by omega), w64 ((x % 128 : Nat) : Int) (by omega) (by omega), w64 _ (by omega) (by omega)]; omega
      have e2 : ((x : Int) % 128).toNat = x % 128 := by omega
      simp only [grps]
      rw [e2]
      obtain ⟨m, hM⟩ : ∃ m, m = 128 * v + x % 128 := ⟨_, rfl⟩
      rw [← hM] at e1 ⊢
      by_cases hbig : 2147483727 < m
      · refine Ev.step (f := fun _ => some ((⟨#[]⟩ : ByteArray), (11 : Int))) (fun k => ?_) (cast_ev (Ev.now _) ?_)
        · simp only [certpathref01_DecodeOID.j1]
          rw [if_neg (by decide), if_pos (by omega), if_pos (by omega), hbt, e1, if_pos (by omega)]
        · by_cases hx : (x : Int) < 128
          · rw [if_pos hx, rfin_big _ _ hbig]; rfl
          · rw [if_neg hx, rfin_grow _ _ hbig]; rfl
      · by_cases hx : (x : Int) < 128
        · rw [if_pos hx]
          by_cases hv0 : vs = []
          · subst hv0
            obtain ⟨f1, f2⟩ := first_cast m (by omega)
            have hmin := Nat.min_le_right (m / 40) 2
            have hle : m - 40 * min (m / 40) 2 ≤ m := Nat.sub_le _ _
            have hroot := root_first m
            rw [rfin_congr [] [min (m / 40) 2, m - 40 * min (m / 40) 2] m _ (fun r => by unfold comb; rw [if_pos rfl, if_neg (by simp)]; rfl)]
            obtain ⟨f, hf⟩ : ∃ f, f = min (m / 40) 2 := ⟨_, rfl⟩
            rw [← hf] at f1 f2 hmin hle hroot ⊢
            obtain ⟨q, hq⟩ : ∃ q, q = m - 40 * f := ⟨_, rfl⟩
            rw [← hq] at f2 hle hroot ⊢
            have hq2 : q ≤ 2147483727 := Nat.le_trans hle (by omega)
            have hf2 : f ≤ 2147483727 := Nat.le_trans hmin (by decide)
            clear hf hq
            have hall : ∀ y ∈ [f, q], y ≤ 2147483727 := by
              intro y hy
              simp only [List.mem_cons, List.not_mem_nil, or_false] at hy
              rcases hy with rfl | rfl
              · exact hf2
              · exact hq2
            have hroot' : rootB (rd (ints [f, q]) 0) (rd (ints [f, q]) 1) = true := by
              have r0 : rd (ints [f, q]) 0 = (f : Int) := rfl
              have r1 : rd (ints [f, q]) 1 = (q : Int) := rfl
              rw [r0, r1]; exact hroot
            have h2 : ([f, q] : List Nat).length = 2 := rfl
            have ih := rdec_loop s hs l (i + 1) [f, q] false 0 hr hlen (by rw [h2]; decide) (fun _ => ⟨Nat.succ_pos i, by rw [h2]; decide, hroot'⟩) hall (Nat.zero_le _)
            have lf := dec_len10 f (Nat.le_trans hf2 (by decide))
            have lq := dec_len10 q (Nat.le_trans hq2 (by decide))
            have es1 : ba (dec f) ++ (⟨#[46]⟩ : ByteArray) = ba (dec f ++ [46]) := ext_L (by rw [L_append, L_ba, L_ba])
            have es2 : ba (dec f ++ [46]) ++ ba (dec q) = ba (tex [f, q]) := ext_L (by simp only [L_append, L_ba, tex, List.append_assoc, List.singleton_append])
            have z1 : (dec f).length + 1 ≤ 9223372036854775807 := Nat.le_trans (Nat.succ_le_succ lf) (by decide)
            have z2 : (dec f ++ [46]).length + (dec q).length ≤ 9223372036854775807 := by
              rw [List.length_append]
              exact Nat.le_trans (Nat.add_le_add (Nat.succ_le_succ lf) lq) (by decide)
            have z3 : wrap64 ((i : Int) + 1) = ((i + 1 : Nat) : Int) := by clear f1 f2; rw [w64 _ (by omega) (by omega)]; rfl
            have z4 : ¬ (m : Int) > 2147483727 := by clear f1 f2; omega
            have z5 : ¬ (x : Int) ≥ 128 := by clear f1 f2; omega
            have z6 : (0 : Int) ≤ (i : Int) := Int.natCast_nonneg i
            have z7 : (i : Int) < (s.size : Int) := by clear f1 f2; omega
            have z8 : decide ((x : Int) ≥ 128) = false := decide_eq_false z5
            refine Ev.step (fun k => by
              simp only [certpathref01_DecodeOID.j1]
              rw [if_neg (by decide), if_pos z6, if_pos z7, hbt, e1, if_neg z4, if_neg z5, if_pos (show (([] : List Nat).length : Int) = 0 from rfl), f1]) ?_
            refine Ev.bind (dec_f f (Nat.lt_of_le_of_lt hf2 (by decide))) ?_
            refine Ev.congr (fun k => by rw [size_ba, if_pos z1, f2]) ?_
            refine Ev.bind (dec_f q (Nat.lt_of_le_of_lt hq2 (by decide))) ?_
            refine Ev.congr (fun k => ?_) ih
            rw [es1, size_ba, size_ba, if_pos z2, if_neg (by decide), es2, z8, z3]
            rfl
          · have hpos : 0 < vs.length := List.length_pos_iff.2 hv0
            obtain ⟨g1, g2, g3⟩ := hvs hv0
            have lm := dec_len10 m (by omega)
            have hts := tex_len2 vs (fun x hx => by have := hb x hx; omega)
            have es1 : (⟨#[46]⟩ : ByteArray) ++ ba (dec m) = ba (46 :: dec m) := ext_L (by rw [L_append, L_ba, L_ba]; rfl)
            have es2 : ba (tex vs) ++ ba (46 :: dec m) = ba (tex (vs ++ [m])) := ext_L (by rw [L_append, L_ba, L_ba, L_ba, tex_snoc _ _ hv0])
            refine Ev.step (fun k => by
              simp only [certpathref01_DecodeOID.j1]
              rw [if_neg (by decide), if_pos (by omega), if_pos (by omega), hbt, e1, if_neg (by omega), if_neg (by omega), if_neg (by omega)]) ?_
            refine Ev.bind (dec_f m (by omega)) ?_
            refine Ev.congr (fun k => by
              rw [size_ba, if_pos (by omega), es1, size_ba, size_ba, if_pos (by simp only [List.length_cons]; omega), w64 _ (by omega) (by omega), es2]) ?_
            by_cases h13 : vs.length + 1 > 12
            · rw [rfin_none vs m _ (fun r hh => by
                have := hh.1
                unfold comb at this
                rw [if_neg hv0, List.length_append, List.length_cons] at this
                omega)]
              exact Ev.congr (f := fun _ => some ((⟨#[]⟩ : ByteArray), (11 : Int))) (fun k => by rw [if_pos (by omega)]) (Ev.now _)
            · rw [rfin_congr vs (vs ++ [m]) m _ (fun r => by unfold comb; rw [if_neg hv0, if_neg (by simp), List.append_assoc]; rfl)]
              have ih := rdec_loop s hs l (i + 1) (vs ++ [m]) false 0 hr hlen (by rw [List.length_append]; simp only [List.length_cons, List.length_nil]; omega) (fun _ => ⟨by omega, by rw [List.length_append]; omega, by
                  obtain ⟨a, b, r, rfl⟩ : ∃ a b r, vs = a :: b :: r := by
                    match vs, g2 with
                    | a :: b :: r, _ => exact ⟨a, b, r, rfl⟩
                  exact g3⟩) (by
                  intro y hy
                  rcases List.mem_append.1 hy with h | h
                  · exact hb y h
                  · obtain rfl := List.mem_singleton.1 h
                    omega) (by omega)
              refine Ev.congr (fun k => ?_) ih
              rw [if_neg (by omega), decide_eq_false (by omega), w64 _ (by omega) (by omega)]
              simp only [List.length_append, List.length_cons, List.length_nil]
              rfl
        · rw [if_neg hx]
          have ih := rdec_loop s hs l (i + 1) vs true m hr hlen h12 (fun h => ⟨by omega, (hvs h).2⟩) hb (by omega)
          refine Ev.step (fun k => ?_) ih
          simp only [certpathref01_DecodeOID.j1]
          rw [if_neg (by decide), if_pos (by omega), if_pos (by omega), hbt, e1, if_neg (by omega), if_pos (by omega), decide_eq_true (by omega), w64 _ (by omega) (by omega)]
          rfl
    cases g with
    | true => exact Ev.step (fun k => by simp only [certpathref01_DecodeOID.l0]; rw [if_pos (by omega), if_pos trivial]) J
    | false =>
      refine Ev.step (fun k => by simp only [certpathref01_DecodeOID.l0]; rw [if_pos (by omega), if_neg (by decide), if_pos (by omega), hbt]) ?_
      by_cases h128 : (x : Int) = 128
      · rw [h128]
        exact bad _ _
      · rw [grps_open _ _ _ h128, beq_eq_false_iff_ne.2 h128]
        exact J
theorem rfin_dec (o : Option (List Nat)) : rfin [] o = decS o := by
  cases o with
  | none => rfl
  | some ms =>
    cases ms with
    | nil => rfl
    | cons m r =>
      have ec : comb [] (m :: r) = arcsOf (m :: r) := rfl
      simp only [rfin, decS, ec, arcsOf_len, List.length_cons]
      by_cases hc : r.length ≤ 10 ∧ ∀ v ∈ arcsOf (m :: r), v ≤ 2147483647
      · rw [if_pos ⟨by simp [arcsOf], by omega, hc.2⟩, if_pos ⟨by simp, by omega, List.all_eq_true.2 fun v hv => decide_eq_true (hc.2 v hv)⟩]
      · rw [if_neg (fun h => hc ⟨by omega, h.2.2⟩), if_neg (fun h => hc ⟨by omega, fun v hv => of_decide_eq_true (List.all_eq_true.1 h.2.2 v hv)⟩)]
theorem dec_r (s : ByteArray) (hs : s.size ≤ 100000) : Ev (fun k => certpathref01_DecodeOID.f k s) (outT (decS (grps false 0 (bytesOf s)))) := by
  have hlen : (bytesOf s).length = s.size := by unfold bytesOf; rw [List.length_map]; exact (size_L s).symm
  rw [← rfin_dec]
  exact rdec_loop s hs (bytesOf s) 0 [] false 0 List.drop_zero (by omega) (by simp) (fun h => absurd rfl h) (by simp) (by omega)
end Go.Proofs.YtcmmlemajlhjoaaDoor.Oid
