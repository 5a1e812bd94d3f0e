/- What is written is read back, and what is read is what is written. -/
import Derived.Test.YtcmmlemajlhjoaaDoorOidDecR
set_option linter.unusedVariables false
set_option linter.unusedSimpArgs false
namespace Go.Proofs.YtcmmlemajlhjoaaDoor.Oid
open Go Go.RowKit Go.Proofs.YtcmmlemajlhjoaaDoor.Q Go.Proofs.YtcmmlemajlhjoaaDoorW.PrintWords Go.Proofs.YtcmmlemajlhjoaaDoorW.PrintLast Go.Proofs.YtcmmlemajlhjoaaDoorW.PrintMore Go.Proofs.YtcmmlemajlhjoaaDoor.Num Go.Proofs.YtcmmlemajlhjoaaDoor.Str

theorem G_bytes (n : Nat) : ∀ i, ∀ b ∈ G n i, 128 ≤ b ∧ b < 256
  | 0, b, h => by cases h
  | i + 1, b, h => by
    simp only [G, List.mem_cons] at h
    rcases h with rfl | h
    · have := Nat.mod_lt (n / 128 ^ (i + 1)) (show 128 > 0 by decide)
      generalize n / 128 ^ (i + 1) % 128 = q at *
      omega
    · exact G_bytes n i b h
theorem E_bytes (v : Int) : ∀ b ∈ E v, 0 ≤ b ∧ b < 256 := by
  intro b h
  unfold E at h
  rcases List.mem_append.1 h with h | h
  · have := G_bytes _ _ b h; omega
  · obtain rfl := List.mem_singleton.1 h
    have := Nat.mod_lt v.toNat (show 128 > 0 by decide)
    omega
theorem grps_G (m : Nat) (rest : List Int) : ∀ i, grps true (m / 128 ^ (i + 1)) (G m i ++ (((m % 128 : Nat) : Int) :: rest)) = (grps false 0 rest).map (fun r => m :: r)
  | 0 => by
    have e1 : ((((m % 128 : Nat) : Int)) % 128).toNat = m % 128 := by omega
    have e2 : 128 * (m / 128 ^ (0 + 1)) + m % 128 = m := by rw [show (128 : Nat) ^ (0 + 1) = 128 from rfl]; omega
    simp only [G, List.nil_append, grps]
    rw [if_pos (by omega), e1, e2]
  | i + 1 => by
    have ih := grps_G m rest i
    have hd : m / 128 ^ (i + 1 + 1) = m / 128 ^ (i + 1) / 128 := by rw [Nat.pow_succ, Nat.div_div_eq_div_mul]
    have hg : G m (i + 1) ++ (((m % 128 : Nat) : Int) :: rest) = (((m / 128 ^ (i + 1)) % 128 + 128 : Nat) : Int) :: (G m i ++ (((m % 128 : Nat) : Int) :: rest)) := rfl
    rw [hg, hd]
    generalize m / 128 ^ (i + 1) = q at *
    have e1 : ((((q % 128 + 128 : Nat) : Int)) % 128).toNat = q % 128 := by omega
    have e2 : 128 * (q / 128) + q % 128 = q := by omega
    simp only [grps]
    rw [if_neg (by omega), e1, e2]
    exact ih
theorem grps_E (m : Nat) (hm : m < 34359738368) (rest : List Int) : grps false 0 (E (m : Int) ++ rest) = (grps false 0 rest).map (fun r => m :: r) := by
  obtain ⟨k1, k5, kz, km⟩ := K_facts m hm
  have hE : E (m : Int) ++ rest = G m (K m - 1) ++ (((m % 128 : Nat) : Int) :: rest) := by unfold E; rw [Int.toNat_natCast]; simp
  have main : grps true 0 (E (m : Int) ++ rest) = (grps false 0 rest).map (fun r => m :: r) := by
    have := grps_G m rest (K m - 1)
    rw [show K m - 1 + 1 = K m by omega, kz] at this
    rw [hE]; exact this
  rw [← main, hE]
  by_cases h1 : K m = 1
  · rw [h1]
    simp only [Nat.sub_self, G, List.nil_append]
    exact grps_open _ _ _ (by omega)
  · obtain ⟨j, hj⟩ : ∃ j, K m = j + 2 := ⟨K m - 2, by omega⟩
    have hne := km (j + 1) (by omega) (by omega)
    have hz : m / 128 ^ (j + 1) / 128 = 0 := by
      rw [hj] at kz
      rw [Nat.div_div_eq_div_mul, ← Nat.pow_succ]; exact kz
    rw [hj]
    have e : G m (j + 2 - 1) = (((m / 128 ^ (j + 1)) % 128 + 128 : Nat) : Int) :: G m j := rfl
    rw [e]
    generalize m / 128 ^ (j + 1) = q at *
    exact grps_open _ _ _ (by omega)
theorem grps_flat : ∀ ms : List Nat, (∀ m ∈ ms, m < 34359738368) → grps false 0 (ms.flatMap (fun m : Nat => E (m : Int))) = some ms
  | [], _ => rfl
  | m :: r, h => by
    rw [List.flatMap_cons, grps_E m (h m (by simp)), grps_flat r (fun x hx => h x (by simp [hx]))]; rfl
theorem grps_inv : ∀ (l : List Int), (∀ b ∈ l, 0 ≤ b ∧ b < 256) → ∀ (n : Nat) (ms : List Nat), grps true n l = some ms → ∃ m r i rest, ms = m :: r ∧ l = G m i ++ (((m % 128 : Nat) : Int) :: rest) ∧ m / 128 ^ (i + 1) = n ∧ grps false 0 rest = some r ∧ rest.length < l.length
  | [], _, n, ms, h => by simp [grps] at h
  | b :: l, hb, n, ms, h => by
    have h0 := hb b (by simp)
    obtain ⟨x, rfl⟩ : ∃ x : Nat, b = (x : Int) := ⟨b.toNat, by omega⟩
    have e2 : ((x : Int) % 128).toNat = x % 128 := by omega
    simp only [grps] at h
    rw [e2] at h
    by_cases hx : (x : Int) < 128
    · rw [if_pos hx] at h
      cases hr : grps false 0 l with
      | none => rw [hr] at h; cases h
      | some r =>
        rw [hr] at h
        refine ⟨128 * n + x % 128, r, 0, l, (Option.some.inj h).symm, ?_, ?_, hr, by simp⟩
        · have : ((128 * n + x % 128) % 128 : Nat) = x := by omega
          rw [this]; rfl
        · rw [show (128 : Nat) ^ (0 + 1) = 128 from rfl]; omega
    · rw [if_neg hx] at h
      obtain ⟨m, r, i, rest, e1, e3, e4, e5, e6⟩ := grps_inv l (fun c hc => hb c (by simp [hc])) _ ms h
      refine ⟨m, r, i + 1, rest, e1, ?_, ?_, e5, by simp; omega⟩
      · have hg : G m (i + 1) = (((m / 128 ^ (i + 1)) % 128 + 128 : Nat) : Int) :: G m i := rfl
        rw [hg, e4, e3]
        have : ((128 * n + x % 128) % 128 + 128 : Nat) = x := by omega
        rw [this]; rfl
      · rw [Nat.pow_succ, ← Nat.div_div_eq_div_mul, e4]; omega
theorem grps_back : ∀ (k : Nat) (l : List Int), l.length ≤ k → (∀ b ∈ l, 0 ≤ b ∧ b < 256) → ∀ ms : List Nat, (∀ m ∈ ms, m < 34359738368) → grps false 0 l = some ms → l = ms.flatMap (fun m : Nat => E (m : Int))
  | k, [], _, _, ms, _, h => by
    simp only [grps] at h
    obtain rfl := Option.some.inj h
    rfl
  | 0, b :: l, hk, _, _, _, _ => by simp at hk
  | k + 1, b :: l, hk, hb, ms, hms, h => by
    by_cases h128 : b = 128
    · simp only [grps] at h
      rw [if_pos h128] at h; cases h
    · rw [grps_open _ _ _ h128] at h
      obtain ⟨m, r, i, rest, rfl, e3, e4, e5, e6⟩ := grps_inv (b :: l) hb 0 ms h
      have hm := hms m (by simp)
      obtain ⟨k1, k5, kz, km⟩ := K_facts m hm
      have hK : K m = i + 1 := by
        rcases Nat.lt_trichotomy (K m) (i + 1) with hl | he | hg
        · exfalso
          obtain ⟨j, rfl⟩ : ∃ j, i = j + 1 := ⟨i - 1, by omega⟩
          have hq : m / 128 ^ (j + 1) = 0 := by
            obtain ⟨d, hd⟩ : ∃ d, j + 1 = K m + d := ⟨j + 1 - K m, by omega⟩
            rw [hd, Nat.pow_add, ← Nat.div_div_eq_div_mul, kz, Nat.zero_div]
          have hg : G m (j + 1) = (((m / 128 ^ (j + 1)) % 128 + 128 : Nat) : Int) :: G m j := rfl
          rw [hg, hq] at e3
          injection e3 with e7 _
          exact h128 e7
        · exact he
        · exact absurd e4 (km (i + 1) (by omega) hg)
      have hE : E (m : Int) = G m i ++ [((m % 128 : Nat) : Int)] := by unfold E; rw [Int.toNat_natCast, hK]; rfl
      have hbr : ∀ b ∈ rest, 0 ≤ b ∧ b < 256 := fun c hc => hb c (by rw [e3]; simp [hc])
      have ih := grps_back k rest (by simp only [List.length_cons] at hk e6; omega) hbr r (fun x hx => hms x (by simp [hx])) e5
      rw [List.flatMap_cons, ← ih, hE, e3, List.append_assoc]; rfl
theorem flat_map (r : List Nat) : (ints r).flatMap E = r.flatMap (fun m : Nat => E (m : Int)) := by
  induction r with
  | nil => rfl
  | cons a r ih => rw [show ints (a :: r) = (a : Int) :: ints r from rfl, List.flatMap_cons, List.flatMap_cons, ih]
theorem encS_eq (a b : Nat) (r : List Nat) : encS (ints (a :: b :: r)) = ((40 * a + b) :: r).flatMap (fun m : Nat => E (m : Int)) := by
  have e : encS (ints (a :: b :: r)) = ((40 * (a : Int) + (b : Int)) :: ints r).flatMap E := rfl
  have e2 : (40 * (a : Int) + (b : Int)) = ((40 * a + b : Nat) : Int) := by omega
  rw [e, e2, List.flatMap_cons, List.flatMap_cons, flat_map]
theorem flat_bytes (ms : List Nat) : ∀ b ∈ ms.flatMap (fun m : Nat => E (m : Int)), 0 ≤ b ∧ b < 256 := by
  intro b h
  obtain ⟨m, _, hb⟩ := List.mem_flatMap.1 h
  exact E_bytes _ b hb
theorem flat_len : ∀ ms : List Nat, (∀ m ∈ ms, m < 34359738368) → (ms.flatMap (fun m : Nat => E (m : Int))).length ≤ 5 * ms.length
  | [], _ => by simp
  | m :: r, h => by
    have ih := flat_len r (fun x hx => h x (by simp [hx]))
    have := E_len (m : Int) (by omega) (by have := h m (by simp); omega)
    rw [List.flatMap_cons, List.length_append, List.length_cons]; omega
def good (vs : List Nat) : Prop := 2 ≤ vs.length ∧ vs.length ≤ 12 ∧ (∀ v ∈ vs, v ≤ 2147483647) ∧ rootB (rd (ints vs) 0) (rd (ints vs) 1) = true
theorem good_two (vs : List Nat) (h : good vs) : ∃ a b r, vs = a :: b :: r ∧ r.length ≤ 10 ∧ a ≤ 2 ∧ b ≤ 2147483647 ∧ (∀ v ∈ r, v ≤ 2147483647) ∧ (a ≤ 1 → b ≤ 39) := by
  obtain ⟨h2, h12, hv, hr⟩ := h
  match vs, h2 with
  | a :: b :: r, _ =>
    have hr' : rootB (a : Int) (b : Int) = true := hr
    unfold rootB at hr'
    simp only [Bool.or_eq_true, Bool.and_eq_true, decide_eq_true_eq] at hr'
    refine ⟨a, b, r, rfl, by simpa using h12, by omega, hv b (by simp), fun v hm => hv v (by simp [hm]), by omega⟩
theorem read_written (vs : List Nat) (h : good vs) : decS (grps false 0 (bytesOf (strOfNums (encS (ints vs))))) = some vs ∧ (strOfNums (encS (ints vs))).size ≤ 55 := by
  obtain ⟨a, b, r, rfl, hr, ha, hb, hv, hab⟩ := good_two vs h
  rw [encS_eq, bytes_strOf _ (flat_bytes _)]
  have hall : ∀ m ∈ (40 * a + b) :: r, m < 34359738368 := by
    intro m hm
    rcases List.mem_cons.1 hm with rfl | hm
    · omega
    · have := hv m hm; omega
  have ea : arcsOf ((40 * a + b) :: r) = a :: b :: r := by
    have hmin : min ((40 * a + b) / 40) 2 = a := by
      by_cases h1 : a ≤ 1
      · have := hab h1
        rw [Nat.min_eq_left (by omega)]; omega
      · rw [Nat.min_eq_right (by omega)]; omega
    unfold arcsOf
    simp only []
    rw [hmin, Nat.add_sub_cancel_left]
  refine ⟨?_, ?_⟩
  · rw [grps_flat _ hall]
    simp only [decS, ea]
    rw [if_pos]
    refine ⟨by simp, by simp only [List.length_cons]; omega, ?_⟩
    rw [List.all_eq_true]
    exact fun v hm => decide_eq_true (h.2.2.1 v hm)
  · have hl := flat_len _ hall
    have e : (strOfNums (((40 * a + b) :: r).flatMap (fun m : Nat => E (m : Int)))).size = (((40 * a + b) :: r).flatMap (fun m : Nat => E (m : Int))).length := by
      rw [size_L]
      have := congrArg List.length (bytes_strOf _ (flat_bytes ((40 * a + b) :: r)))
      rw [← this]; unfold bytesOf; rw [List.length_map]
    rw [e]; simp only [List.length_cons] at hl; omega
theorem written_read (c : ByteArray) (vs : List Nat) (h : decS (grps false 0 (bytesOf c)) = some vs) : good vs ∧ strOfNums (encS (ints vs)) = c := by
  cases hg : grps false 0 (bytesOf c) with
  | none => rw [hg] at h; cases h
  | some ms =>
    rw [hg] at h
    simp only [decS] at h
    split at h
    · rename_i hc
      obtain rfl := Option.some.inj h
      obtain ⟨hne, h11, hall⟩ := hc
      cases ms with
      | nil => exact absurd rfl hne
      | cons m r =>
        have hv : ∀ v ∈ arcsOf (m :: r), v ≤ 2147483647 := fun v hm => of_decide_eq_true (List.all_eq_true.1 hall v hm)
        have hms := arcsOf_back _ _ hv
        refine ⟨⟨by simp [arcsOf], by simp only [List.length_cons] at h11; simp only [arcsOf, List.length_cons]; omega, hv, root_first m⟩, ?_⟩
        have e : encS (ints (arcsOf (m :: r))) = (m :: r).flatMap (fun m : Nat => E (m : Int)) := by
          have e1 : arcsOf (m :: r) = min (m / 40) 2 :: (m - 40 * min (m / 40) 2) :: r := rfl
          have h1 : 40 * min (m / 40) 2 ≤ m := by
            have := Nat.min_le_left (m / 40) 2
            omega
          rw [e1, encS_eq, Nat.add_sub_cancel' h1]
        rw [e, ← grps_back _ (bytesOf c) (Nat.le_refl _) (byte_of c) (m :: r) (fun x hx => by have := hms x hx; omega) hg, strOf_bytes]
    · cases h
theorem good_arcs (vs : List Nat) (h : good vs) : arcsS (ba (tex vs)) = some (ints vs) ∧ (ba (tex vs)).size ≤ 200 := by
  obtain ⟨h2, h12, hv, hr⟩ := h
  refine ⟨arcs_tex vs h2 h12 hv hr, ?_⟩
  have := tex_len vs hv
  rw [size_ba]; omega
end Go.Proofs.YtcmmlemajlhjoaaDoor.Oid
