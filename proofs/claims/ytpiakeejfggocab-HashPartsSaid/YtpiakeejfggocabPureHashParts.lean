/- For every string and every way of cutting it, a digest does not depend on how the bytes are divided (no condition). -/
import Derived.Test.YtpiakeejfggocabHashStreamKit
set_option linter.unusedVariables false
set_option linter.unusedSimpArgs false
namespace Go.Proofs.Ytpiakeejfggocab.Pure
open Go Go.RowKit Go.Proofs.Ytpiakeejfggocab.Q Go.Proofs.YtpiakeejfggocabW.PrintWords Go.Proofs.YtpiakeejfggocabW.PrintLast Go.Proofs.YtpiakeejfggocabW.PrintMore Go.Proofs.Ytpiakeejfggocab.Num Go.Proofs.Ytpiakeejfggocab.Strm Go.Proofs.Ytpiakeejfggocab.Hand Go.Proofs.Ytpiakeejfggocab.RefSum
attribute [local go_sem] max2_int min2_int max_two min_two max_three min_three max_four min_four

theorem strm_over {blk : List Int → List Int → List Int} {base base' g : Nat} {w w1 : World} {m : List Int} {v : Value} {xs : List ByteArray} {ok : Nat → Prop} (h : Strm.Strm blk base w g m) (hr : Kd.string.R 9 w base' ok v xs) (hg : w.grownBy w1 v.ownBlock) : Strm.Strm blk base w1 g m := by
  obtain ⟨u, h1, h2, h3, h4⟩ := h
  exact ⟨u, (hg.block g (blk_lt h1) (Kd.R_ne hr h1 (by decide))).trans h1, h2, Kd.R_over' h3 (Kd.R_typed hr) (by decide) hg, h4⟩
theorem row_other {blk : List Int → List Int → List Int} {base base' g : Nat} {w w1 : World} {m : List Int} {v : Value} {xs : List ByteArray} (hr : Kd.string.R 9 w base' (fun _ => True) v xs) (h : Strm.Strm blk base w g m) (hg : w.grownBy w1 (some g)) : Kd.string.R 9 w1 base' (fun _ => True) v xs := by
  obtain ⟨u, h1, h2, h3, h4⟩ := h
  exact Kd.R_mono (Kd.R_step (Kd.R_types hr h1 (by decide)) (fun k hk hlt => hg.block k hlt (fun e => hk.2 (by injection e)))) (fun _ _ => trivial)
theorem cat_snoc (l : List ByteArray) (x : ByteArray) : cat (l ++ [x]) = cat l ++ bytesOf x := by unfold cat; rw [List.flatMap_append]; simp
theorem cut_bytes (b : ByteArray) (j : Int) (h0 : 0 ≤ j) (h1 : j ≤ (b.size : Int)) : bytesOf (b.extract 0 j.toNat) ++ bytesOf (b.extract j.toNat b.size) = bytesOf b := by
  rw [bytesOf_extract, bytesOf_extract, List.drop_zero, Nat.sub_zero]
  have e : ((bytesOf b).drop j.toNat).take (b.size - j.toNat) = (bytesOf b).drop j.toNat := List.take_of_length_le (by rw [List.length_drop, bytesOf_length]; omega)
  rw [e, List.take_append_drop]
set_option maxHeartbeats 4000000 in
set_option maxRecDepth 100000 in
theorem HashParts_walk (b : ByteArray) (a1 : Option Addr) (len1 cap1 : Nat) (zs : List Int) (w : World) (w0 : b.size ≤ 140737488351232)
    (w1 : (a1 = none ∧ len1 = 0 ∧ cap1 = 0 ∧ zs = []) ∨ ∃ x, a1 = some x ∧ len1 ≤ cap1 ∧ cap1 ≤ maxLen ∧ zs.length = cap1 ∧ (∀ i, i < zs.length → w.cell? (x.add i) = some (.int .u8 (zs.getD i 0))) ∧ ∀ n ∈ zs, (Lit.int .u8 n).wf = true) (y1 : len1 * 1 ≤ 140737488351232) :
    Calls Try.prog 5 #[.string b, .slice a1 len1 cap1] w fun e W' => e = .returned (.bool true) ∧ Below w.heap.size w W' := by
  obtain ⟨l, rfl, hr1, hm1, hw1, hc1⟩ := ReadsInt.ofRowC w1
  clear w1
  by_cases hbig : 1000 < b.size ∨ 40 < l.length
  · have HBIG := Aside0.mk hbig
    clear hbig
    by_cases hb1 : 1000 < b.size
    · have t1 : decide (1000 < b.size) = true := decide_eq_true hb1
      have t2 : decide ((1000 : Int) < (b.size : Int)) = true := decide_eq_true (by omega)
      clear hb1
      go_enter Try.func5, Try.ntmps5
      go_wp2_with (go_at_call 9; (with_reducible refine (awakeC _).mono ?_); rintro e w7 ⟨rfl, hb⟩; have HB1 := Aside0.mk hb; clear hb)
      go_ret
      exact ⟨rfl, HB1.out⟩
    · have hl1 : 40 < l.length := by have := HBIG.out; omega
      have t1 : decide (1000 < b.size) = false := decide_eq_false hb1
      have t2 : decide ((1000 : Int) < (b.size : Int)) = false := decide_eq_false (by omega)
      have t3 : decide (40 < l.length) = true := decide_eq_true hl1
      have t4 : decide ((40 : Int) < (l.length : Int)) = true := decide_eq_true (by omega)
      clear hb1 hl1
      go_enter Try.func5, Try.ntmps5
      go_wp2_with (go_at_call 9; (with_reducible refine (awakeC _).mono ?_); rintro e w7 ⟨rfl, hb⟩; have HB1 := Aside0.mk hb; clear hb)
      go_ret
      exact ⟨rfl, HB1.out⟩
  · have hbs : b.size ≤ 1000 := by omega
    have hls : l.length ≤ 40 := by omega
    have t1 : decide (1000 < b.size) = false := decide_eq_false (by omega)
    have t2 : decide ((1000 : Int) < (b.size : Int)) = false := decide_eq_false (by omega)
    have t3 : decide (40 < l.length) = false := decide_eq_false (by omega)
    have t4 : decide ((40 : Int) < (l.length : Int)) = false := decide_eq_false (by omega)
    have HR1 := Aside0.mk hr1
    have HW1 := Aside0.mk hw1
    have HBS := Aside0.mk hbs
    have HM40 := Aside0.mk hls
    obtain ⟨D, hD⟩ : ∃ D, digest (bytesOf b) = D := ⟨_, rfl⟩
    have HD := Aside0.mk hD
    have HDS := Aside0.mk (show D.size = 32 by rw [← hD]; exact digest_size _)
    clear hr1 hw1 hm1 hc1 w0 y1 hbig hbs hls hD
    go_enter Try.func5, Try.ntmps5
    go_wp2_with (go_at_call 14; (with_reducible refine (start_calls _).mono ?_); rintro e w2 ⟨gs, rfl, hg, hs, hb⟩; have GS := Aside0.mk hg; have HS := Aside0.mk (strm_new (blk := Comp.comp) hs hg); have HB := Aside0.mk hb; clear hg hs hb)
    clear t1 t2 t3 t4
    go_loopg [6, 7, 28] l.length (fun kq v6 v7 v28 wr => ∃ (A : Option Addr) (c : Nat) (xs : List ByteArray) (b' : ByteArray) (i : Int) (k : Nat), v6 = .slice A xs.length c ∧ v7 = .string b' ∧ v28 = .int .i64 i ∧ Aside0 (Kd.string.R 9 wr w.heap.size (fun _ => True) (.slice A xs.length c) xs) ∧ Aside0 (Strm.Strm Comp.comp w.heap.size wr gs []) ∧ Aside0 (Below w.heap.size w wr) ∧ Aside0 (i = k ∧ k + kq = l.length ∧ xs.length = k ∧ cat xs ++ bytesOf b' = bytesOf b))
    case atStart => exact ⟨none, 0, [], b, 0, 0, rfl, rfl, rfl, ⟨Kd.R_nil _ _ _ _ _⟩, HS, HB, ⟨rfl, by omega, rfl, rfl⟩⟩
    case round =>
      clear HS HB
      obtain ⟨A, c, xs, b', i, k, rfl, rfl, rfl, HR, HS, HB, HI⟩ := hrel
      have hi0 : 0 ≤ i := by have := HI.out.1; omega
      have hi1 : i ≤ 1000 := by have := HI.out; have := HM40.out; omega
      by_cases hlt : i < (l.length : Int)
      · have t1 : decide (i < (l.length : Int)) = true := decide_eq_true hlt
        obtain ⟨ad, e1, hx⟩ := HR1.out.at_ i hi0 hlt
        have hxw : 0 ≤ rd l i ∧ rd l i ≤ 255 := by
          have hm : rd l i ∈ l := by
            unfold rd
            rw [List.getD_eq_getElem?_getD, List.getElem?_eq_getElem (by omega), Option.getD_some]
            exact List.getElem_mem _
          have := HW1.out _ hm
          simp [Lit.wf, IntKind.min, IntKind.max, IntKind.bits, IntKind.signed] at this
          omega
        have HLT := Aside0.mk hlt
        clear hlt
        subst e1
        replace hx := (HB.out.cell (World.block_lt_of_cell? w _ hx)).trans hx
        have q1 := eq_true hi0
        have q2 := eq_true HLT.out
        obtain ⟨x, hxx⟩ : ∃ x, rd l i = x := ⟨_, rfl⟩
        rw [hxx] at hx hxw
        clear hxx
        obtain ⟨hx0, hx1⟩ := hxw
        obtain ⟨j, hj⟩ : ∃ j : Int, (if (b'.size : Int) < x then (b'.size : Int) else x) = j := ⟨_, rfl⟩
        have hj0 : 0 ≤ j := by rw [← hj]; split <;> omega
        have hj1 : j ≤ (b'.size : Int) := by rw [← hj]; split <;> omega
        have p1 := eq_true hj0
        have p2 := eq_true hj1
        have p3 : decide (0 ≤ j) = true := decide_eq_true hj0
        have p4 : decide (j ≤ (b'.size : Int)) = true := decide_eq_true hj1
        have HJ0 := Aside0.mk hj0
        have HJ1 := Aside0.mk hj1
        clear hj0 hj1
        go_wp2
        have HRd := Aside0.mk (Kd.R_drew HR.out)
        have HSd := Aside0.mk (strm_below HS.out (below_drew (Below.refl _ _)))
        have HBd := Aside0.mk HB.out.drew
        clear HR HS HB hx
        refine start_ (n := 11) (S := fun _ => True) (ds := []) #[false, false, false, false, false, false, false, false, false, false, false] (by kernel_rfl) rfl rfl trivial (fun hHeld => ?_)
        generalize wr.drew = w4 at HRd HSd HBd ⊢
        refine pure_ (i := 0) (N := some 37) (v := ?_) (a' := ?_) #[true, false, false, false, false, false, false, false, false, false, false] rfl rfl (by kernel_rfl) (fun _ _ _ h => h) (Or.inl ⟨by rfl, ?_⟩) ?_ ?_
        rotate_left; (intro w'; go_simp; with_reducible rfl); rotate_left; (simp only [Act.put, List.setIfInBounds_toArray, List.set_cons_zero, List.set_cons_succ, i64_w, i32_w]; rfl)
        refine pure_ (i := 1) (N := some 38) (v := ?_) (a' := ?_) #[true, true, false, false, false, false, false, false, false, false, false] rfl rfl (by kernel_rfl) (fun _ _ _ h => h) (Or.inl ⟨by rfl, ?_⟩) ?_ ?_
        rotate_left; (intro w'; go_simp; with_reducible rfl); rotate_left; (simp only [Act.put, List.setIfInBounds_toArray, List.set_cons_zero, List.set_cons_succ, i64_w, i32_w]; rfl)
        refine pure_ (i := 2) (N := some 39) (v := ?_) (a' := ?_) #[true, true, true, false, false, false, false, false, false, false, false] rfl rfl (by kernel_rfl) (fun _ _ _ h => h) (Or.inl ⟨by rfl, ?_⟩) ?_ ?_
        rotate_left; (intro w'; go_simp; with_reducible rfl); rotate_left; (simp only [Act.put, List.setIfInBounds_toArray, List.set_cons_zero, List.set_cons_succ, i64_w, i32_w]; rfl)
        refine pure_ (i := 3) (N := some 40) (v := ?_) (a' := ?_) #[true, true, true, true, false, false, false, false, false, false, false] rfl rfl (by kernel_rfl) (fun _ _ _ h => h) (Or.inl ⟨by rfl, ?_⟩) ?_ ?_
        rotate_left; (intro w'; go_simp; with_reducible rfl); rotate_left; (simp only [Act.put, List.setIfInBounds_toArray, List.set_cons_zero, List.set_cons_succ, i64_w, i32_w]; rfl)
        refine pure_ (i := 6) (N := some 43) (v := ?_) (a' := ?_) #[true, true, true, true, false, false, true, false, false, false, false] rfl rfl (by kernel_rfl) (fun _ _ _ h => h) (Or.inl ⟨by rfl, ?_⟩) ?_ ?_
        rotate_left; (intro w'; go_simp; with_reducible rfl); rotate_left; (simp only [Act.put, List.setIfInBounds_toArray, List.set_cons_zero, List.set_cons_succ, i64_w, i32_w]; rfl)
        refine pure_ (i := 7) (N := some 44) (v := ?_) (a' := ?_) #[true, true, true, true, false, false, true, true, false, false, false] rfl rfl (by kernel_rfl) (fun _ _ _ h => h) (Or.inl ⟨by rfl, ?_⟩) ?_ ?_
        rotate_left; (intro w'; go_simp; with_reducible rfl); rotate_left; (simp only [Act.put, List.setIfInBounds_toArray, List.set_cons_zero, List.set_cons_succ, i64_w, i32_w]; rfl)
        refine pure_ (i := 8) (N := some 45) (v := ?_) (a' := ?_) #[true, true, true, true, false, false, true, true, true, false, false] rfl rfl (by kernel_rfl) (fun _ _ _ h => h) (Or.inl ⟨by rfl, ?_⟩) ?_ ?_
        rotate_left; (intro w'; go_simp; with_reducible rfl); rotate_left; (simp only [Act.put, List.setIfInBounds_toArray, List.set_cons_zero, List.set_cons_succ, i64_w, i32_w]; rfl)
        refine one_ (i := 4) (N := some 41) #[true, true, true, true, true, false, true, true, true, false, false] rfl rfl (by kernel_rfl) (by decide) (fun K hK => ?_)
        refine value_ (v := .slice (some ⟨w4.heap.size, 0, none⟩) 1 1) (w1 := w4.alloc (.cells #[.string (b'.extract 0 j.toNat)] 9)) (by rfl) rfl ?_ ?_
        · go_simp
        refine hK.out _ _ trivial (fun _ => ?_)
        clear hK K
        refine norm_ (a' := ?_) ?_ ?_
        rotate_left
        · show Act.put _ (some 41) _ = _
          (simp only [Act.put, List.setIfInBounds_toArray, List.set_cons_zero, List.set_cons_succ, i64_w, i32_w]; rfl)
        refine one_ (i := 5) (N := some 42) #[true, true, true, true, true, true, true, true, true, false, false] rfl rfl (by kernel_rfl) (by decide) (fun K hK => ?_)
        refine Kd.R_append_step Kd.string (w0 := w) w.heap.size (by rfl) (.tmp 37) (.tmp 41) 22 9 (.string ⟨#[]⟩) 16 rfl Try.underlying22 Q.info9 rfl (by decide) (by omega) (.slice A xs.length c) xs (b'.extract 0 j.toNat) [.string (b'.extract 0 j.toNat)] (fun _ => True) (fun _ => False) rfl rfl rfl (fun _ hk => hk.elim) (fun _ _ => trivial) HRd.out HBd.out HBd.out.size ?hl ?_
        · have := HI.out.2.2.1; have := HI.out.2.1; have := HM40.out; omega
        intro v6 w6 hr hb6 hg hat
        have hex := Kd.R_slice hr
        obtain ⟨A6, k6, hv⟩ := hex
        rw [hv] at hr
        rw [hv]
        have HR := Aside0.mk hr
        have HB := Aside0.mk hb6
        have HS := Aside0.mk (strm_over HSd.out HRd.out hg)
        clear hr hb6 hg hat hv HRd HSd HBd
        refine hK.out _ _ trivial (fun _ => ?_)
        clear hK K
        refine norm_ (a' := ?_) ?_ ?_
        rotate_left
        · show Act.put _ (some 42) _ = _
          (simp only [Act.put, List.setIfInBounds_toArray, List.set_cons_zero, List.set_cons_succ, i64_w, i32_w]; rfl)
        refine pure_ (i := 9) (N := some 6) (v := ?_) (a' := ?_) #[true, true, true, true, true, true, true, true, true, true, false] rfl rfl (by kernel_rfl) (fun _ _ _ h => h) (Or.inl ⟨by rfl, ?_⟩) ?_ ?_
        rotate_left; (intro w'; go_simp; with_reducible rfl); rotate_left; (simp only [Act.put, List.setIfInBounds_toArray, List.set_cons_zero, List.set_cons_succ, i64_w, i32_w]; rfl)
        refine pure_ (i := 10) (N := some 7) (v := ?_) (a' := ?_) #[true, true, true, true, true, true, true, true, true, true, true] rfl rfl (by kernel_rfl) (fun _ _ _ h => h) (Or.inl ⟨by rfl, ?_⟩) ?_ ?_
        rotate_left; (intro w'; go_simp; with_reducible rfl); rotate_left; (simp only [Act.put, List.setIfInBounds_toArray, List.set_cons_zero, List.set_cons_succ, i64_w, i32_w]; rfl)
        refine done_ (by kernel_rfl) ?_
        go_wp2
        go_roundg (l.length - (k + 1))
        case measure => have := HI.out; have := HLT.out; omega
        case rel =>
          refine ⟨A6, k6, xs ++ [b'.extract 0 j.toNat], b'.extract j.toNat b'.size, i + 1, k + 1, by simp, rfl, rfl, HR, HS, HB, ⟨?_, ?_, ?_, ?_⟩⟩
          · have := HI.out.1; omega
          · have := HI.out; have := HLT.out; omega
          · rw [List.length_append, HI.out.2.2.1]; rfl
          · rw [cat_snoc, List.append_assoc, cut_bytes b' j HJ0.out HJ1.out]; exact HI.out.2.2.2
      · have t1 : decide (i < (l.length : Int)) = false := decide_eq_false hlt
        have HLX := Aside0.mk (show xs.length ≤ 40 by have := HI.out; have := HM40.out; omega)
        have HCX := Aside0.mk (show cat (xs ++ [b']) = bytesOf b by rw [cat_snoc]; exact HI.out.2.2.2)
        clear hlt
        go_wp2_with ((with_reducible refine gate_builtin (b := .append) (xs := #[.tmp 47, .tmp 49]) rfl ?_); at_builtin; refine Kd.R_append Kd.string (w0 := w) w.heap.size rfl (.tmp 47) (.tmp 49) 22 9 (.string ⟨#[]⟩) 16 rfl Try.underlying22 Q.info9 rfl (by decide) (by omega) (.slice A xs.length c) xs b' [.string b'] (fun _ => True) (fun _ => False) rfl rfl ?aP (fun _ hk => hk.elim) ?aF ?aO ?aB ?aS ?aL ?_; (case aP => exact rfl); (case aF => exact (fun _ _ => trivial)); (case aO => exact HR.out); (case aB => exact HB.out); (case aS => exact HB.out.size); (case aL => have := HLX.out; omega); intro v6 w6 hr hb6 hg hat; obtain ⟨P, hP⟩ : ∃ P, xs ++ [b'] = P := ⟨_, rfl⟩; rw [hP] at hr HCX; have HP := Aside0.mk (show P.length ≤ 41 by rw [← hP, List.length_append]; have := HLX.out; simp; omega); have hex := Kd.R_slice hr; obtain ⟨A6, k6, hv⟩ := hex; rw [hv] at hr; rw [hv]; have HRp := Aside0.mk hr; have HBp := Aside0.mk hb6; have HSp := Aside0.mk (strm_over HS.out HR.out hg); clear hr hb6 hg hat hv hP)
        clear HR HS HB
        go_loopg [53] P.length (fun kq v53 wr => ∃ (i : Int) (k : Nat), v53 = .int .i64 i ∧ Aside0 (Kd.string.R 9 wr w.heap.size (fun _ => True) (.slice A6 P.length k6) P) ∧ Aside0 (Strm.Strm Comp.comp w.heap.size wr gs (cat (P.take k))) ∧ Aside0 (Below w.heap.size w wr) ∧ Aside0 (i = k ∧ k + kq = P.length))
        case atStart => exact ⟨0, 0, rfl, HRp, HSp, HBp, ⟨rfl, by omega⟩⟩
        case round =>
          clear HRp HSp HBp
          obtain ⟨i, k, rfl, HR, HS, HB, HI⟩ := hrel
          have hi0 : 0 ≤ i := by have := HI.out.1; omega
          have hi1 : i ≤ 1000 := by have := HI.out; have := HP.out; omega
          by_cases hlt : i < (P.length : Int)
          · have t1 : decide (i < (P.length : Int)) = true := decide_eq_true hlt
            obtain ⟨ad, e1, hx⟩ := Kd.at_string (Kd.R_reads' HR.out).2.2 i hi0 hlt
            have HLT := Aside0.mk hlt
            clear hlt
            subst e1
            have q1 := eq_true hi0
            have q2 := eq_true HLT.out
            have HK := Aside0.mk (show k < P.length by have := HI.out; have := HLT.out; omega)
            have HIk := Aside0.mk (show rdOf ByteArray.empty P i = rdOf ByteArray.empty P (k : Int) by rw [HI.out.1])
            obtain ⟨X, hX⟩ : ∃ X, rdOf ByteArray.empty P i = X := ⟨_, rfl⟩
            rw [hX] at hx HIk
            clear hX
            have HSZ := Aside0.mk (show (cat (P.take k)).length + X.size ≤ 1000000000 by
              have h1 := cat_le P (k + 1)
              rw [cat_take P k HK.out, List.length_append, bytesOf_length, ← HIk.out, HCX.out, bytesOf_length] at h1
              have := HBS.out
              omega)
            go_wp2_with (go_at_call 15; (with_reducible refine (write_any X w.heap.size gs (cat (P.take k)) _ HS.out HB.out.size HSZ.out).mono ?_); rintro e w5 ⟨rfl, hs, hg⟩; have n0_ := Aside0.mk hs; have n1_ := Aside0.mk (row_other HR.out HS.out hg); have n2_ := Aside0.mk (HB.out.grown hg HB.out.size (fun q hq => by injection hq with hq; rw [← hq]; exact GS.out)); clear HS HR HB hs hg; have HS := n0_; have HR := n1_; have HB := n2_; clear n0_ n1_ n2_)
            go_roundg (P.length - (k + 1))
            case measure => have := HI.out; have := HK.out; omega
            case rel =>
              refine ⟨i + 1, k + 1, rfl, HR, ⟨?_⟩, HB, ⟨?_, ?_⟩⟩
              · rw [cat_take P k HK.out, ← HIk.out]; exact HS.out
              · have := HI.out.1; omega
              · have := HK.out; omega
          · have t1 : decide (i < (P.length : Int)) = false := decide_eq_false hlt
            have hk : P.take k = P := List.take_of_length_le (by have := HI.out.1; omega)
            rw [hk, HCX.out] at HS
            clear hlt hk
            have HSM := Aside0.mk (show (bytesOf b).length ≤ 1000000000 by rw [bytesOf_length]; have := HBS.out; omega)
            obtain ⟨Y, hY⟩ : ∃ Y : List ByteArray, [b] = Y := ⟨_, rfl⟩
            have HY := Aside0.mk hY
            have HFY := Aside0.mk (show hash_Sum.f Y = some D by rw [← HY.out, sum_some [b] (by unfold cat; simpa using HSM.out) (show 1 ≤ 1000000000 by decide), ← HD.out]; unfold cat; simp)
            have HFP := Aside0.mk (show hash_Sum.f P = some D by rw [sum_some P (by rw [HCX.out]; exact HSM.out) (by have := HP.out; omega), HCX.out, HD.out])
            have hds := HDS.out
            have HSB := Aside0.mk (show b.size ≤ 1000000000 by have := HBS.out; omega)
            clear hY
            go_wp2_with (first
              | (go_at_call 9; (with_reducible refine (awakeC _).mono ?_); rintro e w7 ⟨rfl, hb⟩; have n0_ := Aside0.mk (strm_below HS.out hb); have n1_ := Aside0.mk (Kd.R_below HR.out hb); have n2_ := Aside0.mk (below_step HB.out hb); clear HS HR HB hb; have HS := n0_; have HR := n1_; have HB := n2_; clear n0_ n1_ n2_)
              | (go_at_call 10; (with_reducible refine (hash_Sum.calls A6 k6 P D _ (Kd.R_reads' HR.out).2.2 (Kd.R_reads' HR.out).2.1 HFP.out).mono ?_); rintro e w7 ⟨rfl, hb⟩; have n0_ := Aside0.mk (strm_below HS.out hb); have n1_ := Aside0.mk (Kd.R_below HR.out hb); have n2_ := Aside0.mk (below_step HB.out hb); clear HS HR HB hb; have HS := n0_; have HR := n1_; have HB := n2_; clear n0_ n1_ n2_)
              | (go_at_call 10; (with_reducible refine (sum1 b D _ _ (lit1 _ b) HD.out HSB.out).mono ?_); rintro e w7 ⟨rfl, hb0⟩; have hb := below_step (below_alloc (Below.refl _ _) _) hb0; clear hb0; have n0_ := Aside0.mk (strm_below HS.out hb); have n1_ := Aside0.mk (Kd.R_below HR.out hb); have n2_ := Aside0.mk (below_step HB.out hb); clear HS HR HB hb; have HS := n0_; have HR := n1_; have HB := n2_; clear n0_ n1_ n2_)
              | (go_at_call 16; (with_reducible refine (sumD w.heap.size gs (bytesOf b) _ HS.out HSM.out HD.out).mono ?_); rintro e w7 ⟨rfl, hb⟩; have n0_ := Aside0.mk (strm_below HS.out hb); have n1_ := Aside0.mk (Kd.R_below HR.out hb); have n2_ := Aside0.mk (below_step HB.out hb); clear HS HR HB hb; have HS := n0_; have HR := n1_; have HB := n2_; clear n0_ n1_ n2_)
              | (go_at_call 99; fail))
            go_ret
            exact ⟨rfl, HB.out⟩
end Go.Proofs.Ytpiakeejfggocab.Pure
