/- For every list of strings, a stream has the digest of what was written after each call of Write (no condition). -/
import Derived.Test.YtpiakeejfggocabHashStreamKit
import Derived.Test.YtpiakeejfggocabRowStrs
set_option linter.unusedVariables false
set_option linter.unusedSimpArgs false
namespace Go.Proofs.Ytpiakeejfggocab.Pure
open Go Go.RowKit Go.Proofs.Ytpiakeejfggocab.Q Go.Proofs.YtpiakeejfggocabW.PrintWords Go.Proofs.YtpiakeejfggocabW.PrintLast Go.Proofs.YtpiakeejfggocabW.PrintMore Go.Proofs.Ytpiakeejfggocab.Num Go.Proofs.Ytpiakeejfggocab.Strm Go.Proofs.Ytpiakeejfggocab.Hand Go.Proofs.Ytpiakeejfggocab.RefSum

set_option maxHeartbeats 4000000 in
set_option maxRecDepth 100000 in
theorem HashStream_walk (A0 : Option Addr) (n c : Nat) (l : List ByteArray) (w : World) (hn : l.length = n) (hC : Kd.C Kd.string w A0 n l) (hc : n ≤ c) :
    Calls Try.prog 6 #[.slice A0 n c] w fun e W' => e = .returned (.bool true) ∧ Below w.heap.size w W' := by
  subst hn
  obtain ⟨kf, hkf⟩ := (few_ev l 20 400 (by decide)).rounds
  change certpathmade_Few.f kf l 20 400 = _ at hkf
  have HR0 := Aside0.mk hC
  have HC0 := Aside0.mk hc
  clear hC hc
  by_cases hfew : few l 20 400 = true
  · rw [hfew] at hkf
    obtain ⟨h1, h2, h3⟩ := few_bounds l hfew
    have HKF := Aside0.mk hkf
    have HL := Aside0.mk h1
    have HE := Aside0.mk h2
    have HCAT := Aside0.mk h3
    clear hkf h1 h2 h3 hfew
    obtain ⟨D0, hD0⟩ : ∃ D, digest (cat []) = D := ⟨_, rfl⟩
    have HD0 := Aside0.mk hD0
    clear hD0
    go_enter Try.func6, Try.ntmps6
    go_wp2_with (first
      | (go_at_call 8; (with_reducible refine (certpathmade_Few.calls kf A0 c l 20 400 true _ HR0.out HC0.out HKF.out).mono ?_); rintro e w1 ⟨rfl, hd⟩; have HB0 := Aside0.mk hd.below; clear hd)
      | (go_at_call 14; (with_reducible refine (start_calls _).mono ?_); rintro e w2 ⟨gs, rfl, hg, hs, hb⟩; have GS := Aside0.mk (Nat.le_trans HB0.out.size hg); have BS := Aside0.mk hs; have HB1 := Aside0.mk (below_step HB0.out hb); clear hg hs hb)
      | ((with_reducible refine gate_dst (N := 15) rfl ?_); refine box_event ?hg (N := 15) ?hd (cs := #[.int .u32 0, .int .u32 0, .int .u32 0, .int .u32 0, .int .u32 0, .int .u32 0, .int .u32 0, .int .u32 0, .slice none 0 0, .int .i64 0]) (t := 39) ?hr ?_; (case hd => rfl); (case hg => rfl); (case hr => first | (go_simp; done) | (go_simp; rfl)); intro gz hg w3 hbox hb; have GZ := Aside0.mk (show w.heap.size ≤ gz by rw [hg]; exact HB1.out.size); have NE := Aside0.mk (show gz ≠ gs from fun e => by have := blk_lt BS.out; rw [e] at hg; omega); have HZ := Aside0.mk (strm_new (blk := Comp.comp) hbox GZ.out); have HS := Aside0.mk (strm_below (strm_new (blk := Comp.comp) BS.out GS.out) hb); have HB := Aside0.mk (below_step HB1.out hb); clear hg hbox hb))
    go_loopg [5, 20] l.length (fun kq v5 v20 wr => ∃ (b : ByteArray) (i : Int) (k : Nat), v5 = .string b ∧ v20 = .int .i64 i ∧ Aside0 (Strm.Strm Comp.comp w.heap.size wr gs (cat (l.take k))) ∧ Aside0 (Strm.Strm Comp.comp w.heap.size wr gz (cat (l.take k))) ∧ Aside0 (Below w.heap.size w wr) ∧ Aside0 (i = k ∧ k + kq = l.length ∧ bytesOf b = cat (l.take k)))
    case atStart => exact ⟨⟨#[]⟩, 0, 0, rfl, rfl, HS, HZ, HB, ⟨rfl, by omega, rfl⟩⟩
    case round =>
      clear HS HZ HB
      obtain ⟨b, i, k, rfl, rfl, HS, HZ, HB, HI⟩ := hrel
      have hi0 : 0 ≤ i := by have := HI.out.1; omega
      have hi1 : i ≤ 1000000000 := by have := HI.out; have := HL.out; omega
      by_cases hlt : i < (l.length : Int)
      · have t1 : decide (i < (l.length : Int)) = true := decide_eq_true hlt
        obtain ⟨ad, e1, hx⟩ := Kd.at_string HR0.out i hi0 hlt
        have HLT := Aside0.mk hlt
        clear hlt
        cases e1
        replace hx := (HB.out.cell (World.block_lt_of_cell? w _ hx)).trans hx
        have q1 := eq_true hi0
        have q2 := eq_true HLT.out
        have HK := Aside0.mk (show k < l.length by have := HI.out; have := HLT.out; omega)
        have HIk := Aside0.mk (show rdOf ByteArray.empty l i = rdOf ByteArray.empty l (k : Int) by rw [HI.out.1])
        obtain ⟨X, hX⟩ : ∃ X, rdOf ByteArray.empty l i = X := ⟨_, rfl⟩
        rw [hX] at hx HIk
        clear hX
        obtain ⟨M, hM⟩ : ∃ M, cat (l.take k) = M := ⟨_, rfl⟩
        obtain ⟨M', hM'⟩ : ∃ M, cat (l.take (k + 1)) = M := ⟨_, rfl⟩
        have hMM : M ++ bytesOf X = M' := by rw [← hM', cat_take l k HK.out, ← hM, HIk.out]
        rw [hM] at HS HZ HI
        have hle := cat_le l (k + 1)
        rw [hM'] at hle
        have hlM : M'.length = M.length + X.size := by rw [← hMM, List.length_append, bytesOf_length]
        have hbz : b.size = M.length := by rw [← HI.out.2.2, bytesOf_length]
        have HSX := Aside0.mk (show M.length + X.size ≤ 1000000000 by have := HCAT.out; omega)
        have HSM := Aside0.mk (show M'.length ≤ 1000000000 by have := HCAT.out; omega)
        have HLN := Aside0.mk (show M'.length = b.size + X.size by omega)
        have hcc : b.size + X.size ≤ 9223372036854775807 := by have := HCAT.out; omega
        have cc0 := eq_true hcc
        have cc1 : decide (b.size + X.size ≤ 9223372036854775807) = true := decide_eq_true hcc
        have cc2 : (9223372036854775807 < b.size + X.size) = False := eq_false (Nat.not_lt.2 hcc)
        have hby : bytesOf (b ++ X) = M' := by rw [← hMM, ← HI.out.2.2]; simp [bytesOf]
        obtain ⟨Y, hY⟩ : ∃ Y : List ByteArray, [b ++ X] = Y := ⟨_, rfl⟩
        have hcY : cat Y = M' := by rw [← hY]; unfold cat; simp [hby]
        obtain ⟨D, hD⟩ : ∃ D, digest M' = D := ⟨_, rfl⟩
        obtain ⟨kr, hkr⟩ := ref_k Y (by rw [hcY]; exact HSM.out) (by rw [← hY]; exact (show 1 ≤ 1000000000 by decide)) D (by rw [hcY]; exact hD)
        have HM := Aside0.mk hMM
        have HY := Aside0.mk hY
        have HD := Aside0.mk hD
        have HKR := Aside0.mk hkr
        have HM' := Aside0.mk hM'
        have HBY := Aside0.mk hby
        clear hM hM' hMM hle hlM hbz hby hY hcY hD hkr hcc
        go_wp2_with (first
          | (go_at_call 15; (with_reducible refine (write_any X w.heap.size gs M _ HS.out HB.out.size HSX.out).mono ?_); rintro e w5 ⟨rfl, hs, hg⟩; rw [HM.out] at hs; have n0_ := Aside0.mk hs; have n1_ := Aside0.mk (strm_keep HZ.out HS.out hg NE.out); have n2_ := Aside0.mk (HB.out.grown hg HB.out.size (fun q hq => by injection hq with hq; rw [← hq]; exact GS.out)); clear HS HZ HB hs hg; have HS := n0_; have HZ := n1_; have HB := n2_; clear n0_ n1_ n2_)
          | (go_at_call 15; (with_reducible refine (write_any X w.heap.size gz M _ HZ.out HB.out.size HSX.out).mono ?_); rintro e w6 ⟨rfl, hs, hg⟩; rw [HM.out] at hs; have n0_ := Aside0.mk hs; have n1_ := Aside0.mk (strm_keep HS.out HZ.out hg (fun e => NE.out e.symm)); have n2_ := Aside0.mk (HB.out.grown hg HB.out.size (fun q hq => by injection hq with hq; rw [← hq]; exact GZ.out)); clear HS HZ HB hs hg; have HZ := n0_; have HS := n1_; have HB := n2_; clear n0_ n1_ n2_)
          | (go_at_call 16; (with_reducible refine (sumD w.heap.size gs M' _ HS.out HSM.out HD.out).mono ?_); rintro e w7 ⟨rfl, hb⟩; have n0_ := Aside0.mk (strm_below HS.out hb); have n1_ := Aside0.mk (strm_below HZ.out hb); have n2_ := Aside0.mk (below_step HB.out hb); clear HS HZ HB hb; have HS := n0_; have HZ := n1_; have HB := n2_; clear n0_ n1_ n2_)
          | ((with_reducible refine gate_dst (N := 36) rfl ?_); refine Kd.R_lit Kd.string _ 9 ?hg (N := 36) ?hd (xs := ([(b ++ X)] : List ByteArray)) (inner := [.string (b ++ X)]) (ok := fun _ => True) (okp := fun _ => True) ?hr ?hp (fun _ hk => hk) trivial (Below.refl _ _) (Nat.le_refl _) (by simp) ?_; (case hd => rfl); (case hg => rfl); (case hr => first | (go_simp; done) | (go_simp; rfl)); (case hp => exact (Reps.one (show Kd.M Kd.string _ _ _ (b ++ X) [.string (b ++ X)] from rfl) (Reps.none _ _))); intro vla wla hol hbl hg_ hnew_; clear hg_ hnew_; rw [HY.out] at hol; have HOla := Aside0.mk hol; have HBla := Aside0.mk hbl; clear hol hbl; obtain ⟨Ala, cla, ela⟩ := Kd.R_slice HOla.out; subst ela; have hb := HBla.out; have n0_ := Aside0.mk (strm_below HS.out hb); have n1_ := Aside0.mk (strm_below HZ.out hb); have n2_ := Aside0.mk (below_step HB.out hb); clear HS HZ HB hb; have HS := n0_; have HZ := n1_; have HB := n2_; clear n0_ n1_ n2_)
          | (go_at_call 11; (with_reducible refine (certpathref01_Sum.calls kr Ala cla Y _ _ (Kd.R_reads' HOla.out).2.2 (Kd.R_reads' HOla.out).2.1 HKR.out).mono ?_); rintro e w7 ⟨rfl, hb⟩; have n0_ := Aside0.mk (strm_below HS.out hb); have n1_ := Aside0.mk (strm_below HZ.out hb); have n2_ := Aside0.mk (below_step HB.out hb); clear HS HZ HB hb; have HS := n0_; have HZ := n1_; have HB := n2_; clear n0_ n1_ n2_)
          | (go_at_call 16; (with_reducible refine (sumD w.heap.size gz M' _ HZ.out HSM.out HD.out).mono ?_); rintro e w7 ⟨rfl, hb⟩; have n0_ := Aside0.mk (strm_below HS.out hb); have n1_ := Aside0.mk (strm_below HZ.out hb); have n2_ := Aside0.mk (below_step HB.out hb); clear HS HZ HB hb; have HS := n0_; have HZ := n1_; have HB := n2_; clear n0_ n1_ n2_)
          | (go_at_call 17; (with_reducible refine (lenN w.heap.size gs (b.size + X.size) M' _ HS.out HLN.out).mono ?_); rintro e w8 ⟨rfl, rfl⟩)
          | (go_at_call 17; (with_reducible refine (lenN w.heap.size gz (b.size + X.size) M' _ HZ.out HLN.out).mono ?_); rintro e w8 ⟨rfl, rfl⟩))
        go_roundg (l.length - (k + 1))
        case measure => have := HI.out; have := HK.out; omega
        case rel =>
          refine ⟨b ++ X, i + 1, k + 1, rfl, rfl, ⟨?_⟩, ⟨?_⟩, HB, ⟨?_, ?_, ?_⟩⟩
          · rw [HM'.out]; exact HS.out
          · rw [HM'.out]; exact HZ.out
          · have := HI.out.1; omega
          · have := HK.out; omega
          · rw [HM'.out]; exact HBY.out
      · have t1 : decide (i < (l.length : Int)) = false := decide_eq_false hlt
        have hk : l.take k = l := List.take_of_length_le (by have := HI.out.1; omega)
        rw [hk] at HS HZ HI
        clear hlt hk
        obtain ⟨M, hM⟩ : ∃ M, cat l = M := ⟨_, rfl⟩
        rw [hM] at HS HZ HI
        have HSM := Aside0.mk (show M.length ≤ 1000000000 by rw [← hM]; have := HCAT.out; omega)
        obtain ⟨D, hD⟩ : ∃ D, digest M = D := ⟨_, rfl⟩
        have HDb := Aside0.mk (show digest (bytesOf b) = D by rw [HI.out.2.2]; exact hD)
        have HSZb := Aside0.mk (show b.size ≤ 1000000000 by rw [← bytesOf_length, HI.out.2.2]; exact HSM.out)
        have HD := Aside0.mk hD
        clear hM hD
        go_wp2_with (first
          | (go_at_call 15; (with_reducible refine (write_nil _ b _ rfl).mono ?_); rintro e w5 ⟨rfl, rfl⟩)
          | (go_at_call 9; (with_reducible refine (awakeC _).mono ?_); rintro e w7 ⟨rfl, hb⟩; have n0_ := Aside0.mk (strm_below HS.out hb); have n1_ := Aside0.mk (strm_below HZ.out hb); have n2_ := Aside0.mk (below_step HB.out hb); clear HS HZ HB hb; have HS := n0_; have HZ := n1_; have HB := n2_; clear n0_ n1_ n2_)
          | (go_at_call 16; (with_reducible refine (sumNil _ HD0.out).mono ?_); rintro e w7 ⟨rfl, hb⟩; have n0_ := Aside0.mk (strm_below HS.out hb); have n1_ := Aside0.mk (strm_below HZ.out hb); have n2_ := Aside0.mk (below_step HB.out hb); clear HS HZ HB hb; have HS := n0_; have HZ := n1_; have HB := n2_; clear n0_ n1_ n2_)
          | (go_at_call 11; (with_reducible refine (refNil _ HD0.out).mono ?_); rintro e w7 ⟨rfl, hb⟩; have n0_ := Aside0.mk (strm_below HS.out hb); have n1_ := Aside0.mk (strm_below HZ.out hb); have n2_ := Aside0.mk (below_step HB.out hb); clear HS HZ HB hb; have HS := n0_; have HZ := n1_; have HB := n2_; clear n0_ n1_ n2_)
          | (go_at_call 17; (with_reducible refine (len_nil _).mono ?_); rintro e w8 ⟨rfl, rfl⟩)
          | (go_at_call 16; (with_reducible refine (sumD w.heap.size gs M _ HS.out HSM.out HD.out).mono ?_); rintro e w7 ⟨rfl, hb⟩; have n0_ := Aside0.mk (strm_below HS.out hb); have n1_ := Aside0.mk (strm_below HZ.out hb); have n2_ := Aside0.mk (below_step HB.out hb); clear HS HZ HB hb; have HS := n0_; have HZ := n1_; have HB := n2_; clear n0_ n1_ n2_)
          | (go_at_call 11; (with_reducible refine (ref1 b D _ _ (lit1 _ b) HDb.out HSZb.out).mono ?_); rintro e w7 ⟨rfl, hb0⟩; have hb := below_step (below_alloc (Below.refl _ _) _) hb0; clear hb0; have n0_ := Aside0.mk (strm_below HS.out hb); have n1_ := Aside0.mk (strm_below HZ.out hb); have n2_ := Aside0.mk (below_step HB.out hb); clear HS HZ HB hb; have HS := n0_; have HZ := n1_; have HB := n2_; clear n0_ n1_ n2_))
        go_ret
        exact ⟨rfl, HB.out⟩
  · rw [Bool.eq_false_iff.2 hfew] at hkf
    have HKF := Aside0.mk hkf
    clear hkf hfew
    go_enter Try.func6, Try.ntmps6
    go_wp2_with (first
      | (go_at_call 8; (with_reducible refine (certpathmade_Few.calls kf A0 c l 20 400 false _ HR0.out HC0.out HKF.out).mono ?_); rintro e w1 ⟨rfl, hd⟩; have HB0 := Aside0.mk hd.below; clear hd)
      | (go_at_call 9; (with_reducible refine (awakeC _).mono ?_); rintro e w7 ⟨rfl, hb⟩; have HB1 := Aside0.mk (below_step HB0.out hb); clear hb))
    go_ret
    exact ⟨rfl, HB1.out⟩
end Go.Proofs.Ytpiakeejfggocab.Pure
