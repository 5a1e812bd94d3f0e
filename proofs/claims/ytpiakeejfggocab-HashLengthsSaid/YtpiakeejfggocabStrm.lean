/- The stream of hash: what its object is, and what its methods do, as contracts of this session's own. -/
import Derived.Test.YtpiakeejfggocabQx3
import Derived.Test.YtpiakeejfggocabSha
set_option linter.unusedVariables false
set_option linter.unusedSimpArgs false
namespace Go.Proofs.Ytpiakeejfggocab.Strm
open Go Go.RowKit Go.Proofs.YtpiakeejfggocabW.PrintWords Go.Proofs.YtpiakeejfggocabW.PrintLast Go.Proofs.YtpiakeejfggocabW.PrintMore Go.Proofs.Ytpiakeejfggocab.Sha

def wd (h : List Int) (i : Nat) : Int := h.getD i 0
def Good (h : List Int) : Prop := h.length = 8 ∧ ∀ x ∈ h, 0 ≤ x ∧ x < 4294967296
def Bytes (m : List Int) : Prop := ∀ x ∈ m, 0 ≤ x ∧ x < 256
structure BlkOk (blk : List Int → List Int → List Int) : Prop where
  good : ∀ h m, Good h → Good (blk h m)
  run : ∀ h m, Good h → m.length = 64 → Bytes m → ∃ k, Q.hash_state_block.f k (wd h 0) (wd h 1) (wd h 2) (wd h 3) (wd h 4) (wd h 5) (wd h 6) (wd h 7) m = some (wd (blk h m) 0, wd (blk h m) 1, wd (blk h m) 2, wd (blk h m) 3, wd (blk h m) 4, wd (blk h m) 5, wd (blk h m) 6, wd (blk h m) 7)
theorem Bytes.take {m : List Int} (h : Bytes m) (n : Nat) : Bytes (m.take n) := fun x hx => h x (List.mem_of_mem_take hx)
theorem Bytes.drop {m : List Int} (h : Bytes m) (n : Nat) : Bytes (m.drop n) := fun x hx => h x (List.mem_of_mem_drop hx)
theorem Bytes.append {m n : List Int} (h : Bytes m) (k : Bytes n) : Bytes (m ++ n) := fun x hx => (List.mem_append.1 hx).elim (h x) (k x)
theorem bytes_of (s : ByteArray) : Bytes (bytesOf s) := by
  intro x hx
  obtain ⟨b, _, rfl⟩ := List.mem_map.1 hx
  have := b.toNat_lt
  omega
theorem runN_good {blk : List Int → List Int → List Int} (hb : BlkOk blk) : ∀ (n : Nat) (h m : List Int), Good h → Good (Sha.runN blk n h m)
  | 0, _, _, h => h
  | n + 1, _, _, h => runN_good hb n _ _ (hb.good _ _ h)
theorem init_good : Good init := by
  refine ⟨rfl, ?_⟩
  decide
theorem mid_good {blk : List Int → List Int → List Int} (hb : BlkOk blk) (m : List Int) : Good (mid blk m) := runN_good hb _ _ _ init_good

abbrev cells8 (x0 x1 x2 x3 x4 x5 x6 x7 : Int) (v : Value) (n : Int) : Array Value := #[.int .u32 x0, .int .u32 x1, .int .u32 x2, .int .u32 x3, .int .u32 x4, .int .u32 x5, .int .u32 x6, .int .u32 x7, v, .int .i64 n]
abbrev cellsH (h : List Int) (v : Value) (n : Int) : Array Value := cells8 (wd h 0) (wd h 1) (wd h 2) (wd h 3) (wd h 4) (wd h 5) (wd h 6) (wd h 7) v n
/-- The state that a stream holds behind m. -/
def cur (blk : List Int → List Int → List Int) (m : List Int) : List Int := if m = [] then List.replicate 8 0 else mid blk m
/-- A stream at block g to which m was written; what it leads to lies from base on. -/
def Strm (blk : List Int → List Int → List Int) (base : Nat) (w : World) (g : Nat) (m : List Int) : Prop :=
  ∃ v, w.heap[g]? = some (.cells (cellsH (cur blk m) v m.length) 39 (0, 0)) ∧ base ≤ g ∧ (Kd.int .u8).R 5 w base (fun _ => True) v (left m) ∧ Bytes m
theorem Strm.step {blk : List Int → List Int → List Int} {base g : Nat} {w w1 : World} {m : List Int} (h : Strm blk base w g m) (hm : ∀ k, k < w.heap.size → base ≤ k → w1.heap[k]? = w.heap[k]?) : Strm blk base w1 g m := by
  obtain ⟨v, h1, h2, h3, h4⟩ := h
  refine ⟨v, (hm g (blk_lt h1) h2).trans h1, h2, ?_, h4⟩
  exact Kd.R_mono (Kd.R_move (Kd.R_bound h3) (fun k hk => hm k hk.2.2.1 hk.2.1)) (fun _ _ => trivial)
theorem grown_then {w W W2 : World} {g : Nat} (h : w.grownBy W (some g)) (k : Below W.heap.size W W2) : w.grownBy W2 (some g) := h.trans (grown_of_below k (some g))
theorem grown_set {w W : World} {g : Nat} (h : w.grownBy W (some g)) (i : Nat) (u : Value) : w.grownBy (W.setCell ⟨g, i, none⟩ u) (some g) :=
  h.trans ⟨rfl, rfl, rfl, by simp [World.setCell], fun k _ hk => Below.heap_setCell W ⟨g, i, none⟩ u k (fun e => hk (by rw [e]))⟩
theorem start_calls (w : World) : Calls Try.prog 14 #[] w fun e w' => ∃ g : Nat, e = .returned (.pointer (some ⟨g, 0, none⟩)) ∧ w.heap.size ≤ g ∧ w'.heap[g]? = some (.cells (cells8 0 0 0 0 0 0 0 0 (.slice none 0 0) 0) 39 (0, 0)) ∧ Below w.heap.size w w' := by
  have hu39 := Try.underlying39
  have HB := Aside0.mk (Below.refl w.heap.size w)
  go_enter Try.func14, Try.ntmps14
  go_wp2_with (first | ((with_reducible refine gate_dst (N := 2) rfl ?_); refine box_event ?hg (N := 2) ?hd (cs := #[.int .u32 0, .int .u32 0, .int .u32 0, .int .u32 0, .int .u32 0, .int .u32 0, .int .u32 0, .int .u32 0, .slice none 0 0, .int .i64 0]) (t := 39) ?hr ?_; (case hd => rfl); (case hg => rfl); (case hr => first | (go_simp; done) | (go_simp; rfl)); intro gb102 hg w1 hbox hb; have BK := Aside0.mk hbox; have GE := Aside0.mk (show w.heap.size ≤ gb102 by rw [hg]; exact Nat.le_refl _); have HB1 := Aside0.mk hb; clear hb hbox hg))
  go_ret
  exact ⟨_, rfl, GE.out, BK.out, HB1.out⟩
theorem strm_new {blk : List Int → List Int → List Int} {base g : Nat} {w : World} (h : w.heap[g]? = some (.cells (cells8 0 0 0 0 0 0 0 0 (.slice none 0 0) 0) 39 (0, 0))) (hb : base ≤ g) : Strm blk base w g [] := by
  refine ⟨.slice none 0 0, ?_, hb, Kd.R_nil _ _ _ _ _, fun _ h => by cases h⟩
  exact h
theorem len_calls {blk : List Int → List Int → List Int} (base g : Nat) (w : World) (m : List Int) (h : Strm blk base w g m) : Calls Try.prog 17 #[.pointer (some ⟨g, 0, none⟩)] w fun e w' => e = .returned (.int .i64 m.length) ∧ w = w' := by
  obtain ⟨v, h1, _⟩ := h
  have hc : w.cell? ⟨g, 9, none⟩ = some (.int .i64 m.length) := (blk_cell h1 9).trans rfl
  have hf := blk_frozen h1 9
  clear h1
  go_enter Try.func17, Try.ntmps17
  go_wp2
  go_ret
  exact ⟨rfl, rfl⟩
theorem len_nil (w : World) : Calls Try.prog 17 #[.pointer none] w fun e w' => e = .returned (.int .i64 0) ∧ w = w' := by
  go_enter Try.func17, Try.ntmps17
  go_wp2
  go_ret
  exact ⟨rfl, rfl⟩

theorem write_nil (s : Value) (b : ByteArray) (w : World) (hs : s = .pointer none) : Calls Try.prog 15 #[s, .string b] w fun e w' => e = .returned (.tuple #[]) ∧ w = w' := by
  subst hs
  go_enter Try.func15, Try.ntmps15
  go_wp2
  first | go_end0 | ((try simp only [Exit.inBlock, Exit.then]); refine bodyPost_ret (results_none rfl _ _ _) rfl ?_)
  exact ⟨rfl, rfl⟩
theorem write_empty (g : Nat) (b : ByteArray) (w : World) (hs : b.size = 0) : Calls Try.prog 15 #[.pointer (some ⟨g, 0, none⟩), .string b] w fun e w' => e = .returned (.tuple #[]) ∧ w = w' := by
  have hb : b = ⟨#[]⟩ := by
    have : b.data = #[] := Array.eq_empty_of_size_eq_zero hs
    cases b; simp_all
  subst hb
  go_enter Try.func15, Try.ntmps15
  go_wp2
  first | go_end0 | ((try simp only [Exit.inBlock, Exit.then]); refine bodyPost_ret (results_none rfl _ _ _) rfl ?_)
  exact ⟨rfl, rfl⟩

theorem blk_facts {W : World} {g : Nat} {x0 x1 x2 x3 x4 x5 x6 x7 : Int} {v : Value} {n : Int} (h : W.heap[g]? = some (.cells (cells8 x0 x1 x2 x3 x4 x5 x6 x7 v n) 39 (0, 0))) :
    W.cell? ⟨g, 0, none⟩ = some (.int .u32 x0) ∧ W.cell? ⟨g, 1, none⟩ = some (.int .u32 x1) ∧ W.cell? ⟨g, 2, none⟩ = some (.int .u32 x2) ∧ W.cell? ⟨g, 3, none⟩ = some (.int .u32 x3) ∧ W.cell? ⟨g, 4, none⟩ = some (.int .u32 x4) ∧ W.cell? ⟨g, 5, none⟩ = some (.int .u32 x5) ∧ W.cell? ⟨g, 6, none⟩ = some (.int .u32 x6) ∧ W.cell? ⟨g, 7, none⟩ = some (.int .u32 x7) ∧ W.cell? ⟨g, 8, none⟩ = some v ∧ W.cell? ⟨g, 9, none⟩ = some (.int .i64 n) ∧ W.frozen? ⟨g, 0, none⟩ = false ∧ W.frozen? ⟨g, 1, none⟩ = false ∧ W.frozen? ⟨g, 2, none⟩ = false ∧ W.frozen? ⟨g, 3, none⟩ = false ∧ W.frozen? ⟨g, 4, none⟩ = false ∧ W.frozen? ⟨g, 5, none⟩ = false ∧ W.frozen? ⟨g, 6, none⟩ = false ∧ W.frozen? ⟨g, 7, none⟩ = false ∧ W.frozen? ⟨g, 8, none⟩ = false ∧ W.frozen? ⟨g, 9, none⟩ = false :=
  ⟨(blk_cell h 0).trans rfl, (blk_cell h 1).trans rfl, (blk_cell h 2).trans rfl, (blk_cell h 3).trans rfl, (blk_cell h 4).trans rfl, (blk_cell h 5).trans rfl, (blk_cell h 6).trans rfl, (blk_cell h 7).trans rfl, (blk_cell h 8).trans rfl, (blk_cell h 9).trans rfl, blk_frozen h 0, blk_frozen h 1, blk_frozen h 2, blk_frozen h 3, blk_frozen h 4, blk_frozen h 5, blk_frozen h 6, blk_frozen h 7, blk_frozen h 8, blk_frozen h 9⟩
def put8 (W : World) (g : Nat) (y0 y1 y2 y3 y4 y5 y6 y7 : Int) : World := ((((((((W.setCell ⟨g, 0, none⟩ (.int .u32 y0)).setCell ⟨g, 1, none⟩ (.int .u32 y1)).setCell ⟨g, 2, none⟩ (.int .u32 y2)).setCell ⟨g, 3, none⟩ (.int .u32 y3)).setCell ⟨g, 4, none⟩ (.int .u32 y4)).setCell ⟨g, 5, none⟩ (.int .u32 y5)).setCell ⟨g, 6, none⟩ (.int .u32 y6)).setCell ⟨g, 7, none⟩ (.int .u32 y7))
theorem put8_blk {W : World} {g : Nat} {x0 x1 x2 x3 x4 x5 x6 x7 : Int} {v : Value} {n : Int} (h : W.heap[g]? = some (.cells (cells8 x0 x1 x2 x3 x4 x5 x6 x7 v n) 39 (0, 0))) (y0 y1 y2 y3 y4 y5 y6 y7 : Int) : (put8 W g y0 y1 y2 y3 y4 y5 y6 y7).heap[g]? = some (.cells (cells8 y0 y1 y2 y3 y4 y5 y6 y7 v n) 39 (0, 0)) :=
  (blk_put (cs' := cells8 y0 y1 y2 y3 y4 y5 y6 y7 v n) (blk_put (cs' := cells8 y0 y1 y2 y3 y4 y5 y6 x7 v n) (blk_put (cs' := cells8 y0 y1 y2 y3 y4 y5 x6 x7 v n) (blk_put (cs' := cells8 y0 y1 y2 y3 y4 x5 x6 x7 v n) (blk_put (cs' := cells8 y0 y1 y2 y3 x4 x5 x6 x7 v n) (blk_put (cs' := cells8 y0 y1 y2 x3 x4 x5 x6 x7 v n) (blk_put (cs' := cells8 y0 y1 x2 x3 x4 x5 x6 x7 v n) (blk_put (cs' := cells8 y0 x1 x2 x3 x4 x5 x6 x7 v n) h 0 _ rfl) 1 _ rfl) 2 _ rfl) 3 _ rfl) 4 _ rfl) 5 _ rfl) 6 _ rfl) 7 _ rfl)
theorem put8_grown {w W : World} {g : Nat} (h : w.grownBy W (some g)) (y0 y1 y2 y3 y4 y5 y6 y7 : Int) : w.grownBy (put8 W g y0 y1 y2 y3 y4 y5 y6 y7) (some g) :=
  (grown_set (grown_set (grown_set (grown_set (grown_set (grown_set (grown_set (grown_set h 0 _) 1 _) 2 _) 3 _) 4 _) 5 _) 6 _) 7 _)
theorem init_calls (w : World) : Calls Try.prog 23 #[] w fun e w' => e = .returned (.agg #[.int .u32 1779033703, .int .u32 3144134277, .int .u32 1013904242, .int .u32 2773480762, .int .u32 1359893119, .int .u32 2600822924, .int .u32 528734635, .int .u32 1541459225]) ∧ Below w.heap.size w w' := Q.hash_initial.calls _ _ _ _ _ _ _ _ w rfl
theorem row_keep {w W : World} {g base : Nat} {v : Value} {xs : List Int} {c : Array Value} (h : (Kd.int .u8).R 5 w base (fun _ => True) v xs) (hb : w.heap[g]? = some (.cells c 39 (0, 0))) (hg : w.grownBy W (some g)) : (Kd.int .u8).R 5 W base (fun _ => True) v xs :=
  Kd.R_mono (Kd.R_step (Kd.R_types h hb (by decide)) (fun k hk hlt => hg.block k hlt (fun e => hk.2 (by injection e)))) (fun _ _ => trivial)
theorem cur_ne {blk : List Int → List Int → List Int} {m : List Int} (h : m ≠ []) : cur blk m = mid blk m := if_neg h
theorem mid_nil {blk : List Int → List Int → List Int} : mid blk [] = init := rfl
theorem eqb_true {n : Int} (h : n = 0) : (n == 0) = true := by simp [h]
theorem eqb_false {n : Int} (h : ¬ n = 0) : (n == 0) = false := by simp [h]
theorem block_calls {blk : List Int → List Int → List Int} (hb : BlkOk blk) (h m : List Int) (hg : Good h) (hm : m.length = 64) (hB : Bytes m) (A : Option Addr) (c : Nat) (w : World) (hC : Kd.C (Kd.int .u8) w A m.length m) (hc : m.length ≤ c) :
    Calls Try.prog 24 #[.agg #[.int .u32 (wd h 0), .int .u32 (wd h 1), .int .u32 (wd h 2), .int .u32 (wd h 3), .int .u32 (wd h 4), .int .u32 (wd h 5), .int .u32 (wd h 6), .int .u32 (wd h 7)], .slice A 64 c] w fun e w' => e = .returned (.agg #[.int .u32 (wd (blk h m) 0), .int .u32 (wd (blk h m) 1), .int .u32 (wd (blk h m) 2), .int .u32 (wd (blk h m) 3), .int .u32 (wd (blk h m) 4), .int .u32 (wd (blk h m) 5), .int .u32 (wd (blk h m) 6), .int .u32 (wd (blk h m) 7)]) ∧ Below w.heap.size w w' := by
  obtain ⟨k, hk⟩ := hb.run h m hg hm hB
  have := Q.hash_state_block.calls k _ _ _ _ _ _ _ _ A c m _ _ _ _ _ _ _ _ w hC hc hk
  rw [hm] at this
  exact this
theorem cut64 (A : Option Addr) (c : Nat) (xs : List Int) (hl : 64 ≤ xs.length) (hc : xs.length ≤ c) :
    ∃ A' : Option Addr, (∀ W : World, (Instr.slice 28 (.slice A xs.length c) (some (.int .i64 64)) none none).run Try.prog W = .ok (.slice A' (xs.drop 64).length (c - 64)) W) ∧ ∀ (W : World) (ok : Nat → Prop), Kd.F (Kd.int .u8) W ok A xs.length xs → Kd.F (Kd.int .u8) W ok A' (xs.drop 64).length (xs.drop 64) := by
  obtain ⟨i0, hi, hzz⟩ := Option.map_eq_some_iff.1 Q.info5
  simp only [Prod.mk.injEq] at hzz
  obtain ⟨_, hsz, _⟩ := hzz
  refine ⟨if c = 64 then A else A.map (·.add (64 * (Kd.int .u8).sz)), fun W => ?_, fun W ok h => Kd.F_cut h hl hc⟩
  have hel : Try.prog.elem 28 = 5 := by simp [Program.elem, Try.underlying28]
  have hu : Try.prog.underlying 28 = some (.slice (Try.prog.elem 28)) := by rw [hel]; exact Try.underlying28
  rw [run_slice_l W 28 A xs.length c hu .i64 64 (by omega) (by omega), hel]
  simp [sizeOf, typeInfo, hi, hsz, sliced, Result.andThen, Kd.int, Kd.scalar]
theorem take64 (A : Option Addr) (c : Nat) (xs : List Int) (hl : 64 ≤ xs.length) (hc : xs.length ≤ c) :
    ∀ W : World, (Instr.slice 28 (.slice A xs.length c) none (some (.int .i64 64)) none).run Try.prog W = .ok (.slice A 64 c) W := by
  obtain ⟨i0, hi, hzz⟩ := Option.map_eq_some_iff.1 Q.info5
  simp only [Prod.mk.injEq] at hzz
  obtain ⟨_, hsz, _⟩ := hzz
  have h := (print_take_int (k := .u8) 28 5 Try.underlying28 hi hsz A c xs 64 (by decide) (by omega) hc).1
  have e : (xs.take (64 : Int).toNat).length = 64 := by rw [List.length_take]; show min 64 _ = 64; omega
  rw [e] at h
  exact h
theorem run_step {blk : List Int → List Int → List Int} (h xs : List Int) (hl : 64 ≤ xs.length) : Sha.runN blk (xs.length / 64) h xs = Sha.runN blk ((xs.drop 64).length / 64) (blk h (xs.take 64)) (xs.drop 64) := by
  have e : xs.length / 64 = (xs.drop 64).length / 64 + 1 := by rw [List.length_drop]; omega
  rw [e]; rfl
theorem drop_step (xs : List Int) (hl : 64 ≤ xs.length) : (xs.drop 64).drop (64 * ((xs.drop 64).length / 64)) = xs.drop (64 * (xs.length / 64)) := by
  rw [List.drop_drop]
  congr 1
  rw [List.length_drop]; omega
theorem leb {n k : Nat} (h : k ≤ n) : decide (k ≤ n) = true := decide_eq_true h
theorem leb' {n k : Nat} (h : ¬ k ≤ n) : decide (k ≤ n) = false := decide_eq_false h
theorem lebi {n : Nat} (h : 64 ≤ n) : decide ((64 : Int) ≤ (n : Int)) = true := decide_eq_true (by omega)
theorem lebi' {n : Nat} (h : ¬ 64 ≤ n) : decide ((64 : Int) ≤ (n : Int)) = false := decide_eq_false (by omega)
theorem F_put8 {W : World} {g : Nat} {A : Option Addr} {xs : List Int} (h : Kd.F (Kd.int .u8) W (fun k => k ≠ g) A xs.length xs) (y0 y1 y2 y3 y4 y5 y6 y7 : Int) : Kd.F (Kd.int .u8) (put8 W g y0 y1 y2 y3 y4 y5 y6 y7) (fun k => k ≠ g) A xs.length xs :=
  Kd.F_step h (fun k hk hlt => (put8_grown (World.grownBy.refl W (some g)) y0 y1 y2 y3 y4 y5 y6 y7).block k hlt (fun e => hk (by injection e)))
theorem strm_mk {blk : List Int → List Int → List Int} (base g : Nat) (m h X xs : List Int) (b : ByteArray) (hne : 0 < b.size) (W : World) (n : Int) (hn : n = m.length) (hge : base ≤ g) (hM : Bytes m) (v : Value)
    (hlt : ¬ 64 ≤ xs.length) (hX : left m ++ bytesOf b = X) (h1 : Sha.runN blk (xs.length / 64) h xs = Sha.runN blk (X.length / 64) (mid blk m) X) (h2 : xs.drop (64 * (xs.length / 64)) = X.drop (64 * (X.length / 64)))
    (hb : W.heap[g]? = some (.cells (cellsH h v (n + ↑b.size)) 39 (0, 0))) (hr : (Kd.int .u8).R 5 W base (fun _ => True) v xs) : Strm blk base W g (m ++ bytesOf b) := by
  have e0 : xs.length / 64 = 0 := by omega
  rw [e0] at h1 h2
  have e1 : h = mid blk (m ++ bytesOf b) := by rw [mid_more, hX]; exact h1
  have e2 : xs = left (m ++ bytesOf b) := by rw [left_more, hX, ← h2]; simp
  have e3 : m ++ bytesOf b ≠ [] := by
    intro e
    have := congrArg List.length e
    rw [List.length_append, bytesOf_length, List.length_nil] at this
    omega
  refine ⟨v, ?_, hge, by rw [← e2]; exact hr, hM.append (bytes_of b)⟩
  rw [cur_ne e3, ← e1, List.length_append, bytesOf_length]
  rw [hn] at hb
  rw [hb]
  simp
set_option maxHeartbeats 4000000 in
set_option maxRecDepth 100000 in
theorem write_calls {blk : List Int → List Int → List Int} (hb : BlkOk blk) (b : ByteArray) (hne : 0 < b.size) (base g : Nat) (m : List Int) (w : World) (hI : Strm blk base w g m) (hbase : base ≤ w.heap.size) (hm : m.length + b.size ≤ 1000000000) :
    Calls Try.prog 15 #[.pointer (some ⟨g, 0, none⟩), .string b] w fun e w' => e = .returned (.tuple #[]) ∧ Strm blk base w' g (m ++ bytesOf b) ∧ w.grownBy w' (some g) := by
  obtain ⟨v, h1, h2, h3, h4⟩ := hI
  obtain ⟨A0, k0, rfl⟩ := Kd.R_slice h3
  obtain ⟨n, hn⟩ : ∃ n : Int, n = m.length := ⟨_, rfl⟩
  rw [← hn] at h1
  have hn0 : 0 ≤ n := by omega
  have hn1 : n ≤ 1000000000 := by omega
  have hb1 : b.size ≤ 1000000000 := by omega
  have BK := Aside0.mk h1
  have GE := Aside0.mk h2
  have HR := Aside0.mk h3
  have HM := Aside0.mk h4
  have HB := Aside0.mk hbase
  have HL := Aside0.mk hm
  have HN := Aside0.mk hne
  have Hn := Aside0.mk hn
  clear h1 h2 h3 h4 hbase hm hne hn
  have hx0 : b.toList.isEmpty = false := by
    have h := HN.out
    rw [Lib.toList_data]
    cases hb : b.data.toList with
    | nil => rw [Lib.size_eq, hb] at h; cases h
    | cons => rfl
  obtain ⟨c0, c1, c2, c3, c4, c5, c6, c7, c8, c9, f0, f1, f2, f3, f4, f5, f6, f7, f8, f9⟩ := blk_facts BK.out
  go_enter Try.func15, Try.ntmps15
  go_upto_if 15 with (fail)
  go_cut [] (fun wc => Aside0 (wc.heap[g]? = some (.cells (cellsH (mid blk m) (.slice A0 (left m).length k0) n) 39 (0, 0))) ∧ Aside0 (w.grownBy wc (some g)))
  case first =>
    by_cases hm0 : n = 0
    · have e1 := eqb_true hm0
      have Hm := Aside0.mk hm0
      clear hm0
      go_wp2_with (go_at_call 23; refine (init_calls _).mono ?_; rintro e w1 ⟨rfl, hb1⟩; have BK1 := Aside0.mk ((hb1.block g (blk_lt BK.out)).trans BK.out); have HB1 := Aside0.mk hb1; clear hb1 c0 c1 c2 c3 c4 c5 c6 c7 c8 c9 f0 f1 f2 f3 f4 f5 f6 f7 f8 f9; obtain ⟨c0, c1, c2, c3, c4, c5, c6, c7, c8, c9, f0, f1, f2, f3, f4, f5, f6, f7, f8, f9⟩ := blk_facts BK1.out)
      go_meet
      case rel =>
        have hm' : m = [] := List.eq_nil_of_length_eq_zero (by have := Hn.out; have := Hm.out; omega)
        subst hm'
        exact ⟨⟨put8_blk BK1.out 1779033703 3144134277 1013904242 2773480762 1359893119 2600822924 528734635 1541459225⟩, ⟨put8_grown (grown_then (World.grownBy.refl w _) HB1.out) _ _ _ _ _ _ _ _⟩⟩
    · have e1 := eqb_false hm0
      have Hm := Aside0.mk hm0
      clear hm0
      go_wp2
      go_meet
      case rel =>
        have hm' : m ≠ [] := fun e => Hm.out (by rw [Hn.out, e]; rfl)
        refine ⟨⟨?_⟩, ⟨World.grownBy.refl w _⟩⟩
        rw [← cur_ne (blk := blk) hm']
        exact BK.out
  case rest =>
    clear c0 c1 c2 c3 c4 c5 c6 c7 c8 c9 f0 f1 f2 f3 f4 f5 f6 f7 f8 f9
    obtain ⟨BKc, HGc⟩ := hcut
    have HRc := Aside0.mk (row_keep HR.out BK.out HGc.out)
    obtain ⟨c0, c1, c2, c3, c4, c5, c6, c7, c8, c9, f0, f1, f2, f3, f4, f5, f6, f7, f8, f9⟩ := blk_facts BKc.out
    go_upto_region 4 with (fail)
    have BKw := Aside0.mk (blk_put (cs' := cells8 _ _ _ _ _ _ _ _ (.slice A0 (left m).length k0) (n + ↑b.size)) BKc.out 9 (.int .i64 (n + ↑b.size)) rfl)
    have HGw := Aside0.mk (grown_set HGc.out 9 (.int .i64 (n + ↑b.size)))
    have HRw := Aside0.mk (row_keep HR.out BK.out HGw.out)
    clear HRc BKc HGc c0 c1 c2 c3 c4 c5 c6 c7 c8 c9 f0 f1 f2 f3 f4 f5 f6 f7 f8 f9
    generalize wc.setCell ⟨g, 9, none⟩ (.int .i64 (n + ↑b.size)) = W at BKw HGw HRw ⊢
    obtain ⟨c0, c1, c2, c3, c4, c5, c6, c7, c8, c9, f0, f1, f2, f3, f4, f5, f6, f7, f8, f9⟩ := blk_facts BKw.out
    have HC := Aside0.mk (Kd.R_reads' HRw.out).2.2
    have hll : (left m).length ≤ 1000000000 := by have := left_len m; have := HL.out; omega
    have HLL := Aside0.mk hll
    clear hll
    have hL2 : ([] ++ left m).length + b.size ≤ 140737488355328 := by have := HLL.out; simp; omega
    have HL2 := Aside0.mk hL2
    clear hL2
    go_wp2_with (first
      | ((with_reducible refine gate_builtin (b := .append) (xs := #[.const (.slice none 0 0), .tmp 32]) rfl ?_); at_builtin; refine Kd.R_append_row (Value.int .u8) (0 : Int) (h1 := fun _ => rfl) (w0 := W) W.heap.size rfl (.const (.slice none 0 0)) (.tmp 32) 28 5 (.int .u8 0) 1 rfl Try.underlying28 Q.info5 rfl (by decide) (.slice none 0 0) [] (left m) A0 (left m).length k0 (fun _ => True) rfl rfl (fun _ _ => trivial) (Kd.R_nil _ _ _ _ _) HC.out (Below.refl _ _) (Nat.le_refl _) ?hl ?_; (case hl => have := HLL.out; simp; omega); intro v1 w1 hr1 hbl1 hg1 hat1; have HR1 := Aside0.mk hr1; have HB1 := Aside0.mk hbl1; clear hr1 hbl1 hg1 hat1)
      | ((with_reducible refine gate_builtin (b := .append) (xs := #[.tmp 33, .tmp 34]) rfl ?_); at_builtin; refine print_append_str (w0 := W) W.heap.size rfl (.tmp 33) (.tmp 34) 28 9 5 rfl Try.underlying28 Try.underlying9 Q.info5 v1 ([] ++ left m) b rfl rfl (Kd.own_of_R HR1.out) HB1.out HB1.out.size HL2.out ?_; intro v2 w2 ho2 hbl2 hg2; have HO2 := Aside0.mk ho2; have HB2 := Aside0.mk hbl2; clear ho2 hbl2 hg2))
    obtain ⟨X, hX⟩ : ∃ X : List Int, left m ++ bytesOf b = X := ⟨_, rfl⟩
    have hV := Kd.R_V (base' := W.heap.size) (Kd.R_mono (Kd.R_bound (Kd.R_of_own (h1 := fun _ => rfl) (ok := fun _ => True) HO2.out (fun _ _ => trivial))) (ok' := fun k => k ≠ g) (fun k hk => by have := blk_lt BKw.out; have := hk.2.1; omega))
    rw [List.nil_append, hX] at hV
    obtain ⟨A, c, hv, hlc, hF⟩ := hV
    have HF := Aside0.mk hF
    have HLC := Aside0.mk hlc
    have HV := Aside0.mk hv
    have HX := Aside0.mk hX
    have BK2 := Aside0.mk ((HB2.out.block g (blk_lt BKw.out)).trans BKw.out)
    have HG2 := Aside0.mk (grown_then HGw.out HB2.out)
    have HBX := Aside0.mk (show Bytes X by rw [← hX]; exact (HM.out.drop _).append (bytes_of b))
    clear hF hlc hv hX c0 c1 c2 c3 c4 c5 c6 c7 c8 c9 f0 f1 f2 f3 f4 f5 f6 f7 f8 f9
    go_loopg [4] X.length (fun kq v4 wr => ∃ (A : Option Addr) (c : Nat) (h xs : List Int), v4 = .slice A xs.length c ∧ Aside0 (xs.length ≤ c) ∧ Aside0 (xs.length ≤ kq) ∧ Aside0 (Kd.F (Kd.int .u8) wr (fun k => k ≠ g) A xs.length xs) ∧ Aside0 (wr.heap[g]? = some (.cells (cellsH h (.slice A0 (left m).length k0) (n + ↑b.size)) 39 (0, 0))) ∧ Aside0 (w.grownBy wr (some g)) ∧ Aside0 (Good h ∧ Bytes xs ∧ Sha.runN blk (xs.length / 64) h xs = Sha.runN blk (X.length / 64) (mid blk m) X ∧ xs.drop (64 * (xs.length / 64)) = X.drop (64 * (X.length / 64))))
    case atStart => exact ⟨A, c, mid blk m, X, HV.out, HLC, ⟨Nat.le_refl _⟩, HF, BK2, HG2, ⟨mid_good hb m, HBX.out, rfl, rfl⟩⟩
    case round =>
      clear BK2 HG2 HF HLC HV
      obtain ⟨A, c, h, xs, rfl, HXC, HXK, HF, BK2, HG2, HI⟩ := hrel
      by_cases hlt : 64 ≤ xs.length
      · have t1 := leb hlt
        have t2 := lebi hlt
        have HLT := Aside0.mk hlt
        clear hlt
        have hs1 := take64 A c xs HLT.out HXC.out
        obtain ⟨A', hs2, hA'⟩ := cut64 A c xs HLT.out HXC.out
        have HA' := Aside0.mk hA'
        clear hA'
        have HT := Aside0.mk (show (xs.take 64).length = 64 by rw [List.length_take]; have := HLT.out; omega)
        go_wp2
        have HFr := Aside0.mk (Kd.F_drew HF.out)
        have BKr := Aside0.mk (blk_drew BK2.out)
        have HGr := Aside0.mk (show w.grownBy wr.drew (some g) from grown_then HG2.out (Below.refl _ _).drew)
        have HCt := Aside0.mk (Kd.F_now (Kd.F_take HFr.out HLT.out))
        obtain ⟨c0, c1, c2, c3, c4, c5, c6, c7, c8, c9, f0, f1, f2, f3, f4, f5, f6, f7, f8, f9⟩ := blk_facts BKr.out
        refine start_ (n := 11) (S := fun w' => w'.cell? ⟨g, 0, none⟩ = some (.int .u32 (wd h 0)) ∧ w'.cell? ⟨g, 1, none⟩ = some (.int .u32 (wd h 1)) ∧ w'.cell? ⟨g, 2, none⟩ = some (.int .u32 (wd h 2)) ∧ w'.cell? ⟨g, 3, none⟩ = some (.int .u32 (wd h 3)) ∧ w'.cell? ⟨g, 4, none⟩ = some (.int .u32 (wd h 4)) ∧ w'.cell? ⟨g, 5, none⟩ = some (.int .u32 (wd h 5)) ∧ w'.cell? ⟨g, 6, none⟩ = some (.int .u32 (wd h 6)) ∧ w'.cell? ⟨g, 7, none⟩ = some (.int .u32 (wd h 7))) (ds := [7, 10]) #[false, false, false, false, false, false, false, false, false, false, false] (by kernel_rfl) rfl rfl ⟨c0, c1, c2, c3, c4, c5, c6, c7⟩ (fun hHeld => ?_)
        generalize wr.drew = w4 at HFr BKr HGr HCt hHeld c0 c1 c2 c3 c4 c5 c6 c7 c8 c9 f0 f1 f2 f3 f4 f5 f6 f7 f8 f9 ⊢
        refine pure_ (i := 0) (N := some 39) (v := ?_) (a' := ?_) #[true, false, false, false, false, false, false, false, false, false, false] rfl rfl (by kernel_rfl) (fun _ _ _ h => h) (Or.inl ⟨by rfl, ?_⟩) ?_ ?_
        rotate_left; (intro w'; go_simp; with_reducible rfl); rotate_left; (simp only [Act.put, List.setIfInBounds_toArray, List.set_cons_zero, List.set_cons_succ, i64_w, i32_w]; rfl)
        refine pure_ (i := 1) (N := some 40) (v := ?_) (a' := ?_) #[true, true, false, false, false, false, false, false, false, false, false] rfl rfl (by kernel_rfl) (fun _ _ _ h => h) (Or.inl ⟨by rfl, ?_⟩) ?_ ?_
        rotate_left; (intro w'; go_simp; with_reducible rfl); rotate_left; (simp only [Act.put, List.setIfInBounds_toArray, List.set_cons_zero, List.set_cons_succ, i64_w, i32_w]; rfl)
        refine pure_ (i := 2) (N := some 41) (v := ?_) (a' := ?_) #[true, true, true, false, false, false, false, false, false, false, false] rfl rfl (by kernel_rfl) (fun _ _ _ h => h) (Or.inl ⟨by rfl, ?_⟩) ?_ ?_
        rotate_left; (intro w'; go_simp; with_reducible rfl); rotate_left; (simp only [Act.put, List.setIfInBounds_toArray, List.set_cons_zero, List.set_cons_succ, i64_w, i32_w]; rfl)
        refine pure_ (i := 3) (N := some 42) (v := ?_) (a' := ?_) #[true, true, true, true, false, false, false, false, false, false, false] rfl rfl (by kernel_rfl) (fun _ _ _ h => h) (Or.inl ⟨by rfl, ?_⟩) ?_ ?_
        rotate_left; (intro w'; go_simp; with_reducible rfl); rotate_left; (simp only [Act.put, List.setIfInBounds_toArray, List.set_cons_zero, List.set_cons_succ, i64_w, i32_w]; rfl)
        refine pure_ (i := 5) (N := some 44) (v := ?_) (a' := ?_) #[true, true, true, true, false, true, false, false, false, false, false] rfl rfl (by kernel_rfl) (fun _ _ _ h => h) (Or.inl ⟨by rfl, ?_⟩) ?_ ?_
        rotate_left; (intro w'; go_simp; with_reducible rfl); rotate_left; (simp only [Act.put, List.setIfInBounds_toArray, List.set_cons_zero, List.set_cons_succ, i64_w, i32_w]; rfl)
        refine pure_ (i := 6) (N := some 45) (v := ?_) (a' := ?_) #[true, true, true, true, false, true, true, false, false, false, false] rfl rfl (by kernel_rfl) (fun _ _ _ h => h) (Or.inl ⟨by rfl, ?_⟩) ?_ ?_
        rotate_left; (intro w'; go_simp; with_reducible rfl); rotate_left; (simp only [Act.put, List.setIfInBounds_toArray, List.set_cons_zero, List.set_cons_succ, i64_w, i32_w]; rfl)
        refine take_ (i := 4) (N := some 43) (v := ?_) (a' := ?_) #[true, true, true, true, true, true, true, false, false, false, false] rfl rfl (by kernel_rfl) (fun _ _ _ h => h) (Or.inl ⟨by rfl, ?_⟩) hHeld ?_ ?_
        rotate_left; (rintro w' ⟨s0, s1, s2, s3, s4, s5, s6, s7⟩; go_simp; with_reducible rfl); rotate_left; (simp only [Act.put, List.setIfInBounds_toArray, List.set_cons_zero, List.set_cons_succ, i64_w, i32_w]; rfl)
        refine last_ (i := 7) (N := some 46) #[true, true, true, true, true, true, true, true, false, false, false] rfl rfl (by kernel_rfl) (by decide) (fun K hK => ?_)
        refine goes_ Try.func24 (by kernel_rfl) rfl #[.agg #[.int .u32 (wd h 0), .int .u32 (wd h 1), .int .u32 (wd h 2), .int .u32 (wd h 3), .int .u32 (wd h 4), .int .u32 (wd h 5), .int .u32 (wd h 6), .int .u32 (wd h 7)], .slice A 64 c] (by rfl) rfl rfl (by (try simp only [List.map_toArray, List.map_cons, List.map_nil]); first | done | rfl) ?_
        with_reducible refine (block_calls hb h (xs.take 64) HI.out.1 HT.out (HI.out.2.1.take 64) A c _ HCt.out (by rw [HT.out]; have := HXC.out; have := HLT.out; omega)).mono ?_
        rintro e w3 ⟨rfl, hb3⟩
        refine ⟨_, rfl, ?_⟩
        refine hK.out _ _ ?_
        clear hK K
        refine norm_ (a' := ?_) ?_ ?_
        rotate_left
        · show Act.put _ (some 46) _ = _
          simp only [Act.put, List.setIfInBounds_toArray, List.set_cons_zero, List.set_cons_succ, i64_w, i32_w]
          rfl
        have BK3 := Aside0.mk ((hb3.block g (blk_lt BKr.out)).trans BKr.out)
        have HG3 := Aside0.mk (grown_then HGr.out hb3)
        have HF3 := Aside0.mk (Kd.F_below HFr.out hb3)
        clear hb3 hHeld c0 c1 c2 c3 c4 c5 c6 c7 c8 c9 f0 f1 f2 f3 f4 f5 f6 f7 f8 f9
        obtain ⟨c0, c1, c2, c3, c4, c5, c6, c7, c8, c9, f0, f1, f2, f3, f4, f5, f6, f7, f8, f9⟩ := blk_facts BK3.out
        refine pure_ (i := 8) (N := some 47) (v := ?_) (a' := ?_) #[true, true, true, true, true, true, true, true, true, false, false] rfl rfl (by kernel_rfl) (fun _ _ _ h => h) (Or.inl ⟨by rfl, ?_⟩) ?_ ?_
        rotate_left; (intro w'; go_simp; with_reducible rfl); rotate_left; (simp only [Act.put, List.setIfInBounds_toArray, List.set_cons_zero, List.set_cons_succ, i64_w, i32_w]; rfl)
        refine pure_ (i := 9) (N := some 48) (v := ?_) (a' := ?_) #[true, true, true, true, true, true, true, true, true, true, false] rfl rfl (by kernel_rfl) (fun _ _ _ h => h) (Or.inl ⟨by rfl, ?_⟩) ?_ ?_
        rotate_left; (intro w'; go_simp; with_reducible rfl); rotate_left; (simp only [Act.put, List.setIfInBounds_toArray, List.set_cons_zero, List.set_cons_succ, i64_w, i32_w]; rfl)
        refine last_ (i := 10) (N := none) #[true, true, true, true, true, true, true, true, true, true, true] rfl rfl (by kernel_rfl) (by decide) (fun K hK => ?_)
        refine skip_ (w1 := ?_) (by rfl) rfl ?_ ?_
        rotate_left
        · go_simp
          rfl
        refine hK.out _ _ ?_
        clear hK K
        refine done_ (by kernel_rfl) ?_
        go_wp2
        go_roundg (xs.length - 64)
        case measure => have := HXK.out; have := HLT.out; omega
        case rel =>
          refine ⟨A', c - 64, blk h (xs.take 64), xs.drop 64, by rw [List.length_drop], ⟨?_⟩, ⟨?_⟩, ⟨?_⟩, ⟨?_⟩, ⟨?_⟩, ⟨hb.good _ _ HI.out.1, HI.out.2.1.drop 64, ?_, ?_⟩⟩
          · rw [List.length_drop]; have := HXC.out; omega
          · rw [List.length_drop]; exact Nat.le_refl _
          · exact HA'.out _ _ (F_put8 HF3.out _ _ _ _ _ _ _ _)
          · exact put8_blk BK3.out _ _ _ _ _ _ _ _
          · exact put8_grown HG3.out _ _ _ _ _ _ _ _
          · rw [← run_step h xs HLT.out]; exact HI.out.2.2.1
          · rw [drop_step xs HLT.out]; exact HI.out.2.2.2
      · have t1 := leb' hlt
        have t2 := lebi' hlt
        have HLT := Aside0.mk hlt
        clear hlt
        obtain ⟨c0, c1, c2, c3, c4, c5, c6, c7, c8, c9, f0, f1, f2, f3, f4, f5, f6, f7, f8, f9⟩ := blk_facts BK2.out
        go_wp2_with ((with_reducible refine gate_builtin (b := .append) (xs := #[.const (.slice none 0 0), .tmp 52]) rfl ?_); at_builtin; refine Kd.R_append_row (Value.int .u8) (0 : Int) (h1 := fun _ => rfl) (w0 := wr) wr.heap.size rfl (.const (.slice none 0 0)) (.tmp 52) 28 5 (.int .u8 0) 1 rfl Try.underlying28 Q.info5 rfl (by decide) (.slice none 0 0) [] xs A xs.length c (fun _ => True) rfl rfl (fun _ _ => trivial) (Kd.R_nil _ _ _ _ _) (Kd.F_now HF.out) (Below.refl _ _) (Nat.le_refl _) ?hl ?_; (case hl => have := HLT.out; simp; omega); intro v3 w3 hr3 hbl3 hg3 hat3; have hex3 := Kd.R_slice hr3; obtain ⟨A3, k3, hv3⟩ := hex3; rw [hv3] at hr3; rw [hv3]; have HR3 := Aside0.mk hr3; have HB3 := Aside0.mk hbl3; clear hr3 hbl3 hg3 hat3 hv3; have BK3 := Aside0.mk ((HB3.out.block g (blk_lt BK2.out)).trans BK2.out); clear c0 c1 c2 c3 c4 c5 c6 c7 c8 c9 f0 f1 f2 f3 f4 f5 f6 f7 f8 f9; obtain ⟨c0, c1, c2, c3, c4, c5, c6, c7, c8, c9, f0, f1, f2, f3, f4, f5, f6, f7, f8, f9⟩ := blk_facts BK3.out)
        first | go_end0 | ((try simp only [Exit.inBlock, Exit.then]); refine bodyPost_ret (results_none rfl _ _ _) rfl ?_)
        refine ⟨rfl, strm_mk base g m h X xs b HN.out _ n Hn.out GE.out HM.out (.slice A3 ([] ++ xs).length k3) HLT.out HX.out HI.out.2.2.1 HI.out.2.2.2 (blk_put BK3.out 8 _ rfl) ?_, grown_set (grown_then HG2.out HB3.out) _ _⟩
        refine Kd.R_mono (Kd.R_far (Kd.R_types (Kd.R_lower HR3.out ?_) BK3.out (by decide)) (fun _ hk => hk.2) _) (fun _ _ => trivial)
        exact Nat.le_trans HB.out HG2.out.size
def outN (h : List Int) (k : Nat) : List Int := (List.range k).flatMap fun j => [wd h j / 16777216 % 256, wd h j / 65536 % 256, wd h j / 256 % 256, wd h j % 256]
theorem outN_succ (h : List Int) (k : Nat) : outN h (k + 1) = outN h k ++ [wd h k / 16777216 % 256, wd h k / 65536 % 256, wd h k / 256 % 256, wd h k % 256] := by
  unfold outN
  rw [List.range_succ, List.flatMap_append]
  simp
theorem outN_len (h : List Int) : ∀ k, (outN h k).length = 4 * k
  | 0 => rfl
  | k + 1 => by rw [outN_succ, List.length_append, outN_len h k]; simp; omega
theorem outN_all (h : List Int) (hl : h.length = 8) : outN h 8 = Sha.out h := by
  unfold outN Sha.out
  have e : h = (List.range 8).map (wd h) := by
    apply List.ext_getElem
    · simp [hl]
    · intro i h1 h2
      simp [wd, List.getD_eq_getElem?_getD, List.getElem?_eq_getElem h1]
  conv => rhs; rw [e]
  rw [List.flatMap_map]
theorem ret_str {a b : ByteArray} (h : a = b) : Ending.returned (.string a) = .returned (.string b) := by rw [h]
theorem len8_take (M k : Nat) (hk : k < 8) : (len8 M).take (k + 1) = (len8 M).take k ++ [(((8 * M) / 256 ^ (7 - k) % 256 : Nat) : Int)] := by
  have hl : k < (len8 M).length := by simpa [len8] using hk
  rw [List.take_succ_eq_append_getElem hl]
  congr 2
  simp [len8]
theorem len8_all (M : Nat) : (len8 M).take 8 = len8 M := List.take_of_length_le (by simp [len8])
theorem len8_bytes (M : Nat) : Bytes (len8 M) := by
  intro x hx
  obtain ⟨i, _, rfl⟩ := List.mem_map.1 hx
  have := Nat.mod_lt ((8 * M) / 256 ^ (7 - i)) (show 0 < 256 by decide)
  omega
theorem pad_bytes (M : Nat) : Bytes (pad M) := by
  intro x hx
  unfold pad at hx
  rcases List.mem_cons.1 hx with rfl | hx
  · decide
  · rcases List.mem_append.1 hx with hx | hx
    · have := List.eq_of_mem_replicate hx; omega
    · exact len8_bytes M x hx
theorem nth8 (n : Int) (M : Nat) (hn : n = M) : n * 8 / 72057594037927936 % 256 = (((8 * M) / 256 ^ (7 - 0) % 256 : Nat) : Int) := by
  rw [show (256 : Nat) ^ (7 - 0) = 72057594037927936 by decide]; omega

abbrev cellsS (h : List Int) : Array Value := #[.int .u32 (wd h 0), .int .u32 (wd h 1), .int .u32 (wd h 2), .int .u32 (wd h 3), .int .u32 (wd h 4), .int .u32 (wd h 5), .int .u32 (wd h 6), .int .u32 (wd h 7)]
theorem blk_facts8 {W : World} {g : Nat} {x0 x1 x2 x3 x4 x5 x6 x7 : Int} (h : W.heap[g]? = some (.cells #[.int .u32 x0, .int .u32 x1, .int .u32 x2, .int .u32 x3, .int .u32 x4, .int .u32 x5, .int .u32 x6, .int .u32 x7] 37 (0, 0))) :
    W.cell? ⟨g, 0, none⟩ = some (.int .u32 x0) ∧ W.cell? ⟨g, 1, none⟩ = some (.int .u32 x1) ∧ W.cell? ⟨g, 2, none⟩ = some (.int .u32 x2) ∧ W.cell? ⟨g, 3, none⟩ = some (.int .u32 x3) ∧ W.cell? ⟨g, 4, none⟩ = some (.int .u32 x4) ∧ W.cell? ⟨g, 5, none⟩ = some (.int .u32 x5) ∧ W.cell? ⟨g, 6, none⟩ = some (.int .u32 x6) ∧ W.cell? ⟨g, 7, none⟩ = some (.int .u32 x7) ∧ W.frozen? ⟨g, 0, none⟩ = false ∧ W.frozen? ⟨g, 1, none⟩ = false ∧ W.frozen? ⟨g, 2, none⟩ = false ∧ W.frozen? ⟨g, 3, none⟩ = false ∧ W.frozen? ⟨g, 4, none⟩ = false ∧ W.frozen? ⟨g, 5, none⟩ = false ∧ W.frozen? ⟨g, 6, none⟩ = false ∧ W.frozen? ⟨g, 7, none⟩ = false :=
  ⟨(blk_cell h 0).trans rfl, (blk_cell h 1).trans rfl, (blk_cell h 2).trans rfl, (blk_cell h 3).trans rfl, (blk_cell h 4).trans rfl, (blk_cell h 5).trans rfl, (blk_cell h 6).trans rfl, (blk_cell h 7).trans rfl, blk_frozen h 0, blk_frozen h 1, blk_frozen h 2, blk_frozen h 3, blk_frozen h 4, blk_frozen h 5, blk_frozen h 6, blk_frozen h 7⟩
theorem put8_blk8 {W : World} {g : Nat} {x0 x1 x2 x3 x4 x5 x6 x7 : Int} (h : W.heap[g]? = some (.cells #[.int .u32 x0, .int .u32 x1, .int .u32 x2, .int .u32 x3, .int .u32 x4, .int .u32 x5, .int .u32 x6, .int .u32 x7] 37 (0, 0))) (y0 y1 y2 y3 y4 y5 y6 y7 : Int) : (put8 W g y0 y1 y2 y3 y4 y5 y6 y7).heap[g]? = some (.cells #[.int .u32 y0, .int .u32 y1, .int .u32 y2, .int .u32 y3, .int .u32 y4, .int .u32 y5, .int .u32 y6, .int .u32 y7] 37 (0, 0)) :=
  (blk_put (cs' := #[.int .u32 y0, .int .u32 y1, .int .u32 y2, .int .u32 y3, .int .u32 y4, .int .u32 y5, .int .u32 y6, .int .u32 y7]) (blk_put (cs' := #[.int .u32 y0, .int .u32 y1, .int .u32 y2, .int .u32 y3, .int .u32 y4, .int .u32 y5, .int .u32 y6, .int .u32 x7]) (blk_put (cs' := #[.int .u32 y0, .int .u32 y1, .int .u32 y2, .int .u32 y3, .int .u32 y4, .int .u32 y5, .int .u32 x6, .int .u32 x7]) (blk_put (cs' := #[.int .u32 y0, .int .u32 y1, .int .u32 y2, .int .u32 y3, .int .u32 y4, .int .u32 x5, .int .u32 x6, .int .u32 x7]) (blk_put (cs' := #[.int .u32 y0, .int .u32 y1, .int .u32 y2, .int .u32 y3, .int .u32 x4, .int .u32 x5, .int .u32 x6, .int .u32 x7]) (blk_put (cs' := #[.int .u32 y0, .int .u32 y1, .int .u32 y2, .int .u32 x3, .int .u32 x4, .int .u32 x5, .int .u32 x6, .int .u32 x7]) (blk_put (cs' := #[.int .u32 y0, .int .u32 y1, .int .u32 x2, .int .u32 x3, .int .u32 x4, .int .u32 x5, .int .u32 x6, .int .u32 x7]) (blk_put (cs' := #[.int .u32 y0, .int .u32 x1, .int .u32 x2, .int .u32 x3, .int .u32 x4, .int .u32 x5, .int .u32 x6, .int .u32 x7]) h 0 _ rfl) 1 _ rfl) 2 _ rfl) 3 _ rfl) 4 _ rfl) 5 _ rfl) 6 _ rfl) 7 _ rfl)
theorem put8_below {w W : World} {B g : Nat} (h : Below B w W) (hg : B ≤ g) (y0 y1 y2 y3 y4 y5 y6 y7 : Int) : Below B w (put8 W g y0 y1 y2 y3 y4 y5 y6 y7) :=
  ((((((((((((((((h).setCell (p := ⟨g, 0, none⟩) hg _)).setCell (p := ⟨g, 1, none⟩) hg _)).setCell (p := ⟨g, 2, none⟩) hg _)).setCell (p := ⟨g, 3, none⟩) hg _)).setCell (p := ⟨g, 4, none⟩) hg _)).setCell (p := ⟨g, 5, none⟩) hg _)).setCell (p := ⟨g, 6, none⟩) hg _)).setCell (p := ⟨g, 7, none⟩) hg _)
theorem put8_far {W : World} {g p : Nat} {o : Obj} (h : W.heap[g]? = some o) (hne : g ≠ p) (y0 y1 y2 y3 y4 y5 y6 y7 : Int) : (put8 W p y0 y1 y2 y3 y4 y5 y6 y7).heap[g]? = some o :=
  ((put8_grown (World.grownBy.refl W (some p)) y0 y1 y2 y3 y4 y5 y6 y7).block g (blk_lt h) (fun e => hne (by injection e))).trans h
theorem put8_row {W : World} {p base : Nat} {v : Value} {xs : List Int} {x0 x1 x2 x3 x4 x5 x6 x7 : Int} (h : (Kd.int .u8).R 5 W base (fun _ => True) v xs) (hb : W.heap[p]? = some (.cells #[.int .u32 x0, .int .u32 x1, .int .u32 x2, .int .u32 x3, .int .u32 x4, .int .u32 x5, .int .u32 x6, .int .u32 x7] 37 (0, 0))) (y0 y1 y2 y3 y4 y5 y6 y7 : Int) : (Kd.int .u8).R 5 (put8 W p y0 y1 y2 y3 y4 y5 y6 y7) base (fun _ => True) v xs :=
  Kd.R_mono (Kd.R_step (Kd.R_types h hb (by decide)) (fun k hk hlt => (put8_grown (World.grownBy.refl W (some p)) y0 y1 y2 y3 y4 y5 y6 y7).block k hlt (fun e => hk.2 (by injection e)))) (fun _ _ => trivial)
theorem blk_grown {W w1 : World} {p base : Nat} {v : Value} {xs : List Int} {c : Array Value} (hb : W.heap[p]? = some (.cells c 37 (0, 0))) (hr : (Kd.int .u8).R 5 W base (fun _ => True) v xs) (hg : W.grownBy w1 v.ownBlock) : w1.heap[p]? = some (.cells c 37 (0, 0)) :=
  (hg.block p (blk_lt hb) (Kd.R_ne hr hb (by decide))).trans hb

set_option maxHeartbeats 4000000 in
set_option maxRecDepth 100000 in
theorem sum_nil {blk : List Int → List Int → List Int} (hb : BlkOk blk) (w : World) : Calls Try.prog 16 #[.pointer none] w fun e w' => e = .returned (.string (strOfNums (Sha.sha blk []))) ∧ Below w.heap.size w w' := by
  obtain ⟨m, hm⟩ : ∃ m : List Int, m = [] := ⟨_, rfl⟩
  obtain ⟨n, hn⟩ : ∃ n : Int, n = m.length := ⟨_, rfl⟩
  rw [← hm]
  have hn0 : 0 ≤ n := by omega
  have hn1 : n ≤ 1000000000 := by rw [hn, hm]; decide
  have Hn := Aside0.mk hn
  have Hm := Aside0.mk hm
  have HMB := Aside0.mk (show Bytes m by rw [hm]; exact fun _ h => by cases h)
  clear hn hm
  go_enter Try.func16, Try.ntmps16
  go_upto_if 19 with (first
    | (go_at_call 23; refine (init_calls _).mono ?_; rintro e w1 ⟨rfl, hb1⟩; have HB1 := Aside0.mk hb1; clear hb1)
    | ((with_reducible refine gate_dst (N := 3) rfl ?_); refine box_event ?hg (N := 3) ?hd (cs := #[.int .u32 0, .int .u32 0, .int .u32 0, .int .u32 0, .int .u32 0, .int .u32 0, .int .u32 0, .int .u32 0]) (t := 37) ?hr ?_; (case hd => rfl); (case hg => rfl); (case hr => first | (go_simp; done) | (go_simp; rfl)); intro p hg w2 hbox hb; have BKp := Aside0.mk hbox; have GE := Aside0.mk (show w.heap.size ≤ p by rw [hg]; exact HB1.out.size); have HB2 := Aside0.mk (below_step HB1.out hb); clear hb hbox hg; obtain ⟨c0, c1, c2, c3, c4, c5, c6, c7, f0, f1, f2, f3, f4, f5, f6, f7⟩ := blk_facts8 BKp.out))
  go_cut [4, 5] (fun v4 v5 wc => ∃ (A : Option Addr) (c : Nat), v4 = .slice A (left m).length c ∧ v5 = .int .i64 n ∧ Aside0 ((Kd.int .u8).R 5 wc w.heap.size (fun _ => True) (.slice A (left m).length c) (left m)) ∧ Aside0 (wc.heap[p]? = some (.cells (cellsS (mid blk m)) 37 (0, 0))) ∧ Aside0 (Below w.heap.size w wc))
  case first =>
    go_wp2
    go_meet
    case rel =>
      refine ⟨none, 0, by rw [Hm.out]; rfl, by rw [Hn.out, Hm.out]; rfl, ⟨?_⟩, ⟨?_⟩, ⟨put8_below HB2.out GE.out 1779033703 3144134277 1013904242 2773480762 1359893119 2600822924 528734635 1541459225⟩⟩
      · rw [Hm.out]; exact Kd.R_nil _ _ _ _ _
      · rw [Hm.out]; exact put8_blk8 BKp.out 1779033703 3144134277 1013904242 2773480762 1359893119 2600822924 528734635 1541459225
  case rest =>
    clear c0 c1 c2 c3 c4 c5 c6 c7 f0 f1 f2 f3 f4 f5 f6 f7 
    obtain ⟨A, c, rfl, rfl, HRc, BKq, HBc⟩ := hcut
    have HLM := Aside0.mk (show (left m).length < 64 by rw [left_len]; omega)
    go_wp2_with (((with_reducible refine gate_builtin (b := .append) (xs := #[.tmp 34, .tmp 35]) rfl ?_); at_builtin; refine Kd.R_append (Kd.int .u8) (w0 := w) w.heap.size rfl (.tmp 34) (.tmp 35) 28 5 (.int .u8 0) 1 rfl Try.underlying28 Q.info5 rfl (by decide) (by omega) (.slice A (left m).length c) (left m) (128) [.int .u8 128] (fun _ => True) (fun _ => False) rfl rfl ?aP (fun _ hk => hk.elim) ?aF ?aO ?aB ?aS ?aL ?_; (case aP => exact rfl); (case aF => exact (fun _ _ => trivial)); (case aO => exact HRc.out); (case aB => exact HBc.out); (case aS => exact HBc.out.size); (case aL => have := HLM.out; omega); intro v1 w1 hr hbl hg hat; have hex := Kd.R_slice hr; obtain ⟨A1, k1, hv⟩ := hex; rw [hv] at hr; rw [hv]; have HR1 := Aside0.mk hr; have HB1 := Aside0.mk hbl; have BK1 := Aside0.mk (blk_grown BKq.out HRc.out hg); clear hr hbl hg hat hv))
    clear BKq HRc HBc
    go_loopg [4] (zs m.length) (fun kq v4 wr => ∃ (A : Option Addr) (c : Nat) (xs : List Int), v4 = .slice A xs.length c ∧ Aside0 ((Kd.int .u8).R 5 wr w.heap.size (fun _ => True) (.slice A xs.length c) xs) ∧ Aside0 (wr.heap[p]? = some (.cells (cellsS (mid blk m)) 37 (0, 0))) ∧ Aside0 (Below w.heap.size w wr) ∧ Aside0 (∃ j, j + kq = zs m.length ∧ xs = left m ++ 128 :: List.replicate j 0))
    case atStart => exact ⟨A1, k1, left m ++ [128], by simp, HR1, BK1, HB1, ⟨0, by omega, rfl⟩⟩
    case round =>
      clear HR1 BK1 HB1
      obtain ⟨A, c, xs, rfl, HRr, BKq, HBr, HJ⟩ := hrel
      obtain ⟨j, hj, hxs⟩ := HJ.out
      have hlen : xs.length = m.length % 64 + 1 + j := by rw [hxs, List.length_append, left_len]; simp; omega
      have HXS := Aside0.mk hxs
      have HLEN := Aside0.mk hlen
      have HJK := Aside0.mk hj
      clear hxs hlen hj HJ
      by_cases hz : gk = 0
      · have t1 : (((xs.length : Int) % 64) != 56) = false := by
          have := HLEN.out; have := HJK.out; unfold zs at this
          rw [bne_eq_false_iff_eq]; omega
        have HZ := Aside0.mk hz
        clear hz
        go_wp2
        obtain ⟨X1, hX1⟩ : ∃ X : List Int, xs = X := ⟨_, rfl⟩
        have HX1 := Aside0.mk (show X1 = left m ++ 128 :: List.replicate (zs m.length) 0 by rw [← hX1, HXS.out]; have := HJK.out; have := HZ.out; rw [show j = zs m.length by omega])
        have HX1x := Aside0.mk hX1
        clear hX1 t1
        go_loopg [4, 6] 8 (fun kq v4 v6 wr => ∃ (i : Int) (A : Option Addr) (c : Nat) (xs : List Int), v6 = .int .i64 i ∧ v4 = .slice A xs.length c ∧ Aside0 ((Kd.int .u8).R 5 wr w.heap.size (fun _ => True) (.slice A xs.length c) xs) ∧ Aside0 (wr.heap[p]? = some (.cells (cellsS (mid blk m)) 37 (0, 0))) ∧ Aside0 (Below w.heap.size w wr) ∧ Aside0 (i = (kq : Int) - 1 ∧ kq ≤ 8 ∧ xs = X1 ++ (len8 m.length).take (8 - kq)))
        case atStart => exact ⟨7, A, c, xs, rfl, rfl, HRr, BKq, HBr, ⟨rfl, Nat.le_refl _, by rw [HX1x.out]; simp⟩⟩
        case round =>
          clear HRr BKq HBr HX1x HXS HLEN
          obtain ⟨i, A, c, xs, rfl, rfl, HRr, BKq, HBr, HJ⟩ := hrel
          have hcases : gk = 0 ∨ gk = 1 ∨ gk = 2 ∨ gk = 3 ∨ gk = 4 ∨ gk = 5 ∨ gk = 6 ∨ gk = 7 ∨ gk = 8 := by have := HJ.out.2.1; omega
          rcases hcases with rfl | rfl | rfl | rfl | rfl | rfl | rfl | rfl | rfl
          · obtain rfl : i = -1 := by have := HJ.out.1; omega
            go_wp2
            obtain ⟨T, hT⟩ : ∃ X : List Int, xs = X := ⟨_, rfl⟩
            have hT2 : T = left m ++ pad m.length := by rw [← hT, HJ.out.2.2, HX1.out, len8_all]; simp [pad]
            have HT2 := Aside0.mk hT2
            have HTx := Aside0.mk hT
            clear hT hT2
            have HFx := Aside0.mk (Kd.V_F (Kd.R_V (base' := w.heap.size) (Kd.R_mono (Kd.R_types HRr.out BKq.out (by decide)) (ok' := fun k => k ≠ p) (fun k hk => hk.2))))
            have HLC := Aside0.mk (Kd.R_reads' HRr.out).2.1
            go_loopg [4] T.length (fun kq v4 wr => ∃ (A : Option Addr) (c : Nat) (h xs : List Int), v4 = .slice A xs.length c ∧ Aside0 (xs.length ≤ c) ∧ Aside0 (xs.length ≤ kq) ∧ Aside0 (Kd.F (Kd.int .u8) wr (fun k => k ≠ p) A xs.length xs) ∧ Aside0 (wr.heap[p]? = some (.cells (cellsS h) 37 (0, 0))) ∧ Aside0 (Below w.heap.size w wr) ∧ Aside0 (Good h ∧ Bytes xs ∧ xs.length % 64 = 0 ∧ Sha.runN blk (xs.length / 64) h xs = Sha.runN blk (T.length / 64) (mid blk m) T))
            case atStart =>
              refine ⟨A, c, mid blk m, xs, rfl, HLC, ⟨?_⟩, HFx, BKq, HBr, ⟨mid_good hb m, ?_, ?_, ?_⟩⟩
              · rw [HTx.out]; exact Nat.le_refl _
              · rw [HTx.out, HT2.out]; exact (HMB.out.drop _).append (pad_bytes _)
              · rw [HTx.out, HT2.out]; exact tail_whole m
              · rw [HTx.out]
            case round =>
              clear HRr BKq HBr HJ HTx HFx HLC
              obtain ⟨A, c, h, xs, rfl, HXC, HXK, HF, BK2, HB2, HI⟩ := hrel
              by_cases hlt : 64 ≤ xs.length
              · have t1 : decide (0 < xs.length) = true := decide_eq_true (by omega)
                have t2 : decide ((0 : Int) < (xs.length : Int)) = true := decide_eq_true (by omega)
                have t3 : ¬ xs = [] := fun e => by rw [e] at hlt; simp at hlt
                have t4 : 0 < xs.length := by omega
                have HLT := Aside0.mk hlt
                clear hlt
                have hs1 := take64 A c xs HLT.out HXC.out
                obtain ⟨A', hs2, hA'⟩ := cut64 A c xs HLT.out HXC.out
                have HA' := Aside0.mk hA'
                clear hA'
                have HT := Aside0.mk (show (xs.take 64).length = 64 by rw [List.length_take]; have := HLT.out; omega)
                go_wp2
                have HFr := Aside0.mk (Kd.F_drew HF.out)
                have BKr := Aside0.mk (blk_drew BK2.out)
                have HBd := Aside0.mk HB2.out.drew
                have HCt := Aside0.mk (Kd.F_now (Kd.F_take HFr.out HLT.out))
                obtain ⟨c0, c1, c2, c3, c4, c5, c6, c7, f0, f1, f2, f3, f4, f5, f6, f7⟩ := blk_facts8 BKr.out
                refine start_ (n := 5) (S := fun w' => w'.cell? ⟨p, 0, none⟩ = some (.int .u32 (wd h 0)) ∧ w'.cell? ⟨p, 1, none⟩ = some (.int .u32 (wd h 1)) ∧ w'.cell? ⟨p, 2, none⟩ = some (.int .u32 (wd h 2)) ∧ w'.cell? ⟨p, 3, none⟩ = some (.int .u32 (wd h 3)) ∧ w'.cell? ⟨p, 4, none⟩ = some (.int .u32 (wd h 4)) ∧ w'.cell? ⟨p, 5, none⟩ = some (.int .u32 (wd h 5)) ∧ w'.cell? ⟨p, 6, none⟩ = some (.int .u32 (wd h 6)) ∧ w'.cell? ⟨p, 7, none⟩ = some (.int .u32 (wd h 7))) (ds := [3, 4]) #[false, false, false, false, false] (by kernel_rfl) rfl rfl ⟨c0, c1, c2, c3, c4, c5, c6, c7⟩ (fun hHeld => ?_)
                generalize wr.drew = w4 at HFr BKr HBd HCt hHeld c0 c1 c2 c3 c4 c5 c6 c7 f0 f1 f2 f3 f4 f5 f6 f7 ⊢
                refine pure_ (i := 1) (N := some 63) (v := ?_) (a' := ?_) #[false, true, false, false, false] rfl rfl (by kernel_rfl) (fun _ _ _ h => h) (Or.inl ⟨by rfl, ?_⟩) ?_ ?_
                rotate_left; (intro w'; go_simp; with_reducible rfl); rotate_left; (simp only [Act.put, List.setIfInBounds_toArray, List.set_cons_zero, List.set_cons_succ, i64_w, i32_w]; rfl)
                refine pure_ (i := 2) (N := some 64) (v := ?_) (a' := ?_) #[false, true, true, false, false] rfl rfl (by kernel_rfl) (fun _ _ _ h => h) (Or.inl ⟨by rfl, ?_⟩) ?_ ?_
                rotate_left; (intro w'; go_simp; with_reducible rfl); rotate_left; (simp only [Act.put, List.setIfInBounds_toArray, List.set_cons_zero, List.set_cons_succ, i64_w, i32_w]; rfl)
                refine take_ (i := 0) (N := some 62) (v := ?_) (a' := ?_) #[true, true, true, false, false] rfl rfl (by kernel_rfl) (fun _ _ _ h => h) (Or.inl ⟨by rfl, ?_⟩) hHeld ?_ ?_
                rotate_left; (rintro w' ⟨s0, s1, s2, s3, s4, s5, s6, s7⟩; go_simp; with_reducible rfl); rotate_left; (simp only [Act.put, List.setIfInBounds_toArray, List.set_cons_zero, List.set_cons_succ, i64_w, i32_w]; rfl)
                refine last_ (i := 3) (N := some 65) #[true, true, true, true, false] rfl rfl (by kernel_rfl) (by decide) (fun K hK => ?_)
                refine goes_ Try.func24 (by kernel_rfl) rfl #[.agg #[.int .u32 (wd h 0), .int .u32 (wd h 1), .int .u32 (wd h 2), .int .u32 (wd h 3), .int .u32 (wd h 4), .int .u32 (wd h 5), .int .u32 (wd h 6), .int .u32 (wd h 7)], .slice A 64 c] (by rfl) rfl rfl (by (try simp only [List.map_toArray, List.map_cons, List.map_nil]); first | done | rfl) ?_
                with_reducible refine (block_calls hb h (xs.take 64) HI.out.1 HT.out (HI.out.2.1.take 64) A c _ HCt.out (by rw [HT.out]; have := HXC.out; have := HLT.out; omega)).mono ?_
                rintro e w3 ⟨rfl, hb3⟩
                refine ⟨_, rfl, ?_⟩
                refine hK.out _ _ ?_
                clear hK K
                refine norm_ (a' := ?_) ?_ ?_
                rotate_left
                · show Act.put _ (some 65) _ = _
                  simp only [Act.put, List.setIfInBounds_toArray, List.set_cons_zero, List.set_cons_succ, i64_w, i32_w]
                  rfl
                have BK3 := Aside0.mk ((hb3.block p (blk_lt BKr.out)).trans BKr.out)
                have HB3 := Aside0.mk (below_step HBd.out hb3)
                have HF3 := Aside0.mk (Kd.F_below HFr.out hb3)
                clear hb3 hHeld c0 c1 c2 c3 c4 c5 c6 c7 f0 f1 f2 f3 f4 f5 f6 f7
                obtain ⟨c0, c1, c2, c3, c4, c5, c6, c7, f0, f1, f2, f3, f4, f5, f6, f7⟩ := blk_facts8 BK3.out
                refine last_ (i := 4) (N := none) #[true, true, true, true, true] rfl rfl (by kernel_rfl) (by decide) (fun K hK => ?_)
                refine skip_ (w1 := ?_) (by rfl) rfl ?_ ?_
                rotate_left
                · go_simp
                  rfl
                refine hK.out _ _ ?_
                clear hK K
                refine done_ (by kernel_rfl) ?_
                go_wp2
                go_roundg (xs.length - 64)
                case measure => have := HXK.out; have := HLT.out; omega
                case rel =>
                  refine ⟨A', c - 64, blk h (xs.take 64), xs.drop 64, by rw [List.length_drop], ⟨?_⟩, ⟨?_⟩, ⟨?_⟩, ⟨?_⟩, ⟨?_⟩, ⟨hb.good _ _ HI.out.1, HI.out.2.1.drop 64, ?_, ?_⟩⟩
                  · rw [List.length_drop]; have := HXC.out; omega
                  · rw [List.length_drop]; exact Nat.le_refl _
                  · exact HA'.out _ _ (F_put8 HF3.out _ _ _ _ _ _ _ _)
                  · exact put8_blk8 BK3.out _ _ _ _ _ _ _ _
                  · exact put8_below HB3.out GE.out _ _ _ _ _ _ _ _
                  · rw [List.length_drop]; have := HI.out.2.2.1; have := HLT.out; omega
                  · rw [← run_step h xs HLT.out]; exact HI.out.2.2.2
              · obtain rfl : xs = [] := List.eq_nil_of_length_eq_zero (by have := HI.out.2.2.1; omega)
                clear hlt
                obtain ⟨c0, c1, c2, c3, c4, c5, c6, c7, f0, f1, f2, f3, f4, f5, f6, f7⟩ := blk_facts8 BK2.out
                go_wp2
                have hfin := HI.out.2.2.2
                have HG := Aside0.mk HI.out.1
                have HFin := Aside0.mk (show Sha.sha blk m = Sha.out h by rw [sha_left, ← HT2.out, ← hfin]; rfl)
                clear hfin
                clear c0 c1 c2 c3 c4 c5 c6 c7 f0 f1 f2 f3 f4 f5 f6 f7
                go_loopg [7, 69] 8 (fun kq v7 v69 wr => ∃ (i : Int) (A : Option Addr) (c : Nat) (xs : List Int), v69 = .int .i64 i ∧ v7 = .slice A xs.length c ∧ Aside0 ((Kd.int .u8).R 5 wr w.heap.size (fun _ => True) (.slice A xs.length c) xs) ∧ Aside0 (Below w.heap.size w wr) ∧ Aside0 (i = 8 - (kq : Int) ∧ kq ≤ 8 ∧ xs = outN h (8 - kq)))
                case atStart => exact ⟨0, none, 0, [], rfl, rfl, ⟨Kd.R_nil _ _ _ _ _⟩, HB2, ⟨rfl, Nat.le_refl _, rfl⟩⟩
                case round =>
                  clear HF BK2 HB2
                  obtain ⟨i, A, c, xs, rfl, rfl, HRr, HBr, HJ⟩ := hrel
                  have hcases : gk = 0 ∨ gk = 1 ∨ gk = 2 ∨ gk = 3 ∨ gk = 4 ∨ gk = 5 ∨ gk = 6 ∨ gk = 7 ∨ gk = 8 := by have := HJ.out.2.1; omega
                  rcases hcases with rfl | rfl | rfl | rfl | rfl | rfl | rfl | rfl | rfl
                  · obtain rfl : i = 8 := by have := HJ.out.1; omega
                    have hcv := own_string (P := Try.prog) Try.underlying28 Try.underlying5 Try.underlying9 (Kd.own_of_R HRr.out)
                    go_wp2
                    go_ret
                    exact ⟨ret_str (by rw [HFin.out, ← outN_all h HG.out.1, HJ.out.2.2]), HBr.out⟩
                  · obtain rfl : i = 7 := by have := HJ.out.1; omega
                    have HXL := Aside0.mk (show xs.length ≤ 1000 by rw [HJ.out.2.2, outN_len]; omega)
                    have hix : ∀ W : World, (Instr.index 37 (.agg #[.int .u32 (wd h 0), .int .u32 (wd h 1), .int .u32 (wd h 2), .int .u32 (wd h 3), .int .u32 (wd h 4), .int .u32 (wd h 5), .int .u32 (wd h 6), .int .u32 (wd h 7)]) (.int .i64 7)).run Try.prog W = .ok (.int .u32 (wd h 7)) W := fun _ => rfl
                    go_wp2_with (first
                      | ((with_reducible refine gate_dst (N := 84) rfl ?_); refine Kd.R_lit (Kd.int .u8) _ 5 ?hg (N := 84) ?hd (xs := ([wd h 7 / 16777216 % 256, wd h 7 / 65536 % 256, wd h 7 / 256 % 256, wd h 7 % 256] : List Int)) (inner := [.int .u8 (wd h 7 / 16777216 % 256), .int .u8 (wd h 7 / 65536 % 256), .int .u8 (wd h 7 / 256 % 256), .int .u8 (wd h 7 % 256)]) (ok := fun _ => True) (okp := fun _ => True) ?hr ?hp (fun _ hk => hk) trivial (Below.refl _ _) (Nat.le_refl _) (by simp) ?_; (case hd => rfl); (case hg => rfl); (case hr => first | (go_simp; done) | (go_simp; rfl)); (case hp => exact (Reps.one (show Kd.M (Kd.int .u8) _ _ _ (wd h 7 / 16777216 % 256) [.int .u8 (wd h 7 / 16777216 % 256)] from rfl) (Reps.one (show Kd.M (Kd.int .u8) _ _ _ (wd h 7 / 65536 % 256) [.int .u8 (wd h 7 / 65536 % 256)] from rfl) (Reps.one (show Kd.M (Kd.int .u8) _ _ _ (wd h 7 / 256 % 256) [.int .u8 (wd h 7 / 256 % 256)] from rfl) (Reps.one (show Kd.M (Kd.int .u8) _ _ _ (wd h 7 % 256) [.int .u8 (wd h 7 % 256)] from rfl) (Reps.none _ _)))))); intro vl wl hol hbl hg_ hnew_; clear hg_ hnew_; obtain ⟨Y, hY⟩ : ∃ Y : List Int, [wd h 7 / 16777216 % 256, wd h 7 / 65536 % 256, wd h 7 / 256 % 256, wd h 7 % 256] = Y := ⟨_, rfl⟩; have HY := Aside0.mk hY; rw [hY] at hol; clear hY; have HRl := Aside0.mk (Kd.R_below HRr.out hbl); have HBl := Aside0.mk (below_step HBr.out hbl); have HOl := Aside0.mk hol; clear hol hbl; obtain ⟨Al, cl, el⟩ := Kd.R_slice HOl.out; subst el)
                      | ((with_reducible refine gate_builtin (b := .append) (xs := #[.tmp 72, .tmp 84]) rfl ?_); at_builtin; refine Kd.R_append_row (Value.int .u8) (0 : Int) (h1 := fun _ => rfl) (w0 := w) w.heap.size rfl (.tmp 72) (.tmp 84) 28 5 (.int .u8 0) 1 rfl Try.underlying28 Q.info5 rfl (by decide) (.slice A xs.length c) xs Y Al Y.length cl (fun _ => True) rfl rfl (fun _ _ => trivial) HRl.out (Kd.R_reads' HOl.out).2.2 HBl.out HBl.out.size ?hl ?_; (case hl => have := HXL.out; rw [← HY.out]; simp; omega); intro v3 w3 hr hbl hg hat; have hex := Kd.R_slice hr; obtain ⟨A3, k3, hv⟩ := hex; rw [hv] at hr; rw [hv]; have HR3 := Aside0.mk hr; have HB3 := Aside0.mk hbl; clear hr hbl hg hat hv))
                    go_roundg 0
                    case measure => decide
                    case rel =>
                      refine ⟨8, A3, k3, xs ++ Y, rfl, by first | rfl | simp, HR3, HB3, ⟨rfl, by decide, ?_⟩⟩
                      rw [HJ.out.2.2, ← HY.out]; exact (outN_succ h 7).symm
                  · obtain rfl : i = 6 := by have := HJ.out.1; omega
                    have HXL := Aside0.mk (show xs.length ≤ 1000 by rw [HJ.out.2.2, outN_len]; omega)
                    have hix : ∀ W : World, (Instr.index 37 (.agg #[.int .u32 (wd h 0), .int .u32 (wd h 1), .int .u32 (wd h 2), .int .u32 (wd h 3), .int .u32 (wd h 4), .int .u32 (wd h 5), .int .u32 (wd h 6), .int .u32 (wd h 7)]) (.int .i64 6)).run Try.prog W = .ok (.int .u32 (wd h 6)) W := fun _ => rfl
                    go_wp2_with (first
                      | ((with_reducible refine gate_dst (N := 84) rfl ?_); refine Kd.R_lit (Kd.int .u8) _ 5 ?hg (N := 84) ?hd (xs := ([wd h 6 / 16777216 % 256, wd h 6 / 65536 % 256, wd h 6 / 256 % 256, wd h 6 % 256] : List Int)) (inner := [.int .u8 (wd h 6 / 16777216 % 256), .int .u8 (wd h 6 / 65536 % 256), .int .u8 (wd h 6 / 256 % 256), .int .u8 (wd h 6 % 256)]) (ok := fun _ => True) (okp := fun _ => True) ?hr ?hp (fun _ hk => hk) trivial (Below.refl _ _) (Nat.le_refl _) (by simp) ?_; (case hd => rfl); (case hg => rfl); (case hr => first | (go_simp; done) | (go_simp; rfl)); (case hp => exact (Reps.one (show Kd.M (Kd.int .u8) _ _ _ (wd h 6 / 16777216 % 256) [.int .u8 (wd h 6 / 16777216 % 256)] from rfl) (Reps.one (show Kd.M (Kd.int .u8) _ _ _ (wd h 6 / 65536 % 256) [.int .u8 (wd h 6 / 65536 % 256)] from rfl) (Reps.one (show Kd.M (Kd.int .u8) _ _ _ (wd h 6 / 256 % 256) [.int .u8 (wd h 6 / 256 % 256)] from rfl) (Reps.one (show Kd.M (Kd.int .u8) _ _ _ (wd h 6 % 256) [.int .u8 (wd h 6 % 256)] from rfl) (Reps.none _ _)))))); intro vl wl hol hbl hg_ hnew_; clear hg_ hnew_; obtain ⟨Y, hY⟩ : ∃ Y : List Int, [wd h 6 / 16777216 % 256, wd h 6 / 65536 % 256, wd h 6 / 256 % 256, wd h 6 % 256] = Y := ⟨_, rfl⟩; have HY := Aside0.mk hY; rw [hY] at hol; clear hY; have HRl := Aside0.mk (Kd.R_below HRr.out hbl); have HBl := Aside0.mk (below_step HBr.out hbl); have HOl := Aside0.mk hol; clear hol hbl; obtain ⟨Al, cl, el⟩ := Kd.R_slice HOl.out; subst el)
                      | ((with_reducible refine gate_builtin (b := .append) (xs := #[.tmp 72, .tmp 84]) rfl ?_); at_builtin; refine Kd.R_append_row (Value.int .u8) (0 : Int) (h1 := fun _ => rfl) (w0 := w) w.heap.size rfl (.tmp 72) (.tmp 84) 28 5 (.int .u8 0) 1 rfl Try.underlying28 Q.info5 rfl (by decide) (.slice A xs.length c) xs Y Al Y.length cl (fun _ => True) rfl rfl (fun _ _ => trivial) HRl.out (Kd.R_reads' HOl.out).2.2 HBl.out HBl.out.size ?hl ?_; (case hl => have := HXL.out; rw [← HY.out]; simp; omega); intro v3 w3 hr hbl hg hat; have hex := Kd.R_slice hr; obtain ⟨A3, k3, hv⟩ := hex; rw [hv] at hr; rw [hv]; have HR3 := Aside0.mk hr; have HB3 := Aside0.mk hbl; clear hr hbl hg hat hv))
                    go_roundg 1
                    case measure => decide
                    case rel =>
                      refine ⟨7, A3, k3, xs ++ Y, rfl, by first | rfl | simp, HR3, HB3, ⟨rfl, by decide, ?_⟩⟩
                      rw [HJ.out.2.2, ← HY.out]; exact (outN_succ h 6).symm
                  · obtain rfl : i = 5 := by have := HJ.out.1; omega
                    have HXL := Aside0.mk (show xs.length ≤ 1000 by rw [HJ.out.2.2, outN_len]; omega)
                    have hix : ∀ W : World, (Instr.index 37 (.agg #[.int .u32 (wd h 0), .int .u32 (wd h 1), .int .u32 (wd h 2), .int .u32 (wd h 3), .int .u32 (wd h 4), .int .u32 (wd h 5), .int .u32 (wd h 6), .int .u32 (wd h 7)]) (.int .i64 5)).run Try.prog W = .ok (.int .u32 (wd h 5)) W := fun _ => rfl
                    go_wp2_with (first
                      | ((with_reducible refine gate_dst (N := 84) rfl ?_); refine Kd.R_lit (Kd.int .u8) _ 5 ?hg (N := 84) ?hd (xs := ([wd h 5 / 16777216 % 256, wd h 5 / 65536 % 256, wd h 5 / 256 % 256, wd h 5 % 256] : List Int)) (inner := [.int .u8 (wd h 5 / 16777216 % 256), .int .u8 (wd h 5 / 65536 % 256), .int .u8 (wd h 5 / 256 % 256), .int .u8 (wd h 5 % 256)]) (ok := fun _ => True) (okp := fun _ => True) ?hr ?hp (fun _ hk => hk) trivial (Below.refl _ _) (Nat.le_refl _) (by simp) ?_; (case hd => rfl); (case hg => rfl); (case hr => first | (go_simp; done) | (go_simp; rfl)); (case hp => exact (Reps.one (show Kd.M (Kd.int .u8) _ _ _ (wd h 5 / 16777216 % 256) [.int .u8 (wd h 5 / 16777216 % 256)] from rfl) (Reps.one (show Kd.M (Kd.int .u8) _ _ _ (wd h 5 / 65536 % 256) [.int .u8 (wd h 5 / 65536 % 256)] from rfl) (Reps.one (show Kd.M (Kd.int .u8) _ _ _ (wd h 5 / 256 % 256) [.int .u8 (wd h 5 / 256 % 256)] from rfl) (Reps.one (show Kd.M (Kd.int .u8) _ _ _ (wd h 5 % 256) [.int .u8 (wd h 5 % 256)] from rfl) (Reps.none _ _)))))); intro vl wl hol hbl hg_ hnew_; clear hg_ hnew_; obtain ⟨Y, hY⟩ : ∃ Y : List Int, [wd h 5 / 16777216 % 256, wd h 5 / 65536 % 256, wd h 5 / 256 % 256, wd h 5 % 256] = Y := ⟨_, rfl⟩; have HY := Aside0.mk hY; rw [hY] at hol; clear hY; have HRl := Aside0.mk (Kd.R_below HRr.out hbl); have HBl := Aside0.mk (below_step HBr.out hbl); have HOl := Aside0.mk hol; clear hol hbl; obtain ⟨Al, cl, el⟩ := Kd.R_slice HOl.out; subst el)
                      | ((with_reducible refine gate_builtin (b := .append) (xs := #[.tmp 72, .tmp 84]) rfl ?_); at_builtin; refine Kd.R_append_row (Value.int .u8) (0 : Int) (h1 := fun _ => rfl) (w0 := w) w.heap.size rfl (.tmp 72) (.tmp 84) 28 5 (.int .u8 0) 1 rfl Try.underlying28 Q.info5 rfl (by decide) (.slice A xs.length c) xs Y Al Y.length cl (fun _ => True) rfl rfl (fun _ _ => trivial) HRl.out (Kd.R_reads' HOl.out).2.2 HBl.out HBl.out.size ?hl ?_; (case hl => have := HXL.out; rw [← HY.out]; simp; omega); intro v3 w3 hr hbl hg hat; have hex := Kd.R_slice hr; obtain ⟨A3, k3, hv⟩ := hex; rw [hv] at hr; rw [hv]; have HR3 := Aside0.mk hr; have HB3 := Aside0.mk hbl; clear hr hbl hg hat hv))
                    go_roundg 2
                    case measure => decide
                    case rel =>
                      refine ⟨6, A3, k3, xs ++ Y, rfl, by first | rfl | simp, HR3, HB3, ⟨rfl, by decide, ?_⟩⟩
                      rw [HJ.out.2.2, ← HY.out]; exact (outN_succ h 5).symm
                  · obtain rfl : i = 4 := by have := HJ.out.1; omega
                    have HXL := Aside0.mk (show xs.length ≤ 1000 by rw [HJ.out.2.2, outN_len]; omega)
                    have hix : ∀ W : World, (Instr.index 37 (.agg #[.int .u32 (wd h 0), .int .u32 (wd h 1), .int .u32 (wd h 2), .int .u32 (wd h 3), .int .u32 (wd h 4), .int .u32 (wd h 5), .int .u32 (wd h 6), .int .u32 (wd h 7)]) (.int .i64 4)).run Try.prog W = .ok (.int .u32 (wd h 4)) W := fun _ => rfl
                    go_wp2_with (first
                      | ((with_reducible refine gate_dst (N := 84) rfl ?_); refine Kd.R_lit (Kd.int .u8) _ 5 ?hg (N := 84) ?hd (xs := ([wd h 4 / 16777216 % 256, wd h 4 / 65536 % 256, wd h 4 / 256 % 256, wd h 4 % 256] : List Int)) (inner := [.int .u8 (wd h 4 / 16777216 % 256), .int .u8 (wd h 4 / 65536 % 256), .int .u8 (wd h 4 / 256 % 256), .int .u8 (wd h 4 % 256)]) (ok := fun _ => True) (okp := fun _ => True) ?hr ?hp (fun _ hk => hk) trivial (Below.refl _ _) (Nat.le_refl _) (by simp) ?_; (case hd => rfl); (case hg => rfl); (case hr => first | (go_simp; done) | (go_simp; rfl)); (case hp => exact (Reps.one (show Kd.M (Kd.int .u8) _ _ _ (wd h 4 / 16777216 % 256) [.int .u8 (wd h 4 / 16777216 % 256)] from rfl) (Reps.one (show Kd.M (Kd.int .u8) _ _ _ (wd h 4 / 65536 % 256) [.int .u8 (wd h 4 / 65536 % 256)] from rfl) (Reps.one (show Kd.M (Kd.int .u8) _ _ _ (wd h 4 / 256 % 256) [.int .u8 (wd h 4 / 256 % 256)] from rfl) (Reps.one (show Kd.M (Kd.int .u8) _ _ _ (wd h 4 % 256) [.int .u8 (wd h 4 % 256)] from rfl) (Reps.none _ _)))))); intro vl wl hol hbl hg_ hnew_; clear hg_ hnew_; obtain ⟨Y, hY⟩ : ∃ Y : List Int, [wd h 4 / 16777216 % 256, wd h 4 / 65536 % 256, wd h 4 / 256 % 256, wd h 4 % 256] = Y := ⟨_, rfl⟩; have HY := Aside0.mk hY; rw [hY] at hol; clear hY; have HRl := Aside0.mk (Kd.R_below HRr.out hbl); have HBl := Aside0.mk (below_step HBr.out hbl); have HOl := Aside0.mk hol; clear hol hbl; obtain ⟨Al, cl, el⟩ := Kd.R_slice HOl.out; subst el)
                      | ((with_reducible refine gate_builtin (b := .append) (xs := #[.tmp 72, .tmp 84]) rfl ?_); at_builtin; refine Kd.R_append_row (Value.int .u8) (0 : Int) (h1 := fun _ => rfl) (w0 := w) w.heap.size rfl (.tmp 72) (.tmp 84) 28 5 (.int .u8 0) 1 rfl Try.underlying28 Q.info5 rfl (by decide) (.slice A xs.length c) xs Y Al Y.length cl (fun _ => True) rfl rfl (fun _ _ => trivial) HRl.out (Kd.R_reads' HOl.out).2.2 HBl.out HBl.out.size ?hl ?_; (case hl => have := HXL.out; rw [← HY.out]; simp; omega); intro v3 w3 hr hbl hg hat; have hex := Kd.R_slice hr; obtain ⟨A3, k3, hv⟩ := hex; rw [hv] at hr; rw [hv]; have HR3 := Aside0.mk hr; have HB3 := Aside0.mk hbl; clear hr hbl hg hat hv))
                    go_roundg 3
                    case measure => decide
                    case rel =>
                      refine ⟨5, A3, k3, xs ++ Y, rfl, by first | rfl | simp, HR3, HB3, ⟨rfl, by decide, ?_⟩⟩
                      rw [HJ.out.2.2, ← HY.out]; exact (outN_succ h 4).symm
                  · obtain rfl : i = 3 := by have := HJ.out.1; omega
                    have HXL := Aside0.mk (show xs.length ≤ 1000 by rw [HJ.out.2.2, outN_len]; omega)
                    have hix : ∀ W : World, (Instr.index 37 (.agg #[.int .u32 (wd h 0), .int .u32 (wd h 1), .int .u32 (wd h 2), .int .u32 (wd h 3), .int .u32 (wd h 4), .int .u32 (wd h 5), .int .u32 (wd h 6), .int .u32 (wd h 7)]) (.int .i64 3)).run Try.prog W = .ok (.int .u32 (wd h 3)) W := fun _ => rfl
                    go_wp2_with (first
                      | ((with_reducible refine gate_dst (N := 84) rfl ?_); refine Kd.R_lit (Kd.int .u8) _ 5 ?hg (N := 84) ?hd (xs := ([wd h 3 / 16777216 % 256, wd h 3 / 65536 % 256, wd h 3 / 256 % 256, wd h 3 % 256] : List Int)) (inner := [.int .u8 (wd h 3 / 16777216 % 256), .int .u8 (wd h 3 / 65536 % 256), .int .u8 (wd h 3 / 256 % 256), .int .u8 (wd h 3 % 256)]) (ok := fun _ => True) (okp := fun _ => True) ?hr ?hp (fun _ hk => hk) trivial (Below.refl _ _) (Nat.le_refl _) (by simp) ?_; (case hd => rfl); (case hg => rfl); (case hr => first | (go_simp; done) | (go_simp; rfl)); (case hp => exact (Reps.one (show Kd.M (Kd.int .u8) _ _ _ (wd h 3 / 16777216 % 256) [.int .u8 (wd h 3 / 16777216 % 256)] from rfl) (Reps.one (show Kd.M (Kd.int .u8) _ _ _ (wd h 3 / 65536 % 256) [.int .u8 (wd h 3 / 65536 % 256)] from rfl) (Reps.one (show Kd.M (Kd.int .u8) _ _ _ (wd h 3 / 256 % 256) [.int .u8 (wd h 3 / 256 % 256)] from rfl) (Reps.one (show Kd.M (Kd.int .u8) _ _ _ (wd h 3 % 256) [.int .u8 (wd h 3 % 256)] from rfl) (Reps.none _ _)))))); intro vl wl hol hbl hg_ hnew_; clear hg_ hnew_; obtain ⟨Y, hY⟩ : ∃ Y : List Int, [wd h 3 / 16777216 % 256, wd h 3 / 65536 % 256, wd h 3 / 256 % 256, wd h 3 % 256] = Y := ⟨_, rfl⟩; have HY := Aside0.mk hY; rw [hY] at hol; clear hY; have HRl := Aside0.mk (Kd.R_below HRr.out hbl); have HBl := Aside0.mk (below_step HBr.out hbl); have HOl := Aside0.mk hol; clear hol hbl; obtain ⟨Al, cl, el⟩ := Kd.R_slice HOl.out; subst el)
                      | ((with_reducible refine gate_builtin (b := .append) (xs := #[.tmp 72, .tmp 84]) rfl ?_); at_builtin; refine Kd.R_append_row (Value.int .u8) (0 : Int) (h1 := fun _ => rfl) (w0 := w) w.heap.size rfl (.tmp 72) (.tmp 84) 28 5 (.int .u8 0) 1 rfl Try.underlying28 Q.info5 rfl (by decide) (.slice A xs.length c) xs Y Al Y.length cl (fun _ => True) rfl rfl (fun _ _ => trivial) HRl.out (Kd.R_reads' HOl.out).2.2 HBl.out HBl.out.size ?hl ?_; (case hl => have := HXL.out; rw [← HY.out]; simp; omega); intro v3 w3 hr hbl hg hat; have hex := Kd.R_slice hr; obtain ⟨A3, k3, hv⟩ := hex; rw [hv] at hr; rw [hv]; have HR3 := Aside0.mk hr; have HB3 := Aside0.mk hbl; clear hr hbl hg hat hv))
                    go_roundg 4
                    case measure => decide
                    case rel =>
                      refine ⟨4, A3, k3, xs ++ Y, rfl, by first | rfl | simp, HR3, HB3, ⟨rfl, by decide, ?_⟩⟩
                      rw [HJ.out.2.2, ← HY.out]; exact (outN_succ h 3).symm
                  · obtain rfl : i = 2 := by have := HJ.out.1; omega
                    have HXL := Aside0.mk (show xs.length ≤ 1000 by rw [HJ.out.2.2, outN_len]; omega)
                    have hix : ∀ W : World, (Instr.index 37 (.agg #[.int .u32 (wd h 0), .int .u32 (wd h 1), .int .u32 (wd h 2), .int .u32 (wd h 3), .int .u32 (wd h 4), .int .u32 (wd h 5), .int .u32 (wd h 6), .int .u32 (wd h 7)]) (.int .i64 2)).run Try.prog W = .ok (.int .u32 (wd h 2)) W := fun _ => rfl
                    go_wp2_with (first
                      | ((with_reducible refine gate_dst (N := 84) rfl ?_); refine Kd.R_lit (Kd.int .u8) _ 5 ?hg (N := 84) ?hd (xs := ([wd h 2 / 16777216 % 256, wd h 2 / 65536 % 256, wd h 2 / 256 % 256, wd h 2 % 256] : List Int)) (inner := [.int .u8 (wd h 2 / 16777216 % 256), .int .u8 (wd h 2 / 65536 % 256), .int .u8 (wd h 2 / 256 % 256), .int .u8 (wd h 2 % 256)]) (ok := fun _ => True) (okp := fun _ => True) ?hr ?hp (fun _ hk => hk) trivial (Below.refl _ _) (Nat.le_refl _) (by simp) ?_; (case hd => rfl); (case hg => rfl); (case hr => first | (go_simp; done) | (go_simp; rfl)); (case hp => exact (Reps.one (show Kd.M (Kd.int .u8) _ _ _ (wd h 2 / 16777216 % 256) [.int .u8 (wd h 2 / 16777216 % 256)] from rfl) (Reps.one (show Kd.M (Kd.int .u8) _ _ _ (wd h 2 / 65536 % 256) [.int .u8 (wd h 2 / 65536 % 256)] from rfl) (Reps.one (show Kd.M (Kd.int .u8) _ _ _ (wd h 2 / 256 % 256) [.int .u8 (wd h 2 / 256 % 256)] from rfl) (Reps.one (show Kd.M (Kd.int .u8) _ _ _ (wd h 2 % 256) [.int .u8 (wd h 2 % 256)] from rfl) (Reps.none _ _)))))); intro vl wl hol hbl hg_ hnew_; clear hg_ hnew_; obtain ⟨Y, hY⟩ : ∃ Y : List Int, [wd h 2 / 16777216 % 256, wd h 2 / 65536 % 256, wd h 2 / 256 % 256, wd h 2 % 256] = Y := ⟨_, rfl⟩; have HY := Aside0.mk hY; rw [hY] at hol; clear hY; have HRl := Aside0.mk (Kd.R_below HRr.out hbl); have HBl := Aside0.mk (below_step HBr.out hbl); have HOl := Aside0.mk hol; clear hol hbl; obtain ⟨Al, cl, el⟩ := Kd.R_slice HOl.out; subst el)
                      | ((with_reducible refine gate_builtin (b := .append) (xs := #[.tmp 72, .tmp 84]) rfl ?_); at_builtin; refine Kd.R_append_row (Value.int .u8) (0 : Int) (h1 := fun _ => rfl) (w0 := w) w.heap.size rfl (.tmp 72) (.tmp 84) 28 5 (.int .u8 0) 1 rfl Try.underlying28 Q.info5 rfl (by decide) (.slice A xs.length c) xs Y Al Y.length cl (fun _ => True) rfl rfl (fun _ _ => trivial) HRl.out (Kd.R_reads' HOl.out).2.2 HBl.out HBl.out.size ?hl ?_; (case hl => have := HXL.out; rw [← HY.out]; simp; omega); intro v3 w3 hr hbl hg hat; have hex := Kd.R_slice hr; obtain ⟨A3, k3, hv⟩ := hex; rw [hv] at hr; rw [hv]; have HR3 := Aside0.mk hr; have HB3 := Aside0.mk hbl; clear hr hbl hg hat hv))
                    go_roundg 5
                    case measure => decide
                    case rel =>
                      refine ⟨3, A3, k3, xs ++ Y, rfl, by first | rfl | simp, HR3, HB3, ⟨rfl, by decide, ?_⟩⟩
                      rw [HJ.out.2.2, ← HY.out]; exact (outN_succ h 2).symm
                  · obtain rfl : i = 1 := by have := HJ.out.1; omega
                    have HXL := Aside0.mk (show xs.length ≤ 1000 by rw [HJ.out.2.2, outN_len]; omega)
                    have hix : ∀ W : World, (Instr.index 37 (.agg #[.int .u32 (wd h 0), .int .u32 (wd h 1), .int .u32 (wd h 2), .int .u32 (wd h 3), .int .u32 (wd h 4), .int .u32 (wd h 5), .int .u32 (wd h 6), .int .u32 (wd h 7)]) (.int .i64 1)).run Try.prog W = .ok (.int .u32 (wd h 1)) W := fun _ => rfl
                    go_wp2_with (first
                      | ((with_reducible refine gate_dst (N := 84) rfl ?_); refine Kd.R_lit (Kd.int .u8) _ 5 ?hg (N := 84) ?hd (xs := ([wd h 1 / 16777216 % 256, wd h 1 / 65536 % 256, wd h 1 / 256 % 256, wd h 1 % 256] : List Int)) (inner := [.int .u8 (wd h 1 / 16777216 % 256), .int .u8 (wd h 1 / 65536 % 256), .int .u8 (wd h 1 / 256 % 256), .int .u8 (wd h 1 % 256)]) (ok := fun _ => True) (okp := fun _ => True) ?hr ?hp (fun _ hk => hk) trivial (Below.refl _ _) (Nat.le_refl _) (by simp) ?_; (case hd => rfl); (case hg => rfl); (case hr => first | (go_simp; done) | (go_simp; rfl)); (case hp => exact (Reps.one (show Kd.M (Kd.int .u8) _ _ _ (wd h 1 / 16777216 % 256) [.int .u8 (wd h 1 / 16777216 % 256)] from rfl) (Reps.one (show Kd.M (Kd.int .u8) _ _ _ (wd h 1 / 65536 % 256) [.int .u8 (wd h 1 / 65536 % 256)] from rfl) (Reps.one (show Kd.M (Kd.int .u8) _ _ _ (wd h 1 / 256 % 256) [.int .u8 (wd h 1 / 256 % 256)] from rfl) (Reps.one (show Kd.M (Kd.int .u8) _ _ _ (wd h 1 % 256) [.int .u8 (wd h 1 % 256)] from rfl) (Reps.none _ _)))))); intro vl wl hol hbl hg_ hnew_; clear hg_ hnew_; obtain ⟨Y, hY⟩ : ∃ Y : List Int, [wd h 1 / 16777216 % 256, wd h 1 / 65536 % 256, wd h 1 / 256 % 256, wd h 1 % 256] = Y := ⟨_, rfl⟩; have HY := Aside0.mk hY; rw [hY] at hol; clear hY; have HRl := Aside0.mk (Kd.R_below HRr.out hbl); have HBl := Aside0.mk (below_step HBr.out hbl); have HOl := Aside0.mk hol; clear hol hbl; obtain ⟨Al, cl, el⟩ := Kd.R_slice HOl.out; subst el)
                      | ((with_reducible refine gate_builtin (b := .append) (xs := #[.tmp 72, .tmp 84]) rfl ?_); at_builtin; refine Kd.R_append_row (Value.int .u8) (0 : Int) (h1 := fun _ => rfl) (w0 := w) w.heap.size rfl (.tmp 72) (.tmp 84) 28 5 (.int .u8 0) 1 rfl Try.underlying28 Q.info5 rfl (by decide) (.slice A xs.length c) xs Y Al Y.length cl (fun _ => True) rfl rfl (fun _ _ => trivial) HRl.out (Kd.R_reads' HOl.out).2.2 HBl.out HBl.out.size ?hl ?_; (case hl => have := HXL.out; rw [← HY.out]; simp; omega); intro v3 w3 hr hbl hg hat; have hex := Kd.R_slice hr; obtain ⟨A3, k3, hv⟩ := hex; rw [hv] at hr; rw [hv]; have HR3 := Aside0.mk hr; have HB3 := Aside0.mk hbl; clear hr hbl hg hat hv))
                    go_roundg 6
                    case measure => decide
                    case rel =>
                      refine ⟨2, A3, k3, xs ++ Y, rfl, by first | rfl | simp, HR3, HB3, ⟨rfl, by decide, ?_⟩⟩
                      rw [HJ.out.2.2, ← HY.out]; exact (outN_succ h 1).symm
                  · obtain rfl : i = 0 := by have := HJ.out.1; omega
                    have HXL := Aside0.mk (show xs.length ≤ 1000 by rw [HJ.out.2.2, outN_len]; omega)
                    have hix : ∀ W : World, (Instr.index 37 (.agg #[.int .u32 (wd h 0), .int .u32 (wd h 1), .int .u32 (wd h 2), .int .u32 (wd h 3), .int .u32 (wd h 4), .int .u32 (wd h 5), .int .u32 (wd h 6), .int .u32 (wd h 7)]) (.int .i64 0)).run Try.prog W = .ok (.int .u32 (wd h 0)) W := fun _ => rfl
                    go_wp2_with (first
                      | ((with_reducible refine gate_dst (N := 84) rfl ?_); refine Kd.R_lit (Kd.int .u8) _ 5 ?hg (N := 84) ?hd (xs := ([wd h 0 / 16777216 % 256, wd h 0 / 65536 % 256, wd h 0 / 256 % 256, wd h 0 % 256] : List Int)) (inner := [.int .u8 (wd h 0 / 16777216 % 256), .int .u8 (wd h 0 / 65536 % 256), .int .u8 (wd h 0 / 256 % 256), .int .u8 (wd h 0 % 256)]) (ok := fun _ => True) (okp := fun _ => True) ?hr ?hp (fun _ hk => hk) trivial (Below.refl _ _) (Nat.le_refl _) (by simp) ?_; (case hd => rfl); (case hg => rfl); (case hr => first | (go_simp; done) | (go_simp; rfl)); (case hp => exact (Reps.one (show Kd.M (Kd.int .u8) _ _ _ (wd h 0 / 16777216 % 256) [.int .u8 (wd h 0 / 16777216 % 256)] from rfl) (Reps.one (show Kd.M (Kd.int .u8) _ _ _ (wd h 0 / 65536 % 256) [.int .u8 (wd h 0 / 65536 % 256)] from rfl) (Reps.one (show Kd.M (Kd.int .u8) _ _ _ (wd h 0 / 256 % 256) [.int .u8 (wd h 0 / 256 % 256)] from rfl) (Reps.one (show Kd.M (Kd.int .u8) _ _ _ (wd h 0 % 256) [.int .u8 (wd h 0 % 256)] from rfl) (Reps.none _ _)))))); intro vl wl hol hbl hg_ hnew_; clear hg_ hnew_; obtain ⟨Y, hY⟩ : ∃ Y : List Int, [wd h 0 / 16777216 % 256, wd h 0 / 65536 % 256, wd h 0 / 256 % 256, wd h 0 % 256] = Y := ⟨_, rfl⟩; have HY := Aside0.mk hY; rw [hY] at hol; clear hY; have HRl := Aside0.mk (Kd.R_below HRr.out hbl); have HBl := Aside0.mk (below_step HBr.out hbl); have HOl := Aside0.mk hol; clear hol hbl; obtain ⟨Al, cl, el⟩ := Kd.R_slice HOl.out; subst el)
                      | ((with_reducible refine gate_builtin (b := .append) (xs := #[.tmp 72, .tmp 84]) rfl ?_); at_builtin; refine Kd.R_append_row (Value.int .u8) (0 : Int) (h1 := fun _ => rfl) (w0 := w) w.heap.size rfl (.tmp 72) (.tmp 84) 28 5 (.int .u8 0) 1 rfl Try.underlying28 Q.info5 rfl (by decide) (.slice A xs.length c) xs Y Al Y.length cl (fun _ => True) rfl rfl (fun _ _ => trivial) HRl.out (Kd.R_reads' HOl.out).2.2 HBl.out HBl.out.size ?hl ?_; (case hl => have := HXL.out; rw [← HY.out]; simp; omega); intro v3 w3 hr hbl hg hat; have hex := Kd.R_slice hr; obtain ⟨A3, k3, hv⟩ := hex; rw [hv] at hr; rw [hv]; have HR3 := Aside0.mk hr; have HB3 := Aside0.mk hbl; clear hr hbl hg hat hv))
                    go_roundg 7
                    case measure => decide
                    case rel =>
                      refine ⟨1, A3, k3, xs ++ Y, rfl, by first | rfl | simp, HR3, HB3, ⟨rfl, by decide, ?_⟩⟩
                      rw [HJ.out.2.2, ← HY.out]; exact (outN_succ h 0).symm
          · obtain rfl : i = 0 := by have := HJ.out.1; omega
            have HXL := Aside0.mk (show xs.length ≤ 1000 by rw [HJ.out.2.2, HX1.out]; have := HLM.out; simp [zs, len8]; omega)
            go_wp2_with (((with_reducible refine gate_builtin (b := .append) (xs := #[.tmp 48, .tmp 57]) rfl ?_); at_builtin; refine Kd.R_append (Kd.int .u8) (w0 := w) w.heap.size rfl (.tmp 48) (.tmp 57) 28 5 (.int .u8 0) 1 rfl Try.underlying28 Q.info5 rfl (by decide) (by omega) (.slice A xs.length c) (xs) (n * 8 % 256) [.int .u8 (n * 8 % 256)] (fun _ => True) (fun _ => False) rfl rfl ?aP (fun _ hk => hk.elim) ?aF ?aO ?aB ?aS ?aL ?_; (case aP => exact rfl); (case aF => exact (fun _ _ => trivial)); (case aO => exact HRr.out); (case aB => exact HBr.out); (case aS => exact HBr.out.size); (case aL => have := HXL.out; omega); intro v3 w3 hr hbl hg hat; have hex := Kd.R_slice hr; obtain ⟨A3, k3, hv⟩ := hex; rw [hv] at hr; rw [hv]; have HR3 := Aside0.mk hr; have HB3 := Aside0.mk hbl; have BK3 := Aside0.mk (blk_grown BKq.out HRr.out hg); clear hr hbl hg hat hv))
            go_roundg 0
            case measure => decide
            case rel =>
              refine ⟨-1, A3, k3, xs ++ [n * 8 % 256], rfl, by simp, HR3, BK3, HB3, ⟨rfl, by decide, ?_⟩⟩
              rw [HJ.out.2.2, List.append_assoc, show 8 - 0 = 7 + 1 from rfl, len8_take m.length 7 (by decide)]
              congr 3
              rw [show (256 : Nat) ^ (7 - 7) = 1 by decide]
              have := Hn.out
              omega
          · obtain rfl : i = 1 := by have := HJ.out.1; omega
            have HXL := Aside0.mk (show xs.length ≤ 1000 by rw [HJ.out.2.2, HX1.out]; have := HLM.out; simp [zs, len8]; omega)
            go_wp2_with (((with_reducible refine gate_builtin (b := .append) (xs := #[.tmp 48, .tmp 57]) rfl ?_); at_builtin; refine Kd.R_append (Kd.int .u8) (w0 := w) w.heap.size rfl (.tmp 48) (.tmp 57) 28 5 (.int .u8 0) 1 rfl Try.underlying28 Q.info5 rfl (by decide) (by omega) (.slice A xs.length c) (xs) (n * 8 / 256 % 256) [.int .u8 (n * 8 / 256 % 256)] (fun _ => True) (fun _ => False) rfl rfl ?aP (fun _ hk => hk.elim) ?aF ?aO ?aB ?aS ?aL ?_; (case aP => exact rfl); (case aF => exact (fun _ _ => trivial)); (case aO => exact HRr.out); (case aB => exact HBr.out); (case aS => exact HBr.out.size); (case aL => have := HXL.out; omega); intro v3 w3 hr hbl hg hat; have hex := Kd.R_slice hr; obtain ⟨A3, k3, hv⟩ := hex; rw [hv] at hr; rw [hv]; have HR3 := Aside0.mk hr; have HB3 := Aside0.mk hbl; have BK3 := Aside0.mk (blk_grown BKq.out HRr.out hg); clear hr hbl hg hat hv))
            go_roundg 1
            case measure => decide
            case rel =>
              refine ⟨0, A3, k3, xs ++ [n * 8 / 256 % 256], rfl, by simp, HR3, BK3, HB3, ⟨rfl, by decide, ?_⟩⟩
              rw [HJ.out.2.2, List.append_assoc, show 8 - 1 = 6 + 1 from rfl, len8_take m.length 6 (by decide)]
              congr 3
              rw [show (256 : Nat) ^ (7 - 6) = 256 by decide]
              have := Hn.out
              omega
          · obtain rfl : i = 2 := by have := HJ.out.1; omega
            have HXL := Aside0.mk (show xs.length ≤ 1000 by rw [HJ.out.2.2, HX1.out]; have := HLM.out; simp [zs, len8]; omega)
            go_wp2_with (((with_reducible refine gate_builtin (b := .append) (xs := #[.tmp 48, .tmp 57]) rfl ?_); at_builtin; refine Kd.R_append (Kd.int .u8) (w0 := w) w.heap.size rfl (.tmp 48) (.tmp 57) 28 5 (.int .u8 0) 1 rfl Try.underlying28 Q.info5 rfl (by decide) (by omega) (.slice A xs.length c) (xs) (n * 8 / 65536 % 256) [.int .u8 (n * 8 / 65536 % 256)] (fun _ => True) (fun _ => False) rfl rfl ?aP (fun _ hk => hk.elim) ?aF ?aO ?aB ?aS ?aL ?_; (case aP => exact rfl); (case aF => exact (fun _ _ => trivial)); (case aO => exact HRr.out); (case aB => exact HBr.out); (case aS => exact HBr.out.size); (case aL => have := HXL.out; omega); intro v3 w3 hr hbl hg hat; have hex := Kd.R_slice hr; obtain ⟨A3, k3, hv⟩ := hex; rw [hv] at hr; rw [hv]; have HR3 := Aside0.mk hr; have HB3 := Aside0.mk hbl; have BK3 := Aside0.mk (blk_grown BKq.out HRr.out hg); clear hr hbl hg hat hv))
            go_roundg 2
            case measure => decide
            case rel =>
              refine ⟨1, A3, k3, xs ++ [n * 8 / 65536 % 256], rfl, by simp, HR3, BK3, HB3, ⟨rfl, by decide, ?_⟩⟩
              rw [HJ.out.2.2, List.append_assoc, show 8 - 2 = 5 + 1 from rfl, len8_take m.length 5 (by decide)]
              congr 3
              rw [show (256 : Nat) ^ (7 - 5) = 65536 by decide]
              have := Hn.out
              omega
          · obtain rfl : i = 3 := by have := HJ.out.1; omega
            have HXL := Aside0.mk (show xs.length ≤ 1000 by rw [HJ.out.2.2, HX1.out]; have := HLM.out; simp [zs, len8]; omega)
            go_wp2_with (((with_reducible refine gate_builtin (b := .append) (xs := #[.tmp 48, .tmp 57]) rfl ?_); at_builtin; refine Kd.R_append (Kd.int .u8) (w0 := w) w.heap.size rfl (.tmp 48) (.tmp 57) 28 5 (.int .u8 0) 1 rfl Try.underlying28 Q.info5 rfl (by decide) (by omega) (.slice A xs.length c) (xs) (n * 8 / 16777216 % 256) [.int .u8 (n * 8 / 16777216 % 256)] (fun _ => True) (fun _ => False) rfl rfl ?aP (fun _ hk => hk.elim) ?aF ?aO ?aB ?aS ?aL ?_; (case aP => exact rfl); (case aF => exact (fun _ _ => trivial)); (case aO => exact HRr.out); (case aB => exact HBr.out); (case aS => exact HBr.out.size); (case aL => have := HXL.out; omega); intro v3 w3 hr hbl hg hat; have hex := Kd.R_slice hr; obtain ⟨A3, k3, hv⟩ := hex; rw [hv] at hr; rw [hv]; have HR3 := Aside0.mk hr; have HB3 := Aside0.mk hbl; have BK3 := Aside0.mk (blk_grown BKq.out HRr.out hg); clear hr hbl hg hat hv))
            go_roundg 3
            case measure => decide
            case rel =>
              refine ⟨2, A3, k3, xs ++ [n * 8 / 16777216 % 256], rfl, by simp, HR3, BK3, HB3, ⟨rfl, by decide, ?_⟩⟩
              rw [HJ.out.2.2, List.append_assoc, show 8 - 3 = 4 + 1 from rfl, len8_take m.length 4 (by decide)]
              congr 3
              rw [show (256 : Nat) ^ (7 - 4) = 16777216 by decide]
              have := Hn.out
              omega
          · obtain rfl : i = 4 := by have := HJ.out.1; omega
            have HXL := Aside0.mk (show xs.length ≤ 1000 by rw [HJ.out.2.2, HX1.out]; have := HLM.out; simp [zs, len8]; omega)
            go_wp2_with (((with_reducible refine gate_builtin (b := .append) (xs := #[.tmp 48, .tmp 57]) rfl ?_); at_builtin; refine Kd.R_append (Kd.int .u8) (w0 := w) w.heap.size rfl (.tmp 48) (.tmp 57) 28 5 (.int .u8 0) 1 rfl Try.underlying28 Q.info5 rfl (by decide) (by omega) (.slice A xs.length c) (xs) (n * 8 / 4294967296) [.int .u8 (n * 8 / 4294967296)] (fun _ => True) (fun _ => False) rfl rfl ?aP (fun _ hk => hk.elim) ?aF ?aO ?aB ?aS ?aL ?_; (case aP => exact rfl); (case aF => exact (fun _ _ => trivial)); (case aO => exact HRr.out); (case aB => exact HBr.out); (case aS => exact HBr.out.size); (case aL => have := HXL.out; omega); intro v3 w3 hr hbl hg hat; have hex := Kd.R_slice hr; obtain ⟨A3, k3, hv⟩ := hex; rw [hv] at hr; rw [hv]; have HR3 := Aside0.mk hr; have HB3 := Aside0.mk hbl; have BK3 := Aside0.mk (blk_grown BKq.out HRr.out hg); clear hr hbl hg hat hv))
            go_roundg 4
            case measure => decide
            case rel =>
              refine ⟨3, A3, k3, xs ++ [n * 8 / 4294967296], rfl, by simp, HR3, BK3, HB3, ⟨rfl, by decide, ?_⟩⟩
              rw [HJ.out.2.2, List.append_assoc, show 8 - 4 = 3 + 1 from rfl, len8_take m.length 3 (by decide)]
              congr 3
              rw [show (256 : Nat) ^ (7 - 3) = 4294967296 by decide]
              have := Hn.out
              omega
          · obtain rfl : i = 5 := by have := HJ.out.1; omega
            have HXL := Aside0.mk (show xs.length ≤ 1000 by rw [HJ.out.2.2, HX1.out]; have := HLM.out; simp [zs, len8]; omega)
            go_wp2_with (((with_reducible refine gate_builtin (b := .append) (xs := #[.tmp 48, .tmp 57]) rfl ?_); at_builtin; refine Kd.R_append (Kd.int .u8) (w0 := w) w.heap.size rfl (.tmp 48) (.tmp 57) 28 5 (.int .u8 0) 1 rfl Try.underlying28 Q.info5 rfl (by decide) (by omega) (.slice A xs.length c) (xs) (n * 8 / 1099511627776) [.int .u8 (n * 8 / 1099511627776)] (fun _ => True) (fun _ => False) rfl rfl ?aP (fun _ hk => hk.elim) ?aF ?aO ?aB ?aS ?aL ?_; (case aP => exact rfl); (case aF => exact (fun _ _ => trivial)); (case aO => exact HRr.out); (case aB => exact HBr.out); (case aS => exact HBr.out.size); (case aL => have := HXL.out; omega); intro v3 w3 hr hbl hg hat; have hex := Kd.R_slice hr; obtain ⟨A3, k3, hv⟩ := hex; rw [hv] at hr; rw [hv]; have HR3 := Aside0.mk hr; have HB3 := Aside0.mk hbl; have BK3 := Aside0.mk (blk_grown BKq.out HRr.out hg); clear hr hbl hg hat hv))
            go_roundg 5
            case measure => decide
            case rel =>
              refine ⟨4, A3, k3, xs ++ [n * 8 / 1099511627776], rfl, by simp, HR3, BK3, HB3, ⟨rfl, by decide, ?_⟩⟩
              rw [HJ.out.2.2, List.append_assoc, show 8 - 5 = 2 + 1 from rfl, len8_take m.length 2 (by decide)]
              congr 3
              rw [show (256 : Nat) ^ (7 - 2) = 1099511627776 by decide]
              have := Hn.out
              omega
          · obtain rfl : i = 6 := by have := HJ.out.1; omega
            have HXL := Aside0.mk (show xs.length ≤ 1000 by rw [HJ.out.2.2, HX1.out]; have := HLM.out; simp [zs, len8]; omega)
            go_wp2_with (((with_reducible refine gate_builtin (b := .append) (xs := #[.tmp 48, .tmp 57]) rfl ?_); at_builtin; refine Kd.R_append (Kd.int .u8) (w0 := w) w.heap.size rfl (.tmp 48) (.tmp 57) 28 5 (.int .u8 0) 1 rfl Try.underlying28 Q.info5 rfl (by decide) (by omega) (.slice A xs.length c) (xs) (n * 8 / 281474976710656) [.int .u8 (n * 8 / 281474976710656)] (fun _ => True) (fun _ => False) rfl rfl ?aP (fun _ hk => hk.elim) ?aF ?aO ?aB ?aS ?aL ?_; (case aP => exact rfl); (case aF => exact (fun _ _ => trivial)); (case aO => exact HRr.out); (case aB => exact HBr.out); (case aS => exact HBr.out.size); (case aL => have := HXL.out; omega); intro v3 w3 hr hbl hg hat; have hex := Kd.R_slice hr; obtain ⟨A3, k3, hv⟩ := hex; rw [hv] at hr; rw [hv]; have HR3 := Aside0.mk hr; have HB3 := Aside0.mk hbl; have BK3 := Aside0.mk (blk_grown BKq.out HRr.out hg); clear hr hbl hg hat hv))
            go_roundg 6
            case measure => decide
            case rel =>
              refine ⟨5, A3, k3, xs ++ [n * 8 / 281474976710656], rfl, by simp, HR3, BK3, HB3, ⟨rfl, by decide, ?_⟩⟩
              rw [HJ.out.2.2, List.append_assoc, show 8 - 6 = 1 + 1 from rfl, len8_take m.length 1 (by decide)]
              congr 3
              rw [show (256 : Nat) ^ (7 - 1) = 281474976710656 by decide]
              have := Hn.out
              omega
          · obtain rfl : i = 7 := by have := HJ.out.1; omega
            have HXL := Aside0.mk (show xs.length ≤ 1000 by rw [HJ.out.2.2, HX1.out]; have := HLM.out; simp [zs, len8]; omega)
            go_wp2_with (((with_reducible refine gate_builtin (b := .append) (xs := #[.tmp 48, .tmp 57]) rfl ?_); at_builtin; refine Kd.R_append (Kd.int .u8) (w0 := w) w.heap.size rfl (.tmp 48) (.tmp 57) 28 5 (.int .u8 0) 1 rfl Try.underlying28 Q.info5 rfl (by decide) (by omega) (.slice A xs.length c) (xs) (n * 8 / 72057594037927936) [.int .u8 (n * 8 / 72057594037927936)] (fun _ => True) (fun _ => False) rfl rfl ?aP (fun _ hk => hk.elim) ?aF ?aO ?aB ?aS ?aL ?_; (case aP => exact rfl); (case aF => exact (fun _ _ => trivial)); (case aO => exact HRr.out); (case aB => exact HBr.out); (case aS => exact HBr.out.size); (case aL => have := HXL.out; omega); intro v3 w3 hr hbl hg hat; have hex := Kd.R_slice hr; obtain ⟨A3, k3, hv⟩ := hex; rw [hv] at hr; rw [hv]; have HR3 := Aside0.mk hr; have HB3 := Aside0.mk hbl; have BK3 := Aside0.mk (blk_grown BKq.out HRr.out hg); clear hr hbl hg hat hv))
            go_roundg 7
            case measure => decide
            case rel =>
              refine ⟨6, A3, k3, xs ++ [n * 8 / 72057594037927936], rfl, by simp, HR3, BK3, HB3, ⟨rfl, by decide, ?_⟩⟩
              rw [HJ.out.2.2, List.append_assoc, show 8 - 7 = 0 + 1 from rfl, len8_take m.length 0 (by decide)]
              congr 3
              rw [show (256 : Nat) ^ (7 - 0) = 72057594037927936 by decide]
              have := Hn.out
              omega
      · have t1 : (((xs.length : Int) % 64) != 56) = true := by
          have := HLEN.out; have := HJK.out; unfold zs at this
          rw [bne_iff_ne]; omega
        have HZ := Aside0.mk hz
        clear hz
        go_wp2_with (((with_reducible refine gate_builtin (b := .append) (xs := #[.tmp 41, .tmp 42]) rfl ?_); at_builtin; refine Kd.R_append (Kd.int .u8) (w0 := w) w.heap.size rfl (.tmp 41) (.tmp 42) 28 5 (.int .u8 0) 1 rfl Try.underlying28 Q.info5 rfl (by decide) (by omega) (.slice A xs.length c) (xs) (0) [.int .u8 0] (fun _ => True) (fun _ => False) rfl rfl ?aP (fun _ hk => hk.elim) ?aF ?aO ?aB ?aS ?aL ?_; (case aP => exact rfl); (case aF => exact (fun _ _ => trivial)); (case aO => exact HRr.out); (case aB => exact HBr.out); (case aS => exact HBr.out.size); (case aL => have := HLEN.out; have := HJK.out; unfold zs at this; omega); intro v2 w2 hr hbl hg hat; have hex := Kd.R_slice hr; obtain ⟨A2, k2, hv⟩ := hex; rw [hv] at hr; rw [hv]; have HR2 := Aside0.mk hr; have HB2 := Aside0.mk hbl; have BK2 := Aside0.mk (blk_grown BKq.out HRr.out hg); clear hr hbl hg hat hv))
        go_roundg (gk - 1)
        case measure => have := HZ.out; omega
        case rel =>
          refine ⟨A2, k2, xs ++ [0], by simp, HR2, BK2, HB2, ⟨j + 1, ?_, ?_⟩⟩
          · have := HJK.out; have := HZ.out; omega
          · rw [HXS.out, List.append_assoc, List.replicate_succ']; rfl

set_option maxHeartbeats 4000000 in
set_option maxRecDepth 100000 in
theorem sum_calls {blk : List Int → List Int → List Int} (hb : BlkOk blk) (base g : Nat) (m : List Int) (w : World) (hI : Strm blk base w g m) (hm : m.length ≤ 1000000000) : Calls Try.prog 16 #[.pointer (some ⟨g, 0, none⟩)] w fun e w' => e = .returned (.string (strOfNums (Sha.sha blk m))) ∧ Below w.heap.size w w' := by
  obtain ⟨v, h1, h2, h3, h4⟩ := hI
  obtain ⟨A0, k0, rfl⟩ := Kd.R_slice h3
  obtain ⟨n, hn⟩ : ∃ n : Int, n = m.length := ⟨_, rfl⟩
  rw [← hn] at h1
  have hn0 : 0 ≤ n := by omega
  have hn1 : n ≤ 1000000000 := by omega
  have BG := Aside0.mk h1
  have HR0 := Aside0.mk h3
  have HMB := Aside0.mk h4
  have Hn := Aside0.mk hn
  clear h1 h2 h3 h4 hm hn
  go_enter Try.func16, Try.ntmps16
  go_upto_if 19 with (first
    | (go_at_call 23; refine (init_calls _).mono ?_; rintro e w1 ⟨rfl, hb1⟩; have HB1 := Aside0.mk hb1; clear hb1)
    | ((with_reducible refine gate_dst (N := 3) rfl ?_); refine box_event ?hg (N := 3) ?hd (cs := #[.int .u32 0, .int .u32 0, .int .u32 0, .int .u32 0, .int .u32 0, .int .u32 0, .int .u32 0, .int .u32 0]) (t := 37) ?hr ?_; (case hd => rfl); (case hg => rfl); (case hr => first | (go_simp; done) | (go_simp; rfl)); intro p hg w2 hbox hb; have BKp := Aside0.mk hbox; have GE := Aside0.mk (show w.heap.size ≤ p by rw [hg]; exact HB1.out.size); have HB2 := Aside0.mk (below_step HB1.out hb); have NE := Aside0.mk (show g ≠ p from fun e => by have h1 := blk_lt BG.out; have h2 := HB1.out.size; rw [e, hg] at h1; omega); have hne1 := NE.out; have hne2 : p ≠ g := fun e => NE.out e.symm; have BG2 := Aside0.mk ((HB2.out.block g (blk_lt BG.out)).trans BG.out); obtain ⟨g0, g1, g2, g3, g4, g5, g6, g7, g8, g9, e0, e1, e2, e3, e4, e5, e6, e7, e8, e9⟩ := blk_facts BG2.out; clear hb hbox hg; obtain ⟨c0, c1, c2, c3, c4, c5, c6, c7, f0, f1, f2, f3, f4, f5, f6, f7⟩ := blk_facts8 BKp.out))
  go_cut [4, 5] (fun v4 v5 wc => ∃ (A : Option Addr) (c : Nat), v4 = .slice A (left m).length c ∧ v5 = .int .i64 n ∧ Aside0 ((Kd.int .u8).R 5 wc w.heap.size (fun _ => True) (.slice A (left m).length c) (left m)) ∧ Aside0 (wc.heap[p]? = some (.cells (cellsS (mid blk m)) 37 (0, 0))) ∧ Aside0 (Below w.heap.size w wc))
  case first =>
    by_cases hz : 0 < n
    · have t1 : decide (0 < n) = true := decide_eq_true hz
      have HZ := Aside0.mk hz
      clear hz
      have Hm := Aside0.mk (show m ≠ [] from fun e => by have := HZ.out; have := Hn.out; rw [e] at this; simp at this; omega)
      rw [t1]
      go_wp2
      have BKs1 := Aside0.mk (put8_blk8 BKp.out 1779033703 3144134277 1013904242 2773480762 1359893119 2600822924 528734635 1541459225)
      have BGs1 := Aside0.mk (put8_far BG2.out NE.out 1779033703 3144134277 1013904242 2773480762 1359893119 2600822924 528734635 1541459225)
      have HBs1 := Aside0.mk (put8_below HB2.out GE.out 1779033703 3144134277 1013904242 2773480762 1359893119 2600822924 528734635 1541459225)
      clear c0 c1 c2 c3 c4 c5 c6 c7 f0 f1 f2 f3 f4 f5 f6 f7
      clear g0 g1 g2 g3 g4 g5 g6 g7 g8 g9 e0 e1 e2 e3 e4 e5 e6 e7 e8 e9
      have BKd := Aside0.mk (blk_drew BKs1.out)
      have BGd := Aside0.mk (blk_drew BGs1.out)
      have HBd := Aside0.mk HBs1.out.drew
      clear BKs1 BGs1 HBs1
      obtain ⟨c0, c1, c2, c3, c4, c5, c6, c7, f0, f1, f2, f3, f4, f5, f6, f7⟩ := blk_facts8 BKd.out
      obtain ⟨g0, g1, g2, g3, g4, g5, g6, g7, g8, g9, e0, e1, e2, e3, e4, e5, e6, e7, e8, e9⟩ := blk_facts BGd.out
      refine start_ (n := 10) (S := fun w' => w'.cell? ⟨g, 0, none⟩ = some (.int .u32 (wd (cur blk m) 0)) ∧ w'.cell? ⟨g, 1, none⟩ = some (.int .u32 (wd (cur blk m) 1)) ∧ w'.cell? ⟨g, 2, none⟩ = some (.int .u32 (wd (cur blk m) 2)) ∧ w'.cell? ⟨g, 3, none⟩ = some (.int .u32 (wd (cur blk m) 3)) ∧ w'.cell? ⟨g, 4, none⟩ = some (.int .u32 (wd (cur blk m) 4)) ∧ w'.cell? ⟨g, 5, none⟩ = some (.int .u32 (wd (cur blk m) 5)) ∧ w'.cell? ⟨g, 6, none⟩ = some (.int .u32 (wd (cur blk m) 6)) ∧ w'.cell? ⟨g, 7, none⟩ = some (.int .u32 (wd (cur blk m) 7)) ∧ w'.cell? ⟨g, 9, none⟩ = some (.int .i64 n)) (ds := []) #[false, false, false, false, false, false, false, false, false, false] (by kernel_rfl) rfl rfl ⟨g0, g1, g2, g3, g4, g5, g6, g7, g9⟩ (fun hHeld => ?_)
      generalize hw4 : World.drew _ = w4 at hHeld ⊢
      have hw5 : (put8 w2 p 1779033703 3144134277 1013904242 2773480762 1359893119 2600822924 528734635 1541459225).drew = w4 := hw4
      rw [hw5] at BKd BGd HBd c0 c1 c2 c3 c4 c5 c6 c7 f0 f1 f2 f3 f4 f5 f6 f7 g0 g1 g2 g3 g4 g5 g6 g7 g8 g9 e0 e1 e2 e3 e4 e5 e6 e7 e8 e9
      clear hw4 hw5
      refine pure_ (i := 0) (N := some 20) (v := ?_) (a' := ?_) #[true, false, false, false, false, false, false, false, false, false] rfl rfl (by kernel_rfl) (fun _ _ _ h => h) (Or.inl ⟨by rfl, ?_⟩) ?_ ?_
      rotate_left; (intro w'; go_simp; with_reducible rfl); rotate_left; (simp only [Act.put, List.setIfInBounds_toArray, List.set_cons_zero, List.set_cons_succ, i64_w, i32_w]; rfl)
      refine pure_ (i := 1) (N := some 21) (v := ?_) (a' := ?_) #[true, true, false, false, false, false, false, false, false, false] rfl rfl (by kernel_rfl) (fun _ _ _ h => h) (Or.inl ⟨by rfl, ?_⟩) ?_ ?_
      rotate_left; (intro w'; go_simp; with_reducible rfl); rotate_left; (simp only [Act.put, List.setIfInBounds_toArray, List.set_cons_zero, List.set_cons_succ, i64_w, i32_w]; rfl)
      refine pure_ (i := 2) (N := some 22) (v := ?_) (a' := ?_) #[true, true, true, false, false, false, false, false, false, false] rfl rfl (by kernel_rfl) (fun _ _ _ h => h) (Or.inl ⟨by rfl, ?_⟩) ?_ ?_
      rotate_left; (intro w'; go_simp; with_reducible rfl); rotate_left; (simp only [Act.put, List.setIfInBounds_toArray, List.set_cons_zero, List.set_cons_succ, i64_w, i32_w]; rfl)
      refine take_ (i := 3) (N := some 23) (v := ?_) (a' := ?_) #[true, true, true, true, false, false, false, false, false, false] rfl rfl (by kernel_rfl) (fun _ _ _ h => h) (Or.inl ⟨by rfl, ?_⟩) hHeld ?_ ?_
      rotate_left; (rintro w' ⟨s0, s1, s2, s3, s4, s5, s6, s7, s8⟩; go_simp; with_reducible rfl); rotate_left; (simp only [Act.put, List.setIfInBounds_toArray, List.set_cons_zero, List.set_cons_succ, i64_w, i32_w]; rfl)
      refine pure_ (i := 4) (N := some 24) (v := ?_) (a' := ?_) #[true, true, true, true, true, false, false, false, false, false] rfl rfl (by kernel_rfl) (fun _ _ _ h => h) (Or.inl ⟨by rfl, ?_⟩) ?_ ?_
      rotate_left; (intro w'; go_simp; with_reducible rfl); rotate_left; (simp only [Act.put, List.setIfInBounds_toArray, List.set_cons_zero, List.set_cons_succ, i64_w, i32_w]; rfl)
      refine pure_ (i := 5) (N := some 25) (v := ?_) (a' := ?_) #[true, true, true, true, true, true, false, false, false, false] rfl rfl (by kernel_rfl) (fun _ _ _ h => h) (Or.inl ⟨by rfl, ?_⟩) ?_ ?_
      rotate_left; (intro w'; go_simp; with_reducible rfl); rotate_left; (simp only [Act.put, List.setIfInBounds_toArray, List.set_cons_zero, List.set_cons_succ, i64_w, i32_w]; rfl)
      refine pure_ (i := 6) (N := some 26) (v := ?_) (a' := ?_) #[true, true, true, true, true, true, true, false, false, false] rfl rfl (by kernel_rfl) (fun _ _ _ h => h) (Or.inl ⟨by rfl, ?_⟩) ?_ ?_
      rotate_left; (intro w'; go_simp; with_reducible rfl); rotate_left; (simp only [Act.put, List.setIfInBounds_toArray, List.set_cons_zero, List.set_cons_succ, i64_w, i32_w]; rfl)
      refine take_ (i := 7) (N := some 27) (v := ?_) (a' := ?_) #[true, true, true, true, true, true, true, true, false, false] rfl rfl (by kernel_rfl) (fun _ _ _ h => h) (Or.inl ⟨by rfl, ?_⟩) hHeld ?_ ?_
      rotate_left; (rintro w' ⟨s0, s1, s2, s3, s4, s5, s6, s7, s8⟩; go_simp; with_reducible rfl); rotate_left; (simp only [Act.put, List.setIfInBounds_toArray, List.set_cons_zero, List.set_cons_succ, i64_w, i32_w]; rfl)
      refine one_ (i := 8) (N := none) #[true, true, true, true, true, true, true, true, true, false] rfl rfl (by kernel_rfl) (by decide) (fun K hK => ?_)
      refine skip_ (w1 := ?_) (by rfl) rfl ?_ ?_
      rotate_left
      · go_simp
        rfl
      have BGp := Aside0.mk (put8_far BGd.out NE.out (wd (cur blk m) 0) (wd (cur blk m) 1) (wd (cur blk m) 2) (wd (cur blk m) 3) (wd (cur blk m) 4) (wd (cur blk m) 5) (wd (cur blk m) 6) (wd (cur blk m) 7))
      have BKs := Aside0.mk (put8_blk8 BKd.out (wd (cur blk m) 0) (wd (cur blk m) 1) (wd (cur blk m) 2) (wd (cur blk m) 3) (wd (cur blk m) 4) (wd (cur blk m) 5) (wd (cur blk m) 6) (wd (cur blk m) 7))
      have HB5 := Aside0.mk (put8_below HBd.out GE.out (wd (cur blk m) 0) (wd (cur blk m) 1) (wd (cur blk m) 2) (wd (cur blk m) 3) (wd (cur blk m) 4) (wd (cur blk m) 5) (wd (cur blk m) 6) (wd (cur blk m) 7))
      have HR5 := Aside0.mk (Kd.R_below HR0.out HB5.out)
      clear c0 c1 c2 c3 c4 c5 c6 c7 f0 f1 f2 f3 f4 f5 f6 f7
      clear g0 g1 g2 g3 g4 g5 g6 g7 g8 g9 e0 e1 e2 e3 e4 e5 e6 e7 e8 e9
      obtain ⟨g0, g1, g2, g3, g4, g5, g6, g7, g8, g9, e0, e1, e2, e3, e4, e5, e6, e7, e8, e9⟩ := blk_facts BGp.out
      refine hK.out _ (put8 w4 p (wd (cur blk m) 0) (wd (cur blk m) 1) (wd (cur blk m) 2) (wd (cur blk m) 3) (wd (cur blk m) 4) (wd (cur blk m) 5) (wd (cur blk m) 6) (wd (cur blk m) 7)) ⟨g0, g1, g2, g3, g4, g5, g6, g7, g9⟩ (fun hHeld => ?_)
      clear hK K
      generalize put8 w4 p (wd (cur blk m) 0) (wd (cur blk m) 1) (wd (cur blk m) 2) (wd (cur blk m) 3) (wd (cur blk m) 4) (wd (cur blk m) 5) (wd (cur blk m) 6) (wd (cur blk m) 7) = w5 at BGp BKs HB5 HR5 hHeld g0 g1 g2 g3 g4 g5 g6 g7 g8 g9 e0 e1 e2 e3 e4 e5 e6 e7 e8 e9 ⊢
      refine pure_ (i := 9) (N := some 5) (v := ?_) (a' := ?_) #[true, true, true, true, true, true, true, true, true, true] rfl rfl (by kernel_rfl) (fun _ _ _ h => h) (Or.inl ⟨by rfl, ?_⟩) ?_ ?_
      rotate_left; (intro w'; go_simp; with_reducible rfl); rotate_left; (simp only [Act.put, List.setIfInBounds_toArray, List.set_cons_zero, List.set_cons_succ, i64_w, i32_w]; rfl)
      refine done_ (by kernel_rfl) ?_
      go_wp2_with ((with_reducible refine gate_builtin (b := .append) (xs := #[.tmp 28, .tmp 32]) rfl ?_); at_builtin; refine Kd.R_append_row (Value.int .u8) (0 : Int) (h1 := fun _ => rfl) (w0 := w) w.heap.size rfl (.tmp 28) (.tmp 32) 28 5 (.int .u8 0) 1 rfl Try.underlying28 Q.info5 rfl (by decide) (.slice none 0 0) [] (left m) A0 (left m).length k0 (fun _ => True) rfl rfl (fun _ _ => trivial) (Kd.R_nil _ _ _ _ _) (Kd.R_reads' HR5.out).2.2 HB5.out HB5.out.size ?hl ?_; (case hl => rw [left_len]; simp; omega); intro v6 w6 hr hbl hg hat; have hex := Kd.R_slice hr; obtain ⟨A6, k6, hv⟩ := hex; rw [hv] at hr; rw [hv]; have HR6 := Aside0.mk hr; have HB6 := Aside0.mk hbl; have BK6 := Aside0.mk ((hg.block p (blk_lt BKs.out) (by simp [Value.ownBlock])).trans BKs.out); clear hr hbl hg hat hv)
      go_meet
      case rel =>
        refine ⟨A6, k6, by simp, rfl, ⟨HR6.out⟩, ⟨?_⟩, HB6⟩
        rw [← cur_ne (blk := blk) Hm.out]; exact BK6.out
    · have t1 : decide (0 < n) = false := decide_eq_false hz
      have HZ := Aside0.mk hz
      clear hz
      have Hm := Aside0.mk (show m = [] from List.eq_nil_of_length_eq_zero (by have := Hn.out; have := HZ.out; omega))
      rw [t1]
      go_wp2
      go_meet
      case rel =>
        refine ⟨none, 0, by rw [Hm.out]; rfl, by rw [Hn.out, Hm.out]; rfl, ⟨?_⟩, ⟨?_⟩, ⟨put8_below HB2.out GE.out 1779033703 3144134277 1013904242 2773480762 1359893119 2600822924 528734635 1541459225⟩⟩
        · rw [Hm.out]; exact Kd.R_nil _ _ _ _ _
        · rw [Hm.out]; exact put8_blk8 BKp.out 1779033703 3144134277 1013904242 2773480762 1359893119 2600822924 528734635 1541459225
  case rest =>
    clear c0 c1 c2 c3 c4 c5 c6 c7 f0 f1 f2 f3 f4 f5 f6 f7 
    obtain ⟨A, c, rfl, rfl, HRc, BKq, HBc⟩ := hcut
    have HLM := Aside0.mk (show (left m).length < 64 by rw [left_len]; omega)
    go_wp2_with (((with_reducible refine gate_builtin (b := .append) (xs := #[.tmp 34, .tmp 35]) rfl ?_); at_builtin; refine Kd.R_append (Kd.int .u8) (w0 := w) w.heap.size rfl (.tmp 34) (.tmp 35) 28 5 (.int .u8 0) 1 rfl Try.underlying28 Q.info5 rfl (by decide) (by omega) (.slice A (left m).length c) (left m) (128) [.int .u8 128] (fun _ => True) (fun _ => False) rfl rfl ?aP (fun _ hk => hk.elim) ?aF ?aO ?aB ?aS ?aL ?_; (case aP => exact rfl); (case aF => exact (fun _ _ => trivial)); (case aO => exact HRc.out); (case aB => exact HBc.out); (case aS => exact HBc.out.size); (case aL => have := HLM.out; omega); intro v1 w1 hr hbl hg hat; have hex := Kd.R_slice hr; obtain ⟨A1, k1, hv⟩ := hex; rw [hv] at hr; rw [hv]; have HR1 := Aside0.mk hr; have HB1 := Aside0.mk hbl; have BK1 := Aside0.mk (blk_grown BKq.out HRc.out hg); clear hr hbl hg hat hv))
    clear BKq HRc HBc
    go_loopg [4] (zs m.length) (fun kq v4 wr => ∃ (A : Option Addr) (c : Nat) (xs : List Int), v4 = .slice A xs.length c ∧ Aside0 ((Kd.int .u8).R 5 wr w.heap.size (fun _ => True) (.slice A xs.length c) xs) ∧ Aside0 (wr.heap[p]? = some (.cells (cellsS (mid blk m)) 37 (0, 0))) ∧ Aside0 (Below w.heap.size w wr) ∧ Aside0 (∃ j, j + kq = zs m.length ∧ xs = left m ++ 128 :: List.replicate j 0))
    case atStart => exact ⟨A1, k1, left m ++ [128], by simp, HR1, BK1, HB1, ⟨0, by omega, rfl⟩⟩
    case round =>
      clear HR1 BK1 HB1
      obtain ⟨A, c, xs, rfl, HRr, BKq, HBr, HJ⟩ := hrel
      obtain ⟨j, hj, hxs⟩ := HJ.out
      have hlen : xs.length = m.length % 64 + 1 + j := by rw [hxs, List.length_append, left_len]; simp; omega
      have HXS := Aside0.mk hxs
      have HLEN := Aside0.mk hlen
      have HJK := Aside0.mk hj
      clear hxs hlen hj HJ
      by_cases hz : gk = 0
      · have t1 : (((xs.length : Int) % 64) != 56) = false := by
          have := HLEN.out; have := HJK.out; unfold zs at this
          rw [bne_eq_false_iff_eq]; omega
        have HZ := Aside0.mk hz
        clear hz
        go_wp2
        obtain ⟨X1, hX1⟩ : ∃ X : List Int, xs = X := ⟨_, rfl⟩
        have HX1 := Aside0.mk (show X1 = left m ++ 128 :: List.replicate (zs m.length) 0 by rw [← hX1, HXS.out]; have := HJK.out; have := HZ.out; rw [show j = zs m.length by omega])
        have HX1x := Aside0.mk hX1
        clear hX1 t1
        go_loopg [4, 6] 8 (fun kq v4 v6 wr => ∃ (i : Int) (A : Option Addr) (c : Nat) (xs : List Int), v6 = .int .i64 i ∧ v4 = .slice A xs.length c ∧ Aside0 ((Kd.int .u8).R 5 wr w.heap.size (fun _ => True) (.slice A xs.length c) xs) ∧ Aside0 (wr.heap[p]? = some (.cells (cellsS (mid blk m)) 37 (0, 0))) ∧ Aside0 (Below w.heap.size w wr) ∧ Aside0 (i = (kq : Int) - 1 ∧ kq ≤ 8 ∧ xs = X1 ++ (len8 m.length).take (8 - kq)))
        case atStart => exact ⟨7, A, c, xs, rfl, rfl, HRr, BKq, HBr, ⟨rfl, Nat.le_refl _, by rw [HX1x.out]; simp⟩⟩
        case round =>
          clear HRr BKq HBr HX1x HXS HLEN
          obtain ⟨i, A, c, xs, rfl, rfl, HRr, BKq, HBr, HJ⟩ := hrel
          have hcases : gk = 0 ∨ gk = 1 ∨ gk = 2 ∨ gk = 3 ∨ gk = 4 ∨ gk = 5 ∨ gk = 6 ∨ gk = 7 ∨ gk = 8 := by have := HJ.out.2.1; omega
          rcases hcases with rfl | rfl | rfl | rfl | rfl | rfl | rfl | rfl | rfl
          · obtain rfl : i = -1 := by have := HJ.out.1; omega
            go_wp2
            obtain ⟨T, hT⟩ : ∃ X : List Int, xs = X := ⟨_, rfl⟩
            have hT2 : T = left m ++ pad m.length := by rw [← hT, HJ.out.2.2, HX1.out, len8_all]; simp [pad]
            have HT2 := Aside0.mk hT2
            have HTx := Aside0.mk hT
            clear hT hT2
            have HFx := Aside0.mk (Kd.V_F (Kd.R_V (base' := w.heap.size) (Kd.R_mono (Kd.R_types HRr.out BKq.out (by decide)) (ok' := fun k => k ≠ p) (fun k hk => hk.2))))
            have HLC := Aside0.mk (Kd.R_reads' HRr.out).2.1
            go_loopg [4] T.length (fun kq v4 wr => ∃ (A : Option Addr) (c : Nat) (h xs : List Int), v4 = .slice A xs.length c ∧ Aside0 (xs.length ≤ c) ∧ Aside0 (xs.length ≤ kq) ∧ Aside0 (Kd.F (Kd.int .u8) wr (fun k => k ≠ p) A xs.length xs) ∧ Aside0 (wr.heap[p]? = some (.cells (cellsS h) 37 (0, 0))) ∧ Aside0 (Below w.heap.size w wr) ∧ Aside0 (Good h ∧ Bytes xs ∧ xs.length % 64 = 0 ∧ Sha.runN blk (xs.length / 64) h xs = Sha.runN blk (T.length / 64) (mid blk m) T))
            case atStart =>
              refine ⟨A, c, mid blk m, xs, rfl, HLC, ⟨?_⟩, HFx, BKq, HBr, ⟨mid_good hb m, ?_, ?_, ?_⟩⟩
              · rw [HTx.out]; exact Nat.le_refl _
              · rw [HTx.out, HT2.out]; exact (HMB.out.drop _).append (pad_bytes _)
              · rw [HTx.out, HT2.out]; exact tail_whole m
              · rw [HTx.out]
            case round =>
              clear HRr BKq HBr HJ HTx HFx HLC
              obtain ⟨A, c, h, xs, rfl, HXC, HXK, HF, BK2, HB2, HI⟩ := hrel
              by_cases hlt : 64 ≤ xs.length
              · have t1 : decide (0 < xs.length) = true := decide_eq_true (by omega)
                have t2 : decide ((0 : Int) < (xs.length : Int)) = true := decide_eq_true (by omega)
                have t3 : ¬ xs = [] := fun e => by rw [e] at hlt; simp at hlt
                have t4 : 0 < xs.length := by omega
                have HLT := Aside0.mk hlt
                clear hlt
                have hs1 := take64 A c xs HLT.out HXC.out
                obtain ⟨A', hs2, hA'⟩ := cut64 A c xs HLT.out HXC.out
                have HA' := Aside0.mk hA'
                clear hA'
                have HT := Aside0.mk (show (xs.take 64).length = 64 by rw [List.length_take]; have := HLT.out; omega)
                go_wp2
                have HFr := Aside0.mk (Kd.F_drew HF.out)
                have BKr := Aside0.mk (blk_drew BK2.out)
                have HBd := Aside0.mk HB2.out.drew
                have HCt := Aside0.mk (Kd.F_now (Kd.F_take HFr.out HLT.out))
                obtain ⟨c0, c1, c2, c3, c4, c5, c6, c7, f0, f1, f2, f3, f4, f5, f6, f7⟩ := blk_facts8 BKr.out
                refine start_ (n := 5) (S := fun w' => w'.cell? ⟨p, 0, none⟩ = some (.int .u32 (wd h 0)) ∧ w'.cell? ⟨p, 1, none⟩ = some (.int .u32 (wd h 1)) ∧ w'.cell? ⟨p, 2, none⟩ = some (.int .u32 (wd h 2)) ∧ w'.cell? ⟨p, 3, none⟩ = some (.int .u32 (wd h 3)) ∧ w'.cell? ⟨p, 4, none⟩ = some (.int .u32 (wd h 4)) ∧ w'.cell? ⟨p, 5, none⟩ = some (.int .u32 (wd h 5)) ∧ w'.cell? ⟨p, 6, none⟩ = some (.int .u32 (wd h 6)) ∧ w'.cell? ⟨p, 7, none⟩ = some (.int .u32 (wd h 7))) (ds := [3, 4]) #[false, false, false, false, false] (by kernel_rfl) rfl rfl ⟨c0, c1, c2, c3, c4, c5, c6, c7⟩ (fun hHeld => ?_)
                generalize wr.drew = w4 at HFr BKr HBd HCt hHeld c0 c1 c2 c3 c4 c5 c6 c7 f0 f1 f2 f3 f4 f5 f6 f7 ⊢
                refine pure_ (i := 1) (N := some 63) (v := ?_) (a' := ?_) #[false, true, false, false, false] rfl rfl (by kernel_rfl) (fun _ _ _ h => h) (Or.inl ⟨by rfl, ?_⟩) ?_ ?_
                rotate_left; (intro w'; go_simp; with_reducible rfl); rotate_left; (simp only [Act.put, List.setIfInBounds_toArray, List.set_cons_zero, List.set_cons_succ, i64_w, i32_w]; rfl)
                refine pure_ (i := 2) (N := some 64) (v := ?_) (a' := ?_) #[false, true, true, false, false] rfl rfl (by kernel_rfl) (fun _ _ _ h => h) (Or.inl ⟨by rfl, ?_⟩) ?_ ?_
                rotate_left; (intro w'; go_simp; with_reducible rfl); rotate_left; (simp only [Act.put, List.setIfInBounds_toArray, List.set_cons_zero, List.set_cons_succ, i64_w, i32_w]; rfl)
                refine take_ (i := 0) (N := some 62) (v := ?_) (a' := ?_) #[true, true, true, false, false] rfl rfl (by kernel_rfl) (fun _ _ _ h => h) (Or.inl ⟨by rfl, ?_⟩) hHeld ?_ ?_
                rotate_left; (rintro w' ⟨s0, s1, s2, s3, s4, s5, s6, s7⟩; go_simp; with_reducible rfl); rotate_left; (simp only [Act.put, List.setIfInBounds_toArray, List.set_cons_zero, List.set_cons_succ, i64_w, i32_w]; rfl)
                refine last_ (i := 3) (N := some 65) #[true, true, true, true, false] rfl rfl (by kernel_rfl) (by decide) (fun K hK => ?_)
                refine goes_ Try.func24 (by kernel_rfl) rfl #[.agg #[.int .u32 (wd h 0), .int .u32 (wd h 1), .int .u32 (wd h 2), .int .u32 (wd h 3), .int .u32 (wd h 4), .int .u32 (wd h 5), .int .u32 (wd h 6), .int .u32 (wd h 7)], .slice A 64 c] (by rfl) rfl rfl (by (try simp only [List.map_toArray, List.map_cons, List.map_nil]); first | done | rfl) ?_
                with_reducible refine (block_calls hb h (xs.take 64) HI.out.1 HT.out (HI.out.2.1.take 64) A c _ HCt.out (by rw [HT.out]; have := HXC.out; have := HLT.out; omega)).mono ?_
                rintro e w3 ⟨rfl, hb3⟩
                refine ⟨_, rfl, ?_⟩
                refine hK.out _ _ ?_
                clear hK K
                refine norm_ (a' := ?_) ?_ ?_
                rotate_left
                · show Act.put _ (some 65) _ = _
                  simp only [Act.put, List.setIfInBounds_toArray, List.set_cons_zero, List.set_cons_succ, i64_w, i32_w]
                  rfl
                have BK3 := Aside0.mk ((hb3.block p (blk_lt BKr.out)).trans BKr.out)
                have HB3 := Aside0.mk (below_step HBd.out hb3)
                have HF3 := Aside0.mk (Kd.F_below HFr.out hb3)
                clear hb3 hHeld c0 c1 c2 c3 c4 c5 c6 c7 f0 f1 f2 f3 f4 f5 f6 f7
                obtain ⟨c0, c1, c2, c3, c4, c5, c6, c7, f0, f1, f2, f3, f4, f5, f6, f7⟩ := blk_facts8 BK3.out
                refine last_ (i := 4) (N := none) #[true, true, true, true, true] rfl rfl (by kernel_rfl) (by decide) (fun K hK => ?_)
                refine skip_ (w1 := ?_) (by rfl) rfl ?_ ?_
                rotate_left
                · go_simp
                  rfl
                refine hK.out _ _ ?_
                clear hK K
                refine done_ (by kernel_rfl) ?_
                go_wp2
                go_roundg (xs.length - 64)
                case measure => have := HXK.out; have := HLT.out; omega
                case rel =>
                  refine ⟨A', c - 64, blk h (xs.take 64), xs.drop 64, by rw [List.length_drop], ⟨?_⟩, ⟨?_⟩, ⟨?_⟩, ⟨?_⟩, ⟨?_⟩, ⟨hb.good _ _ HI.out.1, HI.out.2.1.drop 64, ?_, ?_⟩⟩
                  · rw [List.length_drop]; have := HXC.out; omega
                  · rw [List.length_drop]; exact Nat.le_refl _
                  · exact HA'.out _ _ (F_put8 HF3.out _ _ _ _ _ _ _ _)
                  · exact put8_blk8 BK3.out _ _ _ _ _ _ _ _
                  · exact put8_below HB3.out GE.out _ _ _ _ _ _ _ _
                  · rw [List.length_drop]; have := HI.out.2.2.1; have := HLT.out; omega
                  · rw [← run_step h xs HLT.out]; exact HI.out.2.2.2
              · obtain rfl : xs = [] := List.eq_nil_of_length_eq_zero (by have := HI.out.2.2.1; omega)
                clear hlt
                obtain ⟨c0, c1, c2, c3, c4, c5, c6, c7, f0, f1, f2, f3, f4, f5, f6, f7⟩ := blk_facts8 BK2.out
                go_wp2
                have hfin := HI.out.2.2.2
                have HG := Aside0.mk HI.out.1
                have HFin := Aside0.mk (show Sha.sha blk m = Sha.out h by rw [sha_left, ← HT2.out, ← hfin]; rfl)
                clear hfin
                clear c0 c1 c2 c3 c4 c5 c6 c7 f0 f1 f2 f3 f4 f5 f6 f7
                go_loopg [7, 69] 8 (fun kq v7 v69 wr => ∃ (i : Int) (A : Option Addr) (c : Nat) (xs : List Int), v69 = .int .i64 i ∧ v7 = .slice A xs.length c ∧ Aside0 ((Kd.int .u8).R 5 wr w.heap.size (fun _ => True) (.slice A xs.length c) xs) ∧ Aside0 (Below w.heap.size w wr) ∧ Aside0 (i = 8 - (kq : Int) ∧ kq ≤ 8 ∧ xs = outN h (8 - kq)))
                case atStart => exact ⟨0, none, 0, [], rfl, rfl, ⟨Kd.R_nil _ _ _ _ _⟩, HB2, ⟨rfl, Nat.le_refl _, rfl⟩⟩
                case round =>
                  clear HF BK2 HB2
                  obtain ⟨i, A, c, xs, rfl, rfl, HRr, HBr, HJ⟩ := hrel
                  have hcases : gk = 0 ∨ gk = 1 ∨ gk = 2 ∨ gk = 3 ∨ gk = 4 ∨ gk = 5 ∨ gk = 6 ∨ gk = 7 ∨ gk = 8 := by have := HJ.out.2.1; omega
                  rcases hcases with rfl | rfl | rfl | rfl | rfl | rfl | rfl | rfl | rfl
                  · obtain rfl : i = 8 := by have := HJ.out.1; omega
                    have hcv := own_string (P := Try.prog) Try.underlying28 Try.underlying5 Try.underlying9 (Kd.own_of_R HRr.out)
                    go_wp2
                    go_ret
                    exact ⟨ret_str (by rw [HFin.out, ← outN_all h HG.out.1, HJ.out.2.2]), HBr.out⟩
                  · obtain rfl : i = 7 := by have := HJ.out.1; omega
                    have HXL := Aside0.mk (show xs.length ≤ 1000 by rw [HJ.out.2.2, outN_len]; omega)
                    have hix : ∀ W : World, (Instr.index 37 (.agg #[.int .u32 (wd h 0), .int .u32 (wd h 1), .int .u32 (wd h 2), .int .u32 (wd h 3), .int .u32 (wd h 4), .int .u32 (wd h 5), .int .u32 (wd h 6), .int .u32 (wd h 7)]) (.int .i64 7)).run Try.prog W = .ok (.int .u32 (wd h 7)) W := fun _ => rfl
                    go_wp2_with (first
                      | ((with_reducible refine gate_dst (N := 84) rfl ?_); refine Kd.R_lit (Kd.int .u8) _ 5 ?hg (N := 84) ?hd (xs := ([wd h 7 / 16777216 % 256, wd h 7 / 65536 % 256, wd h 7 / 256 % 256, wd h 7 % 256] : List Int)) (inner := [.int .u8 (wd h 7 / 16777216 % 256), .int .u8 (wd h 7 / 65536 % 256), .int .u8 (wd h 7 / 256 % 256), .int .u8 (wd h 7 % 256)]) (ok := fun _ => True) (okp := fun _ => True) ?hr ?hp (fun _ hk => hk) trivial (Below.refl _ _) (Nat.le_refl _) (by simp) ?_; (case hd => rfl); (case hg => rfl); (case hr => first | (go_simp; done) | (go_simp; rfl)); (case hp => exact (Reps.one (show Kd.M (Kd.int .u8) _ _ _ (wd h 7 / 16777216 % 256) [.int .u8 (wd h 7 / 16777216 % 256)] from rfl) (Reps.one (show Kd.M (Kd.int .u8) _ _ _ (wd h 7 / 65536 % 256) [.int .u8 (wd h 7 / 65536 % 256)] from rfl) (Reps.one (show Kd.M (Kd.int .u8) _ _ _ (wd h 7 / 256 % 256) [.int .u8 (wd h 7 / 256 % 256)] from rfl) (Reps.one (show Kd.M (Kd.int .u8) _ _ _ (wd h 7 % 256) [.int .u8 (wd h 7 % 256)] from rfl) (Reps.none _ _)))))); intro vl wl hol hbl hg_ hnew_; clear hg_ hnew_; obtain ⟨Y, hY⟩ : ∃ Y : List Int, [wd h 7 / 16777216 % 256, wd h 7 / 65536 % 256, wd h 7 / 256 % 256, wd h 7 % 256] = Y := ⟨_, rfl⟩; have HY := Aside0.mk hY; rw [hY] at hol; clear hY; have HRl := Aside0.mk (Kd.R_below HRr.out hbl); have HBl := Aside0.mk (below_step HBr.out hbl); have HOl := Aside0.mk hol; clear hol hbl; obtain ⟨Al, cl, el⟩ := Kd.R_slice HOl.out; subst el)
                      | ((with_reducible refine gate_builtin (b := .append) (xs := #[.tmp 72, .tmp 84]) rfl ?_); at_builtin; refine Kd.R_append_row (Value.int .u8) (0 : Int) (h1 := fun _ => rfl) (w0 := w) w.heap.size rfl (.tmp 72) (.tmp 84) 28 5 (.int .u8 0) 1 rfl Try.underlying28 Q.info5 rfl (by decide) (.slice A xs.length c) xs Y Al Y.length cl (fun _ => True) rfl rfl (fun _ _ => trivial) HRl.out (Kd.R_reads' HOl.out).2.2 HBl.out HBl.out.size ?hl ?_; (case hl => have := HXL.out; rw [← HY.out]; simp; omega); intro v3 w3 hr hbl hg hat; have hex := Kd.R_slice hr; obtain ⟨A3, k3, hv⟩ := hex; rw [hv] at hr; rw [hv]; have HR3 := Aside0.mk hr; have HB3 := Aside0.mk hbl; clear hr hbl hg hat hv))
                    go_roundg 0
                    case measure => decide
                    case rel =>
                      refine ⟨8, A3, k3, xs ++ Y, rfl, by first | rfl | simp, HR3, HB3, ⟨rfl, by decide, ?_⟩⟩
                      rw [HJ.out.2.2, ← HY.out]; exact (outN_succ h 7).symm
                  · obtain rfl : i = 6 := by have := HJ.out.1; omega
                    have HXL := Aside0.mk (show xs.length ≤ 1000 by rw [HJ.out.2.2, outN_len]; omega)
                    have hix : ∀ W : World, (Instr.index 37 (.agg #[.int .u32 (wd h 0), .int .u32 (wd h 1), .int .u32 (wd h 2), .int .u32 (wd h 3), .int .u32 (wd h 4), .int .u32 (wd h 5), .int .u32 (wd h 6), .int .u32 (wd h 7)]) (.int .i64 6)).run Try.prog W = .ok (.int .u32 (wd h 6)) W := fun _ => rfl
                    go_wp2_with (first
                      | ((with_reducible refine gate_dst (N := 84) rfl ?_); refine Kd.R_lit (Kd.int .u8) _ 5 ?hg (N := 84) ?hd (xs := ([wd h 6 / 16777216 % 256, wd h 6 / 65536 % 256, wd h 6 / 256 % 256, wd h 6 % 256] : List Int)) (inner := [.int .u8 (wd h 6 / 16777216 % 256), .int .u8 (wd h 6 / 65536 % 256), .int .u8 (wd h 6 / 256 % 256), .int .u8 (wd h 6 % 256)]) (ok := fun _ => True) (okp := fun _ => True) ?hr ?hp (fun _ hk => hk) trivial (Below.refl _ _) (Nat.le_refl _) (by simp) ?_; (case hd => rfl); (case hg => rfl); (case hr => first | (go_simp; done) | (go_simp; rfl)); (case hp => exact (Reps.one (show Kd.M (Kd.int .u8) _ _ _ (wd h 6 / 16777216 % 256) [.int .u8 (wd h 6 / 16777216 % 256)] from rfl) (Reps.one (show Kd.M (Kd.int .u8) _ _ _ (wd h 6 / 65536 % 256) [.int .u8 (wd h 6 / 65536 % 256)] from rfl) (Reps.one (show Kd.M (Kd.int .u8) _ _ _ (wd h 6 / 256 % 256) [.int .u8 (wd h 6 / 256 % 256)] from rfl) (Reps.one (show Kd.M (Kd.int .u8) _ _ _ (wd h 6 % 256) [.int .u8 (wd h 6 % 256)] from rfl) (Reps.none _ _)))))); intro vl wl hol hbl hg_ hnew_; clear hg_ hnew_; obtain ⟨Y, hY⟩ : ∃ Y : List Int, [wd h 6 / 16777216 % 256, wd h 6 / 65536 % 256, wd h 6 / 256 % 256, wd h 6 % 256] = Y := ⟨_, rfl⟩; have HY := Aside0.mk hY; rw [hY] at hol; clear hY; have HRl := Aside0.mk (Kd.R_below HRr.out hbl); have HBl := Aside0.mk (below_step HBr.out hbl); have HOl := Aside0.mk hol; clear hol hbl; obtain ⟨Al, cl, el⟩ := Kd.R_slice HOl.out; subst el)
                      | ((with_reducible refine gate_builtin (b := .append) (xs := #[.tmp 72, .tmp 84]) rfl ?_); at_builtin; refine Kd.R_append_row (Value.int .u8) (0 : Int) (h1 := fun _ => rfl) (w0 := w) w.heap.size rfl (.tmp 72) (.tmp 84) 28 5 (.int .u8 0) 1 rfl Try.underlying28 Q.info5 rfl (by decide) (.slice A xs.length c) xs Y Al Y.length cl (fun _ => True) rfl rfl (fun _ _ => trivial) HRl.out (Kd.R_reads' HOl.out).2.2 HBl.out HBl.out.size ?hl ?_; (case hl => have := HXL.out; rw [← HY.out]; simp; omega); intro v3 w3 hr hbl hg hat; have hex := Kd.R_slice hr; obtain ⟨A3, k3, hv⟩ := hex; rw [hv] at hr; rw [hv]; have HR3 := Aside0.mk hr; have HB3 := Aside0.mk hbl; clear hr hbl hg hat hv))
                    go_roundg 1
                    case measure => decide
                    case rel =>
                      refine ⟨7, A3, k3, xs ++ Y, rfl, by first | rfl | simp, HR3, HB3, ⟨rfl, by decide, ?_⟩⟩
                      rw [HJ.out.2.2, ← HY.out]; exact (outN_succ h 6).symm
                  · obtain rfl : i = 5 := by have := HJ.out.1; omega
                    have HXL := Aside0.mk (show xs.length ≤ 1000 by rw [HJ.out.2.2, outN_len]; omega)
                    have hix : ∀ W : World, (Instr.index 37 (.agg #[.int .u32 (wd h 0), .int .u32 (wd h 1), .int .u32 (wd h 2), .int .u32 (wd h 3), .int .u32 (wd h 4), .int .u32 (wd h 5), .int .u32 (wd h 6), .int .u32 (wd h 7)]) (.int .i64 5)).run Try.prog W = .ok (.int .u32 (wd h 5)) W := fun _ => rfl
                    go_wp2_with (first
                      | ((with_reducible refine gate_dst (N := 84) rfl ?_); refine Kd.R_lit (Kd.int .u8) _ 5 ?hg (N := 84) ?hd (xs := ([wd h 5 / 16777216 % 256, wd h 5 / 65536 % 256, wd h 5 / 256 % 256, wd h 5 % 256] : List Int)) (inner := [.int .u8 (wd h 5 / 16777216 % 256), .int .u8 (wd h 5 / 65536 % 256), .int .u8 (wd h 5 / 256 % 256), .int .u8 (wd h 5 % 256)]) (ok := fun _ => True) (okp := fun _ => True) ?hr ?hp (fun _ hk => hk) trivial (Below.refl _ _) (Nat.le_refl _) (by simp) ?_; (case hd => rfl); (case hg => rfl); (case hr => first | (go_simp; done) | (go_simp; rfl)); (case hp => exact (Reps.one (show Kd.M (Kd.int .u8) _ _ _ (wd h 5 / 16777216 % 256) [.int .u8 (wd h 5 / 16777216 % 256)] from rfl) (Reps.one (show Kd.M (Kd.int .u8) _ _ _ (wd h 5 / 65536 % 256) [.int .u8 (wd h 5 / 65536 % 256)] from rfl) (Reps.one (show Kd.M (Kd.int .u8) _ _ _ (wd h 5 / 256 % 256) [.int .u8 (wd h 5 / 256 % 256)] from rfl) (Reps.one (show Kd.M (Kd.int .u8) _ _ _ (wd h 5 % 256) [.int .u8 (wd h 5 % 256)] from rfl) (Reps.none _ _)))))); intro vl wl hol hbl hg_ hnew_; clear hg_ hnew_; obtain ⟨Y, hY⟩ : ∃ Y : List Int, [wd h 5 / 16777216 % 256, wd h 5 / 65536 % 256, wd h 5 / 256 % 256, wd h 5 % 256] = Y := ⟨_, rfl⟩; have HY := Aside0.mk hY; rw [hY] at hol; clear hY; have HRl := Aside0.mk (Kd.R_below HRr.out hbl); have HBl := Aside0.mk (below_step HBr.out hbl); have HOl := Aside0.mk hol; clear hol hbl; obtain ⟨Al, cl, el⟩ := Kd.R_slice HOl.out; subst el)
                      | ((with_reducible refine gate_builtin (b := .append) (xs := #[.tmp 72, .tmp 84]) rfl ?_); at_builtin; refine Kd.R_append_row (Value.int .u8) (0 : Int) (h1 := fun _ => rfl) (w0 := w) w.heap.size rfl (.tmp 72) (.tmp 84) 28 5 (.int .u8 0) 1 rfl Try.underlying28 Q.info5 rfl (by decide) (.slice A xs.length c) xs Y Al Y.length cl (fun _ => True) rfl rfl (fun _ _ => trivial) HRl.out (Kd.R_reads' HOl.out).2.2 HBl.out HBl.out.size ?hl ?_; (case hl => have := HXL.out; rw [← HY.out]; simp; omega); intro v3 w3 hr hbl hg hat; have hex := Kd.R_slice hr; obtain ⟨A3, k3, hv⟩ := hex; rw [hv] at hr; rw [hv]; have HR3 := Aside0.mk hr; have HB3 := Aside0.mk hbl; clear hr hbl hg hat hv))
                    go_roundg 2
                    case measure => decide
                    case rel =>
                      refine ⟨6, A3, k3, xs ++ Y, rfl, by first | rfl | simp, HR3, HB3, ⟨rfl, by decide, ?_⟩⟩
                      rw [HJ.out.2.2, ← HY.out]; exact (outN_succ h 5).symm
                  · obtain rfl : i = 4 := by have := HJ.out.1; omega
                    have HXL := Aside0.mk (show xs.length ≤ 1000 by rw [HJ.out.2.2, outN_len]; omega)
                    have hix : ∀ W : World, (Instr.index 37 (.agg #[.int .u32 (wd h 0), .int .u32 (wd h 1), .int .u32 (wd h 2), .int .u32 (wd h 3), .int .u32 (wd h 4), .int .u32 (wd h 5), .int .u32 (wd h 6), .int .u32 (wd h 7)]) (.int .i64 4)).run Try.prog W = .ok (.int .u32 (wd h 4)) W := fun _ => rfl
                    go_wp2_with (first
                      | ((with_reducible refine gate_dst (N := 84) rfl ?_); refine Kd.R_lit (Kd.int .u8) _ 5 ?hg (N := 84) ?hd (xs := ([wd h 4 / 16777216 % 256, wd h 4 / 65536 % 256, wd h 4 / 256 % 256, wd h 4 % 256] : List Int)) (inner := [.int .u8 (wd h 4 / 16777216 % 256), .int .u8 (wd h 4 / 65536 % 256), .int .u8 (wd h 4 / 256 % 256), .int .u8 (wd h 4 % 256)]) (ok := fun _ => True) (okp := fun _ => True) ?hr ?hp (fun _ hk => hk) trivial (Below.refl _ _) (Nat.le_refl _) (by simp) ?_; (case hd => rfl); (case hg => rfl); (case hr => first | (go_simp; done) | (go_simp; rfl)); (case hp => exact (Reps.one (show Kd.M (Kd.int .u8) _ _ _ (wd h 4 / 16777216 % 256) [.int .u8 (wd h 4 / 16777216 % 256)] from rfl) (Reps.one (show Kd.M (Kd.int .u8) _ _ _ (wd h 4 / 65536 % 256) [.int .u8 (wd h 4 / 65536 % 256)] from rfl) (Reps.one (show Kd.M (Kd.int .u8) _ _ _ (wd h 4 / 256 % 256) [.int .u8 (wd h 4 / 256 % 256)] from rfl) (Reps.one (show Kd.M (Kd.int .u8) _ _ _ (wd h 4 % 256) [.int .u8 (wd h 4 % 256)] from rfl) (Reps.none _ _)))))); intro vl wl hol hbl hg_ hnew_; clear hg_ hnew_; obtain ⟨Y, hY⟩ : ∃ Y : List Int, [wd h 4 / 16777216 % 256, wd h 4 / 65536 % 256, wd h 4 / 256 % 256, wd h 4 % 256] = Y := ⟨_, rfl⟩; have HY := Aside0.mk hY; rw [hY] at hol; clear hY; have HRl := Aside0.mk (Kd.R_below HRr.out hbl); have HBl := Aside0.mk (below_step HBr.out hbl); have HOl := Aside0.mk hol; clear hol hbl; obtain ⟨Al, cl, el⟩ := Kd.R_slice HOl.out; subst el)
                      | ((with_reducible refine gate_builtin (b := .append) (xs := #[.tmp 72, .tmp 84]) rfl ?_); at_builtin; refine Kd.R_append_row (Value.int .u8) (0 : Int) (h1 := fun _ => rfl) (w0 := w) w.heap.size rfl (.tmp 72) (.tmp 84) 28 5 (.int .u8 0) 1 rfl Try.underlying28 Q.info5 rfl (by decide) (.slice A xs.length c) xs Y Al Y.length cl (fun _ => True) rfl rfl (fun _ _ => trivial) HRl.out (Kd.R_reads' HOl.out).2.2 HBl.out HBl.out.size ?hl ?_; (case hl => have := HXL.out; rw [← HY.out]; simp; omega); intro v3 w3 hr hbl hg hat; have hex := Kd.R_slice hr; obtain ⟨A3, k3, hv⟩ := hex; rw [hv] at hr; rw [hv]; have HR3 := Aside0.mk hr; have HB3 := Aside0.mk hbl; clear hr hbl hg hat hv))
                    go_roundg 3
                    case measure => decide
                    case rel =>
                      refine ⟨5, A3, k3, xs ++ Y, rfl, by first | rfl | simp, HR3, HB3, ⟨rfl, by decide, ?_⟩⟩
                      rw [HJ.out.2.2, ← HY.out]; exact (outN_succ h 4).symm
                  · obtain rfl : i = 3 := by have := HJ.out.1; omega
                    have HXL := Aside0.mk (show xs.length ≤ 1000 by rw [HJ.out.2.2, outN_len]; omega)
                    have hix : ∀ W : World, (Instr.index 37 (.agg #[.int .u32 (wd h 0), .int .u32 (wd h 1), .int .u32 (wd h 2), .int .u32 (wd h 3), .int .u32 (wd h 4), .int .u32 (wd h 5), .int .u32 (wd h 6), .int .u32 (wd h 7)]) (.int .i64 3)).run Try.prog W = .ok (.int .u32 (wd h 3)) W := fun _ => rfl
                    go_wp2_with (first
                      | ((with_reducible refine gate_dst (N := 84) rfl ?_); refine Kd.R_lit (Kd.int .u8) _ 5 ?hg (N := 84) ?hd (xs := ([wd h 3 / 16777216 % 256, wd h 3 / 65536 % 256, wd h 3 / 256 % 256, wd h 3 % 256] : List Int)) (inner := [.int .u8 (wd h 3 / 16777216 % 256), .int .u8 (wd h 3 / 65536 % 256), .int .u8 (wd h 3 / 256 % 256), .int .u8 (wd h 3 % 256)]) (ok := fun _ => True) (okp := fun _ => True) ?hr ?hp (fun _ hk => hk) trivial (Below.refl _ _) (Nat.le_refl _) (by simp) ?_; (case hd => rfl); (case hg => rfl); (case hr => first | (go_simp; done) | (go_simp; rfl)); (case hp => exact (Reps.one (show Kd.M (Kd.int .u8) _ _ _ (wd h 3 / 16777216 % 256) [.int .u8 (wd h 3 / 16777216 % 256)] from rfl) (Reps.one (show Kd.M (Kd.int .u8) _ _ _ (wd h 3 / 65536 % 256) [.int .u8 (wd h 3 / 65536 % 256)] from rfl) (Reps.one (show Kd.M (Kd.int .u8) _ _ _ (wd h 3 / 256 % 256) [.int .u8 (wd h 3 / 256 % 256)] from rfl) (Reps.one (show Kd.M (Kd.int .u8) _ _ _ (wd h 3 % 256) [.int .u8 (wd h 3 % 256)] from rfl) (Reps.none _ _)))))); intro vl wl hol hbl hg_ hnew_; clear hg_ hnew_; obtain ⟨Y, hY⟩ : ∃ Y : List Int, [wd h 3 / 16777216 % 256, wd h 3 / 65536 % 256, wd h 3 / 256 % 256, wd h 3 % 256] = Y := ⟨_, rfl⟩; have HY := Aside0.mk hY; rw [hY] at hol; clear hY; have HRl := Aside0.mk (Kd.R_below HRr.out hbl); have HBl := Aside0.mk (below_step HBr.out hbl); have HOl := Aside0.mk hol; clear hol hbl; obtain ⟨Al, cl, el⟩ := Kd.R_slice HOl.out; subst el)
                      | ((with_reducible refine gate_builtin (b := .append) (xs := #[.tmp 72, .tmp 84]) rfl ?_); at_builtin; refine Kd.R_append_row (Value.int .u8) (0 : Int) (h1 := fun _ => rfl) (w0 := w) w.heap.size rfl (.tmp 72) (.tmp 84) 28 5 (.int .u8 0) 1 rfl Try.underlying28 Q.info5 rfl (by decide) (.slice A xs.length c) xs Y Al Y.length cl (fun _ => True) rfl rfl (fun _ _ => trivial) HRl.out (Kd.R_reads' HOl.out).2.2 HBl.out HBl.out.size ?hl ?_; (case hl => have := HXL.out; rw [← HY.out]; simp; omega); intro v3 w3 hr hbl hg hat; have hex := Kd.R_slice hr; obtain ⟨A3, k3, hv⟩ := hex; rw [hv] at hr; rw [hv]; have HR3 := Aside0.mk hr; have HB3 := Aside0.mk hbl; clear hr hbl hg hat hv))
                    go_roundg 4
                    case measure => decide
                    case rel =>
                      refine ⟨4, A3, k3, xs ++ Y, rfl, by first | rfl | simp, HR3, HB3, ⟨rfl, by decide, ?_⟩⟩
                      rw [HJ.out.2.2, ← HY.out]; exact (outN_succ h 3).symm
                  · obtain rfl : i = 2 := by have := HJ.out.1; omega
                    have HXL := Aside0.mk (show xs.length ≤ 1000 by rw [HJ.out.2.2, outN_len]; omega)
                    have hix : ∀ W : World, (Instr.index 37 (.agg #[.int .u32 (wd h 0), .int .u32 (wd h 1), .int .u32 (wd h 2), .int .u32 (wd h 3), .int .u32 (wd h 4), .int .u32 (wd h 5), .int .u32 (wd h 6), .int .u32 (wd h 7)]) (.int .i64 2)).run Try.prog W = .ok (.int .u32 (wd h 2)) W := fun _ => rfl
                    go_wp2_with (first
                      | ((with_reducible refine gate_dst (N := 84) rfl ?_); refine Kd.R_lit (Kd.int .u8) _ 5 ?hg (N := 84) ?hd (xs := ([wd h 2 / 16777216 % 256, wd h 2 / 65536 % 256, wd h 2 / 256 % 256, wd h 2 % 256] : List Int)) (inner := [.int .u8 (wd h 2 / 16777216 % 256), .int .u8 (wd h 2 / 65536 % 256), .int .u8 (wd h 2 / 256 % 256), .int .u8 (wd h 2 % 256)]) (ok := fun _ => True) (okp := fun _ => True) ?hr ?hp (fun _ hk => hk) trivial (Below.refl _ _) (Nat.le_refl _) (by simp) ?_; (case hd => rfl); (case hg => rfl); (case hr => first | (go_simp; done) | (go_simp; rfl)); (case hp => exact (Reps.one (show Kd.M (Kd.int .u8) _ _ _ (wd h 2 / 16777216 % 256) [.int .u8 (wd h 2 / 16777216 % 256)] from rfl) (Reps.one (show Kd.M (Kd.int .u8) _ _ _ (wd h 2 / 65536 % 256) [.int .u8 (wd h 2 / 65536 % 256)] from rfl) (Reps.one (show Kd.M (Kd.int .u8) _ _ _ (wd h 2 / 256 % 256) [.int .u8 (wd h 2 / 256 % 256)] from rfl) (Reps.one (show Kd.M (Kd.int .u8) _ _ _ (wd h 2 % 256) [.int .u8 (wd h 2 % 256)] from rfl) (Reps.none _ _)))))); intro vl wl hol hbl hg_ hnew_; clear hg_ hnew_; obtain ⟨Y, hY⟩ : ∃ Y : List Int, [wd h 2 / 16777216 % 256, wd h 2 / 65536 % 256, wd h 2 / 256 % 256, wd h 2 % 256] = Y := ⟨_, rfl⟩; have HY := Aside0.mk hY; rw [hY] at hol; clear hY; have HRl := Aside0.mk (Kd.R_below HRr.out hbl); have HBl := Aside0.mk (below_step HBr.out hbl); have HOl := Aside0.mk hol; clear hol hbl; obtain ⟨Al, cl, el⟩ := Kd.R_slice HOl.out; subst el)
                      | ((with_reducible refine gate_builtin (b := .append) (xs := #[.tmp 72, .tmp 84]) rfl ?_); at_builtin; refine Kd.R_append_row (Value.int .u8) (0 : Int) (h1 := fun _ => rfl) (w0 := w) w.heap.size rfl (.tmp 72) (.tmp 84) 28 5 (.int .u8 0) 1 rfl Try.underlying28 Q.info5 rfl (by decide) (.slice A xs.length c) xs Y Al Y.length cl (fun _ => True) rfl rfl (fun _ _ => trivial) HRl.out (Kd.R_reads' HOl.out).2.2 HBl.out HBl.out.size ?hl ?_; (case hl => have := HXL.out; rw [← HY.out]; simp; omega); intro v3 w3 hr hbl hg hat; have hex := Kd.R_slice hr; obtain ⟨A3, k3, hv⟩ := hex; rw [hv] at hr; rw [hv]; have HR3 := Aside0.mk hr; have HB3 := Aside0.mk hbl; clear hr hbl hg hat hv))
                    go_roundg 5
                    case measure => decide
                    case rel =>
                      refine ⟨3, A3, k3, xs ++ Y, rfl, by first | rfl | simp, HR3, HB3, ⟨rfl, by decide, ?_⟩⟩
                      rw [HJ.out.2.2, ← HY.out]; exact (outN_succ h 2).symm
                  · obtain rfl : i = 1 := by have := HJ.out.1; omega
                    have HXL := Aside0.mk (show xs.length ≤ 1000 by rw [HJ.out.2.2, outN_len]; omega)
                    have hix : ∀ W : World, (Instr.index 37 (.agg #[.int .u32 (wd h 0), .int .u32 (wd h 1), .int .u32 (wd h 2), .int .u32 (wd h 3), .int .u32 (wd h 4), .int .u32 (wd h 5), .int .u32 (wd h 6), .int .u32 (wd h 7)]) (.int .i64 1)).run Try.prog W = .ok (.int .u32 (wd h 1)) W := fun _ => rfl
                    go_wp2_with (first
                      | ((with_reducible refine gate_dst (N := 84) rfl ?_); refine Kd.R_lit (Kd.int .u8) _ 5 ?hg (N := 84) ?hd (xs := ([wd h 1 / 16777216 % 256, wd h 1 / 65536 % 256, wd h 1 / 256 % 256, wd h 1 % 256] : List Int)) (inner := [.int .u8 (wd h 1 / 16777216 % 256), .int .u8 (wd h 1 / 65536 % 256), .int .u8 (wd h 1 / 256 % 256), .int .u8 (wd h 1 % 256)]) (ok := fun _ => True) (okp := fun _ => True) ?hr ?hp (fun _ hk => hk) trivial (Below.refl _ _) (Nat.le_refl _) (by simp) ?_; (case hd => rfl); (case hg => rfl); (case hr => first | (go_simp; done) | (go_simp; rfl)); (case hp => exact (Reps.one (show Kd.M (Kd.int .u8) _ _ _ (wd h 1 / 16777216 % 256) [.int .u8 (wd h 1 / 16777216 % 256)] from rfl) (Reps.one (show Kd.M (Kd.int .u8) _ _ _ (wd h 1 / 65536 % 256) [.int .u8 (wd h 1 / 65536 % 256)] from rfl) (Reps.one (show Kd.M (Kd.int .u8) _ _ _ (wd h 1 / 256 % 256) [.int .u8 (wd h 1 / 256 % 256)] from rfl) (Reps.one (show Kd.M (Kd.int .u8) _ _ _ (wd h 1 % 256) [.int .u8 (wd h 1 % 256)] from rfl) (Reps.none _ _)))))); intro vl wl hol hbl hg_ hnew_; clear hg_ hnew_; obtain ⟨Y, hY⟩ : ∃ Y : List Int, [wd h 1 / 16777216 % 256, wd h 1 / 65536 % 256, wd h 1 / 256 % 256, wd h 1 % 256] = Y := ⟨_, rfl⟩; have HY := Aside0.mk hY; rw [hY] at hol; clear hY; have HRl := Aside0.mk (Kd.R_below HRr.out hbl); have HBl := Aside0.mk (below_step HBr.out hbl); have HOl := Aside0.mk hol; clear hol hbl; obtain ⟨Al, cl, el⟩ := Kd.R_slice HOl.out; subst el)
                      | ((with_reducible refine gate_builtin (b := .append) (xs := #[.tmp 72, .tmp 84]) rfl ?_); at_builtin; refine Kd.R_append_row (Value.int .u8) (0 : Int) (h1 := fun _ => rfl) (w0 := w) w.heap.size rfl (.tmp 72) (.tmp 84) 28 5 (.int .u8 0) 1 rfl Try.underlying28 Q.info5 rfl (by decide) (.slice A xs.length c) xs Y Al Y.length cl (fun _ => True) rfl rfl (fun _ _ => trivial) HRl.out (Kd.R_reads' HOl.out).2.2 HBl.out HBl.out.size ?hl ?_; (case hl => have := HXL.out; rw [← HY.out]; simp; omega); intro v3 w3 hr hbl hg hat; have hex := Kd.R_slice hr; obtain ⟨A3, k3, hv⟩ := hex; rw [hv] at hr; rw [hv]; have HR3 := Aside0.mk hr; have HB3 := Aside0.mk hbl; clear hr hbl hg hat hv))
                    go_roundg 6
                    case measure => decide
                    case rel =>
                      refine ⟨2, A3, k3, xs ++ Y, rfl, by first | rfl | simp, HR3, HB3, ⟨rfl, by decide, ?_⟩⟩
                      rw [HJ.out.2.2, ← HY.out]; exact (outN_succ h 1).symm
                  · obtain rfl : i = 0 := by have := HJ.out.1; omega
                    have HXL := Aside0.mk (show xs.length ≤ 1000 by rw [HJ.out.2.2, outN_len]; omega)
                    have hix : ∀ W : World, (Instr.index 37 (.agg #[.int .u32 (wd h 0), .int .u32 (wd h 1), .int .u32 (wd h 2), .int .u32 (wd h 3), .int .u32 (wd h 4), .int .u32 (wd h 5), .int .u32 (wd h 6), .int .u32 (wd h 7)]) (.int .i64 0)).run Try.prog W = .ok (.int .u32 (wd h 0)) W := fun _ => rfl
                    go_wp2_with (first
                      | ((with_reducible refine gate_dst (N := 84) rfl ?_); refine Kd.R_lit (Kd.int .u8) _ 5 ?hg (N := 84) ?hd (xs := ([wd h 0 / 16777216 % 256, wd h 0 / 65536 % 256, wd h 0 / 256 % 256, wd h 0 % 256] : List Int)) (inner := [.int .u8 (wd h 0 / 16777216 % 256), .int .u8 (wd h 0 / 65536 % 256), .int .u8 (wd h 0 / 256 % 256), .int .u8 (wd h 0 % 256)]) (ok := fun _ => True) (okp := fun _ => True) ?hr ?hp (fun _ hk => hk) trivial (Below.refl _ _) (Nat.le_refl _) (by simp) ?_; (case hd => rfl); (case hg => rfl); (case hr => first | (go_simp; done) | (go_simp; rfl)); (case hp => exact (Reps.one (show Kd.M (Kd.int .u8) _ _ _ (wd h 0 / 16777216 % 256) [.int .u8 (wd h 0 / 16777216 % 256)] from rfl) (Reps.one (show Kd.M (Kd.int .u8) _ _ _ (wd h 0 / 65536 % 256) [.int .u8 (wd h 0 / 65536 % 256)] from rfl) (Reps.one (show Kd.M (Kd.int .u8) _ _ _ (wd h 0 / 256 % 256) [.int .u8 (wd h 0 / 256 % 256)] from rfl) (Reps.one (show Kd.M (Kd.int .u8) _ _ _ (wd h 0 % 256) [.int .u8 (wd h 0 % 256)] from rfl) (Reps.none _ _)))))); intro vl wl hol hbl hg_ hnew_; clear hg_ hnew_; obtain ⟨Y, hY⟩ : ∃ Y : List Int, [wd h 0 / 16777216 % 256, wd h 0 / 65536 % 256, wd h 0 / 256 % 256, wd h 0 % 256] = Y := ⟨_, rfl⟩; have HY := Aside0.mk hY; rw [hY] at hol; clear hY; have HRl := Aside0.mk (Kd.R_below HRr.out hbl); have HBl := Aside0.mk (below_step HBr.out hbl); have HOl := Aside0.mk hol; clear hol hbl; obtain ⟨Al, cl, el⟩ := Kd.R_slice HOl.out; subst el)
                      | ((with_reducible refine gate_builtin (b := .append) (xs := #[.tmp 72, .tmp 84]) rfl ?_); at_builtin; refine Kd.R_append_row (Value.int .u8) (0 : Int) (h1 := fun _ => rfl) (w0 := w) w.heap.size rfl (.tmp 72) (.tmp 84) 28 5 (.int .u8 0) 1 rfl Try.underlying28 Q.info5 rfl (by decide) (.slice A xs.length c) xs Y Al Y.length cl (fun _ => True) rfl rfl (fun _ _ => trivial) HRl.out (Kd.R_reads' HOl.out).2.2 HBl.out HBl.out.size ?hl ?_; (case hl => have := HXL.out; rw [← HY.out]; simp; omega); intro v3 w3 hr hbl hg hat; have hex := Kd.R_slice hr; obtain ⟨A3, k3, hv⟩ := hex; rw [hv] at hr; rw [hv]; have HR3 := Aside0.mk hr; have HB3 := Aside0.mk hbl; clear hr hbl hg hat hv))
                    go_roundg 7
                    case measure => decide
                    case rel =>
                      refine ⟨1, A3, k3, xs ++ Y, rfl, by first | rfl | simp, HR3, HB3, ⟨rfl, by decide, ?_⟩⟩
                      rw [HJ.out.2.2, ← HY.out]; exact (outN_succ h 0).symm
          · obtain rfl : i = 0 := by have := HJ.out.1; omega
            have HXL := Aside0.mk (show xs.length ≤ 1000 by rw [HJ.out.2.2, HX1.out]; have := HLM.out; simp [zs, len8]; omega)
            go_wp2_with (((with_reducible refine gate_builtin (b := .append) (xs := #[.tmp 48, .tmp 57]) rfl ?_); at_builtin; refine Kd.R_append (Kd.int .u8) (w0 := w) w.heap.size rfl (.tmp 48) (.tmp 57) 28 5 (.int .u8 0) 1 rfl Try.underlying28 Q.info5 rfl (by decide) (by omega) (.slice A xs.length c) (xs) (n * 8 % 256) [.int .u8 (n * 8 % 256)] (fun _ => True) (fun _ => False) rfl rfl ?aP (fun _ hk => hk.elim) ?aF ?aO ?aB ?aS ?aL ?_; (case aP => exact rfl); (case aF => exact (fun _ _ => trivial)); (case aO => exact HRr.out); (case aB => exact HBr.out); (case aS => exact HBr.out.size); (case aL => have := HXL.out; omega); intro v3 w3 hr hbl hg hat; have hex := Kd.R_slice hr; obtain ⟨A3, k3, hv⟩ := hex; rw [hv] at hr; rw [hv]; have HR3 := Aside0.mk hr; have HB3 := Aside0.mk hbl; have BK3 := Aside0.mk (blk_grown BKq.out HRr.out hg); clear hr hbl hg hat hv))
            go_roundg 0
            case measure => decide
            case rel =>
              refine ⟨-1, A3, k3, xs ++ [n * 8 % 256], rfl, by simp, HR3, BK3, HB3, ⟨rfl, by decide, ?_⟩⟩
              rw [HJ.out.2.2, List.append_assoc, show 8 - 0 = 7 + 1 from rfl, len8_take m.length 7 (by decide)]
              congr 3
              rw [show (256 : Nat) ^ (7 - 7) = 1 by decide]
              have := Hn.out
              omega
          · obtain rfl : i = 1 := by have := HJ.out.1; omega
            have HXL := Aside0.mk (show xs.length ≤ 1000 by rw [HJ.out.2.2, HX1.out]; have := HLM.out; simp [zs, len8]; omega)
            go_wp2_with (((with_reducible refine gate_builtin (b := .append) (xs := #[.tmp 48, .tmp 57]) rfl ?_); at_builtin; refine Kd.R_append (Kd.int .u8) (w0 := w) w.heap.size rfl (.tmp 48) (.tmp 57) 28 5 (.int .u8 0) 1 rfl Try.underlying28 Q.info5 rfl (by decide) (by omega) (.slice A xs.length c) (xs) (n * 8 / 256 % 256) [.int .u8 (n * 8 / 256 % 256)] (fun _ => True) (fun _ => False) rfl rfl ?aP (fun _ hk => hk.elim) ?aF ?aO ?aB ?aS ?aL ?_; (case aP => exact rfl); (case aF => exact (fun _ _ => trivial)); (case aO => exact HRr.out); (case aB => exact HBr.out); (case aS => exact HBr.out.size); (case aL => have := HXL.out; omega); intro v3 w3 hr hbl hg hat; have hex := Kd.R_slice hr; obtain ⟨A3, k3, hv⟩ := hex; rw [hv] at hr; rw [hv]; have HR3 := Aside0.mk hr; have HB3 := Aside0.mk hbl; have BK3 := Aside0.mk (blk_grown BKq.out HRr.out hg); clear hr hbl hg hat hv))
            go_roundg 1
            case measure => decide
            case rel =>
              refine ⟨0, A3, k3, xs ++ [n * 8 / 256 % 256], rfl, by simp, HR3, BK3, HB3, ⟨rfl, by decide, ?_⟩⟩
              rw [HJ.out.2.2, List.append_assoc, show 8 - 1 = 6 + 1 from rfl, len8_take m.length 6 (by decide)]
              congr 3
              rw [show (256 : Nat) ^ (7 - 6) = 256 by decide]
              have := Hn.out
              omega
          · obtain rfl : i = 2 := by have := HJ.out.1; omega
            have HXL := Aside0.mk (show xs.length ≤ 1000 by rw [HJ.out.2.2, HX1.out]; have := HLM.out; simp [zs, len8]; omega)
            go_wp2_with (((with_reducible refine gate_builtin (b := .append) (xs := #[.tmp 48, .tmp 57]) rfl ?_); at_builtin; refine Kd.R_append (Kd.int .u8) (w0 := w) w.heap.size rfl (.tmp 48) (.tmp 57) 28 5 (.int .u8 0) 1 rfl Try.underlying28 Q.info5 rfl (by decide) (by omega) (.slice A xs.length c) (xs) (n * 8 / 65536 % 256) [.int .u8 (n * 8 / 65536 % 256)] (fun _ => True) (fun _ => False) rfl rfl ?aP (fun _ hk => hk.elim) ?aF ?aO ?aB ?aS ?aL ?_; (case aP => exact rfl); (case aF => exact (fun _ _ => trivial)); (case aO => exact HRr.out); (case aB => exact HBr.out); (case aS => exact HBr.out.size); (case aL => have := HXL.out; omega); intro v3 w3 hr hbl hg hat; have hex := Kd.R_slice hr; obtain ⟨A3, k3, hv⟩ := hex; rw [hv] at hr; rw [hv]; have HR3 := Aside0.mk hr; have HB3 := Aside0.mk hbl; have BK3 := Aside0.mk (blk_grown BKq.out HRr.out hg); clear hr hbl hg hat hv))
            go_roundg 2
            case measure => decide
            case rel =>
              refine ⟨1, A3, k3, xs ++ [n * 8 / 65536 % 256], rfl, by simp, HR3, BK3, HB3, ⟨rfl, by decide, ?_⟩⟩
              rw [HJ.out.2.2, List.append_assoc, show 8 - 2 = 5 + 1 from rfl, len8_take m.length 5 (by decide)]
              congr 3
              rw [show (256 : Nat) ^ (7 - 5) = 65536 by decide]
              have := Hn.out
              omega
          · obtain rfl : i = 3 := by have := HJ.out.1; omega
            have HXL := Aside0.mk (show xs.length ≤ 1000 by rw [HJ.out.2.2, HX1.out]; have := HLM.out; simp [zs, len8]; omega)
            go_wp2_with (((with_reducible refine gate_builtin (b := .append) (xs := #[.tmp 48, .tmp 57]) rfl ?_); at_builtin; refine Kd.R_append (Kd.int .u8) (w0 := w) w.heap.size rfl (.tmp 48) (.tmp 57) 28 5 (.int .u8 0) 1 rfl Try.underlying28 Q.info5 rfl (by decide) (by omega) (.slice A xs.length c) (xs) (n * 8 / 16777216 % 256) [.int .u8 (n * 8 / 16777216 % 256)] (fun _ => True) (fun _ => False) rfl rfl ?aP (fun _ hk => hk.elim) ?aF ?aO ?aB ?aS ?aL ?_; (case aP => exact rfl); (case aF => exact (fun _ _ => trivial)); (case aO => exact HRr.out); (case aB => exact HBr.out); (case aS => exact HBr.out.size); (case aL => have := HXL.out; omega); intro v3 w3 hr hbl hg hat; have hex := Kd.R_slice hr; obtain ⟨A3, k3, hv⟩ := hex; rw [hv] at hr; rw [hv]; have HR3 := Aside0.mk hr; have HB3 := Aside0.mk hbl; have BK3 := Aside0.mk (blk_grown BKq.out HRr.out hg); clear hr hbl hg hat hv))
            go_roundg 3
            case measure => decide
            case rel =>
              refine ⟨2, A3, k3, xs ++ [n * 8 / 16777216 % 256], rfl, by simp, HR3, BK3, HB3, ⟨rfl, by decide, ?_⟩⟩
              rw [HJ.out.2.2, List.append_assoc, show 8 - 3 = 4 + 1 from rfl, len8_take m.length 4 (by decide)]
              congr 3
              rw [show (256 : Nat) ^ (7 - 4) = 16777216 by decide]
              have := Hn.out
              omega
          · obtain rfl : i = 4 := by have := HJ.out.1; omega
            have HXL := Aside0.mk (show xs.length ≤ 1000 by rw [HJ.out.2.2, HX1.out]; have := HLM.out; simp [zs, len8]; omega)
            go_wp2_with (((with_reducible refine gate_builtin (b := .append) (xs := #[.tmp 48, .tmp 57]) rfl ?_); at_builtin; refine Kd.R_append (Kd.int .u8) (w0 := w) w.heap.size rfl (.tmp 48) (.tmp 57) 28 5 (.int .u8 0) 1 rfl Try.underlying28 Q.info5 rfl (by decide) (by omega) (.slice A xs.length c) (xs) (n * 8 / 4294967296) [.int .u8 (n * 8 / 4294967296)] (fun _ => True) (fun _ => False) rfl rfl ?aP (fun _ hk => hk.elim) ?aF ?aO ?aB ?aS ?aL ?_; (case aP => exact rfl); (case aF => exact (fun _ _ => trivial)); (case aO => exact HRr.out); (case aB => exact HBr.out); (case aS => exact HBr.out.size); (case aL => have := HXL.out; omega); intro v3 w3 hr hbl hg hat; have hex := Kd.R_slice hr; obtain ⟨A3, k3, hv⟩ := hex; rw [hv] at hr; rw [hv]; have HR3 := Aside0.mk hr; have HB3 := Aside0.mk hbl; have BK3 := Aside0.mk (blk_grown BKq.out HRr.out hg); clear hr hbl hg hat hv))
            go_roundg 4
            case measure => decide
            case rel =>
              refine ⟨3, A3, k3, xs ++ [n * 8 / 4294967296], rfl, by simp, HR3, BK3, HB3, ⟨rfl, by decide, ?_⟩⟩
              rw [HJ.out.2.2, List.append_assoc, show 8 - 4 = 3 + 1 from rfl, len8_take m.length 3 (by decide)]
              congr 3
              rw [show (256 : Nat) ^ (7 - 3) = 4294967296 by decide]
              have := Hn.out
              omega
          · obtain rfl : i = 5 := by have := HJ.out.1; omega
            have HXL := Aside0.mk (show xs.length ≤ 1000 by rw [HJ.out.2.2, HX1.out]; have := HLM.out; simp [zs, len8]; omega)
            go_wp2_with (((with_reducible refine gate_builtin (b := .append) (xs := #[.tmp 48, .tmp 57]) rfl ?_); at_builtin; refine Kd.R_append (Kd.int .u8) (w0 := w) w.heap.size rfl (.tmp 48) (.tmp 57) 28 5 (.int .u8 0) 1 rfl Try.underlying28 Q.info5 rfl (by decide) (by omega) (.slice A xs.length c) (xs) (n * 8 / 1099511627776) [.int .u8 (n * 8 / 1099511627776)] (fun _ => True) (fun _ => False) rfl rfl ?aP (fun _ hk => hk.elim) ?aF ?aO ?aB ?aS ?aL ?_; (case aP => exact rfl); (case aF => exact (fun _ _ => trivial)); (case aO => exact HRr.out); (case aB => exact HBr.out); (case aS => exact HBr.out.size); (case aL => have := HXL.out; omega); intro v3 w3 hr hbl hg hat; have hex := Kd.R_slice hr; obtain ⟨A3, k3, hv⟩ := hex; rw [hv] at hr; rw [hv]; have HR3 := Aside0.mk hr; have HB3 := Aside0.mk hbl; have BK3 := Aside0.mk (blk_grown BKq.out HRr.out hg); clear hr hbl hg hat hv))
            go_roundg 5
            case measure => decide
            case rel =>
              refine ⟨4, A3, k3, xs ++ [n * 8 / 1099511627776], rfl, by simp, HR3, BK3, HB3, ⟨rfl, by decide, ?_⟩⟩
              rw [HJ.out.2.2, List.append_assoc, show 8 - 5 = 2 + 1 from rfl, len8_take m.length 2 (by decide)]
              congr 3
              rw [show (256 : Nat) ^ (7 - 2) = 1099511627776 by decide]
              have := Hn.out
              omega
          · obtain rfl : i = 6 := by have := HJ.out.1; omega
            have HXL := Aside0.mk (show xs.length ≤ 1000 by rw [HJ.out.2.2, HX1.out]; have := HLM.out; simp [zs, len8]; omega)
            go_wp2_with (((with_reducible refine gate_builtin (b := .append) (xs := #[.tmp 48, .tmp 57]) rfl ?_); at_builtin; refine Kd.R_append (Kd.int .u8) (w0 := w) w.heap.size rfl (.tmp 48) (.tmp 57) 28 5 (.int .u8 0) 1 rfl Try.underlying28 Q.info5 rfl (by decide) (by omega) (.slice A xs.length c) (xs) (n * 8 / 281474976710656) [.int .u8 (n * 8 / 281474976710656)] (fun _ => True) (fun _ => False) rfl rfl ?aP (fun _ hk => hk.elim) ?aF ?aO ?aB ?aS ?aL ?_; (case aP => exact rfl); (case aF => exact (fun _ _ => trivial)); (case aO => exact HRr.out); (case aB => exact HBr.out); (case aS => exact HBr.out.size); (case aL => have := HXL.out; omega); intro v3 w3 hr hbl hg hat; have hex := Kd.R_slice hr; obtain ⟨A3, k3, hv⟩ := hex; rw [hv] at hr; rw [hv]; have HR3 := Aside0.mk hr; have HB3 := Aside0.mk hbl; have BK3 := Aside0.mk (blk_grown BKq.out HRr.out hg); clear hr hbl hg hat hv))
            go_roundg 6
            case measure => decide
            case rel =>
              refine ⟨5, A3, k3, xs ++ [n * 8 / 281474976710656], rfl, by simp, HR3, BK3, HB3, ⟨rfl, by decide, ?_⟩⟩
              rw [HJ.out.2.2, List.append_assoc, show 8 - 6 = 1 + 1 from rfl, len8_take m.length 1 (by decide)]
              congr 3
              rw [show (256 : Nat) ^ (7 - 1) = 281474976710656 by decide]
              have := Hn.out
              omega
          · obtain rfl : i = 7 := by have := HJ.out.1; omega
            have HXL := Aside0.mk (show xs.length ≤ 1000 by rw [HJ.out.2.2, HX1.out]; have := HLM.out; simp [zs, len8]; omega)
            go_wp2_with (((with_reducible refine gate_builtin (b := .append) (xs := #[.tmp 48, .tmp 57]) rfl ?_); at_builtin; refine Kd.R_append (Kd.int .u8) (w0 := w) w.heap.size rfl (.tmp 48) (.tmp 57) 28 5 (.int .u8 0) 1 rfl Try.underlying28 Q.info5 rfl (by decide) (by omega) (.slice A xs.length c) (xs) (n * 8 / 72057594037927936) [.int .u8 (n * 8 / 72057594037927936)] (fun _ => True) (fun _ => False) rfl rfl ?aP (fun _ hk => hk.elim) ?aF ?aO ?aB ?aS ?aL ?_; (case aP => exact rfl); (case aF => exact (fun _ _ => trivial)); (case aO => exact HRr.out); (case aB => exact HBr.out); (case aS => exact HBr.out.size); (case aL => have := HXL.out; omega); intro v3 w3 hr hbl hg hat; have hex := Kd.R_slice hr; obtain ⟨A3, k3, hv⟩ := hex; rw [hv] at hr; rw [hv]; have HR3 := Aside0.mk hr; have HB3 := Aside0.mk hbl; have BK3 := Aside0.mk (blk_grown BKq.out HRr.out hg); clear hr hbl hg hat hv))
            go_roundg 7
            case measure => decide
            case rel =>
              refine ⟨6, A3, k3, xs ++ [n * 8 / 72057594037927936], rfl, by simp, HR3, BK3, HB3, ⟨rfl, by decide, ?_⟩⟩
              rw [HJ.out.2.2, List.append_assoc, show 8 - 7 = 0 + 1 from rfl, len8_take m.length 0 (by decide)]
              congr 3
              rw [show (256 : Nat) ^ (7 - 0) = 72057594037927936 by decide]
              have := Hn.out
              omega
      · have t1 : (((xs.length : Int) % 64) != 56) = true := by
          have := HLEN.out; have := HJK.out; unfold zs at this
          rw [bne_iff_ne]; omega
        have HZ := Aside0.mk hz
        clear hz
        go_wp2_with (((with_reducible refine gate_builtin (b := .append) (xs := #[.tmp 41, .tmp 42]) rfl ?_); at_builtin; refine Kd.R_append (Kd.int .u8) (w0 := w) w.heap.size rfl (.tmp 41) (.tmp 42) 28 5 (.int .u8 0) 1 rfl Try.underlying28 Q.info5 rfl (by decide) (by omega) (.slice A xs.length c) (xs) (0) [.int .u8 0] (fun _ => True) (fun _ => False) rfl rfl ?aP (fun _ hk => hk.elim) ?aF ?aO ?aB ?aS ?aL ?_; (case aP => exact rfl); (case aF => exact (fun _ _ => trivial)); (case aO => exact HRr.out); (case aB => exact HBr.out); (case aS => exact HBr.out.size); (case aL => have := HLEN.out; have := HJK.out; unfold zs at this; omega); intro v2 w2 hr hbl hg hat; have hex := Kd.R_slice hr; obtain ⟨A2, k2, hv⟩ := hex; rw [hv] at hr; rw [hv]; have HR2 := Aside0.mk hr; have HB2 := Aside0.mk hbl; have BK2 := Aside0.mk (blk_grown BKq.out HRr.out hg); clear hr hbl hg hat hv))
        go_roundg (gk - 1)
        case measure => have := HZ.out; omega
        case rel =>
          refine ⟨A2, k2, xs ++ [0], by simp, HR2, BK2, HB2, ⟨j + 1, ?_, ?_⟩⟩
          · have := HJK.out; have := HZ.out; omega
          · rw [HXS.out, List.append_assoc, List.replicate_succ']; rfl
end Go.Proofs.Ytpiakeejfggocab.Strm
