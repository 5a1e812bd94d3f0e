/- Small words of this session's own beside the printed words: a string made of a row that may begin inside its block; what is asked of the world. -/
import Derived.Test.YtcmmlemajlhjoaaDoorWMore
import Derived.Laws.Cover3
import Derived.Lib.LaidTab
import Derived.Shelf.Strconv.Itoa3
import Derived.Test.YtcmmlemajlhjoaaDoorProg
import Derived.KernelRfl
set_option linter.unusedVariables false
namespace Go.Proofs.YtcmmlemajlhjoaaDoor.Ext
open Go Go.RowKit Go.Proofs.YtcmmlemajlhjoaaDoorW.PrintWords Go.Proofs.YtcmmlemajlhjoaaDoorW.PrintLast Go.Proofs.YtcmmlemajlhjoaaDoorW.PrintMore
theorem q_string {P : Program} {w : World} {src dst e e' : TypeId} {base : Nat} {ok : Nat → Prop} {v : Value} {xs : List Int} (hs : P.underlying src = some (.slice e)) (he : P.underlying e = some (.int .u8)) (hd : P.underlying dst = some .string)
    (h : (Kd.int .u8).Q e' w base ok v xs) : (convert src dst v).run P w = .ok (.string (strOfNums xs)) w := by
  obtain ⟨A, c, rfl, hl⟩ := Kd.Q_slice h
  exact Kd.C_string hs he hd (Kd.Q_reads' h).2.2
/-- The variable internal/bytealg.MaxLen holds some integer; the table of strconv's is as it is laid. -/
structure G (w : World) : Prop where mk ::
  out : ∃ m : Int, w.cell? ⟨1, 0, none⟩ = some (.int .i64 m)
  tab : Lib.TabIs Tryd.prog w "internal/strconv.uint64pow10" .u64 Lib.pow10Tab
theorem G.step {w W : World} (h : Below w.heap.size w W) (g : G w) : G W := by
  obtain ⟨m, hm⟩ := g.out
  refine ⟨⟨m, pw_cell_below h hm⟩, ?_⟩
  have hv := g.tab
  have hg : Tryd.prog.globalNamed "internal/strconv.uint64pow10" = some 0 := by kernel_rfl
  unfold Lib.TabIs World.var? at hv ⊢
  simp only [hg, Option.bind_some] at hv ⊢
  have hlt : 0 < w.heap.size := by
    rcases Nat.lt_or_ge 0 w.heap.size with h' | h'
    · exact h'
    · simp [Array.getElem?_eq_none h'] at hv
  rw [h.block _ hlt]
  exact hv
theorem G.drewN {w : World} {n : Nat} (g : G w) : G (w.drewN n) := ⟨g.out, g.tab⟩
theorem G.drew {w : World} (g : G w) : G w.drew := ⟨g.out, g.tab⟩
/-- A row that is nil just where it is empty, asked whether it is nil. -/
theorem nil_equal {P : Program} {α : Type} {d : Kd α} {T e e' : TypeId} (hT : P.underlying T = some (.slice e')) {w : World} {base : Nat} {v : Value} {xs : List α} (h : d.R e w base (fun _ => xs ≠ []) v xs) (W : World) :
    (Op.equal T v (.slice none 0 0)).run P W = .ok ((xs.length : Int) == 0) W := by
  obtain ⟨A, c, rfl⟩ := Kd.R_slice h
  have := run_equal_slice_nil (P := P) W T e' A xs.length c hT
  rw [this]
  congr 1
  cases A with
  | none =>
    have hn : xs = [] := by
      cases xs with
      | nil => rfl
      | cons x r =>
        obtain ⟨a, cc, ha, _⟩ := Kd.C_get (Kd.R_reads' h).2.2 x 0 (by omega) (by simp only [List.length_cons]; omega)
        cases ha
    rw [hn]; rfl
  | some a =>
    have hn : xs ≠ [] := h.1 a.block rfl
    cases xs with
    | nil => exact absurd rfl hn
    | cons x r => simp; omega
theorem nil_eql {P : Program} {α : Type} {d : Kd α} {T e e' : TypeId} (hT : P.underlying T = some (.slice e')) {w : World} {base : Nat} {v : Value} {xs : List α} (h : d.R e w base (fun _ => xs ≠ []) v xs) (W : World) :
    (binOp .eql T v (.slice none 0 0)).run P W = .ok (.bool ((xs.length : Int) == 0)) W := by
  simp only [binOp]
  simp [nil_equal hT h W]
theorem nil_neq {P : Program} {α : Type} {d : Kd α} {T e e' : TypeId} (hT : P.underlying T = some (.slice e')) {w : World} {base : Nat} {v : Value} {xs : List α} (h : d.R e w base (fun _ => xs ≠ []) v xs) (W : World) :
    (binOp .neq T v (.slice none 0 0)).run P W = .ok (.bool ((xs.length : Int) != 0)) W := by
  simp only [binOp]
  simp [nil_equal hT h W, bne]
theorem nil_guard {α : Type} {d : Kd α} {e : TypeId} {w : World} {base : Nat} {ok : Nat → Prop} {v : Value} {xs : List α} (h : d.R e w base ok v xs) (op : BinOp) (T : TypeId) (x y : Operand) :
    eqGuard op T x y v (.slice none 0 0) = pure () := by
  obtain ⟨A, c, rfl⟩ := Kd.R_slice h
  cases op <;> rfl
theorem conv_u32 (a b : Int) (h0 : 0 < b) (h1 : b ≤ 4294967296) : wrap64 ((IntKind.u32.wrap a).tmod b) = a % 4294967296 % b := by
  have e : IntKind.u32.wrap a = a % 4294967296 := rfl
  have h2 : 0 ≤ a % 4294967296 := Int.emod_nonneg _ (by decide)
  rw [e, Int.tmod_eq_emod_of_nonneg h2]
  have h3 := Int.emod_nonneg (a % 4294967296) (show b ≠ 0 by omega)
  have h4 := Int.emod_lt_of_pos (a % 4294967296) h0
  generalize a % 4294967296 % b = c at *
  unfold wrap64; omega
end Go.Proofs.YtcmmlemajlhjoaaDoor.Ext
