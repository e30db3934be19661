/- What the walks ask of the world: package-level tables hold what their initialisers lay. It stays where nothing below the heap's end turns. -/
import Derived.Test.YtcbimnmpdpkefaaDoorShelf
import Derived.WalkSmall
import Derived.Below
namespace Go.Proofs.YtcbimnmpdpkefaaDoor
open Go.RowKit
/-- The tables of utf8. -/
structure GlobU (w : World) : Prop where
  u8 : Lib.Utf8Tabs 0 1 w
theorem GlobU.below {w w' : World} (h : GlobU w) (hb : Below w.heap.size w w') : GlobU w' := by
  refine ⟨⟨fun c hc => ?_, fun i hi => ?_⟩⟩
  · have h1 := h.u8.1 c hc
    rw [hb.cell (World.block_lt_of_cell? w _ h1)]; exact h1
  · have h1 := h.u8.2 i hi
    rw [hb.cell (World.block_lt_of_cell? w _ h1.1), hb.cell (World.block_lt_of_cell? w _ h1.2)]; exact h1
/-- The table of strconv. -/
structure GlobP (w : World) : Prop where
  pow : Lib.TabIs Tryd.prog w "internal/strconv.uint64pow10" .u64 Lib.pow10Tab
theorem g0 : Tryd.prog.globalNamed "internal/strconv.uint64pow10" = some 2 := by kernel_rfl
theorem GlobP.below {w w' : World} (h : GlobP w) (hb : Below w.heap.size w w') : GlobP w' := by
  refine ⟨var?_below hb g0 ?_ h.pow⟩
  have h1 := h.pow
  unfold Lib.TabIs World.var? at h1
  rw [g0] at h1
  simp only [Option.bind_some] at h1
  rcases Nat.lt_or_ge 2 w.heap.size with h2 | h2
  · exact h2
  · rw [Array.getElem?_eq_none h2] at h1; cases h1
end Go.Proofs.YtcbimnmpdpkefaaDoor
