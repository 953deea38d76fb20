/- What the walks of LongText use of strings.Builder: its check and WriteString, at this program's numbers. -/
import Derived.Test.YtbnmkbkjoofekaaDoorBase
import Derived.Test.YtbnmkbkjoofekaaDoorShelf
import Derived.Lib.Builder
import Derived.Lib.AppendStr
import Derived.Lib.UnsafeStr
import Derived.Lib.MakeNoZero
import Derived.Lib.Strings
import Derived.Lib.Slices
import Derived.Lib.Walk
import Derived.Laws.Externs
import Derived.Laws.IdiomCopy
import Derived.Laws.BitsLemmas
import Derived.OwnWalk
namespace Go.Proofs.YtbnmkbkjoofekaaDoor.K
open Go.RowKit

/-- A builder in block b that has been written to. -/
abbrev Bld (B b : Nat) (bs : List Value) (w : World) : Prop := Lib.BuilderAt 33 5 B b (.pointer (some ⟨b, 0, none⟩)) bs w
/-- .. or not yet. -/
abbrev Bld0 (B b : Nat) (bs : List Value) (w : World) : Prop := Lib.IsBuilder 33 5 B b bs w

theorem Tryd.infoByte : (Tryd.prog.info? 5).map (fun i => (i.zero, i.size, i.bytes)) = some (some (.int .u8 0), 1, 1) := by kernel_rfl
theorem Tryd.infoBuilder : (Tryd.prog.info? 33).map (·.size) = some 2 := by kernel_rfl
theorem Tryd.liesBuilder : liesAt Tryd.prog Tryd.prog.depth 33 (2 / Tryd.prog.cellsOf 33) 0 33 1 = true := by kernel_rfl

set_option maxHeartbeats 1000000 in
theorem copyCheck_in (B b : Nat) (bs : List Value) (w : World) (h : Bld0 B b bs w) : Calls Tryd.prog 20 #[.pointer (some ⟨b, 0, none⟩)] w fun e w' => e = .returned (.tuple #[]) ∧ Bld B b bs w' ∧ Below B w w' := by
  obtain ⟨j, hj, hjs⟩ := Option.map_eq_some_iff.1 Tryd.infoBuilder
  rcases h with h | h
  · have h0 := h.cell0
    have hfz := h.frozen0
    have hsh := h.shape
    have H : Hid (Bld B b bs (w.setCell ⟨b, 0, none⟩ (.pointer (some ⟨b, 0, none⟩)))) := Lib.hid (h.used _)
    have HB : Hid (Below B w (w.setCell ⟨b, 0, none⟩ (.pointer (some ⟨b, 0, none⟩)))) := Lib.hid ((Below.refl B w).setCell (p := ⟨b, 0, none⟩) h.1 _)
    clear h
    go_enter Tryd.func20, Tryd.ntmps20
    go_wp2
    rw [Lib.run_to_unsafe w ⟨b, 0, none⟩ Tryd.underlying31 Tryd.underlying51 hj (by rw [hjs]; decide) hsh (Nat.zero_lt_succ 1)]
    simp only [Result.andThen]
    rw [Oper.upon_value]
    go_wp2
    rw [run_callFunc_extern Tryd.func25 (by kernel_rfl) (by kernel_rfl) (by kernel_rfl) (e := Extern.AbiNoEscape.same) (by kernel_rfl)]
    rw [Lib.run_noEscape]
    simp only [Result.andThen]
    rw [Oper.upon_value]
    go_wp2
    rw [Lib.run_from_unsafe w ⟨b, 0, none⟩ Tryd.underlying51 Tryd.underlying31 hj hsh Tryd.liesBuilder]
    simp only [Result.andThen]
    rw [Oper.upon_value]
    go_wp2
    go_end0
    exact ⟨rfl, H.out, HB.out⟩
  · have h0 := h.cell0
    have H := Lib.hid h
    clear h
    go_enter Tryd.func20, Tryd.ntmps20
    go_wp2
    rw [Lib.run_neq_ptr_same w _ Tryd.underlying31 hj]
    go_wp2
    go_end0
    exact ⟨rfl, H.out, Below.refl _ _⟩

set_option maxHeartbeats 1000000 in
theorem WriteString_in (B b : Nat) (bs : List Value) (s : ByteArray) (w : World) (h : Bld0 B b bs w) (hlen : bs.length + s.size ≤ 140737488355328) (hBw : B ≤ w.heap.size) :
    Calls Tryd.prog 13 #[.pointer (some ⟨b, 0, none⟩), .string s] w fun e w' => e = .returned (.tuple #[.int .i64 s.size, .nilIface]) ∧ Bld B b (bs ++ Lib.strCells s) w' ∧ Below B w w' := by
  obtain ⟨i0, hi, hz0, hz1, hz2⟩ := info_parts Tryd.infoByte
  go_enter Tryd.func13, Tryd.ntmps13
  go_wp2_with fail
  refine (copyCheck_in B b bs _ h).mono ?_
  rintro e w1 ⟨rfl, h1, hb1⟩
  obtain ⟨hB, v, hbk, hown, hne⟩ := h1
  have c0 : w1.cell? ⟨b, 0, none⟩ = some (.pointer (some ⟨b, 0, none⟩)) := by rw [Lib.cell_of_heap hbk]; rfl
  have c1 : w1.cell? ⟨b, 1, none⟩ = some v := by rw [Lib.cell_of_heap hbk]; rfl
  go_wp2_with (at_builtin; refine Lib.wpList_append_own_string _ rfl _ _ 27 9 rfl B 5 i0 Tryd.underlying27 Tryd.underlying9 hi hz0 hz1 hz2 _ _ _ rfl hown s rfl ?c3 ?c4 ?c5 ?_)
  case c3 => unfold maxLen; omega
  case c4 => omega
  case c5 => have := hb1.size; omega
  intro v' w2 hown' hgrow _
  have hlt : b < w1.heap.size := by
    rcases Nat.lt_or_ge b w1.heap.size with h' | h'
    · exact h'
    · simp [Array.getElem?_eq_none h'] at hbk
  have hb2 : w2.heap[b]? = some (.cells #[.pointer (some ⟨b, 0, none⟩), v] 33 (0, 0)) := by
    rw [hgrow.block b hlt (fun e => hne e.symm)]
    exact hbk
  have d0 : w2.cell? ⟨b, 0, none⟩ = some (.pointer (some ⟨b, 0, none⟩)) := by rw [Lib.cell_of_heap hb2]; rfl
  have d1 : w2.cell? ⟨b, 1, none⟩ = some v := by rw [Lib.cell_of_heap hb2]; rfl
  have f1 : w2.frozen? ⟨b, 1, none⟩ = false := Lib.frozen_of_heap hb2 1
  obtain ⟨ao, n', cap, rfl⟩ : ∃ ao n' cap, v' = .slice ao n' cap := by
    rcases hown'.2 with ⟨hv, _⟩ | ⟨g, cap, cur, hv, _⟩
    · exact ⟨_, _, _, hv⟩
    · exact ⟨_, _, _, hv⟩
  go_wp2
  go_ret2
  refine ⟨rfl, ?_, ?_⟩
  · exact Lib.BuilderAt.put (T := 33) (e := 5) hB hb2 (bs' := bs ++ Lib.strCells s) (by simpa [Lib.strCells_length] using hown') (by decide)
  · exact (hb1.grown hgrow (by have := hb1.size; omega) (fun k hk => (hown.lt k hk).1)).setCell (p := ⟨b, 1, none⟩) hB _

end Go.Proofs.YtbnmkbkjoofekaaDoor.K
