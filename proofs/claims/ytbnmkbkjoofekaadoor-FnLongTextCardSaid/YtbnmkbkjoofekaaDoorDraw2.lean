/- Contracts of the functions that draw numbers. -/
import Derived.Test.YtbnmkbkjoofekaaDoorDraw
namespace Go.Proofs.YtbnmkbkjoofekaaDoor.K
open Go.RowKit


/-- What the opening of a reader leaves. -/
def Opened (w : World) (e : Ending) (w' : World) : Prop := ∃ g : Nat, w.heap.size ≤ g ∧ e = .returned (.pointer (some ⟨g, 0, none⟩)) ∧ Rd w' g 0 ∧ Below w.heap.size w w'
/-- What a draw of a number leaves. -/
def DrewI (w : World) (e : Ending) (w' : World) : Prop := ∃ n : Int, -9223372036854775808 ≤ n ∧ n ≤ 9223372036854775807 ∧ e = .returned (.int .i64 n) ∧ Below w.heap.size w w'

theorem wf_u8_bd {n : Int} (h : (Lit.int .u8 n).wf = true) : 0 ≤ n ∧ n ≤ 255 := by
  simp [Lit.wf, IntKind.min, IntKind.max, IntKind.signed, IntKind.bits] at h
  omega
theorem wf_i64_bd {n : Int} (h : (Lit.int .i64 n).wf = true) : -9223372036854775808 ≤ n ∧ n ≤ 9223372036854775807 := by
  simp [Lit.wf, IntKind.min, IntKind.max, IntKind.signed, IntKind.bits] at h
  omega
theorem opened_rd (w : World) (a : Option Addr) (len cap m : Nat) (zs : List Int) (h : IsRow .u8 w a len cap zs) (hm : m ≤ len) (h2 : m ≤ 2000) :
    Rd (w.alloc (.cells #[.slice a m cap, .int .i64 0] 48)) w.heap.size 0 := by
  refine ⟨a, m, cap, 0, fun i => zs.getD i 0, heap_alloc_new w _, Nat.le_refl _, h2, fun hn => ?_⟩
  rcases h with ⟨rfl, rfl, rfl, rfl⟩ | ⟨x, rfl, hl, hc, hz, hcell, hwf⟩
  · omega
  · obtain ⟨b, off, spot⟩ := x
    have h0 := hcell 0 (by omega)
    have hs : spot = none := by simpa [Addr.add] using World.cell?_spot h0
    subst hs
    have hb : b < w.heap.size := by simpa [Addr.add] using World.block_lt_of_cell? w _ h0
    refine ⟨b, off, rfl, hb, fun i hi => ?_⟩
    have hi' : i < zs.length := by omega
    have hci := hcell i hi'
    have e : (Addr.add ⟨b, off, none⟩ i) = ⟨b, off + i, none⟩ := by unfold Addr.add; split <;> simp_all
    rw [e] at hci
    refine ⟨(World.cell?_of_block (Below.heap_alloc _ _ _ hb)).trans hci, ?_⟩
    show 0 ≤ zs.getD i 0 ∧ zs.getD i 0 ≤ 255
    rw [List.getD_eq_getElem?_getD, List.getElem?_eq_getElem hi']
    exact wf_u8_bd (hwf _ (List.getElem_mem hi'))

theorem l20Open_any (a : Option Addr) (len cap : Nat) (zs : List Int) (w : World) (h : IsRow .u8 w a len cap zs) : Calls Tryd.prog 17 #[.slice a len cap] w (Opened w) := by
  have hlc : len ≤ cap ∧ cap ≤ maxLen := by
    rcases h with ⟨_, rfl, rfl, _⟩ | ⟨x, _, hl, hc, _⟩
    · exact ⟨Nat.le_refl _, by decide⟩
    · exact ⟨hl, hc⟩
  obtain ⟨hl, hc⟩ := hlc
  unfold maxLen at hc
  by_cases hb : 2000 < len
  · have R := Lib.hid (opened_rd w a len cap 2000 zs h (by omega) (by omega))
    have hb' : (2000 : Int) < (len : Int) := by omega
    have hcap : (2000 : Int) ≤ (cap : Int) := by omega
    clear h
    go_enter Tryd.func17, Tryd.ntmps17
    go_wp2
    go_ret
    exact ⟨w.heap.size, Nat.le_refl _, rfl, R.out, (by repeat (first | exact Below.refl _ _ | refine balloc ?_ _ | refine bdrew ?_ | refine bdrewN ?_ _ | refine bset ?_ (by first | (simp; done) | (simp; omega)) _ | (refine bseq ?_ (by assumption)) | (refine bgrow ?_ (by assumption) (by omega))))⟩
  · have R := Lib.hid (opened_rd w a len cap len zs h (by omega) (by omega))
    have hb' : (len : Int) ≤ 2000 := by omega
    clear h
    go_enter Tryd.func17, Tryd.ntmps17
    go_wp2
    go_ret
    exact ⟨w.heap.size, Nat.le_refl _, rfl, R.out, (by repeat (first | exact Below.refl _ _ | refine balloc ?_ _ | refine bdrew ?_ | refine bdrewN ?_ _ | refine bset ?_ (by first | (simp; done) | (simp; omega)) _ | (refine bseq ?_ (by assumption)) | (refine bgrow ?_ (by assumption) (by omega))))⟩

theorem pow_bd {v k : Nat} {m : Nat} (hv : (v : Int) < 256) (hk : k ≤ m) : 0 ≤ (v : Int) * 2 ^ k ∧ (v : Int) * 2 ^ k ≤ 255 * 2 ^ m := by
  have p1 := pow_pos' k
  have p2 := pow_le' hk
  exact ⟨Int.mul_nonneg (by omega) (by omega), Int.mul_le_mul (by omega) p2 (by omega) (by omega)⟩






theorem IsRow.keep {k : IntKind} {w w' : World} {a : Option Addr} {len cap : Nat} {zs : List Int} (h : IsRow k w a len cap zs) (hb : Below w.heap.size w w') : IsRow k w' a len cap zs := by
  rcases h with h | ⟨x, h1, h2, h3, h4, h5, h6⟩
  · exact .inl h
  · exact .inr ⟨x, h1, h2, h3, h4, fun i hi => (hb.cell (World.block_lt_of_cell? w _ (h5 i hi))).trans (h5 i hi), h6⟩



end Go.Proofs.YtbnmkbkjoofekaaDoor.K
