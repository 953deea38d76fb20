/- The walk of the law on spans that are valid. -/
import Derived.Test.YtjlldfkkkfcohaaDrawS
import Derived.Test.YtjlldfkkkfcohaaSpn
import Derived.Test.YtjlldfkkkfcohaaRoot
import Derived.Test.YtjlldfkkkfcohaaReg2
import Derived.Test.YtjlldfkkkfcohaaPairs
namespace Go.Proofs.Ytjlldfkkkfcohaa.K
open Go.RowKit

theorem alive_any' (w : World) : Calls Try.prog 35 #[] w fun e w' => e = .returned (.bool true) ∧ w = w' := by
  have e5 : Lib.bitLen (Int.toNat 5) = 3 := by decide
  go_enter Try.func35, Try.ntmps35
  go_wp2_with (first | (go_at_call 49; refine (BitLength_in _ _ (by omega) (by omega)).mono ?_; rintro e w' ⟨rfl, rfl⟩))
  go_ret
  exact ⟨rfl, rfl⟩

/-- What a draw of a span leaves. -/
def DrewS (w : World) (e : Ending) (w' : World) : Prop := ∃ a b : Int, (-1073741825 ≤ a ∧ a ≤ 1073741825) ∧ (-1073741825 ≤ b ∧ b ≤ 1073741825) ∧ e = .returned (.agg #[.int .i64 a, .int .i64 b]) ∧ Below w.heap.size w w'

theorem DrawSpanValid_any (a : Option Addr) (len cap : Nat) (zs : List Int) (w : World) (h : IsRow .u8 w a len cap zs) : Calls Try.prog 32 #[.slice a len cap] w (DrewS w) := by
  have R := Lib.hid (h.keep (w' := w.alloc (.cells #[.int .i64 0, .int .i64 0] 24)) (balloc (Below.refl _ _) _))
  clear h
  go_enter Try.func32, Try.ntmps32
  go_wp2_with fail
  refine (l20Open_any _ _ _ _ _ R.out).mono ?_
  rintro e w0 ⟨g, hg, rfl, hr0, hb0⟩
  have hz0 := hb0.size
  simp only [World.size_alloc] at hz0 hg
  have Q0 : Pair w0 w.heap.size 0 0 24 := (hb0.block _ (by simp)).trans (Pair.new w 0 0 24)
  go_wp2_with fail
  refine (l20Span_any _ _ _ _ hr0 (by omega) (by omega) (by omega)).mono ?_
  rintro e w1 ⟨x, y, hx, hy, rfl, hr1, hg1⟩
  have Q1 := Q0.grown hg1 (by omega)
  obtain ⟨⟨d10, d11⟩, d12, d13⟩ := Q1.cells
  have E := (Q1.set x y).cells.1
  go_wp2
  refine bodyPost_ret (v := .agg #[.int .i64 x, .int .i64 y]) (by simp [results, Try.results32, go_sem, E.1, E.2]) rfl ?_
  exact ⟨_, _, hx, hy, rfl, bset (bset (bgrow (bseq (balloc (Below.refl _ _) _) hb0) hg1 (by omega)) (by simp) _) (by simp) _⟩

theorem arr40 (t : Array Value) (h : t.size = 40) : ∃ x0 x1 x2 x3 x4 x5 x6 x7 x8 x9 x10 x11 x12 x13 x14 x15 x16 x17 x18 x19 x20 x21 x22 x23 x24 x25 x26 x27 x28 x29 x30 x31 x32 x33 x34 x35 x36 x37 x38 x39 : Value, t = #[x0, x1, x2, x3, x4, x5, x6, x7, x8, x9, x10, x11, x12, x13, x14, x15, x16, x17, x18, x19, x20, x21, x22, x23, x24, x25, x26, x27, x28, x29, x30, x31, x32, x33, x34, x35, x36, x37, x38, x39] := by
  obtain ⟨l⟩ := t
  have h40 : l.length = 40 := h
  clear h
  obtain ⟨x0, l0, rfl, h39⟩ := cons_len h40
  obtain ⟨x1, l1, rfl, h38⟩ := cons_len h39
  obtain ⟨x2, l2, rfl, h37⟩ := cons_len h38
  obtain ⟨x3, l3, rfl, h36⟩ := cons_len h37
  obtain ⟨x4, l4, rfl, h35⟩ := cons_len h36
  obtain ⟨x5, l5, rfl, h34⟩ := cons_len h35
  obtain ⟨x6, l6, rfl, h33⟩ := cons_len h34
  obtain ⟨x7, l7, rfl, h32⟩ := cons_len h33
  obtain ⟨x8, l8, rfl, h31⟩ := cons_len h32
  obtain ⟨x9, l9, rfl, h30⟩ := cons_len h31
  obtain ⟨x10, l10, rfl, h29⟩ := cons_len h30
  obtain ⟨x11, l11, rfl, h28⟩ := cons_len h29
  obtain ⟨x12, l12, rfl, h27⟩ := cons_len h28
  obtain ⟨x13, l13, rfl, h26⟩ := cons_len h27
  obtain ⟨x14, l14, rfl, h25⟩ := cons_len h26
  obtain ⟨x15, l15, rfl, h24⟩ := cons_len h25
  obtain ⟨x16, l16, rfl, h23⟩ := cons_len h24
  obtain ⟨x17, l17, rfl, h22⟩ := cons_len h23
  obtain ⟨x18, l18, rfl, h21⟩ := cons_len h22
  obtain ⟨x19, l19, rfl, h20⟩ := cons_len h21
  obtain ⟨x20, l20, rfl, h19⟩ := cons_len h20
  obtain ⟨x21, l21, rfl, h18⟩ := cons_len h19
  obtain ⟨x22, l22, rfl, h17⟩ := cons_len h18
  obtain ⟨x23, l23, rfl, h16⟩ := cons_len h17
  obtain ⟨x24, l24, rfl, h15⟩ := cons_len h16
  obtain ⟨x25, l25, rfl, h14⟩ := cons_len h15
  obtain ⟨x26, l26, rfl, h13⟩ := cons_len h14
  obtain ⟨x27, l27, rfl, h12⟩ := cons_len h13
  obtain ⟨x28, l28, rfl, h11⟩ := cons_len h12
  obtain ⟨x29, l29, rfl, h10⟩ := cons_len h11
  obtain ⟨x30, l30, rfl, h9⟩ := cons_len h10
  obtain ⟨x31, l31, rfl, h8⟩ := cons_len h9
  obtain ⟨x32, l32, rfl, h7⟩ := cons_len h8
  obtain ⟨x33, l33, rfl, h6⟩ := cons_len h7
  obtain ⟨x34, l34, rfl, h5⟩ := cons_len h6
  obtain ⟨x35, l35, rfl, h4⟩ := cons_len h5
  obtain ⟨x36, l36, rfl, h3⟩ := cons_len h4
  obtain ⟨x37, l37, rfl, h2⟩ := cons_len h3
  obtain ⟨x38, l38, rfl, h1⟩ := cons_len h2
  obtain ⟨x39, l39, rfl, h0⟩ := cons_len h1
  obtain rfl := List.eq_nil_of_length_eq_zero h0
  exact ⟨x0, x1, x2, x3, x4, x5, x6, x7, x8, x9, x10, x11, x12, x13, x14, x15, x16, x17, x18, x19, x20, x21, x22, x23, x24, x25, x26, x27, x28, x29, x30, x31, x32, x33, x34, x35, x36, x37, x38, x39, rfl⟩

theorem SpanValid_is (b : Bool) (l h : Int) (w : World) (hb : decide (SV l h) = b) : Calls Try.prog 33 #[.agg #[.int .i64 l, .int .i64 h]] w fun e w' => e = .returned (.bool b) ∧ Below w.heap.size w w' := by
  subst hb
  by_cases v : SV l h
  · rw [decide_eq_true v]
    exact (SpanValid_yes l h w v).mono fun e w' ⟨he, hw⟩ => ⟨he, hw ▸ balloc (Below.refl _ _) _⟩
  · rw [decide_eq_false v]
    exact (SpanValid_no l h w v).mono fun e w' ⟨he, hw⟩ => ⟨he, hw ▸ balloc (Below.refl _ _) _⟩

set_option maxRecDepth 100000 in
set_option maxHeartbeats 4000000 in
theorem FnSpanValid_walk (a0 : Option Addr) (len0 cap0 : Nat) (z0 : List Int) (w : World) (w0 : IsRow .u8 w a0 len0 cap0 z0) : Calls Try.prog 11 #[.slice a0 len0 cap0] w fun e w' => e = .returned (.bool true) ∧ Below w.heap.size w w' := by
  by_cases hlen : (1048576 : Int) < (len0 : Int)
  · go_enter Try.func11, Try.ntmps11
    go_wp2
    go_ret
    exact ⟨rfl, (by repeat (first | exact Below.refl _ _ | refine balloc ?_ _ | refine bdrew ?_ | refine bdrewN ?_ _ | refine bset ?_ (by first | (simp; done) | (simp; omega)) _ | (refine bseq ?_ (by assumption)) | (refine bgrow ?_ (by assumption) (by omega))))⟩
  · have R := Lib.hid w0
    clear w0
    go_enter Try.func11, Try.ntmps11
    go_wp2_with fail
    refine (DrawSpanValid_any _ _ _ _ _ R.out).mono ?_
    rintro e w1 ⟨x, y, hx, hy, rfl, hb1⟩
    have HN : Hid (decide (SV 0 1073741825) = false) := Lib.hid (decide_eq_false (by unfold SV; omega))
    by_cases h : SV x y
    · go_wp2_with fail
      refine (SpanValid_yes _ _ _ h).mono ?_
      rintro e w' ⟨rfl, rfl⟩
      go_wp2_with fail
      refine (sSpanValid_yes _ _ _ h).mono ?_
      rintro e w' ⟨rfl, rfl⟩
      go_wp2_with fail
      have HB1 : Hid (Below w.heap.size w (((w1.alloc (.cells #[.int .i64 x, .int .i64 y] 24)).alloc (.cells #[.int .i64 x, .int .i64 y] 24)).alloc (.cells #[.int .i64 x, .int .i64 y] 24))) := Lib.hid (by repeat (first | exact Below.refl _ _ | refine balloc ?_ _ | refine bdrew ?_ | refine bdrewN ?_ _ | refine bset ?_ (by first | (simp; done) | (simp; omega)) _ | (refine bseq ?_ (by assumption)) | (refine bgrow ?_ (by assumption) (by omega))))
      have Q : Pair (((w1.alloc (.cells #[.int .i64 x, .int .i64 y] 24)).alloc (.cells #[.int .i64 x, .int .i64 y] 24)).alloc (.cells #[.int .i64 x, .int .i64 y] 24)) w1.heap.size x y 24 := ((Pair.new w1 x y _).alloc _).alloc _
      generalize (((w1.alloc (.cells #[.int .i64 x, .int .i64 y] 24)).alloc (.cells #[.int .i64 x, .int .i64 y] 24)).alloc (.cells #[.int .i64 x, .int .i64 y] 24)) = w2 at *
      have HC0 : Hid (∀ wx, Below w2.heap.size w2 wx → wx.cell? ⟨w1.heap.size, 0, none⟩ = some (.int .i64 x)) := Lib.hid fun wx hb => (Q.below hb).cells.1.1
      have HC1 : Hid (∀ wx, Below w2.heap.size w2 wx → wx.cell? ⟨w1.heap.size, 1, none⟩ = some (.int .i64 y)) := Lib.hid fun wx hb => (Q.below hb).cells.1.2
      clear Q
      by_cases e : x = y
      · subst e
        have HX : Hid (decide (SV x x) = true) := Lib.hid (decide_eq_true h)
        clear h
        refine wp_region_vals [.bool true, .bool false, .bool false, .pointer (some ⟨w1.heap.size, 1, none⟩), .int .i64 x, .pointer (some ⟨w1.heap.size, 0, none⟩), .int .i64 x, .agg #[.int .i64 x, .int .i64 x], .bool true, .pointer (some ⟨w1.heap.size, 0, none⟩), .int .i64 x, .pointer (some ⟨w1.heap.size, 1, none⟩), .int .i64 x, .bool true, .bool true, .bool true, .bool true, .agg #[.int .i64 0, .int .i64 1073741825], .bool false, .bool true, .bool true, .bool true, .bool true, .bool true, .bool true] rfl (by kernel_rfl) (by kernel_rfl) (by simp) ⟨?o0, ?o1, ?o2, ?o3, ?o4, ?o5, ?o6, ?o7, ?o8, ?o9, ?o10, ?o11, ?o12, ?o13, ?o14, ?o15, ?o16, ?o17, ?o18, ?o19, ?o20, ?o21, ?o22, ?o23, ?o24, trivial⟩ ?_
        case o0 =>
          intro a wx c _ hJ hold hdep K hK
          have c0 := HC0.out wx hJ
          have c1 := HC1.out wx hJ
          refine wpOp_plain rfl rfl ?_
          have e4 : a.tmps[4]?.getD undef = .bool true := (Array.getD_eq_getD_getElem? ..).symm.trans (hold 4 (by simp))
          go_simp
          exact hK _ _ rfl hJ (fun _ _ h => h)
        case o1 =>
          intro a wx c _ hJ hold hdep K hK
          have c0 := HC0.out wx hJ
          have c1 := HC1.out wx hJ
          refine wpOp_plain rfl rfl ?_
          have e16 : a.tmps[16]?.getD undef = .bool true := (Array.getD_eq_getD_getElem? ..).symm.trans (hdep 0 _ 16 (by kernel_rfl) rfl rfl)
          go_simp
          exact hK _ _ rfl hJ (fun _ _ h => h)
        case o2 =>
          intro a wx c _ hJ hold hdep K hK
          have c0 := HC0.out wx hJ
          have c1 := HC1.out wx hJ
          refine wpOp_plain rfl rfl ?_
          have e17 : a.tmps[17]?.getD undef = .bool false := (Array.getD_eq_getD_getElem? ..).symm.trans (hdep 1 _ 17 (by kernel_rfl) rfl rfl)
          go_simp
          exact hK _ _ rfl hJ (fun _ _ h => h)
        case o3 =>
          intro a wx c _ hJ hold hdep K hK
          have c0 := HC0.out wx hJ
          have c1 := HC1.out wx hJ
          have eg : a.tmps.getD 18 undef = .bool false := hdep 2 _ 18 (by kernel_rfl) rfl rfl
          refine wpOp_taken rfl rfl rfl rfl eg ?_
          have e3 : a.tmps[3]?.getD undef = .pointer (some ⟨w1.heap.size, 0, none⟩) := (Array.getD_eq_getD_getElem? ..).symm.trans (hold 3 (by simp))
          go_simp
          exact hK _ _ rfl hJ (fun _ _ h => h)
        case o4 =>
          intro a wx c _ hJ hold hdep K hK
          have c0 := HC0.out wx hJ
          have c1 := HC1.out wx hJ
          have eg : a.tmps.getD 18 undef = .bool false := hdep 2 _ 18 (by kernel_rfl) rfl rfl
          refine wpOp_taken rfl rfl rfl rfl eg ?_
          have e19 : a.tmps[19]?.getD undef = .pointer (some ⟨w1.heap.size, 1, none⟩) := (Array.getD_eq_getD_getElem? ..).symm.trans (hdep 3 _ 19 (by kernel_rfl) rfl rfl)
          go_simp
          exact hK _ _ rfl hJ (fun _ _ h => h)
        case o5 =>
          intro a wx c _ hJ hold hdep K hK
          have c0 := HC0.out wx hJ
          have c1 := HC1.out wx hJ
          have eg : a.tmps.getD 18 undef = .bool false := hdep 2 _ 18 (by kernel_rfl) rfl rfl
          refine wpOp_taken rfl rfl rfl rfl eg ?_
          have e3 : a.tmps[3]?.getD undef = .pointer (some ⟨w1.heap.size, 0, none⟩) := (Array.getD_eq_getD_getElem? ..).symm.trans (hold 3 (by simp))
          go_simp
          exact hK _ _ rfl hJ (fun _ _ h => h)
        case o6 =>
          intro a wx c _ hJ hold hdep K hK
          have c0 := HC0.out wx hJ
          have c1 := HC1.out wx hJ
          have eg : a.tmps.getD 18 undef = .bool false := hdep 2 _ 18 (by kernel_rfl) rfl rfl
          refine wpOp_taken rfl rfl rfl rfl eg ?_
          have e21 : a.tmps[21]?.getD undef = .pointer (some ⟨w1.heap.size, 0, none⟩) := (Array.getD_eq_getD_getElem? ..).symm.trans (hdep 5 _ 21 (by kernel_rfl) rfl rfl)
          go_simp
          exact hK _ _ rfl hJ (fun _ _ h => h)
        case o7 =>
          intro a wx c _ hJ hold hdep K hK
          have c0 := HC0.out wx hJ
          have c1 := HC1.out wx hJ
          have eg : a.tmps.getD 18 undef = .bool false := hdep 2 _ 18 (by kernel_rfl) rfl rfl
          refine wpOp_taken rfl rfl rfl rfl eg ?_
          have e20 : a.tmps[20]?.getD undef = .int .i64 x := (Array.getD_eq_getD_getElem? ..).symm.trans (hdep 4 _ 20 (by kernel_rfl) rfl rfl)
          have e22 : a.tmps[22]?.getD undef = .int .i64 x := (Array.getD_eq_getD_getElem? ..).symm.trans (hdep 6 _ 22 (by kernel_rfl) rfl rfl)
          go_simp
          exact hK _ _ rfl hJ (fun _ _ h => h)
        case o8 =>
          intro a wx c _ hJ hold hdep K hK
          have c0 := HC0.out wx hJ
          have c1 := HC1.out wx hJ
          have eg : a.tmps.getD 18 undef = .bool false := hdep 2 _ 18 (by kernel_rfl) rfl rfl
          refine wpOp_taken rfl rfl rfl rfl eg ?_
          have e23 : a.tmps[23]?.getD undef = .agg #[.int .i64 x, .int .i64 x] := (Array.getD_eq_getD_getElem? ..).symm.trans (hdep 7 _ 23 (by kernel_rfl) rfl rfl)
          go_simp
          refine (SpanValid_is true _ _ wx HX.out).mono ?_
          rintro e w' ⟨rfl, hb⟩
          exact hK _ _ rfl (bseq hJ hb) (fun _ _ h => h)
        case o9 =>
          intro a wx c _ hJ hold hdep K hK
          have c0 := HC0.out wx hJ
          have c1 := HC1.out wx hJ
          have eg : a.tmps.getD 18 undef = .bool false := hdep 2 _ 18 (by kernel_rfl) rfl rfl
          refine wpOp_taken rfl rfl rfl rfl eg ?_
          have e3 : a.tmps[3]?.getD undef = .pointer (some ⟨w1.heap.size, 0, none⟩) := (Array.getD_eq_getD_getElem? ..).symm.trans (hold 3 (by simp))
          go_simp
          exact hK _ _ rfl hJ (fun _ _ h => h)
        case o10 =>
          intro a wx c _ hJ hold hdep K hK
          have c0 := HC0.out wx hJ
          have c1 := HC1.out wx hJ
          have eg : a.tmps.getD 18 undef = .bool false := hdep 2 _ 18 (by kernel_rfl) rfl rfl
          refine wpOp_taken rfl rfl rfl rfl eg ?_
          have e25 : a.tmps[25]?.getD undef = .pointer (some ⟨w1.heap.size, 0, none⟩) := (Array.getD_eq_getD_getElem? ..).symm.trans (hdep 9 _ 25 (by kernel_rfl) rfl rfl)
          go_simp
          exact hK _ _ rfl hJ (fun _ _ h => h)
        case o11 =>
          intro a wx c _ hJ hold hdep K hK
          have c0 := HC0.out wx hJ
          have c1 := HC1.out wx hJ
          have eg : a.tmps.getD 18 undef = .bool false := hdep 2 _ 18 (by kernel_rfl) rfl rfl
          refine wpOp_taken rfl rfl rfl rfl eg ?_
          have e3 : a.tmps[3]?.getD undef = .pointer (some ⟨w1.heap.size, 0, none⟩) := (Array.getD_eq_getD_getElem? ..).symm.trans (hold 3 (by simp))
          go_simp
          exact hK _ _ rfl hJ (fun _ _ h => h)
        case o12 =>
          intro a wx c _ hJ hold hdep K hK
          have c0 := HC0.out wx hJ
          have c1 := HC1.out wx hJ
          have eg : a.tmps.getD 18 undef = .bool false := hdep 2 _ 18 (by kernel_rfl) rfl rfl
          refine wpOp_taken rfl rfl rfl rfl eg ?_
          have e27 : a.tmps[27]?.getD undef = .pointer (some ⟨w1.heap.size, 1, none⟩) := (Array.getD_eq_getD_getElem? ..).symm.trans (hdep 11 _ 27 (by kernel_rfl) rfl rfl)
          go_simp
          exact hK _ _ rfl hJ (fun _ _ h => h)
        case o13 =>
          intro a wx c _ hJ hold hdep K hK
          have c0 := HC0.out wx hJ
          have c1 := HC1.out wx hJ
          have eg : a.tmps.getD 18 undef = .bool false := hdep 2 _ 18 (by kernel_rfl) rfl rfl
          refine wpOp_taken rfl rfl rfl rfl eg ?_
          have e26 : a.tmps[26]?.getD undef = .int .i64 x := (Array.getD_eq_getD_getElem? ..).symm.trans (hdep 10 _ 26 (by kernel_rfl) rfl rfl)
          have e28 : a.tmps[28]?.getD undef = .int .i64 x := (Array.getD_eq_getD_getElem? ..).symm.trans (hdep 12 _ 28 (by kernel_rfl) rfl rfl)
          go_simp
          exact hK _ _ rfl hJ (fun _ _ h => h)
        case o14 =>
          intro a wx c _ hJ hold hdep K hK
          have c0 := HC0.out wx hJ
          have c1 := HC1.out wx hJ
          have eg : a.tmps.getD 18 undef = .bool false := hdep 2 _ 18 (by kernel_rfl) rfl rfl
          refine wpOp_taken rfl rfl rfl rfl eg ?_
          have e24 : a.tmps[24]?.getD undef = .bool true := (Array.getD_eq_getD_getElem? ..).symm.trans (hdep 8 _ 24 (by kernel_rfl) rfl rfl)
          have e29 : a.tmps[29]?.getD undef = .bool true := (Array.getD_eq_getD_getElem? ..).symm.trans (hdep 13 _ 29 (by kernel_rfl) rfl rfl)
          go_simp
          exact hK _ _ rfl hJ (fun _ _ h => h)
        case o15 =>
          intro a wx c _ hJ hold hdep K hK
          have c0 := HC0.out wx hJ
          have c1 := HC1.out wx hJ
          refine wpOp_plain rfl rfl ?_
          have e18 : a.tmps[18]?.getD undef = .bool false := (Array.getD_eq_getD_getElem? ..).symm.trans (hdep 2 _ 18 (by kernel_rfl) rfl rfl)
          have e30 : a.tmps[30]?.getD undef = .bool true := (Array.getD_eq_getD_getElem? ..).symm.trans (hdep 14 _ 30 (by kernel_rfl) rfl rfl)
          go_simp
          exact hK _ _ rfl hJ (fun _ _ h => h)
        case o16 =>
          intro a wx c _ hJ hold hdep K hK
          have c0 := HC0.out wx hJ
          have c1 := HC1.out wx hJ
          refine wpOp_plain rfl rfl ?_
          have e31 : a.tmps[31]?.getD undef = .bool true := (Array.getD_eq_getD_getElem? ..).symm.trans (hdep 15 _ 31 (by kernel_rfl) rfl rfl)
          go_simp
          exact hK _ _ rfl hJ (fun _ _ h => h)
        case o17 =>
          intro a wx c _ hJ hold hdep K hK
          have c0 := HC0.out wx hJ
          have c1 := HC1.out wx hJ
          have eg : a.tmps.getD 32 undef = .bool true := hdep 16 _ 32 (by kernel_rfl) rfl rfl
          refine wpOp_taken rfl rfl rfl rfl eg ?_
          go_simp
          exact hK _ _ rfl hJ (fun _ _ h => h)
        case o18 =>
          intro a wx c _ hJ hold hdep K hK
          have c0 := HC0.out wx hJ
          have c1 := HC1.out wx hJ
          have eg : a.tmps.getD 32 undef = .bool true := hdep 16 _ 32 (by kernel_rfl) rfl rfl
          refine wpOp_taken rfl rfl rfl rfl eg ?_
          have e33 : a.tmps[33]?.getD undef = .agg #[.int .i64 0, .int .i64 1073741825] := (Array.getD_eq_getD_getElem? ..).symm.trans (hdep 17 _ 33 (by kernel_rfl) rfl rfl)
          go_simp
          refine (SpanValid_is false _ _ wx HN.out).mono ?_
          rintro e w' ⟨rfl, hb⟩
          exact hK _ _ rfl (bseq hJ hb) (fun _ _ h => h)
        case o19 =>
          intro a wx c _ hJ hold hdep K hK
          have c0 := HC0.out wx hJ
          have c1 := HC1.out wx hJ
          have eg : a.tmps.getD 32 undef = .bool true := hdep 16 _ 32 (by kernel_rfl) rfl rfl
          refine wpOp_taken rfl rfl rfl rfl eg ?_
          have e34 : a.tmps[34]?.getD undef = .bool false := (Array.getD_eq_getD_getElem? ..).symm.trans (hdep 18 _ 34 (by kernel_rfl) rfl rfl)
          go_simp
          exact hK _ _ rfl hJ (fun _ _ h => h)
        case o20 =>
          intro a wx c _ hJ hold hdep K hK
          have c0 := HC0.out wx hJ
          have c1 := HC1.out wx hJ
          refine wpOp_plain rfl rfl ?_
          have e32 : a.tmps[32]?.getD undef = .bool true := (Array.getD_eq_getD_getElem? ..).symm.trans (hdep 16 _ 32 (by kernel_rfl) rfl rfl)
          have e35 : a.tmps[35]?.getD undef = .bool true := (Array.getD_eq_getD_getElem? ..).symm.trans (hdep 19 _ 35 (by kernel_rfl) rfl rfl)
          go_simp
          exact hK _ _ rfl hJ (fun _ _ h => h)
        case o21 =>
          intro a wx c _ hJ hold hdep K hK
          have c0 := HC0.out wx hJ
          have c1 := HC1.out wx hJ
          refine wpOp_plain rfl rfl ?_
          have e36 : a.tmps[36]?.getD undef = .bool true := (Array.getD_eq_getD_getElem? ..).symm.trans (hdep 20 _ 36 (by kernel_rfl) rfl rfl)
          go_simp
          exact hK _ _ rfl hJ (fun _ _ h => h)
        case o22 =>
          intro a wx c _ hJ hold hdep K hK
          have c0 := HC0.out wx hJ
          have c1 := HC1.out wx hJ
          have eg : a.tmps.getD 37 undef = .bool true := hdep 21 _ 37 (by kernel_rfl) rfl rfl
          refine wpOp_taken rfl rfl rfl rfl eg ?_
          go_simp
          refine (alive_any' wx).mono ?_
          rintro e w' ⟨rfl, rfl⟩
          exact hK _ _ rfl hJ (fun _ _ h => h)
        case o23 =>
          intro a wx c _ hJ hold hdep K hK
          have c0 := HC0.out wx hJ
          have c1 := HC1.out wx hJ
          refine wpOp_plain rfl rfl ?_
          have e37 : a.tmps[37]?.getD undef = .bool true := (Array.getD_eq_getD_getElem? ..).symm.trans (hdep 21 _ 37 (by kernel_rfl) rfl rfl)
          have e38 : a.tmps[38]?.getD undef = .bool true := (Array.getD_eq_getD_getElem? ..).symm.trans (hdep 22 _ 38 (by kernel_rfl) rfl rfl)
          go_simp
          exact hK _ _ rfl hJ (fun _ _ h => h)
        case o24 =>
          intro a wx c _ hJ hold hdep K hK
          have c0 := HC0.out wx hJ
          have c1 := HC1.out wx hJ
          refine wpOp_plain rfl rfl ?_
          have e39 : a.tmps[39]?.getD undef = .bool true := (Array.getD_eq_getD_getElem? ..).symm.trans (hdep 23 _ 39 (by kernel_rfl) rfl rfl)
          go_simp
          exact hK _ _ rfl hJ (fun _ _ h => h)
        intro a wz hb hdef hsize hold hnew
        obtain ⟨tm, df⟩ := a
        obtain rfl : df = [] := hdef
        obtain ⟨x0, x1, x2, x3, x4, x5, x6, x7, x8, x9, x10, x11, x12, x13, x14, x15, x16, x17, x18, x19, x20, x21, x22, x23, x24, x25, x26, x27, x28, x29, x30, x31, x32, x33, x34, x35, x36, x37, x38, x39, rfl⟩ := arr40 tm hsize
        have r2 : x2 = .bool true := hnew 24 _ 2 rfl rfl
        subst r2
        clear hold hnew hsize
        go_wp2
        go_ret
        exact ⟨rfl, bseq HB1.out hb⟩
      · have HX : Hid (decide (SV y x) = false) := Lib.hid (decide_eq_false (by unfold SV at *; omega))
        have exy : (x == y) = false := by simpa using e
        clear h
        refine wp_region_vals [.bool true, .bool false, .bool false, .pointer (some ⟨w1.heap.size, 1, none⟩), .int .i64 y, .pointer (some ⟨w1.heap.size, 0, none⟩), .int .i64 x, .agg #[.int .i64 y, .int .i64 x], .bool false, .pointer (some ⟨w1.heap.size, 0, none⟩), .int .i64 x, .pointer (some ⟨w1.heap.size, 1, none⟩), .int .i64 y, .bool false, .bool true, .bool true, .bool true, .agg #[.int .i64 0, .int .i64 1073741825], .bool false, .bool true, .bool true, .bool true, .bool true, .bool true, .bool true] rfl (by kernel_rfl) (by kernel_rfl) (by simp) ⟨?o0, ?o1, ?o2, ?o3, ?o4, ?o5, ?o6, ?o7, ?o8, ?o9, ?o10, ?o11, ?o12, ?o13, ?o14, ?o15, ?o16, ?o17, ?o18, ?o19, ?o20, ?o21, ?o22, ?o23, ?o24, trivial⟩ ?_
        case o0 =>
          intro a wx c _ hJ hold hdep K hK
          have c0 := HC0.out wx hJ
          have c1 := HC1.out wx hJ
          refine wpOp_plain rfl rfl ?_
          have e4 : a.tmps[4]?.getD undef = .bool true := (Array.getD_eq_getD_getElem? ..).symm.trans (hold 4 (by simp))
          go_simp
          exact hK _ _ rfl hJ (fun _ _ h => h)
        case o1 =>
          intro a wx c _ hJ hold hdep K hK
          have c0 := HC0.out wx hJ
          have c1 := HC1.out wx hJ
          refine wpOp_plain rfl rfl ?_
          have e16 : a.tmps[16]?.getD undef = .bool true := (Array.getD_eq_getD_getElem? ..).symm.trans (hdep 0 _ 16 (by kernel_rfl) rfl rfl)
          go_simp
          exact hK _ _ rfl hJ (fun _ _ h => h)
        case o2 =>
          intro a wx c _ hJ hold hdep K hK
          have c0 := HC0.out wx hJ
          have c1 := HC1.out wx hJ
          refine wpOp_plain rfl rfl ?_
          have e17 : a.tmps[17]?.getD undef = .bool false := (Array.getD_eq_getD_getElem? ..).symm.trans (hdep 1 _ 17 (by kernel_rfl) rfl rfl)
          go_simp
          exact hK _ _ rfl hJ (fun _ _ h => h)
        case o3 =>
          intro a wx c _ hJ hold hdep K hK
          have c0 := HC0.out wx hJ
          have c1 := HC1.out wx hJ
          have eg : a.tmps.getD 18 undef = .bool false := hdep 2 _ 18 (by kernel_rfl) rfl rfl
          refine wpOp_taken rfl rfl rfl rfl eg ?_
          have e3 : a.tmps[3]?.getD undef = .pointer (some ⟨w1.heap.size, 0, none⟩) := (Array.getD_eq_getD_getElem? ..).symm.trans (hold 3 (by simp))
          go_simp
          exact hK _ _ rfl hJ (fun _ _ h => h)
        case o4 =>
          intro a wx c _ hJ hold hdep K hK
          have c0 := HC0.out wx hJ
          have c1 := HC1.out wx hJ
          have eg : a.tmps.getD 18 undef = .bool false := hdep 2 _ 18 (by kernel_rfl) rfl rfl
          refine wpOp_taken rfl rfl rfl rfl eg ?_
          have e19 : a.tmps[19]?.getD undef = .pointer (some ⟨w1.heap.size, 1, none⟩) := (Array.getD_eq_getD_getElem? ..).symm.trans (hdep 3 _ 19 (by kernel_rfl) rfl rfl)
          go_simp
          exact hK _ _ rfl hJ (fun _ _ h => h)
        case o5 =>
          intro a wx c _ hJ hold hdep K hK
          have c0 := HC0.out wx hJ
          have c1 := HC1.out wx hJ
          have eg : a.tmps.getD 18 undef = .bool false := hdep 2 _ 18 (by kernel_rfl) rfl rfl
          refine wpOp_taken rfl rfl rfl rfl eg ?_
          have e3 : a.tmps[3]?.getD undef = .pointer (some ⟨w1.heap.size, 0, none⟩) := (Array.getD_eq_getD_getElem? ..).symm.trans (hold 3 (by simp))
          go_simp
          exact hK _ _ rfl hJ (fun _ _ h => h)
        case o6 =>
          intro a wx c _ hJ hold hdep K hK
          have c0 := HC0.out wx hJ
          have c1 := HC1.out wx hJ
          have eg : a.tmps.getD 18 undef = .bool false := hdep 2 _ 18 (by kernel_rfl) rfl rfl
          refine wpOp_taken rfl rfl rfl rfl eg ?_
          have e21 : a.tmps[21]?.getD undef = .pointer (some ⟨w1.heap.size, 0, none⟩) := (Array.getD_eq_getD_getElem? ..).symm.trans (hdep 5 _ 21 (by kernel_rfl) rfl rfl)
          go_simp
          exact hK _ _ rfl hJ (fun _ _ h => h)
        case o7 =>
          intro a wx c _ hJ hold hdep K hK
          have c0 := HC0.out wx hJ
          have c1 := HC1.out wx hJ
          have eg : a.tmps.getD 18 undef = .bool false := hdep 2 _ 18 (by kernel_rfl) rfl rfl
          refine wpOp_taken rfl rfl rfl rfl eg ?_
          have e20 : a.tmps[20]?.getD undef = .int .i64 y := (Array.getD_eq_getD_getElem? ..).symm.trans (hdep 4 _ 20 (by kernel_rfl) rfl rfl)
          have e22 : a.tmps[22]?.getD undef = .int .i64 x := (Array.getD_eq_getD_getElem? ..).symm.trans (hdep 6 _ 22 (by kernel_rfl) rfl rfl)
          go_simp
          exact hK _ _ rfl hJ (fun _ _ h => h)
        case o8 =>
          intro a wx c _ hJ hold hdep K hK
          have c0 := HC0.out wx hJ
          have c1 := HC1.out wx hJ
          have eg : a.tmps.getD 18 undef = .bool false := hdep 2 _ 18 (by kernel_rfl) rfl rfl
          refine wpOp_taken rfl rfl rfl rfl eg ?_
          have e23 : a.tmps[23]?.getD undef = .agg #[.int .i64 y, .int .i64 x] := (Array.getD_eq_getD_getElem? ..).symm.trans (hdep 7 _ 23 (by kernel_rfl) rfl rfl)
          go_simp
          refine (SpanValid_is false _ _ wx HX.out).mono ?_
          rintro e w' ⟨rfl, hb⟩
          exact hK _ _ rfl (bseq hJ hb) (fun _ _ h => h)
        case o9 =>
          intro a wx c _ hJ hold hdep K hK
          have c0 := HC0.out wx hJ
          have c1 := HC1.out wx hJ
          have eg : a.tmps.getD 18 undef = .bool false := hdep 2 _ 18 (by kernel_rfl) rfl rfl
          refine wpOp_taken rfl rfl rfl rfl eg ?_
          have e3 : a.tmps[3]?.getD undef = .pointer (some ⟨w1.heap.size, 0, none⟩) := (Array.getD_eq_getD_getElem? ..).symm.trans (hold 3 (by simp))
          go_simp
          exact hK _ _ rfl hJ (fun _ _ h => h)
        case o10 =>
          intro a wx c _ hJ hold hdep K hK
          have c0 := HC0.out wx hJ
          have c1 := HC1.out wx hJ
          have eg : a.tmps.getD 18 undef = .bool false := hdep 2 _ 18 (by kernel_rfl) rfl rfl
          refine wpOp_taken rfl rfl rfl rfl eg ?_
          have e25 : a.tmps[25]?.getD undef = .pointer (some ⟨w1.heap.size, 0, none⟩) := (Array.getD_eq_getD_getElem? ..).symm.trans (hdep 9 _ 25 (by kernel_rfl) rfl rfl)
          go_simp
          exact hK _ _ rfl hJ (fun _ _ h => h)
        case o11 =>
          intro a wx c _ hJ hold hdep K hK
          have c0 := HC0.out wx hJ
          have c1 := HC1.out wx hJ
          have eg : a.tmps.getD 18 undef = .bool false := hdep 2 _ 18 (by kernel_rfl) rfl rfl
          refine wpOp_taken rfl rfl rfl rfl eg ?_
          have e3 : a.tmps[3]?.getD undef = .pointer (some ⟨w1.heap.size, 0, none⟩) := (Array.getD_eq_getD_getElem? ..).symm.trans (hold 3 (by simp))
          go_simp
          exact hK _ _ rfl hJ (fun _ _ h => h)
        case o12 =>
          intro a wx c _ hJ hold hdep K hK
          have c0 := HC0.out wx hJ
          have c1 := HC1.out wx hJ
          have eg : a.tmps.getD 18 undef = .bool false := hdep 2 _ 18 (by kernel_rfl) rfl rfl
          refine wpOp_taken rfl rfl rfl rfl eg ?_
          have e27 : a.tmps[27]?.getD undef = .pointer (some ⟨w1.heap.size, 1, none⟩) := (Array.getD_eq_getD_getElem? ..).symm.trans (hdep 11 _ 27 (by kernel_rfl) rfl rfl)
          go_simp
          exact hK _ _ rfl hJ (fun _ _ h => h)
        case o13 =>
          intro a wx c _ hJ hold hdep K hK
          have c0 := HC0.out wx hJ
          have c1 := HC1.out wx hJ
          have eg : a.tmps.getD 18 undef = .bool false := hdep 2 _ 18 (by kernel_rfl) rfl rfl
          refine wpOp_taken rfl rfl rfl rfl eg ?_
          have e26 : a.tmps[26]?.getD undef = .int .i64 x := (Array.getD_eq_getD_getElem? ..).symm.trans (hdep 10 _ 26 (by kernel_rfl) rfl rfl)
          have e28 : a.tmps[28]?.getD undef = .int .i64 y := (Array.getD_eq_getD_getElem? ..).symm.trans (hdep 12 _ 28 (by kernel_rfl) rfl rfl)
          go_simp
          exact hK _ _ rfl hJ (fun _ _ h => h)
        case o14 =>
          intro a wx c _ hJ hold hdep K hK
          have c0 := HC0.out wx hJ
          have c1 := HC1.out wx hJ
          have eg : a.tmps.getD 18 undef = .bool false := hdep 2 _ 18 (by kernel_rfl) rfl rfl
          refine wpOp_taken rfl rfl rfl rfl eg ?_
          have e24 : a.tmps[24]?.getD undef = .bool false := (Array.getD_eq_getD_getElem? ..).symm.trans (hdep 8 _ 24 (by kernel_rfl) rfl rfl)
          have e29 : a.tmps[29]?.getD undef = .bool false := (Array.getD_eq_getD_getElem? ..).symm.trans (hdep 13 _ 29 (by kernel_rfl) rfl rfl)
          go_simp
          exact hK _ _ rfl hJ (fun _ _ h => h)
        case o15 =>
          intro a wx c _ hJ hold hdep K hK
          have c0 := HC0.out wx hJ
          have c1 := HC1.out wx hJ
          refine wpOp_plain rfl rfl ?_
          have e18 : a.tmps[18]?.getD undef = .bool false := (Array.getD_eq_getD_getElem? ..).symm.trans (hdep 2 _ 18 (by kernel_rfl) rfl rfl)
          have e30 : a.tmps[30]?.getD undef = .bool true := (Array.getD_eq_getD_getElem? ..).symm.trans (hdep 14 _ 30 (by kernel_rfl) rfl rfl)
          go_simp
          exact hK _ _ rfl hJ (fun _ _ h => h)
        case o16 =>
          intro a wx c _ hJ hold hdep K hK
          have c0 := HC0.out wx hJ
          have c1 := HC1.out wx hJ
          refine wpOp_plain rfl rfl ?_
          have e31 : a.tmps[31]?.getD undef = .bool true := (Array.getD_eq_getD_getElem? ..).symm.trans (hdep 15 _ 31 (by kernel_rfl) rfl rfl)
          go_simp
          exact hK _ _ rfl hJ (fun _ _ h => h)
        case o17 =>
          intro a wx c _ hJ hold hdep K hK
          have c0 := HC0.out wx hJ
          have c1 := HC1.out wx hJ
          have eg : a.tmps.getD 32 undef = .bool true := hdep 16 _ 32 (by kernel_rfl) rfl rfl
          refine wpOp_taken rfl rfl rfl rfl eg ?_
          go_simp
          exact hK _ _ rfl hJ (fun _ _ h => h)
        case o18 =>
          intro a wx c _ hJ hold hdep K hK
          have c0 := HC0.out wx hJ
          have c1 := HC1.out wx hJ
          have eg : a.tmps.getD 32 undef = .bool true := hdep 16 _ 32 (by kernel_rfl) rfl rfl
          refine wpOp_taken rfl rfl rfl rfl eg ?_
          have e33 : a.tmps[33]?.getD undef = .agg #[.int .i64 0, .int .i64 1073741825] := (Array.getD_eq_getD_getElem? ..).symm.trans (hdep 17 _ 33 (by kernel_rfl) rfl rfl)
          go_simp
          refine (SpanValid_is false _ _ wx HN.out).mono ?_
          rintro e w' ⟨rfl, hb⟩
          exact hK _ _ rfl (bseq hJ hb) (fun _ _ h => h)
        case o19 =>
          intro a wx c _ hJ hold hdep K hK
          have c0 := HC0.out wx hJ
          have c1 := HC1.out wx hJ
          have eg : a.tmps.getD 32 undef = .bool true := hdep 16 _ 32 (by kernel_rfl) rfl rfl
          refine wpOp_taken rfl rfl rfl rfl eg ?_
          have e34 : a.tmps[34]?.getD undef = .bool false := (Array.getD_eq_getD_getElem? ..).symm.trans (hdep 18 _ 34 (by kernel_rfl) rfl rfl)
          go_simp
          exact hK _ _ rfl hJ (fun _ _ h => h)
        case o20 =>
          intro a wx c _ hJ hold hdep K hK
          have c0 := HC0.out wx hJ
          have c1 := HC1.out wx hJ
          refine wpOp_plain rfl rfl ?_
          have e32 : a.tmps[32]?.getD undef = .bool true := (Array.getD_eq_getD_getElem? ..).symm.trans (hdep 16 _ 32 (by kernel_rfl) rfl rfl)
          have e35 : a.tmps[35]?.getD undef = .bool true := (Array.getD_eq_getD_getElem? ..).symm.trans (hdep 19 _ 35 (by kernel_rfl) rfl rfl)
          go_simp
          exact hK _ _ rfl hJ (fun _ _ h => h)
        case o21 =>
          intro a wx c _ hJ hold hdep K hK
          have c0 := HC0.out wx hJ
          have c1 := HC1.out wx hJ
          refine wpOp_plain rfl rfl ?_
          have e36 : a.tmps[36]?.getD undef = .bool true := (Array.getD_eq_getD_getElem? ..).symm.trans (hdep 20 _ 36 (by kernel_rfl) rfl rfl)
          go_simp
          exact hK _ _ rfl hJ (fun _ _ h => h)
        case o22 =>
          intro a wx c _ hJ hold hdep K hK
          have c0 := HC0.out wx hJ
          have c1 := HC1.out wx hJ
          have eg : a.tmps.getD 37 undef = .bool true := hdep 21 _ 37 (by kernel_rfl) rfl rfl
          refine wpOp_taken rfl rfl rfl rfl eg ?_
          go_simp
          refine (alive_any' wx).mono ?_
          rintro e w' ⟨rfl, rfl⟩
          exact hK _ _ rfl hJ (fun _ _ h => h)
        case o23 =>
          intro a wx c _ hJ hold hdep K hK
          have c0 := HC0.out wx hJ
          have c1 := HC1.out wx hJ
          refine wpOp_plain rfl rfl ?_
          have e37 : a.tmps[37]?.getD undef = .bool true := (Array.getD_eq_getD_getElem? ..).symm.trans (hdep 21 _ 37 (by kernel_rfl) rfl rfl)
          have e38 : a.tmps[38]?.getD undef = .bool true := (Array.getD_eq_getD_getElem? ..).symm.trans (hdep 22 _ 38 (by kernel_rfl) rfl rfl)
          go_simp
          exact hK _ _ rfl hJ (fun _ _ h => h)
        case o24 =>
          intro a wx c _ hJ hold hdep K hK
          have c0 := HC0.out wx hJ
          have c1 := HC1.out wx hJ
          refine wpOp_plain rfl rfl ?_
          have e39 : a.tmps[39]?.getD undef = .bool true := (Array.getD_eq_getD_getElem? ..).symm.trans (hdep 23 _ 39 (by kernel_rfl) rfl rfl)
          go_simp
          exact hK _ _ rfl hJ (fun _ _ h => h)
        intro a wz hb hdef hsize hold hnew
        obtain ⟨tm, df⟩ := a
        obtain rfl : df = [] := hdef
        obtain ⟨x0, x1, x2, x3, x4, x5, x6, x7, x8, x9, x10, x11, x12, x13, x14, x15, x16, x17, x18, x19, x20, x21, x22, x23, x24, x25, x26, x27, x28, x29, x30, x31, x32, x33, x34, x35, x36, x37, x38, x39, rfl⟩ := arr40 tm hsize
        have r2 : x2 = .bool true := hnew 24 _ 2 rfl rfl
        subst r2
        clear hold hnew hsize
        go_wp2
        go_ret
        exact ⟨rfl, bseq HB1.out hb⟩
    · go_wp2_with fail
      refine (SpanValid_no _ _ _ h).mono ?_
      rintro e w' ⟨rfl, rfl⟩
      go_wp2_with fail
      refine (sSpanValid_no _ _ _ h).mono ?_
      rintro e w' ⟨rfl, rfl⟩
      go_wp2_with fail
      have HB1 : Hid (Below w.heap.size w (((w1.alloc (.cells #[.int .i64 x, .int .i64 y] 24)).alloc (.cells #[.int .i64 x, .int .i64 y] 24)).alloc (.cells #[.int .i64 x, .int .i64 y] 24))) := Lib.hid (by repeat (first | exact Below.refl _ _ | refine balloc ?_ _ | refine bdrew ?_ | refine bdrewN ?_ _ | refine bset ?_ (by first | (simp; done) | (simp; omega)) _ | (refine bseq ?_ (by assumption)) | (refine bgrow ?_ (by assumption) (by omega))))
      generalize (((w1.alloc (.cells #[.int .i64 x, .int .i64 y] 24)).alloc (.cells #[.int .i64 x, .int .i64 y] 24)).alloc (.cells #[.int .i64 x, .int .i64 y] 24)) = w2 at *
      clear h
      refine wp_region_vals [.bool false, .bool true, .bool true, undef, undef, undef, undef, undef, undef, undef, undef, undef, undef, undef, undef, .bool true, .bool true, .agg #[.int .i64 0, .int .i64 1073741825], .bool false, .bool true, .bool true, .bool true, .bool true, .bool true, .bool true] rfl (by kernel_rfl) (by kernel_rfl) (by simp) ⟨?o0, ?o1, ?o2, ?o3, ?o4, ?o5, ?o6, ?o7, ?o8, ?o9, ?o10, ?o11, ?o12, ?o13, ?o14, ?o15, ?o16, ?o17, ?o18, ?o19, ?o20, ?o21, ?o22, ?o23, ?o24, trivial⟩ ?_
      case o0 =>
        intro a wx c _ hJ hold hdep K hK
        refine wpOp_plain rfl rfl ?_
        have e4 : a.tmps[4]?.getD undef = .bool false := (Array.getD_eq_getD_getElem? ..).symm.trans (hold 4 (by simp))
        go_simp
        exact hK _ _ rfl hJ (fun _ _ h => h)
      case o1 =>
        intro a wx c _ hJ hold hdep K hK
        refine wpOp_plain rfl rfl ?_
        have e16 : a.tmps[16]?.getD undef = .bool false := (Array.getD_eq_getD_getElem? ..).symm.trans (hdep 0 _ 16 (by kernel_rfl) rfl rfl)
        go_simp
        exact hK _ _ rfl hJ (fun _ _ h => h)
      case o2 =>
        intro a wx c _ hJ hold hdep K hK
        refine wpOp_plain rfl rfl ?_
        have e17 : a.tmps[17]?.getD undef = .bool true := (Array.getD_eq_getD_getElem? ..).symm.trans (hdep 1 _ 17 (by kernel_rfl) rfl rfl)
        go_simp
        exact hK _ _ rfl hJ (fun _ _ h => h)
      case o3 =>
        intro a wx c _ hJ hold hdep K hK
        have eg : a.tmps.getD 18 undef = .bool true := hdep 2 _ 18 (by kernel_rfl) rfl rfl
        exact wpOp_passed rfl rfl rfl rfl eg (by decide) (hK _ _ rfl hJ (fun _ _ h => h))
      case o4 =>
        intro a wx c _ hJ hold hdep K hK
        have eg : a.tmps.getD 18 undef = .bool true := hdep 2 _ 18 (by kernel_rfl) rfl rfl
        exact wpOp_passed rfl rfl rfl rfl eg (by decide) (hK _ _ rfl hJ (fun _ _ h => h))
      case o5 =>
        intro a wx c _ hJ hold hdep K hK
        have eg : a.tmps.getD 18 undef = .bool true := hdep 2 _ 18 (by kernel_rfl) rfl rfl
        exact wpOp_passed rfl rfl rfl rfl eg (by decide) (hK _ _ rfl hJ (fun _ _ h => h))
      case o6 =>
        intro a wx c _ hJ hold hdep K hK
        have eg : a.tmps.getD 18 undef = .bool true := hdep 2 _ 18 (by kernel_rfl) rfl rfl
        exact wpOp_passed rfl rfl rfl rfl eg (by decide) (hK _ _ rfl hJ (fun _ _ h => h))
      case o7 =>
        intro a wx c _ hJ hold hdep K hK
        have eg : a.tmps.getD 18 undef = .bool true := hdep 2 _ 18 (by kernel_rfl) rfl rfl
        exact wpOp_passed rfl rfl rfl rfl eg (by decide) (hK _ _ rfl hJ (fun _ _ h => h))
      case o8 =>
        intro a wx c _ hJ hold hdep K hK
        have eg : a.tmps.getD 18 undef = .bool true := hdep 2 _ 18 (by kernel_rfl) rfl rfl
        exact wpOp_passed rfl rfl rfl rfl eg (by decide) (hK _ _ rfl hJ (fun _ _ h => h))
      case o9 =>
        intro a wx c _ hJ hold hdep K hK
        have eg : a.tmps.getD 18 undef = .bool true := hdep 2 _ 18 (by kernel_rfl) rfl rfl
        exact wpOp_passed rfl rfl rfl rfl eg (by decide) (hK _ _ rfl hJ (fun _ _ h => h))
      case o10 =>
        intro a wx c _ hJ hold hdep K hK
        have eg : a.tmps.getD 18 undef = .bool true := hdep 2 _ 18 (by kernel_rfl) rfl rfl
        exact wpOp_passed rfl rfl rfl rfl eg (by decide) (hK _ _ rfl hJ (fun _ _ h => h))
      case o11 =>
        intro a wx c _ hJ hold hdep K hK
        have eg : a.tmps.getD 18 undef = .bool true := hdep 2 _ 18 (by kernel_rfl) rfl rfl
        exact wpOp_passed rfl rfl rfl rfl eg (by decide) (hK _ _ rfl hJ (fun _ _ h => h))
      case o12 =>
        intro a wx c _ hJ hold hdep K hK
        have eg : a.tmps.getD 18 undef = .bool true := hdep 2 _ 18 (by kernel_rfl) rfl rfl
        exact wpOp_passed rfl rfl rfl rfl eg (by decide) (hK _ _ rfl hJ (fun _ _ h => h))
      case o13 =>
        intro a wx c _ hJ hold hdep K hK
        have eg : a.tmps.getD 18 undef = .bool true := hdep 2 _ 18 (by kernel_rfl) rfl rfl
        exact wpOp_passed rfl rfl rfl rfl eg (by decide) (hK _ _ rfl hJ (fun _ _ h => h))
      case o14 =>
        intro a wx c _ hJ hold hdep K hK
        have eg : a.tmps.getD 18 undef = .bool true := hdep 2 _ 18 (by kernel_rfl) rfl rfl
        exact wpOp_passed rfl rfl rfl rfl eg (by decide) (hK _ _ rfl hJ (fun _ _ h => h))
      case o15 =>
        intro a wx c _ hJ hold hdep K hK
        refine wpOp_plain rfl rfl ?_
        have e18 : a.tmps[18]?.getD undef = .bool true := (Array.getD_eq_getD_getElem? ..).symm.trans (hdep 2 _ 18 (by kernel_rfl) rfl rfl)
        have e30 : a.tmps[30]?.getD undef = undef := (Array.getD_eq_getD_getElem? ..).symm.trans (hdep 14 _ 30 (by kernel_rfl) rfl rfl)
        go_simp
        exact hK _ _ rfl hJ (fun _ _ h => h)
      case o16 =>
        intro a wx c _ hJ hold hdep K hK
        refine wpOp_plain rfl rfl ?_
        have e31 : a.tmps[31]?.getD undef = .bool true := (Array.getD_eq_getD_getElem? ..).symm.trans (hdep 15 _ 31 (by kernel_rfl) rfl rfl)
        go_simp
        exact hK _ _ rfl hJ (fun _ _ h => h)
      case o17 =>
        intro a wx c _ hJ hold hdep K hK
        have eg : a.tmps.getD 32 undef = .bool true := hdep 16 _ 32 (by kernel_rfl) rfl rfl
        refine wpOp_taken rfl rfl rfl rfl eg ?_
        go_simp
        exact hK _ _ rfl hJ (fun _ _ h => h)
      case o18 =>
        intro a wx c _ hJ hold hdep K hK
        have eg : a.tmps.getD 32 undef = .bool true := hdep 16 _ 32 (by kernel_rfl) rfl rfl
        refine wpOp_taken rfl rfl rfl rfl eg ?_
        have e33 : a.tmps[33]?.getD undef = .agg #[.int .i64 0, .int .i64 1073741825] := (Array.getD_eq_getD_getElem? ..).symm.trans (hdep 17 _ 33 (by kernel_rfl) rfl rfl)
        go_simp
        refine (SpanValid_is false _ _ wx HN.out).mono ?_
        rintro e w' ⟨rfl, hb⟩
        exact hK _ _ rfl (bseq hJ hb) (fun _ _ h => h)
      case o19 =>
        intro a wx c _ hJ hold hdep K hK
        have eg : a.tmps.getD 32 undef = .bool true := hdep 16 _ 32 (by kernel_rfl) rfl rfl
        refine wpOp_taken rfl rfl rfl rfl eg ?_
        have e34 : a.tmps[34]?.getD undef = .bool false := (Array.getD_eq_getD_getElem? ..).symm.trans (hdep 18 _ 34 (by kernel_rfl) rfl rfl)
        go_simp
        exact hK _ _ rfl hJ (fun _ _ h => h)
      case o20 =>
        intro a wx c _ hJ hold hdep K hK
        refine wpOp_plain rfl rfl ?_
        have e32 : a.tmps[32]?.getD undef = .bool true := (Array.getD_eq_getD_getElem? ..).symm.trans (hdep 16 _ 32 (by kernel_rfl) rfl rfl)
        have e35 : a.tmps[35]?.getD undef = .bool true := (Array.getD_eq_getD_getElem? ..).symm.trans (hdep 19 _ 35 (by kernel_rfl) rfl rfl)
        go_simp
        exact hK _ _ rfl hJ (fun _ _ h => h)
      case o21 =>
        intro a wx c _ hJ hold hdep K hK
        refine wpOp_plain rfl rfl ?_
        have e36 : a.tmps[36]?.getD undef = .bool true := (Array.getD_eq_getD_getElem? ..).symm.trans (hdep 20 _ 36 (by kernel_rfl) rfl rfl)
        go_simp
        exact hK _ _ rfl hJ (fun _ _ h => h)
      case o22 =>
        intro a wx c _ hJ hold hdep K hK
        have eg : a.tmps.getD 37 undef = .bool true := hdep 21 _ 37 (by kernel_rfl) rfl rfl
        refine wpOp_taken rfl rfl rfl rfl eg ?_
        go_simp
        refine (alive_any' wx).mono ?_
        rintro e w' ⟨rfl, rfl⟩
        exact hK _ _ rfl hJ (fun _ _ h => h)
      case o23 =>
        intro a wx c _ hJ hold hdep K hK
        refine wpOp_plain rfl rfl ?_
        have e37 : a.tmps[37]?.getD undef = .bool true := (Array.getD_eq_getD_getElem? ..).symm.trans (hdep 21 _ 37 (by kernel_rfl) rfl rfl)
        have e38 : a.tmps[38]?.getD undef = .bool true := (Array.getD_eq_getD_getElem? ..).symm.trans (hdep 22 _ 38 (by kernel_rfl) rfl rfl)
        go_simp
        exact hK _ _ rfl hJ (fun _ _ h => h)
      case o24 =>
        intro a wx c _ hJ hold hdep K hK
        refine wpOp_plain rfl rfl ?_
        have e39 : a.tmps[39]?.getD undef = .bool true := (Array.getD_eq_getD_getElem? ..).symm.trans (hdep 23 _ 39 (by kernel_rfl) rfl rfl)
        go_simp
        exact hK _ _ rfl hJ (fun _ _ h => h)
      intro a wz hb hdef hsize hold hnew
      obtain ⟨tm, df⟩ := a
      obtain rfl : df = [] := hdef
      obtain ⟨x0, x1, x2, x3, x4, x5, x6, x7, x8, x9, x10, x11, x12, x13, x14, x15, x16, x17, x18, x19, x20, x21, x22, x23, x24, x25, x26, x27, x28, x29, x30, x31, x32, x33, x34, x35, x36, x37, x38, x39, rfl⟩ := arr40 tm hsize
      have r2 : x2 = .bool true := hnew 24 _ 2 rfl rfl
      subst r2
      clear hold hnew hsize
      go_wp2
      go_ret
      exact ⟨rfl, bseq HB1.out hb⟩

end Go.Proofs.Ytjlldfkkkfcohaa.K
