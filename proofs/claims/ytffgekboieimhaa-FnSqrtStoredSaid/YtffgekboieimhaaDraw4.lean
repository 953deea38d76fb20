/- The contract of the draw of stored numbers: its one statement leaves its order open. -/
import Derived.Test.YtffgekboieimhaaReg2
import Derived.Test.YtffgekboieimhaaPairs
namespace Go.Proofs.Ytffgekboieimhaa.K
open Go.RowKit
theorem rem_in (x m : Int) (h : 0 ≤ x) (hm : 0 ≤ m) (hm' : m ≤ 268435455) : ∃ R : Int, 0 ≤ R ∧ R ≤ 536870912 ∧ x.tmod (2 * m + 2) = R ∧ x % (2 * m + 2) = R ∧ IntKind.i64.wrap (x.tmod (2 * m + 2)) = R := by
  have e : x.tmod (2 * m + 2) = x % (2 * m + 2) := Int.tmod_eq_emod_of_nonneg h
  have a1 := Int.emod_nonneg x (b := 2 * m + 2) (by omega)
  have a2 := Int.emod_lt_of_pos x (b := 2 * m + 2) (by omega)
  exact ⟨x % (2 * m + 2), a1, by omega, e, rfl, by rw [e]; exact IntWalk.i64_in _ (by omega)⟩
theorem arr77 (t : Array Value) (h : t.size = 77) : ∃ x0 x1 x2 x3 x4 x5 x6 x7 x8 x9 x10 x11 x12 x13 x14 x15 x16 x17 x18 x19 x20 x21 x22 x23 x24 x25 x26 x27 x28 x29 x30 x31 x32 x33 x34 x35 x36 x37 x38 x39 x40 x41 x42 x43 x44 x45 x46 x47 x48 x49 x50 x51 x52 x53 x54 x55 x56 x57 x58 x59 x60 x61 x62 x63 x64 x65 x66 x67 x68 x69 x70 x71 x72 x73 x74 x75 x76 : Value, t = List.toArray (x0 :: x1 :: x2 :: x3 :: x4 :: x5 :: x6 :: x7 :: x8 :: x9 :: x10 :: x11 :: x12 :: x13 :: x14 :: x15 :: x16 :: x17 :: x18 :: x19 :: x20 :: x21 :: x22 :: x23 :: x24 :: x25 :: x26 :: x27 :: x28 :: x29 :: x30 :: x31 :: x32 :: x33 :: x34 :: x35 :: x36 :: x37 :: x38 :: x39 :: x40 :: x41 :: x42 :: x43 :: x44 :: x45 :: x46 :: x47 :: x48 :: x49 :: x50 :: x51 :: x52 :: x53 :: x54 :: x55 :: x56 :: x57 :: x58 :: x59 :: x60 :: x61 :: x62 :: x63 :: x64 :: x65 :: x66 :: x67 :: x68 :: x69 :: x70 :: x71 :: x72 :: x73 :: x74 :: x75 :: x76 :: []) := by
  obtain ⟨l⟩ := t
  have h77 : l.length = 77 := h
  clear h
  obtain ⟨x0, l0, rfl, h76⟩ := cons_len h77
  obtain ⟨x1, l1, rfl, h75⟩ := cons_len h76
  obtain ⟨x2, l2, rfl, h74⟩ := cons_len h75
  obtain ⟨x3, l3, rfl, h73⟩ := cons_len h74
  obtain ⟨x4, l4, rfl, h72⟩ := cons_len h73
  obtain ⟨x5, l5, rfl, h71⟩ := cons_len h72
  obtain ⟨x6, l6, rfl, h70⟩ := cons_len h71
  obtain ⟨x7, l7, rfl, h69⟩ := cons_len h70
  obtain ⟨x8, l8, rfl, h68⟩ := cons_len h69
  obtain ⟨x9, l9, rfl, h67⟩ := cons_len h68
  obtain ⟨x10, l10, rfl, h66⟩ := cons_len h67
  obtain ⟨x11, l11, rfl, h65⟩ := cons_len h66
  obtain ⟨x12, l12, rfl, h64⟩ := cons_len h65
  obtain ⟨x13, l13, rfl, h63⟩ := cons_len h64
  obtain ⟨x14, l14, rfl, h62⟩ := cons_len h63
  obtain ⟨x15, l15, rfl, h61⟩ := cons_len h62
  obtain ⟨x16, l16, rfl, h60⟩ := cons_len h61
  obtain ⟨x17, l17, rfl, h59⟩ := cons_len h60
  obtain ⟨x18, l18, rfl, h58⟩ := cons_len h59
  obtain ⟨x19, l19, rfl, h57⟩ := cons_len h58
  obtain ⟨x20, l20, rfl, h56⟩ := cons_len h57
  obtain ⟨x21, l21, rfl, h55⟩ := cons_len h56
  obtain ⟨x22, l22, rfl, h54⟩ := cons_len h55
  obtain ⟨x23, l23, rfl, h53⟩ := cons_len h54
  obtain ⟨x24, l24, rfl, h52⟩ := cons_len h53
  obtain ⟨x25, l25, rfl, h51⟩ := cons_len h52
  obtain ⟨x26, l26, rfl, h50⟩ := cons_len h51
  obtain ⟨x27, l27, rfl, h49⟩ := cons_len h50
  obtain ⟨x28, l28, rfl, h48⟩ := cons_len h49
  obtain ⟨x29, l29, rfl, h47⟩ := cons_len h48
  obtain ⟨x30, l30, rfl, h46⟩ := cons_len h47
  obtain ⟨x31, l31, rfl, h45⟩ := cons_len h46
  obtain ⟨x32, l32, rfl, h44⟩ := cons_len h45
  obtain ⟨x33, l33, rfl, h43⟩ := cons_len h44
  obtain ⟨x34, l34, rfl, h42⟩ := cons_len h43
  obtain ⟨x35, l35, rfl, h41⟩ := cons_len h42
  obtain ⟨x36, l36, rfl, h40⟩ := cons_len h41
  obtain ⟨x37, l37, rfl, h39⟩ := cons_len h40
  obtain ⟨x38, l38, rfl, h38⟩ := cons_len h39
  obtain ⟨x39, l39, rfl, h37⟩ := cons_len h38
  obtain ⟨x40, l40, rfl, h36⟩ := cons_len h37
  obtain ⟨x41, l41, rfl, h35⟩ := cons_len h36
  obtain ⟨x42, l42, rfl, h34⟩ := cons_len h35
  obtain ⟨x43, l43, rfl, h33⟩ := cons_len h34
  obtain ⟨x44, l44, rfl, h32⟩ := cons_len h33
  obtain ⟨x45, l45, rfl, h31⟩ := cons_len h32
  obtain ⟨x46, l46, rfl, h30⟩ := cons_len h31
  obtain ⟨x47, l47, rfl, h29⟩ := cons_len h30
  obtain ⟨x48, l48, rfl, h28⟩ := cons_len h29
  obtain ⟨x49, l49, rfl, h27⟩ := cons_len h28
  obtain ⟨x50, l50, rfl, h26⟩ := cons_len h27
  obtain ⟨x51, l51, rfl, h25⟩ := cons_len h26
  obtain ⟨x52, l52, rfl, h24⟩ := cons_len h25
  obtain ⟨x53, l53, rfl, h23⟩ := cons_len h24
  obtain ⟨x54, l54, rfl, h22⟩ := cons_len h23
  obtain ⟨x55, l55, rfl, h21⟩ := cons_len h22
  obtain ⟨x56, l56, rfl, h20⟩ := cons_len h21
  obtain ⟨x57, l57, rfl, h19⟩ := cons_len h20
  obtain ⟨x58, l58, rfl, h18⟩ := cons_len h19
  obtain ⟨x59, l59, rfl, h17⟩ := cons_len h18
  obtain ⟨x60, l60, rfl, h16⟩ := cons_len h17
  obtain ⟨x61, l61, rfl, h15⟩ := cons_len h16
  obtain ⟨x62, l62, rfl, h14⟩ := cons_len h15
  obtain ⟨x63, l63, rfl, h13⟩ := cons_len h14
  obtain ⟨x64, l64, rfl, h12⟩ := cons_len h13
  obtain ⟨x65, l65, rfl, h11⟩ := cons_len h12
  obtain ⟨x66, l66, rfl, h10⟩ := cons_len h11
  obtain ⟨x67, l67, rfl, h9⟩ := cons_len h10
  obtain ⟨x68, l68, rfl, h8⟩ := cons_len h9
  obtain ⟨x69, l69, rfl, h7⟩ := cons_len h8
  obtain ⟨x70, l70, rfl, h6⟩ := cons_len h7
  obtain ⟨x71, l71, rfl, h5⟩ := cons_len h6
  obtain ⟨x72, l72, rfl, h4⟩ := cons_len h5
  obtain ⟨x73, l73, rfl, h3⟩ := cons_len h4
  obtain ⟨x74, l74, rfl, h2⟩ := cons_len h3
  obtain ⟨x75, l75, rfl, h1⟩ := cons_len h2
  obtain ⟨x76, l76, rfl, h0⟩ := cons_len h1
  obtain rfl := List.eq_nil_of_length_eq_zero h0
  exact ⟨x0, x1, x2, x3, x4, x5, x6, x7, x8, x9, x10, x11, x12, x13, x14, x15, x16, x17, x18, x19, x20, x21, x22, x23, x24, x25, x26, x27, x28, x29, x30, x31, x32, x33, x34, x35, x36, x37, x38, x39, x40, x41, x42, x43, x44, x45, x46, x47, x48, x49, x50, x51, x52, x53, x54, x55, x56, x57, x58, x59, x60, x61, x62, x63, x64, x65, x66, x67, x68, x69, x70, x71, x72, x73, x74, x75, x76, rfl⟩

set_option maxRecDepth 100000 in
set_option maxHeartbeats 8000000 in
theorem l20Stored_in (B lim : Nat) (a b n : Int) (w : World) (h : Rd w B lim) (hl : lim ≤ 800000) (hn : 0 < n) (hn' : n ≤ 1000) (h1 : 1 ≤ a) (h2 : a ≤ 12) (h3 : 0 ≤ b) (h4 : b ≤ 16) : Calls Try.prog 51 #[.pointer (some ⟨B, 0, none⟩), .agg #[.int .i64 a, .int .i64 b], .int .i64 n] w (Picked w B (lim + 60) fun v => -9223372036854775808 ≤ v ∧ v ≤ 9223372036854775807) := by
  have hB := h.lt
  obtain ⟨M, eM, M1, M2⟩ : ∃ M : Int, (2 : Int) ^ (a + b).toNat = M ∧ 1 ≤ M ∧ M ≤ 268435456 := ⟨_, rfl, pow_pos' (a + b).toNat, pow_le' (k := (a + b).toNat) (m := 28) (by omega)⟩
  obtain ⟨p, ep, p1, p2⟩ : ∃ p : Int, (2 : Int) ^ b.toNat = p ∧ 1 ≤ p ∧ p ≤ 65536 := ⟨_, rfl, pow_pos' b.toNat, pow_le' (k := b.toNat) (m := 16) (by omega)⟩
  obtain ⟨m, em, m0, m1⟩ : ∃ m : Int, M - 1 = m ∧ 0 ≤ m ∧ m ≤ 268435455 := ⟨_, rfl, by omega, by omega⟩
  have EP := Lib.hid ep
  have HB0 : Hid (0 ≤ b ∧ b ≤ 16) := Lib.hid ⟨h3, h4⟩
  have HLM := Lib.hid hl
  go_enter Try.func51, Try.ntmps51
  go_wp2_with (first | (go_at_call 27; refine (sFormatValid_yes _ _ _ h1 h2 h3 h4).mono ?_; rintro e w' ⟨rfl, rfl⟩))
  have HRD : Hid (Rd ((w.alloc (.cells #[.int .i64 a, .int .i64 b] 26)).alloc (.cells #[.int .i64 a, .int .i64 b] 26)) B lim) := Lib.hid ((h.alloc _).alloc _)
  have Q : Pair ((w.alloc (.cells #[.int .i64 a, .int .i64 b] 26)).alloc (.cells #[.int .i64 a, .int .i64 b] 26)) w.heap.size a b 26 := (Pair.new w a b _).alloc _
  have HW : Hid (w.grownBy ((w.alloc (.cells #[.int .i64 a, .int .i64 b] 26)).alloc (.cells #[.int .i64 a, .int .i64 b] 26)) (some B)) := Lib.hid (by repeat (first | exact World.grownBy.refl _ _ | refine galloc ?_ _ | refine gdrew ?_ | refine gdrewN ?_ _ | (refine gseq ?_ (by assumption)) | (refine gbelow ?_ (by assumption)) | (refine gset ?_ (by first | (right; simp; done) | (right; simp; omega)) _)))
  generalize (w.alloc (.cells #[.int .i64 a, .int .i64 b] 26)).alloc (.cells #[.int .i64 a, .int .i64 b] 26) = W at *
  have HF : Hid (∀ wx, W.grownBy wx (some B) → wx.cell? ⟨w.heap.size, 1, none⟩ = some (.int .i64 b)) := Lib.hid fun wx hg => (Q.grown hg (by omega)).cells.1.2
  have hlim := HLM.out
  clear Q ep
  refine wp_region_kinds (B := B) [kIs B (.pointer (some ⟨B, 0, none⟩)), kInt B (0) (255), kInt B (-128) (127), kIs B (.pointer (some ⟨B, 0, none⟩)), kInt B (0) (255), kInt B (0) (267386880), kIs B (.pointer (some ⟨B, 0, none⟩)), kInt B (0) (255), kInt B (0) (65280), kInt B (0) (267452160), kIs B (.pointer (some ⟨B, 0, none⟩)), kInt B (0) (255), kInt B (0) (267452415), kIs B (.int .i64 m), kIs B (.int .i64 (2 * m)), kIs B (.int .i64 (2 * m + 2)), kInt B (0) (536870912), kIs B (.int .i64 m), kInt B (-536870912) (536870912), kInt B (-536870913) (536870912), kIs B (.int .i64 m), kIs B (.int .i64 m), kIs B (.int .i64 (-m)), kIs B (.int .i64 (-m - 1)), kIs B (.pointer (some ⟨w.heap.size, 1, none⟩)), kIs B (.int .i64 b), kIs B (.int .i64 p), kTab B 5 (-1073741824) (1073741824), kTab B 8 (0) (4), kIs B (.pointer (some ⟨B, 0, none⟩)), kInt B (0) (7), kCell B (0) (4), kInt B (0) (4), kCell B (-1073741824) (1073741824), kInt B (-1073741824) (1073741824), kInt B (-1073741824) (1073741824)] rfl (by kernel_rfl) (by kernel_rfl) (by simp) HRD.out ⟨?o0, ?o1, ?o2, ?o3, ?o4, ?o5, ?o6, ?o7, ?o8, ?o9, ?o10, ?o11, ?o12, ?o13, ?o14, ?o15, ?o16, ?o17, ?o18, ?o19, ?o20, ?o21, ?o22, ?o23, ?o24, ?o25, ?o26, ?o27, ?o28, ?o29, ?o30, ?o31, ?o32, ?o33, ?o34, ?o35, trivial⟩ ?_
  case o0 =>
    intro a wx c hcs hJ hold hdep K hK0
    obtain ⟨hR, hG⟩ := hJ
    have hlm := HLM.out
    replace hcs : c ≤ 36 := hcs
    have hK : ∀ v w', (kIs B (.pointer (some ⟨B, 0, none⟩))).1 v w' → (Rd w' B (_ + (c + 1)) ∧ _) → _ → K (a.put (some 21) v) w' := hK0
    clear hK0
    refine wpOp_plain rfl rfl ?_
    have e0 : a.tmps[0]?.getD undef = .pointer (some ⟨B, 0, none⟩) := (Array.getD_eq_getD_getElem? ..).symm.trans (hold 0 (by simp))
    go_simp
    exact hK _ _ rfl ⟨hR.more (by omega), hG⟩ (fun _ _ h => h)
  case o1 =>
    intro a wx c hcs hJ hold hdep K hK0
    obtain ⟨hR, hG⟩ := hJ
    have hlm := HLM.out
    replace hcs : c ≤ 36 := hcs
    have hK : ∀ v w', (kInt B (0) (255)).1 v w' → (Rd w' B (_ + (c + 1)) ∧ _) → _ → K (a.put (some 22) v) w' := hK0
    clear hK0
    refine wpOp_plain rfl rfl ?_
    have e21 : a.tmps[21]?.getD undef = .pointer (some ⟨B, 0, none⟩) := (Array.getD_eq_getD_getElem? ..).symm.trans (hdep 0 _ 21 (by kernel_rfl) rfl rfl)
    go_simp
    refine (pick_any _ _ _ _ hR (by omega)).mono ?_
    rintro e w' ⟨v, hv, rfl, hr, hg⟩
    exact hK _ _ (kInt_mk (by omega) (by omega)) ⟨hr.more (by omega), gseq hG hg⟩ (fun j x h => kindAt_keep hg j x h)
  case o2 =>
    intro a wx c hcs hJ hold hdep K hK0
    obtain ⟨hR, hG⟩ := hJ
    have hlm := HLM.out
    replace hcs : c ≤ 36 := hcs
    have hK : ∀ v w', (kInt B (-128) (127)).1 v w' → (Rd w' B (_ + (c + 1)) ∧ _) → _ → K (a.put (some 23) v) w' := hK0
    clear hK0
    refine wpOp_plain rfl rfl ?_
    obtain ⟨n22, e22, l22, h22⟩ := kInt_out (lo := 0) (hi := 255) (hdep 1 _ 22 (by kernel_rfl) rfl rfl)
    rw [Array.getD_eq_getD_getElem?] at e22
    have kw := IntWalk.i64_in (n22 - 128) (by omega)
    go_simp
    exact hK _ _ (kInt_mk (by omega) (by omega)) ⟨hR.more (by omega), hG⟩ (fun _ _ h => h)
  case o3 =>
    intro a wx c hcs hJ hold hdep K hK0
    obtain ⟨hR, hG⟩ := hJ
    have hlm := HLM.out
    replace hcs : c ≤ 36 := hcs
    have hK : ∀ v w', (kIs B (.pointer (some ⟨B, 0, none⟩))).1 v w' → (Rd w' B (_ + (c + 1)) ∧ _) → _ → K (a.put (some 24) v) w' := hK0
    clear hK0
    refine wpOp_plain rfl rfl ?_
    have e0 : a.tmps[0]?.getD undef = .pointer (some ⟨B, 0, none⟩) := (Array.getD_eq_getD_getElem? ..).symm.trans (hold 0 (by simp))
    go_simp
    exact hK _ _ rfl ⟨hR.more (by omega), hG⟩ (fun _ _ h => h)
  case o4 =>
    intro a wx c hcs hJ hold hdep K hK0
    obtain ⟨hR, hG⟩ := hJ
    have hlm := HLM.out
    replace hcs : c ≤ 36 := hcs
    have hK : ∀ v w', (kInt B (0) (255)).1 v w' → (Rd w' B (_ + (c + 1)) ∧ _) → _ → K (a.put (some 25) v) w' := hK0
    clear hK0
    refine wpOp_plain rfl rfl ?_
    have e24 : a.tmps[24]?.getD undef = .pointer (some ⟨B, 0, none⟩) := (Array.getD_eq_getD_getElem? ..).symm.trans (hdep 3 _ 24 (by kernel_rfl) rfl rfl)
    go_simp
    refine (pick_any _ _ _ _ hR (by omega)).mono ?_
    rintro e w' ⟨v, hv, rfl, hr, hg⟩
    exact hK _ _ (kInt_mk (by omega) (by omega)) ⟨hr.more (by omega), gseq hG hg⟩ (fun j x h => kindAt_keep hg j x h)
  case o5 =>
    intro a wx c hcs hJ hold hdep K hK0
    obtain ⟨hR, hG⟩ := hJ
    have hlm := HLM.out
    replace hcs : c ≤ 36 := hcs
    have hK : ∀ v w', (kInt B (0) (267386880)).1 v w' → (Rd w' B (_ + (c + 1)) ∧ _) → _ → K (a.put (some 26) v) w' := hK0
    clear hK0
    refine wpOp_plain rfl rfl ?_
    obtain ⟨n25, e25, l25, h25⟩ := kInt_out (lo := 0) (hi := 255) (hdep 4 _ 25 (by kernel_rfl) rfl rfl)
    rw [Array.getD_eq_getD_getElem?] at e25
    have kw := IntWalk.i64_in (n25 * 1048576) (by omega)
    go_simp
    exact hK _ _ (kInt_mk (by omega) (by omega)) ⟨hR.more (by omega), hG⟩ (fun _ _ h => h)
  case o6 =>
    intro a wx c hcs hJ hold hdep K hK0
    obtain ⟨hR, hG⟩ := hJ
    have hlm := HLM.out
    replace hcs : c ≤ 36 := hcs
    have hK : ∀ v w', (kIs B (.pointer (some ⟨B, 0, none⟩))).1 v w' → (Rd w' B (_ + (c + 1)) ∧ _) → _ → K (a.put (some 27) v) w' := hK0
    clear hK0
    refine wpOp_plain rfl rfl ?_
    have e0 : a.tmps[0]?.getD undef = .pointer (some ⟨B, 0, none⟩) := (Array.getD_eq_getD_getElem? ..).symm.trans (hold 0 (by simp))
    go_simp
    exact hK _ _ rfl ⟨hR.more (by omega), hG⟩ (fun _ _ h => h)
  case o7 =>
    intro a wx c hcs hJ hold hdep K hK0
    obtain ⟨hR, hG⟩ := hJ
    have hlm := HLM.out
    replace hcs : c ≤ 36 := hcs
    have hK : ∀ v w', (kInt B (0) (255)).1 v w' → (Rd w' B (_ + (c + 1)) ∧ _) → _ → K (a.put (some 28) v) w' := hK0
    clear hK0
    refine wpOp_plain rfl rfl ?_
    have e27 : a.tmps[27]?.getD undef = .pointer (some ⟨B, 0, none⟩) := (Array.getD_eq_getD_getElem? ..).symm.trans (hdep 6 _ 27 (by kernel_rfl) rfl rfl)
    go_simp
    refine (pick_any _ _ _ _ hR (by omega)).mono ?_
    rintro e w' ⟨v, hv, rfl, hr, hg⟩
    exact hK _ _ (kInt_mk (by omega) (by omega)) ⟨hr.more (by omega), gseq hG hg⟩ (fun j x h => kindAt_keep hg j x h)
  case o8 =>
    intro a wx c hcs hJ hold hdep K hK0
    obtain ⟨hR, hG⟩ := hJ
    have hlm := HLM.out
    replace hcs : c ≤ 36 := hcs
    have hK : ∀ v w', (kInt B (0) (65280)).1 v w' → (Rd w' B (_ + (c + 1)) ∧ _) → _ → K (a.put (some 29) v) w' := hK0
    clear hK0
    refine wpOp_plain rfl rfl ?_
    obtain ⟨n28, e28, l28, h28⟩ := kInt_out (lo := 0) (hi := 255) (hdep 7 _ 28 (by kernel_rfl) rfl rfl)
    rw [Array.getD_eq_getD_getElem?] at e28
    have kw := IntWalk.i64_in (n28 * 256) (by omega)
    go_simp
    exact hK _ _ (kInt_mk (by omega) (by omega)) ⟨hR.more (by omega), hG⟩ (fun _ _ h => h)
  case o9 =>
    intro a wx c hcs hJ hold hdep K hK0
    obtain ⟨hR, hG⟩ := hJ
    have hlm := HLM.out
    replace hcs : c ≤ 36 := hcs
    have hK : ∀ v w', (kInt B (0) (267452160)).1 v w' → (Rd w' B (_ + (c + 1)) ∧ _) → _ → K (a.put (some 30) v) w' := hK0
    clear hK0
    refine wpOp_plain rfl rfl ?_
    obtain ⟨n26, e26, l26, h26⟩ := kInt_out (lo := 0) (hi := 267386880) (hdep 5 _ 26 (by kernel_rfl) rfl rfl)
    rw [Array.getD_eq_getD_getElem?] at e26
    obtain ⟨n29, e29, l29, h29⟩ := kInt_out (lo := 0) (hi := 65280) (hdep 8 _ 29 (by kernel_rfl) rfl rfl)
    rw [Array.getD_eq_getD_getElem?] at e29
    have kw := IntWalk.i64_in (n26 + n29) (by omega)
    go_simp
    exact hK _ _ (kInt_mk (by omega) (by omega)) ⟨hR.more (by omega), hG⟩ (fun _ _ h => h)
  case o10 =>
    intro a wx c hcs hJ hold hdep K hK0
    obtain ⟨hR, hG⟩ := hJ
    have hlm := HLM.out
    replace hcs : c ≤ 36 := hcs
    have hK : ∀ v w', (kIs B (.pointer (some ⟨B, 0, none⟩))).1 v w' → (Rd w' B (_ + (c + 1)) ∧ _) → _ → K (a.put (some 31) v) w' := hK0
    clear hK0
    refine wpOp_plain rfl rfl ?_
    have e0 : a.tmps[0]?.getD undef = .pointer (some ⟨B, 0, none⟩) := (Array.getD_eq_getD_getElem? ..).symm.trans (hold 0 (by simp))
    go_simp
    exact hK _ _ rfl ⟨hR.more (by omega), hG⟩ (fun _ _ h => h)
  case o11 =>
    intro a wx c hcs hJ hold hdep K hK0
    obtain ⟨hR, hG⟩ := hJ
    have hlm := HLM.out
    replace hcs : c ≤ 36 := hcs
    have hK : ∀ v w', (kInt B (0) (255)).1 v w' → (Rd w' B (_ + (c + 1)) ∧ _) → _ → K (a.put (some 32) v) w' := hK0
    clear hK0
    refine wpOp_plain rfl rfl ?_
    have e31 : a.tmps[31]?.getD undef = .pointer (some ⟨B, 0, none⟩) := (Array.getD_eq_getD_getElem? ..).symm.trans (hdep 10 _ 31 (by kernel_rfl) rfl rfl)
    go_simp
    refine (pick_any _ _ _ _ hR (by omega)).mono ?_
    rintro e w' ⟨v, hv, rfl, hr, hg⟩
    exact hK _ _ (kInt_mk (by omega) (by omega)) ⟨hr.more (by omega), gseq hG hg⟩ (fun j x h => kindAt_keep hg j x h)
  case o12 =>
    intro a wx c hcs hJ hold hdep K hK0
    obtain ⟨hR, hG⟩ := hJ
    have hlm := HLM.out
    replace hcs : c ≤ 36 := hcs
    have hK : ∀ v w', (kInt B (0) (267452415)).1 v w' → (Rd w' B (_ + (c + 1)) ∧ _) → _ → K (a.put (some 33) v) w' := hK0
    clear hK0
    refine wpOp_plain rfl rfl ?_
    obtain ⟨n30, e30, l30, h30⟩ := kInt_out (lo := 0) (hi := 267452160) (hdep 9 _ 30 (by kernel_rfl) rfl rfl)
    rw [Array.getD_eq_getD_getElem?] at e30
    obtain ⟨n32, e32, l32, h32⟩ := kInt_out (lo := 0) (hi := 255) (hdep 11 _ 32 (by kernel_rfl) rfl rfl)
    rw [Array.getD_eq_getD_getElem?] at e32
    have kw := IntWalk.i64_in (n30 + n32) (by omega)
    go_simp
    exact hK _ _ (kInt_mk (by omega) (by omega)) ⟨hR.more (by omega), hG⟩ (fun _ _ h => h)
  case o13 =>
    intro a wx c hcs hJ hold hdep K hK0
    obtain ⟨hR, hG⟩ := hJ
    have hlm := HLM.out
    replace hcs : c ≤ 36 := hcs
    have hK : ∀ v w', (kIs B (.int .i64 m)).1 v w' → (Rd w' B (_ + (c + 1)) ∧ _) → _ → K (a.put (some 34) v) w' := hK0
    clear hK0
    refine wpOp_plain rfl rfl ?_
    have e7 : a.tmps[7]?.getD undef = .int .i64 m := (Array.getD_eq_getD_getElem? ..).symm.trans (hold 7 (by simp))
    go_simp
    exact hK _ _ rfl ⟨hR.more (by omega), hG⟩ (fun _ _ h => h)
  case o14 =>
    intro a wx c hcs hJ hold hdep K hK0
    obtain ⟨hR, hG⟩ := hJ
    have hlm := HLM.out
    replace hcs : c ≤ 36 := hcs
    have hK : ∀ v w', (kIs B (.int .i64 (2 * m))).1 v w' → (Rd w' B (_ + (c + 1)) ∧ _) → _ → K (a.put (some 35) v) w' := hK0
    clear hK0
    refine wpOp_plain rfl rfl ?_
    have e34 : a.tmps[34]?.getD undef = .int .i64 m := (Array.getD_eq_getD_getElem? ..).symm.trans (hdep 13 _ 34 (by kernel_rfl) rfl rfl)
    have kw := IntWalk.i64_in (2 * m) (by omega)
    go_simp
    exact hK _ _ rfl ⟨hR.more (by omega), hG⟩ (fun _ _ h => h)
  case o15 =>
    intro a wx c hcs hJ hold hdep K hK0
    obtain ⟨hR, hG⟩ := hJ
    have hlm := HLM.out
    replace hcs : c ≤ 36 := hcs
    have hK : ∀ v w', (kIs B (.int .i64 (2 * m + 2))).1 v w' → (Rd w' B (_ + (c + 1)) ∧ _) → _ → K (a.put (some 36) v) w' := hK0
    clear hK0
    refine wpOp_plain rfl rfl ?_
    have e35 : a.tmps[35]?.getD undef = .int .i64 (2 * m) := (Array.getD_eq_getD_getElem? ..).symm.trans (hdep 14 _ 35 (by kernel_rfl) rfl rfl)
    have kw := IntWalk.i64_in (2 * m + 2) (by omega)
    go_simp
    exact hK _ _ rfl ⟨hR.more (by omega), hG⟩ (fun _ _ h => h)
  case o16 =>
    intro a wx c hcs hJ hold hdep K hK0
    obtain ⟨hR, hG⟩ := hJ
    have hlm := HLM.out
    replace hcs : c ≤ 36 := hcs
    have hK : ∀ v w', (kInt B (0) (536870912)).1 v w' → (Rd w' B (_ + (c + 1)) ∧ _) → _ → K (a.put (some 37) v) w' := hK0
    clear hK0
    refine wpOp_plain rfl rfl ?_
    obtain ⟨n33, e33, l33, h33⟩ := kInt_out (lo := 0) (hi := 267452415) (hdep 12 _ 33 (by kernel_rfl) rfl rfl)
    rw [Array.getD_eq_getD_getElem?] at e33
    have e36 : a.tmps[36]?.getD undef = .int .i64 (2 * m + 2) := (Array.getD_eq_getD_getElem? ..).symm.trans (hdep 15 _ 36 (by kernel_rfl) rfl rfl)
    have k0 : ¬ (2 * m + 2 = 0) := by omega
    have k1 : (2 * m + 2 == 0) = false := by simp; omega
    obtain ⟨r, r0, r1, er, er', er''⟩ := rem_in n33 m l33 (by omega) (by omega)
    have k2 := IntWalk.i64_in r (by omega)
    go_simp
    exact hK _ _ (kInt_mk (by omega) (by omega)) ⟨hR.more (by omega), hG⟩ (fun _ _ h => h)
  case o17 =>
    intro a wx c hcs hJ hold hdep K hK0
    obtain ⟨hR, hG⟩ := hJ
    have hlm := HLM.out
    replace hcs : c ≤ 36 := hcs
    have hK : ∀ v w', (kIs B (.int .i64 m)).1 v w' → (Rd w' B (_ + (c + 1)) ∧ _) → _ → K (a.put (some 38) v) w' := hK0
    clear hK0
    refine wpOp_plain rfl rfl ?_
    have e7 : a.tmps[7]?.getD undef = .int .i64 m := (Array.getD_eq_getD_getElem? ..).symm.trans (hold 7 (by simp))
    go_simp
    exact hK _ _ rfl ⟨hR.more (by omega), hG⟩ (fun _ _ h => h)
  case o18 =>
    intro a wx c hcs hJ hold hdep K hK0
    obtain ⟨hR, hG⟩ := hJ
    have hlm := HLM.out
    replace hcs : c ≤ 36 := hcs
    have hK : ∀ v w', (kInt B (-536870912) (536870912)).1 v w' → (Rd w' B (_ + (c + 1)) ∧ _) → _ → K (a.put (some 39) v) w' := hK0
    clear hK0
    refine wpOp_plain rfl rfl ?_
    obtain ⟨n37, e37, l37, h37⟩ := kInt_out (lo := 0) (hi := 536870912) (hdep 16 _ 37 (by kernel_rfl) rfl rfl)
    rw [Array.getD_eq_getD_getElem?] at e37
    have e38 : a.tmps[38]?.getD undef = .int .i64 m := (Array.getD_eq_getD_getElem? ..).symm.trans (hdep 17 _ 38 (by kernel_rfl) rfl rfl)
    have kw := IntWalk.i64_in (n37 - m) (by omega)
    go_simp
    exact hK _ _ (kInt_mk (by omega) (by omega)) ⟨hR.more (by omega), hG⟩ (fun _ _ h => h)
  case o19 =>
    intro a wx c hcs hJ hold hdep K hK0
    obtain ⟨hR, hG⟩ := hJ
    have hlm := HLM.out
    replace hcs : c ≤ 36 := hcs
    have hK : ∀ v w', (kInt B (-536870913) (536870912)).1 v w' → (Rd w' B (_ + (c + 1)) ∧ _) → _ → K (a.put (some 40) v) w' := hK0
    clear hK0
    refine wpOp_plain rfl rfl ?_
    obtain ⟨n39, e39, l39, h39⟩ := kInt_out (lo := -536870912) (hi := 536870912) (hdep 18 _ 39 (by kernel_rfl) rfl rfl)
    rw [Array.getD_eq_getD_getElem?] at e39
    have kw := IntWalk.i64_in (n39 - 1) (by omega)
    go_simp
    exact hK _ _ (kInt_mk (by omega) (by omega)) ⟨hR.more (by omega), hG⟩ (fun _ _ h => h)
  case o20 =>
    intro a wx c hcs hJ hold hdep K hK0
    obtain ⟨hR, hG⟩ := hJ
    have hlm := HLM.out
    replace hcs : c ≤ 36 := hcs
    have hK : ∀ v w', (kIs B (.int .i64 m)).1 v w' → (Rd w' B (_ + (c + 1)) ∧ _) → _ → K (a.put (some 41) v) w' := hK0
    clear hK0
    refine wpOp_plain rfl rfl ?_
    have e7 : a.tmps[7]?.getD undef = .int .i64 m := (Array.getD_eq_getD_getElem? ..).symm.trans (hold 7 (by simp))
    go_simp
    exact hK _ _ rfl ⟨hR.more (by omega), hG⟩ (fun _ _ h => h)
  case o21 =>
    intro a wx c hcs hJ hold hdep K hK0
    obtain ⟨hR, hG⟩ := hJ
    have hlm := HLM.out
    replace hcs : c ≤ 36 := hcs
    have hK : ∀ v w', (kIs B (.int .i64 m)).1 v w' → (Rd w' B (_ + (c + 1)) ∧ _) → _ → K (a.put (some 42) v) w' := hK0
    clear hK0
    refine wpOp_plain rfl rfl ?_
    have e7 : a.tmps[7]?.getD undef = .int .i64 m := (Array.getD_eq_getD_getElem? ..).symm.trans (hold 7 (by simp))
    go_simp
    exact hK _ _ rfl ⟨hR.more (by omega), hG⟩ (fun _ _ h => h)
  case o22 =>
    intro a wx c hcs hJ hold hdep K hK0
    obtain ⟨hR, hG⟩ := hJ
    have hlm := HLM.out
    replace hcs : c ≤ 36 := hcs
    have hK : ∀ v w', (kIs B (.int .i64 (-m))).1 v w' → (Rd w' B (_ + (c + 1)) ∧ _) → _ → K (a.put (some 43) v) w' := hK0
    clear hK0
    refine wpOp_plain rfl rfl ?_
    have e42 : a.tmps[42]?.getD undef = .int .i64 m := (Array.getD_eq_getD_getElem? ..).symm.trans (hdep 21 _ 42 (by kernel_rfl) rfl rfl)
    have kw := IntWalk.i64_in (-m) (by omega)
    go_simp
    exact hK _ _ rfl ⟨hR.more (by omega), hG⟩ (fun _ _ h => h)
  case o23 =>
    intro a wx c hcs hJ hold hdep K hK0
    obtain ⟨hR, hG⟩ := hJ
    have hlm := HLM.out
    replace hcs : c ≤ 36 := hcs
    have hK : ∀ v w', (kIs B (.int .i64 (-m - 1))).1 v w' → (Rd w' B (_ + (c + 1)) ∧ _) → _ → K (a.put (some 44) v) w' := hK0
    clear hK0
    refine wpOp_plain rfl rfl ?_
    have e43 : a.tmps[43]?.getD undef = .int .i64 (-m) := (Array.getD_eq_getD_getElem? ..).symm.trans (hdep 22 _ 43 (by kernel_rfl) rfl rfl)
    have kw := IntWalk.i64_in (-m - 1) (by omega)
    go_simp
    exact hK _ _ rfl ⟨hR.more (by omega), hG⟩ (fun _ _ h => h)
  case o24 =>
    intro a wx c hcs hJ hold hdep K hK0
    obtain ⟨hR, hG⟩ := hJ
    have hlm := HLM.out
    replace hcs : c ≤ 36 := hcs
    have hK : ∀ v w', (kIs B (.pointer (some ⟨w.heap.size, 1, none⟩))).1 v w' → (Rd w' B (_ + (c + 1)) ∧ _) → _ → K (a.put (some 45) v) w' := hK0
    clear hK0
    refine wpOp_plain rfl rfl ?_
    have e4 : a.tmps[4]?.getD undef = .pointer (some ⟨w.heap.size, 0, none⟩) := (Array.getD_eq_getD_getElem? ..).symm.trans (hold 4 (by simp))
    go_simp
    exact hK _ _ rfl ⟨hR.more (by omega), hG⟩ (fun _ _ h => h)
  case o25 =>
    intro a wx c hcs hJ hold hdep K hK0
    obtain ⟨hR, hG⟩ := hJ
    have hlm := HLM.out
    replace hcs : c ≤ 36 := hcs
    have hK : ∀ v w', (kIs B (.int .i64 b)).1 v w' → (Rd w' B (_ + (c + 1)) ∧ _) → _ → K (a.put (some 46) v) w' := hK0
    clear hK0
    refine wpOp_plain rfl rfl ?_
    have e45 : a.tmps[45]?.getD undef = .pointer (some ⟨w.heap.size, 1, none⟩) := (Array.getD_eq_getD_getElem? ..).symm.trans (hdep 24 _ 45 (by kernel_rfl) rfl rfl)
    have cf := HF.out wx hG
    go_simp
    exact hK _ _ rfl ⟨hR.more (by omega), hG⟩ (fun _ _ h => h)
  case o26 =>
    intro a wx c hcs hJ hold hdep K hK0
    obtain ⟨hR, hG⟩ := hJ
    have hlm := HLM.out
    replace hcs : c ≤ 36 := hcs
    have hK : ∀ v w', (kIs B (.int .i64 p)).1 v w' → (Rd w' B (_ + (c + 1)) ∧ _) → _ → K (a.put (some 47) v) w' := hK0
    clear hK0
    refine wpOp_plain rfl rfl ?_
    have e46 : a.tmps[46]?.getD undef = .int .i64 b := (Array.getD_eq_getD_getElem? ..).symm.trans (hdep 25 _ 46 (by kernel_rfl) rfl rfl)
    have kw := IntWalk.i64_in p (by omega)
    have hb0 : 0 ≤ b := HB0.out.1
    have hb1 : b ≤ 16 := HB0.out.2
    have ep := EP.out
    go_simp
    exact hK _ _ rfl ⟨hR.more (by omega), hG⟩ (fun _ _ h => h)
  case o27 =>
    intro a wx c hcs hJ hold hdep K hK0
    obtain ⟨hR, hG⟩ := hJ
    have hlm := HLM.out
    replace hcs : c ≤ 36 := hcs
    have hK : ∀ v w', (kTab B 5 (-1073741824) (1073741824)).1 v w' → (Rd w' B (_ + (c + 1)) ∧ _) → _ → K (a.put (some 48) v) w' := hK0
    clear hK0
    refine wpOp_plain rfl rfl ?_
    obtain ⟨n23, e23, l23, h23⟩ := kInt_out (lo := -128) (hi := 127) (hdep 2 _ 23 (by kernel_rfl) rfl rfl)
    rw [Array.getD_eq_getD_getElem?] at e23
    obtain ⟨n40, e40, l40, h40⟩ := kInt_out (lo := -536870913) (hi := 536870912) (hdep 19 _ 40 (by kernel_rfl) rfl rfl)
    rw [Array.getD_eq_getD_getElem?] at e40
    have e41 : a.tmps[41]?.getD undef = .int .i64 m := (Array.getD_eq_getD_getElem? ..).symm.trans (hdep 20 _ 41 (by kernel_rfl) rfl rfl)
    have e44 : a.tmps[44]?.getD undef = .int .i64 (-m - 1) := (Array.getD_eq_getD_getElem? ..).symm.trans (hdep 23 _ 44 (by kernel_rfl) rfl rfl)
    have e47 : a.tmps[47]?.getD undef = .int .i64 p := (Array.getD_eq_getD_getElem? ..).symm.trans (hdep 26 _ 47 (by kernel_rfl) rfl rfl)
    have hBx := hR.lt
    go_simp
    exact hK _ _ (tab_new wx [n23, n40, m, -m - 1, p] hBx (by simp only [List.forall_mem_cons]; refine ⟨?_, ?_, ?_, ?_, ?_, ?_⟩ <;> first | omega | simp) rfl) ⟨(hR.alloc _).more (by omega), galloc hG _⟩ (fun j x h => kindAt_keep (World.grownBy_alloc _ _ _) j x h)
  case o28 =>
    intro a wx c hcs hJ hold hdep K hK0
    obtain ⟨hR, hG⟩ := hJ
    have hlm := HLM.out
    replace hcs : c ≤ 36 := hcs
    have hK : ∀ v w', (kTab B 8 (0) (4)).1 v w' → (Rd w' B (_ + (c + 1)) ∧ _) → _ → K (a.put (some 49) v) w' := hK0
    clear hK0
    refine wpOp_plain rfl rfl ?_
    have hBx := hR.lt
    go_simp
    exact hK _ _ (tab_new wx [0, 0, 1, 1, 1, 2, 3, 4] hBx (by simp only [List.forall_mem_cons]; refine ⟨?_, ?_, ?_, ?_, ?_, ?_, ?_, ?_, ?_⟩ <;> first | omega | simp) rfl) ⟨(hR.alloc _).more (by omega), galloc hG _⟩ (fun j x h => kindAt_keep (World.grownBy_alloc _ _ _) j x h)
  case o29 =>
    intro a wx c hcs hJ hold hdep K hK0
    obtain ⟨hR, hG⟩ := hJ
    have hlm := HLM.out
    replace hcs : c ≤ 36 := hcs
    have hK : ∀ v w', (kIs B (.pointer (some ⟨B, 0, none⟩))).1 v w' → (Rd w' B (_ + (c + 1)) ∧ _) → _ → K (a.put (some 50) v) w' := hK0
    clear hK0
    refine wpOp_plain rfl rfl ?_
    have e0 : a.tmps[0]?.getD undef = .pointer (some ⟨B, 0, none⟩) := (Array.getD_eq_getD_getElem? ..).symm.trans (hold 0 (by simp))
    go_simp
    exact hK _ _ rfl ⟨hR.more (by omega), hG⟩ (fun _ _ h => h)
  case o30 =>
    intro a wx c hcs hJ hold hdep K hK0
    obtain ⟨hR, hG⟩ := hJ
    have hlm := HLM.out
    replace hcs : c ≤ 36 := hcs
    have hK : ∀ v w', (kInt B (0) (7)).1 v w' → (Rd w' B (_ + (c + 1)) ∧ _) → _ → K (a.put (some 51) v) w' := hK0
    clear hK0
    refine wpOp_plain rfl rfl ?_
    have e50 : a.tmps[50]?.getD undef = .pointer (some ⟨B, 0, none⟩) := (Array.getD_eq_getD_getElem? ..).symm.trans (hdep 29 _ 50 (by kernel_rfl) rfl rfl)
    go_simp
    refine (pick_any _ _ _ _ hR (by omega)).mono ?_
    rintro e w' ⟨v, hv, rfl, hr, hg⟩
    exact hK _ _ (kInt_mk (by omega) (by omega)) ⟨hr.more (by omega), gseq hG hg⟩ (fun j x h => kindAt_keep hg j x h)
  case o31 =>
    intro a wx c hcs hJ hold hdep K hK0
    obtain ⟨hR, hG⟩ := hJ
    have hlm := HLM.out
    replace hcs : c ≤ 36 := hcs
    have hK : ∀ v w', (kCell B (0) (4)).1 v w' → (Rd w' B (_ + (c + 1)) ∧ _) → _ → K (a.put (some 52) v) w' := hK0
    clear hK0
    refine wpOp_plain rfl rfl ?_
    obtain ⟨g49, e49, u49, p49, q49⟩ := kTab_out (k := 8) (lo := 0) (hi := 4) (hdep 28 _ 49 (by kernel_rfl) rfl rfl)
    rw [Array.getD_eq_getD_getElem?] at e49
    obtain ⟨n51, e51, l51, h51⟩ := kInt_out (lo := 0) (hi := 7) (hdep 30 _ 51 (by kernel_rfl) rfl rfl)
    rw [Array.getD_eq_getD_getElem?] at e51
    obtain ⟨m, rfl⟩ := Int.eq_ofNat_of_zero_le (show 0 ≤ n51 by omega)
    have hm : m < 8 := by omega
    have hm' : (m : Int) < 8 := by omega
    go_simp
    exact hK _ _ (kCell_mk u49 p49 (q49 m hm)) ⟨hR.more (by omega), hG⟩ (fun _ _ h => h)
  case o32 =>
    intro a wx c hcs hJ hold hdep K hK0
    obtain ⟨hR, hG⟩ := hJ
    have hlm := HLM.out
    replace hcs : c ≤ 36 := hcs
    have hK : ∀ v w', (kInt B (0) (4)).1 v w' → (Rd w' B (_ + (c + 1)) ∧ _) → _ → K (a.put (some 53) v) w' := hK0
    clear hK0
    refine wpOp_plain rfl rfl ?_
    obtain ⟨g52, j52, e52, u52, p52, n52, q52, l52, h52⟩ := kCell_out (lo := 0) (hi := 4) (hdep 31 _ 52 (by kernel_rfl) rfl rfl)
    rw [Array.getD_eq_getD_getElem?] at e52
    go_simp
    exact hK _ _ (kInt_mk l52 h52) ⟨hR.more (by omega), hG⟩ (fun _ _ h => h)
  case o33 =>
    intro a wx c hcs hJ hold hdep K hK0
    obtain ⟨hR, hG⟩ := hJ
    have hlm := HLM.out
    replace hcs : c ≤ 36 := hcs
    have hK : ∀ v w', (kCell B (-1073741824) (1073741824)).1 v w' → (Rd w' B (_ + (c + 1)) ∧ _) → _ → K (a.put (some 54) v) w' := hK0
    clear hK0
    refine wpOp_plain rfl rfl ?_
    obtain ⟨g48, e48, u48, p48, q48⟩ := kTab_out (k := 5) (lo := -1073741824) (hi := 1073741824) (hdep 27 _ 48 (by kernel_rfl) rfl rfl)
    rw [Array.getD_eq_getD_getElem?] at e48
    obtain ⟨n53, e53, l53, h53⟩ := kInt_out (lo := 0) (hi := 4) (hdep 32 _ 53 (by kernel_rfl) rfl rfl)
    rw [Array.getD_eq_getD_getElem?] at e53
    obtain ⟨m, rfl⟩ := Int.eq_ofNat_of_zero_le (show 0 ≤ n53 by omega)
    have hm : m < 5 := by omega
    have hm' : (m : Int) < 5 := by omega
    go_simp
    exact hK _ _ (kCell_mk u48 p48 (q48 m hm)) ⟨hR.more (by omega), hG⟩ (fun _ _ h => h)
  case o34 =>
    intro a wx c hcs hJ hold hdep K hK0
    obtain ⟨hR, hG⟩ := hJ
    have hlm := HLM.out
    replace hcs : c ≤ 36 := hcs
    have hK : ∀ v w', (kInt B (-1073741824) (1073741824)).1 v w' → (Rd w' B (_ + (c + 1)) ∧ _) → _ → K (a.put (some 55) v) w' := hK0
    clear hK0
    refine wpOp_plain rfl rfl ?_
    obtain ⟨g54, j54, e54, u54, p54, n54, q54, l54, h54⟩ := kCell_out (lo := -1073741824) (hi := 1073741824) (hdep 33 _ 54 (by kernel_rfl) rfl rfl)
    rw [Array.getD_eq_getD_getElem?] at e54
    go_simp
    exact hK _ _ (kInt_mk l54 h54) ⟨hR.more (by omega), hG⟩ (fun _ _ h => h)
  case o35 =>
    intro a wx c hcs hJ hold hdep K hK0
    obtain ⟨hR, hG⟩ := hJ
    have hlm := HLM.out
    replace hcs : c ≤ 36 := hcs
    have hK : ∀ v w', (kInt B (-1073741824) (1073741824)).1 v w' → (Rd w' B (_ + (c + 1)) ∧ _) → _ → K (a.put (some 8) v) w' := hK0
    clear hK0
    refine wpOp_plain rfl rfl ?_
    obtain ⟨n55, e55, l55, h55⟩ := kInt_out (lo := -1073741824) (hi := 1073741824) (hdep 34 _ 55 (by kernel_rfl) rfl rfl)
    rw [Array.getD_eq_getD_getElem?] at e55
    go_simp
    exact hK _ _ (kInt_mk (by omega) (by omega)) ⟨hR.more (by omega), hG⟩ (fun _ _ h => h)
  intro a' wz hr hg hdef hsize hold hnew
  obtain ⟨v, ev, v1, v2⟩ := kInt_out (lo := -1073741824) (hi := 1073741824) (hnew 35 _ 8 rfl rfl)
  have s0 : a'.tmps.getD 0 undef = .pointer (some ⟨B, 0, none⟩) := hold 0 (by simp)
  have s2 : a'.tmps.getD 2 undef = .int .i64 n := hold 2 (by simp)
  have s7 : a'.tmps.getD 7 undef = .int .i64 m := hold 7 (by simp)
  obtain ⟨tm, df⟩ := a'
  obtain rfl : df = [] := hdef
  obtain ⟨x0, x1, x2, x3, x4, x5, x6, x7, x8, x9, x10, x11, x12, x13, x14, x15, x16, x17, x18, x19, x20, x21, x22, x23, x24, x25, x26, x27, x28, x29, x30, x31, x32, x33, x34, x35, x36, x37, x38, x39, x40, x41, x42, x43, x44, x45, x46, x47, x48, x49, x50, x51, x52, x53, x54, x55, x56, x57, x58, x59, x60, x61, x62, x63, x64, x65, x66, x67, x68, x69, x70, x71, x72, x73, x74, x75, x76, rfl⟩ := arr77 tm hsize
  have q0 : x0 = .pointer (some ⟨B, 0, none⟩) := s0
  have q2 : x2 = .int .i64 n := s2
  have q7 : x7 = .int .i64 m := s7
  have q8 : x8 = .int .i64 v := ev
  subst q0 q2 q7 q8
  clear hold hnew hsize s0 s2 s7 ev
  have HG : Hid (w.grownBy wz (some B)) := Lib.hid (gseq HW.out hg)
  replace hr : Rd wz B (lim + 36) := hr
  clear HRD HF
  go_wp2_with fail
  all_goals
    refine (odd_any _ _ _ _ hr (by omega) hn hn').mono ?_
    rintro e wo ⟨z, rfl, hro, hgo⟩
    have HG1 := gseq HG.out hgo
    clear hgo
    by_cases hz : z = true
    · subst hz
      go_wp2_with fail
      refine (pick_any _ _ _ _ (hro.alloc _) (by omega)).mono ?_
      rintro e wq ⟨u, hu, rfl, hrp, hgp⟩
      have r3 := at3
      have b3 : u < 3 := by omega
      have b3' : (u : Int) < 3 := by omega
      obtain ⟨hcp, hfp⟩ := gcell hgp
      have hlo := hro.lt
      have hno : wo.heap.size ≠ B := by omega
      have hzo := hgp.size
      have hs := sel_bd (l := [m + 1, -m - 2, 9223372036854775807]) (k := u) (lo := -9223372036854775808) (hi := 9223372036854775807) (by simp only [List.forall_mem_cons]; refine ⟨?_, ?_, ?_, ?_⟩ <;> first | omega | simp) (by simp; omega)
      have HS := Lib.hid hs
      clear hs
      go_wp2
      go_ret
      exact ⟨_, HS.out, rfl, hrp.more (by omega), gseq (galloc HG1 _) hgp⟩
    · obtain rfl : z = false := by simpa using hz
      go_wp2
      go_ret
      exact ⟨_, by omega, rfl, hro.more (by omega), HG1⟩
theorem l20Stored_bad (B lim : Nat) (a b n : Int) (w : World) (h : Rd w B lim) (hl : lim ≤ 800000) (hbad : a < 1 ∨ 12 < a ∨ b < 0 ∨ 16 < b) : Calls Try.prog 51 #[.pointer (some ⟨B, 0, none⟩), .agg #[.int .i64 a, .int .i64 b], .int .i64 n] w (Picked w B (lim + 60) fun v => -9223372036854775808 ≤ v ∧ v ≤ 9223372036854775807) := by
  have HBAD := Lib.hid hbad
  clear hbad
  go_enter Try.func51, Try.ntmps51
  go_wp2_with (first | (go_at_call 27; refine (sFormatValid_no _ _ _ HBAD.out).mono ?_; rintro e w' ⟨rfl, rfl⟩))
  refine (pick_any _ _ _ _ ((h.alloc _).alloc _) (by omega)).mono ?_
  rintro e wq ⟨u, hu, rfl, hrp, hgp⟩
  have HG : Hid (w.grownBy wq (some B)) := Lib.hid (gseq (galloc (galloc (World.grownBy.refl _ _) _) _) hgp)
  clear hgp
  go_wp2
  go_ret
  exact ⟨_, by omega, rfl, hrp.more (by omega), HG.out⟩
theorem l20Stored_any (B lim : Nat) (a b n : Int) (w : World) (h : Rd w B lim) (hl : lim ≤ 800000) (hn : 0 < n) (hn' : n ≤ 1000) : Calls Try.prog 51 #[.pointer (some ⟨B, 0, none⟩), .agg #[.int .i64 a, .int .i64 b], .int .i64 n] w (Picked w B (lim + 60) fun v => -9223372036854775808 ≤ v ∧ v ≤ 9223372036854775807) := by
  by_cases hf : 1 ≤ a ∧ a ≤ 12 ∧ 0 ≤ b ∧ b ≤ 16
  · obtain ⟨h1, h2, h3, h4⟩ := hf
    exact l20Stored_in B lim a b n w h hl hn hn' h1 h2 h3 h4
  · exact l20Stored_bad B lim a b n w h hl (by omega)

end Go.Proofs.Ytffgekboieimhaa.K
