/- The contract of DrawLongPower: its one statement leaves its order open. -/
import Derived.Test.YtfiaikahammfpaaLE
namespace Go.Proofs.Ytfiaikahammfpaa.K
open Go.RowKit

def DrewLI (w : World) (e : Ending) (w' : World) : Prop := ∃ g cap xs n, e = .returned (.tuple #[.slice (some ⟨g, 0, none⟩) xs.length cap, .int .i64 n]) ∧ Row w' w.heap.size (some ⟨g, 0, none⟩) cap xs ∧ xs.length ≤ 61 ∧ Below w.heap.size w w'
def DrewLI' (W w0 : World) (e : Ending) (w' : World) : Prop := ∃ g cap xs n, e = .returned (.tuple #[.slice (some ⟨g, 0, none⟩) xs.length cap, .int .i64 n]) ∧ Row w' w0.heap.size (some ⟨g, 0, none⟩) cap xs ∧ xs.length ≤ 61 ∧ Below W.heap.size W w'

set_option maxRecDepth 100000 in
set_option maxHeartbeats 8000000 in
theorem DrawLongPower_any (a : Option Addr) (len cap : Nat) (zs : List Int) (w : World) (h : IsRow .u8 w a len cap zs) : Calls Try.prog 22 #[.slice a len cap] w (DrewLI w) := by
  go_enter Try.func22, Try.ntmps22
  go_wp2_with fail
  refine (l20Open_any _ _ _ _ _ h).mono ?_
  rintro e w0 ⟨B, hB, rfl, hr0, hb0⟩
  have hs0 := hb0.size
  have hl0 := hr0.lt
  go_wp2_with fail
  refine (l20Long_any _ _ _ _ hr0 (by omega) (by omega) (by omega)).mono ?_
  rintro e w1 ⟨g, c, xs, rfl, r1, hl1, hr1, hg1⟩
  have hs1 := hg1.size
  have hb1 := bgrow hb0 hg1 hB
  clear hg1 hr0 hb0
  go_wp2_with fail
  refine (pick_any _ _ _ _ hr1 (by omega)).mono ?_
  rintro e w2 ⟨v2, hv2, rfl, hr2, hg2⟩
  have hs2 := hg2.size
  replace r1 := r1.picked hg2 hl0
  replace hb1 := bgrow hb1 hg2 hB
  clear hg2 hr1
  by_cases hv : v2 = 0
  · subst hv
    go_wp2_with fail
    refine (pick_any _ _ _ _ hr2 (by omega)).mono ?_
    rintro e w3 ⟨v3, hv3, rfl, hr3, hg3⟩
    have hs3 := hg3.size
    replace hb1 := bgrow hb1 hg3 hB
    clear hg3 r1 hl1 hv2
    obtain ⟨ys, hy⟩ : ∃ ys, ofL (v3 : Int) = ys := ⟨_, rfl⟩
    have hl1 : ys.length ≤ 61 := by
      rw [← hy]; unfold ofL
      split
      · rw [ofN_len]; have := digs_short (n := (v3 : Int).toNat) (by omega); omega
      · simp
    have HY := Lib.hid hy
    clear hy
    go_wp2_with fail
    refine (sLongOf_any _ _ HY _).mono ?_
    rintro e ws ⟨g, c, rfl, r1, hb⟩
    have hrs := hr3.below hb hr3.lt
    have hbs := bseq hb1 hb
    replace r1 := r1.less (show w0.heap.size ≤ _ by omega)
    clear hb hb1 hr3 hr2 HY
    have hls := hrs.lt
    have r5 := at5
    have r8 := at8
    have ns : ws.heap.size ≠ B := by omega
    go_wp2_with fail
    go_region_with (first
      | (go_at_call_of 39 (Value.int .i64 256); (refine (pick_any _ _ _ _ (by first | exact hr11 | exact hr11.drew | exact hr11.drew.alloc _ | exact (hr11.alloc _).drew | exact hr11.alloc _ | exact (hr11.alloc _).alloc _) (by omega)).mono ?_; rintro e w12 ⟨v12, hv12, rfl, hr12, hg12⟩; have b12 : (v12 : Int) < 256 := (by omega); obtain ⟨hc12, hf12⟩ := gcell hg12; have hz12 := hg12.size; (try simp only [World.size_alloc, World.size_drew] at hz12); have hl12 := hr12.lt; have n12 : w12.heap.size ≠ B := (by omega); have n12b : w12.heap.size + 1 ≠ B := (by omega); (try have ltws12 : ws.heap.size < w12.heap.size := (by omega)); (try have lews12 : ws.heap.size ≤ w12.heap.size := (by omega)); (try have luws12 : ws.heap.size + 1 < w12.heap.size := (by omega)); (try have ltw1112 : w11.heap.size < w12.heap.size := (by omega)); (try have lew1112 : w11.heap.size ≤ w12.heap.size := (by omega)); (try have luw1112 : w11.heap.size + 1 < w12.heap.size := (by omega))))
      | (go_at_call 39; (refine (pick_any _ _ _ _ (by first | exact hr12 | exact hr12.drew | exact hr12.drew.alloc _ | exact (hr12.alloc _).drew | exact hr12.alloc _ | exact (hr12.alloc _).alloc _) (by omega)).mono ?_; rintro e w13 ⟨v13, hv13, rfl, hr13, hg13⟩; have b13 : (v13 : Int) < 8 := (by omega); obtain ⟨hc13, hf13⟩ := gcell hg13; have hz13 := hg13.size; (try simp only [World.size_alloc, World.size_drew] at hz13); have hl13 := hr13.lt; have n13 : w13.heap.size ≠ B := (by omega); have n13b : w13.heap.size + 1 ≠ B := (by omega); (try have ltws13 : ws.heap.size < w13.heap.size := (by omega)); (try have lews13 : ws.heap.size ≤ w13.heap.size := (by omega)); (try have luws13 : ws.heap.size + 1 < w13.heap.size := (by omega)); (try have ltw1113 : w11.heap.size < w13.heap.size := (by omega)); (try have lew1113 : w11.heap.size ≤ w13.heap.size := (by omega)); (try have luw1113 : w11.heap.size + 1 < w13.heap.size := (by omega)); (try have ltw1213 : w12.heap.size < w13.heap.size := (by omega)); (try have lew1213 : w12.heap.size ≤ w13.heap.size := (by omega)); (try have luw1213 : w12.heap.size + 1 < w13.heap.size := (by omega)); have b13' : v13 < 8 := (by omega); obtain ⟨k, hk, ek⟩ := sel_nat [0, 0, 0, 0, 1, 2, 3, 4] v13 4 (by decide) (by simp; omega); have bk : (k : Int) < 5 := (by omega); have bk' : k < 5 := (by omega)))
      | (go_at_call 39; (refine (pick_any _ _ _ _ (by first | exact hrs | exact hrs.drew | exact hrs.drew.alloc _ | exact (hrs.alloc _).drew | exact hrs.alloc _ | exact (hrs.alloc _).alloc _) (by omega)).mono ?_; rintro e w11 ⟨v11, hv11, rfl, hr11, hg11⟩; have b11 : (v11 : Int) < 8 := (by omega); obtain ⟨hc11, hf11⟩ := gcell hg11; have hz11 := hg11.size; (try simp only [World.size_alloc, World.size_drew] at hz11); have hl11 := hr11.lt; have n11 : w11.heap.size ≠ B := (by omega); have n11b : w11.heap.size + 1 ≠ B := (by omega); (try have ltws11 : ws.heap.size < w11.heap.size := (by omega)); (try have lews11 : ws.heap.size ≤ w11.heap.size := (by omega)); (try have luws11 : ws.heap.size + 1 < w11.heap.size := (by omega)))))
    all_goals
      go_wp2
      go_ret2
      exact ⟨_, _, _, _, rfl, (r1.picked ((by repeat (first | exact World.grownBy.refl _ _ | refine galloc ?_ _ | refine gdrew ?_ | refine gdrewN ?_ _ | (refine gseq ?_ (by assumption)) | (refine gbelow ?_ (by assumption)) | (refine gset ?_ (by first | (right; simp; done) | (right; simp; omega)) _)))) hl0).less hs0, hl1, bgrow hbs ((by repeat (first | exact World.grownBy.refl _ _ | refine galloc ?_ _ | refine gdrew ?_ | refine gdrewN ?_ _ | (refine gseq ?_ (by assumption)) | (refine gbelow ?_ (by assumption)) | (refine gset ?_ (by first | (right; simp; done) | (right; simp; omega)) _)))) hB⟩
  · have hv' : ¬ (v2 : Int) = 0 := by omega
    have hrs := hr2
    have hbs := hb1
    clear hr2 hb1 hv2 hv
    generalize w2 = ws at *
    have hls := hrs.lt
    have r5 := at5
    have r8 := at8
    have ns : ws.heap.size ≠ B := by omega
    go_wp2_with fail
    go_region_with (first
      | (go_at_call_of 39 (Value.int .i64 256); (refine (pick_any _ _ _ _ (by first | exact hr11 | exact hr11.drew | exact hr11.drew.alloc _ | exact (hr11.alloc _).drew | exact hr11.alloc _ | exact (hr11.alloc _).alloc _) (by omega)).mono ?_; rintro e w12 ⟨v12, hv12, rfl, hr12, hg12⟩; have b12 : (v12 : Int) < 256 := (by omega); obtain ⟨hc12, hf12⟩ := gcell hg12; have hz12 := hg12.size; (try simp only [World.size_alloc, World.size_drew] at hz12); have hl12 := hr12.lt; have n12 : w12.heap.size ≠ B := (by omega); have n12b : w12.heap.size + 1 ≠ B := (by omega); (try have ltws12 : ws.heap.size < w12.heap.size := (by omega)); (try have lews12 : ws.heap.size ≤ w12.heap.size := (by omega)); (try have luws12 : ws.heap.size + 1 < w12.heap.size := (by omega)); (try have ltw1112 : w11.heap.size < w12.heap.size := (by omega)); (try have lew1112 : w11.heap.size ≤ w12.heap.size := (by omega)); (try have luw1112 : w11.heap.size + 1 < w12.heap.size := (by omega))))
      | (go_at_call 39; (refine (pick_any _ _ _ _ (by first | exact hr12 | exact hr12.drew | exact hr12.drew.alloc _ | exact (hr12.alloc _).drew | exact hr12.alloc _ | exact (hr12.alloc _).alloc _) (by omega)).mono ?_; rintro e w13 ⟨v13, hv13, rfl, hr13, hg13⟩; have b13 : (v13 : Int) < 8 := (by omega); obtain ⟨hc13, hf13⟩ := gcell hg13; have hz13 := hg13.size; (try simp only [World.size_alloc, World.size_drew] at hz13); have hl13 := hr13.lt; have n13 : w13.heap.size ≠ B := (by omega); have n13b : w13.heap.size + 1 ≠ B := (by omega); (try have ltws13 : ws.heap.size < w13.heap.size := (by omega)); (try have lews13 : ws.heap.size ≤ w13.heap.size := (by omega)); (try have luws13 : ws.heap.size + 1 < w13.heap.size := (by omega)); (try have ltw1113 : w11.heap.size < w13.heap.size := (by omega)); (try have lew1113 : w11.heap.size ≤ w13.heap.size := (by omega)); (try have luw1113 : w11.heap.size + 1 < w13.heap.size := (by omega)); (try have ltw1213 : w12.heap.size < w13.heap.size := (by omega)); (try have lew1213 : w12.heap.size ≤ w13.heap.size := (by omega)); (try have luw1213 : w12.heap.size + 1 < w13.heap.size := (by omega)); have b13' : v13 < 8 := (by omega); obtain ⟨k, hk, ek⟩ := sel_nat [0, 0, 0, 0, 1, 2, 3, 4] v13 4 (by decide) (by simp; omega); have bk : (k : Int) < 5 := (by omega); have bk' : k < 5 := (by omega)))
      | (go_at_call 39; (refine (pick_any _ _ _ _ (by first | exact hrs | exact hrs.drew | exact hrs.drew.alloc _ | exact (hrs.alloc _).drew | exact hrs.alloc _ | exact (hrs.alloc _).alloc _) (by omega)).mono ?_; rintro e w11 ⟨v11, hv11, rfl, hr11, hg11⟩; have b11 : (v11 : Int) < 8 := (by omega); obtain ⟨hc11, hf11⟩ := gcell hg11; have hz11 := hg11.size; (try simp only [World.size_alloc, World.size_drew] at hz11); have hl11 := hr11.lt; have n11 : w11.heap.size ≠ B := (by omega); have n11b : w11.heap.size + 1 ≠ B := (by omega); (try have ltws11 : ws.heap.size < w11.heap.size := (by omega)); (try have lews11 : ws.heap.size ≤ w11.heap.size := (by omega)); (try have luws11 : ws.heap.size + 1 < w11.heap.size := (by omega)))))
    all_goals
      go_wp2
      go_ret2
      exact ⟨_, _, _, _, rfl, (r1.picked ((by repeat (first | exact World.grownBy.refl _ _ | refine galloc ?_ _ | refine gdrew ?_ | refine gdrewN ?_ _ | (refine gseq ?_ (by assumption)) | (refine gbelow ?_ (by assumption)) | (refine gset ?_ (by first | (right; simp; done) | (right; simp; omega)) _)))) hl0).less hs0, hl1, bgrow hbs ((by repeat (first | exact World.grownBy.refl _ _ | refine galloc ?_ _ | refine gdrew ?_ | refine gdrewN ?_ _ | (refine gseq ?_ (by assumption)) | (refine gbelow ?_ (by assumption)) | (refine gset ?_ (by first | (right; simp; done) | (right; simp; omega)) _)))) hB⟩

end Go.Proofs.Ytfiaikahammfpaa.K
