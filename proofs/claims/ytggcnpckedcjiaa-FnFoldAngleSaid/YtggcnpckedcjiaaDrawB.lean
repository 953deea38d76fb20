/- The contract of DrawBitLength: its one statement leaves its order open. -/
import Derived.Test.YtggcnpckedcjiaaDraw2
namespace Go.Proofs.Ytggcnpckedcjiaa.K
open Go.RowKit

set_option maxRecDepth 100000 in
set_option maxHeartbeats 4000000 in
theorem DrawBitLength_any (a : Option Addr) (len cap : Nat) (zs : List Int) (w : World) (h : IsRow .u8 w a len cap zs) : Calls Try.prog 27 #[.slice a len cap] w (DrewI w) := by
  go_enter Try.func27, Try.ntmps27
  go_wp2_with fail
  refine (l20Open_any _ _ _ _ _ h).mono ?_
  rintro e w0 ⟨g, hg, rfl, hr0, hb0⟩
  have hl0 := hr0.lt
  have r4 := at4
  have r8 := at8
  have n0 : w0.heap.size ≠ g := by omega
  go_wp2_with fail
  go_region_with (first
    | (go_at_call 46; refine (l20Work_any _ _ _ (by first | exact hr0.drew | exact hr0.drew.alloc _ | exact (hr0.alloc _).drew) (by omega)).mono ?_; rintro e w1 ⟨v1, ⟨hv1, hv1'⟩, rfl, hr1, hg1⟩; obtain ⟨hc1, hf1⟩ := gcell hg1; have hz1 := hg1.size; (try simp only [World.size_alloc, World.size_drew] at hz1); have hl1 := hr1.lt; have n1 : w1.heap.size ≠ g := (by omega); have n1b : w1.heap.size + 1 ≠ g := (by omega); (try have lt01 : w0.heap.size < w1.heap.size := (by omega)); (try have le01 : w0.heap.size ≤ w1.heap.size := (by omega)); (try have lu01 : w0.heap.size + 1 < w1.heap.size := (by omega)))
    | (go_at_call_of 47 (Value.int .i64 61); refine (pick_any _ _ _ _ (by first | exact hr1 | exact hr1.alloc _) (by omega)).mono ?_; rintro e w2 ⟨v2, hv2, rfl, hr2, hg2⟩; have b2 : (v2 : Int) < 61 := (by omega); have p2 := pow_le' (k := v2) (m := 60) (by omega); have p2' := pow_pos' v2; have e2 := IntWalk.i64_in ((2 : Int) ^ v2) (by omega); obtain ⟨hc2, hf2⟩ := gcell hg2; have hz2 := hg2.size; (try simp only [World.size_alloc, World.size_drew] at hz2); have hl2 := hr2.lt; have n2 : w2.heap.size ≠ g := (by omega); have n2b : w2.heap.size + 1 ≠ g := (by omega); (try have lt02 : w0.heap.size < w2.heap.size := (by omega)); (try have le02 : w0.heap.size ≤ w2.heap.size := (by omega)); (try have lu02 : w0.heap.size + 1 < w2.heap.size := (by omega)); (try have lt12 : w1.heap.size < w2.heap.size := (by omega)); (try have le12 : w1.heap.size ≤ w2.heap.size := (by omega)); (try have lu12 : w1.heap.size + 1 < w2.heap.size := (by omega)))
    | (go_at_call_of 47 (Value.int .i64 60); refine (pick_any _ _ _ _ (by first | exact hr2 | exact hr2.alloc _) (by omega)).mono ?_; rintro e w3 ⟨v3, hv3, rfl, hr3, hg3⟩; have b3 : (v3 : Int) < 60 := (by omega); have p3 := pow_le' (k := v3) (m := 60) (by omega); have p3' := pow_pos' v3; have e3 := IntWalk.i64_in ((2 : Int) ^ v3) (by omega); have e3' := IntWalk.i64_in ((2 : Int) ^ v3 - 1) (by omega); obtain ⟨hc3, hf3⟩ := gcell hg3; have hz3 := hg3.size; (try simp only [World.size_alloc, World.size_drew] at hz3); have hl3 := hr3.lt; have n3 : w3.heap.size ≠ g := (by omega); have n3b : w3.heap.size + 1 ≠ g := (by omega); (try have lt03 : w0.heap.size < w3.heap.size := (by omega)); (try have le03 : w0.heap.size ≤ w3.heap.size := (by omega)); (try have lu03 : w0.heap.size + 1 < w3.heap.size := (by omega)); (try have lt13 : w1.heap.size < w3.heap.size := (by omega)); (try have le13 : w1.heap.size ≤ w3.heap.size := (by omega)); (try have lu13 : w1.heap.size + 1 < w3.heap.size := (by omega)); (try have lt23 : w2.heap.size < w3.heap.size := (by omega)); (try have le23 : w2.heap.size ≤ w3.heap.size := (by omega)); (try have lu23 : w2.heap.size + 1 < w3.heap.size := (by omega)))
    | (go_at_call_of 47 (Value.int .i64 8); refine (pick_any _ _ _ _ (by first | exact hr3 | exact hr3.alloc _ | exact (hr3.alloc _).alloc _) (by omega)).mono ?_; rintro e w4 ⟨v4, hv4, rfl, hr4, hg4⟩; have b4 : v4 < 8 := (by omega); have b4' : (v4 : Int) < 8 := (by omega); obtain ⟨k, hk, ek⟩ := sel_nat [0, 0, 0, 1, 1, 2, 2, 3] v4 3 (by decide) (by simp; omega); have bk : (k : Int) < 4 := (by omega); have bk' : k < 4 := (by omega); obtain ⟨hc4, hf4⟩ := gcell hg4; have hz4 := hg4.size; (try simp only [World.size_alloc, World.size_drew] at hz4); have hl4 := hr4.lt; have n4 : w4.heap.size ≠ g := (by omega); have n4b : w4.heap.size + 1 ≠ g := (by omega); (try have lt04 : w0.heap.size < w4.heap.size := (by omega)); (try have le04 : w0.heap.size ≤ w4.heap.size := (by omega)); (try have lu04 : w0.heap.size + 1 < w4.heap.size := (by omega)); (try have lt14 : w1.heap.size < w4.heap.size := (by omega)); (try have le14 : w1.heap.size ≤ w4.heap.size := (by omega)); (try have lu14 : w1.heap.size + 1 < w4.heap.size := (by omega)); (try have lt24 : w2.heap.size < w4.heap.size := (by omega)); (try have le24 : w2.heap.size ≤ w4.heap.size := (by omega)); (try have lu24 : w2.heap.size + 1 < w4.heap.size := (by omega)); (try have lt34 : w3.heap.size < w4.heap.size := (by omega)); (try have le34 : w3.heap.size ≤ w4.heap.size := (by omega)); (try have lu34 : w3.heap.size + 1 < w4.heap.size := (by omega))))
  all_goals
    have hs := sel_bd (l := [v1, (2 : Int) ^ v2, (2 : Int) ^ v3 - 1, 1152921504606846977]) (k := k) (lo := -1152921504606846976) (hi := 1152921504606846977) (by simp only [List.forall_mem_cons]; refine ⟨?_, ?_, ?_, ?_, ?_⟩ <;> first | omega | simp) (by simp; omega)
    go_wp2
    go_ret
    exact ⟨_, by have := hs.1; omega, by have := hs.2; omega, rfl, (by repeat (first | exact Below.refl _ _ | refine balloc ?_ _ | refine bdrew ?_ | refine bdrewN ?_ _ | refine bset ?_ (by first | (simp; done) | (simp; omega)) _ | (refine bseq ?_ (by assumption)) | (refine bgrow ?_ (by assumption) (by omega))))⟩

end Go.Proofs.Ytggcnpckedcjiaa.K
