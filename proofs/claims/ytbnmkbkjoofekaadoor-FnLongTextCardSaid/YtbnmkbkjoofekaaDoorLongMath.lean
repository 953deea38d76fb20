/- The plain arithmetic of long numbers: digits to the base 10000; sums, products, comparison. No program in sight. -/
namespace Go.Proofs.YtbnmkbkjoofekaaDoor.K
/-! long numbers: digits to the base 10000, the lowest one first -/
def val : List Nat → Nat | [] => 0 | d :: ds => d + 10000 * val ds
def Dig (l : List Nat) : Prop := ∀ d ∈ l, d < 10000
/-- no zero at the end -/
def Canon (l : List Nat) : Prop := Dig l ∧ (l ≠ [] → 10000 ^ (l.length - 1) ≤ val l)
def digs (n : Nat) : List Nat := if h : n = 0 then [] else n % 10000 :: digs (n / 10000)
termination_by n
decreasing_by omega

theorem digs_zero : digs 0 = [] := by rw [digs]; simp
theorem digs_pos {n : Nat} (h : n ≠ 0) : digs n = n % 10000 :: digs (n / 10000) := by rw [digs]; simp [h]

theorem val_append (l m : List Nat) : val (l ++ m) = val l + 10000 ^ l.length * val m := by
  induction l with
  | nil => simp [val]
  | cons d l ih => simp only [List.cons_append, val, ih, List.length_cons, Nat.pow_succ]; grind
theorem val_snoc (l : List Nat) (d : Nat) : val (l ++ [d]) = val l + 10000 ^ l.length * d := by
  rw [val_append]; simp [val]
theorem val_lt {l : List Nat} (h : Dig l) : val l < 10000 ^ l.length := by
  induction l with
  | nil => simp [val]
  | cons d l ih =>
    have h1 := h d (by simp)
    have h2 := ih (fun x hx => h x (by simp [hx]))
    simp only [val, List.length_cons, Nat.pow_succ]
    omega
theorem val_zeros (k : Nat) : val (List.replicate k 0) = 0 := by
  induction k with
  | zero => rfl
  | succ k ih => simp [List.replicate_succ, val, ih]
theorem val_digs (n : Nat) : val (digs n) = n := by
  induction n using Nat.strongRecOn with
  | _ n ih =>
    by_cases h : n = 0
    · subst h; rw [digs_zero]; rfl
    · rw [digs_pos h, val, ih (n / 10000) (by omega)]; omega
theorem dig_digs (n : Nat) : Dig (digs n) := by
  induction n using Nat.strongRecOn with
  | _ n ih =>
    by_cases h : n = 0
    · subst h; rw [digs_zero]; intro d hd; simp at hd
    · rw [digs_pos h]
      intro d hd
      rcases List.mem_cons.1 hd with rfl | hd
      · omega
      · exact ih (n / 10000) (by omega) d hd
theorem canon_digs (n : Nat) : Canon (digs n) := by
  refine ⟨dig_digs n, ?_⟩
  induction n using Nat.strongRecOn with
  | _ n ih =>
    by_cases h : n = 0
    · subst h; rw [digs_zero]; intro hd; exact absurd rfl hd
    · intro _
      by_cases h1 : n / 10000 = 0
      · rw [digs_pos h, h1, digs_zero]; simp [val]; omega
      · have h2 := ih (n / 10000) (by omega) (by rw [digs_pos h1]; simp)
        rw [val_digs] at h2 ⊢
        rw [digs_pos h, List.length_cons, Nat.add_sub_cancel]
        have h3 : (digs (n / 10000)).length ≠ 0 := by rw [digs_pos h1]; simp
        obtain ⟨m, hm⟩ : ∃ m, (digs (n / 10000)).length = m + 1 := ⟨_, (Nat.succ_pred h3).symm⟩
        rw [hm] at h2 ⊢
        simp only [Nat.add_sub_cancel] at h2
        rw [Nat.pow_succ]
        omega
theorem dig_tail {d : Nat} {l : List Nat} (h : Dig (d :: l)) : d < 10000 ∧ Dig l := ⟨h d (by simp), fun x hx => h x (by simp [hx])⟩
theorem digs_val {l : List Nat} (h : Canon l) : digs (val l) = l := by
  induction l with
  | nil => exact digs_zero
  | cons d l ih =>
    obtain ⟨hd, hl⟩ := dig_tail h.1
    have h1 := h.2 (by simp)
    simp only [List.length_cons, Nat.add_sub_cancel] at h1
    have hp : 1 ≤ 10000 ^ l.length := Nat.one_le_pow _ _ (by omega)
    have hc : Canon l := by
      refine ⟨hl, fun hne => ?_⟩
      obtain ⟨m, hm⟩ : ∃ m, l.length = m + 1 := ⟨l.length - 1, by have := List.length_pos_iff.2 hne; omega⟩
      rw [hm] at h1 ⊢
      simp only [val, Nat.pow_succ, Nat.add_sub_cancel] at h1 ⊢
      omega
    rw [digs_pos (by omega), val, show (d + 10000 * val l) % 10000 = d from by omega, show (d + 10000 * val l) / 10000 = val l from by omega, ih hc]
theorem canon_nil : Canon [] := ⟨fun d hd => by simp at hd, fun h => absurd rfl h⟩
theorem canon_inj {l m : List Nat} (h : Canon l) (h' : Canon m) (e : val l = val m) : l = m := by rw [← digs_val h, ← digs_val h', e]
theorem digs_len (n k : Nat) : (digs n).length ≤ k ↔ n < 10000 ^ k := by
  constructor
  · intro h
    have h1 := val_lt (dig_digs n)
    rw [val_digs] at h1
    exact Nat.lt_of_lt_of_le h1 (Nat.pow_le_pow_right (by omega) h)
  · intro h
    rcases Nat.lt_or_ge k (digs n).length with hk | hk
    · exfalso
      have h1 := (canon_digs n).2 (fun e => by rw [e] at hk; simp at hk)
      rw [val_digs] at h1
      have h2 : 10000 ^ k ≤ 10000 ^ ((digs n).length - 1) := Nat.pow_le_pow_right (by omega) (by omega)
      omega
    · exact hk
/-- the last digit decides -/
theorem canon_snoc {l : List Nat} {d : Nat} (h : Dig l) (hd : d < 10000) (h0 : d ≠ 0) : Canon (l ++ [d]) := by
  refine ⟨fun x hx => ?_, fun _ => ?_⟩
  · rcases List.mem_append.1 hx with hx | hx
    · exact h x hx
    · rw [List.mem_singleton.1 hx]; exact hd
  · rw [val_snoc]
    simp only [List.length_append, List.length_cons, List.length_nil, Nat.zero_add, Nat.add_sub_cancel]
    have : 10000 ^ l.length * 1 ≤ 10000 ^ l.length * d := Nat.mul_le_mul_left _ (by omega)
    omega
theorem canon_last {l : List Nat} {d : Nat} (h : Canon (l ++ [d])) : d ≠ 0 := by
  rintro rfl
  have h1 := h.2 (by simp)
  rw [val_snoc] at h1
  simp only [List.length_append, List.length_cons, List.length_nil, Nat.zero_add, Nat.add_sub_cancel, Nat.mul_zero, Nat.add_zero] at h1
  have h2 := val_lt (l := l) (fun x hx => h.1 x (by simp [hx]))
  omega
theorem dig_snoc {l : List Nat} {d : Nat} (h : Dig l) (hd : d < 10000) : Dig (l ++ [d]) := by
  intro x hx
  rcases List.mem_append.1 hx with hx | hx
  · exact h x hx
  · rw [List.mem_singleton.1 hx]; exact hd
theorem canon_iff_getLast {l : List Nat} (h : Dig l) : Canon l ↔ l.getLast? ≠ some 0 := by
  rcases List.eq_nil_or_concat l with rfl | ⟨m, d, rfl⟩
  · simp [canon_nil]
  · rw [List.concat_eq_append] at h ⊢
    simp only [List.getLast?_append, List.getLast?_singleton, Option.some_or, ne_eq, Option.some.injEq]
    constructor
    · exact canon_last
    · exact fun h0 => canon_snoc (fun x hx => h x (by simp [hx])) (h d (by simp)) h0

/-- digits without the zeros at the end -/
theorem cut_zeros {l : List Nat} (h : Dig l) (k : Nat) (hk : k ≤ l.length) (hz : ∀ i, k ≤ i → i < l.length → l[i]? = some 0) (hl : k = 0 ∨ l[k - 1]? ≠ some 0) : l.take k = digs (val l) := by
  have e1 : l = l.take k ++ List.replicate (l.length - k) 0 := by
    apply List.ext_getElem?
    intro i
    rcases Nat.lt_or_ge i k with hi | hi
    · rw [List.getElem?_append_left (by rw [List.length_take]; omega), List.getElem?_take_of_lt hi]
    · rw [List.getElem?_append_right (by rw [List.length_take]; omega), List.length_take, Nat.min_eq_left hk]
      rcases Nat.lt_or_ge i l.length with h2 | h2
      · rw [hz i hi h2, List.getElem?_replicate, if_pos (by omega)]
      · rw [List.getElem?_eq_none h2, List.getElem?_replicate, if_neg (by omega)]
  have hv : val l = val (l.take k) := by
    rw [show val l = val (l.take k ++ List.replicate (l.length - k) 0) from congrArg val e1, val_append, val_zeros, Nat.mul_zero, Nat.add_zero]
  rw [hv]
  refine (digs_val ((canon_iff_getLast (fun x hx => h x (List.mem_of_mem_take hx))).2 ?_)).symm
  rcases hl with rfl | hl
  · simp
  · rcases Nat.eq_zero_or_pos k with rfl | hp
    · simp
    · rw [List.getLast?_eq_getElem?, List.length_take, Nat.min_eq_left hk, List.getElem?_take_of_lt (by omega)]
      exact hl

theorem val_take_succ {l : List Nat} {k : Nat} (h : k < l.length) : val (l.take (k + 1)) = val (l.take k) + 10000 ^ k * l[k] := by
  rw [List.take_succ_eq_append_getElem h, val_snoc, List.length_take, Nat.min_eq_left (Nat.le_of_lt h)]
theorem val_take_le {l : List Nat} (k : Nat) : val (l.take k) ≤ val l := by
  have e : val l = val (l.take k ++ l.drop k) := by rw [List.take_append_drop]
  rw [e, val_append]
  omega
theorem dig_take {l : List Nat} (h : Dig l) (k : Nat) : Dig (l.take k) := fun x hx => h x (List.mem_of_mem_take hx)

/-! the sum: behind k rounds 'out' holds the digits, and 'c' is carried -/
structure AddAt (a b out : List Nat) (k c : Nat) : Prop where
  len : out.length = k
  dig : Dig out
  sum : val out + 10000 ^ k * c = val (a.take k) + val (b.take k)
  car : c ≤ 1
  top : k ≤ max a.length b.length ∨ 10000 ^ (k - 1) ≤ val out

theorem AddAt.start (a b : List Nat) : AddAt a b [] 0 0 := ⟨rfl, fun d hd => by simp at hd, by simp [val], by omega, .inl (by omega)⟩
theorem AddAt.step {a b out : List Nat} {k c x y : Nat} (h : AddAt a b out k c) (ha : Dig a) (hb : Dig b)
    (hx : k < a.length ∧ a[k]? = some x ∨ a.length ≤ k ∧ x = 0) (hy : k < b.length ∧ b[k]? = some y ∨ b.length ≤ k ∧ y = 0) (hgo : k < a.length ∨ k < b.length ∨ 0 < c) :
    AddAt a b (out ++ [(c + x + y) % 10000]) (k + 1) ((c + x + y) / 10000) := by
  have hx1 : x < 10000 := by
    rcases hx with ⟨_, hx⟩ | ⟨_, rfl⟩
    · exact ha x (List.mem_of_getElem? hx)
    · omega
  have hy1 : y < 10000 := by
    rcases hy with ⟨_, hy⟩ | ⟨_, rfl⟩
    · exact hb y (List.mem_of_getElem? hy)
    · omega
  have h1 := h.car
  have ea : val (a.take (k + 1)) = val (a.take k) + 10000 ^ k * x := by
    rcases hx with ⟨hk, hx⟩ | ⟨hk, rfl⟩
    · rw [List.getElem?_eq_getElem hk] at hx
      injection hx with hx
      rw [val_take_succ hk, hx]
    · rw [List.take_of_length_le hk, List.take_of_length_le (by omega)]; simp
  have eb : val (b.take (k + 1)) = val (b.take k) + 10000 ^ k * y := by
    rcases hy with ⟨hk, hy⟩ | ⟨hk, rfl⟩
    · rw [List.getElem?_eq_getElem hk] at hy
      injection hy with hy
      rw [val_take_succ hk, hy]
    · rw [List.take_of_length_le hk, List.take_of_length_le (by omega)]; simp
  have es := h.sum
  have el := h.len
  refine ⟨by simp [el], dig_snoc h.dig (by omega), ?_, by omega, ?_⟩
  · rw [val_snoc, el, ea, eb, Nat.pow_succ]
    have e : c + x + y = (c + x + y) % 10000 + 10000 * ((c + x + y) / 10000) := by omega
    have e2 : 10000 ^ k * (c + x + y) = 10000 ^ k * ((c + x + y) % 10000) + 10000 ^ k * 10000 * ((c + x + y) / 10000) := by
      conv => lhs; rw [e]
      grind
    have e3 : 10000 ^ k * (c + x + y) = 10000 ^ k * c + 10000 ^ k * x + 10000 ^ k * y := by grind
    omega
  · by_cases hk : k + 1 ≤ max a.length b.length
    · exact .inl hk
    · refine .inr ?_
      rw [val_snoc, el, Nat.add_sub_cancel]
      have hka : a.length ≤ k := by omega
      have hkb : b.length ≤ k := by omega
      have hx0 : x = 0 := by omega
      have hy0 : y = 0 := by omega
      subst hx0 hy0
      have hc : c = 1 := by omega
      subst hc
      simp
theorem AddAt.done {a b out : List Nat} {k : Nat} (h : AddAt a b out k 0) (ha : Canon a) (hb : Canon b) (hka : a.length ≤ k) (hkb : b.length ≤ k) : out = digs (val a + val b) := by
  have es := h.sum
  rw [List.take_of_length_le hka, List.take_of_length_le hkb] at es
  simp only [Nat.mul_zero, Nat.add_zero] at es
  rw [← es]
  refine (digs_val ⟨h.dig, fun hne => ?_⟩).symm
  rw [h.len]
  rcases h.top with h1 | h1
  · have hk : k = max a.length b.length := by omega
    have hl : 0 < k := by have := List.length_pos_iff.2 hne; rw [h.len] at this; exact this
    rcases Nat.le_total a.length b.length with hab | hab
    · have := hb.2 (by rintro rfl; have h2 : a.length ≤ 0 := hab; have h3 : k = max a.length 0 := hk; omega)
      rw [show k = b.length by omega]
      omega
    · have := ha.2 (by rintro rfl; have h2 : b.length ≤ 0 := hab; have h3 : k = max 0 b.length := hk; omega)
      rw [show k = a.length by omega]
      omega
  · exact h1
theorem addAt_dig_done {a b out : List Nat} {k : Nat} (h : AddAt a b out k 0) (hka : a.length ≤ k) (hkb : b.length ≤ k) : val out = val a + val b := by
  have es := h.sum
  rw [List.take_of_length_le hka, List.take_of_length_le hkb] at es
  simpa using es

/-! comparison: the highest digit that differs decides -/
theorem val_lt_of_len {a b : List Nat} (ha : Canon a) (hb : Canon b) (h : a.length < b.length) : val a < val b := by
  have h1 := val_lt ha.1
  have h2 := hb.2 (by rintro rfl; simp at h)
  have h3 : 10000 ^ a.length ≤ 10000 ^ (b.length - 1) := Nat.pow_le_pow_right (by omega) (by omega)
  omega
theorem val_split (l : List Nat) (k : Nat) (h : k < l.length) : val l = val (l.take k) + 10000 ^ k * (l[k] + 10000 * val (l.drop (k + 1))) := by
  have e : l = l.take k ++ l.drop k := (List.take_append_drop k l).symm
  have h1 : val l = val (l.take k ++ l.drop k) := congrArg val e
  rw [h1, val_append, List.length_take, Nat.min_eq_left (Nat.le_of_lt h), List.drop_eq_getElem_cons h, val]
theorem val_lt_of_digit {a b : List Nat} {k : Nat} (ha : Dig a) (hka : k < a.length) (hkb : k < b.length) (he : a.drop (k + 1) = b.drop (k + 1)) (h : a[k] < b[k]) : val a < val b := by
  rw [val_split a k hka, val_split b k hkb, he]
  have h1 := val_lt (dig_take ha k)
  rw [List.length_take, Nat.min_eq_left (Nat.le_of_lt hka)] at h1
  have h2 : 10000 ^ k * (a[k] + 10000 * val (b.drop (k + 1)) + 1) ≤ 10000 ^ k * (b[k] + 10000 * val (b.drop (k + 1))) := Nat.mul_le_mul_left _ (by omega)
  rw [Nat.mul_add] at h2
  omega
/-- the sign of a difference -/
def cmpN (a b : Nat) : Int := if a < b then -1 else if b < a then 1 else 0
theorem cmpN_lt {a b : Nat} (h : a < b) : cmpN a b = -1 := by simp [cmpN, h]
theorem cmpN_gt {a b : Nat} (h : b < a) : cmpN a b = 1 := by unfold cmpN; rw [if_neg (by omega), if_pos h]
theorem cmpN_eq (a : Nat) : cmpN a a = 0 := by simp [cmpN]

theorem val_set {l : List Nat} {i : Nat} (h : i < l.length) (v : Nat) : val (l.set i v) + 10000 ^ i * l[i] = val l + 10000 ^ i * v := by
  induction l generalizing i with
  | nil => simp at h
  | cons d l ih =>
    cases i with
    | zero => simp [val]; omega
    | succ i =>
      have hi : i < l.length := by simpa using h
      have h1 := ih (i := i) hi
      simp only [List.set_cons_succ, val, List.getElem_cons_succ, Nat.pow_succ]
      have e1 : 10000 ^ i * 10000 * l[i] = 10000 * (10000 ^ i * l[i]) := by grind
      have e2 : 10000 ^ i * 10000 * v = 10000 * (10000 ^ i * v) := by grind
      omega
theorem dig_set {l : List Nat} (h : Dig l) (i : Nat) {v : Nat} (hv : v < 10000) : Dig (l.set i v) := by
  intro x hx
  rcases List.mem_or_eq_of_mem_set hx with hx | rfl
  · exact h x hx
  · exact hv

/-! the product, a round of the outer loop at i, of the inner one at j, c carried -/
structure MulAt (a b p : List Nat) (i j c x : Nat) : Prop where
  len : p.length = a.length + b.length
  dig : Dig p
  sum : val p + 10000 ^ (i + j) * c = val (a.take i) * val b + 10000 ^ i * (x * val (b.take j))
  car : c < 10000
  zero : ∀ t : Nat, i + b.length ≤ t → t < p.length → p[t]? = some 0
structure MulOut (a b p : List Nat) (i : Nat) : Prop where
  len : p.length = a.length + b.length
  dig : Dig p
  sum : val p = val (a.take i) * val b
  zero : ∀ t : Nat, i + b.length ≤ t → t < p.length → p[t]? = some 0
theorem MulOut.start (a b : List Nat) : MulOut a b (List.replicate (a.length + b.length) 0) 0 :=
  ⟨by simp, fun d hd => by have := List.eq_of_mem_replicate hd; omega, by simp [val, val_zeros], fun t _ ht => by rw [List.getElem?_replicate, if_pos (by simpa using ht)]⟩
theorem MulOut.inner {a b p : List Nat} {i : Nat} (h : MulOut a b p i) (x : Nat) : MulAt a b p i 0 0 x :=
  ⟨h.len, h.dig, by simp [val, h.sum], by omega, h.zero⟩
theorem MulAt.step {a b p : List Nat} {i j c x y z : Nat} (h : MulAt a b p i j c x) (hb : Dig b) (hi : i < a.length) (hj : j < b.length) (hy : b[j]? = some y) (hz : p[i + j]? = some z) (hx : x < 10000) :
    MulAt a b (p.set (i + j) ((c + (z + x * y)) % 10000)) i (j + 1) ((c + (z + x * y)) / 10000) x := by
  have hl : i + j < p.length := by rw [h.len]; omega
  have hz' : p[i + j] = z := by rw [List.getElem?_eq_getElem hl] at hz; injection hz
  have hy' : b[j] = y := by rw [List.getElem?_eq_getElem hj] at hy; injection hy
  have hy1 : y < 10000 := hb y (List.mem_of_getElem? hy)
  have hz1 : z < 10000 := h.dig z (List.mem_of_getElem? hz)
  have hs := val_set hl ((c + (z + x * y)) % 10000)
  rw [hz'] at hs
  have hxy : x * y ≤ 9999 * 9999 := Nat.mul_le_mul (by omega) (by omega)
  have hc := h.car
  have hsum := h.sum
  refine ⟨by simp [h.len], dig_set h.dig _ (by omega), ?_, by omega, ?_⟩
  · rw [val_take_succ hj, hy', show i + (j + 1) = (i + j) + 1 from rfl, Nat.pow_succ]
    generalize hS : c + (z + x * y) = S at *
    have e1 : 10000 ^ (i + j) * 10000 * (S / 10000) + 10000 ^ (i + j) * (S % 10000) = 10000 ^ (i + j) * S := by
      conv => rhs; rw [show S = 10000 * (S / 10000) + S % 10000 from by omega]
      grind
    have e2 : 10000 ^ (i + j) * S = 10000 ^ (i + j) * c + 10000 ^ (i + j) * z + 10000 ^ (i + j) * (x * y) := by rw [← hS]; grind
    have e3 : 10000 ^ i * (x * (val (b.take j) + 10000 ^ j * y)) = 10000 ^ i * (x * val (b.take j)) + 10000 ^ (i + j) * (x * y) := by rw [Nat.pow_add]; grind
    omega
  · intro t ht htl
    rw [List.length_set] at htl
    rw [List.getElem?_set_ne (by omega)]
    exact h.zero t ht htl
theorem MulAt.close {a b p : List Nat} {i c x : Nat} (h : MulAt a b p i b.length c x) (hi : i < a.length) (hx : a[i]? = some x) : MulOut a b (p.set (i + b.length) c) (i + 1) := by
  have hl : i + b.length < p.length := by rw [h.len]; omega
  have hz := h.zero (i + b.length) (by omega) hl
  rw [List.getElem?_eq_getElem hl] at hz
  injection hz with hz
  have hx' : a[i] = x := by rw [List.getElem?_eq_getElem hi] at hx; injection hx
  have hs := val_set hl c
  rw [hz, Nat.mul_zero, Nat.add_zero] at hs
  have hsum := h.sum
  rw [List.take_length] at hsum
  refine ⟨by simp [h.len], dig_set h.dig _ h.car, ?_, ?_⟩
  · rw [hs, hsum, val_take_succ hi, hx', Nat.add_mul, Nat.mul_assoc]
  · intro t ht htl
    rw [List.length_set] at htl
    rw [List.getElem?_set_ne (by omega)]
    exact h.zero t (by omega) htl
theorem MulOut.done {a b p : List Nat} (h : MulOut a b p a.length) : val p = val a * val b := by
  have := h.sum
  rwa [List.take_length] at this

/-! the reference's product: all sums first, then the carries -/
structure SumAt (a b p : List Nat) (i j x : Nat) : Prop where
  len : p.length = a.length + b.length + 1
  sum : val p = val (a.take i) * val b + 10000 ^ i * (x * val (b.take j))
  lo : ∀ t v : Nat, t < i + j → p[t]? = some v → v ≤ 99980001 * (i + 1)
  hi : ∀ t v : Nat, i + j ≤ t → p[t]? = some v → v ≤ 99980001 * i
structure SumOut (a b p : List Nat) (i : Nat) : Prop where
  len : p.length = a.length + b.length + 1
  sum : val p = val (a.take i) * val b
  bnd : ∀ t v : Nat, p[t]? = some v → v ≤ 99980001 * i
theorem SumOut.start (a b : List Nat) : SumOut a b (List.replicate (a.length + b.length + 1) 0) 0 :=
  ⟨by simp, by simp [val, val_zeros], fun t v h => by
    rw [List.getElem?_replicate] at h
    split at h
    · injection h with h; omega
    · cases h⟩
theorem SumOut.inner {a b p : List Nat} {i : Nat} (h : SumOut a b p i) (x : Nat) : SumAt a b p i 0 x :=
  ⟨h.len, by simp [val, h.sum], fun t v _ hv => by have := h.bnd t v hv; omega, fun t v _ hv => by have := h.bnd t v hv; omega⟩
theorem SumAt.step {a b p : List Nat} {i j x y z : Nat} (h : SumAt a b p i j x) (hb : Dig b) (hi : i < a.length) (hj : j < b.length) (hy : b[j]? = some y) (hz : p[i + j]? = some z) (hx : x < 10000) :
    SumAt a b (p.set (i + j) (z + x * y)) i (j + 1) x := by
  have hl : i + j < p.length := by rw [h.len]; omega
  have hz' : p[i + j] = z := by rw [List.getElem?_eq_getElem hl] at hz; injection hz
  have hy' : b[j] = y := by rw [List.getElem?_eq_getElem hj] at hy; injection hy
  have hy1 : y < 10000 := hb y (List.mem_of_getElem? hy)
  have hs := val_set hl (z + x * y)
  rw [hz', Nat.mul_add] at hs
  have hxy : x * y ≤ 9999 * 9999 := Nat.mul_le_mul (by omega) (by omega)
  have hsum := h.sum
  refine ⟨by simp [h.len], ?_, ?_, ?_⟩
  · rw [val_take_succ hj, hy']
    have e3 : 10000 ^ i * (x * (val (b.take j) + 10000 ^ j * y)) = 10000 ^ i * (x * val (b.take j)) + 10000 ^ (i + j) * (x * y) := by rw [Nat.pow_add]; grind
    omega
  · intro t v ht hv
    rcases Nat.lt_or_ge t (i + j) with h1 | h1
    · rw [List.getElem?_set_ne (by omega)] at hv
      exact h.lo t v h1 hv
    · obtain rfl : t = i + j := by omega
      rw [List.getElem?_set_self hl] at hv
      injection hv with hv
      have := h.hi (i + j) z (by omega) hz
      omega
  · intro t v ht hv
    rw [List.getElem?_set_ne (by omega)] at hv
    exact h.hi t v (by omega) hv
theorem SumAt.close {a b p : List Nat} {i x : Nat} (h : SumAt a b p i b.length x) (hi : i < a.length) (hx : a[i]? = some x) : SumOut a b p (i + 1) := by
  have hx' : a[i] = x := by rw [List.getElem?_eq_getElem hi] at hx; injection hx
  have hsum := h.sum
  rw [List.take_length] at hsum
  refine ⟨h.len, ?_, ?_⟩
  · rw [hsum, val_take_succ hi, hx', Nat.add_mul, Nat.mul_assoc]
  · intro t v hv
    rcases Nat.lt_or_ge t (i + b.length) with h1 | h1
    · have := h.lo t v h1 hv
      omega
    · have := h.hi t v h1 hv
      omega
/-- behind k carries -/
structure CarAt (V n : Nat) (p : List Nat) (k : Nat) : Prop where
  len : p.length = n + 1
  sum : val p = V
  lo : ∀ t v : Nat, t < k → p[t]? = some v → v < 10000
  bnd : ∀ t v : Nat, p[t]? = some v → v ≤ 7000000000
  hi : ∀ t v : Nat, k < t → p[t]? = some v → v ≤ 6000000000
theorem CarAt.start {a b p : List Nat} (h : SumOut a b p a.length) (ha : a.length ≤ 60) : CarAt (val a * val b) (a.length + b.length) p 0 := by
  have hsum := h.sum
  rw [List.take_length] at hsum
  exact ⟨h.len, hsum, fun t v ht => by omega, fun t v hv => by have := h.bnd t v hv; omega, fun t v _ hv => by have := h.bnd t v hv; omega⟩
theorem CarAt.step {V n : Nat} {p : List Nat} {k y z : Nat} (h : CarAt V n p k) (hk : k < n) (hy : p[k]? = some y) (hz : p[k + 1]? = some z) : CarAt V n ((p.set (k + 1) (z + y / 10000)).set k (y % 10000)) (k + 1) := by
  have hl : k < p.length := by rw [h.len]; omega
  have hl1 : k + 1 < p.length := by rw [h.len]; omega
  have hy' : p[k] = y := by rw [List.getElem?_eq_getElem hl] at hy; injection hy
  have hz' : p[k + 1] = z := by rw [List.getElem?_eq_getElem hl1] at hz; injection hz
  have hs := val_set hl1 (z + y / 10000)
  have hs2 := val_set (l := p.set (k + 1) (z + y / 10000)) (i := k) (by simpa using hl) (y % 10000)
  rw [List.getElem_set_ne (by omega), hy'] at hs2
  rw [hz'] at hs
  have hyb := h.bnd k y hy
  have hzb := h.hi (k + 1) z (by omega) hz
  refine ⟨by simp [h.len], ?_, ?_, ?_, ?_⟩
  · rw [← h.sum]
    rw [Nat.pow_succ, Nat.mul_add] at hs
    have e : 10000 ^ k * y = 10000 ^ k * 10000 * (y / 10000) + 10000 ^ k * (y % 10000) := by
      conv => lhs; rw [show y = 10000 * (y / 10000) + y % 10000 from by omega]
      grind
    omega
  · intro t v ht hv
    rcases Nat.lt_or_ge t k with h1 | h1
    · rw [List.getElem?_set_ne (by omega), List.getElem?_set_ne (by omega)] at hv
      exact h.lo t v h1 hv
    · obtain rfl : t = k := by omega
      rw [List.getElem?_set_self (by simpa using hl)] at hv
      injection hv with hv
      omega
  · intro t v hv
    rcases Nat.lt_trichotomy t k with h1 | h1 | h1
    · rw [List.getElem?_set_ne (by omega), List.getElem?_set_ne (by omega)] at hv
      exact h.bnd t v hv
    · subst h1
      rw [List.getElem?_set_self (by simpa using hl)] at hv
      injection hv with hv
      omega
    · rw [List.getElem?_set_ne (by omega)] at hv
      rcases Nat.eq_or_lt_of_le h1 with h2 | h2
      · subst h2
        rw [List.getElem?_set_self (by simpa using hl1)] at hv
        injection hv with hv
        omega
      · rw [List.getElem?_set_ne (by omega)] at hv
        exact h.bnd t v hv
  · intro t v ht hv
    rw [List.getElem?_set_ne (by omega), List.getElem?_set_ne (by omega)] at hv
    exact h.hi t v (by omega) hv
theorem CarAt.done {V n : Nat} {p : List Nat} (h : CarAt V n p n) (hV : V < 10000 ^ n) : Dig p := by
  intro d hd
  obtain ⟨t, ht, he⟩ := List.getElem_of_mem hd
  rw [h.len] at ht
  have hv : p[t]? = some d := by rw [List.getElem?_eq_getElem (by rw [h.len]; exact ht), he]
  rcases Nat.lt_or_ge t n with h1 | h1
  · exact h.lo t d h1 hv
  · obtain rfl : t = n := by omega
    have h2 := val_split p t (by rw [h.len]; omega)
    rw [he, h.sum] at h2
    rcases Nat.eq_zero_or_pos d with rfl | hp
    · omega
    · exfalso
      have h3 : 10000 ^ t * 1 ≤ 10000 ^ t * (d + 10000 * val (p.drop (t + 1))) := Nat.mul_le_mul_left _ (by omega)
      omega
theorem mul_lt_pow {a b : List Nat} (ha : Dig a) (hb : Dig b) : val a * val b < 10000 ^ (a.length + b.length) := by
  have h1 := val_lt ha
  have h2 := val_lt hb
  rw [Nat.pow_add]
  exact Nat.mul_lt_mul'' h1 h2
end Go.Proofs.YtbnmkbkjoofekaaDoor.K
