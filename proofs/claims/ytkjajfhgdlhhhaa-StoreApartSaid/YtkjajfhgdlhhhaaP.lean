/- Part of a proof. -/
import Derived.Test.YtkjajfhgdlhhhaaW

namespace U10
open Ax Go Code10
set_option maxRecDepth 100000
set_option maxHeartbeats 1000000
variable {st : Store} {p q v : Nat} {T : List (List Int)} {ids : List Nat}

/-- How many cells a thing gets. -/
def szN (n : Int) : Nat := (n % 2 ^ IntKind.i64.bits).toNat &&& 15 % 2 ^ IntKind.i64.bits
theorem szN_le (n : Int) : szN n ≤ 15 := by
  unfold szN
  have : 15 % 2 ^ IntKind.i64.bits = 15 := by decide
  rw [this]
  exact Nat.and_le_right
theorem szN_w (n : Int) : IntKind.i64.wrap (szN n : Int) = (szN n : Int) := by
  have := szN_le n
  rw [wrap64] <;> omega

/-- The value for a cell. -/
def valA (v : Int) (i k : Nat) : Int := IntKind.i64.wrap (IntKind.i64.wrap (v + IntKind.i64.wrap (100 * i)) + k)
/-- The things, the first i of them laid, of the next one k cells. -/
def laidR (v : Int) (i n k : Nat) : List Int := (List.range n).map fun j => if j < k then valA v i j else 0
def laidT (l : List Int) (v : Int) (i k : Nat) : List (List Int) := (List.range l.length).map fun j => if j < i then laidR v j (szN (l.getD j 0)) (szN (l.getD j 0)) else if j = i then laidR v j (szN (l.getD j 0)) k else List.replicate (szN (l.getD j 0)) 0

theorem laidR_zero (v : Int) (i n : Nat) : laidR v i n 0 = List.replicate n 0 := by
  refine List.ext_getElem (by simp [laidR]) fun j h1 h2 => ?_
  simp [laidR]
theorem laidR_set (v : Int) (i n k : Nat) : (laidR v i n k).set k (valA v i k) = laidR v i n (k + 1) := by
  refine List.ext_getElem (by simp [laidR]) fun j h1 h2 => ?_
  rw [List.getElem_set]
  by_cases e : k = j
  · subst e; simp [laidR]
  · simp only [if_neg e, laidR, List.getElem_map, List.getElem_range]
    by_cases h : j < k
    · rw [if_pos h, if_pos (by omega)]
    · rw [if_neg h, if_neg (by omega)]
theorem laidT_len (l : List Int) (v : Int) (i k : Nat) : (laidT l v i k).length = l.length := by simp [laidT]
theorem laidT_at {l : List Int} (v : Int) {i : Nat} (k : Nat) (h : i < l.length) : (laidT l v i k)[i]'(by rw [laidT_len]; exact h) = laidR v i (szN l[i]) k := by
  simp [laidT, h]
theorem laidT_set {l : List Int} (v : Int) {i : Nat} (k : Nat) (h : i < l.length) : (laidT l v i k).set i (laidR v i (szN l[i]) (k + 1)) = laidT l v i (k + 1) := by
  refine List.ext_getElem (by simp [laidT]) fun j h1 h2 => ?_
  rw [List.getElem_set]
  by_cases e : i = j
  · subst e; simp [laidT, h]
  · have e' : ¬ j = i := fun x => e x.symm
    simp [laidT, e, e']
theorem laidT_next {l : List Int} (v : Int) {i : Nat} (h : i < l.length) : laidT l v i (szN l[i]) = laidT l v (i + 1) 0 := by
  refine List.ext_getElem (by simp [laidT]) fun j h1 h2 => ?_
  have hj : j < l.length := by simpa [laidT] using h1
  simp only [laidT, List.getElem_map, List.getElem_range]
  rcases Nat.lt_trichotomy j i with h3 | h3 | h3
  · rw [if_pos h3, if_pos (by omega)]
  · subst h3
    simp [h]
  · rw [if_neg (by omega), if_neg (by omega), if_neg (by omega)]
    by_cases h4 : j = i + 1
    · rw [if_pos h4, laidR_zero]
    · rw [if_neg h4]
theorem laidT_zero (l : List Int) (v : Int) : laidT l v 0 0 = l.map fun n => List.replicate (szN n) 0 := by
  refine List.ext_getElem (by simp [laidT]) fun j h1 h2 => ?_
  have hj : j < l.length := by simpa [laidT] using h1
  simp only [laidT, List.getElem_map, List.getElem_range]
  rw [if_neg (by omega)]
  by_cases h : j = 0
  · subst h; simp [laidR_zero, hj]
  · simp [h, hj]
theorem laidT_done (l : List Int) (v : Int) {i : Nat} (h : i < l.length) {k : Nat} (hk : k < szN l[i]) : ((laidT l v l.length 0)[i]'(by rw [laidT_len]; exact h))[k]? = some (valA v i k) := by
  simp [laidT, h, laidR, hk]
end U10

namespace U10
open Ax Go Code10
set_option maxRecDepth 100000
set_option maxHeartbeats 1000000

def T0 (l : List Int) (i : Nat) : List (List Int) := (l.take i).map fun n => List.replicate (szN n) 0
def refs (i : Nat) : List Int := (List.range i).map fun (j : Nat) => (j : Int) + 1
theorem T0_succ {l : List Int} {i : Nat} (h : i < l.length) : T0 l (i + 1) = T0 l i ++ [List.replicate (szN l[i]) 0] := by
  simp only [T0, List.take_succ_eq_append_getElem h, List.map_append, List.map_cons, List.map_nil]
theorem refs_succ (i : Nat) : refs (i + 1) = refs i ++ [(i : Int) + 1] := by simp [refs, List.range_succ]
theorem refs_len (i : Nat) : (refs i).length = i := by simp [refs]
theorem refs_at {n i : Nat} (h : i < (refs n).length) : (refs n)[i] = (i : Int) + 1 := by simp [refs]

theorem trap_laid {l : List Int} {v : Int} {i k a b : Nat} (hi : a < l.length) (hk : b < szN l[a]) (hl : a < (laidT l v i k).length) (hlen : (laidT l v i k)[a].length = szN l[a]) : trapOf (laidT l v i k) ((a : Int) + 1) b = 0 := by
  unfold trapOf
  rw [if_pos (by omega)]
  have e1 : ((a : Int) + 1 - 1).toNat = a := by omega
  have hg : (laidT l v i k).getD a [] = (laidT l v i k)[a] := by simp only [List.getD_eq_getElem?_getD, List.getElem?_eq_getElem hl, Option.getD_some]
  rw [e1, hg, if_pos (by omega)]

theorem law_apart (w : AV) (v : Int) (hw : isI w = true) : (orcL S).call 0 0 4 [w, .int .i64 v] [] = some (.bool true, []) := by
  have w1 := isSl_I hw
  have w3 := rowsL_I hw
  refine call_pure (sf := s4) rfl rfl (by simp [pure_sl w1]) rfl (by simp) ?_
  obtain ⟨l, hl⟩ : ∃ l, l = dI w := ⟨_, rfl⟩
  rw [← hl] at w3
  by_cases n30 : (30 : Int) < (l.length : Int)
  · simp [s4, w1, w3, n30]
  have hn := new_ok 0 0 []
  have h0 := new_rp []
  simp only [List.nil_append, List.length_nil] at hn h0
  simp [s4, w1, w3, n30, hn]
  refine W_loopI s4_l0.eq_1 (fun q : Nat × Store × Nat × Nat × List Nat => ⟨[(0, .val w), (1, .val (.int .i64 v)), (5, .val (.ptr 0 0 0 0)), (6, .val (mkL 1 (ints (refs q.1)))), (7, .val (.int .i64 q.1))], [], q.2.1⟩)
    (fun q => q.1 ≤ l.length ∧ Rp q.2.1 0 (T0 l q.1) q.2.2.1 q.2.2.2.1 q.2.2.2.2) (fun q => l.length - q.1) ((0, [.rows 0 1 [[.nilSl]]], 0, 0, []) : Nat × Store × Nat × Nat × List Nat) (by simp [refs, ints, mkL_nil]) ⟨by simp, h0⟩ ?_
  rintro ⟨i, st, q, vv, ids⟩ ⟨hi, hr⟩ ih
  simp only at hi hr ih
  by_cases hlt : i < l.length
  · have hw1 : IntKind.i64.wrap ((i : Int) + 1) = ((i + 1 : Nat) : Int) := by rw [wrap64] <;> omega
    have hTl : (T0 l i).length = i := by simp [T0]; omega
    have hz : (l[i] % 2 ^ IntKind.i64.bits).toNat &&& 15 % 2 ^ IntKind.i64.bits = szN l[i] := rfl
    have hle := szN_le l[i]
    have hsw := szN_w l[i]
    obtain ⟨st', q', v', ha, r', _, _, _⟩ := arr_ok hr (szN l[i]) (by omega) (by omega)
    rw [← T0_succ hlt] at r'
    have ha' := ha 0 (Nat.zero_le _) (Nat.zero_le _)
    rw [hTl] at ha'
    have hap : appV 1 8 (mkL 1 (ints (refs i))) [[.int .i64 ((i : Int) + 1)]] = some (mkL 1 (ints (refs (i + 1)))) := by
      rw [appV_mk (by rfl) (by simp [refs_len, room]; omega), ints_append1, refs_succ]
    generalize szN l[i] = z at *
    simp [hw, w3, hlt, hz, hsw, ha', hap, hw1]
    exact ih (i + 1, st', q', v', ids ++ [st.length]) ⟨by simp; omega, r'⟩ (by simp; omega)
  · have hil : i = l.length := by omega
    subst hil
    have hT : T0 l l.length = laidT l v 0 0 := by rw [laidT_zero]; simp [T0]
    rw [hT] at hr
    simp [w1, w3]
    refine W_loopI s4_l2.eq_1 (fun s : Nat × Store => ⟨[(0, .val w), (1, .val (.int .i64 v)), (5, .val (.ptr 0 0 0 0)), (6, .val (mkL 1 (ints (refs l.length)))), (10, .val (.int .i64 s.1))], [], s.2⟩)
      (fun s => s.1 ≤ l.length ∧ Rp s.2 0 (laidT l v s.1 0) q vv ids) (fun s => l.length - s.1) ((0, st) : Nat × Store) (by simp) ⟨by simp, hr⟩ ?_
    rintro ⟨i, st⟩ ⟨hi, hr⟩ ih
    simp only at hi hr ih
    by_cases hlt : i < l.length
    · have hw1 : IntKind.i64.wrap ((i : Int) + 1) = ((i + 1 : Nat) : Int) := by rw [wrap64] <;> omega
      have hz : (l[i] % 2 ^ IntKind.i64.bits).toNat &&& 15 % 2 ^ IntKind.i64.bits = szN l[i] := rfl
      have hle := szN_le l[i]
      have hsw := szN_w l[i]
      simp [refs_len, hlt]
      refine W_loopI s4_l1.eq_1 (fun s : Nat × Store => ⟨[(0, .val w), (1, .val (.int .i64 v)), (5, .val (.ptr 0 0 0 0)), (6, .val (mkL 1 (ints (refs l.length)))), (10, .val (.int .i64 i)), (11, .val (.int .i64 s.1))], [], s.2⟩)
        (fun s => s.1 ≤ szN l[i] ∧ Rp s.2 0 (laidT l v i s.1) q vv ids) (fun s => szN l[i] - s.1) ((0, st) : Nat × Store) (by simp) ⟨by simp, hr⟩ ?_
      rintro ⟨k, st⟩ ⟨hk, hr⟩ ih2
      simp only at hk hr ih2
      by_cases hkz : k < szN l[i]
      · have hw2 : IntKind.i64.wrap ((k : Int) + 1) = ((k + 1 : Nat) : Int) := by rw [wrap64] <;> omega
        have hlen := laidT_at v k hlt
        have hll : i < (laidT l v i k).length := by rw [laidT_len]; exact hlt
        have htr := trap_laid (v := v) (i := i) (k := k) hlt hkz hll (by rw [hlen]; simp [laidR])
        obtain ⟨st', hp, r', _, _⟩ := put_ok 0 hr ((i : Int) + 1) k (valA v i k) (by rw [laidT_len]; omega)
        have e1 : ((i : Int) + 1 - 1).toNat = i := by omega
        have hg : (laidT l v i k).getD i [] = laidR v i (szN l[i]) k := by simp only [List.getD_eq_getElem?_getD, List.getElem?_eq_getElem hll, Option.getD_some, hlen]
        have hpT : putT (laidT l v i k) ((i : Int) + 1) k (valA v i k) = laidT l v i (k + 1) := by
          unfold putT
          rw [if_pos htr, e1, hg]
          have : ((k : Int)).toNat = k := by omega
          rw [this, laidR_set, laidT_set v k hlt]
        rw [hpT] at r'
        rw [htr] at hp
        have hv : IntKind.i64.wrap (IntKind.i64.wrap (v + IntKind.i64.wrap (100 * (i : Int))) + (k : Int)) = valA v i k := rfl
        generalize hzz : szN l[i] = z at *
        simp [hw, w3, hlt, hz, hsw, hkz, refs_len, refs_at, hv, hp, hw2]
        exact ih2 (k + 1, st') ⟨by simp; omega, r'⟩ (by simp; omega)
      · have hkk : k = szN l[i] := by omega
        subst hkk
        rw [laidT_next v hlt] at hr
        generalize hzz : szN l[i] = z at *
        simp [hw, w3, hlt, hz, hsw, hw1]
        exact ih (i + 1, st) ⟨by simp; omega, hr⟩ (by simp; omega)
    · have hil : i = l.length := by omega
      subst hil
      simp [refs_len]
      refine W_loopI s4_l4.eq_1 (fun i : Nat => ⟨[(0, .val w), (1, .val (.int .i64 v)), (5, .val (.ptr 0 0 0 0)), (6, .val (mkL 1 (ints (refs l.length)))), (12, .val (.int .i64 i))], [], st⟩)
        (fun i => i ≤ l.length) (fun i => l.length - i) 0 (by simp) (by simp) ?_
      intro i hi ih
      by_cases hlt : i < l.length
      · have hw1 : IntKind.i64.wrap ((i : Int) + 1) = ((i + 1 : Nat) : Int) := by rw [wrap64] <;> omega
        have hz : (l[i] % 2 ^ IntKind.i64.bits).toNat &&& 15 % 2 ^ IntKind.i64.bits = szN l[i] := rfl
        have hle := szN_le l[i]
        have hsw := szN_w l[i]
        simp [refs_len, hlt]
        refine W_loopI s4_l3.eq_1 (fun k : Nat => ⟨[(0, .val w), (1, .val (.int .i64 v)), (5, .val (.ptr 0 0 0 0)), (6, .val (mkL 1 (ints (refs l.length)))), (12, .val (.int .i64 i)), (13, .val (.int .i64 k))], [], st⟩)
          (fun k => k ≤ szN l[i]) (fun k => szN l[i] - k) 0 (by simp) (by simp) ?_
        intro k hk ih2
        by_cases hkz : k < szN l[i]
        · have hw2 : IntKind.i64.wrap ((k : Int) + 1) = ((k + 1 : Nat) : Int) := by rw [wrap64] <;> omega
          have hll : i < (laidT l v l.length 0).length := by rw [laidT_len]; exact hlt
          have hd := laidT_done l v hlt hkz
          have hlen : (laidT l v l.length 0)[i].length = szN l[i] := by simp [laidT, hlt, laidR]
          have htr := trap_laid (v := v) (i := l.length) (k := 0) hlt hkz hll hlen
          have e1 : ((i : Int) + 1 - 1).toNat = i := by omega
          have hg : (laidT l v l.length 0).getD i [] = (laidT l v l.length 0)[i] := by simp only [List.getD_eq_getElem?_getD, List.getElem?_eq_getElem hll, Option.getD_some]
          have ha := fun wl lim => load_ok wl lim hr ((i : Int) + 1) k (by rw [laidT_len]; omega)
          have hgk : ((laidT l v l.length 0)[i]).getD k 0 = valA v i k := by rw [List.getD_eq_getElem?_getD, hd]; rfl
          have e2 : ((k : Int)).toNat = k := by omega
          rw [htr, if_pos rfl, e1, hg, e2, hgk] at ha
          have hv : IntKind.i64.wrap (IntKind.i64.wrap (v + IntKind.i64.wrap (100 * (i : Int))) + (k : Int)) = valA v i k := rfl
          generalize hzz : szN l[i] = z at *
          simp [hw, w3, hlt, hz, hsw, hkz, refs_len, refs_at, hv, ha, hw2]
          exact ih2 (k + 1) (by omega) (by omega)
        · have hkk : k = szN l[i] := by omega
          subst hkk
          generalize hzz : szN l[i] = z at *
          simp [hw, w3, hlt, hz, hsw, hw1]
          exact ih (i + 1) (by omega) (by omega)
      · have hil : i = l.length := by omega
        subst hil
        have hm := fun wl lim => many_ok wl lim hr
        have kn := fun wl lim => call_any (sf := s20) rfl rfl rfl known0 wl lim st
        simp only [laidT_len] at hm
        simp [refs_len, w1, w3, hm, kn]
end U10
