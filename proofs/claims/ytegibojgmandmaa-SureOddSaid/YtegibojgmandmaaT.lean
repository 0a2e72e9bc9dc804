/-
  The kernel runs a law where some answers are given: of functions without parameters that say yes, and of functions of one text.
-/
import Derived.Test.YtegibojgmandmaaA6

namespace Ax
open Go

noncomputable def korcF (S : Nat → Option SFunc) (F : Nat → List AV → Option AV) (n : Nat) : Orc := Nat.rec (motive := fun _ => Orc)
  ⟨fun _ _ _ _ _ => none, fun _ _ _ _ _ => none⟩
  (fun _ ih => ⟨fun wl lim f args st => match F f args with
      | some v => some (v, st)
      | none => match S f with
        | some sf => kcallBody ih wl lim sf args st
        | none => none,
     fun wl lim rs c s => match ksem ih wl lim rs c s with
      | some (Ex.normal, s') => ih.loop wl lim rs c s'
      | r => r⟩) n

theorem korcF_le {S : Nat → Option SFunc} {F : Nat → List AV → Option AV} (hF : ∀ f args v, F f args = some v → ∀ wl lim st, (orcL S).call wl lim f args st = some (v, st)) : ∀ n, (korcF S F n).le (orcL S) := by
  intro n
  induction n with
  | zero => exact ⟨fun _ _ _ _ _ _ h => by simp [korcF] at h, fun _ _ _ _ _ _ h => by simp [korcF] at h⟩
  | succ n ih =>
    refine ⟨fun wl lim f args st r h => ?_, fun wl lim rs c s r h => ?_⟩
    · have h : (match F f args with
        | some v => some (v, st)
        | none => match S f with
          | some sf => kcallBody (korcF S F n) wl lim sf args st
          | none => none) = some r := h
      cases hf : F f args with
      | some v =>
        rw [hf] at h
        cases h
        exact hF f args v hf wl lim st
      | none =>
        rw [hf] at h
        simp only at h
        rw [orcL_call]
        cases hs : S f with
        | none => rw [hs] at h; cases h
        | some sg =>
          rw [hs] at h
          simp only [kcallBody_eq] at h
          exact callBody_mono ih h
    · have h : (match ksem (korcF S F n) wl lim rs c s with
        | some (.normal, s') => (korcF S F n).loop wl lim rs c s'
        | r => r) = some r := h
      rw [ksem_eq] at h
      rw [orcL_loop]
      cases hs : sem (korcF S F n) wl lim rs c s with
      | none => rw [hs] at h; cases h
      | some y =>
        rw [hs] at h
        rw [sem_mono ih hs]
        obtain ⟨x, s'⟩ := y
        cases x with
        | normal => exact ih.loop _ _ _ _ _ _ h
        | exit _ => exact h
        | ret _ => exact h

def byteEq : List UInt8 → List UInt8 → Bool
  | [], [] => true
  | a :: x, b :: y => Nat.beq a.toNat b.toNat && byteEq x y
  | _, _ => false
theorem byteEq_eq : ∀ {x y : List UInt8}, byteEq x y = true → x = y
  | [], [], _ => rfl
  | [], _ :: _, h => by cases h
  | _ :: _, [], h => by cases h
  | a :: x, b :: y, h => by
    simp only [byteEq, Bool.and_eq_true] at h
    rw [UInt8.toNat_inj.1 (Nat.eq_of_beq_eq_true h.1), byteEq_eq h.2]
def lookS : List (Nat × List UInt8 × AV) → Nat → List UInt8 → Option AV
  | [], _, _ => none
  | (g, t, v) :: l, f, s => match Nat.beq f g with
    | true => match byteEq s t with
      | true => some v
      | false => lookS l f s
    | false => lookS l f s
theorem lookS_mem {f : Nat} {s : List UInt8} {v : AV} : ∀ {l}, lookS l f s = some v → (f, s, v) ∈ l
  | [], h => by cases h
  | (g, t, u) :: l, h => by
    unfold lookS at h
    split at h
    · rename_i e
      split at h
      · rename_i e2
        cases h
        rw [Nat.eq_of_beq_eq_true e, byteEq_eq e2]
        exact List.mem_cons_self
      · exact List.mem_cons_of_mem _ (lookS_mem h)
    · exact List.mem_cons_of_mem _ (lookS_mem h)
/-- The answers that are given. -/
def ansF (yes : Nat) (tbl : List (Nat × List UInt8 × AV)) (f : Nat) (args : List AV) : Option AV := match args with
  | [] => match Nat.beq f yes with | true => some (.bool true) | false => none
  | [.str s] => lookS tbl f s
  | _ => none
/-- What the kernel has found, where one function is known to say yes, and functions of a text are known. -/
theorem call_kt {S : Nat → Option SFunc} {n yes f : Nat} {sf : SFunc} {args : List AV} {tbl : List (Nat × List UInt8 × AV)} (hf : S yes = some sf) (hm : sf.mode = .pure) (hk : (orcL S).call 0 0 yes [] [] = some (.bool true, []))
    (ht : ∀ f s v, (f, s, v) ∈ tbl → ∀ wl lim st, (orcL S).call wl lim f [.str s] st = some (v, st)) (h : says ((korcF S (ansF yes tbl) n).call 0 0 f args []) = true) : (orcL S).call 0 0 f args [] = some (.bool true, []) := by
  refine (korcF_le (fun f args v hv wl lim st => ?_) n).call _ _ _ _ _ _ (says_eq h)
  unfold ansF at hv
  split at hv
  · split at hv
    · rename_i e
      cases hv
      rw [Nat.eq_of_beq_eq_true e]
      exact call_any hf hm rfl hk wl lim st
    · cases hv
  · exact ht _ _ _ (lookS_mem hv) wl lim st
  · cases hv
end Ax
