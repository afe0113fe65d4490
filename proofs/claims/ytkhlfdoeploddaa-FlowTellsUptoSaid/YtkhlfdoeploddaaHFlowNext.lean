import Derived.Test.YtkhlfdoeploddaaPFlowx0
import Derived.LoopN
import Derived.Laws.RangeAny
import Derived.Laws.RangeString
import Derived.Test.YtkhlfdoeploddaaPFlowx4
namespace Go.Proofs.Ytkhlfdoeploddaa.PFlow
open Go.RowKit Go.Proofs.YtkhlfdoeploddaaW.PrintWords Go.Proofs.YtkhlfdoeploddaaW.PrintLast Go.Proofs.YtkhlfdoeploddaaW.PrintMore
set_option linter.unusedVariables false
set_option linter.unusedSimpArgs false

/-- Is there such a character? -/
def isB (r : Int) : Bool := r == 9 || r == 10 || r == 13 || (decide (32 ≤ r) && decide (r ≤ 1114111) && !(decide (55296 ≤ r) && decide (r ≤ 57343)))
theorem is_f (r : Int) : utf_is.f 1 r = some (isB r) := by
  unfold utf_is.f isB
  unfold utf8_ValidRune.f
  simp only [utf8_ValidRune.j0]
  by_cases h1 : r = 9
  · subst h1; decide
  by_cases h2 : r = 10
  · subst h2; decide
  by_cases h3 : r = 13
  · subst h3; decide
  have e1 : (r == 9) = false := by simpa using h1
  have e2 : (r == 10) = false := by simpa using h2
  have e3 : (r == 13) = false := by simpa using h3
  rw [if_neg h1, if_neg h2, if_neg h3, e1, e2, e3]
  by_cases h4 : 32 ≤ r
  · by_cases h5 : r ≤ 1114111
    · have ew : wrap32 r = r := by unfold wrap32; omega
      rw [ew]
      have h0 : 0 ≤ r := by omega
      by_cases h6 : r < 55296
      · have h6' : ¬ 55296 ≤ r := by omega
        simp [h0, h4, h5, h6, h6']
      · have h6' : 55296 ≤ r := by omega
        by_cases h7 : 57343 < r
        · have h7' : ¬ r ≤ 57343 := by omega
          simp [h0, h4, h5, h6, h6', h7, h7']
        · have h7' : r ≤ 57343 := by omega
          simp [h0, h4, h5, h6, h6', h7, h7']
    · simp [h4, h5]
  · simp [h4]
theorem isB_bd {r : Int} (h : isB r = true) : 9 ≤ r ∧ r ≤ 1114111 := by
  simp [isB] at h
  omega

theorem encode_le (r : Int) : (Utf8.encode r).size ≤ 4 := by
  unfold Utf8.encode
  simp only
  (repeat' split) <;> simp [ByteArray.size]
/-- A character's bytes; none, if there is none. -/
def putOf (r : Int) : ByteArray := if isB r = true then Utf8.encode r else ⟨#[]⟩
/-- The character at a place, and how many bytes it has. -/
def nextOf (s : ByteArray) (i : Nat) : Int × Int :=
  let c := (Utf8.decode (s.extract i s.size) 0).1
  let e := Utf8.encode c
  if isB c = true ∧ i + e.size ≤ s.size ∧ (s.extract i (i + e.size)).toList = e.toList then ((c : Int), (e.size : Int)) else (0, 0)
def utf_Put.f (a0 : Int) : Option ByteArray := some (putOf a0)
def utf_Next.f (a0 : ByteArray) (a1 : Int) : Option (Int × Int) :=
  if a0.size ≤ 4611686018427387904 then some (if a1 < 0 ∨ (a0.size : Int) ≤ a1 then (0, 0) else nextOf a0 a1.toNat) else none

set_option maxHeartbeats 1000000 in
set_option maxRecDepth 100000 in
theorem utf_Next.calls (a0 : ByteArray) (a1 : Int) (r1 r2 : Int) (w : World) (h : utf_Next.f a0 a1 = some (r1, r2)) :
    Calls Try.prog 32 #[.string a0, .int .i64 a1] w fun e w' => e = .returned (.tuple #[.int .i64 r1, .int .i64 r2]) ∧ Below w.heap.size w w' := by
  unfold utf_Next.f at h
  by_cases hs : a0.size ≤ 4611686018427387904
  · rw [if_pos hs] at h
    replace h := Option.some.inj h
    by_cases h1 : a1 < 0
    · rw [if_pos (.inl h1)] at h
      obtain ⟨rfl, rfl⟩ := Prod.mk.inj h
      have c1 : decide (a1 < 0) = true := decide_eq_true h1
      go_enter Try.func32, Try.ntmps32
      go_wp2
      go_ret2
      exact ⟨rfl, Below.refl _ _⟩
    · by_cases h2 : (a0.size : Int) ≤ a1
      · rw [if_pos (.inr h2)] at h
        obtain ⟨rfl, rfl⟩ := Prod.mk.inj h
        have c1 : decide (a1 < 0) = false := decide_eq_false h1
        go_enter Try.func32, Try.ntmps32
        go_wp2
        go_ret2
        exact ⟨rfl, Below.refl _ _⟩
      · rw [if_neg (by omega)] at h
        have h0 : 0 ≤ a1 := by omega
        have h3 : a1 < a0.size := by omega
        clear h1 h2
        obtain ⟨n, rfl⟩ : ∃ n : Nat, a1 = n := ⟨a1.toNat, by omega⟩
        have hz : 0 < (a0.extract n a0.size).size := by simp; omega
        obtain ⟨t, ht⟩ : ∃ t, a0.extract n a0.size = t := ⟨_, rfl⟩
        rw [ht] at hz
        have hnx := fun ty => run_next_any (P := Try.prog) w t 0 ty hz
        go_enter Try.func32, Try.ntmps32
        go_wp2_with fail
        obtain ⟨c, hc⟩ : ∃ c, (Utf8.decode t 0).1 = c := ⟨_, rfl⟩
        obtain ⟨d, hd⟩ : ∃ d, (Utf8.decode t 0).2 = d := ⟨_, rfl⟩
        obtain ⟨u, hu⟩ : ∃ u, Utf8.encode (c : Int) = u := ⟨_, rfl⟩
        have hcb := decode_le t 0
        have hub : u.size ≤ 4 := by rw [← hu]; exact encode_le _
        rw [hc, hd] at hnx
        rw [hc] at hcb
        have hi := is_f c
        have hN : nextOf a0 n = if isB c = true ∧ n + u.size ≤ a0.size ∧ (a0.extract n (n + u.size)).toList = u.toList then ((c : Int), (u.size : Int)) else (0, 0) := by
          unfold nextOf
          simp only [ht, hc, hu]
        have ew : ((n : Int)).toNat = n := by omega
        rw [ew, hN] at h
        have HT := Aside0.mk ht
        have HC := Aside0.mk hc
        have HU := Aside0.mk hu
        clear ht hc hd hN ew
        refine wp_loop_rounds 1 ?_
        rw [rounds_succ]
        go_wp2_with fail
        clear hu hnx
        cases hb : isB c with
        | true =>
          rw [hb] at hi h
          by_cases h4 : n + u.size ≤ a0.size
          · by_cases h5 : (a0.extract n (n + u.size)).toList = u.toList
            · rw [if_pos ⟨rfl, h4, h5⟩] at h
              obtain ⟨rfl, rfl⟩ := Prod.mk.inj h
              have h6 : ((a0.extract n (n + u.size)).toList == u.toList) = true := by rw [h5]; simp
              have h7 : ((a0.extract n (n + u.size)).toList == (Utf8.encode (c : Int)).toList) = true := by rw [HU.out]; exact h6
              have hsl : ∀ W : World, (Instr.sliceAt 9 (.string a0) (some (.int .i64 (n : Int))) (some (.int .i64 ((n : Int) + (u.size : Int)))) none).run Try.prog W = .ok (.string (a0.extract n (n + u.size))) W := fun W => by
                rw [run_sliceAt_string (h := Try.underlying9), run_slice_string W 9 a0 .i64 .i64 (n : Int) ((n : Int) + (u.size : Int)) Try.underlying9 (by omega) (by omega) (by omega)]
                have e1 : ((n : Int)).toNat = n := by omega
                have e2 : ((n : Int) + (u.size : Int)).toNat = n + u.size := by omega
                rw [e1, e2]
              clear h h5 hb
              refine (utf_is.calls 1 _ true _ hi).mono ?_
              rintro e w1 ⟨rfl, ⟨⟨nn, rfl⟩⟩⟩
              go_wp2
              all_goals (go_ret2; exact ⟨rfl, pw_below_drewN ((Below.refl _ _).alloc (Nat.le_refl _) _) _⟩)
            · rw [if_neg (fun h_ => h5 h_.2.2)] at h
              obtain ⟨rfl, rfl⟩ := Prod.mk.inj h
              have h6 : ((a0.extract n (n + u.size)).toList == u.toList) = false := by simpa using h5
              have h7 : ((a0.extract n (n + u.size)).toList == (Utf8.encode (c : Int)).toList) = false := by rw [HU.out]; exact h6
              have hsl : ∀ W : World, (Instr.sliceAt 9 (.string a0) (some (.int .i64 (n : Int))) (some (.int .i64 ((n : Int) + (u.size : Int)))) none).run Try.prog W = .ok (.string (a0.extract n (n + u.size))) W := fun W => by
                rw [run_sliceAt_string (h := Try.underlying9), run_slice_string W 9 a0 .i64 .i64 (n : Int) ((n : Int) + (u.size : Int)) Try.underlying9 (by omega) (by omega) (by omega)]
                have e1 : ((n : Int)).toNat = n := by omega
                have e2 : ((n : Int) + (u.size : Int)).toNat = n + u.size := by omega
                rw [e1, e2]
              clear h h5 hb
              refine (utf_is.calls 1 _ true _ hi).mono ?_
              rintro e w1 ⟨rfl, ⟨⟨nn, rfl⟩⟩⟩
              go_wp2
              all_goals (go_ret2; exact ⟨rfl, pw_below_drewN ((Below.refl _ _).alloc (Nat.le_refl _) _) _⟩)
          · rw [if_neg (fun h_ => h4 h_.2.1)] at h
            obtain ⟨rfl, rfl⟩ := Prod.mk.inj h
            have h6 : decide ((u.size : Int) ≤ (a0.size : Int) - (n : Int)) = false := by simp; omega
            clear h hb
            refine (utf_is.calls 1 _ true _ hi).mono ?_
            rintro e w1 ⟨rfl, ⟨⟨nn, rfl⟩⟩⟩
            go_wp2
            all_goals (go_ret2; exact ⟨rfl, pw_below_drewN ((Below.refl _ _).alloc (Nat.le_refl _) _) _⟩)
        | false =>
          rw [hb] at hi h
          rw [if_neg (by simp)] at h
          obtain ⟨rfl, rfl⟩ := Prod.mk.inj h
          clear h hb
          refine (utf_is.calls 1 _ false _ hi).mono ?_
          rintro e w1 ⟨rfl, ⟨⟨nn, rfl⟩⟩⟩
          go_wp2
          go_ret2
          exact ⟨rfl, pw_below_drewN ((Below.refl _ _).alloc (Nat.le_refl _) _) _⟩
  · rw [if_neg hs] at h; exact absurd h (by simp)
end Go.Proofs.Ytkhlfdoeploddaa.PFlow
