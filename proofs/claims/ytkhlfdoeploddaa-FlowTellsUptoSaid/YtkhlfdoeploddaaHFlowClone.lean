/- slices.Clone of bits: a list alike. -/
import Derived.Test.YtkhlfdoeploddaaPFlowx0
import Derived.Test.YtkhlfdoeploddaaHFlowRF
import Derived.Test.YtkhlfdoeploddaaShelf
namespace Go.Proofs.Ytkhlfdoeploddaa.PFlow
open Go.RowKit Go.Shelf Go.Proofs.YtkhlfdoeploddaaW.PrintWords Go.Proofs.YtkhlfdoeploddaaW.PrintLast Go.Proofs.YtkhlfdoeploddaaW.PrintMore
set_option linter.unusedVariables false
set_option linter.unusedSimpArgs false
def api_Bit.f (l0 : List S34) : Option (List S34) := if l0.length ≤ 5864062014805 then some l0 else none
set_option maxRecDepth 100000 in
set_option maxHeartbeats 2000000 in
theorem api_Bit.calls (A0 : Option Addr) (c0 : Nat) (l0 : List S34) (r : List S34) (w : World) (hr0 : Kd.C k34 w A0 l0.length l0) (hc0 : l0.length ≤ c0) (h : api_Bit.f l0 = some r) :
    Calls Try.prog 27 #[.slice A0 l0.length c0] w fun e w' => ∃ v : Value, e = .returned v ∧ Kd.R k34 34 w' w.heap.size (fun _ => True) v r ∧ Below w.heap.size w w' := by
  unfold api_Bit.f at h
  by_cases hs0 : l0.length ≤ 5864062014805
  rotate_left
  · rw [if_neg hs0] at h; exact absurd h (by simp)
  rw [if_pos hs0] at h
  obtain rfl := Option.some.inj h
  clear h
  have HR0 := Aside0.mk hr0
  cases A0 with
  | none =>
    have e : l0 = [] := by
      refine List.eq_nil_of_length_eq_zero (Classical.byContradiction fun hn => ?_)
      obtain ⟨ad, e, _⟩ := hr0.2.2 (by omega)
      cases e
    subst e
    have he : ∀ W : World, (binOp .eql 22 (.slice none 0 c0) (.slice none 0 0)).run Try.prog W = .ok (.bool true) W := fun _ => rfl
    clear hr0 HR0
    go_enter Try.func27, Try.ntmps27
    go_wp2_with fail
    go_ret
    exact ⟨_, rfl, Kd.R_nil _ _ _ _ _, Below.refl _ _⟩
  | some ad =>
    have he : ∀ W : World, (binOp .eql 22 (.slice (some ad) l0.length c0) (.slice none 0 0)).run Try.prog W = .ok (.bool false) W := fun _ => rfl
    have hO : Kd.R k34 34 (w.alloc (.cells #[] 34)) w.heap.size (fun _ => True) (.slice (some ⟨w.heap.size, 0, none⟩) 0 0) ([] : List S34) :=
      ⟨fun _ _ => trivial, [], ⟨rfl, .inr ⟨w.heap.size, 0, #[], rfl, Nat.le_refl _, World.alloc_heap_new w _, Nat.le_refl _, by unfold maxLen; omega, rfl, rfl⟩⟩, Reps.none _ _⟩
    have HO := Aside0.mk hO
    have HBA := Aside0.mk (show Below w.heap.size w (w.alloc (.cells #[] 34)) from (Below.refl _ w).alloc (Nat.le_refl _) _)
    clear hr0 hO
    go_enter Try.func27, Try.ntmps27
    go_wp2_with (at_builtin; refine Kd.R_append_rows k34 (w0 := w) w.heap.size rfl (.tmp 5) (.tmp 6) 22 34 (.agg #[(.int .i64 0), (.string ⟨#[]⟩)]) 24 rfl Try.underlying22 info34 rfl (by decide) (by omega) (.slice (some ⟨w.heap.size, 0, none⟩) 0 0) ([] : List S34) l0 _ _ _ (fun _ => True) (fun _ => False) rfl rfl ?aO ?aR (fun _ _ h => h) (fun _ h => h.elim) ?aF ?aB ?aS ?aL ?_; (case aR => exact Kd.C_alloc HR0.out _); (case aB => exact HBA.out); (case aF => exact (fun _ _ => trivial)); (case aO => exact HO.out); (case aS => exact HBA.out.size); (case aL => simp only [List.length_nil]; omega); intro v1 w1 ho hb hg hat; have HO1 := Aside0.mk ho; have HB1 := Aside0.mk hb; clear ho hb hg hat)
    go_wp2_with fail
    go_ret
    exact ⟨_, rfl, HO1.out, HB1.out⟩
end Go.Proofs.Ytkhlfdoeploddaa.PFlow
namespace Go.Proofs.Ytkhlfdoeploddaa.PFlow
open Go.RowKit Go.Proofs.YtkhlfdoeploddaaW.PrintWords Go.Proofs.YtkhlfdoeploddaaW.PrintMore
set_option linter.unusedVariables false
def strings_TrimSuffix.f (a0 a1 : ByteArray) : Option ByteArray := if a0.size ≤ 9223372036854775807 then some ⟨(Lib.trimSuffix a0.data.toList a1.data.toList).toArray⟩ else none
theorem strings_TrimSuffix.calls (a0 a1 : ByteArray) (r : ByteArray) (w : World) (h : strings_TrimSuffix.f a0 a1 = some r) :
    Calls Try.prog 28 #[.string a0, .string a1] w fun e w' => e = .returned (.string r) ∧ Below w.heap.size w w' := by
  unfold strings_TrimSuffix.f at h
  by_cases g : a0.size ≤ 9223372036854775807
  · rw [if_pos g] at h
    obtain rfl := Option.some.inj h
    refine (Try.strings_TrimSuffix a0 a1 w g).mono ?_
    rintro e w' ⟨rfl, rfl⟩
    exact ⟨rfl, Below.refl _ _⟩
  · rw [if_neg g] at h; exact absurd h (by simp)
end Go.Proofs.Ytkhlfdoeploddaa.PFlow
