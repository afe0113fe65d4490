/- The pure statement of FlowLay. -/
import Derived.Test.YtkhlfdoeploddaaPFlowx29
import Derived.Test.YtkhlfdoeploddaaHFlowFlowA
import Derived.Test.YtkhlfdoeploddaaHFlowLaid
namespace Go.Proofs.Ytkhlfdoeploddaa.PFlow
open Go.RowKit Go.Proofs.YtkhlfdoeploddaaW.PrintWords Go.Proofs.YtkhlfdoeploddaaW.PrintMore
set_option linter.unusedVariables false
set_option linter.unusedSimpArgs false
theorem bl_mk (x : List UInt8) : bl (⟨x.toArray⟩ : ByteArray) = x := rfl
theorem toL (s : ByteArray) : s.toList = bl s := by rw [ByteArray.toList_eq]; rfl
theorem size_mk (x : List UInt8) : (⟨x.toArray⟩ : ByteArray).size = x.length := by rw [← bl_len, bl_mk]
theorem ext_pre (a t : List UInt8) : ((⟨(a ++ t).toArray⟩ : ByteArray).extract 0 ((⟨a.toArray⟩ : ByteArray).size : Int).toNat).toList = (⟨a.toArray⟩ : ByteArray).toList := by
  rw [toL, toL, bl_mk, Int.toNat_natCast, size_mk]
  show ((⟨(a ++ t).toArray⟩ : ByteArray).extract 0 a.length).data.toList = a
  rw [ByteArray.data_extract, Array.toList_extract, List.extract_eq_take_drop]
  simp
theorem lay_q {l : List S34} (hd : Dom l) {w : Int} (r : roomB l w = true) : wide_Lay.f l w = some (⟨(uptoP l w l.length).out.toArray⟩, true) := by
  unfold wide_Lay.f wide_laid.f
  rw [hd.room, Option.bind_some, if_pos r, if_pos ⟨(roomB_true.1 r).1, hd.small, by have := hd.bulk; omega⟩]; rfl
theorem _root_.Go.Proofs.Ytkhlfdoeploddaa.Pure.FlowLay : copperplatelaw19_FlowLay.PureUp := by
  intro l w k j hl16 ht hw hk hj hb
  have hsm := small_of ht
  rw [← bulk_sum] at hb
  have hd : Dom l := ⟨by omega, hsm, by omega⟩
  refine ⟨1, ?_⟩
  unfold copperplatelaw19_FlowLay.f copperplatelaw19_awake.f
  rw [Option.bind_some, if_pos rfl]
  by_cases c2 : (l.length : Int) > 60
  · rw [if_pos c2]; rfl
  rw [if_neg c2, hd.room, Option.bind_some]
  by_cases r : roomB l w = true
  rotate_left
  · rw [if_neg r]; rfl
  rw [if_pos r]
  by_cases k0 : k < 0
  · rw [if_pos k0]; rfl
  rw [if_neg k0]
  by_cases k1 : j < k
  · rw [if_pos k1]; rfl
  rw [if_neg k1]
  by_cases k2 : j > (l.length : Int)
  · rw [decide_eq_true k2]; rfl
  obtain ⟨n, rfl⟩ := Int.eq_ofNat_of_zero_le (show 0 ≤ k by omega)
  obtain ⟨m, rfl⟩ := Int.eq_ofNat_of_zero_le (show 0 ≤ j by omega)
  obtain ⟨i1, h1, e1⟩ := flow_case hd r (k := n) (by omega)
  obtain ⟨i2, h2, e2⟩ := flow_case hd r (k := m) (by omega)
  have h12 := h1.mono h2 (by omega)
  have hle := h2.le
  obtain ⟨t1, q1⟩ := upto_out l w i1 (i2 - i1)
  rw [show i1 + (i2 - i1) = i2 by omega] at q1
  obtain ⟨t2, q2⟩ := upto_out l w i2 (l.length - i2)
  rw [show i2 + (l.length - i2) = l.length by omega] at q2
  have rh : roomB (l ++ [nlB]) w = true := by
    have h := roomB_true.1 r
    exact roomB_true.2 ⟨h.1.app mayB_hard (by show l.length + 1 ≤ 4000; omega), h.2.1, h.2.2⟩
  rw [decide_eq_false k2, copperplatelaw19_FlowLay.j0, if_neg (by decide), hd.flow_yes r (show n ≤ l.length by omega), hd.flow_yes r (show m ≤ l.length by omega), lay_q hd r, hd.all, if_pos rh, e1, e2]
  simp only [Option.bind_some]
  generalize (uptoP l w i1).out = A at q1
  generalize (uptoP l w i2).out = C at q1 q2
  generalize (uptoP l w l.length).out = E at q2
  subst q2
  subst q1
  rw [if_pos trivial, if_pos trivial, if_pos (by rw [size_mk, size_mk]; simp only [List.length_append]; omega), if_pos (by rw [size_mk, size_mk]; simp only [List.length_append]; omega), if_pos (by omega), if_pos (ext_pre _ _), if_pos (by omega), if_pos (ext_pre _ _), if_pos trivial]
  simp
end Go.Proofs.Ytkhlfdoeploddaa.PFlow
