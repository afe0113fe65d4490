/- Bytes as lists, for the laws on pages. -/
import Derived.Test.YtipjfdamkpgecaaPureWideLib
namespace Go.Proofs.Ytipjfdamkpgecaa.PWide
open Go.RowKit Go.Proofs.YtipjfdamkpgecaaW.PrintWords Go.Proofs.YtipjfdamkpgecaaW.PrintMore
set_option linter.unusedVariables false
theorem bl_app (a b : ByteArray) : bl (a ++ b) = bl a ++ bl b := by unfold bl; rw [ByteArray.data_append, Array.toList_append]
theorem bl_inj {a b : ByteArray} (h : bl a = bl b) : a = b := by
  unfold bl at h
  exact ByteArray.ext (Array.ext' h)
theorem bl_get {s : ByteArray} {i : Nat} (h : i < s.size) : (bl s)[i]? = some s[i] := by
  unfold bl
  rw [Array.getElem?_toList]
  exact Array.getElem?_eq_getElem (h := h)
theorem bl_take {s : ByteArray} {i : Nat} (h : i < s.size) : (bl s).take (i + 1) = (bl s).take i ++ [s[i]] := by
  rw [List.take_add_one, bl_get h]; rfl
theorem bl_all (s : ByteArray) : (bl s).take s.size = bl s := by rw [← bl_len]; exact List.take_length
theorem bl_ext {s : ByteArray} {i : Nat} (h : i < s.size) : bl (s.extract i (i + 1)) = [s[i]] := by
  unfold bl
  rw [ByteArray.data_extract, Array.toList_extract, List.extract_eq_take_drop]
  have e : (s.data.toList.drop i).take (i + 1 - i) = [s[i]] := by
    rw [show i + 1 - i = 1 by omega]
    have h2 : i < s.data.toList.length := by rw [Array.length_toList]; exact h
    rw [List.drop_eq_getElem_cons h2, List.take_succ_cons, List.take_zero]; rfl
  exact e
theorem bt_get {s : ByteArray} {i : Nat} (h : i < s.size) : bt s (i : Int) = (s[i].toNat : Int) := by
  have := bt_at s (i : Int) (by rw [Int.toNat_natCast]; exact h)
  rw [← this]; rfl
theorem u8_eq {c : UInt8} {n : Nat} (hn : n < 256) : ((c.toNat : Int) = (n : Int)) ↔ c = UInt8.ofNat n := by
  constructor
  · intro h
    have : c.toNat = n := by omega
    rw [← this]; simp
  · intro h
    rw [h, UInt8.toNat_ofNat']
    omega
theorem bt_is {s : ByteArray} {i : Nat} (h : i < s.size) (n : Nat) (hn : n < 256) : bt s (i : Int) = (n : Int) ↔ s[i] = UInt8.ofNat n := by rw [bt_get h]; exact u8_eq hn
theorem mem_byte {s : ByteArray} {i : Nat} (h : i < s.size) : s[i] ∈ bl s := List.mem_of_getElem? (bl_get h)
end Go.Proofs.Ytipjfdamkpgecaa.PWide
