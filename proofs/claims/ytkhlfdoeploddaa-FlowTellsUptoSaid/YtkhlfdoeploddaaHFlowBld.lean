/- The contracts of the builder's writers, where the shelf's own laying misses some types: by hand, over strings.Repeat's laying. -/
import Derived.Test.YtkhlfdoeploddaaShelf
namespace Go.Proofs
open Go.Shelf
open Go.RowKit Go.Lib
theorem YtkhlfdoeploddaaBld.lays166 : Go.Proofs.Lays.n166 Try.prog Try.lays105_ren := {
  mixed := Try.lays105.mixed
  f166 := Try.lays105.f166
  f240 := Try.lays105.f240
  f276 := Try.lays105.f276
  t0 := Try.lays105.t0
  a0 := Try.lays105.a0
  z0 := Try.lays105.z0
  v0 := Try.lays105.v0
  t3 := Try.lays105.t3
  a3 := Try.lays105.a3
  z3 := Try.lays105.z3
  v3 := Try.lays105.v3
  t4 := Try.lays105.t4
  a4 := Try.lays105.a4
  z4 := Try.lays105.z4
  v4 := Try.lays105.v4
  t9 := Try.lays105.t9
  a9 := Try.lays105.a9
  z9 := Try.lays105.z9
  v9 := Try.lays105.v9
  t20 := Try.lays105.t20
  a20 := Try.lays105.a20
  z20 := Try.lays105.z20
  v20 := Try.lays105.v20
  t37 := Try.lays105.t37
  a37 := Try.lays105.a37
  z37 := Try.lays105.z37
  v37 := Try.lays105.v37
  t70 := Try.lays105.t70
  a70 := Try.lays105.a70
  z70 := Try.lays105.z70
  v70 := Try.lays105.v70
  t72 := Try.lays105.t72
  a72 := Try.lays105.a72
  z72 := Try.lays105.z72
  v72 := Try.lays105.v72
  t75 := Try.lays105.t75
  a75 := Try.lays105.a75
  z75 := Try.lays105.z75
  v75 := Try.lays105.v75
  t164 := Try.lays105.t164
  a164 := Try.lays105.a164
  z164 := Try.lays105.z164
  v164 := Try.lays105.v164 }
def YtkhlfdoeploddaaBld.ren167 : Go.Shelf.Ren := ⟨fun n => if n = 167 then 35 else Try.lays105_ren.f n, Try.lays105_ren.t, Try.lays105_ren.g⟩
theorem YtkhlfdoeploddaaBld.lays167 : Go.Proofs.Lays.n167 Try.prog YtkhlfdoeploddaaBld.ren167 := {
  mixed := Try.lays105.mixed
  f167 := Try.func35.trans (congrArg some (by kernel_rfl))
  f240 := Try.lays105.f240
  f276 := Try.lays105.f276
  t0 := Try.lays105.t0
  a0 := Try.lays105.a0
  z0 := Try.lays105.z0
  v0 := Try.lays105.v0
  t4 := Try.lays105.t4
  a4 := Try.lays105.a4
  z4 := Try.lays105.z4
  v4 := Try.lays105.v4
  t5 := Try.lays105.t5
  a5 := Try.lays105.a5
  z5 := Try.lays105.z5
  v5 := Try.lays105.v5
  t9 := Try.lays105.t9
  a9 := Try.lays105.a9
  z9 := Try.lays105.z9
  v9 := Try.lays105.v9
  t20 := Try.lays105.t20
  a20 := Try.lays105.a20
  z20 := Try.lays105.z20
  v20 := Try.lays105.v20
  t37 := Try.lays105.t37
  a37 := Try.lays105.a37
  z37 := Try.lays105.z37
  v37 := Try.lays105.v37
  t70 := Try.lays105.t70
  a70 := Try.lays105.a70
  z70 := Try.lays105.z70
  v70 := Try.lays105.v70
  t72 := Try.lays105.t72
  a72 := Try.lays105.a72
  z72 := Try.lays105.z72
  v72 := Try.lays105.v72
  t75 := Try.lays105.t75
  a75 := Try.lays105.a75
  z75 := Try.lays105.z75
  v75 := Try.lays105.v75
  t164 := Try.lays105.t164
  a164 := Try.lays105.a164
  z164 := Try.lays105.z164
  v164 := Try.lays105.v164 }
theorem YtkhlfdoeploddaaBld.extra167 : Builder.Extra Try.prog YtkhlfdoeploddaaBld.ren167 := {
  sizeBuilder := by kernel_rfl
  liesBuilder := by kernel_rfl
  t5 := Try.underlying5
  a5 := Try.isAgg5
  z5 := Try.sizeOf5
  v5 := Try.zeroValue5
  infoByte := by kernel_rfl
  cellsByte := by kernel_rfl
  sizeByte := by kernel_rfl
  neB5 := by decide }
theorem YtkhlfdoeploddaaBld.writeString (B b : Nat) (bs : List Value) (s : ByteArray) (w : World) (h : Lib.IsBuilderF 43 5 B b bs w) (hlen : bs.length + s.size ≤ 140737488355328) (hBw : B ≤ w.heap.size) :
    Calls Try.prog 40 #[.pointer (some ⟨b, 0, none⟩), .string s] w fun e w' => e = .returned (.tuple #[.int .i64 s.size, .nilIface]) ∧ (Lib.BuilderAtF 43 5 B b (.pointer (some ⟨b, 0, none⟩)) (bs ++ Lib.strCells s) w' ∧ Below B w w' ∧ Lib.OthersKept 5 (some b) w w') :=
  Any.Builder_WriteString_k YtkhlfdoeploddaaBld.lays166 Try.Builder_Extra_105 B b bs s w h hlen hBw
theorem YtkhlfdoeploddaaBld.writeByte (B b : Nat) (bs : List Value) (c : Int) (w : World) (h : Lib.IsBuilderF 43 5 B b bs w) (hlen : bs.length + 1 ≤ 140737488355328) (hBw : B ≤ w.heap.size) :
    Calls Try.prog 35 #[.pointer (some ⟨b, 0, none⟩), .int .u8 c] w fun e w' => e = .returned .nilIface ∧ (Lib.BuilderAtF 43 5 B b (.pointer (some ⟨b, 0, none⟩)) (bs ++ [.int .u8 c]) w' ∧ Below B w w' ∧ Lib.OthersKept 5 (some b) w w') :=
  Any.Builder_WriteByte_k YtkhlfdoeploddaaBld.lays167 YtkhlfdoeploddaaBld.extra167 B b bs c w h hlen hBw
theorem YtkhlfdoeploddaaBld.string (B b : Nat) (l : List UInt8) (w : World) (h : Lib.IsBuilderF 43 5 B b (Lib.byteCells l) w) (hBw : B ≤ w.heap.size) :
    Calls Try.prog 25 #[.pointer (some ⟨b, 0, none⟩)] w fun e w' => e = .returned (.string ⟨l.toArray⟩) ∧ (Lib.IsBuilderF 43 5 B b (Lib.byteCells l) w' ∧ Below B w w' ∧ Lib.OthersKept 5 (some b) w w') := Try.Builder_String_any_k B b l w h hBw
end Go.Proofs
