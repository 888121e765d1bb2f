/-
  Contracts of Go's library at this program: strings.Builder's WriteString, String and Len, strings.Repeat, slices.Equal: out of the library's own, with their tables of numbers. (Written by mk_shelf.py, a program of this session, out of what lay-plain.mjs wrote.)
-/
import Derived.Shelf.Strings.Builder1
import Derived.Shelf.Strings.Builder2
import Derived.Shelf.Strings.Repeat
import Derived.Shelf.Slices.Equal
import Derived.Shelf.Slices.Empties2
import Derived.Test.YtafmeagfockdfaaProg
namespace Go.Proofs
open Go.Shelf Go.RowKit Go.Lib
def Try.lays105_ren : Go.Shelf.Ren := ⟨fun | 105 => 120 | 212 => 136 | 99 => 137 | 165 => 138 | 166 => 90 | 170 => 139 | 169 => 92 | 263 => 143 | 264 => 144 | 206 => 145 | 240 => 118 | 241 => 146 | 276 => 135 | 277 => 147 | n => n, fun | 9 => 9 | 3 => 3 | 4 => 4 | 20 => 20 | 0 => 0 | 46 => 42 | 109 => 180 | 5 => 5 | 72 => 147 | 76 => 150 | 51 => 105 | 146 => 186 | 53 => 133 | 148 => 188 | 70 => 145 | 37 => 96 | 75 => 149 | 127 => 171 | 164 => 178 | 80 => 155 | n => n, fun | n => n⟩
theorem Try.lays105 : Go.Proofs.Lays.n105 Try.prog Try.lays105_ren := {
  mixed := by kernel_rfl
  f99 := Try.func137.trans (congrArg some (by kernel_rfl))
  f105 := Try.func120.trans (congrArg some (by kernel_rfl))
  f165 := Try.func138.trans (congrArg some (by kernel_rfl))
  f166 := Try.func90.trans (congrArg some (by kernel_rfl))
  f169 := Try.func92.trans (congrArg some (by kernel_rfl))
  f170 := Try.func139.trans (congrArg some (by kernel_rfl))
  f206 := Try.func145.trans (congrArg some (by kernel_rfl))
  f212 := Try.func136.trans (congrArg some (by kernel_rfl))
  f240 := Try.func118.trans (congrArg some (by kernel_rfl))
  f241 := Try.func146.trans (congrArg some (by kernel_rfl))
  f263 := Try.func143.trans (congrArg some (by kernel_rfl))
  f264 := Try.func144.trans (congrArg some (by kernel_rfl))
  f276 := Try.func135.trans (congrArg some (by kernel_rfl))
  f277 := Try.func147.trans (congrArg some (by kernel_rfl))
  t0 := Try.underlying0
  a0 := Try.isAgg0
  z0 := Try.sizeOf0
  v0 := Try.zeroValue0
  t3 := Try.underlying3
  a3 := Try.isAgg3
  z3 := Try.sizeOf3
  v3 := Try.zeroValue3
  t4 := Try.underlying4
  a4 := Try.isAgg4
  z4 := Try.sizeOf4
  v4 := Try.zeroValue4
  t5 := Try.underlying5
  a5 := Try.isAgg5
  z5 := Try.sizeOf5
  v5 := Try.zeroValue5
  t9 := Try.underlying9
  a9 := Try.isAgg9
  z9 := Try.sizeOf9
  v9 := Try.zeroValue9
  t20 := Try.underlying20
  a20 := Try.isAgg20
  z20 := Try.sizeOf20
  v20 := Try.zeroValue20
  t37 := Try.underlying96
  a37 := Try.isAgg96
  z37 := Try.sizeOf96
  v37 := Try.zeroValue96
  t46 := Try.underlying42
  a46 := Try.isAgg42
  z46 := Try.sizeOf42
  v46 := Try.zeroValue42
  t51 := Try.underlying105
  a51 := Try.isAgg105
  z51 := Try.sizeOf105
  v51 := Try.zeroValue105
  t53 := Try.underlying133
  a53 := Try.isAgg133
  z53 := Try.sizeOf133
  v53 := Try.zeroValue133
  t70 := Try.underlying145
  a70 := Try.isAgg145
  z70 := Try.sizeOf145
  v70 := Try.zeroValue145
  t72 := Try.underlying147
  a72 := Try.isAgg147
  z72 := Try.sizeOf147
  v72 := Try.zeroValue147
  t75 := Try.underlying149
  a75 := Try.isAgg149
  z75 := Try.sizeOf149
  v75 := Try.zeroValue149
  t76 := Try.underlying150
  a76 := Try.isAgg150
  z76 := Try.sizeOf150
  v76 := Try.zeroValue150
  t109 := Try.underlying180
  a109 := Try.isAgg180
  z109 := Try.sizeOf180
  v109 := Try.zeroValue180
  t127 := Try.underlying171
  a127 := Try.isAgg171
  z127 := Try.sizeOf171
  v127 := Try.zeroValue171
  t146 := Try.underlying186
  a146 := Try.isAgg186
  z146 := Try.sizeOf186
  v146 := Try.zeroValue186
  t148 := Try.underlying188
  a148 := Try.isAgg188
  z148 := Try.sizeOf188
  v148 := Try.zeroValue188
  t164 := Try.underlying178
  a164 := Try.isAgg178
  z164 := Try.sizeOf178
  v164 := Try.zeroValue178 }
theorem Try.Builder_Extra_105 : Builder.Extra Try.prog Try.lays105_ren := {
  sizeBuilder := by kernel_rfl
  liesBuilder := by kernel_rfl
  t5 := Try.underlying5
  a5 := Try.isAgg5
  z5 := Try.sizeOf5
  v5 := Try.zeroValue5
  infoByte := by kernel_rfl
  cellsByte := by kernel_rfl
  sizeByte := by kernel_rfl
  neB5 := by decide }
theorem Try.lays240 : Go.Proofs.Lays.n240 Try.prog Try.lays105_ren := {
  mixed := by kernel_rfl
  f240 := Try.func118.trans (congrArg some (by kernel_rfl))
  f276 := Try.func135.trans (congrArg some (by kernel_rfl))
  t0 := Try.underlying0
  a0 := Try.isAgg0
  z0 := Try.sizeOf0
  v0 := Try.zeroValue0
  t4 := Try.underlying4
  a4 := Try.isAgg4
  z4 := Try.sizeOf4
  v4 := Try.zeroValue4
  t9 := Try.underlying9
  a9 := Try.isAgg9
  z9 := Try.sizeOf9
  v9 := Try.zeroValue9
  t20 := Try.underlying20
  a20 := Try.isAgg20
  z20 := Try.sizeOf20
  v20 := Try.zeroValue20
  t70 := Try.underlying145
  a70 := Try.isAgg145
  z70 := Try.sizeOf145
  v70 := Try.zeroValue145
  t72 := Try.underlying147
  a72 := Try.isAgg147
  z72 := Try.sizeOf147
  v72 := Try.zeroValue147
  t164 := Try.underlying178
  a164 := Try.isAgg178
  z164 := Try.sizeOf178
  v164 := Try.zeroValue178 }
theorem Try.lays166 : Go.Proofs.Lays.n166 Try.prog Try.lays105_ren := {
  mixed := by kernel_rfl
  f166 := Try.func90.trans (congrArg some (by kernel_rfl))
  f240 := Try.func118.trans (congrArg some (by kernel_rfl))
  f276 := Try.func135.trans (congrArg some (by kernel_rfl))
  t0 := Try.underlying0
  a0 := Try.isAgg0
  z0 := Try.sizeOf0
  v0 := Try.zeroValue0
  t3 := Try.underlying3
  a3 := Try.isAgg3
  z3 := Try.sizeOf3
  v3 := Try.zeroValue3
  t4 := Try.underlying4
  a4 := Try.isAgg4
  z4 := Try.sizeOf4
  v4 := Try.zeroValue4
  t9 := Try.underlying9
  a9 := Try.isAgg9
  z9 := Try.sizeOf9
  v9 := Try.zeroValue9
  t20 := Try.underlying20
  a20 := Try.isAgg20
  z20 := Try.sizeOf20
  v20 := Try.zeroValue20
  t37 := Try.underlying96
  a37 := Try.isAgg96
  z37 := Try.sizeOf96
  v37 := Try.zeroValue96
  t70 := Try.underlying145
  a70 := Try.isAgg145
  z70 := Try.sizeOf145
  v70 := Try.zeroValue145
  t72 := Try.underlying147
  a72 := Try.isAgg147
  z72 := Try.sizeOf147
  v72 := Try.zeroValue147
  t75 := Try.underlying149
  a75 := Try.isAgg149
  z75 := Try.sizeOf149
  v75 := Try.zeroValue149
  t164 := Try.underlying178
  a164 := Try.isAgg178
  z164 := Try.sizeOf178
  v164 := Try.zeroValue178 }
theorem Try.lays169 : Go.Proofs.Lays.n169 Try.prog Try.lays105_ren := {
  mixed := by kernel_rfl
  f169 := Try.func92.trans (congrArg some (by kernel_rfl))
  t0 := Try.underlying0
  a0 := Try.isAgg0
  z0 := Try.sizeOf0
  v0 := Try.zeroValue0
  t3 := Try.underlying3
  a3 := Try.isAgg3
  z3 := Try.sizeOf3
  v3 := Try.zeroValue3
  t9 := Try.underlying9
  a9 := Try.isAgg9
  z9 := Try.sizeOf9
  v9 := Try.zeroValue9
  t37 := Try.underlying96
  a37 := Try.isAgg96
  z37 := Try.sizeOf96
  v37 := Try.zeroValue96
  t70 := Try.underlying145
  a70 := Try.isAgg145
  z70 := Try.sizeOf145
  v70 := Try.zeroValue145
  t72 := Try.underlying147
  a72 := Try.isAgg147
  z72 := Try.sizeOf147
  v72 := Try.zeroValue147
  t127 := Try.underlying171
  a127 := Try.isAgg171
  z127 := Try.sizeOf171
  v127 := Try.zeroValue171 }
theorem Try.lays170 : Go.Proofs.Lays.n170 Try.prog Try.lays105_ren := {
  mixed := by kernel_rfl
  f170 := Try.func139.trans (congrArg some (by kernel_rfl))
  t0 := Try.underlying0
  a0 := Try.isAgg0
  z0 := Try.sizeOf0
  v0 := Try.zeroValue0
  t3 := Try.underlying3
  a3 := Try.isAgg3
  z3 := Try.sizeOf3
  v3 := Try.zeroValue3
  t37 := Try.underlying96
  a37 := Try.isAgg96
  z37 := Try.sizeOf96
  v37 := Try.zeroValue96
  t70 := Try.underlying145
  a70 := Try.isAgg145
  z70 := Try.sizeOf145
  v70 := Try.zeroValue145
  t72 := Try.underlying147
  a72 := Try.isAgg147
  z72 := Try.sizeOf147
  v72 := Try.zeroValue147 }
theorem Try.Builder_X72_105 : Builder.X72 Try.prog Try.lays105_ren := {
  sizeBuilder := by kernel_rfl
  liesBuilder := by kernel_rfl }
theorem Try.Builder_Len (B b : Nat) (bs : List Value) (w : World) (h : Lib.IsBuilder 147 5 B b bs w) :
    Calls Try.prog 139 #[.pointer (some ⟨b, 0, none⟩)] w fun e w' => e = .returned (.int .i64 bs.length) ∧ w' = w := Any.Builder_Len Try.lays170 B b bs w h
theorem Try.Builder_WriteString (B b : Nat) (bs : List Value) (s : ByteArray) (w : World) (h : Lib.IsBuilder 147 5 B b bs w) (hlen : bs.length + s.size ≤ 140737488355328) (hBw : B ≤ w.heap.size) :
    Calls Try.prog 90 #[.pointer (some ⟨b, 0, none⟩), .string s] w fun e w' => e = .returned (.tuple #[.int .i64 s.size, .nilIface]) ∧ (Lib.BuilderAt 147 5 B b (.pointer (some ⟨b, 0, none⟩)) (bs ++ Lib.strCells s) w' ∧ Below B w w') := Any.Builder_WriteString Try.lays166 Try.Builder_Extra_105 B b bs s w h hlen hBw
theorem Try.Builder_String_any (B b : Nat) (l : List UInt8) (w : World) (h : Lib.IsBuilder 147 5 B b (Lib.byteCells l) w) (hBw : B ≤ w.heap.size) :
    Calls Try.prog 92 #[.pointer (some ⟨b, 0, none⟩)] w fun e w' => e = .returned (.string ⟨l.toArray⟩) ∧ Below B w w' := Any.Builder_String_any Try.lays169 Try.Builder_Extra_105 B b l w h hBw
theorem Try.strings_Repeat (s : ByteArray) (c : Nat) (w : World) (hc : c ≤ 9223372036854775807) (hlen : s.size * c ≤ 140737488355328) :
    Calls Try.prog 120 #[.string s, .int .i64 c] w fun e w' => e = .returned (.string ⟨(Lib.repeatL s.data.toList c).toArray⟩) ∧ Below w.heap.size w w' := Any.strings_Repeat Try.lays105 Try.Builder_Extra_105 s c w hc hlen
def Try.lays111_ren : Go.Shelf.Ren := ⟨fun | 111 => 93 | n => n, fun | 28 => 25 | 3 => 3 | 4 => 4 | 0 => 0 | n => n, fun | n => n⟩
theorem Try.lays111 : Go.Proofs.Lays.n111 Try.prog Try.lays111_ren := {
  mixed := by kernel_rfl
  f111 := Try.func93.trans (congrArg some (by kernel_rfl))
  t0 := Try.underlying0
  a0 := Try.isAgg0
  z0 := Try.sizeOf0
  v0 := Try.zeroValue0
  t3 := Try.underlying3
  a3 := Try.isAgg3
  z3 := Try.sizeOf3
  v3 := Try.zeroValue3
  t4 := Try.underlying4
  a4 := Try.isAgg4
  z4 := Try.sizeOf4
  v4 := Try.zeroValue4
  t28 := Try.underlying25
  a28 := Try.isAgg25
  z28 := Try.sizeOf25
  v28 := Try.zeroValue25 }
open Go.RowKit Go.Lib in
theorem Try.slices_Equal_int (b1 o1 n c b2 o2 m d : Nat) (xs ys : List Int) (w : World) (hx : n ≤ xs.length) (hy : m ≤ ys.length) (hbig : n ≤ 9223372036854775807) (hbig2 : m ≤ 9223372036854775807) (hc1 : ∀ j, j < xs.length → w.cell? ⟨b1, o1 + j, none⟩ = some (.int .i64 (xs.getD j 0))) (hc2 : ∀ j, j < ys.length → w.cell? ⟨b2, o2 + j, none⟩ = some (.int .i64 (ys.getD j 0))) :
    Calls Try.prog 93 #[.slice (some ⟨b1, o1, none⟩) n c, .slice (some ⟨b2, o2, none⟩) m d] w fun e w' => e = .returned (.bool (xs.take n == ys.take m)) ∧ ∃ q, w' = w.drewN q := Any.slices_Equal_int Try.lays111 b1 o1 n c b2 o2 m d xs ys w hx hy hbig hbig2 hc1 hc2
open Go.RowKit Go.Lib in
theorem Try.slices_Equal_int_empty (a1 a2 : Option Addr) (c m d : Nat) (w : World) (hbig2 : m ≤ 9223372036854775807) :
    Calls Try.prog 93 #[.slice a1 0 c, .slice a2 m d] w fun e w' => e = .returned (.bool (decide (m = 0))) ∧ w' = w := Any.slices_Equal_int_empty Try.lays111 a1 a2 c m d w hbig2
open Go.RowKit Go.Lib in
theorem Try.slices_Equal_int_lens (a1 a2 : Option Addr) (n c m d : Nat) (w : World) (hnm : n ≠ m) :
    Calls Try.prog 93 #[.slice a1 n c, .slice a2 m d] w fun e w' => e = .returned (.bool false) ∧ w' = w := Any.slices_Equal_int_lens Try.lays111 a1 a2 n c m d w hnm
end Go.Proofs
