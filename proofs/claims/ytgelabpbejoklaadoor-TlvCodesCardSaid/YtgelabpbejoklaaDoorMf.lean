/- DERIVED: THE SHELF's CONTRACTS AT THIS DUMP, IN PLAIN WORDS (tools/lay-plain.mjs out of 'TrydShelf.lean', which tools/lay-shelf.mjs wrote): THE SAME DECLARATIONS UNDER THE SAME NAMES: 'import', 'namespace', 'open', 'def', 'theorem' AND NOTHING ELSE: no command of the shelf's: FOR A HAND-IN. Each laying: the table of numbers ('.._ren') and one theorem, a field a fact of the dump's own or the kernel's comparison; each contract: ONE APPLICATION. latiner/tlv: joined. latiner/tlv: trees in plain Lean: how many, their bytes. latiner/tlv: isInner, isOne, trees. latiner/tlv: laid. -/
import Derived.Shelf.Strings.Builder1
import Derived.Shelf.Strings.Builder2
import Derived.Shelf.Strings.OnBuilder
import Derived.Test.YtgelabpbejoklaaDoorProg
import Derived.Test.YtgelabpbejoklaaDoorMc
import Derived.Test.YtgelabpbejoklaaDoorB0
namespace Go.Proofs
open Go.Shelf
def Tryd.lays169_ren : Go.Shelf.Ren := ⟨fun | 169 => 68 | n => n, fun | 70 => 131 | 9 => 9 | 0 => 0 | 72 => 133 | 37 => 41 | 127 => 139 | 3 => 3 | 5 => 5 | n => n, fun | n => n⟩
theorem Tryd.lays169 : Go.Proofs.Lays.n169 Tryd.prog Tryd.lays169_ren := {
  mixed := by kernel_rfl
  f169 := Tryd.func68.trans (congrArg some (by kernel_rfl))
  t0 := Tryd.underlying0
  a0 := Tryd.isAgg0
  z0 := Tryd.sizeOf0
  v0 := Tryd.zeroValue0
  t3 := Tryd.underlying3
  a3 := Tryd.isAgg3
  z3 := Tryd.sizeOf3
  v3 := Tryd.zeroValue3
  t9 := Tryd.underlying9
  a9 := Tryd.isAgg9
  z9 := Tryd.sizeOf9
  v9 := Tryd.zeroValue9
  t37 := Tryd.underlying41
  a37 := Tryd.isAgg41
  z37 := Tryd.sizeOf41
  v37 := Tryd.zeroValue41
  t70 := Tryd.underlying131
  a70 := Tryd.isAgg131
  z70 := Tryd.sizeOf131
  v70 := Tryd.zeroValue131
  t72 := Tryd.underlying133
  a72 := Tryd.isAgg133
  z72 := Tryd.sizeOf133
  v72 := Tryd.zeroValue133
  t127 := Tryd.underlying139
  a127 := Tryd.isAgg139
  z127 := Tryd.sizeOf139
  v127 := Tryd.zeroValue139 }
theorem Tryd.Builder_Extra_169 : Builder.Extra Tryd.prog Tryd.lays169_ren := {
  sizeBuilder := by kernel_rfl
  liesBuilder := by kernel_rfl
  t5 := Tryd.underlying5
  a5 := Tryd.isAgg5
  z5 := Tryd.sizeOf5
  v5 := Tryd.zeroValue5
  infoByte := by kernel_rfl
  cellsByte := by kernel_rfl
  sizeByte := by kernel_rfl
  neB5 := by decide }
open Go.RowKit in
/-- (*strings.Builder).String: "String returns the accumulated string.": OF A BUILDER THAT HOLDS AT LEAST ONE BYTE. ✋ THE MODEL FREEZES THOSE BYTES IN THE BUFFER (unsafe.String): a later write INTO them ends the model's run without an answer; a later append BEHIND them goes on. The statement's order of evaluation is drawn: one draw. (LAID: no walk: one application.) -/
theorem Tryd.Builder_String (B b : Nat) (l : List UInt8) (w : World) (h : Lib.IsBuilder 133 5 B b (Lib.byteCells l) w) (h0 : l ≠ []) :
    Calls Tryd.prog 68 #[.pointer (some ⟨b, 0, none⟩)] w fun e w' => e = .returned (.string ⟨l.toArray⟩) ∧ Below B w w' := Any.Builder_String Tryd.lays169 Tryd.Builder_Extra_169 B b l w h h0
open Go.RowKit in
/-- (*strings.Builder).String OF A BUILDER THAT HOLDS NO BYTE: the empty string. (Its buffer is nil, or a row of which it has taken nothing yet; where that row has NO capacity the model lays one new block for unsafe.SliceData's 'some address'.) One draw. (LAID: no walk: one application.) -/
theorem Tryd.Builder_String_empty (B b : Nat) (w : World) (h : Lib.IsBuilder 133 5 B b [] w) (hBw : B ≤ w.heap.size) :
    Calls Tryd.prog 68 #[.pointer (some ⟨b, 0, none⟩)] w fun e w' => e = .returned (.string ⟨#[]⟩) ∧ Below B w w' := Any.Builder_String_empty Tryd.lays169 Tryd.Builder_Extra_169 B b w h hBw
open Go.RowKit in
/-- (*strings.Builder).String: "String returns the accumulated string.": WHATEVER THE BUILDER HOLDS. (LAID: no walk: one application.) -/
theorem Tryd.Builder_String_any (B b : Nat) (l : List UInt8) (w : World) (h : Lib.IsBuilder 133 5 B b (Lib.byteCells l) w) (hBw : B ≤ w.heap.size) :
    Calls Tryd.prog 68 #[.pointer (some ⟨b, 0, none⟩)] w fun e w' => e = .returned (.string ⟨l.toArray⟩) ∧ Below B w w' := Any.Builder_String_any Tryd.lays169 Tryd.Builder_Extra_169 B b l w h hBw
def Tryd.lays241_ren : Go.Shelf.Ren := ⟨fun | 241 => 73 | 277 => 76 | n => n, fun | 70 => 131 | 3 => 3 | 0 => 0 | 72 => 133 | 37 => 41 | 5 => 5 | n => n, fun | n => n⟩
theorem Tryd.lays241 : Go.Proofs.Lays.n241 Tryd.prog Tryd.lays241_ren := {
  mixed := by kernel_rfl
  f241 := Tryd.func73.trans (congrArg some (by kernel_rfl))
  f277 := Tryd.func76.trans (congrArg some (by kernel_rfl))
  t0 := Tryd.underlying0
  a0 := Tryd.isAgg0
  z0 := Tryd.sizeOf0
  v0 := Tryd.zeroValue0
  t3 := Tryd.underlying3
  a3 := Tryd.isAgg3
  z3 := Tryd.sizeOf3
  v3 := Tryd.zeroValue3
  t37 := Tryd.underlying41
  a37 := Tryd.isAgg41
  z37 := Tryd.sizeOf41
  v37 := Tryd.zeroValue41
  t70 := Tryd.underlying131
  a70 := Tryd.isAgg131
  z70 := Tryd.sizeOf131
  v70 := Tryd.zeroValue131
  t72 := Tryd.underlying133
  a72 := Tryd.isAgg133
  z72 := Tryd.sizeOf133
  v72 := Tryd.zeroValue133 }
theorem Tryd.Builder_Extra_241 : Builder.Extra Tryd.prog Tryd.lays241_ren := {
  sizeBuilder := by kernel_rfl
  liesBuilder := by kernel_rfl
  t5 := Tryd.underlying5
  a5 := Tryd.isAgg5
  z5 := Tryd.sizeOf5
  v5 := Tryd.zeroValue5
  infoByte := by kernel_rfl
  cellsByte := by kernel_rfl
  sizeByte := by kernel_rfl
  neB5 := by decide }
open Go.RowKit in
/-- (*strings.Builder).grow (no doc but "grow copies the buffer to a new, larger buffer so that there are at least n bytes of capacity beyond len(b.buf)."): AT A BUILDER WITHOUT A BUFFER: a new row of whatever bytes for its buffer, none of them its own yet. Three draws. (LAID: no walk: one application.) -/
theorem Tryd.Builder_grow_fresh (B b n : Nat) (w : World) (hB : B ≤ b) (hbk : w.heap[b]? = some (.cells #[.pointer (some ⟨b, 0, none⟩), .slice none 0 0] 133 (0, 0))) (hBw : B ≤ w.heap.size) (hn : n ≤ 281474976710656) :
    Calls Tryd.prog 73 #[.pointer (some ⟨b, 0, none⟩), .int .i64 n] w fun e w' => e = .returned (.tuple #[]) ∧ (Lib.BuilderAt 133 5 B b (.pointer (some ⟨b, 0, none⟩)) [] w' ∧ Below B w w') := Any.Builder_grow_fresh Tryd.lays241 Tryd.Builder_Extra_241 B b n w hB hbk hBw hn
def Tryd.lays165_ren : Go.Shelf.Ren := ⟨fun | 165 => 66 | 240 => 72 | 241 => 73 | 276 => 75 | 277 => 76 | n => n, fun | 70 => 131 | 3 => 3 | 0 => 0 | 4 => 4 | 9 => 9 | 20 => 20 | 72 => 133 | 37 => 41 | 164 => 92 | 5 => 5 | n => n, fun | n => n⟩
theorem Tryd.lays165 : Go.Proofs.Lays.n165 Tryd.prog Tryd.lays165_ren := {
  mixed := by kernel_rfl
  f165 := Tryd.func66.trans (congrArg some (by kernel_rfl))
  f240 := Tryd.func72.trans (congrArg some (by kernel_rfl))
  f241 := Tryd.func73.trans (congrArg some (by kernel_rfl))
  f276 := Tryd.func75.trans (congrArg some (by kernel_rfl))
  f277 := Tryd.func76.trans (congrArg some (by kernel_rfl))
  t0 := Tryd.underlying0
  a0 := Tryd.isAgg0
  z0 := Tryd.sizeOf0
  v0 := Tryd.zeroValue0
  t3 := Tryd.underlying3
  a3 := Tryd.isAgg3
  z3 := Tryd.sizeOf3
  v3 := Tryd.zeroValue3
  t4 := Tryd.underlying4
  a4 := Tryd.isAgg4
  z4 := Tryd.sizeOf4
  v4 := Tryd.zeroValue4
  t9 := Tryd.underlying9
  a9 := Tryd.isAgg9
  z9 := Tryd.sizeOf9
  v9 := Tryd.zeroValue9
  t20 := Tryd.underlying20
  a20 := Tryd.isAgg20
  z20 := Tryd.sizeOf20
  v20 := Tryd.zeroValue20
  t37 := Tryd.underlying41
  a37 := Tryd.isAgg41
  z37 := Tryd.sizeOf41
  v37 := Tryd.zeroValue41
  t70 := Tryd.underlying131
  a70 := Tryd.isAgg131
  z70 := Tryd.sizeOf131
  v70 := Tryd.zeroValue131
  t72 := Tryd.underlying133
  a72 := Tryd.isAgg133
  z72 := Tryd.sizeOf133
  v72 := Tryd.zeroValue133
  t164 := Tryd.underlying92
  a164 := Tryd.isAgg92
  z164 := Tryd.sizeOf92
  v164 := Tryd.zeroValue92 }
theorem Tryd.Builder_Extra_165 : Builder.Extra Tryd.prog Tryd.lays165_ren := {
  sizeBuilder := by kernel_rfl
  liesBuilder := by kernel_rfl
  t5 := Tryd.underlying5
  a5 := Tryd.isAgg5
  z5 := Tryd.sizeOf5
  v5 := Tryd.zeroValue5
  infoByte := by kernel_rfl
  cellsByte := by kernel_rfl
  sizeByte := by kernel_rfl
  neB5 := by decide }
open Go.RowKit in
/-- (*strings.Builder).Grow AT A BUILDER THAT HAS NOT BEEN WRITTEN ('var b strings.Builder; b.Grow(n)'): "Grow grows b's capacity, if necessary, to guarantee space for another n bytes.": it holds no byte behind it as before it. (LAID: no walk: one application.) -/
theorem Tryd.Builder_Grow_fresh (B b n : Nat) (w : World) (hB : B ≤ b) (hbk : w.heap[b]? = some (.cells #[.pointer none, .slice none 0 0] 133 (0, 0))) (hBw : B ≤ w.heap.size) (hn : n ≤ 281474976710656) :
    Calls Tryd.prog 66 #[.pointer (some ⟨b, 0, none⟩), .int .i64 n] w fun e w' => e = .returned (.tuple #[]) ∧ (Lib.BuilderAt 133 5 B b (.pointer (some ⟨b, 0, none⟩)) [] w' ∧ Below B w w') := Any.Builder_Grow_fresh Tryd.lays165 Tryd.Builder_Extra_165 B b n w hB hbk hBw hn
def Tryd.lays156_ren : Go.Shelf.Ren := ⟨fun | 156 => 58 | 165 => 66 | 166 => 67 | 169 => 68 | 240 => 72 | 241 => 73 | 276 => 75 | 277 => 76 | n => n, fun | 31 => 68 | 9 => 9 | 3 => 3 | 4 => 4 | 0 => 0 | 20 => 20 | 72 => 133 | 76 => 135 | 70 => 131 | 37 => 41 | 75 => 49 | 127 => 139 | 164 => 92 | 5 => 5 | 80 => 137 | n => n, fun | n => n⟩
theorem Tryd.lays156 : Go.Proofs.Lays.n156 Tryd.prog Tryd.lays156_ren := {
  mixed := by kernel_rfl
  f156 := Tryd.func58.trans (congrArg some (by kernel_rfl))
  f165 := Tryd.func66.trans (congrArg some (by kernel_rfl))
  f166 := Tryd.func67.trans (congrArg some (by kernel_rfl))
  f169 := Tryd.func68.trans (congrArg some (by kernel_rfl))
  f240 := Tryd.func72.trans (congrArg some (by kernel_rfl))
  f241 := Tryd.func73.trans (congrArg some (by kernel_rfl))
  f276 := Tryd.func75.trans (congrArg some (by kernel_rfl))
  f277 := Tryd.func76.trans (congrArg some (by kernel_rfl))
  t0 := Tryd.underlying0
  a0 := Tryd.isAgg0
  z0 := Tryd.sizeOf0
  v0 := Tryd.zeroValue0
  t3 := Tryd.underlying3
  a3 := Tryd.isAgg3
  z3 := Tryd.sizeOf3
  v3 := Tryd.zeroValue3
  t4 := Tryd.underlying4
  a4 := Tryd.isAgg4
  z4 := Tryd.sizeOf4
  v4 := Tryd.zeroValue4
  t9 := Tryd.underlying9
  a9 := Tryd.isAgg9
  z9 := Tryd.sizeOf9
  v9 := Tryd.zeroValue9
  t20 := Tryd.underlying20
  a20 := Tryd.isAgg20
  z20 := Tryd.sizeOf20
  v20 := Tryd.zeroValue20
  t31 := Tryd.underlying68
  a31 := Tryd.isAgg68
  z31 := Tryd.sizeOf68
  v31 := Tryd.zeroValue68
  t37 := Tryd.underlying41
  a37 := Tryd.isAgg41
  z37 := Tryd.sizeOf41
  v37 := Tryd.zeroValue41
  t70 := Tryd.underlying131
  a70 := Tryd.isAgg131
  z70 := Tryd.sizeOf131
  v70 := Tryd.zeroValue131
  t72 := Tryd.underlying133
  a72 := Tryd.isAgg133
  z72 := Tryd.sizeOf133
  v72 := Tryd.zeroValue133
  t75 := Tryd.underlying49
  a75 := Tryd.isAgg49
  z75 := Tryd.sizeOf49
  v75 := Tryd.zeroValue49
  t76 := Tryd.underlying135
  a76 := Tryd.isAgg135
  z76 := Tryd.sizeOf135
  v76 := Tryd.zeroValue135
  t127 := Tryd.underlying139
  a127 := Tryd.isAgg139
  z127 := Tryd.sizeOf139
  v127 := Tryd.zeroValue139
  t164 := Tryd.underlying92
  a164 := Tryd.isAgg92
  z164 := Tryd.sizeOf92
  v164 := Tryd.zeroValue92 }
theorem Tryd.Builder_Extra_156 : Builder.Extra Tryd.prog Tryd.lays156_ren := {
  sizeBuilder := by kernel_rfl
  liesBuilder := by kernel_rfl
  t5 := Tryd.underlying5
  a5 := Tryd.isAgg5
  z5 := Tryd.sizeOf5
  v5 := Tryd.zeroValue5
  infoByte := by kernel_rfl
  cellsByte := by kernel_rfl
  sizeByte := by kernel_rfl
  neB5 := by decide }
open Go.RowKit in
/-- No element: the empty string; the world is as it was. (Whatever the slice's address and capacity: a nil slice too.) (LAID: no walk: one application.) -/
theorem Tryd.strings_Join_none (a : Option Addr) (c : Nat) (sep : ByteArray) (w : World) :
    Calls Tryd.prog 58 #[.slice a 0 c, .string sep] w fun e w' => e = .returned (.string ⟨#[]⟩) ∧ w' = w := Any.strings_Join_none Tryd.lays156 Tryd.Builder_Extra_156 a c sep w
open Go.RowKit in
/-- strings.Join: "Join concatenates the elements of its first argument to create a single string. The separator string sep is placed between elements in the resulting string.": HOWEVER MANY ELEMENTS. Below the heap's end the world is as it was. (LAID: no walk: one application.) -/
theorem Tryd.strings_Join (bk o c : Nat) (xs : List ByteArray) (sep : ByteArray) (w : World) (hcells : ∀ (j : Nat) x, xs[j]? = some x → w.cell? ⟨bk, o + j, none⟩ = some (.string x)) (hbk : bk < w.heap.size) (hN : xs.length ≤ 140737488355328) (hcap : xs.length ≤ c) (hlen : (Lib.join (xs.map (·.data.toList)) sep.data.toList).length ≤ 140737488355328) :
    Calls Tryd.prog 58 #[.slice (some ⟨bk, o, none⟩) xs.length c, .string sep] w fun e w' => e = .returned (.string ⟨(Lib.join (xs.map (·.data.toList)) sep.data.toList).toArray⟩) ∧ Below w.heap.size w w' := Any.strings_Join Tryd.lays156 Tryd.Builder_Extra_156 bk o c xs sep w hcells hbk hN hcap hlen
end Go.Proofs
namespace Go.Proofs.YtgelabpbejoklaaDoor
open Go.RowKit It Go.Proofs.YtgelabpbejoklaaDoorW.PrintWords

/-- The pieces, one behind the other. -/
def catS (xs : List ByteArray) : ByteArray := ⟨(xs.map (·.data.toList)).flatten.toArray⟩
theorem strOfNums_sz (xs : List Int) : (strOfNums xs).size = xs.length := by simp [strOfNums, ByteArray.size]
/-- A length's text as joined has it: empty where there is none. -/
def szS (n : Nat) : ByteArray := if 16777215 < n then ⟨#[]⟩ else strOfNums (lenL n)
def joinF (tag : Int) (body : ByteArray) : ByteArray := strOfNums [tag] ++ szS body.size ++ body

theorem szS_size (n : Nat) : (szS n).size ≤ 9 := by
  unfold szS
  split
  · show 0 ≤ 9; omega
  · rw [strOfNums_sz]; unfold lenL
    split
    · simp
    · have := digs_len 8 n; simp; omega
theorem joinF_size (tag : Int) (b : ByteArray) : (joinF tag b).size = 1 + (szS b.size).size + b.size := by
  simp [joinF, strOfNums_sz]
theorem join_nil : ∀ xs : List (List UInt8), Lib.join xs [] = xs.flatten := by
  intro xs
  induction xs with
  | nil => rfl
  | cons x t ih => cases t with
    | nil => simp [Lib.join]
    | cons y t =>
      simp only [Lib.join, List.intercalate, List.intersperse, List.flatten_cons, List.nil_append] at ih ⊢
      rw [ih]

theorem size_Encode_len (n : Nat) : ∃ r2, size_Encode.f (n : Int) = some (szS n, r2) := by
  unfold size_Encode.f szS
  by_cases h : 16777215 < n
  · rw [if_pos (by omega), if_pos h]; exact ⟨_, rfl⟩
  · rw [if_neg (by omega), if_neg h]; simp

set_option maxRecDepth 100000 in
set_option maxHeartbeats 2000000 in
theorem joined42 (tag : Int) (bk o c : Nat) (xs : List ByteArray) (w : World) (hG : GOk w) (ht0 : 0 ≤ tag) (ht1 : tag ≤ 255)
    (hcells : ∀ (j : Nat) x, xs[j]? = some x → w.cell? ⟨bk, o + j, none⟩ = some (.string x)) (hbk : bk < w.heap.size) (hcap : xs.length ≤ c) (hN : xs.length ≤ 140737488355328) (hlen : (catS xs).size ≤ 140737488355328) :
    Calls Tryd.prog 42 #[.int .i64 tag, .slice (some ⟨bk, o, none⟩) xs.length c] w fun e w' => e = .returned (.string (joinF tag (catS xs))) ∧ Below w.heap.size w w' := by
  have HG := Lib.hid hG
  clear hG
  go_enter Tryd.func42, Tryd.ntmps42
  go_wp2_with fail
  refine (Tryd.strings_Join bk o c xs ⟨#[]⟩ w hcells hbk hN hcap (by show (Lib.join (xs.map (·.data.toList)) []).length ≤ _; rw [join_nil]; simpa [catS, ByteArray.size] using hlen)).mono ?_
  rintro e w1 ⟨rfl, hb⟩
  have hj : (⟨(Lib.join (xs.map (·.data.toList)) (ByteArray.mk #[]).data.toList).toArray⟩ : ByteArray) = catS xs := by show ByteArray.mk (Lib.join (xs.map (·.data.toList)) []).toArray = _; rw [join_nil]; rfl
  rw [hj]
  clear hj
  have HB := Lib.hid hb
  clear hb
  obtain ⟨body, hbody⟩ : ∃ b, catS xs = b := ⟨_, rfl⟩
  rw [hbody] at hlen ⊢
  go_wp2_with fail
  obtain ⟨r2, hr2⟩ := size_Encode_len body.size
  refine (size_Encode.calls _ _ _ _ hr2 (HG.out.below HB.out)).mono ?_
  rintro e w2 ⟨rfl, hb⟩
  have HB2 := Lib.hid (HB.out.trans (hb.mono HB.out.size))
  clear hb
  have hs1 : ¬ 9223372036854775807 < (strOfNums [tag]).size + (szS body.size).size := by have := szS_size body.size; rw [strOfNums_sz]; simp; omega
  have hs2 : ¬ 9223372036854775807 < (strOfNums [tag]).size + (szS body.size).size + body.size := by have := szS_size body.size; rw [strOfNums_sz]; simp; omega
  have kb : (convert 41 9 (.slice (some ⟨w2.heap.size, 0, none⟩) 1 1)).run Tryd.prog (w2.alloc (.cells #[.int .u8 tag] 5)) = .ok (.string (strOfNums [tag])) (w2.alloc (.cells #[.int .u8 tag] 5)) := own_string (P := Tryd.prog) (src := 41) (dst := 9) (e := 5) Tryd.underlying41 Tryd.underlying5 Tryd.underlying9 (own_lit w2 w2.heap.size 5 .u8 [tag] (Nat.le_refl _) (by simp))
  go_wp2_with fail
  go_ret
  exact ⟨by rw [hbody]; rfl, HB2.out.alloc HB2.out.size _⟩
end Go.Proofs.YtgelabpbejoklaaDoor
namespace Go.Proofs.YtgelabpbejoklaaDoor
open Go.RowKit It Go.Proofs.YtgelabpbejoklaaDoorW.PrintWords B

mutual
def cnt : S24 → Nat
  | ⟨_, _, ks⟩ => 1 + cntL ks
def cntL : List S24 → Nat
  | [] => 0
  | x :: xs => cnt x + cntL xs
end
mutual
def laidF : S24 → ByteArray
  | ⟨t, d, ks⟩ => joinF t (catS (laidL ks ++ [d]))
def laidL : List S24 → List ByteArray
  | [] => []
  | x :: xs => laidF x :: laidL xs
end
theorem laidL_map (ks : List S24) : laidL ks = ks.map laidF := by
  induction ks with
  | nil => simp [laidL]
  | cons x xs ih => simp [laidL, ih]
theorem laidF_eq (x : S24) : laidF x = joinF x.f0 (catS (x.f2.map laidF ++ [x.f1])) := by
  cases x; rw [laidF, laidL_map]
mutual
def tagsOk : S24 → Prop
  | ⟨t, _, ks⟩ => (0 ≤ t ∧ t ≤ 255) ∧ tagsOkL ks
def tagsOkL : List S24 → Prop
  | [] => True
  | x :: xs => tagsOk x ∧ tagsOkL xs
end
theorem tagsOkL_iff (ks : List S24) : tagsOkL ks ↔ ∀ x ∈ ks, tagsOk x := by
  induction ks with
  | nil => simp [tagsOkL]
  | cons x xs ih => simp [tagsOkL, ih]
theorem tagsOk_iff (x : S24) : tagsOk x ↔ (0 ≤ x.f0 ∧ x.f0 ≤ 255) ∧ ∀ y ∈ x.f2, tagsOk y := by
  cases x; rw [tagsOk, tagsOkL_iff]
theorem cntL_get (ks : List S24) : ∀ x ∈ ks, cnt x ≤ cntL ks := by
  induction ks with
  | nil => simp
  | cons x xs ih =>
    intro y hy
    rw [cntL]
    rcases List.mem_cons.1 hy with rfl | h
    · omega
    · have := ih y h; omega
theorem cnt_eq (x : S24) : cnt x = 1 + cntL x.f2 := by cases x; rw [cnt]
theorem cnt_kid (x y : S24) (h : y ∈ x.f2) : cnt y < cnt x := by have := cntL_get _ _ h; rw [cnt_eq x]; omega
theorem cnt_pos (x : S24) : 0 < cnt x := by rw [cnt_eq]; omega

theorem catS_size (xs : List ByteArray) : (catS xs).size = (xs.map (·.size)).sum := by
  show (xs.map (·.data.toList)).flatten.toArray.size = _
  rw [List.size_toArray, List.length_flatten, List.map_map]
  congr 1
theorem catS_append (xs ys : List ByteArray) : catS (xs ++ ys) = catS xs ++ catS ys := by
  simp [catS, ByteArray.ext_iff]
theorem sum_mem (xs : List Nat) : ∀ x ∈ xs, x ≤ xs.sum := by
  induction xs with
  | nil => simp
  | cons a t ih => intro x hx; rcases List.mem_cons.1 hx with rfl | h <;> simp; have := ih x h; omega
theorem sum_len (xs : List Nat) (h : ∀ x ∈ xs, 1 ≤ x) : xs.length ≤ xs.sum := by
  induction xs with
  | nil => simp
  | cons a t ih => have := h a (by simp); have := ih (fun x hx => h x (by simp [hx])); simp; omega
theorem laidF_pos (x : S24) : 1 ≤ (laidF x).size := by rw [laidF_eq, joinF_size]; omega
theorem laidF_size (x : S24) : (laidF x).size = 1 + (szS (catS (x.f2.map laidF ++ [x.f1])).size).size + (catS (x.f2.map laidF ++ [x.f1])).size := by rw [laidF_eq, joinF_size]
theorem body_size (x : S24) : (catS (x.f2.map laidF ++ [x.f1])).size = (x.f2.map fun y => (laidF y).size).sum + x.f1.size := by
  rw [catS_size]; simp [List.map_map, Function.comp_def]
theorem laidF_kid (x y : S24) (h : y ∈ x.f2) : (laidF y).size ≤ (laidF x).size := by
  rw [laidF_size x, body_size]
  have := sum_mem (x.f2.map fun y => (laidF y).size) _ (List.mem_map.2 ⟨y, h, rfl⟩)
  omega
theorem laidF_len (x : S24) : x.f2.length + 1 ≤ (laidF x).size := by
  rw [laidF_size x, body_size]
  have := sum_len (x.f2.map fun y => (laidF y).size) (by intro z hz; obtain ⟨y, _, rfl⟩ := List.mem_map.1 hz; exact laidF_pos y)
  simp at this
  omega
end Go.Proofs.YtgelabpbejoklaaDoor
namespace Go.Proofs.YtgelabpbejoklaaDoor
open Go.RowKit It Go.Proofs.YtgelabpbejoklaaDoorW.PrintWords Go.Proofs.YtgelabpbejoklaaDoorW.PrintLast Go.Proofs.YtgelabpbejoklaaDoorW.PrintMore B

def innB (t : Int) : Bool := (Go.bits .and .i64 t 32) != 0
def oneB (t : Int) (d : ByteArray) (n : Nat) : Bool :=
  if t < 0 then false else if 255 < t then false else if Go.bits .and .i64 t 31 = 31 then false else if innB t = true then d.toList.isEmpty else (n : Int) == 0

theorem inner60 (t : Int) (w : World) : Calls Tryd.prog 60 #[.int .i64 t] w fun e w' => e = .returned (.bool (innB t)) ∧ w' = w := by
  go_enter Tryd.func60, Tryd.ntmps60
  go_wp2
  go_ret
  exact ⟨rfl, rfl⟩

theorem trees47 (v : Value) (t : Int) (d : ByteArray) (A : Option Addr) (n c : Nat) (w : World) (hv : v = .agg #[.int .i64 t, .string d, .slice A n c]) :
    Calls Tryd.prog 47 #[v] w fun e w' => e = .returned (.func (.func 61) #[] #[.pointer (some ⟨w.heap.size, 0, none⟩)]) ∧ w' = w.alloc (.cells #[.int .i64 t, .string d, .slice A n c] 24) := by
  subst hv
  go_enter Tryd.func47, Tryd.ntmps47
  go_wp2_with fail
  go_ret
  exact ⟨rfl, rfl⟩

set_option maxRecDepth 100000 in
set_option maxHeartbeats 2000000 in
theorem one48 (t : Int) (d : ByteArray) (A : Option Addr) (n c : Nat) (w : World) :
    Calls Tryd.prog 48 #[.agg #[.int .i64 t, .string d, .slice A n c]] w fun e w' => e = .returned (.bool (oneB t d n)) ∧ Below w.heap.size w w' := by
  have hb0 := heap_alloc_new w (.cells #[.int .i64 t, .string d, .slice A n c] 24)
  have hz0 := blk_cell hb0 0
  have hz1 := blk_cell hb0 1
  have hz2 := blk_cell hb0 2
  have HB := Lib.hid ((Below.refl _ w).alloc (Nat.le_refl _) (.cells #[.int .i64 t, .string d, .slice A n c] 24))
  unfold oneB
  by_cases c1 : t < 0
  · have b1 : decide (t < 0) = true := decide_eq_true c1
    rw [if_pos c1]
    go_enter Tryd.func48, Tryd.ntmps48
    go_wp2_with fail
    go_ret
    exact ⟨rfl, HB.out⟩
  have b1 : decide (t < 0) = false := decide_eq_false c1
  rw [if_neg c1]
  by_cases c2 : 255 < t
  · have b2 : decide (255 < t) = true := decide_eq_true c2
    rw [if_pos c2]
    go_enter Tryd.func48, Tryd.ntmps48
    go_wp2_with fail
    go_ret
    exact ⟨rfl, HB.out⟩
  have b2 : decide (255 < t) = false := decide_eq_false c2
  rw [if_neg c2]
  by_cases c3 : Go.bits .and .i64 t 31 = 31
  · have b3 : (Go.bits .and .i64 t 31 == 31) = true := beq_iff_eq.mpr c3
    rw [if_pos c3]
    go_enter Tryd.func48, Tryd.ntmps48
    go_wp2_with fail
    go_ret
    exact ⟨rfl, HB.out⟩
  have b3 : (Go.bits .and .i64 t 31 == 31) = false := beq_eq_false_iff_ne.mpr c3
  rw [if_neg c3]
  cases c4 : innB t with
  | true =>
    rw [if_pos rfl]
    go_enter Tryd.func48, Tryd.ntmps48
    go_wp2_with fail
    refine (inner60 t _).mono ?_
    rintro e w1 ⟨rfl, rfl⟩
    rw [c4]
    go_wp2_with fail
    go_ret
    exact ⟨rfl, HB.out⟩
  | false =>
    rw [if_neg (by simp)]
    go_enter Tryd.func48, Tryd.ntmps48
    go_wp2_with fail
    refine (inner60 t _).mono ?_
    rintro e w1 ⟨rfl, rfl⟩
    rw [c4]
    go_wp2_with fail
    go_ret
    exact ⟨rfl, HB.out⟩
end Go.Proofs.YtgelabpbejoklaaDoor
namespace Go.Proofs.YtgelabpbejoklaaDoor
open Go.RowKit It Go.Proofs.YtgelabpbejoklaaDoorW.PrintWords Go.Proofs.YtgelabpbejoklaaDoorW.PrintLast Go.Proofs.YtgelabpbejoklaaDoorW.PrintMore B

theorem info9' : (Tryd.prog.info? 9).map (fun i => (i.zero, i.size, i.bytes)) = some (some (.string ⟨#[]⟩), 1, 16) := by kernel_rfl
theorem lit_reads (W : World) (s : ByteArray) : ReadsOf Value.string ⟨#[]⟩ (W.alloc (.cells #[.string s] 9)) (some ⟨W.heap.size, 0, none⟩) 1 [s] := by
  have h := own_lit_of (enc := Value.string) W W.heap.size 9 [s] (Nat.le_refl _) (by simp)
  obtain ⟨A, c, hA, hr⟩ := own_reads_of (d := (⟨#[]⟩ : ByteArray)) h
  injection hA with h1 h2 h3
  subst h1
  exact hr

theorem own_below {w w1 : World} {base : Nat} {e : TypeId} {size n : Nat} {v : Value} {xs : List Value} (h : w.ownsRow base e size v n xs) (hb : Below w.heap.size w w1) : w1.ownsRow base e size v n xs := by
  refine h.kept (grown_of_below hb none) ?_
  cases v.ownBlock with
  | none => exact .inl rfl
  | some k => exact .inr (by simp)

theorem joined42o (tag : Int) (gg n c base : Nat) (xs : List ByteArray) (w : World) (hG : GOk w) (ht : 0 ≤ tag ∧ tag ≤ 255) (hn : xs.length = n)
    (hown : w.ownsRow base 9 1 (.slice (some ⟨gg, 0, none⟩) n c) n (encs Value.string xs)) (hN : n ≤ 140737488355328) (hlen : (catS xs).size ≤ 140737488355328) :
    Calls Tryd.prog 42 #[.int .i64 tag, .slice (some ⟨gg, 0, none⟩) n c] w fun e w' => e = .returned (.string (joinF tag (catS xs))) ∧ Below w.heap.size w w' := by
  subst hn
  refine joined42 tag gg 0 c xs w hG ht.1 ht.2 ?_ ((hown.lt _ rfl).2) (own_le hown) hN hlen
  intro j x hj
  have := hown.cells (g := gg) rfl j (.string x) (by simp [encs, hj])
  rwa [add_plain, ← Nat.zero_add j] at this

set_option maxRecDepth 100000 in
set_option maxHeartbeats 4000000 in
theorem laid29 (N : Nat) : ∀ (x : S24) (A : Option Addr) (c : Nat) (w : World), cnt x ≤ N → tagsOk x → (laidF x).size ≤ 1099511627776 → GOk w → Kd.C k24 w A x.f2.length x.f2 → x.f2.length ≤ c →
    Calls Tryd.prog 29 #[.agg #[.int .i64 x.f0, .string x.f1, .slice A x.f2.length c]] w fun e w' => e = .returned (.string (laidF x)) ∧ Below w.heap.size w w' := by
  induction N with
  | zero => intro x A c w h; have := cnt_pos x; omega
  | succ N ih =>
  intro x A c w hN ht hs hG hC hc
  have hlen := laidF_len x
  have htx := (tagsOk_iff x).1 ht
  have hb0 := heap_alloc_new w (.cells #[.int .i64 x.f0, .string x.f1, .slice A x.f2.length c] 24)
  have hz0 := blk_cell hb0 0
  have hz1 := blk_cell hb0 1
  have hz2 := blk_cell hb0 2
  go_enter Tryd.func29, Tryd.ntmps29
  go_wp2_with fail
  clear hz0 hz1 hz2
  have hB0 := (Below.refl _ w).alloc (Nat.le_refl _) (.cells #[.int .i64 x.f0, .string x.f1, .slice A x.f2.length c] 24)
  have hs0 : (w.alloc (.cells #[.int .i64 x.f0, .string x.f1, .slice A x.f2.length c] 24)).heap.size = w.heap.size + 1 := by simp
  have hC0 := Kd.C_below hC hB0
  have hG0 := hG.below hB0
  generalize w.alloc (.cells #[.int .i64 x.f0, .string x.f1, .slice A x.f2.length c] 24) = W0 at *
  clear hG hC
  have HB0 := Lib.hid hB0
  have HG0 := Lib.hid hG0
  have HK0 := Lib.hid hb0
  clear hB0 hG0 hb0
  go_loopw [3, 9] (fun v3 v9 wr => ∃ i : Nat, i ≤ x.f2.length ∧ v9 = .int .i64 i ∧ wr.ownsRow W0.heap.size 9 1 v3 ((x.f2.take i).map laidF).length (encs Value.string ((x.f2.take i).map laidF)) ∧ Below W0.heap.size W0 wr) (fun _ v9 _ => x.f2.length - (intOf v9).toNat)
  case atStart => exact ⟨0, Nat.zero_le _, rfl, World.ownsRow_nil _ _ _ _, Below.refl _ _⟩
  case round =>
    obtain ⟨i, hi, rfl, ho, hB⟩ := hrel
    have HB := Lib.hid hB
    have HO := Lib.hid ho
    clear hB ho
    by_cases hlt : i < x.f2.length
    · obtain ⟨ad, A2, c2, rfl, hx0, hx1, hx2, hl2, hC2⟩ := at_T24 hC0 i (by omega) (by omega)
      replace hx0 := (HB.out.cell (World.block_lt_of_cell? W0 _ hx0)).trans hx0
      replace hx1 := (HB.out.cell (World.block_lt_of_cell? W0 _ hx1)).trans hx1
      replace hx2 := (HB.out.cell (World.block_lt_of_cell? W0 _ hx2)).trans hx2
      have hyi : x.f2[i]? = some (rd_T24 x.f2 i) := by unfold rd_T24; rw [Int.toNat_natCast, List.getD_eq_getElem?_getD, List.getElem?_eq_getElem hlt]; rfl
      generalize rd_T24 x.f2 i = y at *
      simp only [Int.toNat_natCast] at hx0 hx1 hx2
      have hym : y ∈ x.f2 := List.mem_of_getElem? hyi
      have hd : decide ((i : Int) < (x.f2.length : Int)) = true := by simp; omega
      go_wp2_with fail
      have hBa := HB.out.alloc HB.out.size (.cells #[.int .i64 y.f0, .string y.f1, .slice A2 y.f2.length c2] 24)
      refine (ih y A2 c2 _ (by have := cnt_kid x y hym; omega) (htx.2 y hym) (by have := laidF_kid x y hym; omega) (HG0.out.below hBa) (Kd.C_below hC2 hBa) hl2).mono ?_
      rintro e w2 ⟨rfl, hb⟩
      have HB2 := Lib.hid (hBa.trans (hb.mono hBa.size))
      have HO2 := Lib.hid (own_below (HO.out.alloc (.cells #[.int .i64 y.f0, .string y.f1, .slice A2 y.f2.length c2] 24)) hb)
      clear hb hBa hx0 hx1 hx2 HB HO
      have hBl := HB2.out.alloc HB2.out.size (.cells #[.string (laidF y)] 9)
      have hOl := HO2.out.alloc (.cells #[.string (laidF y)] 9)
      have hRl := lit_reads w2 (laidF y)
      have hsl : W0.heap.size ≤ (w2.alloc (.cells #[.string (laidF y)] 9)).heap.size := hBl.size
      have HBl := Lib.hid hBl
      have HOl := Lib.hid hOl
      have HRl := Lib.hid hRl
      have HSl := Lib.hid hsl
      clear hBl hOl hRl HB2 HO2 hsl
      go_wp2_with (at_builtin; refine print_append_row_of (w0 := W0) Value.string (⟨#[]⟩ : ByteArray) W0.heap.size rfl _ _ 68 9 _ 16 rfl Tryd.underlying68 info9' rfl (by decide) (fun _ => rfl) _ ((x.f2.take i).map laidF) [laidF y] _ 1 1 rfl rfl HOl.out HRl.out HBl.out HSl.out ?_ ?_; (case _ => simp; omega); intro v1 w3 hown hB3 hg3 hat3; have HB3 := Lib.hid hB3; have HO3 := Lib.hid hown; clear hown hB3 hg3 hat3)
      go_roundw
      case rel =>
        have et : (x.f2.take (i + 1)).map laidF = (x.f2.take i).map laidF ++ [laidF y] := by rw [List.take_add_one, hyi]; simp
        refine ⟨i + 1, by omega, by go_num, ?_, HB3.out⟩
        rw [et]
        exact HO3.out
      case measure => simp [intOf]; omega
    · have hd : decide ((i : Int) < (x.f2.length : Int)) = false := by simp; omega
      have ei : i = x.f2.length := by omega
      subst ei
      rw [List.take_length, List.length_map] at HO
      have hk := (HB.out.block _ (by omega)).trans HK0.out
      have hka := E.blk_alloc hk (.cells #[.string x.f1] 9)
      have c0 : wr.cell? ⟨w.heap.size, 0, none⟩ = some (.int .i64 x.f0) := (blk_cell hk 0).trans rfl
      have c1 : wr.cell? ⟨w.heap.size, 1, none⟩ = some (.string x.f1) := (blk_cell hk 1).trans rfl
      have d0 : W0.cell? ⟨w.heap.size, 0, none⟩ = some (.int .i64 x.f0) := (blk_cell HK0.out 0).trans rfl
      have d1 : W0.cell? ⟨w.heap.size, 1, none⟩ = some (.string x.f1) := (blk_cell HK0.out 1).trans rfl
      have hbl0 : w.heap.size < W0.heap.size := by omega
      have hne : u3.ownBlock ≠ some w.heap.size := by
        intro e
        have := own_base HO.out _ e
        omega
      have hOl := HO.out.alloc (.cells #[.string x.f1] 9)
      have HOl := Lib.hid hOl
      have hBl := HB.out.alloc HB.out.size (.cells #[.string x.f1] 9)
      have HSl := Lib.hid hBl.size
      have HBl := Lib.hid hBl
      clear hBl
      have HK := Lib.hid hk
      have hbl : (⟨w.heap.size, 0, none⟩ : Addr).block < wr.heap.size := by have := HB.out.size; show w.heap.size < _; omega
      have h16 : (x.f2.length + 1) * 16 ≤ 140737488355328 := by omega
      have h63 : x.f2.length + 1 ≤ maxLen := by unfold maxLen; omega
      have hn1 : (x.f2.map laidF ++ [x.f1]).length = x.f2.length + 1 := by simp
      have he : encs Value.string (x.f2.map laidF ++ [x.f1]) = encs Value.string (x.f2.map laidF) ++ [Value.string x.f1] := by rw [encs_append]; rfl
      have hn47 : x.f2.length + 1 ≤ 140737488355328 := by omega
      have hcat : (catS (x.f2.map laidF ++ [x.f1])).size ≤ 140737488355328 := by have := laidF_size x; omega
      have hown0 : ∀ k, u3.ownBlock = some k → W0.heap.size ≤ k := own_base HO.out
      obtain ⟨i9, hi9, hz9, hs9, hb9⟩ := info_parts info9'
      clear hk HO hOl
      go_wp2_with fail
      go_region_held3 (fun w' => w'.cell? ⟨w.heap.size, 0, none⟩ = some (.int .i64 x.f0) ∧ w'.cell? ⟨w.heap.size, 1, none⟩ = some (.string x.f1))
        (first | go_keep | exact ⟨k0, k1⟩)
        (first
          | (refine step_append_lies _ rfl _ _ 68 rfl W0.heap.size 9 i9 _ 1 16 Tryd.underlying68 hi9 hz9 hs9 hb9 rfl (by decide) u3 x.f2.length (encs Value.string (x.f2.map laidF)) rfl HOl.out.drew ⟨wr.heap.size, 0, none⟩ 1 1 [.string x.f1] rfl rfl (World.news_of_block (cs := #[.string x.f1]) (t := 9) (fr := (0, 0)) (heap_alloc_new wr _)) (by simp [Value.oneCell']) (by decide) h63 h16 (by simp; omega) (wr.heap.size + 1) (by simp) ?_; intro gg cap w3 hown hgrow hat hgl; have hB3 : Below W0.heap.size W0 w3 := HBl.out.drew.grown hgrow HSl.out hown0; have k0 := (hB3.cell (p := ⟨w.heap.size, 0, none⟩) hbl0).trans d0; have k1 := (hB3.cell (p := ⟨w.heap.size, 1, none⟩) hbl0).trans d1)
          | (go_at_call 42; refine (joined42o x.f0 gg (x.f2.length + 1) cap W0.heap.size (x.f2.map laidF ++ [x.f1]) _ ?_ htx.1 hn1 ?_ hn47 hcat).mono ?_; (exact HG0.out.below (by with_reducible first | exact hB3 | exact hB3.drew)); (rw [he]; with_reducible first | exact hown | exact hown.drew); rintro e w4 ⟨rfl, hb4⟩; have hB4 : Below W0.heap.size W0 w4 := hB3.trans (hb4.mono hB3.size); have k0 := (hB4.cell (p := ⟨w.heap.size, 0, none⟩) hbl0).trans d0; have k1 := (hB4.cell (p := ⟨w.heap.size, 1, none⟩) hbl0).trans d1))
      go_wp2_with fail
      go_ret
      exact ⟨by rw [laidF_eq]; rfl, HB0.out.trans (hB4.mono (by omega))⟩
end Go.Proofs.YtgelabpbejoklaaDoor
