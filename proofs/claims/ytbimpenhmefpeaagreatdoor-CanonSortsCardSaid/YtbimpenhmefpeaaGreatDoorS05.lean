/- strconv.FormatUint to the base 36. -/
import Derived.Test.YtbimpenhmefpeaaGreatDoorS04
import Derived.Shelf.Strings.Builder1
import Derived.Shelf.Strings.Builder2
import Derived.Shelf.Strings.OnBuilder
import Derived.Shelf.Small.Bits
import Derived.Shelf.Strings.BuilderF
import Derived.Shelf.Strings.BuilderK
import Derived.Shelf.Strings.Builder2Cap
import Derived.Shelf.Strconv.Itoa0
import Derived.Shelf.Strconv.Itoa1
import Derived.Shelf.LaysM
import Derived.Shelf.Strconv.Itoa2
import Derived.Shelf.Strconv.Itoa3
import Derived.Shelf.Strings.BuilderCap
import Derived.Ground.SlgnProg
import Derived.Shelf.SlicesE.Reverse
import Derived.Shelf.SlicesE.Compact
import Derived.Ground.SlgfProg
import Derived.Shelf.SlicesE.IndexFunc
import Derived.Shelf.SlicesE.DeleteFunc
import Derived.Ground.SlsfProg
import Derived.Test.YtbimpenhmefpeaaGreatDoorProg
import Derived.Deep.DeepCutAuto
set_option linter.all false
namespace Go.Proofs.YtbimpenhmefpeaaGreatDoor
open Go.RowKit

theorem pow36 (w : World) : Pure 194 #[.int .i64 36] w (.bool false) := by
  go_enter Tryz.func194, Tryz.ntmps194
  have h : bits .and .i64 36 35 = 32 := by decide
  go_wp2
  go_ret
  exact ⟨rfl, rfl⟩
theorem pow14 : 18446744073709551616 < 36 ^ 14 := by decide
theorem dig36_at (k : Nat) (h : k < 36) : (⟨#[48, 49, 50, 51, 52, 53, 54, 55, 56, 57, 97, 98, 99, 100, 101, 102, 103, 104, 105, 106, 107, 108, 109, 110, 111, 112, 113, 114, 115, 116, 117, 118, 119, 120, 121, 122]⟩ : ByteArray)[k]'h = Pv.dig36 k := by
  have : ∀ k : Fin 36, (⟨#[48, 49, 50, 51, 52, 53, 54, 55, 56, 57, 97, 98, 99, 100, 101, 102, 103, 104, 105, 106, 107, 108, 109, 110, 111, 112, 113, 114, 115, 116, 117, 118, 119, 120, 121, 122]⟩ : ByteArray)[k.val]'k.isLt = Pv.dig36 k.val := by decide
  exact this ⟨k, h⟩

theorem digs_cons {cur : Array Value} {q : Nat} {acc : List UInt8} {d : UInt8} (hq : q < cur.size) (h : ∀ j (h : j < acc.length), cur[q + 1 + j]? = some (.int .u8 (acc[j].toNat : Int))) :
    ∀ j (h : j < (d :: acc).length), (cur.setIfInBounds q (.int .u8 (d.toNat : Int)))[q + j]? = some (.int .u8 ((d :: acc)[j].toNat : Int)) := by
  intro j hj
  cases j with
  | zero => simp [hq]
  | succ j =>
    rw [Array.getElem?_setIfInBounds_ne (by omega)]
    simpa [Nat.add_assoc, Nat.add_comm 1 j] using h j (by simpa using hj)
theorem sl65 (B q : Nat) (hq : q < 65) (w : World) : (Instr.sliceAt 281 (.pointer (some ⟨B, 0, none⟩)) (some (.int .i64 (q : Int))) none none).run Tryz.prog w = .ok (.slice (some ⟨B, q, none⟩) (65 - q) (65 - q)) w := by
  have e : Tryz.prog.elem 281 = 5 := by kernel_rfl
  have e2 : Tryz.prog.arrayLen 281 = 65 := by kernel_rfl
  have ht : Tryz.prog.underlying 281 = some (.array (Tryz.prog.arrayLen 281) (Tryz.prog.elem 281)) := by rw [e, e2]; exact Tryz.underlying281
  rw [run_sliceAt_array_l (P := Tryz.prog) w 281 ⟨B, 0, none⟩ ht .i64 (q : Int) (by omega) (by rw [e2]; omega)]
  rw [e, e2, Tryz.sizeOf5]
  simp only [Result.andThen_ok, slicedAt, Int.toNat_natCast, Nat.mul_one]
  rw [if_neg (by omega)]
  by_cases h0 : q = 0
  · subst h0; rfl
  · simp [Addr.add, h0]

set_option maxRecDepth 20000 in
set_option maxHeartbeats 1000000 in
theorem fb36 (u : Nat) (hu : u < 18446744073709551616) (w : World) :
    Calls Tryz.prog 174 #[.slice none 0 0, .int .u64 (u : Int), .int .i64 36, .bool false, .bool false] w fun e w' => e = .returned (.tuple #[.slice none 0 0, .string ⟨(Pv.digits36 u).toArray⟩]) ∧ Below w.heap.size w w' := by
  go_enter Tryz.func174, Tryz.ntmps174
  go_wp2_with fail
  refine (pow36 _).mono ?_
  rintro e w' ⟨rfl, rfl⟩
  go_wp2_with fail
  go_loopw [1, 13] (fun v i wr => ∃ (n p f : Nat) (acc : List UInt8) (cur : Array Value), v = .int .u64 (n : Int) ∧ i = .int .i64 p ∧ p + acc.length = 65 ∧ 0 < f ∧ f < p ∧ n < 36 ^ f ∧ n < 18446744073709551616 ∧ Pv.dg36Go f n acc = Pv.digits36 u ∧ Below w.heap.size w wr ∧ wr.heap[w.heap.size]? = some (.cells cur 281) ∧ cur.size = 65 ∧ ∀ j (h : j < acc.length), cur[p + j]? = some (.int .u8 (acc[j].toNat : Int))) (fun v _ _ => (intOf v).toNat)
  case atStart =>
    exact ⟨u, 65, 14, [], _, rfl, rfl, rfl, by omega, by omega, Nat.lt_trans hu pow14, hu, rfl, (Below.refl _ _).alloc (Nat.le_refl _) _, blk_new rfl, by simp, fun j h => by cases h⟩
  case round =>
    obtain ⟨n, p, f, acc, cur, rfl, rfl, hl, hf0, hfp, hn36, hn64, hfb, hB, hc, hsz, hcur⟩ := hrel
    obtain ⟨q, rfl⟩ : ∃ q, p = q + 1 := ⟨p - 1, by omega⟩
    obtain ⟨x, hcell⟩ : ∃ x, wr.cell? ⟨w.heap.size, q, none⟩ = some x := ⟨_, cell_of_blk (o := q) hc (Array.getElem?_eq_getElem (by omega))⟩
    have hfr := frozen_of_blk (o := q) hc
    have HC := Lib.hid hc
    have HJ := Lib.hid hcur
    have HF := Lib.hid hfb
    have HN := Lib.hid hn36
    have HS := Lib.hid hsz
    have HL := Lib.hid hl
    have hq : q < 65 := by omega
    have hq' : (q : Int) < 65 := by omega
    have hq0 : (0 : Int) ≤ q := by omega
    have HN64 := Lib.hid hn64
    by_cases h36 : 36 ≤ n
    · have h1 : IntKind.u64.wrap ((n : Int) / 36) = (n : Int) / 36 := by rw [IntKind.wrap_u64]; omega
      have h2 : IntKind.u64.wrap ((n : Int) / 36 * 36) = (n : Int) / 36 * 36 := by rw [IntKind.wrap_u64]; omega
      have h3 : IntKind.u64.wrap ((n : Int) - (n : Int) / 36 * 36) = (n : Int) % 36 := by rw [IntKind.wrap_u64]; omega
      have h4 := dig36_at (n % 36) (by omega)
      clear hc hcur hfb hn36 hsz hl hn64
      go_wp2
      obtain ⟨f, rfl⟩ : ∃ g, f = g + 1 := ⟨f - 1, by omega⟩
      have hf1 : 0 < f := by
        rcases Nat.eq_zero_or_pos f with h | h
        · subst h; have := HN.out; omega
        · exact h
      refine ⟨⟨n / 36, q, f, Pv.dig36 (n % 36) :: acc, _, by go_num, rfl, by have := HL.out; simp; omega, hf1, by omega, ?_, by have := HN64.out; omega, ?_, hB.setCell (by simp) _, blk_set HC.out, by simp [HS.out], digs_cons (by rw [HS.out]; omega) HJ.out⟩, by simp [intOf]; omega⟩
      · have := HN.out; rw [Nat.pow_succ] at this; exact Nat.div_lt_of_lt_mul (by omega)
      · rw [← HF.out, Pv.dg36Go, if_pos h36]
    · have hlt : n < 36 := by omega
      have h4 := dig36_at n hlt
      have hlt0 : (n : Int) < 36 := by omega
      have hsl := fun W => sl65 w.heap.size q hq W
      have hd := digs_cons (d := Pv.dig36 n) (q := q) (by rw [hsz]; exact hq) hcur
      have hlen : (Pv.dig36 n :: acc).length = 65 - q := by simp; omega
      have hcv : (convert 113 9 (.slice (some ⟨w.heap.size, q, none⟩) (65 - q) (65 - q))).run Tryz.prog (wr.setCell ⟨w.heap.size, q, none⟩ (.int .u8 ((Pv.dig36 n).toNat : Int))) = .ok (.string ⟨(Pv.dig36 n :: acc).toArray⟩) (wr.setCell ⟨w.heap.size, q, none⟩ (.int .u8 ((Pv.dig36 n).toNat : Int))) := by
        have := run_convert_bytes_back (P := Tryz.prog) (wr.setCell ⟨w.heap.size, q, none⟩ (.int .u8 ((Pv.dig36 n).toNat : Int))) 113 9 5 ⟨w.heap.size, q, none⟩ (65 - q) (Pv.dig36 n :: acc) Tryz.underlying113 Tryz.underlying5 Tryz.underlying9 (fun j hj => by
          have e : (⟨w.heap.size, q, none⟩ : Addr).add j = ⟨w.heap.size, q + j, none⟩ := by
            unfold Addr.add; split
            · subst_vars; rfl
            · rfl
          rw [e]
          exact cell_of_blk (blk_set hc) (hd j hj))
        rw [hlen] at this; exact this
      obtain ⟨f, rfl⟩ : ∃ g, f = g + 1 := ⟨f - 1, by omega⟩
      have HR : Hid (Pv.digits36 u = Pv.dig36 n :: acc) := by rw [Hid, ← hfb, Pv.dg36Go, if_neg h36]
      clear hc hcur hfb hn36 hsz hl hn64 hd hlen
      go_wp2
      go_ret2
      exact ⟨by rw [HR.out]; rfl, hB.setCell (by simp) _⟩
set_option maxHeartbeats 400000 in
theorem fmtU_in (u : Nat) (hu : u < 18446744073709551616) (w : World) :
    Calls Tryz.prog 137 #[.int .u64 (u : Int), .int .i64 36] w fun e w' => e = .returned (.string ⟨(Pv.digits36 u).toArray⟩) ∧ Below w.heap.size w w' := by
  go_enter Tryz.func137, Tryz.ntmps137
  go_wp2_with fail
  refine (fb36 u hu _).mono ?_
  rintro e w' ⟨rfl, hb⟩
  go_wp2_with fail
  go_ret
  exact ⟨rfl, hb⟩
set_option maxHeartbeats 400000 in
theorem fmtU (u : Nat) (hu : u < 18446744073709551616) (w : World) :
    Calls Tryz.prog 109 #[.int .u64 (u : Int), .int .i64 36] w fun e w' => e = .returned (.string ⟨(Pv.digits36 u).toArray⟩) ∧ Below w.heap.size w w' := by
  go_enter Tryz.func109, Tryz.ntmps109
  go_wp2_with fail
  refine (fmtU_in u hu _).mono ?_
  rintro e w' ⟨rfl, hb⟩
  go_wp2_with fail
  go_ret
  exact ⟨rfl, hb⟩
end Go.Proofs.YtbimpenhmefpeaaGreatDoor
namespace Go.Proofs
open Go.Shelf
def Tryz.lays156_ren : Go.Shelf.Ren := ⟨fun | 156 => 110 | 165 => 138 | 166 => 139 | 169 => 140 | 240 => 175 | 241 => 176 | 276 => 196 | 277 => 197 | n => n, fun | 31 => 131 | 9 => 9 | 3 => 3 | 4 => 4 | 0 => 0 | 20 => 20 | 72 => 226 | 76 => 230 | 70 => 224 | 37 => 113 | 75 => 229 | 127 => 265 | 164 => 282 | 5 => 5 | 80 => 129 | n => n, fun | n => n⟩
theorem Tryz.lays156 : Go.Proofs.Lays.n156 Tryz.prog Tryz.lays156_ren := {
  mixed := by kernel_rfl
  f156 := Tryz.func110.trans (congrArg some (by kernel_rfl))
  f165 := Tryz.func138.trans (congrArg some (by kernel_rfl))
  f166 := Tryz.func139.trans (congrArg some (by kernel_rfl))
  f169 := Tryz.func140.trans (congrArg some (by kernel_rfl))
  f240 := Tryz.func175.trans (congrArg some (by kernel_rfl))
  f241 := Tryz.func176.trans (congrArg some (by kernel_rfl))
  f276 := Tryz.func196.trans (congrArg some (by kernel_rfl))
  f277 := Tryz.func197.trans (congrArg some (by kernel_rfl))
  t0 := Tryz.underlying0
  a0 := Tryz.isAgg0
  z0 := Tryz.sizeOf0
  v0 := Tryz.zeroValue0
  t3 := Tryz.underlying3
  a3 := Tryz.isAgg3
  z3 := Tryz.sizeOf3
  v3 := Tryz.zeroValue3
  t4 := Tryz.underlying4
  a4 := Tryz.isAgg4
  z4 := Tryz.sizeOf4
  v4 := Tryz.zeroValue4
  t9 := Tryz.underlying9
  a9 := Tryz.isAgg9
  z9 := Tryz.sizeOf9
  v9 := Tryz.zeroValue9
  t20 := Tryz.underlying20
  a20 := Tryz.isAgg20
  z20 := Tryz.sizeOf20
  v20 := Tryz.zeroValue20
  t31 := Tryz.underlying131
  a31 := Tryz.isAgg131
  z31 := Tryz.sizeOf131
  v31 := Tryz.zeroValue131
  t37 := Tryz.underlying113
  a37 := Tryz.isAgg113
  z37 := Tryz.sizeOf113
  v37 := Tryz.zeroValue113
  t70 := Tryz.underlying224
  a70 := Tryz.isAgg224
  z70 := Tryz.sizeOf224
  v70 := Tryz.zeroValue224
  t72 := Tryz.underlying226
  a72 := Tryz.isAgg226
  z72 := Tryz.sizeOf226
  v72 := Tryz.zeroValue226
  t75 := Tryz.underlying229
  a75 := Tryz.isAgg229
  z75 := Tryz.sizeOf229
  v75 := Tryz.zeroValue229
  t76 := Tryz.underlying230
  a76 := Tryz.isAgg230
  z76 := Tryz.sizeOf230
  v76 := Tryz.zeroValue230
  t127 := Tryz.underlying265
  a127 := Tryz.isAgg265
  z127 := Tryz.sizeOf265
  v127 := Tryz.zeroValue265
  t164 := Tryz.underlying282
  a164 := Tryz.isAgg282
  z164 := Tryz.sizeOf282
  v164 := Tryz.zeroValue282 }
theorem Tryz.Builder_Extra_156 : Builder.Extra Tryz.prog Tryz.lays156_ren := {
  sizeBuilder := by kernel_rfl
  liesBuilder := by kernel_rfl
  t5 := Tryz.underlying5
  a5 := Tryz.isAgg5
  z5 := Tryz.sizeOf5
  v5 := Tryz.zeroValue5
  infoByte := by kernel_rfl
  cellsByte := by kernel_rfl
  sizeByte := by kernel_rfl
  neB5 := by decide }
open Go.RowKit in
/-- strings.Join: "Join concatenates the elements of its first argument to create a single string. The separator string sep is placed between elements in the resulting string.": HOWEVER MANY ELEMENTS. Below the heap's end the world is as it was. (LAID: no walk: one application.) -/
theorem Tryz.strings_Join (bk o c : Nat) (xs : List ByteArray) (sep : ByteArray) (w : World) (hcells : ∀ (j : Nat) x, xs[j]? = some x → w.cell? ⟨bk, o + j, none⟩ = some (.string x)) (hbk : bk < w.heap.size) (hN : xs.length ≤ 140737488355328) (hcap : xs.length ≤ c) (hlen : (Lib.join (xs.map (·.data.toList)) sep.data.toList).length ≤ 140737488355328) :
    Calls Tryz.prog 110 #[.slice (some ⟨bk, o, none⟩) xs.length c, .string sep] w fun e w' => e = .returned (.string ⟨(Lib.join (xs.map (·.data.toList)) sep.data.toList).toArray⟩) ∧ Below w.heap.size w w' := Any.strings_Join Tryz.lays156 Tryz.Builder_Extra_156 bk o c xs sep w hcells hbk hN hcap hlen
def Tryz.lays125_ren : Go.Shelf.Ren := ⟨fun | 125 => 130 | 128 => 166 | 129 => 167 | n => n, fun | 46 => 95 | 3 => 3 | 51 => 197 | 53 => 83 | 4 => 4 | 5 => 5 | 9 => 9 | n => n, fun | n => n⟩
theorem Tryz.lays125 : Go.Proofs.Lays.n125 Tryz.prog Tryz.lays125_ren := {
  mixed := by kernel_rfl
  f125 := Tryz.func130.trans (congrArg some (by kernel_rfl))
  f128 := Tryz.func166.trans (congrArg some (by kernel_rfl))
  f129 := Tryz.func167.trans (congrArg some (by kernel_rfl))
  t3 := Tryz.underlying3
  a3 := Tryz.isAgg3
  z3 := Tryz.sizeOf3
  v3 := Tryz.zeroValue3
  t4 := Tryz.underlying4
  a4 := Tryz.isAgg4
  z4 := Tryz.sizeOf4
  v4 := Tryz.zeroValue4
  t5 := Tryz.underlying5
  a5 := Tryz.isAgg5
  z5 := Tryz.sizeOf5
  v5 := Tryz.zeroValue5
  t9 := Tryz.underlying9
  a9 := Tryz.isAgg9
  z9 := Tryz.sizeOf9
  v9 := Tryz.zeroValue9
  t46 := Tryz.underlying95
  a46 := Tryz.isAgg95
  z46 := Tryz.sizeOf95
  v46 := Tryz.zeroValue95
  t51 := Tryz.underlying197
  a51 := Tryz.isAgg197
  z51 := Tryz.sizeOf197
  v51 := Tryz.zeroValue197
  t53 := Tryz.underlying83
  a53 := Tryz.isAgg83
  z53 := Tryz.sizeOf83
  v53 := Tryz.zeroValue83 }
/-- bits.Len: "Len returns the minimum number of bits required to represent x; the result is 0 for x == 0.": IT RETURNS 'Lib.bitLen x'; the world is as it was. (A uint has 64 bits in the model.) ITS CALLEE bits.Len64 IS MET BY ITS OWN CONTRACT OFF THE SHELF (lay that first). (LAID: no walk: one application.) -/
theorem Tryz.bits_Len (x : Int) (w : World) (h0 : 0 ≤ x) (h1 : x ≤ 18446744073709551615) :
    Calls Tryz.prog 130 #[.int .u64 x] w fun e w' => e = .returned (.int .i64 (Lib.bitLen x.toNat)) ∧ w' = w := Any.bits_Len Tryz.lays125 x w h0 h1
def Tryz.lays171_ren : Go.Shelf.Ren := ⟨fun | 171 => 108 | 243 => 136 | 246 => 170 | 283 => 171 | 284 => 172 | 285 => 173 | 286 => 174 | 129 => 167 | 317 => 192 | 318 => 193 | 319 => 194 | 320 => 195 | 337 => 213 | 338 => 153 | n => n, fun | 3 => 3 | 9 => 9 | 2 => 2 | 4 => 4 | 171 => 261 | 0 => 0 | 53 => 83 | 37 => 113 | 5 => 5 | 173 => 263 | 212 => 280 | 51 => 197 | 20 => 20 | 213 => 281 | 46 => 95 | 232 => 303 | 233 => 270 | n => n, fun | 17 => 1 | 18 => 3 | 19 => 0 | n => n⟩
theorem Tryz.lays171 : Go.Proofs.Lays.n171 Tryz.prog Tryz.lays171_ren := {
  mixed := by kernel_rfl
  f129 := Tryz.func167.trans (congrArg some (by kernel_rfl))
  f171 := Tryz.func108.trans (congrArg some (by kernel_rfl))
  f243 := Tryz.func136.trans (congrArg some (by kernel_rfl))
  f246 := Tryz.func170.trans (congrArg some (by kernel_rfl))
  f283 := Tryz.func171.trans (congrArg some (by kernel_rfl))
  f284 := Tryz.func172.trans (congrArg some (by kernel_rfl))
  f285 := Tryz.func173.trans (congrArg some (by kernel_rfl))
  f286 := Tryz.func174.trans (congrArg some (by kernel_rfl))
  f317 := Tryz.func192.trans (congrArg some (by kernel_rfl))
  f318 := Tryz.func193.trans (congrArg some (by kernel_rfl))
  f319 := Tryz.func194.trans (congrArg some (by kernel_rfl))
  f320 := Tryz.func195.trans (congrArg some (by kernel_rfl))
  f337 := Tryz.func213.trans (congrArg some (by kernel_rfl))
  f338 := Tryz.func153.trans (congrArg some (by kernel_rfl))
  t0 := Tryz.underlying0
  a0 := Tryz.isAgg0
  z0 := Tryz.sizeOf0
  v0 := Tryz.zeroValue0
  t2 := Tryz.underlying2
  a2 := Tryz.isAgg2
  z2 := Tryz.sizeOf2
  v2 := Tryz.zeroValue2
  t3 := Tryz.underlying3
  a3 := Tryz.isAgg3
  z3 := Tryz.sizeOf3
  v3 := Tryz.zeroValue3
  t4 := Tryz.underlying4
  a4 := Tryz.isAgg4
  z4 := Tryz.sizeOf4
  v4 := Tryz.zeroValue4
  t5 := Tryz.underlying5
  a5 := Tryz.isAgg5
  z5 := Tryz.sizeOf5
  v5 := Tryz.zeroValue5
  t9 := Tryz.underlying9
  a9 := Tryz.isAgg9
  z9 := Tryz.sizeOf9
  v9 := Tryz.zeroValue9
  t20 := Tryz.underlying20
  a20 := Tryz.isAgg20
  z20 := Tryz.sizeOf20
  v20 := Tryz.zeroValue20
  t37 := Tryz.underlying113
  a37 := Tryz.isAgg113
  z37 := Tryz.sizeOf113
  v37 := Tryz.zeroValue113
  t46 := Tryz.underlying95
  a46 := Tryz.isAgg95
  z46 := Tryz.sizeOf95
  v46 := Tryz.zeroValue95
  t51 := Tryz.underlying197
  a51 := Tryz.isAgg197
  z51 := Tryz.sizeOf197
  v51 := Tryz.zeroValue197
  t53 := Tryz.underlying83
  a53 := Tryz.isAgg83
  z53 := Tryz.sizeOf83
  v53 := Tryz.zeroValue83
  t171 := Tryz.underlying261
  a171 := Tryz.isAgg261
  z171 := Tryz.sizeOf261
  v171 := Tryz.zeroValue261
  t173 := Tryz.underlying263
  a173 := Tryz.isAgg263
  z173 := Tryz.sizeOf263
  v173 := Tryz.zeroValue263
  t212 := Tryz.underlying280
  a212 := Tryz.isAgg280
  z212 := Tryz.sizeOf280
  v212 := Tryz.zeroValue280
  t213 := Tryz.underlying281
  a213 := Tryz.isAgg281
  z213 := Tryz.sizeOf281
  t232 := Tryz.underlying303
  a232 := Tryz.isAgg303
  z232 := Tryz.sizeOf303
  v232 := Tryz.zeroValue303
  t233 := Tryz.underlying270
  a233 := Tryz.isAgg270
  z233 := Tryz.sizeOf270
  v233 := Tryz.zeroValue270
  g17 := by kernel_rfl
  g18 := by kernel_rfl
  g19 := by kernel_rfl }
open Go.RowKit Go.Sort Go.Lib in
/-- THE ROAD WITHOUT THE TABLE: 0 <= i < 100: NO PREMISE ON THE WORLD, AND THE WORLD IS AS IT WAS: a row that keeps its argument in that range need list no table ('laid = []'). (LAID: no walk: one application.) -/
theorem Tryz.strconv_Itoa_small (i : Nat) (hi : i < 100) (w : World) :
    Calls Tryz.prog 108 #[.int .i64 i] w fun e w' => e = .returned (.string ⟨(Lib.decDigits i).toArray⟩) ∧ w' = w := Any.strconv_Itoa_small Tryz.lays171 i hi w
def Tryz.laysSlE43_f98_ren : Go.Shelf.Ren := ⟨fun | 43 => 98 | n => n, fun | 22 => 113 | 23 => 5 | 3 => 3 | 4 => 4 | 0 => 0 | n => n, fun | n => n⟩
theorem Tryz.laysSlE43_f98 : Go.Proofs.SlLaysE.n43 Tryz.prog Tryz.laysSlE43_f98_ren := {
  mixed := by kernel_rfl
  f43 := ⟨Tryz.f98.name, by decide, Tryz.func98.trans (congrArg some (by kernel_rfl))⟩
  t0 := Tryz.underlying0
  a0 := Tryz.isAgg0
  z0 := Tryz.sizeOf0
  v0 := Tryz.zeroValue0
  t3 := Tryz.underlying3
  a3 := Tryz.isAgg3
  z3 := Tryz.sizeOf3
  v3 := Tryz.zeroValue3
  t4 := Tryz.underlying4
  a4 := Tryz.isAgg4
  z4 := Tryz.sizeOf4
  v4 := Tryz.zeroValue4
  t22 := Tryz.underlying113
  a22 := Tryz.isAgg113
  z22 := Tryz.sizeOf113
  v22 := Tryz.zeroValue113
  a23 := Tryz.isAgg5
  z23 := Tryz.sizeOf5 }
open Go.RowKit Go.Lib Go.Sort in
/-- slices.Compact: "Compact replaces consecutive runs of equal elements with a single copy. .. Compact zeroes the elements between the new length and the original length.": IT RETURNS THE SLICE CUT TO 'compactUpTo d d.size'; ITS CELLS HOLD THAT, THEN ZERO VALUES up to the old length; the library's two loops are walked. (LAID AT THE INSTANCE 'slices.Compact[[]byte,byte]': no walk: one application.) -/
theorem Tryz.slices_Compact {α : Type} [Inhabited α] [DecidableEq α] (enc : α → Value) (hO : OneCell enc) (heq : EqlAt Tryz.prog 5 enc (fun x y => decide (x = y))) (hne : NeqAt Tryz.prog 5 enc (fun x y => decide (x = y))) (zr : α) (v23 : ∀ w, (zeroValue 5).run Tryz.prog w = .ok (enc zr) w) (blk off cap : Nat) (d : Array α) (w : World) (hH : Holds enc w blk off d) (hsz : d.size ≤ 9223372036854775807) (hcap : d.size ≤ cap) :
    Calls Tryz.prog 98 #[.slice (some ⟨blk, off, none⟩) d.size cap] w fun e w' => e = .returned (.slice (some ⟨blk, off, none⟩) (compactUpTo d d.size).length cap) ∧ ∃ q, w' = putRow enc (Sort.ahead w q) blk off (compactUpTo d d.size ++ List.replicate (d.size - (compactUpTo d d.size).length) zr).toArray := AnyE.slices_Compact Tryz.laysSlE43_f98 enc hO heq hne zr v23 blk off cap d w hH hsz hcap
end Go.Proofs
namespace Go.Proofs.YtbimpenhmefpeaaGreatDoor
open Go.RowKit
variable {H : Nat → Prop}

theorem info_str : (Tryz.prog.info? 9).map (fun i => (i.zero, i.size, i.bytes)) = some (some (.string ⟨#[]⟩), 1, 16) := by kernel_rfl
theorem dec_op (op : Nat) (h : op ≤ 7) : Lib.decDigits op = [UInt8.ofNat (48 + op)] := by
  have : ∀ k : Fin 8, Lib.decDigits k.val = [UInt8.ofNat (48 + k.val)] := by decide +kernel
  exact this ⟨op, by omega⟩
theorem idx4_0 (s : Pv.S4) (w : World) : (Instr.index 85 (.agg #[W64 s.a, W64 s.b, W64 s.c, W64 s.d]) (.int .i64 0)).run Tryz.prog w = .ok (W64 s.a) w := by kernel_rfl
theorem idx4_1 (s : Pv.S4) (w : World) : (Instr.index 85 (.agg #[W64 s.a, W64 s.b, W64 s.c, W64 s.d]) (.int .i64 1)).run Tryz.prog w = .ok (W64 s.b) w := by kernel_rfl
theorem idx4_2 (s : Pv.S4) (w : World) : (Instr.index 85 (.agg #[W64 s.a, W64 s.b, W64 s.c, W64 s.d]) (.int .i64 2)).run Tryz.prog w = .ok (W64 s.c) w := by kernel_rfl
theorem idx4_3 (s : Pv.S4) (w : World) : (Instr.index 85 (.agg #[W64 s.a, W64 s.b, W64 s.c, W64 s.d]) (.int .i64 3)).run Tryz.prog w = .ok (W64 s.d) w := by kernel_rfl
theorem idx4 (s : Pv.S4) (k : Nat) (h : k < 4) (w : World) : (Instr.index 85 (.agg #[W64 s.a, W64 s.b, W64 s.c, W64 s.d]) (.int .i64 (k : Int))).run Tryz.prog w = .ok (W64 (s.word k)) w := by
  match k, h with
  | 0, _ => exact idx4_0 s w
  | 1, _ => exact idx4_1 s w
  | 2, _ => exact idx4_2 s w
  | 3, _ => exact idx4_3 s w
theorem word_part (s : Pv.S4) (k : Nat) (h : k < 4) : ((Pv.wordParts 2 s).take (k + 1)) = (Pv.wordParts 2 s).take k ++ [Pv.digits36 (s.word k).toNat] := by
  match k, h with
  | 0, _ => rfl
  | 1, _ => rfl
  | 2, _ => rfl
  | 3, _ => rfl

theorem sizes_take (ks : List Pv.R) (k : Nat) (h : k < ks.length) : Pv.sizes (ks.take (k + 1)) = Pv.sizes (ks.take k) + Pv.size ks[k] := by
  rw [List.take_succ_eq_append_getElem h]; simp only [Pv.sizes_sum, List.map_append, List.sum_append, List.map_cons, List.map_nil, List.sum_cons, List.sum_nil]; omega
theorem sizes_take_le (ks : List Pv.R) (k : Nat) : Pv.sizes (ks.take k) ≤ Pv.sizes ks := by
  conv => rhs; rw [← List.take_append_drop k ks]
  simp only [Pv.sizes_sum, List.map_append, List.sum_append]; omega
theorem size_pos (r : Pv.R) : 1 ≤ Pv.size r := by cases r; unfold Pv.size; omega
theorem sizes_len : ∀ ks : List Pv.R, ks.length ≤ Pv.sizes ks
  | [] => Nat.le_refl _
  | r :: ks => by have := sizes_len ks; have := size_pos r; unfold Pv.sizes; simp; omega

theorem joined_eq (x : List UInt8) (r : List (List UInt8)) : Lib.join (x :: r) [32] = Pv.joined (x :: r) := by
  rw [Lib.join_cons]; rfl
theorem key_joined (op : Nat) (s : Pv.S4) (ks : List Pv.R) : Pv.key (.mk op s ks) = [40] ++ (Lib.join ([UInt8.ofNat (48 + op)] :: (Pv.wordParts op s ++ Pv.keys ks)) [32] ++ [41]) := by
  rw [joined_eq]; unfold Pv.key; rfl

theorem join_any (ps : List (List UInt8)) (g c : Nat) (w : World) (hs : Sl w (some ⟨g, 0, none⟩) c (ps.map Str)) (hN : ps.length < 1099511627776) (hl : (Lib.join ps [32]).length ≤ 140737488355328) (h0 : ps ≠ []) :
    Calls Tryz.prog 110 #[.slice (some ⟨g, 0, none⟩) ps.length c, .string ⟨#[32]⟩] w fun e w' => e = .returned (Str (Lib.join ps [32])) ∧ Below w.heap.size w w' := by
  have e : (ps.map fun l => (⟨l.toArray⟩ : ByteArray)).length = ps.length := by simp
  have e2 : (ps.map fun l => (⟨l.toArray⟩ : ByteArray)).map (·.data.toList) = ps := by rw [List.map_map]; exact (List.map_congr_left (fun l _ => by simp)).trans (List.map_id ps)
  obtain ⟨b, o, e3, hbl, hcs⟩ := hs.at_ (by rw [List.length_map]; exact List.length_pos_iff.2 h0)
  cases e3
  have h := Tryz.strings_Join g 0 c (ps.map fun l => (⟨l.toArray⟩ : ByteArray)) ⟨#[32]⟩ w (fun j x hj => by
    rw [List.getElem?_map] at hj
    cases hp : ps[j]? with
    | none => rw [hp] at hj; cases hj
    | some l =>
      rw [hp] at hj; simp at hj; subst hj
      obtain ⟨hlt, hp⟩ := List.getElem?_eq_some_iff.1 hp
      rw [hcs j (by simpa using hlt)]; simp [hp]) hbl (by omega) (by have := hs.le; simp at this ⊢; exact this) (by rw [e2]; exact hl)
  rw [e, e2] at h
  exact h
set_option maxRecDepth 20000 in
set_option maxHeartbeats 2000000 in
theorem made_any (op : Nat) (hop : op ≤ 7) (s : Pv.S4) (hset : op ≠ 2 → s = Pv.S4.zero) (ks : List Pv.R) (hkk : op = 3 ∨ op = 5 → ks ≠ []) (a : Option Addr) (c : Nat) (bs : List Nat) (w : World)
    (hs : Sl w a c (bs.map Ptr)) (hk : ResAt H w ks bs) (hH : ∀ h, H h → h < w.heap.size) (ha : ∀ blk off, a = some ⟨blk, off, none⟩ → ¬ H blk ∧ blk < w.heap.size) (hsz : Pv.size (.mk op s ks) ≤ 549755813888) :
    Calls Tryz.prog 79 #[.int .i64 (op : Int), S4V s, .bool (Pv.null (.mk op s ks)), .slice a bs.length c] w fun e w' =>
      ∃ b, e = .returned (Ptr b) ∧ ReAt H w' (.mk op s ks) b ∧ Below w.heap.size w w' := by
  obtain ⟨i0, hi, hz0, hz1, hz2⟩ := info_parts info_str
  generalize hnul : Pv.null (.mk op s ks) = nul
  have Hset := Lib.hid hset
  have HH := Lib.hid hH
  have HKK := Lib.hid hkk
  have HA := Lib.hid ha
  clear hset hH ha hkk
  have Hnul := Lib.hid hnul
  clear hnul
  have Hsz := Lib.hid hsz
  clear hsz
  have Hhs := Lib.hid hs
  clear hs
  have Hhk := Lib.hid hk
  clear hk
  go_enter Tryz.func79, Tryz.ntmps79
  go_wp2_with fail
  refine (Tryz.strconv_Itoa_small op (by omega) _).mono ?_
  rintro e w' ⟨rfl, rfl⟩
  go_upto_if 25 with fail
  go_cut [10] (fun v wx => Row (w.heap.size + 1 + 1) 9 wx v (([UInt8.ofNat (48 + op)] :: Pv.wordParts op s).map Str) ∧ Below w.heap.size w wx ∧
      wx.heap[w.heap.size + 1]? = some (.cells (reCells op s (.slice a bs.length c) nul [] 1) 121) ∧ w.heap.size + 1 + 1 ≤ wx.heap.size)
  case first =>
    by_cases h2 : op = 2
    · subst h2
      have e22 : ((2 : Int) == 2) = true := rfl
      rw [show ((2 : Nat) : Int) = 2 from rfl]
      simp only [e22]
      go_wp2_with fail
      go_loopw [10, 27] (fun v i wr => ∃ k : Nat, k ≤ 4 ∧ i = .int .i64 k ∧ Row (w.heap.size + 1 + 1) 9 wr v (([UInt8.ofNat (48 + 2)] :: (Pv.wordParts 2 s).take k).map Str) ∧ Below w.heap.size w wr ∧
         wr.heap[w.heap.size + 1]? = some (.cells (reCells 2 s (.slice a bs.length c) nul [] 1) 121) ∧ w.heap.size + 1 + 1 ≤ wr.heap.size) (fun _ i _ => (4 - intOf i).toNat)
      case atStart =>
        refine ⟨0, by omega, rfl, ?_, ((((Below.refl _ _).alloc (by first | (simp; done) | (simp; omega) | omega) _).alloc (by first | (simp; done) | (simp; omega) | omega) _).alloc (by first | (simp; done) | (simp; omega) | omega) _), blk_old (blk_new (by simp)), by simp⟩
        rw [show List.map Str ([UInt8.ofNat (48 + 2)] :: List.take 0 (Pv.wordParts 2 s)) = [Str (Lib.decDigits 2)] from by rw [dec_op 2 (by omega)]; rfl]
        exact Row.of_blk (xs := [Str (Lib.decDigits 2)]) (by omega) (blk_new (by first | (simp; done) | (simp; omega) | omega)) (by unfold maxLen; simp)
      case round =>
        obtain ⟨k, hk, rfl, hrow, hB, hblk, hz⟩ := hrel
        have HB := Lib.hid hB
        have Hblk := Lib.hid hblk
        have Hrow := Lib.hid hrow
        clear hB hblk hrow
        by_cases h4 : k < 4
        · have h1 := idx4 s k h4
          have hk0 : (0 : Int) ≤ k := by omega
          have hk4 : (k : Int) < 4 := by omega
          go_wp2_with fail
          refine (fmtU _ (s.word k).isLt _).mono ?_
          rintro e w' ⟨rfl, hb⟩
          have hrow := Hrow.out.later hb
          have hB := HB.out.trans (hb.mono HB.out.size)
          have hblk := later_blk hb Hblk.out
          have hz' : w.heap.size + 1 + 1 ≤ w'.heap.size := Nat.le_trans hz hb.size
          have HB' := Lib.hid hB
          have Hblk' := Lib.hid hblk
          have Hrow' := Lib.hid hrow
          clear hrow hB hblk hb
          go_wp2_with (at_builtin; refine app1 _ _ i0 _ 16 Tryz.underlying131 hi hz0 hz1 hz2 rfl (by omega) rfl _ _ rfl (w.heap.size + 1 + 1) _ _ rfl (Hrow'.out.alloc _) w'.heap.size _ rfl (blk_new rfl) rfl ?c1 (by simp; omega) ?c2)
          case c1 =>
            have := (Pv.wordParts 2 s).length_take_le k
            have : (Pv.wordParts 2 s).length = 4 := rfl
            simp; omega
          case c2 =>
            intro v1 w1 hr1 hb1 _
            have hB1 := (HB'.out.alloc (Nat.le_trans (by omega) hz') (.cells #[Str (Pv.digits36 (s.word k).toNat)] 9)).trans (hb1.mono (by omega))
            have hblk1 : w1.heap[w.heap.size + 1]? = _ := (hb1.block _ (by omega)).trans (blk_old Hblk'.out)
            have hz1 : w.heap.size + 1 + 1 ≤ w1.heap.size := Nat.le_trans hz' (by have := hb1.size; simp at this; omega)
            have hr2 : Row (w.heap.size + 1 + 1) 9 w1 v1 (([UInt8.ofNat (48 + 2)] :: (Pv.wordParts 2 s).take (k + 1)).map Str) := by
              rw [word_part s k h4]; simpa using hr1
            have A1 := Lib.hid hB1
            have A2 := Lib.hid hblk1
            have A3 := Lib.hid hr2
            clear hB1 hblk1 hr2 hr1 hb1
            go_wp2_with fail
            go_roundw
            case rel => exact ⟨k + 1, by omega, by go_num, A3.out, A1.out, A2.out, hz1⟩
            case measure => simp [intOf]; omega
        · have e4 : k = 4 := by omega
          subst e4
          go_wp2_with fail
          go_meet
          exact ⟨Hrow.out, HB.out, Hblk.out, hz⟩
    · have h2' : ((op : Int) == 2) = false := by rw [beq_eq_false_iff_ne]; omega
      go_wp2_with fail
      go_meet
      refine ⟨?_, ((((Below.refl _ _).alloc (by first | (simp; done) | (simp; omega) | omega) _).alloc (by first | (simp; done) | (simp; omega) | omega) _).alloc (by first | (simp; done) | (simp; omega) | omega) _), blk_old (blk_new (by first | (simp; done) | (simp; omega) | omega)), (by first | (simp; done) | (simp; omega) | omega)⟩
      rw [Pv.wordParts, if_neg h2, ← dec_op op hop]
      exact Row.of_blk (xs := [Str (Lib.decDigits op)]) (by omega) (blk_new (by first | (simp; done) | (simp; omega) | omega)) (by unfold maxLen; simp)
  case rest =>
    obtain ⟨hrow, hB, hblk, hz⟩ := hcut
    have HB := Lib.hid hB
    have Hblk := Lib.hid hblk
    have Hrow := Lib.hid hrow
    clear hB hblk hrow
    go_wp2_with fail
    have Hlen := Lib.hid Hhk.out.length
    go_loopw [10, 38] (fun v i wr => ∃ k : Nat, k ≤ ks.length ∧ i = .int .i64 k ∧ Row (w.heap.size + 1 + 1) 9 wr v (([UInt8.ofNat (48 + op)] :: (Pv.wordParts op s ++ (Pv.keys ks).take k)).map Str) ∧ Below w.heap.size w wr ∧
       wr.heap[w.heap.size + 1]? = some (.cells (reCells op s (.slice a bs.length c) nul [] (1 + Pv.sizes (ks.take k))) 121) ∧ w.heap.size + 1 + 1 ≤ wr.heap.size) (fun _ i _ => (bs.length - intOf i).toNat)
    case atStart => exact ⟨0, by omega, rfl, by simpa using Hrow.out, HB.out, by simpa [Pv.sizes] using Hblk.out, hz⟩
    case round =>
      clear Hrow HB Hblk hz
      obtain ⟨k, hk, rfl, hrow, hB, hblk, hz⟩ := hrel
      have HB := Lib.hid hB
      have Hblk := Lib.hid hblk
      have Hrow := Lib.hid hrow
      by_cases hkn : k < ks.length
      · obtain ⟨hkb, hat⟩ := Hhk.out.get k hkn
        obtain ⟨blk, off, rfl, hbl, hcs⟩ := Hhs.out.at_ (by have := Hlen.out; simp; omega)
        have hat' := hat.later (hB.mono (Nat.le_refl _))
        obtain ⟨a2, c2, bs2, _, _, _, _, _, _, _, hkey, hsize, _, _, hlt⟩ := hat'.cells
        have hc0 := later hB (hcs k (by simpa using hkb))
        rw [List.getElem_map] at hc0
        generalize bs[k] = bk at *
        have hkn' : (k : Int) < bs.length := by have := Hlen.out; omega
        have hbk : bk < w.heap.size := hat.lt
        have hne : bk ≠ w.heap.size + 1 := by have := hat.lt; omega
        have hs1 : Pv.sizes (ks.take k) + Pv.size ks[k] < 1099511627776 := by
          have h1 := sizes_take ks k hkn
          have h2 := sizes_take_le ks (k + 1)
          have h3 := Hsz.out
          unfold Pv.size at h3
          omega
        clear hB hblk hrow hat hcs hat'
        have hk40 : (k : Int) < 1099511627776 := by
          have h3 := Hsz.out
          have h4 := sizes_len ks
          unfold Pv.size at h3
          omega
        have hkl : (Pv.keys ks).length = ks.length := by rw [Pv.keys_map]; simp
        go_wp2_with (at_builtin; refine app1 _ _ i0 _ 16 Tryz.underlying131 hi hz0 hz1 hz2 rfl (by omega) rfl _ _ rfl (w.heap.size + 1 + 1) _ _ rfl (Hrow.out.alloc _) wr.heap.size _ rfl (blk_new rfl) rfl ?c1 (by simp; omega) ?c2)
        case c1 =>
          have := (Pv.keys ks).length_take_le k
          have : (Pv.wordParts op s).length ≤ 4 := by unfold Pv.wordParts; split <;> simp
          have h3 := Hsz.out
          have h4 := sizes_len ks
          unfold Pv.size at h3
          simp [hkl]; omega
        case c2 =>
          intro v1 w1 hr1 hb1 _
          have hB1 := (HB.out.alloc (Nat.le_trans (by omega) hz) (.cells #[Str (Pv.key ks[k])] 9)).trans (hb1.mono (by omega))
          have hblk1 : w1.heap[w.heap.size + 1]? = _ := (hb1.block _ (by omega)).trans (blk_old Hblk.out)
          have hz1 : w.heap.size + 1 + 1 ≤ w1.heap.size := Nat.le_trans hz (by have := hb1.size; simp at this; omega)
          have hr2 : Row (w.heap.size + 1 + 1) 9 w1 v1 (([UInt8.ofNat (48 + op)] :: (Pv.wordParts op s ++ (Pv.keys ks).take (k + 1))).map Str) := by
            have e : (Pv.keys ks).take (k + 1) = (Pv.keys ks).take k ++ [Pv.key ks[k]] := by
              rw [List.take_succ_eq_append_getElem (by omega)]; simp [Pv.keys_map]
            rw [e]; simpa using hr1
          have hc8 : w1.cell? ⟨bk, 8, none⟩ = some (.int .i64 (Pv.size ks[k] : Int)) := (hb1.cell (p := ⟨bk, 8, none⟩) (by show bk < _; omega)).trans ((World.cell?_alloc_old _ _ _ (by show bk ≠ _; omega)).trans hsize)
          have hs8 : w1.cell? ⟨w.heap.size + 1, 8, none⟩ = some (.int .i64 ((1 + Pv.sizes (ks.take k) : Nat) : Int)) := cell_of_blk hblk1 rfl
          have hf8 : w1.frozen? ⟨w.heap.size + 1, 8, none⟩ = false := frozen_of_blk hblk1
          have A1 := Lib.hid hB1
          have A2 := Lib.hid hblk1
          have A3 := Lib.hid hr2
          clear hB1 hblk1 hr2 hr1 hb1 hc0 hkey hsize
          generalize hsk : Pv.size ks[k] = sk at *
          generalize hst : Pv.sizes (ks.take k) = st at *
          have HSK := Lib.hid hsk
          have HST := Lib.hid hst
          clear hsk hst
          go_wp2_with fail
          refine Eag.region (.mov 0 (.mov 1 (.mov 2 (.mov 3 (.mov 4 (.mov 5 (.mov 6 (.mov 7 (.mov 8 (.mov 9 (.mov 10 (.anc 11 Eag.Sch.fin)))))))))))) [11] (by kernel_rfl) (by kernel_rfl) (fun K ops hops hK => ?_)
          iterate 11
            refine Eag.mov hops rfl rfl (fun w' hb => ?_) ?_
            · have q0 := later hb hc8; have q1 := later hb hs8; clear hb; go_simp
            go_simp
          refine Eag.anc hops rfl rfl ?_
          go_wp2_with fail
          refine Eag.fin (hK _ _ ?_)
          clear hK
          go_wp2_with fail
          go_roundw
          case rel =>
            refine ⟨k + 1, by omega, by go_num, A3.out.setCell (by omega), A1.out.drew.setCell (by simp) _, ?_, by simpa using hz1⟩
            have := blk_set (w := w1) (o := 8) (v := .int .i64 (1 + (st : Int) + (sk : Int))) A2.out
            rw [sizes_take ks k hkn, HSK.out, HST.out]
            have e : ((1 + (st + sk) : Nat) : Int) = 1 + (st : Int) + (sk : Int) := by omega
            unfold reCells
            rw [e]; exact this
          case measure => have := Hlen.out; simp [intOf]; omega
      · have e : k = ks.length := by omega
        subst e
        have HL := Hlen.out
        rw [List.take_length] at hblk
        have hkl : (Pv.keys ks).length = ks.length := by rw [Pv.keys_map]; simp
        rw [← hkl, List.take_length] at hrow
        have hjoin := key_joined op s ks
        have hklen := key_len (.mk op s ks)
        have hsz1 := Hsz.out
        have hpsl : ([UInt8.ofNat (48 + op)] :: (Pv.wordParts op s ++ Pv.keys ks)).length < 1099511627776 := by
          have : (Pv.wordParts op s).length ≤ 4 := by unfold Pv.wordParts; split <;> simp
          have h4 := sizes_len ks
          have h3 := hsz1
          unfold Pv.size at h3
          simp [hkl]; omega
        generalize hps : [UInt8.ofNat (48 + op)] :: (Pv.wordParts op s ++ Pv.keys ks) = ps at *
        have hps0 : ps ≠ [] := by rw [← hps]; simp
        obtain ⟨ra, rc, rfl, hsl, hra⟩ := hrow.form
        obtain ⟨g, rfl, hg1, hg2⟩ := hra (by simpa using hps0)
        rw [List.length_map] at *
        have hjl : (Lib.join ps [32]).length ≤ 140737488355320 := by
          rw [hjoin] at hklen; simp at hklen; omega
        clear HB Hblk Hrow
        have HB := Lib.hid hB
        have Hblk := Lib.hid hblk
        have Hrow := Lib.hid hrow
        have Hsl := Lib.hid hsl
        have Hjoin := Lib.hid hjoin
        have hge : ¬ ((ks.length : Int) < bs.length) := by omega
        clear hB hblk hrow HL hsl hjoin hps hklen hsz1
        go_wp2_with fail
        refine (join_any ps g rc _ Hsl.out hpsl (by omega) hps0).mono ?_
        rintro e w' ⟨rfl, hb⟩
        have hblk' := later_blk hb Hblk.out
        have hc7 := cell_of_blk (o := 7) hblk' rfl
        have hf7 := frozen_of_blk (o := 7) hblk'
        have HB' := Lib.hid (HB.out.trans (hb.mono HB.out.size))
        have Hblk' := Lib.hid hblk'
        have hz' := Nat.le_trans hz hb.size
        clear hblk' hb
        generalize hj : Lib.join ps [32] = jl at *
        have Hj := Lib.hid hj
        clear hj
        go_wp2_with fail
        go_ret
        refine ⟨_, rfl, ?_, HB'.out.setCell (by simp) _⟩
        have hB2 := HB'.out.setCell (p := ⟨w.heap.size + 1, 7, none⟩) (by simp) (Value.string ({ data := #[40] } ++ { data := jl.toArray } ++ { data := #[41] }))
        refine ReAt.mk_ ⟨hop, Hset.out, HKK.out⟩ (fun h => by have := HH.out _ h; omega) (fun x y e => ⟨(HA.out x y e).1, Nat.lt_of_lt_of_le (HA.out x y e).2 hB2.size⟩) (a := a) (c := c) (bs := bs) ?_ (Hhs.out.later hB2) (Hhk.out.later hB2)
        rw [Hnul.out, Hjoin.out]
        have := blk_set (o := 7) (v := Value.string ({ data := #[40] } ++ { data := jl.toArray } ++ { data := #[41] })) Hblk'.out
        rw [this]
        have e : (({ data := #[40] } : ByteArray) ++ { data := jl.toArray } ++ { data := #[41] }) = ⟨([40] ++ (jl ++ [41])).toArray⟩ := by
          apply ByteArray.ext
          simp
        rw [e]
        rfl
end Go.Proofs.YtbimpenhmefpeaaGreatDoor
