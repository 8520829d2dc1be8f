/- The word statements: facts on the program's types; contracts of three functions of the library; the plain functions. -/
import Derived.Test.YtbegnjhfhnaagaaDoorProg
import Derived.Test.YtbegnjhfhnaagaaDoorSxQ
import Derived.Test.YtbegnjhfhnaagaaDoorShelf
import Derived.Lib.ItoaLen
namespace Go.Proofs.YtbegnjhfhnaagaaDoor
open Go.Sx Go.RowKit

theorem es_i64s : elemSize Tryd.prog 35 = some 1 := by kernel_rfl
theorem es_u8s : elemSize Tryd.prog 47 = some 1 := by kernel_rfl
theorem et_i64s : (elemTy Tryd.prog 35).isSome = true := by kernel_rfl
theorem et_u8s : (elemTy Tryd.prog 47).isSome = true := by kernel_rfl
theorem ety_i64s : elemTy Tryd.prog 35 = some 2 := by kernel_rfl
theorem ety_u8s : elemTy Tryd.prog 47 = some 5 := by kernel_rfl
theorem tc_i64 : tyCells Tryd.prog 2 = some (false, 1) := by kernel_rfl
theorem zl_i64 : zeroLen Tryd.prog 2 = some 1 := by kernel_rfl
theorem zl_u8 : zeroLen Tryd.prog 5 = some 1 := by kernel_rfl
theorem by_i64s : bytesOf Tryd.prog 35 = some 8 := by kernel_rfl
theorem by_u8s : bytesOf Tryd.prog 47 = some 1 := by kernel_rfl
theorem zs_i64 : (zeroOf Tryd.prog 2).isSome = true := by kernel_rfl
theorem zs_u8 : (zeroOf Tryd.prog 5).isSome = true := by kernel_rfl
theorem zo_i64 : zeroOf Tryd.prog 2 = some [.int .i64 0] := by kernel_rfl
theorem ui64 : Tryd.prog.underlying 2 = some (.int .i64) := by kernel_rfl
theorem uint : Tryd.prog.underlying 3 = some (.int .i64) := by kernel_rfl
theorem uu64 : Tryd.prog.underlying 39 = some (.int .u64) := by kernel_rfl
theorem uu8 : Tryd.prog.underlying 5 = some (.int .u8) := by kernel_rfl
theorem ui32 : Tryd.prog.underlying 21 = some (.int .i32) := by kernel_rfl
theorem ustr : Tryd.prog.underlying 9 = some .string := by kernel_rfl
theorem ubool : Tryd.prog.underlying 4 = some .bool := by kernel_rfl
theorem uu8s : Tryd.prog.underlying 47 = some (.slice 5) := by kernel_rfl
theorem si64 : (Tryd.prog.underlying 2).isSome = true := by kernel_rfl
theorem su64 : (Tryd.prog.underlying 39).isSome = true := by kernel_rfl
theorem su8 : (Tryd.prog.underlying 5).isSome = true := by kernel_rfl
theorem si32 : (Tryd.prog.underlying 21).isSome = true := by kernel_rfl

theorem hb_wWrap : hasBody Tryd.prog 11 = true := by kernel_rfl
theorem hb_wAdd : hasBody Tryd.prog 13 = true := by kernel_rfl
theorem hb_wSub : hasBody Tryd.prog 15 = true := by kernel_rfl
theorem hb_wMul : hasBody Tryd.prog 17 = true := by kernel_rfl
theorem hb_wDiv : hasBody Tryd.prog 19 = true := by kernel_rfl
theorem hb_wMod : hasBody Tryd.prog 20 = true := by kernel_rfl
theorem hb_wSum : hasBody Tryd.prog 27 = true := by kernel_rfl
theorem hb_wShow : hasBody Tryd.prog 23 = true := by kernel_rfl
theorem hb_wRead : hasBody Tryd.prog 24 = true := by kernel_rfl
theorem hb_rWrap : hasBody Tryd.prog 12 = true := by kernel_rfl
theorem hb_rAdd : hasBody Tryd.prog 14 = true := by kernel_rfl
theorem hb_rSub : hasBody Tryd.prog 16 = true := by kernel_rfl
theorem hb_rMul : hasBody Tryd.prog 18 = true := by kernel_rfl
theorem hb_rDiv : hasBody Tryd.prog 21 = true := by kernel_rfl
theorem hb_rMod : hasBody Tryd.prog 22 = true := by kernel_rfl
theorem hb_rShow : hasBody Tryd.prog 26 = true := by kernel_rfl
theorem hb_rRead : hasBody Tryd.prog 25 = true := by kernel_rfl
theorem hb_back : hasBody Tryd.prog 28 = true := by kernel_rfl
theorem hb_size : hasBody Tryd.prog 29 = true := by kernel_rfl
theorem hb_awake : hasBody Tryd.prog 10 = true := by kernel_rfl
theorem hb_Replace : hasBody Tryd.prog 30 = true := by kernel_rfl
theorem hb_FormatInt : hasBody Tryd.prog 31 = true := by kernel_rfl
theorem hb_CutPrefix : hasBody Tryd.prog 32 = true := by kernel_rfl

def ints (L : List Int) : D := .slice (L.map i64)

/-! ### numbers of the language -/
theorem wrap_u64 (n : Int) : IntKind.u64.wrap n = n % 18446744073709551616 := by simp [IntKind.wrap, IntKind.bits, IntKind.signed]
theorem wrap_i64 (n : Int) : IntKind.i64.wrap n = (n + 9223372036854775808) % 18446744073709551616 - 9223372036854775808 := by
  simp [IntKind.wrap, IntKind.bits, IntKind.signed]; split <;> omega
theorem wrap_u8 (n : Int) : IntKind.u8.wrap n = n % 256 := by simp [IntKind.wrap, IntKind.bits, IntKind.signed]
theorem wrap_i32 (n : Int) : IntKind.i32.wrap n = (n + 2147483648) % 4294967296 - 2147483648 := by
  simp [IntKind.wrap, IntKind.bits, IntKind.signed]; split <;> omega
/-- a number as the language has it -/
def W (n : Int) : Int := (n + 4611686018427387904) % 9223372036854775808 - 4611686018427387904
theorem W_bd (n : Int) : -4611686018427387904 ≤ W n ∧ W n ≤ 4611686018427387903 := by unfold W; omega
theorem W_id {n : Int} (h : -4611686018427387904 ≤ n ∧ n ≤ 4611686018427387903) : W n = n := by unfold W; omega
theorem W_W (n : Int) : W (W n) = W n := W_id (W_bd n)

/-! ### the library -/
theorem tup_ss {St : Stab} {w : World} (a b : Value) : RepD St w (.tuple #[a, b]) (.tup [.val a, .val b]) :=
  .tup [_, _] _ rfl fun j u d hu hd => by
    match j with
    | 0 => simp at hu hd; subst hu; subst hd; exact .val _
    | 1 => simp at hu hd; subst hu; subst hd; exact .val _
    | j + 2 => simp at hu

theorem CutPrefix_ok (s p : List UInt8) : PCall Tryd.prog 32 [str s, str p] (.tup [str (Lib.trimPrefix s p), bl (Lib.hasPrefix s p)]) :=
  pcall_plain (us := [.string ⟨s.toArray⟩, .string ⟨p.toArray⟩]) (fun _ _ => tup_ss _ _) fun _ w _ => (Tryd.strings_CutPrefix _ _ w).mono fun e w' ⟨he, hw⟩ => ⟨he, by subst hw; exact Below.refl _ _⟩

theorem FormatInt_ok (n : Int) (h0 : -9223372036854775808 ≤ n) (h1 : n ≤ 9223372036854775807) : PCall Tryd.prog 31 [i64 n, i64 10] (str (Lib.itoa n)) :=
  pcall_plain (us := [.int .i64 n, .int .i64 10]) (fun _ _ => .val _) fun _ w hgl => (Tryd.strconv_FormatInt_10 n h0 h1 w (by
    obtain ⟨_, _, e, t, h3⟩ := hgl
    have key : ∀ (o : Option Nat), o = some 3 → (o.bind fun g => match w.heap[g]? with | some (.cells cs _ _) => some cs | _ => none) = some (Lib.pow10Tab.map fun z => Value.int .u64 z).toArray := by
      rintro _ rfl; simp only [Option.bind_some, h3]
    exact key _ (by kernel_rfl))).mono fun e w' ⟨he, k, os, hw⟩ => ⟨he, by
      subst hw
      exact ⟨rfl, rfl, rfl, by simp [Sort.grow, World.drewN], fun i hi => by simp [Sort.grow, World.drewN, Array.getElem?_append, hi]⟩⟩

theorem Replace_ok (s a b : List UInt8) (n : Int) (ha : 1 ≤ a.length) (hs : s.length ≤ 1000) (hb : b.length ≤ 1000) : PCall Tryd.prog 30 [str s, str a, str b, i64 n] (str (Lib.replace s a b n)) :=
  pcall_plain (us := [.string ⟨s.toArray⟩, .string ⟨a.toArray⟩, .string ⟨b.toArray⟩, .int .i64 n]) (fun _ _ => .val _) fun _ w hgl => by
    obtain ⟨_, ⟨m, e, t, h0⟩, _⟩ := hgl
    refine (Tryd.strings_Replace ⟨s.toArray⟩ ⟨a.toArray⟩ ⟨b.toArray⟩ n m w (by rw [str_size]; omega) ?_ (by rw [str_size]; exact ha) ?_).mono fun e w' ⟨he, hw⟩ => ⟨he, hw⟩
    · exact cell_of_row w 0 0 _ e t h0
    · have h1 := Lib.count_le s a
      have h2 : Lib.countB ⟨s.toArray⟩ ⟨a.toArray⟩ = Lib.count s a := rfl
      rw [h2, str_size, str_size]
      have h3 := Nat.mul_le_mul (show Lib.count s a ≤ 1001 by omega) hb
      omega
end Go.Proofs.YtbegnjhfhnaagaaDoor
