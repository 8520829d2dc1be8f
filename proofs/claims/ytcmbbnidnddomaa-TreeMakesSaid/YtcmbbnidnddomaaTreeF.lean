/- The tree statements: facts on the program's types; nodes; the plain functions. -/
import Derived.Test.YtcmbbnidnddomaaProg
import Derived.Test.YtcmbbnidnddomaaSxO
namespace Go.Proofs.Ytcmbbnidnddomaa
open Go.Sx

theorem es_nodes : elemSize Try.prog 22 = some 4 := by kernel_rfl
theorem es_ints : elemSize Try.prog 31 = some 1 := by kernel_rfl
theorem es_nodess : elemSize Try.prog 38 = some 1 := by kernel_rfl
theorem et_nodes : (elemTy Try.prog 22).isSome = true := by kernel_rfl
theorem et_ints : (elemTy Try.prog 31).isSome = true := by kernel_rfl
theorem et_nodess : (elemTy Try.prog 38).isSome = true := by kernel_rfl
theorem ety_nodes : elemTy Try.prog 22 = some 37 := by kernel_rfl
theorem ety_ints : elemTy Try.prog 31 = some 3 := by kernel_rfl
theorem ety_nodess : elemTy Try.prog 38 = some 22 := by kernel_rfl
theorem fo_0 : fieldOff Try.prog 37 0 = some 0 := by kernel_rfl
theorem fo_1 : fieldOff Try.prog 37 1 = some 1 := by kernel_rfl
theorem fo_2 : fieldOff Try.prog 37 2 = some 2 := by kernel_rfl
theorem fo_3 : fieldOff Try.prog 37 3 = some 3 := by kernel_rfl
theorem tc_int : tyCells Try.prog 3 = some (false, 1) := by kernel_rfl
theorem tc_kind : tyCells Try.prog 35 = some (false, 1) := by kernel_rfl
theorem tc_i64 : tyCells Try.prog 2 = some (false, 1) := by kernel_rfl
theorem tc_str : tyCells Try.prog 9 = some (false, 1) := by kernel_rfl
theorem tc_bool : tyCells Try.prog 4 = some (false, 1) := by kernel_rfl
theorem tc_nodes : tyCells Try.prog 22 = some (false, 1) := by kernel_rfl
theorem tc_ints : tyCells Try.prog 31 = some (false, 1) := by kernel_rfl
theorem tc_node : tyCells Try.prog 37 = some (true, 4) := by kernel_rfl
theorem zl_node : zeroLen Try.prog 37 = some 4 := by kernel_rfl
theorem zl_int : zeroLen Try.prog 3 = some 1 := by kernel_rfl
theorem zl_nodes : zeroLen Try.prog 22 = some 1 := by kernel_rfl
theorem by_nodes : bytesOf Try.prog 22 = some 40 := by kernel_rfl
theorem by_ints : bytesOf Try.prog 31 = some 8 := by kernel_rfl
theorem by_nodess : bytesOf Try.prog 38 = some 24 := by kernel_rfl
theorem zs_node : (zeroOf Try.prog 37).isSome = true := by kernel_rfl
theorem zs_int : (zeroOf Try.prog 3).isSome = true := by kernel_rfl
theorem zs_nodes : (zeroOf Try.prog 22).isSome = true := by kernel_rfl
theorem zo_node : zeroOf Try.prog 37 = some [.int .i64 0, .string ByteArray.empty, .int .i64 0, .int .i64 0] := by kernel_rfl
theorem zo_int : zeroOf Try.prog 3 = some [.int .i64 0] := by kernel_rfl
theorem zd_node : zeroD Try.prog 37 = some (.agg [.val (.int .i64 0), .val (.string ByteArray.empty), .val (.int .i64 0), .val (.int .i64 0)]) := by kernel_rfl
theorem hb_End : hasBody Try.prog 13 = true := by kernel_rfl
theorem hb_Whole : hasBody Try.prog 14 = true := by kernel_rfl
theorem hb_Kids : hasBody Try.prog 17 = true := by kernel_rfl
theorem hb_Sub : hasBody Try.prog 11 = true := by kernel_rfl
theorem hb_Make : hasBody Try.prog 20 = true := by kernel_rfl
theorem hb_Put : hasBody Try.prog 22 = true := by kernel_rfl
theorem hb_Deep : hasBody Try.prog 26 = true := by kernel_rfl
theorem hb_Up : hasBody Try.prog 27 = true := by kernel_rfl
theorem hb_Up1 : hasBody Try.prog 29 = true := by kernel_rfl
theorem hb_Concat : hasBody Try.prog 28 = true := by kernel_rfl
theorem hb_Grow : hasBody Try.prog 31 = true := by kernel_rfl
theorem hb_Contains : hasBody Try.prog 30 = true := by kernel_rfl
theorem hb_Index : hasBody Try.prog 32 = true := by kernel_rfl

theorem hb_rKids : hasBody Try.prog 18 = true := by kernel_rfl
theorem hb_rWhole : hasBody Try.prog 15 = true := by kernel_rfl
theorem hb_rSub : hasBody Try.prog 23 = true := by kernel_rfl
theorem hb_rMake : hasBody Try.prog 21 = true := by kernel_rfl
theorem hb_rDeep : hasBody Try.prog 24 = true := by kernel_rfl
theorem hb_rUp : hasBody Try.prog 25 = true := by kernel_rfl
theorem hb_Same : hasBody Try.prog 19 = true := by kernel_rfl
theorem hb_Row : hasBody Try.prog 16 = true := by kernel_rfl
theorem hb_own : hasBody Try.prog 12 = true := by kernel_rfl
theorem hb_awake : hasBody Try.prog 9 = true := by kernel_rfl
theorem ut_int : Try.prog.underlying 3 = some (.int .i64) := by kernel_rfl
theorem bt_node0 : Try.prog.built 37 [] = some (List.toArray [.int .i64 0, .string ByteArray.empty, .int .i64 0, .int .i64 0]) := by kernel_rfl
theorem bt_node3 (n : Int) : Try.prog.built 37 [(3, .int .i64 n)] = some (List.toArray [.int .i64 0, .string ByteArray.empty, .int .i64 0, .int .i64 n]) := by kernel_rfl
theorem bt_node2 (n : Int) : Try.prog.built 37 [(2, .int .i64 n)] = some (List.toArray [.int .i64 0, .string ByteArray.empty, .int .i64 n, .int .i64 0]) := by kernel_rfl
theorem bt_node4 (a c d : Int) (b : ByteArray) : Try.prog.built 37 [(0, .int .i64 a), (1, .string b), (2, .int .i64 c), (3, .int .i64 d)] = some (List.toArray [.int .i64 a, .string b, .int .i64 c, .int .i64 d]) := by kernel_rfl

/-- a node -/
structure Nd where
  kind : Int
  text : ByteArray
  num : Int
  kids : Int
deriving DecidableEq

def Nd.av (n : Nd) : D := .agg [.val (.int .i64 n.kind), .val (.string n.text), .val (.int .i64 n.num), .val (.int .i64 n.kids)]
def nodes (L : List Nd) : D := .slice (L.map Nd.av)
def ival (n : Int) : D := .val (.int .i64 n)
def ints (L : List Int) : D := .slice (L.map ival)
def nodess (LL : List (List Nd)) : D := .slice (LL.map nodes)
abbrev i64 (n : Int) : D := .val (.int .i64 n)
abbrev bl (b : Bool) : D := .val (.bool b)
def nilv : D := .val (.slice none 0 0)

/-! ### End -/
def endGo (n : Nat) : List Nd → Int → Int → Int
  | [], _, _ => -1
  | x :: r, o, a => if x.kids < 0 ∨ x.kids > n then -1 else if o + (x.kids - 1) > 0 then endGo n r (o + (x.kids - 1)) (a + 1) else a + 1
def endF (L : List Nd) (a : Int) : Int := if a < 0 then -1 else endGo L.length (L.drop a.toNat) 1 a

theorem endGo_none {L : List Nd} {k : Nat} (h : L.length ≤ k) (n : Nat) (o a : Int) : endGo n (L.drop k) o a = -1 := by
  rw [List.drop_of_length_le h]; rfl
theorem endGo_some {L : List Nd} {k : Nat} {x : Nd} (h : L[k]? = some x) (n : Nat) (o a : Int) : endGo n (L.drop k) o a = if x.kids < 0 ∨ x.kids > n then -1 else if o + (x.kids - 1) > 0 then endGo n (L.drop (k + 1)) (o + (x.kids - 1)) (a + 1) else a + 1 := by
  obtain ⟨hk, rfl⟩ := List.getElem?_eq_some_iff.1 h
  rw [List.drop_eq_getElem_cons hk]; rfl

end Go.Proofs.Ytcmbbnidnddomaa
