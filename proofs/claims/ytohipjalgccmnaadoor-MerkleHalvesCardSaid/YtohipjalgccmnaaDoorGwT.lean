/- The walks of some functions, written by program. Conditions: none. -/
import Derived.Test.YtohipjalgccmnaaDoorProg
import Derived.Test.YtohipjalgccmnaaDoorGwI
set_option maxHeartbeats 20000000
set_option maxRecDepth 100000
set_option linter.unusedVariables false
set_option linter.unusedSimpArgs false
namespace Go.Proofs.YtohipjalgccmnaaDoor
open Go Go.Gw

def tab_0 : List UInt8 := [0, 1, 28, 2, 29, 14, 24, 3, 30, 22, 20, 15, 25, 17, 4, 8, 31, 27, 13, 23, 21, 19, 16, 7, 26, 12, 18, 6, 11, 5, 10, 9]

def tab_1 : List UInt8 := [0, 1, 56, 2, 57, 49, 28, 3, 61, 58, 42, 50, 38, 29, 17, 4, 62, 47, 59, 36, 45, 43, 51, 22, 53, 39, 33, 30, 24, 18, 12, 5, 63, 55, 48, 27, 60, 41, 37, 16, 46, 35, 44, 21, 52, 32, 23, 11, 54, 26, 40, 15, 34, 20, 31, 10, 25, 14, 19, 9, 13, 8, 7, 6]

def str_0 : ByteArray := ⟨#[0, 1, 2, 2, 3, 3, 3, 3, 4, 4, 4, 4, 4, 4, 4, 4, 5, 5, 5, 5, 5, 5, 5, 5, 5, 5, 5, 5, 5, 5, 5, 5, 6, 6, 6, 6, 6, 6, 6, 6, 6, 6, 6, 6, 6, 6, 6, 6, 6, 6, 6, 6, 6, 6, 6, 6, 6, 6, 6, 6, 6, 6, 6, 6, 7, 7, 7, 7, 7, 7, 7, 7, 7, 7, 7, 7, 7, 7, 7, 7, 7, 7, 7, 7, 7, 7, 7, 7, 7, 7, 7, 7, 7, 7, 7, 7, 7, 7, 7, 7, 7, 7, 7, 7, 7, 7, 7, 7, 7, 7, 7, 7, 7, 7, 7, 7, 7, 7, 7, 7, 7, 7, 7, 7, 7, 7, 7, 7, 8, 8, 8, 8, 8, 8, 8, 8, 8, 8, 8, 8, 8, 8, 8, 8, 8, 8, 8, 8, 8, 8, 8, 8, 8, 8, 8, 8, 8, 8, 8, 8, 8, 8, 8, 8, 8, 8, 8, 8, 8, 8, 8, 8, 8, 8, 8, 8, 8, 8, 8, 8, 8, 8, 8, 8, 8, 8, 8, 8, 8, 8, 8, 8, 8, 8, 8, 8, 8, 8, 8, 8, 8, 8, 8, 8, 8, 8, 8, 8, 8, 8, 8, 8, 8, 8, 8, 8, 8, 8, 8, 8, 8, 8, 8, 8, 8, 8, 8, 8, 8, 8, 8, 8, 8, 8, 8, 8, 8, 8, 8, 8, 8, 8, 8, 8, 8, 8, 8, 8, 8, 8, 8, 8, 8, 8, 8, 8]⟩

def str_1 : ByteArray := ⟨#[0, 1, 1, 2, 1, 2, 2, 3, 1, 2, 2, 3, 2, 3, 3, 4, 1, 2, 2, 3, 2, 3, 3, 4, 2, 3, 3, 4, 3, 4, 4, 5, 1, 2, 2, 3, 2, 3, 3, 4, 2, 3, 3, 4, 3, 4, 4, 5, 2, 3, 3, 4, 3, 4, 4, 5, 3, 4, 4, 5, 4, 5, 5, 6, 1, 2, 2, 3, 2, 3, 3, 4, 2, 3, 3, 4, 3, 4, 4, 5, 2, 3, 3, 4, 3, 4, 4, 5, 3, 4, 4, 5, 4, 5, 5, 6, 2, 3, 3, 4, 3, 4, 4, 5, 3, 4, 4, 5, 4, 5, 5, 6, 3, 4, 4, 5, 4, 5, 5, 6, 4, 5, 5, 6, 5, 6, 6, 7, 1, 2, 2, 3, 2, 3, 3, 4, 2, 3, 3, 4, 3, 4, 4, 5, 2, 3, 3, 4, 3, 4, 4, 5, 3, 4, 4, 5, 4, 5, 5, 6, 2, 3, 3, 4, 3, 4, 4, 5, 3, 4, 4, 5, 4, 5, 5, 6, 3, 4, 4, 5, 4, 5, 5, 6, 4, 5, 5, 6, 5, 6, 6, 7, 2, 3, 3, 4, 3, 4, 4, 5, 3, 4, 4, 5, 4, 5, 5, 6, 3, 4, 4, 5, 4, 5, 5, 6, 4, 5, 5, 6, 5, 6, 6, 7, 3, 4, 4, 5, 4, 5, 5, 6, 4, 5, 5, 6, 5, 6, 6, 7, 4, 5, 5, 6, 5, 6, 6, 7, 5, 6, 6, 7, 6, 7, 7, 8]⟩

structure g_merkle_part where
  size_ : Int
  root_ : UInt64 × UInt64

instance : GoT g_merkle_part where
  sz := GoT.sz (Int × (UInt64 × UInt64))
  rep m cs x := GoT.rep (α := Int × (UInt64 × UInt64)) m cs (x.size_, x.root_)
  len h := GoT.len (α := Int × (UInt64 × UInt64)) h
  up l h := GoT.up (α := Int × (UInt64 × UInt64)) l h
  one h := GoT.one (α := Int × (UInt64 × UInt64)) h

instance : Inhabited g_merkle_part := ⟨⟨default, default⟩⟩

theorem rep_arr2_UInt64 {m : Mem} {cs : List Value} {x : UInt64 × UInt64} (h : GoT.rep m cs x) : cs = [vU x.1, vU x.2] := by
  obtain ⟨_, _, rfl, rfl, rfl⟩ := h
  exact rfl

theorem mk_arr2_UInt64 {m : Mem} {x : UInt64 × UInt64} : GoT.rep m [vU x.1, vU x.2] x := ⟨[vU x.1], [vU x.2], rfl, rfl, rfl⟩

theorem rep_g_merkle_part {m : Mem} {cs : List Value} {x : g_merkle_part} (h : GoT.rep m cs x) : cs = [vI x.size_, vU x.root_.1, vU x.root_.2] := by
  obtain ⟨_, _, rfl, rfl, ⟨_, _, rfl, rfl, rfl⟩⟩ := h
  exact rfl

theorem mk_g_merkle_part {m : Mem} {x : g_merkle_part} : GoT.rep m [vI x.size_, vU x.root_.1, vU x.root_.2] x := ⟨[vI x.size_], [vU x.root_.1, vU x.root_.2], rfl, rfl, ⟨[vU x.root_.1], [vU x.root_.2], rfl, rfl, rfl⟩⟩

theorem mixed : Tryd.prog.follows .mixedOrders = true := rfl

end Go.Proofs.YtohipjalgccmnaaDoor
