/- The walks of some functions, written by program. Conditions: none. -/
import Derived.Test.YtemiampgjgenhaaGreatDoorProg
import Derived.Test.YtemiampgjgenhaaGreatDoorGwK
set_option maxHeartbeats 20000000
set_option maxRecDepth 100000
set_option linter.unusedVariables false
set_option linter.unusedSimpArgs false
namespace Go.Proofs.YtemiampgjgenhaaGreatDoor
open Go Go.Gw

def tab_0 : List UInt8 := [0, 1, 28, 2, 29, 14, 24, 3, 30, 22, 20, 15, 25, 17, 4, 8, 31, 27, 13, 23, 21, 19, 16, 7, 26, 12, 18, 6, 11, 5, 10, 9]

def tab_1 : List UInt8 := [0, 1, 56, 2, 57, 49, 28, 3, 61, 58, 42, 50, 38, 29, 17, 4, 62, 47, 59, 36, 45, 43, 51, 22, 53, 39, 33, 30, 24, 18, 12, 5, 63, 55, 48, 27, 60, 41, 37, 16, 46, 35, 44, 21, 52, 32, 23, 11, 54, 26, 40, 15, 34, 20, 31, 10, 25, 14, 19, 9, 13, 8, 7, 6]

def str_0 : ByteArray := ⟨#[0, 1, 2, 2, 3, 3, 3, 3, 4, 4, 4, 4, 4, 4, 4, 4, 5, 5, 5, 5, 5, 5, 5, 5, 5, 5, 5, 5, 5, 5, 5, 5, 6, 6, 6, 6, 6, 6, 6, 6, 6, 6, 6, 6, 6, 6, 6, 6, 6, 6, 6, 6, 6, 6, 6, 6, 6, 6, 6, 6, 6, 6, 6, 6, 7, 7, 7, 7, 7, 7, 7, 7, 7, 7, 7, 7, 7, 7, 7, 7, 7, 7, 7, 7, 7, 7, 7, 7, 7, 7, 7, 7, 7, 7, 7, 7, 7, 7, 7, 7, 7, 7, 7, 7, 7, 7, 7, 7, 7, 7, 7, 7, 7, 7, 7, 7, 7, 7, 7, 7, 7, 7, 7, 7, 7, 7, 7, 7, 8, 8, 8, 8, 8, 8, 8, 8, 8, 8, 8, 8, 8, 8, 8, 8, 8, 8, 8, 8, 8, 8, 8, 8, 8, 8, 8, 8, 8, 8, 8, 8, 8, 8, 8, 8, 8, 8, 8, 8, 8, 8, 8, 8, 8, 8, 8, 8, 8, 8, 8, 8, 8, 8, 8, 8, 8, 8, 8, 8, 8, 8, 8, 8, 8, 8, 8, 8, 8, 8, 8, 8, 8, 8, 8, 8, 8, 8, 8, 8, 8, 8, 8, 8, 8, 8, 8, 8, 8, 8, 8, 8, 8, 8, 8, 8, 8, 8, 8, 8, 8, 8, 8, 8, 8, 8, 8, 8, 8, 8, 8, 8, 8, 8, 8, 8, 8, 8, 8, 8, 8, 8, 8, 8, 8, 8, 8, 8]⟩

def str_1 : ByteArray := ⟨#[0, 1, 1, 2, 1, 2, 2, 3, 1, 2, 2, 3, 2, 3, 3, 4, 1, 2, 2, 3, 2, 3, 3, 4, 2, 3, 3, 4, 3, 4, 4, 5, 1, 2, 2, 3, 2, 3, 3, 4, 2, 3, 3, 4, 3, 4, 4, 5, 2, 3, 3, 4, 3, 4, 4, 5, 3, 4, 4, 5, 4, 5, 5, 6, 1, 2, 2, 3, 2, 3, 3, 4, 2, 3, 3, 4, 3, 4, 4, 5, 2, 3, 3, 4, 3, 4, 4, 5, 3, 4, 4, 5, 4, 5, 5, 6, 2, 3, 3, 4, 3, 4, 4, 5, 3, 4, 4, 5, 4, 5, 5, 6, 3, 4, 4, 5, 4, 5, 5, 6, 4, 5, 5, 6, 5, 6, 6, 7, 1, 2, 2, 3, 2, 3, 3, 4, 2, 3, 3, 4, 3, 4, 4, 5, 2, 3, 3, 4, 3, 4, 4, 5, 3, 4, 4, 5, 4, 5, 5, 6, 2, 3, 3, 4, 3, 4, 4, 5, 3, 4, 4, 5, 4, 5, 5, 6, 3, 4, 4, 5, 4, 5, 5, 6, 4, 5, 5, 6, 5, 6, 6, 7, 2, 3, 3, 4, 3, 4, 4, 5, 3, 4, 4, 5, 4, 5, 5, 6, 3, 4, 4, 5, 4, 5, 5, 6, 4, 5, 5, 6, 5, 6, 6, 7, 3, 4, 4, 5, 4, 5, 5, 6, 4, 5, 5, 6, 5, 6, 6, 7, 4, 5, 5, 6, 5, 6, 6, 7, 5, 6, 6, 7, 6, 7, 7, 8]⟩

structure g_api_Leaf where
  Body : List UInt8
  At : Int

instance : GoT g_api_Leaf where
  sz := GoT.sz ((List UInt8) × Int)
  rep m cs x := GoT.rep (α := (List UInt8) × Int) m cs (x.Body, x.At)
  len h := GoT.len (α := (List UInt8) × Int) h
  up l h := GoT.up (α := (List UInt8) × Int) l h
  one h := GoT.one (α := (List UInt8) × Int) h

instance : Inhabited g_api_Leaf := ⟨⟨default, default⟩⟩

structure g_api_Log where
  Id : Int
  Key : UInt64
  Delay : Int
  L : List g_api_Leaf
  Hide : List Int
  Wait : List g_api_Leaf

instance : GoT g_api_Log where
  sz := GoT.sz (Int × UInt64 × Int × (List g_api_Leaf) × (List Int) × (List g_api_Leaf))
  rep m cs x := GoT.rep (α := Int × UInt64 × Int × (List g_api_Leaf) × (List Int) × (List g_api_Leaf)) m cs (x.Id, x.Key, x.Delay, x.L, x.Hide, x.Wait)
  len h := GoT.len (α := Int × UInt64 × Int × (List g_api_Leaf) × (List Int) × (List g_api_Leaf)) h
  up l h := GoT.up (α := Int × UInt64 × Int × (List g_api_Leaf) × (List Int) × (List g_api_Leaf)) l h
  one h := GoT.one (α := Int × UInt64 × Int × (List g_api_Leaf) × (List Int) × (List g_api_Leaf)) h

instance : Inhabited g_api_Log := ⟨⟨default, default, default, default, default, default⟩⟩

structure g_api_Key where
  Log : Int
  Key : UInt64
  Delay : Int

instance : GoT g_api_Key where
  sz := GoT.sz (Int × UInt64 × Int)
  rep m cs x := GoT.rep (α := Int × UInt64 × Int) m cs (x.Log, x.Key, x.Delay)
  len h := GoT.len (α := Int × UInt64 × Int) h
  up l h := GoT.up (α := Int × UInt64 × Int) l h
  one h := GoT.one (α := Int × UInt64 × Int) h

instance : Inhabited g_api_Key := ⟨⟨default, default, default⟩⟩

structure g_merkle_part where
  size_ : Int
  root_ : UInt64 × UInt64

instance : GoT g_merkle_part where
  sz := GoT.sz (Int × (UInt64 × UInt64))
  rep m cs x := GoT.rep (α := Int × (UInt64 × UInt64)) m cs (x.size_, x.root_)
  len h := GoT.len (α := Int × (UInt64 × UInt64)) h
  up l h := GoT.up (α := Int × (UInt64 × UInt64)) l h
  one h := GoT.one (α := Int × (UInt64 × UInt64)) h

instance : Inhabited g_merkle_part := ⟨⟨default, default⟩⟩

structure g_api_Sig where
  E : UInt64
  S : UInt64

instance : GoT g_api_Sig where
  sz := GoT.sz (UInt64 × UInt64)
  rep m cs x := GoT.rep (α := UInt64 × UInt64) m cs (x.E, x.S)
  len h := GoT.len (α := UInt64 × UInt64) h
  up l h := GoT.up (α := UInt64 × UInt64) l h
  one h := GoT.one (α := UInt64 × UInt64) h

instance : Inhabited g_api_Sig := ⟨⟨default, default⟩⟩

structure g_api_Head where
  Log : Int
  Size : Int
  Root : UInt64 × UInt64
  At : Int
  Sig : g_api_Sig

instance : GoT g_api_Head where
  sz := GoT.sz (Int × Int × (UInt64 × UInt64) × Int × g_api_Sig)
  rep m cs x := GoT.rep (α := Int × Int × (UInt64 × UInt64) × Int × g_api_Sig) m cs (x.Log, x.Size, x.Root, x.At, x.Sig)
  len h := GoT.len (α := Int × Int × (UInt64 × UInt64) × Int × g_api_Sig) h
  up l h := GoT.up (α := Int × Int × (UInt64 × UInt64) × Int × g_api_Sig) l h
  one h := GoT.one (α := Int × Int × (UInt64 × UInt64) × Int × g_api_Sig) h

instance : Inhabited g_api_Head := ⟨⟨default, default, default, default, default⟩⟩

structure g_api_Promise where
  Log : Int
  At : Int
  Leaf : UInt64 × UInt64
  Sig : g_api_Sig

instance : GoT g_api_Promise where
  sz := GoT.sz (Int × Int × (UInt64 × UInt64) × g_api_Sig)
  rep m cs x := GoT.rep (α := Int × Int × (UInt64 × UInt64) × g_api_Sig) m cs (x.Log, x.At, x.Leaf, x.Sig)
  len h := GoT.len (α := Int × Int × (UInt64 × UInt64) × g_api_Sig) h
  up l h := GoT.up (α := Int × Int × (UInt64 × UInt64) × g_api_Sig) l h
  one h := GoT.one (α := Int × Int × (UInt64 × UInt64) × g_api_Sig) h

instance : Inhabited g_api_Promise := ⟨⟨default, default, default, default⟩⟩

structure g_api_Place where
  Log : Int
  At : Int
  Size : Int
  Proof : List (UInt64 × UInt64)

instance : GoT g_api_Place where
  sz := GoT.sz (Int × Int × Int × (List (UInt64 × UInt64)))
  rep m cs x := GoT.rep (α := Int × Int × Int × (List (UInt64 × UInt64))) m cs (x.Log, x.At, x.Size, x.Proof)
  len h := GoT.len (α := Int × Int × Int × (List (UInt64 × UInt64))) h
  up l h := GoT.up (α := Int × Int × Int × (List (UInt64 × UInt64))) l h
  one h := GoT.one (α := Int × Int × Int × (List (UInt64 × UInt64))) h

instance : Inhabited g_api_Place := ⟨⟨default, default, default, default⟩⟩

theorem rep_g_merkle_part {m : Mem} {cs : List Value} {x : g_merkle_part} (h : GoT.rep m cs x) : cs = [vI x.size_, vU x.root_.1, vU x.root_.2] := by
 obtain ⟨_, _, rfl, rfl, ⟨_, _, rfl, rfl, rfl⟩⟩ := h
 exact rfl

theorem mk_g_merkle_part {m : Mem} {x : g_merkle_part} : GoT.rep m [vI x.size_, vU x.root_.1, vU x.root_.2] x := ⟨[vI x.size_], [vU x.root_.1, vU x.root_.2], rfl, rfl, ⟨[vU x.root_.1], [vU x.root_.2], rfl, rfl, rfl⟩⟩

theorem rep_arr2_UInt64 {m : Mem} {cs : List Value} {x : UInt64 × UInt64} (h : GoT.rep m cs x) : cs = [vU x.1, vU x.2] := by
 obtain ⟨_, _, rfl, rfl, rfl⟩ := h
 exact rfl

theorem mk_arr2_UInt64 {m : Mem} {x : UInt64 × UInt64} : GoT.rep m [vU x.1, vU x.2] x := ⟨[vU x.1], [vU x.2], rfl, rfl, rfl⟩

theorem rep_g_api_Leaf {m : Mem} {cs : List Value} {x : g_api_Leaf} (h : GoT.rep m cs x) : ∃ v1, cs = [v1, vI x.At] ∧ SlR m v1 x.Body := by
 obtain ⟨_, _, rfl, ⟨v1, rfl, h1⟩, rfl⟩ := h
 exact ⟨v1, rfl, h1⟩

theorem mk_g_api_Leaf {m : Mem} {x : g_api_Leaf} {v1 : Value} (h1 : SlR m v1 x.Body) : GoT.rep m [v1, vI x.At] x := ⟨[v1], [vI x.At], rfl, ⟨_, rfl, h1⟩, rfl⟩

def eq_api_Sig (p q : g_api_Sig) : Bool := [(p.E == q.E), (p.S == q.S)].all id

theorem eqv_api_Sig {p q : g_api_Sig} : EqV Tryz.prog 2 38 (.agg ([vU p.E, vU p.S] : List Value).toArray) (.agg ([vU q.E, vU q.S] : List Value).toArray) (eq_api_Sig p q) :=
  EqV.struct (k := 1) (cs := [vU p.E, vU p.S]) (ds := [vU q.E, vU q.S]) (bs := [(p.E == q.E), (p.S == q.S)]) Tryz.underlying38 (by kernel_rfl) ⟨⟨by decide, _, _, fd1 Tryz.isAgg22 Tryz.sizeOf22 rfl, fd1 Tryz.isAgg22 Tryz.sizeOf22 rfl, EqV.mono (EqV.u64 Tryz.underlying22) (by decide)⟩, ⟨⟨by decide, _, _, fd1 Tryz.isAgg22 Tryz.sizeOf22 rfl, fd1 Tryz.isAgg22 Tryz.sizeOf22 rfl, EqV.mono (EqV.u64 Tryz.underlying22) (by decide)⟩, trivial⟩⟩

def eq_api_Head (p q : g_api_Head) : Bool := [(p.Log == q.Log), (p.Size == q.Size), (eqSum p.Root q.Root), (p.At == q.At), (eq_api_Sig p.Sig q.Sig)].all id

theorem eqv_api_Head {p q : g_api_Head} : EqV Tryz.prog 3 40 (.agg ([vI p.Log, vI p.Size, vU p.Root.1, vU p.Root.2, vI p.At, vU p.Sig.E, vU p.Sig.S] : List Value).toArray) (.agg ([vI q.Log, vI q.Size, vU q.Root.1, vU q.Root.2, vI q.At, vU q.Sig.E, vU q.Sig.S] : List Value).toArray) (eq_api_Head p q) :=
  EqV.struct (k := 2) (cs := [vI p.Log, vI p.Size, vU p.Root.1, vU p.Root.2, vI p.At, vU p.Sig.E, vU p.Sig.S]) (ds := [vI q.Log, vI q.Size, vU q.Root.1, vU q.Root.2, vI q.At, vU q.Sig.E, vU q.Sig.S]) (bs := [(p.Log == q.Log), (p.Size == q.Size), (eqSum p.Root q.Root), (p.At == q.At), (eq_api_Sig p.Sig q.Sig)]) Tryz.underlying40 (by kernel_rfl) ⟨⟨by decide, _, _, fd1 Tryz.isAgg3 Tryz.sizeOf3 rfl, fd1 Tryz.isAgg3 Tryz.sizeOf3 rfl, EqV.mono (EqV.int Tryz.underlying3) (by decide)⟩, ⟨⟨by decide, _, _, fd1 Tryz.isAgg3 Tryz.sizeOf3 rfl, fd1 Tryz.isAgg3 Tryz.sizeOf3 rfl, EqV.mono (EqV.int Tryz.underlying3) (by decide)⟩, ⟨⟨by decide, _, _, fdA Tryz.isAgg36 Tryz.sizeOf36 rfl rfl, fdA Tryz.isAgg36 Tryz.sizeOf36 rfl rfl, EqV.mono (EqV.sum Tryz.underlying36 Tryz.underlying22 Tryz.sizeOf22 Tryz.isAgg22) (by decide)⟩, ⟨⟨by decide, _, _, fd1 Tryz.isAgg3 Tryz.sizeOf3 rfl, fd1 Tryz.isAgg3 Tryz.sizeOf3 rfl, EqV.mono (EqV.int Tryz.underlying3) (by decide)⟩, ⟨⟨by decide, _, _, fdA Tryz.isAgg38 Tryz.sizeOf38 rfl rfl, fdA Tryz.isAgg38 Tryz.sizeOf38 rfl rfl, EqV.mono (eqv_api_Sig) (by decide)⟩, trivial⟩⟩⟩⟩⟩

abbrev c_api_Leaf (x : g_api_Leaf) (v1 : Value) : List Value := [v1, vI x.At]

abbrev z_api_Leaf : List Value := [.slice none 0 0, vI 0]

abbrev c_api_Log (x : g_api_Log) (v1 : Value) (v2 : Value) (v3 : Value) : List Value := [vI x.Id, vU x.Key, vI x.Delay, v1, v2, v3]

abbrev z_api_Log : List Value := [vI 0, vU 0, vI 0, .slice none 0 0, .slice none 0 0, .slice none 0 0]

abbrev c_api_Key (x : g_api_Key) : List Value := [vI x.Log, vU x.Key, vI x.Delay]

abbrev z_api_Key : List Value := [vI 0, vU 0, vI 0]

abbrev c_merkle_part (x : g_merkle_part) : List Value := [vI x.size_, vU x.root_.1, vU x.root_.2]

abbrev z_merkle_part : List Value := [vI 0, vU 0, vU 0]

abbrev c_api_Sig (x : g_api_Sig) : List Value := [vU x.E, vU x.S]

abbrev z_api_Sig : List Value := [vU 0, vU 0]

abbrev c_api_Head (x : g_api_Head) : List Value := [vI x.Log, vI x.Size, vU x.Root.1, vU x.Root.2, vI x.At, vU x.Sig.E, vU x.Sig.S]

abbrev z_api_Head : List Value := [vI 0, vI 0, vU 0, vU 0, vI 0, vU 0, vU 0]

abbrev c_api_Promise (x : g_api_Promise) : List Value := [vI x.Log, vI x.At, vU x.Leaf.1, vU x.Leaf.2, vU x.Sig.E, vU x.Sig.S]

abbrev z_api_Promise : List Value := [vI 0, vI 0, vU 0, vU 0, vU 0, vU 0]

abbrev c_api_Place (x : g_api_Place) (v1 : Value) : List Value := [vI x.Log, vI x.At, vI x.Size, v1]

abbrev z_api_Place : List Value := [vI 0, vI 0, vI 0, .slice none 0 0]

theorem mixed : Tryz.prog.follows .mixedOrders = true := rfl

end Go.Proofs.YtemiampgjgenhaaGreatDoor
