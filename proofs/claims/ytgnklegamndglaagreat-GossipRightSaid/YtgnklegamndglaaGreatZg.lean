/- Types and what lies where, by the executor, written by program. Conditions: none. -/
import Derived.Test.YtgnklegamndglaaGreatZe
import Derived.Test.YtgnklegamndglaaGreatZf
set_option linter.unusedSimpArgs false
set_option linter.unusedVariables false
set_option maxHeartbeats 20000000
set_option maxRecDepth 100000
namespace Go.Proofs.YtgnklegamndglaaGreat
open Go Go.Gw Go.Ax Tryz
def str_0 : ByteArray := ⟨#[0, 1, 2, 2, 3, 3, 3, 3, 4, 4, 4, 4, 4, 4, 4, 4, 5, 5, 5, 5, 5, 5, 5, 5, 5, 5, 5, 5, 5, 5, 5, 5, 6, 6, 6, 6, 6, 6, 6, 6, 6, 6, 6, 6, 6, 6, 6, 6, 6, 6, 6, 6, 6, 6, 6, 6, 6, 6, 6, 6, 6, 6, 6, 6, 7, 7, 7, 7, 7, 7, 7, 7, 7, 7, 7, 7, 7, 7, 7, 7, 7, 7, 7, 7, 7, 7, 7, 7, 7, 7, 7, 7, 7, 7, 7, 7, 7, 7, 7, 7, 7, 7, 7, 7, 7, 7, 7, 7, 7, 7, 7, 7, 7, 7, 7, 7, 7, 7, 7, 7, 7, 7, 7, 7, 7, 7, 7, 7, 8, 8, 8, 8, 8, 8, 8, 8, 8, 8, 8, 8, 8, 8, 8, 8, 8, 8, 8, 8, 8, 8, 8, 8, 8, 8, 8, 8, 8, 8, 8, 8, 8, 8, 8, 8, 8, 8, 8, 8, 8, 8, 8, 8, 8, 8, 8, 8, 8, 8, 8, 8, 8, 8, 8, 8, 8, 8, 8, 8, 8, 8, 8, 8, 8, 8, 8, 8, 8, 8, 8, 8, 8, 8, 8, 8, 8, 8, 8, 8, 8, 8, 8, 8, 8, 8, 8, 8, 8, 8, 8, 8, 8, 8, 8, 8, 8, 8, 8, 8, 8, 8, 8, 8, 8, 8, 8, 8, 8, 8, 8, 8, 8, 8, 8, 8, 8, 8, 8, 8, 8, 8, 8, 8, 8, 8, 8, 8]⟩
structure g_api_Sig where
  E : UInt64
  S : UInt64
instance : GoT g_api_Sig where
  sz := GoT.sz (UInt64 × UInt64)
  rep m cs x := GoT.rep (α := UInt64 × UInt64) m cs (x.E, x.S)
  len h := GoT.len (α := UInt64 × UInt64) h
  up l h := GoT.up (α := UInt64 × UInt64) l h
  one h := GoT.one (α := UInt64 × UInt64) h
instance : Inhabited g_api_Sig := ⟨⟨default, default⟩⟩
structure g_api_Key where
  Log : Int
  Key : UInt64
  Delay : Int
instance : GoT g_api_Key where
  sz := GoT.sz (Int × UInt64 × Int)
  rep m cs x := GoT.rep (α := Int × UInt64 × Int) m cs (x.Log, x.Key, x.Delay)
  len h := GoT.len (α := Int × UInt64 × Int) h
  up l h := GoT.up (α := Int × UInt64 × Int) l h
  one h := GoT.one (α := Int × UInt64 × Int) h
instance : Inhabited g_api_Key := ⟨⟨default, default, default⟩⟩
structure g_api_Head where
  Log : Int
  Size : Int
  Root : UInt64 × UInt64
  At : Int
  Sig : g_api_Sig
instance : GoT g_api_Head where
  sz := GoT.sz (Int × Int × (UInt64 × UInt64) × Int × g_api_Sig)
  rep m cs x := GoT.rep (α := Int × Int × (UInt64 × UInt64) × Int × g_api_Sig) m cs (x.Log, x.Size, x.Root, x.At, x.Sig)
  len h := GoT.len (α := Int × Int × (UInt64 × UInt64) × Int × g_api_Sig) h
  up l h := GoT.up (α := Int × Int × (UInt64 × UInt64) × Int × g_api_Sig) l h
  one h := GoT.one (α := Int × Int × (UInt64 × UInt64) × Int × g_api_Sig) h
instance : Inhabited g_api_Head := ⟨⟨default, default, default, default, default⟩⟩
structure g_api_Pool where
  L : List g_api_Head
instance : GoT g_api_Pool where
  sz := GoT.sz ((List g_api_Head))
  rep m cs x := GoT.rep (α := (List g_api_Head)) m cs x.L
  len h := GoT.len (α := (List g_api_Head)) h
  up l h := GoT.up (α := (List g_api_Head)) l h
  one h := GoT.one (α := (List g_api_Head)) h
instance : Inhabited g_api_Pool := ⟨⟨default⟩⟩
structure g_api_Leaf where
  Body : List UInt8
  At : Int
instance : GoT g_api_Leaf where
  sz := GoT.sz ((List UInt8) × Int)
  rep m cs x := GoT.rep (α := (List UInt8) × Int) m cs (x.Body, x.At)
  len h := GoT.len (α := (List UInt8) × Int) h
  up l h := GoT.up (α := (List UInt8) × Int) l h
  one h := GoT.one (α := (List UInt8) × Int) h
instance : Inhabited g_api_Leaf := ⟨⟨default, default⟩⟩
structure g_api_Log where
  Id : Int
  Key : UInt64
  Delay : Int
  L : List g_api_Leaf
  Hide : List Int
  Wait : List g_api_Leaf
instance : GoT g_api_Log where
  sz := GoT.sz (Int × UInt64 × Int × (List g_api_Leaf) × (List Int) × (List g_api_Leaf))
  rep m cs x := GoT.rep (α := Int × UInt64 × Int × (List g_api_Leaf) × (List Int) × (List g_api_Leaf)) m cs (x.Id, x.Key, x.Delay, x.L, x.Hide, x.Wait)
  len h := GoT.len (α := Int × UInt64 × Int × (List g_api_Leaf) × (List Int) × (List g_api_Leaf)) h
  up l h := GoT.up (α := Int × UInt64 × Int × (List g_api_Leaf) × (List Int) × (List g_api_Leaf)) l h
  one h := GoT.one (α := Int × UInt64 × Int × (List g_api_Leaf) × (List Int) × (List g_api_Leaf)) h
instance : Inhabited g_api_Log := ⟨⟨default, default, default, default, default, default⟩⟩
structure g_merkle_part where
  size_ : Int
  root_ : UInt64 × UInt64
instance : GoT g_merkle_part where
  sz := GoT.sz (Int × (UInt64 × UInt64))
  rep m cs x := GoT.rep (α := Int × (UInt64 × UInt64)) m cs (x.size_, x.root_)
  len h := GoT.len (α := Int × (UInt64 × UInt64)) h
  up l h := GoT.up (α := Int × (UInt64 × UInt64)) l h
  one h := GoT.one (α := Int × (UInt64 × UInt64)) h
instance : Inhabited g_merkle_part := ⟨⟨default, default⟩⟩
theorem rep_g_api_Log {m : Mem} {cs : List Value} {x : g_api_Log} (h : GoT.rep m cs x) : ∃ v1, ∃ v2, ∃ v3, cs = [vI x.Id, vU x.Key, vI x.Delay, v1, v2, v3] ∧ SlR m v1 x.L ∧ SlR m v2 x.Hide ∧ SlR m v3 x.Wait := by
  obtain ⟨_, _, rfl, rfl, ⟨_, _, rfl, rfl, ⟨_, _, rfl, rfl, ⟨_, _, rfl, ⟨v1, rfl, h1⟩, ⟨_, _, rfl, ⟨v2, rfl, h2⟩, ⟨v3, rfl, h3⟩⟩⟩⟩⟩⟩ := h
  exact ⟨v1, v2, v3, rfl, h1, h2, h3⟩
theorem mk_g_api_Log {m : Mem} {x : g_api_Log} {v1 : Value} {v2 : Value} {v3 : Value} (h1 : SlR m v1 x.L) (h2 : SlR m v2 x.Hide) (h3 : SlR m v3 x.Wait) : GoT.rep m [vI x.Id, vU x.Key, vI x.Delay, v1, v2, v3] x := ⟨[vI x.Id], [vU x.Key, vI x.Delay, v1, v2, v3], rfl, rfl, ⟨[vU x.Key], [vI x.Delay, v1, v2, v3], rfl, rfl, ⟨[vI x.Delay], [v1, v2, v3], rfl, rfl, ⟨[v1], [v2, v3], rfl, ⟨_, rfl, h1⟩, ⟨[v2], [v3], rfl, ⟨_, rfl, h2⟩, ⟨_, rfl, h3⟩⟩⟩⟩⟩⟩
theorem rep_g_merkle_part {m : Mem} {cs : List Value} {x : g_merkle_part} (h : GoT.rep m cs x) : cs = [vI x.size_, vU x.root_.1, vU x.root_.2] := by
  obtain ⟨_, _, rfl, rfl, ⟨_, _, rfl, rfl, rfl⟩⟩ := h
  exact rfl
theorem mk_g_merkle_part {m : Mem} {x : g_merkle_part} : GoT.rep m [vI x.size_, vU x.root_.1, vU x.root_.2] x := ⟨[vI x.size_], [vU x.root_.1, vU x.root_.2], rfl, rfl, ⟨[vU x.root_.1], [vU x.root_.2], rfl, rfl, rfl⟩⟩
theorem rep_arr2_UInt64 {m : Mem} {cs : List Value} {x : UInt64 × UInt64} (h : GoT.rep m cs x) : cs = [vU x.1, vU x.2] := by
  obtain ⟨_, _, rfl, rfl, rfl⟩ := h
  exact rfl
theorem mk_arr2_UInt64 {m : Mem} {x : UInt64 × UInt64} : GoT.rep m [vU x.1, vU x.2] x := ⟨[vU x.1], [vU x.2], rfl, rfl, rfl⟩
theorem rep_arr2_Int {m : Mem} {cs : List Value} {x : Int × Int} (h : GoT.rep m cs x) : cs = [vI x.1, vI x.2] := by
  obtain ⟨_, _, rfl, rfl, rfl⟩ := h
  exact rfl
theorem mk_arr2_Int {m : Mem} {x : Int × Int} : GoT.rep m [vI x.1, vI x.2] x := ⟨[vI x.1], [vI x.2], rfl, rfl, rfl⟩
theorem rep_arr3_UInt64 {m : Mem} {cs : List Value} {x : UInt64 × UInt64 × UInt64} (h : GoT.rep m cs x) : cs = [vU x.1, vU x.2.1, vU x.2.2] := by
  obtain ⟨_, _, rfl, rfl, ⟨_, _, rfl, rfl, rfl⟩⟩ := h
  exact rfl
theorem mk_arr3_UInt64 {m : Mem} {x : UInt64 × UInt64 × UInt64} : GoT.rep m [vU x.1, vU x.2.1, vU x.2.2] x := ⟨[vU x.1], [vU x.2.1, vU x.2.2], rfl, rfl, ⟨[vU x.2.1], [vU x.2.2], rfl, rfl, rfl⟩⟩
theorem rep_g_api_Head {m : Mem} {cs : List Value} {x : g_api_Head} (h : GoT.rep m cs x) : cs = [vI x.Log, vI x.Size, vU x.Root.1, vU x.Root.2, vI x.At, vU x.Sig.E, vU x.Sig.S] := by
  obtain ⟨_, _, rfl, rfl, ⟨_, _, rfl, rfl, ⟨_, _, rfl, ⟨_, _, rfl, rfl, rfl⟩, ⟨_, _, rfl, rfl, ⟨_, _, rfl, rfl, rfl⟩⟩⟩⟩⟩ := h
  exact rfl
theorem mk_g_api_Head {m : Mem} {x : g_api_Head} : GoT.rep m [vI x.Log, vI x.Size, vU x.Root.1, vU x.Root.2, vI x.At, vU x.Sig.E, vU x.Sig.S] x := ⟨[vI x.Log], [vI x.Size, vU x.Root.1, vU x.Root.2, vI x.At, vU x.Sig.E, vU x.Sig.S], rfl, rfl, ⟨[vI x.Size], [vU x.Root.1, vU x.Root.2, vI x.At, vU x.Sig.E, vU x.Sig.S], rfl, rfl, ⟨[vU x.Root.1, vU x.Root.2], [vI x.At, vU x.Sig.E, vU x.Sig.S], rfl, ⟨[vU x.Root.1], [vU x.Root.2], rfl, rfl, rfl⟩, ⟨[vI x.At], [vU x.Sig.E, vU x.Sig.S], rfl, rfl, ⟨[vU x.Sig.E], [vU x.Sig.S], rfl, rfl, rfl⟩⟩⟩⟩⟩
theorem rep_g_api_Pool {m : Mem} {cs : List Value} {x : g_api_Pool} (h : GoT.rep m cs x) : ∃ v1, cs = [v1] ∧ SlR m v1 x.L := by
  obtain ⟨v1, rfl, h1⟩ := h
  exact ⟨v1, rfl, h1⟩
theorem mk_g_api_Pool {m : Mem} {x : g_api_Pool} {v1 : Value} (h1 : SlR m v1 x.L) : GoT.rep m [v1] x := ⟨_, rfl, h1⟩
theorem rep_g_api_Key {m : Mem} {cs : List Value} {x : g_api_Key} (h : GoT.rep m cs x) : cs = [vI x.Log, vU x.Key, vI x.Delay] := by
  obtain ⟨_, _, rfl, rfl, ⟨_, _, rfl, rfl, rfl⟩⟩ := h
  exact rfl
theorem mk_g_api_Key {m : Mem} {x : g_api_Key} : GoT.rep m [vI x.Log, vU x.Key, vI x.Delay] x := ⟨[vI x.Log], [vU x.Key, vI x.Delay], rfl, rfl, ⟨[vU x.Key], [vI x.Delay], rfl, rfl, rfl⟩⟩
theorem rep_g_api_Leaf {m : Mem} {cs : List Value} {x : g_api_Leaf} (h : GoT.rep m cs x) : ∃ v1, cs = [v1, vI x.At] ∧ SlR m v1 x.Body := by
  obtain ⟨_, _, rfl, ⟨v1, rfl, h1⟩, rfl⟩ := h
  exact ⟨v1, rfl, h1⟩
theorem mk_g_api_Leaf {m : Mem} {x : g_api_Leaf} {v1 : Value} (h1 : SlR m v1 x.Body) : GoT.rep m [v1, vI x.At] x := ⟨[v1], [vI x.At], rfl, ⟨_, rfl, h1⟩, rfl⟩
def eq_api_Sig (p q : g_api_Sig) : Bool := [(p.E == q.E), (p.S == q.S)].all id
theorem eqv_api_Sig {p q : g_api_Sig} : EqV Tryz.prog 2 29 (.agg ([vU p.E, vU p.S] : List Value).toArray) (.agg ([vU q.E, vU q.S] : List Value).toArray) (eq_api_Sig p q) :=
  EqV.struct (k := 1) (cs := [vU p.E, vU p.S]) (ds := [vU q.E, vU q.S]) (bs := [(p.E == q.E), (p.S == q.S)]) Tryz.underlying29 (by kernel_rfl) ⟨⟨by decide, _, _, fd1 Tryz.isAgg25 Tryz.sizeOf25 rfl, fd1 Tryz.isAgg25 Tryz.sizeOf25 rfl, EqV.mono (EqV.u64 Tryz.underlying25) (by decide)⟩, ⟨⟨by decide, _, _, fd1 Tryz.isAgg25 Tryz.sizeOf25 rfl, fd1 Tryz.isAgg25 Tryz.sizeOf25 rfl, EqV.mono (EqV.u64 Tryz.underlying25) (by decide)⟩, trivial⟩⟩
def eq_api_Head (p q : g_api_Head) : Bool := [(p.Log == q.Log), (p.Size == q.Size), (eqSum p.Root q.Root), (p.At == q.At), (eq_api_Sig p.Sig q.Sig)].all id
theorem eqv_api_Head {p q : g_api_Head} : EqV Tryz.prog 3 31 (.agg ([vI p.Log, vI p.Size, vU p.Root.1, vU p.Root.2, vI p.At, vU p.Sig.E, vU p.Sig.S] : List Value).toArray) (.agg ([vI q.Log, vI q.Size, vU q.Root.1, vU q.Root.2, vI q.At, vU q.Sig.E, vU q.Sig.S] : List Value).toArray) (eq_api_Head p q) :=
  EqV.struct (k := 2) (cs := [vI p.Log, vI p.Size, vU p.Root.1, vU p.Root.2, vI p.At, vU p.Sig.E, vU p.Sig.S]) (ds := [vI q.Log, vI q.Size, vU q.Root.1, vU q.Root.2, vI q.At, vU q.Sig.E, vU q.Sig.S]) (bs := [(p.Log == q.Log), (p.Size == q.Size), (eqSum p.Root q.Root), (p.At == q.At), (eq_api_Sig p.Sig q.Sig)]) Tryz.underlying31 (by kernel_rfl) ⟨⟨by decide, _, _, fd1 Tryz.isAgg3 Tryz.sizeOf3 rfl, fd1 Tryz.isAgg3 Tryz.sizeOf3 rfl, EqV.mono (EqV.int Tryz.underlying3) (by decide)⟩, ⟨⟨by decide, _, _, fd1 Tryz.isAgg3 Tryz.sizeOf3 rfl, fd1 Tryz.isAgg3 Tryz.sizeOf3 rfl, EqV.mono (EqV.int Tryz.underlying3) (by decide)⟩, ⟨⟨by decide, _, _, fdA Tryz.isAgg27 Tryz.sizeOf27 rfl rfl, fdA Tryz.isAgg27 Tryz.sizeOf27 rfl rfl, EqV.mono (EqV.sum Tryz.underlying27 Tryz.underlying25 Tryz.sizeOf25 Tryz.isAgg25) (by decide)⟩, ⟨⟨by decide, _, _, fd1 Tryz.isAgg3 Tryz.sizeOf3 rfl, fd1 Tryz.isAgg3 Tryz.sizeOf3 rfl, EqV.mono (EqV.int Tryz.underlying3) (by decide)⟩, ⟨⟨by decide, _, _, fdA Tryz.isAgg29 Tryz.sizeOf29 rfl rfl, fdA Tryz.isAgg29 Tryz.sizeOf29 rfl rfl, EqV.mono (eqv_api_Sig) (by decide)⟩, trivial⟩⟩⟩⟩⟩
def e_a2_eU (a : UInt64 × UInt64) : List D := [.u a.1, .u a.2]
def e_api_Sig (a : g_api_Sig) : List D := [.u a.E, .u a.S]
def e_api_Key (a : g_api_Key) : List D := [.i a.Log, .u a.Key, .i a.Delay]
def e_api_Head (a : g_api_Head) : List D := [.i a.Log, .i a.Size, .u a.Root.1, .u a.Root.2, .i a.At, .u a.Sig.E, .u a.Sig.S]
def e_api_Pool (a : g_api_Pool) : List D := [.sl _ e_api_Head a.L]
def e_a2_eI (a : Int × Int) : List D := [.i a.1, .i a.2]
def e_api_Leaf (a : g_api_Leaf) : List D := [.sl _ eB a.Body, .i a.At]
def e_api_Log (a : g_api_Log) : List D := [.i a.Id, .u a.Key, .i a.Delay, .sl _ e_api_Leaf a.L, .sl _ eI a.Hide, .sl _ e_api_Leaf a.Wait]
def e_a3_eU (a : UInt64 × UInt64 × UInt64) : List D := [.u a.1, .u a.2.1, .u a.2.2]
theorem b_a2_eU : Br (UInt64 × UInt64) e_a2_eU := Br.mk' (Br.pair Br.u Br.u) e_a2_eU (fun x => x) (fun _ _ _ => rfl) (fun _ => rfl) rfl
theorem b_api_Sig : Br g_api_Sig e_api_Sig := Br.mk' (Br.pair Br.u Br.u) e_api_Sig (fun x => (x.E, x.S)) (fun _ _ _ => rfl) (fun _ => rfl) rfl
theorem b_api_Head : Br g_api_Head e_api_Head := Br.mk' (Br.pair Br.i (Br.pair Br.i (Br.pair b_a2_eU (Br.pair Br.i b_api_Sig)))) e_api_Head (fun x => (x.Log, x.Size, x.Root, x.At, x.Sig)) (fun _ _ _ => rfl) (fun _ => rfl) rfl
theorem b_api_Pool : Br g_api_Pool e_api_Pool := Br.mk' (Br.sl b_api_Head) e_api_Pool (fun x => x.L) (fun _ _ _ => rfl) (fun _ => rfl) rfl
theorem b_api_Key : Br g_api_Key e_api_Key := Br.mk' (Br.pair Br.i (Br.pair Br.u Br.i)) e_api_Key (fun x => (x.Log, x.Key, x.Delay)) (fun _ _ _ => rfl) (fun _ => rfl) rfl
theorem b_api_Leaf : Br g_api_Leaf e_api_Leaf := Br.mk' (Br.pair (Br.sl Br.b) Br.i) e_api_Leaf (fun x => (x.Body, x.At)) (fun _ _ _ => rfl) (fun _ => rfl) rfl
theorem b_api_Log : Br g_api_Log e_api_Log := Br.mk' (Br.pair Br.i (Br.pair Br.u (Br.pair Br.i (Br.pair (Br.sl b_api_Leaf) (Br.pair (Br.sl Br.i) (Br.sl b_api_Leaf)))))) e_api_Log (fun x => (x.Id, x.Key, x.Delay, x.L, x.Hide, x.Wait)) (fun _ _ _ => rfl) (fun _ => rfl) rfl
theorem b_a3_eU : Br (UInt64 × UInt64 × UInt64) e_a3_eU := Br.mk' (Br.pair Br.u (Br.pair Br.u Br.u)) e_a3_eU (fun x => x) (fun _ _ _ => rfl) (fun _ => rfl) rfl
abbrev c_api_Sig (x : g_api_Sig) : List Value := [vU x.E, vU x.S]
abbrev z_api_Sig : List Value := [vU 0, vU 0]
abbrev c_api_Key (x : g_api_Key) : List Value := [vI x.Log, vU x.Key, vI x.Delay]
abbrev z_api_Key : List Value := [vI 0, vU 0, vI 0]
abbrev c_api_Head (x : g_api_Head) : List Value := [vI x.Log, vI x.Size, vU x.Root.1, vU x.Root.2, vI x.At, vU x.Sig.E, vU x.Sig.S]
abbrev z_api_Head : List Value := [vI 0, vI 0, vU 0, vU 0, vI 0, vU 0, vU 0]
abbrev c_api_Leaf (x : g_api_Leaf) (v1 : Value) : List Value := [v1, vI x.At]
abbrev z_api_Leaf : List Value := [.slice none 0 0, vI 0]
abbrev c_api_Log (x : g_api_Log) (v1 : Value) (v2 : Value) (v3 : Value) : List Value := [vI x.Id, vU x.Key, vI x.Delay, v1, v2, v3]
abbrev z_api_Log : List Value := [vI 0, vU 0, vI 0, .slice none 0 0, .slice none 0 0, .slice none 0 0]
abbrev c_merkle_part (x : g_merkle_part) : List Value := [vI x.size_, vU x.root_.1, vU x.root_.2]
abbrev z_merkle_part : List Value := [vI 0, vU 0, vU 0]
theorem mixed0 : True := trivial
end Go.Proofs.YtgnklegamndglaaGreat
