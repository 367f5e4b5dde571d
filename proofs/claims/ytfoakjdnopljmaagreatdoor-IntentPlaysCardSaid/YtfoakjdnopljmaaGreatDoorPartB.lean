/-
  Lemmas for this claim: CoreN, CoreO, CoreRow, CoreP, CoreQ, CoreR, CoreS, CoreT, CoreU, CoreV, CoreW, CoreX, CoreY, CoreZ, CoreRng, CoreAb, CoreSort.
-/
import Derived.Test.YtfoakjdnopljmaaGreatDoorPartA
import Derived.DeepKeys3
import Derived.ProofKit
import Derived.OpenShut
import Derived.LaidMore
import Derived.Lay
import Derived.SevenTiedAt
import Derived.Stop.Joined
import Derived.Lib.BytesEntry
import Derived.Laws.IdiomCopy
import Derived.Laws.AppendOwn
import Derived.Laws.MakeOwn
import Derived.MapKept
import Derived.Maps.RangeRun
import Derived.Shelf.SlSortCmp.NoneTotal
import Derived.Shelf.SortM.SortNone
import Derived.Shelf.SortM.Plain
import Derived.Shelf.SlicesG.CompactI
import Derived.Lib.RowBridge

set_option linter.unusedVariables false
set_option linter.unusedSimpArgs false
namespace Go.Proofs.YtfoakjdnopljmaaGreatDoor
open Go

/-! ### Operations that stand behind a test -/

/-- A value that is there just where a test came out so. -/
def gv (b : Bool) (v : Value) : Value := bif b then v else undef

theorem gv_true {b : Bool} {v : Value} (h : b = true) : gv b v = v := by subst h; rfl
theorem gt {l : Slots} {x : Operand} {b : Bool} {v : Value} (hb : b = true) (h : evL l x = some (gv b v)) : evL l x = some v := by rw [h, gv_true hb]

theorem andL {a b : Bool} (h : (a && b) = true) : a = true := by cases a <;> simp_all
theorem andR {a b : Bool} (h : (a && b) = true) : b = true := by cases a <;> simp_all
theorem notT {b : Bool} (h : (!b) = true) : b = false := by cases b <;> simp_all

/-- Whether an operation is carried out. -/
def Wants (ops : Array Oper) (l : Slots) (o : Oper) (b : Bool) : Prop := ∀ a : Act, SlotsOk l a → Region.wanted o (yielded ops a.tmps) = b

theorem Wants.yes {ops : Array Oper} {l : Slots} {o : Oper} {j t : Nat} {c : Bool} (ho : o.guard = some (j, true)) (hj : (ops[j]?).bind (·.dst) = some t) (h : look t l = some (.bool c)) : Wants ops l o c := fun a hs => by
  have hy : yielded ops a.tmps j = some c := by simp [yielded, hj, hs _ _ h]
  simp only [Region.wanted, ho, hy]
  cases c <;> rfl

theorem Wants.no {ops : Array Oper} {l : Slots} {o : Oper} {j t : Nat} {c : Bool} (ho : o.guard = some (j, false)) (hj : (ops[j]?).bind (·.dst) = some t) (h : look t l = some (.bool c)) : Wants ops l o (!c) := fun a hs => by
  have hy : yielded ops a.tmps j = some c := by simp [yielded, hj, hs _ _ h]
  simp only [Region.wanted, ho, hy]
  cases c <;> rfl

theorem yielded_gv {ops : Array Oper} {l : Slots} {j t : Nat} {p c : Bool} (hj : (ops[j]?).bind (·.dst) = some t) (h : look t l = some (gv p (.bool c))) {a : Act} (hs : SlotsOk l a) : yielded ops a.tmps j = if p then some c else none := by
  cases p <;> simp [yielded, hj, hs _ _ h, gv, undef]

theorem Wants.yesG {ops : Array Oper} {l : Slots} {o : Oper} {j t : Nat} {p c : Bool} (ho : o.guard = some (j, true)) (hj : (ops[j]?).bind (·.dst) = some t) (h : look t l = some (gv p (.bool c))) : Wants ops l o (p && c) := fun a hs => by
  simp only [Region.wanted, ho, yielded_gv hj h hs]
  cases p <;> cases c <;> rfl

theorem Wants.noG {ops : Array Oper} {l : Slots} {o : Oper} {j t : Nat} {p c : Bool} (ho : o.guard = some (j, false)) (hj : (ops[j]?).bind (·.dst) = some t) (h : look t l = some (gv p (.bool c))) : Wants ops l o (p && !c) := fun a hs => by
  simp only [Region.wanted, ho, yielded_gv hj h hs]
  cases p <;> cases c <;> rfl

section
variable {P : Program} {r : Option Nat} {Q : Post} {n : Nat} {l : Slots} {ds : List Nat} {G : Heap} {L : Locs} {ops : Array Oper} {o : Oper} {rest : List Oper}

theorem wpl_wants {R : Value → Heap → Locs → Prop} {b : Bool} (hw : Wants ops l o b) (h : b = true → GS P r o l G L R)
    (k : ∀ v G' L', (b = true → R v G' L') → (b = false → v = undef ∧ G' = G ∧ L' = L) → WPL P r ops rest Q ⟨n, putL o.dst v l, ds⟩ G' L') :
    WPL P r ops (o :: rest) Q ⟨n, l, ds⟩ G L := by
  intro hd wf a w he hh
  unfold wpListIn
  rw [hw a he.2.1]
  cases b with
  | true =>
    rw [if_pos rfl]
    refine ⟨fun _ _ => trivial, ?_⟩
    rw [(h rfl).sem wf he.2.1 hh]
    refine uponIn_mono (h rfl wf a w he.2.1 hh) ?_ (fun _ _ _ h => h.elim)
    rintro a' w' ⟨v, G', L', rfl, h2, h3, h4, h5⟩
    exact WPL.goOn (E1 := ⟨n, putL o.dst v l, ds⟩) (DstOk.tail hd) (k v G' L' (fun _ => h5) (fun h => by cases h)) (he.put o.dst v (hd o (List.mem_cons_self ..))) h2 h3 h4
  | false =>
    rw [if_neg (by simp)]
    exact ⟨fun _ _ => trivial, k undef G L (fun h => by cases h) (fun _ => ⟨rfl, rfl, rfl⟩) (DstOk.tail hd) wf _ w (he.put o.dst undef (hd o (List.mem_cons_self ..))) hh⟩

theorem WPL.psC {b : Bool} {v : Value} (hw : Wants ops l o b) (h : b = true → PS P o l G L v) (k : WPL P r ops rest Q ⟨n, putL o.dst (gv b v) l, ds⟩ G L) : WPL P r ops (o :: rest) Q ⟨n, l, ds⟩ G L :=
  wpl_wants hw (fun hb => (h hb).gs) fun u G' L' h1 h2 => by
    cases b with
    | true => obtain ⟨rfl, rfl, rfl⟩ := h1 rfl; exact k
    | false => obtain ⟨rfl, rfl, rfl⟩ := h2 rfl; exact k

/-- A call behind a test that leaves all as it was. -/
theorem WPL.callC {d : Option Tmp} {c : Operand} {args : Array Operand} {ats : Array TypeId} {ty : TypeId} {pos : String} {af : Array Edge} {g : Option (Nat × Bool)} {f : FuncId} {first caps vs : List Value} {v : Value} {b : Bool}
    (hw : Wants ops l ⟨d, .call ⟨.value c, args, ats⟩, ty, pos, af, g⟩ b)
    (hc : b = true → evL l c = some (.func (.func f) ⟨first⟩ ⟨caps⟩) ∧ evs l args.toList = some vs ∧ EvP P f (first ++ vs ++ caps) (ov G L) v) (K : WPL P r ops rest Q ⟨n, putL d (gv b v) l, ds⟩ G L) :
    WPL P r ops (⟨d, .call ⟨.value c, args, ats⟩, ty, pos, af, g⟩ :: rest) Q ⟨n, l, ds⟩ G L :=
  wpl_wants hw (fun hb => GS.callP (hc hb).1 (hc hb).2.1 fun _ => (hc hb).2.2) fun u G' L' h1 h2 => by
    cases b with
    | true => obtain ⟨rfl, rfl, rfl⟩ := h1 rfl; exact K
    | false => obtain ⟨rfl, rfl, rfl⟩ := h2 rfl; exact K

end

section
variable {P : Program} {r : Option Nat} {l : Slots} {G : Heap} {L : Locs} {d : Option Tmp} {ty : TypeId} {pos : String} {af : Array Edge} {g : Option (Nat × Bool)}

/-- 'a && b', 'a || b'. -/
theorem PS.pickAnd {c x y : Operand} {a b : Bool} (hc : evL l c = some (.bool a)) (hx : a = true → evL l x = some (.bool b)) (hy : evL l y = some (.bool false)) : PS P ⟨d, .pick c x y, ty, pos, af, g⟩ l G L (.bool (a && b)) :=
  PS.pick hc (by cases a with | true => simpa using hx rfl | false => simpa using hy)

theorem PS.pickOr {c x y : Operand} {a b : Bool} (hc : evL l c = some (.bool a)) (hx : evL l x = some (.bool true)) (hy : a = false → evL l y = some (.bool b)) : PS P ⟨d, .pick c x y, ty, pos, af, g⟩ l G L (.bool (a || b)) :=
  PS.pick hc (by cases a with | true => simpa using hx | false => simpa using hy rfl)

/-! ### Strings as lists of bytes -/

@[reducible] def str (s : List UInt8) : Value := .string ⟨⟨s⟩⟩
@[reducible] def u8 (c : UInt8) : Value := .int .u8 (c.toNat : Int)
@[reducible] def num (n : Nat) : Value := .int .i64 (n : Int)

theorem str_size (s : List UInt8) : (⟨⟨s⟩⟩ : ByteArray).size = s.length := rfl
theorem str_toList (s : List UInt8) : (⟨⟨s⟩⟩ : ByteArray).toList = s := by
  rw [ByteArray.toList_eq]

theorem str_extract (s : List UInt8) (i j : Nat) : (⟨⟨s⟩⟩ : ByteArray).extract i j = ⟨⟨(s.take j).drop i⟩⟩ := by
  apply ByteArray.ext
  rw [ByteArray.data_extract]
  apply Array.ext'
  simp [List.drop_take]

theorem PS.sLen {x : Operand} {t : TypeId} {s : List UInt8} [ht : Und P t .string] (hx : evL l x = some (str s)) : PS P ⟨d, .call ⟨.builtin .len, #[x], #[t]⟩, ty, pos, af, g⟩ l G L (num s.length) :=
  PS.lenStr hx

theorem PS.sIndex {t : TypeId} {x y : Operand} {s : List UInt8} {k : IntKind} {i : Int} {m : Nat} [ht : Und P t .string] (hx : evL l x = some (str s)) (hy : evL l y = some (.int k i)) (hi : i = m) (hm : m < s.length) :
    PS P ⟨d, .index t x y, ty, pos, af, g⟩ l G L (u8 (s.getD m 0)) := by
  subst hi
  refine PS.indexStr hx hy (by omega) (c := s.getD m 0) ?_
  show s[(m : Int).toNat]? = _
  simp [List.getD_eq_getElem?_getD, hm]

theorem PS.sEq {t u : TypeId} {x y : Operand} {a b : List UInt8} (hx : evL l x = some (str a)) (hy : evL l y = some (str b)) : PS P ⟨d, .binOp .eql t x y u, ty, pos, af, g⟩ l G L (.bool (a == b)) :=
  PS.binStr hx hy (by simp [strBin, str_toList])
theorem PS.sNe {t u : TypeId} {x y : Operand} {a b : List UInt8} (hx : evL l x = some (str a)) (hy : evL l y = some (str b)) : PS P ⟨d, .binOp .neq t x y u, ty, pos, af, g⟩ l G L (.bool (!(a == b))) :=
  PS.binStr hx hy (by simp [strBin, str_toList])

theorem PS.sCat {t u : TypeId} {x y : Operand} {a b : List UInt8} (hx : evL l x = some (str a)) (hy : evL l y = some (str b)) (hl : a.length + b.length ≤ 9223372036854775807) :
    PS P ⟨d, .binOp .add t x y u, ty, pos, af, g⟩ l G L (str (a ++ b)) := by
  have h : (⟨⟨a⟩⟩ : ByteArray) ++ ⟨⟨b⟩⟩ = ⟨⟨a ++ b⟩⟩ := by
    apply ByteArray.ext
    simp [ByteArray.data_append]
  have := PS.cat (P := P) (d := d) (t := t) (u := u) (ty := ty) (pos := pos) (af := af) (g := g) (G := G) (L := L) hx hy hl
  rw [h] at this
  exact this

/-! ### Slices -/

/-- A bound of a slice expression. -/
def Bnd (l : Slots) (o : Option Operand) (dflt n : Nat) : Prop := match o with | none => n = dflt | some x => ∃ k, evL l x = some (.int k (n : Int))

theorem Bnd.none {l : Slots} {n : Nat} : Bnd l .none n n := rfl
theorem Bnd.some {l : Slots} {x : Operand} {k : IntKind} {i : Int} {dflt n : Nat} (h : evL l x = .some (.int k i)) (hi : i = n) : Bnd l (.some x) dflt n := ⟨k, hi ▸ h⟩

theorem run_bounds {w : World} {a : Act} (hs : SlotsOk l a) {isSlice : Bool} {lo hi mx : Option Operand} {len cap i j m : Nat} (hl : Bnd l lo 0 i) (hh : Bnd l hi len j) (hm : Bnd l mx cap m) (h1 : i ≤ j) (h2 : j ≤ m) (h3 : m ≤ cap) (hx : mx.isSome → hi.isSome) :
    (Instr.sliceBounds isSlice len cap (lo.map a.eval) (hi.map a.eval) (mx.map a.eval)).run P w = .ok (i, j, m) w := by
  cases mx with
  | none =>
    cases hm
    cases hi with
    | none =>
      cases hh
      cases lo with
      | none => cases hl; simp [Instr.sliceBounds]
      | some x => obtain ⟨k, e⟩ := hl; simp [Instr.sliceBounds, Instr.sliceBound, hs.eval e, asIntOf, h1]
    | some y =>
      obtain ⟨k', e'⟩ := hh
      cases lo with
      | none => cases hl; simp [Instr.sliceBounds, Instr.sliceBound, hs.eval e', asIntOf, h2]
      | some x => obtain ⟨k, e⟩ := hl; simp [Instr.sliceBounds, Instr.sliceBound, hs.eval e, hs.eval e', asIntOf, h1, h2]
  | some z =>
    obtain ⟨k3, e3⟩ := hm
    cases hi with
    | none => exact absurd (hx rfl) (by simp)
    | some y =>
      obtain ⟨k', e'⟩ := hh
      cases lo with
      | none => cases hl; simp [Instr.sliceBounds, Instr.sliceBound, hs.eval e', hs.eval e3, asIntOf, h2, h3]
      | some x => obtain ⟨k, e⟩ := hl; simp [Instr.sliceBounds, Instr.sliceBound, hs.eval e, hs.eval e', hs.eval e3, asIntOf, h1, h2, h3]

theorem PS.sSlice {t : TypeId} {x : Operand} {lo hi : Option Operand} {s : List UInt8} {i j : Nat} [ht : Und P t .string] (hx : evL l x = some (str s)) (hl : Bnd l lo 0 i) (hh : Bnd l hi s.length j) (h1 : i ≤ j) (h2 : j ≤ s.length) :
    PS P ⟨d, .slice t x lo hi none, ty, pos, af, g⟩ l G L (str ((s.take j).drop i)) := .of fun a w he => by
  have hb := run_bounds (P := P) (w := w) he (isSlice := false) (mx := none) (cap := s.length) hl hh (m := s.length) rfl h1 h2 (Nat.le_refl _) (by simp)
  simp only [Option.map_none] at hb
  simp [execOp, he.eval hx, Instr.sliceAt, Instr.slice, run_underlying ht.h, str_size, hb, str_extract]

/-- Where a slice of a slice lies. -/
def sub (b off i m n : Nat) : Option Addr := if m = i then some ⟨b, off, none⟩ else some ⟨b, off + i * n, none⟩

theorem PS.slSlice {t e : TypeId} {x : Operand} {lo hi mx : Option Operand} {b off len cap i j m n : Nat} {ag : Bool} [ht : ElemK P t none e ag n] (hx : evL l x = some (.slice (some ⟨b, off, none⟩) len cap)) (hl : Bnd l lo 0 i) (hh : Bnd l hi len j)
    (hm : Bnd l mx cap m) (h1 : i ≤ j) (h2 : j ≤ m) (h3 : m ≤ cap) (hq : mx.isSome → hi.isSome) : PS P ⟨d, .slice t x lo hi mx, ty, pos, af, g⟩ l G L (.slice (sub b off i m n) (j - i) (m - i)) := .of fun a w he => by
  obtain ⟨k1, k2⟩ := elemK_slice ht.h
  have hb := run_bounds (P := P) (w := w) he (isSlice := true) hl hh hm h1 h2 h3 hq
  simp [execOp, he.eval hx, Instr.sliceAt, Instr.slice, run_underlying k1, hb, run_sizeOf' k2, sub, add_none]

theorem PS.slNil {t e : TypeId} {x : Operand} {lo hi mx : Option Operand} {n : Nat} {ag : Bool} [ht : ElemK P t none e ag n] (hx : evL l x = some (.slice none 0 0)) (hl : Bnd l lo 0 0) (hh : Bnd l hi 0 0)
    (hm : Bnd l mx 0 0) (hq : mx.isSome → hi.isSome) : PS P ⟨d, .slice t x lo hi mx, ty, pos, af, g⟩ l G L (.slice none 0 0) := .of fun a w he => by
  obtain ⟨k1, k2⟩ := elemK_slice ht.h
  have hb := run_bounds (P := P) (w := w) he (isSlice := true) hl hh hm (Nat.le_refl _) (Nat.le_refl _) (Nat.le_refl _) hq
  simp [execOp, he.eval hx, Instr.sliceAt, Instr.slice, run_underlying k1, hb, run_sizeOf' k2]

theorem PS.slArr {t e : TypeId} {x : Operand} {lo hi mx : Option Operand} {b off len i j m n : Nat} {ag : Bool} [ht : ElemK P t (some len) e ag n] (hx : evL l x = some (.pointer (some ⟨b, off, none⟩))) (hl : Bnd l lo 0 i) (hh : Bnd l hi len j)
    (hm : Bnd l mx len m) (h1 : i ≤ j) (h2 : j ≤ m) (h3 : m ≤ len) (hq : mx.isSome → hi.isSome) : PS P ⟨d, .slice t x lo hi mx, ty, pos, af, g⟩ l G L (.slice (sub b off i m n) (j - i) (m - i)) := .of fun a w he => by
  obtain ⟨k1, k2⟩ := elemK_array ht.h
  have hb := run_bounds (P := P) (w := w) he (isSlice := false) hl hh hm h1 h2 h3 hq
  simp [execOp, he.eval hx, Instr.sliceAt, Instr.sureAddr, run_underlying k1, hb, run_sizeOf' k2, sub, add_none]
  split <;> simp_all

theorem PS.b2s {src dst e : TypeId} {x : Operand} {b off len cap : Nat} {V : View} {s : List UInt8} [hs : Und P src (.slice e)] [hd : Und P dst .string] [he : Und P e (.int .u8)] (hx : evL l x = some (.slice (some ⟨b, off, none⟩) len cap)) (hb : InR G L b V)
    (hv : View.take V off len = some (s.map u8)) : PS P ⟨d, .convert src dst x, ty, pos, af, g⟩ l G L (str s) := fun wf a w hs' hh => by
  obtain ⟨h1, h2⟩ := View.take_spec hv
  have h4 : (s.map u8).length = s.length := by simp
  have h0 : (loadCells ⟨b, off, none⟩ len).run P w = .ok ((s.map fun c => (c.toNat : Int)).map (Value.int .u8)).toArray w := by
    have := run_loadCells_list (P := P) w ⟨b, off, none⟩ (s.map u8) (fun j v hj => by
      rw [add_none]
      exact hh.cell? (hb wf) (h2 j v hj))
    rw [h1] at this
    rw [this]
    simp [Function.comp_def]
  have h3 := run_bytesToString (P := P) w ⟨b, off, none⟩ len cap (s.map fun c => (c.toNat : Int)) h0
  have h5 : ∀ (s : List UInt8) (r : ByteArray), (s.map fun c => (c.toNat : Int)).foldl (fun r n => r.push (UInt8.ofNat n.toNat)) r = ⟨⟨r.data.toList ++ s⟩⟩ := by
    intro s
    induction s with
    | nil => intro r; simp
    | cons c s ih =>
      intro r
      rw [List.map_cons, List.foldl_cons, ih]
      apply ByteArray.ext
      apply Array.ext'
      simp [ByteArray.data_push]
  have h6 := h5 s ByteArray.empty
  rw [h6] at h3
  simp [execOp, hs'.eval hx, convert, run_underlying hs.h, run_underlying hd.h, run_underlying he.h, h3]

end

/-! ### The rules as the walks use them -/
section
variable {P : Program} {r : Option Nat} {Q : Post} {n : Nat} {l : Slots} {ds : List Nat} {G : Heap} {L : Locs} {ops : Array Oper} {rest : List Oper} {k : Nat} {rem : List Nat} {X : List LateI}
  {t : Nat} {op : Op} {ty : TypeId} {pos : String} {af : Array Edge} {g : Option (Nat × Bool)}

theorem WPL.p {v : Value} (h : PS P ⟨some t, op, ty, pos, af, none⟩ l G L v) (K : WPL P r ops rest Q ⟨n, (t, v) :: l, ds⟩ G L) : WPL P r ops (⟨some t, op, ty, pos, af, none⟩ :: rest) Q ⟨n, l, ds⟩ G L := WPL.ps rfl h K
theorem WPL.c {v : Value} {b : Bool} (hw : Wants ops l ⟨some t, op, ty, pos, af, g⟩ b) (h : b = true → PS P ⟨some t, op, ty, pos, af, g⟩ l G L v) (K : WPL P r ops rest Q ⟨n, (t, gv b v) :: l, ds⟩ G L) :
    WPL P r ops (⟨some t, op, ty, pos, af, g⟩ :: rest) Q ⟨n, l, ds⟩ G L := WPL.psC hw h K
theorem WPL.nw {v : Nat → Value} {V : View} (h : NS P ⟨some t, op, ty, pos, af, none⟩ l v V) (K : ∀ b, WPL P r ops rest Q ⟨n, (t, v b) :: l, ds⟩ G ((b, V) :: L)) :
    WPL P r ops (⟨some t, op, ty, pos, af, none⟩ :: rest) Q ⟨n, l, ds⟩ G L := WPL.ns rfl h K
theorem WPL.s {d : Option Tmp} {tt : TypeId} {x y : Operand} {b off m : Nat} {ag : Bool} {V V' : View} {v : Value} {G' : Heap} {L' : Locs} [ht : TyK P tt ag m]
    (hx : evL l x = some (.pointer (some ⟨b, off, none⟩))) (hy : evL l y = some v) (hb : UpdR G L b V V' G' L') (hn : v.cells.size = m) (ho : v.cells.toList.all (·.oneCell') = true) (hv : V.write off v.cells.toList = some V')
    (K : WPL P r ops rest Q ⟨n, putL d undef l, ds⟩ G' L') : WPL P r ops (⟨d, .store tt x y, ty, pos, af, none⟩ :: rest) Q ⟨n, l, ds⟩ G L := WPL.store rfl hx hy hb hn ho hv K
/-- A call that leaves all as it was. -/
theorem WPL.cl {d : Option Tmp} {c : Operand} {args : Array Operand} {ats : Array TypeId} {f : FuncId} {first caps vs : List Value} {v : Value}
    (hc : evL l c = some (.func (.func f) ⟨first⟩ ⟨caps⟩)) (ha : evs l args.toList = some vs) (h : Wf G L → EvP P f (first ++ vs ++ caps) (ov G L) v) (K : WPL P r ops rest Q ⟨n, putL d v l, ds⟩ G L) :
    WPL P r ops (⟨d, .call ⟨.value c, args, ats⟩, ty, pos, af, none⟩ :: rest) Q ⟨n, l, ds⟩ G L :=
  WPL.gs rfl (GS.callP hc ha h) fun u G' L' ⟨h1, h2, h3⟩ => by rw [h1, h2, h3]; exact K
theorem WPL.clc {d : Option Tmp} {c : Operand} {args : Array Operand} {ats : Array TypeId} {f : FuncId} {first caps vs : List Value} {v : Value} {b : Bool}
    (hw : Wants ops l ⟨d, .call ⟨.value c, args, ats⟩, ty, pos, af, g⟩ b) (hc : b = true → evL l c = some (.func (.func f) ⟨first⟩ ⟨caps⟩)) (ha : b = true → evs l args.toList = some vs) (h : b = true → Wf G L → EvP P f (first ++ vs ++ caps) (ov G L) v)
    (K : WPL P r ops rest Q ⟨n, putL d (gv b v) l, ds⟩ G L) : WPL P r ops (⟨d, .call ⟨.value c, args, ats⟩, ty, pos, af, g⟩ :: rest) Q ⟨n, l, ds⟩ G L :=
  wpl_wants hw (fun hb => GS.callP (hc hb) (ha hb) (h hb)) fun u G' L' h1 h2 => by
    cases b with
    | true => obtain ⟨rfl, rfl, rfl⟩ := h1 rfl; exact K
    | false => obtain ⟨rfl, rfl, rfl⟩ := h2 rfl; exact K

theorem WPL.fresh {d : Option Tmp} {c : Operand} {args : Array Operand} {ats : Array TypeId} {f : FuncId} {first caps vs : List Value} {Q0 : Value → Heap → Prop}
    (hc : evL l c = some (.func (.func f) ⟨first⟩ ⟨caps⟩)) (ha : evs l args.toList = some vs) (h : Wf G L → Ev P f (first ++ vs ++ caps) (ov G L) Q0)
    (K : ∀ v H', Q0 v H' → ∃ G' L', (Wf G L → Wf G' L' ∧ Sub (ov G' L') H') ∧ WPL P r ops rest Q ⟨n, putL d v l, ds⟩ G' L') :
    WPL P r ops (⟨d, .call ⟨.value c, args, ats⟩, ty, pos, af, none⟩ :: rest) Q ⟨n, l, ds⟩ G L :=
  WPL.gs rfl (GS.call hc ha h K) fun _ _ _ h => h

theorem res0 {E : Env} : AllRes P E G L [] [] := trivial

theorem resT {E : Env} {t : Nat} {v : Value} (h : look t E.l = some v) : ResOk P E G L (.tmp t) v := h

/-- A loop whose head is told by some parameter. -/
theorem WP.while {ι : Type} {c : Code} (l' : ι → Slots) (G' : ι → Heap) (L' : ι → Locs) (inv : ι → Prop) (m : ι → Nat) (i0 : ι) (h0 : leB (l' i0) l) (hi : inv i0) (hG : G' i0 = G) (hL : L' i0 = L)
    (h : ∀ i, inv i → WP P r c (thenQ (fun E1 G1 L1 => ∃ j, m j < m i ∧ inv j ∧ E1.n = n ∧ E1.ds = ds ∧ leB (l' j) E1.l ∧ G1 = G' j ∧ L1 = L' j) Q) ⟨n, l' i, ds⟩ (G' i) (L' i)) :
    WP P r (.loop c) Q ⟨n, l, ds⟩ G L := by
  refine WP.loop (fun i E1 G1 L1 => inv i ∧ G1 = G' i ∧ L1 = L' i ∧ E1.n = n ∧ E1.ds = ds ∧ SlotsLe (l' i) E1.l) m i0 ⟨hi, hG.symm, hL.symm, rfl, rfl, leB_ok h0⟩ ?_
  rintro i ⟨n1, l1, ds1⟩ G1 L1 ⟨h1, h2, h3, h4, h5, h6⟩
  simp only at h4 h5 h6
  subst h4 h5 h2 h3
  refine WP.weaken h6 (fun wf => ⟨wf, Sub.refl _⟩) (WP.mono (h i h1) ?_)
  intro x E2 G2 L2 hq
  cases x with
  | normal =>
    obtain ⟨j, k1, k2, k3, k4, k5, k6, k7⟩ := hq
    exact ⟨j, k1, k2, k6, k7, k3, k4, leB_ok k5⟩
  | exit id => exact hq
  | goto l => exact hq
  | ret => exact hq
  | panic c => exact hq
  | outgrown => exact hq

theorem Scr.cl {i : Nat} {d : Option Tmp} {c : Operand} {args : Array Operand} {ats : Array TypeId} {f : FuncId} {first caps vs : List Value} {v : Value} (ho : ops[i]? = some ⟨d, .call ⟨.value c, args, ats⟩, ty, pos, af, none⟩)
    (hi : rem.contains i = true) (hone : onlyB ops rem i = true) (hc : evL l c = some (.func (.func f) ⟨first⟩ ⟨caps⟩)) (ha : evs l args.toList = some vs) (h : Wf G L → EvP P f (first ++ vs ++ caps) (ov G L) v)
    (hl : ∀ x ∈ X, ∀ d, dstAt ops x.i = some d → look d l = none) (K : Scr P r ops k Q n ds (rem.erase i) X (putL d v l) G L) : Scr P r ops k Q n ds rem X l G L :=
  Scr.gs ho hi hone rfl (GS.callP hc ha h) hl fun u G' L' ⟨h1, h2, h3⟩ => by rw [h1, h2, h3]; exact ⟨fun _ _ => Sub.refl _, K⟩

theorem Scr.c {i : Nat} {o : Oper} {v : Value} {b : Bool} (ho : ops[i]? = some o) (hi : rem.contains i = true) (hr : rdyB ops (rem ++ X.map (·.i)) i = true) (hw : Wants ops l o b) (h : b = true → PS P o l G L v)
    (K : Scr P r ops k Q n ds (rem.erase i) X (putL o.dst (gv b v) l) G L) : Scr P r ops k Q n ds rem X l G L :=
  Scr.yld ho (List.contains_iff_mem.1 hi) hr (fun wf a hs => by
    cases b with
    | true => exact .inl ⟨hw a hs, fun w hw' => h rfl wf a w hs hw'⟩
    | false => exact .inr ⟨hw a hs, rfl⟩) K

end
end Go.Proofs.YtfoakjdnopljmaaGreatDoor

set_option linter.unusedVariables false
set_option linter.unusedSimpArgs false
namespace Go.Proofs.YtfoakjdnopljmaaGreatDoor
open Go

theorem andI {a b : Bool} (h : a = true) (k : b = true) : (a && b) = true := by rw [h, k]; rfl
theorem notI {b : Bool} (h : b = false) : (!b) = true := by rw [h]; rfl
theorem evsC {l : Slots} {x : Operand} {xs : List Operand} {v : Value} {vs : List Value} (h : evL l x = some v) (k : evs l xs = some vs) : evs l (x :: xs) = some (v :: vs) := by simp [evs, h, k]

/-! ### Cells read and written by lists -/

theorem View.take_of {V : View} {f : Nat → Value} : ∀ (n o : Nat), (∀ j, j < n → V.cell (o + j) = some (f j)) → V.take o n = some ((List.range n).map f)
  | 0, o, _ => rfl
  | n + 1, o, h => by
    have h0 := h 0 (by omega)
    have ih := View.take_of (f := fun j => f (j + 1)) n (o + 1) (fun j hj => by have := h (j + 1) (by omega); rwa [show o + (j + 1) = o + 1 + j by omega] at this)
    simp only [Nat.add_zero] at h0
    simp only [View.take, h0, ih, List.range_succ_eq_map, List.map_cons, List.map_map, Function.comp_def]

theorem View.take_list {V : View} {l : List Value} {o : Nat} (h : ∀ j v, l[j]? = some v → V.cell (o + j) = some v) : V.take o l.length = some l := by
  rw [View.take_of (f := fun j => l.getD j undef) l.length o (fun j hj => by rw [h j _ (List.getElem?_eq_getElem hj)]; simp [List.getD_eq_getElem?_getD, hj])]
  congr 1
  apply List.ext_getElem?
  intro i
  by_cases hi : i < l.length
  · simp [hi, List.getD_eq_getElem?_getD]
  · simp [hi]

theorem View.take_cells {cs : List Value} {e : TypeId} {o n : Nat} (h : o + n ≤ cs.length) : (View.cells cs e).take o n = some ((cs.drop o).take n) := by
  have := View.take_list (V := .cells cs e) (l := (cs.drop o).take n) (o := o) (fun j v hj => by
    rw [List.getElem?_take] at hj
    split at hj
    · simpa [View.cell, List.getElem?_drop] using hj
    · cases hj)
  rwa [List.length_take, List.length_drop, Nat.min_eq_left (by omega)] at this

theorem View.take_whole {cs : List Value} {e : TypeId} {n : Nat} (h : cs.length = n) : (View.cells cs e).take 0 n = some cs := by
  subst h
  rw [View.take_cells (by omega)]; simp

theorem View.take_row {cs : List Value} {e : TypeId} {off o n N : Nat} (h0 : off ≤ o) (h : o - off + n ≤ cs.length) : (View.row off cs e N).take o n = some ((cs.drop (o - off)).take n) := by
  have := View.take_list (V := .row off cs e N) (l := (cs.drop (o - off)).take n) (o := o) (fun j v hj => by
    rw [List.getElem?_take] at hj
    split at hj
    · simp only [View.cell, if_pos (show off ≤ o + j by omega)]
      simpa [List.getElem?_drop, show o + j - off = o - off + j by omega] using hj
    · cases hj)
  rwa [List.length_take, List.length_drop, Nat.min_eq_left (by omega)] at this

theorem View.write_one {cs : List Value} {e : TypeId} {o : Nat} {v : Value} (h : o < cs.length) : (View.cells cs e).write o [v] = some (.cells (cs.set o v) e) := by
  simp only [View.write, List.length_singleton, wr]
  rw [if_pos (by omega)]

theorem wr_split : ∀ (vs cs : List Value) (o : Nat), o + vs.length ≤ cs.length → wr cs o vs = cs.take o ++ vs ++ cs.drop (o + vs.length) := fun vs cs o h => by
  apply List.ext_getElem?
  intro i
  rw [wr_get vs cs o i h]
  split
  · rename_i hi
    rw [List.getElem?_append_left (by simp; omega), List.getElem?_append_right (by simp; omega)]
    simp [Nat.min_eq_left (show o ≤ cs.length by omega)]
  · rename_i hi
    by_cases h1 : i < o
    · rw [List.append_assoc, List.getElem?_append_left (by simp; omega)]
      simp [h1]
    · rw [List.getElem?_append_right (by simp; omega), List.getElem?_drop]
      congr 1
      simp
      omega

theorem View.write_whole {cs vs : List Value} {e : TypeId} (h : vs.length = cs.length) : (View.cells cs e).write 0 vs = some (.cells vs e) := by
  simp only [View.write]
  rw [if_pos (by omega), wr_split _ _ _ (by omega)]
  simp [h]

theorem View.write_cells {cs vs : List Value} {e : TypeId} {o : Nat} (h : o + vs.length ≤ cs.length) : (View.cells cs e).write o vs = some (.cells (cs.take o ++ vs ++ cs.drop (o + vs.length)) e) := by
  simp only [View.write]
  rw [if_pos h, wr_split _ _ _ h]

theorem View.write_row {cs vs : List Value} {e : TypeId} {off o N : Nat} (h0 : off ≤ o) (h : o - off + vs.length ≤ cs.length) :
    (View.row off cs e N).write o vs = some (.row off (cs.take (o - off) ++ vs ++ cs.drop (o - off + vs.length)) e N) := by
  simp only [View.write]
  rw [if_pos ⟨h0, h⟩, wr_split _ _ _ h]

section
variable {K : Env → Heap → Locs → Prop} {Q : Post} {E : Env} {G : Heap} {L : Locs} {id : Nat}
theorem toQ (h : Q .ret E G L) : thenQ K Q .ret E G L := h
theorem toB (h : Q .ret E G L) : inBlockQ id Q .ret E G L := h
end

theorem RetQ.end {P : Program} {n : Nat} {l : Slots} {G : Heap} {L : Locs} {fn : Func} {Q0 : Value → Heap → Prop} {x : Exit} {H' : Heap} (hx : x = .normal ∨ x = .ret) (hs : Wf G L → Sub H' (ov G L))
    (h : ∃ vs, AllRes P ⟨n, l, []⟩ G L fn.results.toList vs ∧ Q0 (tupled vs) H') : RetQ P fn Q0 x ⟨n, l, []⟩ G L := by
  obtain ⟨vs, h1, h2⟩ := h
  exact RetQ.mk hx h1 hs h2

@[simp] theorem agg_size (l : List Value) : (Value.agg ⟨l⟩).cells.size = l.length := rfl
@[simp] theorem agg_toList (l : List Value) : (Value.agg ⟨l⟩).cells.toList = l := rfl

theorem resC {P : Program} {E : Env} {G : Heap} {L : Locs} {a : Tmp} {t : TypeId} {b off n : Nat} {V : View} {v : Value} [ht : TyK P t false n] (ha : look a E.l = some (.pointer (some ⟨b, off, none⟩))) (hb : InR G L b V)
    (hv : V.cell off = some v) : ResOk P E G L (.cell a t) v := ResOk.cellAt ha hb ht.h hv
theorem resA {P : Program} {E : Env} {G : Heap} {L : Locs} {a : Tmp} {t : TypeId} {b off n : Nat} {V : View} {l : List Value} [ht : TyK P t true n] (ha : look a E.l = some (.pointer (some ⟨b, off, none⟩))) (hb : InR G L b V)
    (hv : V.take off n = some l) : ResOk P E G L (.cell a t) (.agg ⟨l⟩) := ResOk.aggAt ha hb ht.h hv

theorem one_u8 (l : List UInt8) : (l.map u8).all (·.oneCell') = true := by
  simp [List.all_eq_true]
  intro c _
  rfl

/-! ### '==' of values put together of numbers, truth values and strings -/

inductive CK where
  | b
  | i (k : IntKind)
  | s
  deriving DecidableEq

def CK.fits : CK → Value → Bool
  | .b, .bool _ => true
  | .i k, .int k' _ => decide (k = k')
  | .s, .string _ => true
  | _, _ => false

def fitsL : List CK → List Value → Bool
  | [], [] => true
  | k :: ks, v :: vs => k.fits v && fitsL ks vs
  | _, _ => false

def cellEq : Value → Value → Bool
  | .bool a, .bool b => a == b
  | .int _ a, .int _ b => a == b
  | .string a, .string b => a.toList == b.toList
  | _, _ => false

def cellsEq : List Value → List Value → Bool
  | [], [] => true
  | x :: xs, y :: ys => cellEq x y && cellsEq xs ys
  | _, _ => false

theorem fitsL_length : ∀ {ks : List CK} {vs : List Value}, fitsL ks vs = true → vs.length = ks.length
  | [], [], _ => rfl
  | [], _ :: _, h => by simp [fitsL] at h
  | _ :: _, [], h => by simp [fitsL] at h
  | k :: ks, v :: vs, h => by
    simp only [fitsL, Bool.and_eq_true] at h
    simp [fitsL_length h.2]

theorem fitsL_append : ∀ {ks ks' : List CK} {vs : List Value}, fitsL (ks ++ ks') vs = true → fitsL ks (vs.take ks.length) = true ∧ fitsL ks' (vs.drop ks.length) = true
  | [], _, vs, h => by simpa [fitsL] using h
  | k :: ks, ks', [], h => by simp [fitsL] at h
  | k :: ks, ks', v :: vs, h => by
    simp only [List.cons_append, fitsL, Bool.and_eq_true] at h
    obtain ⟨h1, h2⟩ := fitsL_append h.2
    simp only [List.length_cons, List.take_succ_cons, List.drop_succ_cons, fitsL, Bool.and_eq_true]
    exact ⟨⟨h.1, h1⟩, h2⟩

theorem fitsL_append' : ∀ {ks ks' : List CK} {vs vs' : List Value}, fitsL ks vs = true → fitsL ks' vs' = true → fitsL (ks ++ ks') (vs ++ vs') = true
  | [], _, [], _, _, h => h
  | [], _, _ :: _, _, h, _ => by simp [fitsL] at h
  | _ :: _, _, [], _, h, _ => by simp [fitsL] at h
  | k :: ks, ks', v :: vs, vs', h, h' => by
    simp only [fitsL, Bool.and_eq_true] at h
    simp only [List.cons_append, fitsL, Bool.and_eq_true]
    exact ⟨h.1, fitsL_append' h.2 h'⟩

theorem cellsEq_append : ∀ {xs ys xs' ys' : List Value}, xs.length = ys.length → cellsEq (xs ++ xs') (ys ++ ys') = (cellsEq xs ys && cellsEq xs' ys')
  | [], [], _, _, _ => by simp [cellsEq]
  | [], _ :: _, _, _, h => by simp at h
  | _ :: _, [], _, _, h => by simp at h
  | x :: xs, y :: ys, xs', ys', h => by
    simp only [List.cons_append, cellsEq, cellsEq_append (xs := xs) (ys := ys) (xs' := xs') (ys' := ys') (by simpa using h), Bool.and_assoc]

theorem cellsEq_split {xs ys : List Value} (n : Nat) (h : xs.length = ys.length) : cellsEq xs ys = (cellsEq (xs.take n) (ys.take n) && cellsEq (xs.drop n) (ys.drop n)) := by
  rw [← cellsEq_append (by simp [h])]
  simp

def formed (ag : Bool) (cs : List Value) : Value := bif ag then .agg ⟨cs⟩ else cs.headD undef

def flatFs (F : TypeId → Option (Bool × List CK)) : List Field → Nat → Option (List CK)
  | [], _ => some []
  | f :: fs, off => if f.name = "_" ∨ f.offset ≠ off then none else match F f.type with
    | some (_, ks) => (flatFs F fs (off + ks.length)).map (ks ++ ·)
    | none => none

def flatK (P : Program) : Nat → TypeId → Option (Bool × List CK)
  | 0, _ => none
  | d + 1, t => match P.underlying t with
    | some .bool => if tyK P t = some (false, 1) then some (false, [.b]) else none
    | some (.int k) => if tyK P t = some (false, 1) then some (false, [.i k]) else none
    | some .string => if tyK P t = some (false, 1) then some (false, [.s]) else none
    | some (.array n e) => match flatK P d e with
      | some (_, ks) => if tyK P t = some (true, n * ks.length) then some (true, (List.replicate n ks).flatten) else none
      | none => none
    | some (.struct fs) => if P.stoodInHeld t then none else match flatFs (flatK P d) fs.toList 0 with
      | some ks => if tyK P t = some (true, ks.length) then some (true, ks) else none
      | none => none
    | _ => none

def EqF (P : Program) (dd : Nat) (t : TypeId) (ag : Bool) (ks : List CK) : Prop :=
  ∀ (w : World) (xs ys : List Value), fitsL ks xs = true → fitsL ks ys = true → (Op.equalIn dd t (formed ag xs) (formed ag ys)).run P w = .ok (cellsEq xs ys) w

def CkF (P : Program) (em : Bool) (dd : Nat) (t : TypeId) (ag : Bool) (ks : List CK) : Prop :=
  ∀ (w : World) (xs : List Value), fitsL ks xs = true → (Instr.checkKey em dd t (formed ag xs)).run P w = .ok () w

theorem one_of {k : CK} {xs : List Value} (h : fitsL [k] xs = true) : ∃ v, xs = [v] ∧ k.fits v = true := by
  match xs, h with
  | [v], h => exact ⟨v, rfl, by simpa [fitsL] using h⟩
  | [], h => simp [fitsL] at h
  | _ :: _ :: _, h => simp [fitsL] at h

section
variable {P : Program}

theorem part_flat {w : World} {t : TypeId} {ag : Bool} {ks : List CK} {xs : List Value} {off : Nat} (ht : tyK P t = some (ag, ks.length)) (h1 : ag = false → ks.length = 1) (hf : fitsL ks ((xs.drop off).take ks.length) = true) :
    (part t ⟨xs⟩ off).run P w = .ok (formed ag ((xs.drop off).take ks.length)) w := by
  cases ag with
  | true => exact run_part ht rfl
  | false =>
    have h1 := h1 rfl
    have hl := fitsL_length hf
    rw [h1] at hl hf ⊢
    have hx : ∃ v, xs[off]? = some v := by
      cases e : xs[off]? with
      | some v => exact ⟨v, rfl⟩
      | none =>
        have := List.getElem?_eq_none_iff.1 e
        simp [List.length_drop] at hl
        omega
    obtain ⟨v, hv⟩ := hx
    rw [run_part_one ht hv]
    have : (xs.drop off).take 1 = [v] := by
      obtain ⟨hlt, hv'⟩ := List.getElem?_eq_some_iff.1 hv
      rw [List.drop_eq_getElem_cons hlt, hv']
      simp
    rw [this]
    rfl

theorem eqFields_flat {F : TypeId → Option (Bool × List CK)} {dd : Nat} (hF : ∀ t ag ks, F t = some (ag, ks) → EqF P dd t ag ks ∧ tyK P t = some (ag, ks.length) ∧ (ag = false → ks.length = 1)) (w : World) :
    ∀ (fs : List Field) (off : Nat) (ks : List CK) (xs ys : List Value), flatFs F fs off = some ks → off ≤ xs.length → off ≤ ys.length → fitsL ks (xs.drop off) = true → fitsL ks (ys.drop off) = true →
      (Op.eqFields dd ⟨xs⟩ ⟨ys⟩ fs).run P w = .ok (cellsEq (xs.drop off) (ys.drop off)) w
  | [], off, ks, xs, ys, h, ox, oy, hx, hy => by
    simp only [flatFs, Option.some.injEq] at h
    subst h
    have e1 : xs.drop off = [] := List.eq_nil_of_length_eq_zero (by simpa using fitsL_length hx)
    have e2 : ys.drop off = [] := List.eq_nil_of_length_eq_zero (by simpa using fitsL_length hy)
    simp [Op.eqFields, e1, e2, cellsEq]
  | f :: fs, off, ks, xs, ys, h, ox, oy, hx, hy => by
    simp only [flatFs] at h
    split at h
    · cases h
    · rename_i hn
      simp only [not_or, Decidable.not_not] at hn
      split at h
      · rename_i ag k1 hk
        simp only [Option.map_eq_some_iff] at h
        obtain ⟨k2, h2, rfl⟩ := h
        obtain ⟨q1, q2, q3⟩ := hF _ _ _ hk
        obtain ⟨x1, x2⟩ := fitsL_append hx
        obtain ⟨y1, y2⟩ := fitsL_append hy
        have lx := fitsL_length hx
        have ly := fitsL_length hy
        simp only [List.length_drop, List.length_append] at lx ly
        rw [List.drop_drop] at x2 y2
        have ih := eqFields_flat hF w fs (off + k1.length) k2 xs ys h2 (by omega) (by omega) x2 y2
        simp only [Op.eqFields, hn.1, ne_eq, not_false_eq_true, if_true, Sem.run_bind, hn.2, part_flat q2 q3 x1, part_flat q2 q3 y1, q1 w _ _ x1 y1, Result.andThen_ok]
        rw [cellsEq_split k1.length (xs := xs.drop off) (ys := ys.drop off) (by simp; omega), List.drop_drop, List.drop_drop]
        cases cellsEq ((xs.drop off).take k1.length) ((ys.drop off).take k1.length) with
        | true => simpa using ih
        | false => simp
      · cases h

theorem eqItems_flat {e : TypeId} {dd : Nat} {ag : Bool} {ks : List CK} (q1 : EqF P dd e ag ks) (q2 : tyK P e = some (ag, ks.length)) (q3 : ag = false → ks.length = 1) (w : World) :
    ∀ (n i : Nat) (xs ys : List Value), i * ks.length ≤ xs.length → i * ks.length ≤ ys.length → fitsL (List.replicate n ks).flatten (xs.drop (i * ks.length)) = true → fitsL (List.replicate n ks).flatten (ys.drop (i * ks.length)) = true →
      (Op.eqItems dd e ks.length ⟨xs⟩ ⟨ys⟩ (List.range' i n)).run P w = .ok (cellsEq (xs.drop (i * ks.length)) (ys.drop (i * ks.length))) w
  | 0, i, xs, ys, ox, oy, hx, hy => by
    simp only [List.replicate_zero, List.flatten_nil] at hx hy
    have e1 : xs.drop (i * ks.length) = [] := List.eq_nil_of_length_eq_zero (by simpa using fitsL_length hx)
    have e2 : ys.drop (i * ks.length) = [] := List.eq_nil_of_length_eq_zero (by simpa using fitsL_length hy)
    simp [Op.eqItems, e1, e2, cellsEq]
  | n + 1, i, xs, ys, ox, oy, hx, hy => by
    rw [List.replicate_succ, List.flatten_cons] at hx hy
    obtain ⟨x1, x2⟩ := fitsL_append hx
    obtain ⟨y1, y2⟩ := fitsL_append hy
    have lx := fitsL_length hx
    have ly := fitsL_length hy
    simp only [List.length_drop, List.length_append] at lx ly
    rw [List.drop_drop, show i * ks.length + ks.length = (i + 1) * ks.length by rw [Nat.add_mul]; omega] at x2 y2
    have h1 : (i + 1) * ks.length = i * ks.length + ks.length := by rw [Nat.add_mul]; omega
    have ih := eqItems_flat q1 q2 q3 w n (i + 1) xs ys (by omega) (by omega) x2 y2
    simp only [List.range'_succ, Op.eqItems, Sem.run_bind, part_flat q2 q3 x1, part_flat q2 q3 y1, q1 w _ _ x1 y1, Result.andThen_ok]
    rw [cellsEq_split ks.length (xs := xs.drop (i * ks.length)) (ys := ys.drop (i * ks.length)) (by simp; omega), List.drop_drop, List.drop_drop, ← h1]
    cases cellsEq ((xs.drop (i * ks.length)).take ks.length) ((ys.drop (i * ks.length)).take ks.length) with
    | true => simpa using ih
    | false => simp

theorem tyK_info2 {t : TypeId} {ag : Bool} {n : Nat} (h : tyK P t = some (ag, n)) : ∃ i, P.info? t = some i ∧ i.size = n := by
  obtain ⟨i, d, h1, _, h3, _⟩ := tyK_info h
  exact ⟨i, h1, h3⟩

theorem flat_spec : ∀ (d m : Nat) (t : TypeId) (ag : Bool) (ks : List CK), flatK P d t = some (ag, ks) → EqF P (m + d) t ag ks ∧ (∀ em, CkF P em (m + d) t ag ks) ∧ tyK P t = some (ag, ks.length) ∧ (ag = false → ks.length = 1)
  | 0, _, _, _, _, h => by simp [flatK] at h
  | d + 1, m, t, ag, ks, h => by
    simp only [flatK] at h
    rw [show m + (d + 1) = (m + d) + 1 from rfl]
    split at h
    · rename_i hu
      split at h
      · rename_i ht
        cases h
        refine ⟨fun w xs ys hx hy => ?_, fun em w xs hx => ?_, ht, fun _ => rfl⟩
        · obtain ⟨a, rfl, ha⟩ := one_of hx
          obtain ⟨b, rfl, hb⟩ := one_of hy
          cases a <;> simp [CK.fits] at ha
          cases b <;> simp [CK.fits] at hb
          simp [formed, cellsEq, cellEq, run_equalIn_bool w _ _ _ _ hu]
        · obtain ⟨a, rfl, ha⟩ := one_of hx
          cases a <;> simp [CK.fits] at ha
          simp [formed, Instr.checkKey, run_underlying hu]
      · cases h
    · rename_i k hu
      split at h
      · rename_i ht
        cases h
        refine ⟨fun w xs ys hx hy => ?_, fun em w xs hx => ?_, ht, fun _ => rfl⟩
        · obtain ⟨a, rfl, ha⟩ := one_of hx
          obtain ⟨b, rfl, hb⟩ := one_of hy
          cases a <;> simp [CK.fits] at ha
          cases b <;> simp [CK.fits] at hb
          subst ha hb
          simp [formed, cellsEq, cellEq, run_equalIn_int w _ _ _ _ _ _ hu]
        · obtain ⟨a, rfl, ha⟩ := one_of hx
          cases a <;> simp [CK.fits] at ha
          simp [formed, Instr.checkKey, run_underlying hu]
      · cases h
    · rename_i hu
      split at h
      · rename_i ht
        cases h
        refine ⟨fun w xs ys hx hy => ?_, fun em w xs hx => ?_, ht, fun _ => rfl⟩
        · obtain ⟨a, rfl, ha⟩ := one_of hx
          obtain ⟨b, rfl, hb⟩ := one_of hy
          cases a <;> simp [CK.fits] at ha
          cases b <;> simp [CK.fits] at hb
          simp [formed, cellsEq, cellEq, run_equalIn_string w _ _ _ _ hu]
        · obtain ⟨a, rfl, ha⟩ := one_of hx
          cases a <;> simp [CK.fits] at ha
          simp [formed, Instr.checkKey, run_underlying hu]
      · cases h
    · rename_i n e hu
      split at h
      · rename_i ag' k1 hk
        split at h
        · rename_i ht
          cases h
          obtain ⟨q1, qc, q2, q3⟩ := flat_spec d m e ag' k1 hk
          have hlen : (List.replicate n k1).flatten.length = n * k1.length := by simp [List.length_flatten]
          refine ⟨fun w xs ys hx hy => ?_, fun em w xs hx => ?_, by rw [hlen]; exact ht, fun h => by cases h⟩
          · obtain ⟨i, hi, hs⟩ := tyK_info2 q2
            simp only [formed, cond_true]
            rw [run_equalIn_array w (m + d) _ _ hu hi]
            have hc : P.cellsOf e = k1.length := by simp [Program.cellsOf, hi, hs]
            rw [hc, List.range_eq_range']
            have := eqItems_flat q1 q2 q3 w n 0 xs ys (by simp) (by simp) (by simpa using hx) (by simpa using hy)
            simpa using this
          · simp only [formed, cond_true, Instr.checkKey, Sem.run_bind, run_underlying hu, Result.andThen_ok]
            simp only [Std.Legacy.Range.forIn_eq_forIn_range', Std.Legacy.Range.size, Nat.sub_zero, Nat.add_one_sub_one, Nat.div_one]
            have key : ∀ (n i : Nat), i * k1.length ≤ xs.length → fitsL (List.replicate n k1).flatten (xs.drop (i * k1.length)) = true →
                (forIn (List.range' i n) PUnit.unit fun i _ => do
                  Instr.checkKey em (m + d) e (← part e ⟨xs⟩ (i * (← sizeOf e)))
                  pure (ForInStep.yield PUnit.unit) : Sem PUnit).run P w = .ok PUnit.unit w := by
              intro n
              induction n with
              | zero => intro i _ _; simp
              | succ n ih =>
                intro i ox hx
                rw [List.replicate_succ, List.flatten_cons] at hx
                obtain ⟨x1, x2⟩ := fitsL_append hx
                have lx := fitsL_length hx
                simp only [List.length_drop, List.length_append] at lx
                have h1 : (i + 1) * k1.length = i * k1.length + k1.length := by rw [Nat.add_mul]; omega
                rw [List.drop_drop, ← h1] at x2
                simp only [List.range'_succ, List.forIn_cons, Sem.run_bind, run_sizeOf' q2, Result.andThen_ok, part_flat q2 q3 x1, qc em w _ x1, Sem.run_pure]
                exact ih (i + 1) (by omega) x2
            rw [key n 0 (by simp) (by simpa using hx)]
            rfl
        · cases h
      · cases h
    · rename_i fs hu
      split at h
      · cases h
      · rename_i hst
        split at h
        · rename_i k1 hk
          split at h
          · rename_i ht
            cases h
            refine ⟨fun w xs ys hx hy => ?_, fun em w xs hx => ?_, ht, fun h => by cases h⟩
            · have hfs : P.fieldsOf t = fs := by simp [Program.fieldsOf, hu]
              simp only [formed, cond_true]
              rw [run_equalIn_struct w (m + d) t ⟨xs⟩ ⟨ys⟩ (by rw [hfs]; exact hu) (by simpa using hst), hfs]
              have := eqFields_flat (P := P) (dd := m + d) (F := flatK P d) (fun t ag ks hh => ⟨(flat_spec d m t ag ks hh).1, (flat_spec d m t ag ks hh).2.2⟩) w fs.toList 0 ks xs ys hk (by simp) (by simp) (by simpa using hx) (by simpa using hy)
              simpa using this
            · simp only [formed, cond_true, Instr.checkKey, Sem.run_bind, run_underlying hu, Result.andThen_ok]
              rw [← Array.forIn_toList]
              have key : ∀ (fs : List Field) (off : Nat) (ks : List CK), flatFs (flatK P d) fs off = some ks → off ≤ xs.length → fitsL ks (xs.drop off) = true →
                  (forIn fs PUnit.unit fun f _ => do
                    if f.name ≠ "_" then
                      Instr.checkKey em (m + d) f.type (← part f.type ⟨xs⟩ f.offset)
                      pure (ForInStep.yield PUnit.unit)
                    else pure (ForInStep.yield PUnit.unit) : Sem PUnit).run P w = .ok PUnit.unit w := by
                intro fs
                induction fs with
                | nil => intro off ks _ _ _; simp
                | cons f fs ih =>
                  intro off ks h ox hx
                  simp only [flatFs] at h
                  split at h
                  · cases h
                  · rename_i hn
                    simp only [not_or, Decidable.not_not] at hn
                    split at h
                    · rename_i ag1 k1 hk1
                      simp only [Option.map_eq_some_iff] at h
                      obtain ⟨k2, h2, rfl⟩ := h
                      obtain ⟨_, qc, q2, q3⟩ := flat_spec d m f.type ag1 k1 hk1
                      obtain ⟨x1, x2⟩ := fitsL_append hx
                      have lx := fitsL_length hx
                      simp only [List.length_drop, List.length_append] at lx
                      rw [List.drop_drop] at x2
                      simp only [List.forIn_cons, Sem.run_bind, hn.1, ne_eq, not_false_eq_true, if_true, Result.andThen_ok, hn.2, part_flat q2 q3 x1, qc em w _ x1, Sem.run_pure]
                      exact ih (off + k1.length) k2 h2 (by omega) x2
                    · cases h
              rw [key fs.toList 0 ks hk (by simp) (by simpa using hx)]
              rfl
          · cases h
        · cases h
    · cases h

end

class FlatK (P : Program) (t : TypeId) (ks : outParam (List CK)) : Prop where
  h : flatK P 10 t = some (true, ks)
  g : P.eqGuardType P.depth t = false

section
variable {P : Program} {r : Option Nat} {l : Slots} {G : Heap} {L : Locs} {d : Option Tmp} {ty : TypeId} {pos : String} {af : Array Edge} {g : Option (Nat × Bool)}

theorem FlatK.run {t : TypeId} {ks : List CK} [h : FlatK P t ks] {xs ys : List Value} (hx : fitsL ks xs = true) (hy : fitsL ks ys = true) (w : World) : (Op.equal t (.agg ⟨xs⟩) (.agg ⟨ys⟩)).run P w = .ok (cellsEq xs ys) w :=
  (flat_spec 10 9990 t true ks h.h).1 w xs ys hx hy

theorem PS.eqFlat {t u : TypeId} {x y : Operand} {xs ys : List Value} {ks : List CK} [h : FlatK P t ks] (hx : evL l x = some (.agg ⟨xs⟩)) (hy : evL l y = some (.agg ⟨ys⟩)) (h1 : fitsL ks xs = true) (h2 : fitsL ks ys = true) :
    PS P ⟨d, .binOp .eql t x y u, ty, pos, af, g⟩ l G L (.bool (cellsEq xs ys)) :=
  PS.eqOf (a := .agg ⟨xs⟩) (b := .agg ⟨ys⟩) hx hy (fun w => run_eqGuard_agg w _ _ _ _ _ _ h.g) (fun w => eqRes_run (e := cellsEq xs ys) rfl (by simp) (by simp) (by simp) (by simp) (fun w => FlatK.run h1 h2 w) w)

theorem PS.eqFlatN {t u : TypeId} {x y : Operand} {xs ys : List Value} {ks : List CK} [h : FlatK P t ks] (hx : evL l x = some (.agg ⟨xs⟩)) (hy : evL l y = some (.agg ⟨ys⟩)) (h1 : fitsL ks xs = true) (h2 : fitsL ks ys = true) :
    PS P ⟨d, .binOp .neq t x y u, ty, pos, af, g⟩ l G L (.bool (!cellsEq xs ys)) :=
  PS.eqOf (a := .agg ⟨xs⟩) (b := .agg ⟨ys⟩) hx hy (fun w => run_eqGuard_agg w _ _ _ _ _ _ h.g) (fun w => eqRes_run (e := cellsEq xs ys) rfl (by simp) (by simp) (by simp) (by simp) (fun w => FlatK.run h1 h2 w) w)

end
end Go.Proofs.YtfoakjdnopljmaaGreatDoor

set_option linter.unusedVariables false
set_option linter.unusedSimpArgs false
namespace Go.Proofs.YtfoakjdnopljmaaGreatDoor
open Go Go.ChangeShapes Go.WideShapes Go.ChangeAt Go.RowKit

/-! ### From a law over the old heap to the row's own words -/

/-- Every block of a world, as it is. -/
def oldH (W : World) : Heap := fun b => (W.heap[b]?).map .obj

theorem holds_oldH (W : World) : Holds (oldH W) W := fun b V h => by
  simp only [oldH, Option.map_eq_some_iff] at h
  obtain ⟨o, h1, rfl⟩ := h
  exact ⟨o, h1, rfl⟩

theorem calls_below {P : Program} {f : FuncId} {args : List Value} {W : World} {v : Value} (h : EvP P f args (oldH W) v) : Calls P f ⟨args⟩ W fun e W' => e = .returned v ∧ Below W.heap.size W W' := by
  refine (callsIn_wide.1 (h.2 W (holds_oldH W))).mono fun e W' ⟨u, H', h1, h2, h3, h4, h5⟩ => ?_
  subst h4 h5
  obtain ⟨⟨f1, _⟩, f2, f3, f4, _⟩ := h3
  refine ⟨h1, f1, f2, f3, f4, fun k hk => ?_⟩
  obtain ⟨o, g1, g2⟩ := h2 k (.obj W.heap[k]) (by simp [oldH, hk])
  have g2 : o = W.heap[k] := g2
  rw [g1, g2, Array.getElem?_eq_getElem hk]

section
variable {H : Type} {enc : TypeId × Value → H} {P : Program}

theorem trodAll_below (hl : laidOutB P = true) {W W' : World} (hb : Below W.heap.size W W') : ∀ {ts : List TypeId} {vs : List Value} {ds : List (DataW H)} {ps : List MemPlace}, (ts.all fun t => P.readableRec t && decide (t < P.types.size)) = true →
    DataW.TrodAll enc P W 0 (fun _ => true) true ts vs ds ps → (∀ x ∈ ps, x.block < W.heap.size) → DataW.TrodAll enc P W' 0 (fun b => decide (b < W.heap.size)) true ts vs ds ps
  | [], [], [], ps, _, h, _ => h
  | t :: ts, v :: vs, d :: ds, ps, ht, h, hlt => by
    simp only [List.all_cons, Bool.and_eq_true, decide_eq_true_eq] at ht
    obtain ⟨p, q, h1, h2, rfl⟩ := h
    exact ⟨p, q, Below.trod hl ht.1.1 ht.1.2 h1 hb (fun x hx => hlt x (List.mem_append_left _ hx)), trodAll_below hl hb ht.2 h2 (fun x hx => hlt x (List.mem_append_right _ hx)), rfl⟩
  | [], _ :: _, _, _, _, h, _ => h.elim
  | [], [], _ :: _, _, _, h, _ => h.elim
  | _ :: _, [], _, _, _, h, _ => h.elim
  | _ :: _, _ :: _, [], _, _, h, _ => h.elim

/-- A call that hands back true and writes nothing that was there. -/
theorem post_true (hl : laidOutB P = true) {fn : Func} {s : ChangeSpec} {W W' : World} {args : Array Value} {ds gs : List (DataW H)} {before : List MemPlace} {t : TypeId} (hv : s.vars = []) (hr : fn.resultTypes = #[t]) (ht : P.underlying t = some .bool)
    (hts : (fn.params.toList.all fun t => P.readableRec t && decide (t < P.types.size)) = true) (hW : DataW.Whole enc P fn.params.toList s.vars false W args.toList ds gs before)
    (hs : s.fn H (ds ++ gs) = { results := [.lit (.bool true)], args := ds }) (hb : Below W.heap.size W W') : s.post enc P fn false true false false W args (.bool true) W' := by
  have hlt := hW.lt
  obtain ⟨p, q, h1, h2, hpq, h3⟩ := hW
  rw [hv] at h2
  obtain ⟨hg, rfl⟩ := trodVars_none h2
  refine ⟨ds, gs, before, [], p, [], ⟨p, [], h1, by rw [hv]; exact h2, hpq, h3⟩, ?_, ?_, ?_, hb.frame _, fun h => by cases h⟩
  · rw [hs, hr]
    exact trodAll_mk1 (shut_bool ht true)
  · rw [hs]
    exact trodAll_below hl hb hts h1 (fun x hx => hlt x (by rw [hpq]; simpa using hx))
  · rw [hs, hv]; rfl

/-! ### Reading bytes, slices -/

def U8At (cs : List Value) (i : Nat) : Prop := ∃ c : UInt8, cs[i]? = some (u8 c)

variable {w : World} {base fuel : Nat} {spare : Nat → Bool} {held : Bool} {cs : List Value} {x : DataW H × List MemPlace} {o n : Nat}

theorem u8_wf {z : Int} (h : (Lit.int .u8 z).wf = true) : ∃ c : UInt8, Value.int .u8 z = u8 c := by
  obtain ⟨h1, h2⟩ := bounds_u8 h
  refine ⟨UInt8.ofNat z.toNat, ?_⟩
  have : ((UInt8.ofNat z.toNat).toNat : Int) = z := by
    rw [UInt8.toNat_ofNat_of_lt' (by show _ < 256; omega)]; omega
  rw [u8, this]

theorem u8_int {t : TypeId} (ht : P.underlying t = some (.int .u8)) (h : DataW.trod enc P w base spare held fuel t ((cs.drop o).take 1) = some x) : U8At cs o := by
  obtain ⟨z, e1, _, hw⟩ := DataW.trod_int ht h
  obtain ⟨c, hc⟩ := u8_wf hw
  refine ⟨c, ?_⟩
  have : ((cs.drop o).take 1)[0]? = some (.int .u8 z) := by rw [e1]; rfl
  rw [List.getElem?_take, if_pos (by omega), List.getElem?_drop] at this
  rw [← hc]; simpa using this

theorem drop_take_drop {o m j k : Nat} (h : j + k ≤ m) : (((cs.drop o).take m).drop j).take k = (cs.drop (o + j)).take k := by
  rw [List.drop_take, List.take_take, List.drop_drop, Nat.min_eq_left (by omega)]

theorem u8_arr {t e : TypeId} (ht : P.underlying t = some (.array n e)) (he : P.underlying e = some (.int .u8)) (ce : P.cellsOf e = 1) (h : DataW.trod enc P w base spare held fuel t ((cs.drop o).take n) = some x) :
    ∀ i, i < n → U8At cs (o + i) := by
  intro i hi
  obtain ⟨xs, m, _, _, _, hl, hel⟩ := DataW.trod_array ht h
  have hE := hel i hi
  rw [ce, Nat.mul_one, List.getElem?_eq_getElem (by omega), drop_take_drop (by omega)] at hE
  exact u8_int he hE

theorem u8_all : ∀ {cs : List Value}, (∀ i, i < cs.length → U8At cs i) → ∃ ks : List UInt8, ks.length = cs.length ∧ cs = ks.map u8
  | [], _ => ⟨[], rfl, rfl⟩
  | v :: cs, h => by
    obtain ⟨c, hc⟩ := h 0 (by simp)
    obtain ⟨ks, h1, h2⟩ := u8_all (cs := cs) fun i hi => by
      obtain ⟨c, hc⟩ := h (i + 1) (by simp; omega)
      exact ⟨c, by simpa using hc⟩
    simp only [List.getElem?_cons_zero, Option.some.injEq] at hc
    exact ⟨c :: ks, by simp [h1], by rw [hc, List.map_cons, ← h2]⟩

/-- Bytes at a stretch of cells. -/
theorem u8_stretch (hn : o + n ≤ cs.length) (h : ∀ i, i < n → U8At cs (o + i)) : ∃ ks : List UInt8, ks.length = n ∧ (cs.drop o).take n = ks.map u8 := by
  have hl : ((cs.drop o).take n).length = n := by simp; omega
  obtain ⟨ks, h1, h2⟩ := u8_all (cs := (cs.drop o).take n) fun i hi => by
    rw [hl] at hi
    obtain ⟨c, hc⟩ := h i hi
    exact ⟨c, by rw [List.getElem?_take, if_pos hi, List.getElem?_drop]; exact hc⟩
  exact ⟨ks, by omega, h2⟩

/-- The elements of a slice, as the old heap's view shows them. -/
theorem slice_old {W : World} {t e : TypeId} {v : Value} {d : DataW H} {ps : List MemPlace} {n : Nat} {R : List Value → Prop} (ht : P.underlying t = some (.slice e)) (ce : P.cellsOf e = n) (hn : 0 < n) (hval : ∃ a len cap, v = .slice a len cap)
    (h : DataW.Trod enc P W 0 spare held t v d ps) (hR : ∀ cs fuel x, cs.length = n → DataW.trod enc P W 0 spare held fuel e cs = some x → R cs) :
    ∃ (a : Option Addr) (b off len cap : Nat) (V : View), v = .slice a len cap ∧ len ≤ cap ∧ cap ≤ maxLen ∧
      (0 < len → a = some ⟨b, off, none⟩ ∧ oldH W b = some V ∧ ∀ i, i < len → ∃ cs, cs.length = n ∧ R cs ∧ V.take (off + i * n) n = some cs) := by
  obtain ⟨a, len, cap, rfl⟩ := hval
  obtain ⟨fuel, hf⟩ := h
  rcases DataW.trod_slice ht hf with ⟨hcs, _⟩ | ⟨a', len', cap', elems, rest, m, _, hcs, _, _, hlc, hcap, hlen, hel, _⟩
  · have : Value.slice a len cap = .slice none 0 0 := by simpa [Value.cells] using hcs
    cases this
    exact ⟨none, 0, 0, 0, 0, .map [], rfl, Nat.le_refl _, by simp [maxLen], fun h => by omega⟩
  · have : Value.slice a len cap = .slice (some a') len' cap' := by simpa [Value.cells] using hcs
    cases this
    have key : ∀ i, i < len → ∃ cs : List Value, cs.length = n ∧ R cs ∧ ∀ j v, cs[j]? = some v → W.cell? ((a'.add (i * n)).add j) = some v := by
      intro i hi
      have := hel i hi
      rw [ce, List.getElem?_eq_getElem (by omega), Option.bind_eq_some_iff] at this
      obtain ⟨cs, hc, hx⟩ := this
      unfold World.cells? at hc
      rw [if_pos (Nat.zero_le _)] at hc
      have hcl : cs.length = n := by simpa using mapM_some_length hc
      refine ⟨cs, hcl, hR cs _ _ hcl hx, fun j v hj => ?_⟩
      have hjn : j < n := by rw [← hcl]; exact (List.getElem?_eq_some_iff.1 hj).1
      have := mapM_some_get hc j j (by simp [hjn])
      rw [this, hj]
    obtain ⟨b, off, spot⟩ := a'
    cases hl0 : len with
    | zero => exact ⟨_, 0, 0, 0, cap, .map [], rfl, by omega, hcap, fun h => by omega⟩
    | succ len1 =>
      obtain ⟨cs0, hc0, _, hc0'⟩ := key 0 (by omega)
      have h00 := hc0' 0 _ (List.getElem?_eq_getElem (by omega))
      have hspot : spot = none := by simpa [Addr.add] using World.cell?_spot h00
      subst hspot
      have hblk : ∃ c ty fr, W.heap[b]? = some (.cells c ty fr) := by
        have h00' : W.cell? ⟨b, off, none⟩ = some cs0[0] := by simpa [Addr.add] using h00
        unfold World.cell? at h00'
        split at h00'
        · rename_i c ty fr hb; exact ⟨c, ty, fr, hb⟩
        · cases h00'
      obtain ⟨c, ty, fr, hb⟩ := hblk
      refine ⟨_, b, off, _, cap, .obj (.cells c ty fr), rfl, by omega, hcap, fun _ => ⟨rfl, by simp [oldH, hb], fun i hi => ?_⟩⟩
      obtain ⟨cs, h1, h2, h3⟩ := key i (by omega)
      refine ⟨cs, h1, h2, ?_⟩
      rw [← h1]
      refine View.take_list fun j v hj => ?_
      have := h3 j v hj
      rw [Go.WideShapes.add_plain, Go.WideShapes.add_plain] at this
      unfold World.cell? at this
      simp only [hb] at this
      simpa [View.cell, h1] using this

end
end Go.Proofs.YtfoakjdnopljmaaGreatDoor

set_option linter.unusedVariables false
set_option linter.unusedSimpArgs false
namespace Go.Proofs.YtfoakjdnopljmaaGreatDoor
open Go

/-! ### Functions that the model has for itself -/

/-- A function without a body: what it hands back. -/
def Xv (P : Program) (f : FuncId) (args : List Value) (H : Heap) (v : Value) : Prop := ∀ w, Holds H w → (callFunc f ⟨args⟩).run P w = .ok (.value v) w

theorem Xv.of {P : Program} {f : FuncId} {fn : Func} {e : Array Value → Sem Value} {args : List Value} {H : Heap} {v : Value} (hf : P.funcs[f]? = some fn) (hn : (fn.name == "runtime.NumGoroutine") = false) (hb : fn.body.isNone = true)
    (hx : Extern.findNext fn = none) (he : Extern.find fn = some e) (h : ∀ w, Holds H w → (e ⟨args⟩).run P w = .ok v w) : Xv P f args H v := fun w hw => by
  simp only [callFunc, Sem.run_bind, run_program, Result.andThen_ok, hf, hn, Bool.false_eq_true, if_false, hb, if_true, run_mark, hx, he, h w hw, Sem.run_pure]

/-- What a slice of bytes reads as. -/
def BytesAt (H : Heap) (v : Value) (s : List UInt8) : Prop :=
  (∃ b off cap V, v = .slice (some ⟨b, off, none⟩) s.length cap ∧ H b = some V ∧ V.take off s.length = some (s.map u8)) ∨ (v = .slice none 0 0 ∧ s = [])

theorem bytesOf_map (s : List UInt8) : Lib.bytesOf (s.map fun c => (c.toNat : Int)) = s := by
  simp only [Lib.bytesOf, List.map_map]
  conv => rhs; rw [← List.map_id s]
  apply List.map_congr_left
  intro c _
  simp [Function.comp]

theorem BytesAt.run {P : Program} {H : Heap} {v : Value} {s : List UInt8} (h : BytesAt H v s) {w : World} (hw : Holds H w) : (Extern.Bytes.bytesOf v).run P w = .ok ⟨⟨s⟩⟩ w := by
  rcases h with ⟨b, off, cap, V, rfl, hb, ht⟩ | ⟨rfl, rfl⟩
  · obtain ⟨h1, h2⟩ := View.take_spec ht
    have := Lib.run_loadBytesX (P := P) w (s.map fun c => (c.toNat : Int)) ⟨b, off, none⟩ .empty (fun j x hj => by
      rw [add_none]
      refine hw.cell? hb (h2 j _ ?_)
      simp only [List.getElem?_map, Option.map_eq_some_iff] at hj ⊢
      obtain ⟨c, hc, rfl⟩ := hj
      exact ⟨c, hc, rfl⟩)
    simp only [List.length_map] at this
    simp only [Extern.Bytes.bytesOf, this, bytesOf_map]
    congr 1
    apply ByteArray.ext
    show (#[] : Array UInt8) ++ s.toArray = _
    simp
  · rfl

theorem indexByte_run {P : Program} {w : World} {v : Value} {s : List UInt8} {c : UInt8} (h : (Extern.Bytes.bytesOf v).run P w = .ok ⟨⟨s⟩⟩ w) :
    (Extern.BytealgIndexByte.indexByte ⟨[v, u8 c]⟩).run P w = .ok (.int .i64 (Lib.indexByte s c)) w := by
  have hs := Lib.run_indexByteString (P := P) ⟨⟨s⟩⟩ (c.toNat : Int) w
  change Sem.run P (do
    let b ← Extern.Bytes.bytesOf v
    let c ← Extern.Bytes.asByte (u8 c)
    match (List.range b.size).find? fun i => b[i]! == c with
    | some i => pure (goInt i)
    | none => pure (goInt (-1))) w = _
  change Sem.run P (do
    let b ← Extern.Bytes.bytesOf (.string ⟨⟨s⟩⟩)
    let c ← Extern.Bytes.asByte (u8 c)
    match (List.range b.size).find? fun i => b[i]! == c with
    | some i => pure (goInt i)
    | none => pure (goInt (-1))) w = _ at hs
  have e : (Extern.Bytes.bytesOf (.string ⟨⟨s⟩⟩)).run P w = .ok ⟨⟨s⟩⟩ w := rfl
  simp only [Sem.run_bind, h, Result.andThen_ok]
  simp only [Sem.run_bind, e, Result.andThen_ok] at hs
  rw [hs]
  simp

theorem compare_run {P : Program} {w : World} {u v : Value} {s t : List UInt8} (h1 : (Extern.Bytes.bytesOf u).run P w = .ok ⟨⟨s⟩⟩ w) (h2 : (Extern.Bytes.bytesOf v).run P w = .ok ⟨⟨t⟩⟩ w) :
    (Extern.BytealgCompare.compare ⟨[u, v]⟩).run P w = .ok (.int .i64 (Lib.compareBytes s t)) w := by
  change Sem.run P (do pure (goInt (Extern.BytealgCompare.cmp (← Extern.Bytes.bytesOf u) (← Extern.Bytes.bytesOf v)))) w = _
  simp only [Sem.run_bind, h1, h2, Result.andThen_ok, Sem.run_pure, Lib.cmp_eq]
  rfl

section
variable {P : Program}
theorem run_storeCells_view {H : Heap} {w : World} {b off : Nat} {V V' : View} {vs : List Value} (hh : Holds H w) (hb : H b = some V)
    (ho : ∀ u ∈ vs, u.oneCell' = true) (hw : V.write off vs = some V') :
    ∃ w', (storeCells ⟨b, off, none⟩ vs 0).run P w = .ok () w' ∧ Holds (H.set b V') w' ∧ Frame H w (H.set b V') w' := by
  obtain ⟨o, hob, hok⟩ := hh b V hb
  have hlt := (Array.getElem?_eq_some_iff.1 hob).1
  have main : ∀ (c : Array Value) (e : TypeId) (fr : Nat × Nat), o = .cells c e fr → off + vs.length ≤ c.size →
      (∀ j, off ≤ j → j < off + vs.length → ¬ (fr.1 ≤ j ∧ j < fr.2)) → V'.ok (.cells ⟨wr c.toList off vs⟩ e fr) →
      ∃ w', (storeCells ⟨b, off, none⟩ vs 0).run P w = .ok () w' ∧ Holds (H.set b V') w' ∧ Frame H w (H.set b V') w' := by
    rintro c e fr rfl hl hf hv
    refine ⟨putRow w b ⟨wr c.toList off vs⟩ e fr, ?_, holds_put hh (fun k hk => putRow_other _ _ _ _ _ hk) ⟨_, putRow_same _ _ _ _ _ hlt, hv⟩,
      frame_put hb (by simp [putRow]) ⟨rfl, Nat.le_refl _⟩ rfl rfl (fun k hk => putRow_other _ _ _ _ _ hk)⟩
    have := run_storeCells_row (P := P) vs off 0 c w hob (by omega) (fun j h1 h2 => hf j (by omega) (by omega)) ho
    simp only [Nat.add_zero] at this
    exact this
  cases V with
  | obj o' => simp [View.write] at hw
  | map es => simp [View.write] at hw
  | cells cs e =>
    obtain ⟨fr, rfl, hfr⟩ := hok
    simp only [View.write] at hw
    split at hw
    · rename_i hl
      cases hw
      exact main _ _ _ rfl (by simpa using hl) (fun j h1 h2 => hfr j (by omega) (by omega)) ⟨fr, rfl, by rw [wr_length]; exact hfr⟩
    · cases hw
  | row ro cs e N =>
    obtain ⟨c, fr, rfl, h1, h2, h3, h4⟩ := hok
    simp only [View.write] at hw
    split at hw
    · rename_i hl
      cases hw
      refine main _ _ _ rfl (by omega) (fun j k1 k2 => h3 j (by omega) (by omega)) ⟨_, fr, rfl, by simp [wr_length, h1], by rw [wr_length]; exact h2, h3, fun i u hu => ?_⟩
      have hwl : off + vs.length ≤ c.toList.length := by simp; omega
      have e1 := wr_get vs c.toList off (ro + i) hwl
      have e2 := wr_get vs cs (off - ro) i hl.2
      rw [e2] at hu
      rw [← Array.getElem?_toList]
      show (wr c.toList off vs)[ro + i]? = some u
      rw [e1]
      split at hu
      · rename_i hc
        rw [if_pos (by omega)]
        rw [← hu]
        congr 1
        omega
      · rename_i hc
        rw [if_neg (by omega)]
        have := h4 i u hu
        simpa using this
    · cases hw
end

section
variable {P : Program} {r : Option Nat} {l : Slots} {G : Heap} {L : Locs} {d : Option Tmp} {ty : TypeId} {pos : String} {af : Array Edge} {g : Option (Nat × Bool)}

theorem PS.ext {c : Operand} {args : Array Operand} {ats : Array TypeId} {f : FuncId} {first caps vs : List Value} {v : Value} (hc : evL l c = some (.func (.func f) ⟨first⟩ ⟨caps⟩)) (ha : evs l args.toList = some vs)
    (h : Wf G L → Xv P f (first ++ vs ++ caps) (ov G L) v) : PS P ⟨d, .call ⟨.value c, args, ats⟩, ty, pos, af, g⟩ l G L v := fun wf a w hs hh => by
  have e2 := evs_arr hs ha
  have e3 := h wf w hh
  simp only [execOp, resolve, hs.eval hc, Deferred.ofValue, Sem.run_bind, Sem.run_pure, Result.andThen_ok, Go.invoke, e2]
  simpa using e3

theorem PS.min {x y : Operand} {ats : Array TypeId} {k : IntKind} {a b : Int} (hx : evL l x = some (.int k a)) (hy : evL l y = some (.int k b)) :
    PS P ⟨d, .call ⟨.builtin .min, #[x, y], ats⟩, ty, pos, af, g⟩ l G L (.int k (if b < a then b else a)) :=
  .of fun act w he => by simp [execOp, resolve, Go.invoke, builtin, Builtin.min_, Builtin.min2, he.eval hx, he.eval hy]

theorem PS.max {x y : Operand} {ats : Array TypeId} {k : IntKind} {a b : Int} (hx : evL l x = some (.int k a)) (hy : evL l y = some (.int k b)) :
    PS P ⟨d, .call ⟨.builtin .max, #[x, y], ats⟩, ty, pos, af, g⟩ l G L (.int k (if a < b then b else a)) :=
  .of fun act w he => by simp [execOp, resolve, Go.invoke, builtin, Builtin.max_, Builtin.max2, he.eval hx, he.eval hy]

theorem PS.lenArr {x : Operand} {t e : TypeId} {n : Nat} {v : Value} [ht : Und P t (.array n e)] (hx : evL l x = some v) : PS P ⟨d, .call ⟨.builtin .len, #[x], #[t]⟩, ty, pos, af, g⟩ l G L (num n) :=
  .of fun a w he => by simp [execOp, resolve, Go.invoke, builtin, Builtin.len_, he.eval hx, run_underlying ht.h, goInt]

end

/-! ### New rows -/

/-- An element's type: cells, bytes, zero value. -/
def infoK (P : Program) (e : TypeId) : Option (Nat × Nat × List Value) :=
  match P.info? e with
  | some i => match i.zero with
    | some v => some (i.size, i.bytes, v.cells.toList)
    | none => none
  | none => none

class InfoK (P : Program) (e : TypeId) (n bytes : outParam Nat) (z : outParam (List Value)) : Prop where
  h0 : infoK P e = some (n, bytes, z)
  hz : z.length = n

theorem InfoK.h {P : Program} {e : TypeId} {n bytes : Nat} {z : List Value} (k : InfoK P e n bytes z) : ∃ i v, P.info? e = some i ∧ i.size = n ∧ i.bytes = bytes ∧ i.zero = some v ∧ v.cells.toList = z := by
  have h := k.h0
  unfold infoK at h
  split at h
  · rename_i i hi
    split at h
    · rename_i v hv
      simp only [Option.some.injEq, Prod.mk.injEq] at h
      exact ⟨i, v, hi, h.1, h.2.1, hv, h.2.2⟩
    · cases h
  · cases h

def zeros (z : List Value) (n : Nat) : List Value := (List.replicate n z).flatten

section
variable {P : Program} {r : Option Nat} {l : Slots} {G : Heap} {L : Locs} {d : Option Tmp} {ty : TypeId} {pos : String} {af : Array Edge} {g : Option (Nat × Bool)}

theorem zeros_length (z : List Value) (n : Nat) : (zeros z n).length = n * z.length := by simp [zeros, List.length_flatten]

theorem zeros_eq (z : List Value) (n m : Nat) (hm : z.length = m) : (List.range (n * m)).map (fun i => z.getD (i % m) undef) = zeros z n := by
  subst hm
  induction n with
  | zero => simp [zeros]
  | succ n ih =>
    have h1 : zeros z (n + 1) = zeros z n ++ z := by
      simp only [zeros]
      rw [List.replicate_succ', List.flatten_append]
      simp
    rw [h1, ← ih, Nat.add_mul, Nat.one_mul, List.range_add, List.map_append, List.map_map]
    congr 1
    apply List.ext_getElem?
    intro i
    by_cases hi : i < z.length
    · simp [hi, Function.comp, Nat.mod_eq_of_lt hi, List.getD_eq_getElem?_getD]
    · simp [hi]

theorem madeCells_eq {v : Value} {z : List Value} {n m : Nat} (h : v.cells.toList = z) (hm : z.length = m) : madeCells v.cells (n * m) = (⟨zeros z n⟩ : Array Value) := by
  apply Array.ext'
  rw [← zeros_eq z n m hm]
  unfold madeCells
  have hsz : v.cells.size = m := by rw [← hm, ← h]; simp
  simp only [Array.toList_map, Array.toList_range, hsz]
  apply List.map_congr_left
  intro i hi
  have hpos : 0 < m := by
    rcases Nat.eq_zero_or_pos m with e | e
    · subst e; simp at hi
    · exact e
  have : i % m < v.cells.size := by rw [hsz]; exact Nat.mod_lt _ hpos
  rw [getElem!_pos v.cells (i % m) this, ← h]
  simp [List.getD_eq_getElem?_getD, this]

/-- 'make([]T, len, cap)'. -/
theorem NS.makeSlice {t e : TypeId} {x y : Operand} {n bytes c m : Nat} {ag : Bool} {z : List Value} {k k' : IntKind} {i j : Int} [ht : ElemK P t none e ag n] [hi : InfoK P e n bytes z] (hx : evL l x = some (.int k i)) (hy : evL l y = some (.int k' j))
    (e1 : i = m) (e2 : j = c) (h1 : m ≤ c) (hb : bytes * c ≤ 281474976710656) (hc : c ≤ 9223372036854775807) :
    NS P ⟨d, .makeSlice t x y, ty, pos, af, g⟩ l (fun b => .slice (some ⟨b, 0, none⟩) m c) (.row 0 (zeros z c) e (c * n)) := fun a w hs => by
  subst e1 e2
  obtain ⟨k1, k2⟩ := elemK_slice ht.h
  obtain ⟨inf, v, q1, q2, q3, q4, q5⟩ := hi.h
  have hr := run_make (P := P) w t e inf v k1 q1 q4 k k' (m : Int) (c : Int) (by omega) (by omega) (by rw [q3]; have : ((bytes * c : Nat) : Int) ≤ 281474976710656 := Int.ofNat_le.2 hb; rwa [Int.natCast_mul] at this) (by omega)
  simp only [Int.toNat_natCast] at hr
  have hmc := madeCells_eq (n := c) q5 hi.hz
  rw [q2] at hr
  rw [hmc] at hr
  refine ⟨.cells ⟨zeros z c⟩ e, by simp only [execOp, hs.eval hx, hs.eval hy, Sem.run_bind, hr, Result.andThen_ok, Sem.run_pure], ⟨zeros z c⟩, (0, 0), rfl, ?_, ?_, fun i _ _ h => Nat.not_lt_zero _ h.2, fun i v hi => by rw [Nat.zero_add, List.getElem?_toArray]; exact hi⟩
  · show (zeros z c).length = _; rw [zeros_length, hi.hz]
  · rw [zeros_length, hi.hz]; omega

end
end Go.Proofs.YtfoakjdnopljmaaGreatDoor

set_option linter.unusedVariables false
set_option linter.unusedSimpArgs false
namespace Go.Proofs.YtfoakjdnopljmaaGreatDoor
open Go

section
variable {P : Program} {r : Option Nat} {ops : Array Oper} {k : Nat} {Q : Post} {n : Nat} {ds : List Nat} {rem : List Nat} {X : List LateI} {l : Slots} {G : Heap} {L : Locs}

/-- An operation that turns the world, where nothing but late ones stands beside it. -/
theorem Scr.gsW {i : Nat} {o : Oper} {R : Value → Heap → Locs → Prop} (ho : ops[i]? = some o) (hi : rem.contains i = true) (hone : onlyB ops rem i = true) (hw : Wants ops l o true) (h : GS P r o l G L R)
    (hl : ∀ x ∈ X, ∀ d, dstAt ops x.i = some d → look d l = none)
    (K : ∀ v G' L', R v G' L' → (Wf G L → Wf G' L' → Sub (ov G L) (ov G' L')) ∧ Scr P r ops k Q n ds (rem.erase i) X (putL o.dst v l) G' L') : Scr P r ops k Q n ds rem X l G L := by
  have hi := List.contains_iff_mem.1 hi
  intro D hdst st wf H0 w0 a w S he hh hf hL hn m hm
  have hlen : (rem.erase i).length + 1 = rem.length := by rw [List.length_erase_of_mem hi]; have := List.length_pos_of_mem hi; omega
  induction m generalizing a w S with
  | zero => omega
  | succ m ih =>
    refine ⟨hh, fun hno => absurd (.inl hi) (hno i), fun j hj hr => ?_⟩
    by_cases hji : j = i
    · subst hji
      unfold wpOpIn
      simp only [ho]
      rw [if_pos (hw a he.2.1)]
      refine ⟨fun _ _ => trivial, ?_⟩
      rw [h.sem wf he.2.1 hh]
      refine uponIn_mono (h wf a w he.2.1 hh) ?_ (fun _ _ _ h => h.elim)
      rintro a' w' ⟨v, G', L', rfl, k2, k3, k4, k5⟩
      obtain ⟨hsub, hscr⟩ := K v G' L' k5
      rw [del_rem st hi]
      have hL1 : Lat P ops (ov G L) w0 (a.put o.dst v) w X S := hL.put D st hi ho (fun j' hj' => by cases hh' : edgeB o j' with | false => rfl | true => exact absurd (.inr hj') (hr o ho j' hh'))
      have hL2 : Lat P ops (ov G' L') w0 (a.put o.dst v) w' X S := Lat.mono (fun x hx s hs => by
        cases s with
        | none => exact hs
        | some b =>
          obtain ⟨m1, m2, m3, obj, m4, m5⟩ := hs
          have hlt := (Array.getElem?_eq_some_iff.1 m4).1
          obtain ⟨f1, f2⟩ := k4.2.2.2.2 b hlt m1
          exact ⟨f1, m2, m3, obj, by rw [f2]; exact m4, m5⟩) hL1
      exact AnyK.weaken (fun w hw => hw.sub (hsub wf k2)) (hscr D hdst st.erase k2 H0 w0 _ w' S (he.put o.dst v (dst_lt hdst ho)) k3 (hf.trans k4) hL2 hn m (by omega))
    · rcases hj with hj | hj
      · exfalso
        have := List.all_eq_true.1 hone j hj
        simp only [Bool.or_eq_true, beq_iff_eq, hji, false_or] at this
        have hlt : j < ops.size := Nat.lt_of_lt_of_le (st.lt j (List.mem_append_left _ hj)) D.le
        rw [Array.getElem?_eq_getElem hlt] at this
        simp only [List.any_eq_true] at this
        obtain ⟨i', hi', he'⟩ := this
        exact hr _ (Array.getElem?_eq_getElem hlt) i' he' (.inl hi')
      · have hsz : ∀ (i : Nat) (o : Oper), ops[i]? = some o → ∀ d, o.dst = some d → d < a.tmps.size := fun i o ho d hd => by rw [he.1]; exact dst_lt hdst ho d hd
        obtain ⟨o', x, obj, S', hx, hxi, ho', hg', hrun, hL', hc, hpd, hbs, hnd⟩ := late_now D hh hf.2.2.2.1 hsz (fun x hx => st.lt x.i (List.mem_append_right _ (List.mem_map.2 ⟨x, hx, rfl⟩)))
          (List.nodup_append.1 st.nodup).2.1 st.edgeX (fun b hb => (hL.blocks b hb).2) hL hj
        refine wpOpIn_late ho' (D.plain _ _ ho') hg' hrun ?_
        have hR : del (fun j => j ∈ rem ∨ pendR X S j) j = fun j => j ∈ rem ∨ pendR X S' j := by
          funext y
          simp only [del, eq_iff_iff]
          constructor
          · rintro ⟨h | h, hne⟩
            · exact .inl h
            · exact .inr ((hpd y).2 ⟨h, hne⟩)
          · rintro (h | h)
            · exact ⟨.inl h, fun e => by subst e; exact st.not_late h x hx hxi⟩
            · exact ⟨.inr ((hpd y).1 h).1, ((hpd y).1 h).2⟩
        rw [hR]
        refine ih _ _ S' ⟨?_, ?_, ?_⟩ (holds_alloc' hh _) (hf.trans (frame_alloc' hh _)) hL' (hnd hn) (by omega)
        · cases hd : o'.dst <;> simp [Act.put, he.1]
        · intro t u hu
          have hne : o'.dst ≠ some t := fun e => by
            have := hl x hx t (by rw [hxi]; simp [dstAt, ho', e])
            rw [this] at hu
            cases hu
          rw [(same_put o'.dst a _).2 t hne]
          exact he.2.1 t u hu
        · cases hd : o'.dst <;> exact he.2.2


variable {ty : TypeId} {pos : String} {af : Array Edge} {g : Option (Nat × Bool)}
theorem Scr.noW {i : Nat} {o : Oper} (ho : ops[i]? = some o) (hi : rem.contains i = true) (hr : rdyB ops (rem ++ X.map (·.i)) i = true) (hw : Wants ops l o false)
    (K : Scr P r ops k Q n ds (rem.erase i) X (putL o.dst undef l) G L) : Scr P r ops k Q n ds rem X l G L :=
  Scr.yld ho (List.contains_iff_mem.1 hi) hr (fun wf a hs => .inr ⟨hw a hs, rfl⟩) K

/-- A call behind a test, in a region that draws its order. -/
theorem Scr.clc {i : Nat} {d : Option Tmp} {c : Operand} {args : Array Operand} {ats : Array TypeId} {f : FuncId} {first caps vs : List Value} {v : Value} {b : Bool} (ho : ops[i]? = some ⟨d, .call ⟨.value c, args, ats⟩, ty, pos, af, g⟩)
    (hi : rem.contains i = true) (hone : onlyB ops rem i = true) (hr : rdyB ops (rem ++ X.map (·.i)) i = true) (hw : Wants ops l ⟨d, .call ⟨.value c, args, ats⟩, ty, pos, af, g⟩ b)
    (hc : b = true → evL l c = some (.func (.func f) ⟨first⟩ ⟨caps⟩)) (ha : b = true → evs l args.toList = some vs) (h : b = true → Wf G L → EvP P f (first ++ vs ++ caps) (ov G L) v)
    (hl : ∀ x ∈ X, ∀ d, dstAt ops x.i = some d → look d l = none) (K : Scr P r ops k Q n ds (rem.erase i) X (putL d (gv b v) l) G L) : Scr P r ops k Q n ds rem X l G L := by
  cases b with
  | true => exact Scr.gsW ho hi hone hw (GS.callP (hc rfl) (ha rfl) (h rfl)) hl fun u G' L' ⟨h1, h2, h3⟩ => by rw [h1, h2, h3]; exact ⟨fun _ _ => Sub.refl _, K⟩
  | false => exact Scr.noW ho hi hr hw K

/-- The end of the first part, where no block is late. -/
theorem Scr.end (h : WPL P r ops (ops.toList.drop k) Q ⟨n, l, ds⟩ G L) : Scr P r ops k Q n ds [] [] l G L :=
  Scr.done h (by simp)

theorem late0 : ∀ x ∈ ([] : List LateI), ∀ d, dstAt ops x.i = some d → look d l = none := by simp
theorem lateC {x : LateI} {t : Nat} (h1 : dstAt ops x.i = some t) (h2 : look t l = none) (h : ∀ x ∈ X, ∀ d, dstAt ops x.i = some d → look d l = none) : ∀ y ∈ x :: X, ∀ d, dstAt ops y.i = some d → look d l = none := by
  intro y hy d hd
  rcases List.mem_cons.1 hy with rfl | hy
  · rw [h1] at hd; cases hd; exact h2
  · exact h y hy d hd

end
end Go.Proofs.YtfoakjdnopljmaaGreatDoor

set_option linter.unusedVariables false
set_option linter.unusedSimpArgs false
namespace Go.Proofs.YtfoakjdnopljmaaGreatDoor
open Go

/-- A call that lays one block of its own. -/
abbrev EvF (P : Program) (f : FuncId) (args : List Value) (H : Heap) (R : Nat → Value → View → Prop) : Prop :=
  Ev P f args H fun v H' => ∃ b V, H b = none ∧ H' = H.set b V ∧ R b v V

theorem Wf.base {G : Heap} {L : Locs} (wf : Wf G L) {b : Nat} {V : View} (h : (b, V) ∈ L) : G b = none := wf.2 (b, V) h

section
variable {P : Program} {r : Option Nat} {Q : Post} {n : Nat} {l : Slots} {ds : List Nat} {G : Heap} {L : Locs} {ops : Array Oper} {rest : List Oper} {k : Nat} {rem : List Nat} {X : List LateI}
  {t : Nat} {op : Op} {ty : TypeId} {pos : String} {af : Array Edge} {g : Option (Nat × Bool)}

theorem WPL.wf {E : Env} (h : Wf G L → WPL P r ops rest Q E G L) : WPL P r ops rest Q E G L := fun hd wf => h wf hd wf
theorem WP.wf {E : Env} {c : Code} (h : Wf G L → WP P r c Q E G L) : WP P r c Q E G L := fun wf => h wf wf

theorem WPL.fr {d : Option Tmp} {c : Operand} {args : Array Operand} {ats : Array TypeId} {f : FuncId} {first caps vs : List Value} {R : Nat → Value → View → Prop}
    (hc : evL l c = some (.func (.func f) ⟨first⟩ ⟨caps⟩)) (ha : evs l args.toList = some vs) (h : Wf G L → EvF P f (first ++ vs ++ caps) (ov G L) R)
    (K : ∀ b v V, R b v V → WPL P r ops rest Q ⟨n, putL d v l, ds⟩ G ((b, V) :: L)) :
    WPL P r ops (⟨d, .call ⟨.value c, args, ats⟩, ty, pos, af, none⟩ :: rest) Q ⟨n, l, ds⟩ G L :=
  WPL.fresh hc ha h fun v H' ⟨b, V, h1, h2, h3⟩ => ⟨G, (b, V) :: L, fun wf => ⟨wf.cons h1, by rw [ov_cons, h2]; exact Sub.refl _⟩, K b v V h3⟩

/-- A store of a value of many cells. -/
theorem WPL.sA {d : Option Tmp} {tt : TypeId} {x y : Operand} {b off m : Nat} {ag : Bool} {V V' : View} {vs : List Value} {G' : Heap} {L' : Locs} [ht : TyK P tt ag m]
    (hx : evL l x = some (.pointer (some ⟨b, off, none⟩))) (hy : evL l y = some (.agg ⟨vs⟩)) (hb : UpdR G L b V V' G' L') (hn : vs.length = m) (ho : vs.all (·.oneCell') = true) (hv : V.write off vs = some V')
    (K : WPL P r ops rest Q ⟨n, putL d undef l, ds⟩ G' L') : WPL P r ops (⟨d, .store tt x y, ty, pos, af, none⟩ :: rest) Q ⟨n, l, ds⟩ G L := WPL.s hx hy hb hn ho hv K

/-- The end of a function that hands back a block of its own. -/
theorem RetQ.endF {fn : Func} {x : Exit} {R : Nat → Value → View → Prop} {b : Nat} {V : View} (hx : x = .normal ∨ x = .ret) (hs : [(b, V)].Sublist L) (hb : G b = none)
    (h : ∃ vs, AllRes P ⟨n, l, []⟩ G L fn.results.toList vs ∧ R b (tupled vs) V) : RetQ P fn (fun v H' => ∃ b V, G b = none ∧ H' = G.set b V ∧ R b v V) x ⟨n, l, []⟩ G L := by
  obtain ⟨vs, h1, h2⟩ := h
  exact RetQ.mk hx h1 (sub_of hs) ⟨b, V, hb, by rw [ov_cons, ov_nil], h2⟩

end

section
variable {P : Program} {r : Option Nat} {Q : Post} {n : Nat} {l : Slots} {ds : List Nat} {G : Heap} {L : Locs} {ops : Array Oper} {k : Nat} {rem : List Nat} {X : List LateI}
/-- A new block in a region that draws its order, where nothing else is ready. -/
theorem Scr.nw {i : Nat} {o : Oper} {v : Nat → Value} {V : View} (ho : ops[i]? = some o) (hi : rem.contains i = true) (hone : onlyB ops rem i = true) (hw : wantedL ops l o.guard = some true) (h : NS P o l v V)
    (hl : ∀ x ∈ X, ∀ d, dstAt ops x.i = some d → look d l = none) (K : ∀ b, Scr P r ops k Q n ds (rem.erase i) X (putL o.dst (v b) l) G ((b, V) :: L)) : Scr P r ops k Q n ds rem X l G L :=
  Scr.gs ho hi hone hw h.gs hl fun u G' L' ⟨b, h1, h2, h3⟩ => by
    subst h2 h3 h1
    exact ⟨fun _ wf => (Sub.refl _).drop wf, K b⟩
end

theorem NS.boxA {P : Program} {l : Slots} {d : Option Tmp} {t ty : TypeId} {pos : String} {af : Array Edge} {g : Option (Nat × Bool)} {x : Operand} {cs : List Value} (hx : evL l x = some (.agg ⟨cs⟩)) :
    NS P ⟨d, .box t x, ty, pos, af, g⟩ l (fun b => .pointer (some ⟨b, 0, none⟩)) (.cells cs t) := NS.box hx

/-- 'x[1:]'. -/
theorem PS.tail {P : Program} {l : Slots} {G : Heap} {L : Locs} {d : Option Tmp} {t e ty : TypeId} {pos : String} {af : Array Edge} {g : Option (Nat × Bool)} {x : Operand} {b o m n : Nat} {ag : Bool} [ht : ElemK P t none e ag n]
    (hx : evL l x = some (.slice (some ⟨b, o, none⟩) (m + 1) (m + 1))) :
    PS P ⟨d, .slice t x (some (.const (.int .i64 1))) none none, ty, pos, af, g⟩ l G L (.slice (some ⟨b, bif m == 0 then o else o + n, none⟩) m m) := by
  have h := PS.slSlice (P := P) (l := l) (G := G) (L := L) (d := d) (t := t) (ty := ty) (pos := pos) (af := af) (g := g) (lo := some (.const (.int .i64 1))) (hi := none) (mx := none) (i := 1) (j := m + 1) (m := m + 1) (n := n) hx (Bnd.some rfl rfl) Bnd.none Bnd.none (by omega) (by omega) (by omega) (by simp)
  have e1 : sub b o 1 (m + 1) n = some ⟨b, bif m == 0 then o else o + n, none⟩ := by
    unfold sub
    cases m with
    | zero => simp
    | succ m => simp
  rw [e1] at h
  exact h

theorem cell_row {α : Type} (f : α → Value) {ps : List α} {e : TypeId} {N i : Nat} {d : α} (h : i < ps.length) : (View.row 0 (ps.map f) e N).cell (0 + (i : Int).toNat * 1) = some (f (ps.getD i d)) := by
  simp [View.cell, List.getD_eq_getElem?_getD, h]

@[simp] theorem cells_string (b : ByteArray) : (Value.string b).cells.toList = [Value.string b] := rfl
@[simp] theorem cells_int (k : IntKind) (i : Int) : (Value.int k i).cells.toList = [Value.int k i] := rfl
@[simp] theorem cells_bool (b : Bool) : (Value.bool b).cells.toList = [Value.bool b] := rfl
@[simp] theorem cells_slice (a : Option Addr) (n c : Nat) : (Value.slice a n c).cells.toList = [Value.slice a n c] := rfl
@[simp] theorem cells_pointer (a : Option Addr) : (Value.pointer a).cells.toList = [Value.pointer a] := rfl
@[simp] theorem csize_string (b : ByteArray) : (Value.string b).cells.size = 1 := rfl
@[simp] theorem csize_int (k : IntKind) (i : Int) : (Value.int k i).cells.size = 1 := rfl

theorem row_step {α : Type} (f : α → Value) (done : List α) (z : Value) (m : Nat) (x : α) (h : done.length < m) :
    (((done.map f) ++ zeros [z] (m - done.length)).take done.length ++ [f x] ++ ((done.map f) ++ zeros [z] (m - done.length)).drop (done.length + 1)) = ((done ++ [x]).map f) ++ zeros [z] (m - (done ++ [x]).length) := by
  have h1 : zeros [z] (m - done.length) = z :: zeros [z] (m - (done.length + 1)) := by
    rw [show m - done.length = (m - (done.length + 1)) + 1 by omega]
    simp [zeros, List.replicate_succ]
  rw [h1]
  rw [List.take_left' (by simp), List.drop_append]
  simp

end Go.Proofs.YtfoakjdnopljmaaGreatDoor

set_option linter.unusedVariables false
set_option linter.unusedSimpArgs false
namespace Go.Proofs.YtfoakjdnopljmaaGreatDoor
open Go

/-! ### Regions that draw, where what was read may be written behind -/
section
variable {P : Program} {r : Option Nat} {ops : Array Oper} {k : Nat} {Q : Post} {n : Nat} {ds : List Nat} {rem : List Nat} {X : List LateI} {l : Slots} {G : Heap} {L : Locs} {HK : Heap}

/-- HK: the views that what was read leans on. -/
def ScrK (P : Program) (r : Option Nat) (ops : Array Oper) (k : Nat) (Q : Post) (n : Nat) (ds : List Nat) (HK : Heap) (rem : List Nat) (X : List LateI) (l : Slots) (G : Heap) (L : Locs) : Prop :=
  DrawOk ops k → DstOk n ops.toList → Stat ops k rem X → Wf G L → Sub HK (ov G L) → ∀ (H0 : Heap) (w0 : World) (a : Act) (w : World) (S : List (Option Nat)), EnvOk ⟨n, l, ds⟩ a → Holds (ov G L) w → Frame H0 w0 (ov G L) w →
    Lat P ops (ov G L) w0 a w X S → (S.filterMap id).Nodup → ∀ m, rem.length + pends S ≤ m → AnyK P r ops noQ (zOf P r ops k Q H0 w0) (Holds HK) m (fun j => j ∈ rem ∨ pendR X S j) a w

theorem ScrK.of (h : Scr P r ops k Q n ds rem X l G L) : ScrK P r ops k Q n ds HK rem X l G L := by
  intro D hdst st wf hsub H0 w0 a w S he hh hf hL hn m hm
  exact AnyK.weaken (fun w hw => hw.sub hsub) (h D hdst st wf H0 w0 a w S he hh hf hL hn m hm)

theorem ScrK.weaken {HK' : Heap} (hs : Wf G L → Sub HK' (ov G L)) (hk : Wf G L → Sub HK (ov G L) → Sub HK HK') (h : ScrK P r ops k Q n ds HK' rem X l G L) : ScrK P r ops k Q n ds HK rem X l G L := by
  intro D hdst st wf hsub H0 w0 a w S he hh hf hL hn m hm
  exact AnyK.weaken (fun w hw => hw.sub (hk wf hsub)) (h D hdst st wf (hs wf) H0 w0 a w S he hh hf hL hn m hm)

theorem ScrK.yld {i : Nat} {o : Oper} {v : Value} (ho : ops[i]? = some o) (hi : i ∈ rem) (hr : rdyB ops (rem ++ X.map (·.i)) i = true)
    (h : ∀ a, SlotsOk l a → Yld P ops o (Holds HK) a v) (K : ScrK P r ops k Q n ds HK (rem.erase i) X (putL o.dst v l) G L) : ScrK P r ops k Q n ds HK rem X l G L := by
  intro D hdst st wf hsub H0 w0 a w S he hh hf hL hn m hm
  have hpos : 0 < rem.length := List.length_pos_of_mem hi
  have hlen : (rem.erase i).length + 1 = rem.length := by rw [List.length_erase_of_mem hi]; omega
  obtain ⟨m, rfl⟩ : ∃ m', m = m' + 1 := ⟨m - 1, by omega⟩
  refine AnyK.first (k := k) (i0 := i) D (fun _ _ _ h => h) ho (st.lt i (List.mem_append_left _ hi)) (fun j hj => ?_) (.inl hi) (fun o' ho' j hj hR => ?_) (hh.sub hsub) (h a he.2.1) ?_
  · rcases hj with hj | hj
    · exact st.lt j (List.mem_append_left _ hj)
    · obtain ⟨x, hx, e⟩ := pendR_mem hj
      exact st.lt j (List.mem_append_right _ (List.mem_map.2 ⟨x, hx, e⟩))
  · rw [ho] at ho'
    cases ho'
    have hmem : j ∈ rem ++ X.map (·.i) := by
      rcases hR with hR | hR
      · exact List.mem_append_left _ hR
      · obtain ⟨x, hx, e⟩ := pendR_mem hR
        exact List.mem_append_right _ (List.mem_map.2 ⟨x, hx, e⟩)
    rw [rdyB_edge ho hr j hmem] at hj
    cases hj
  · rw [del_rem st hi]
    exact K D hdst st.erase wf hsub H0 w0 _ w S (he.put o.dst v (dst_lt hdst ho)) hh hf (hL.put D st hi ho (fun j hj => rdyB_edge ho hr j (by obtain ⟨x, hx, e⟩ := pendR_mem hj; exact List.mem_append_right _ (List.mem_map.2 ⟨x, hx, e⟩)))) hn m (by omega)


theorem holds_none (w : World) : Holds (fun _ => none) w := fun b V h => by cases h
theorem wf_none : Wf (fun _ => none) [] := ⟨by simp, by simp⟩

/-- An operation that looks at no memory. -/
theorem ScrK.p0 {i : Nat} {o : Oper} {v : Value} (ho : ops[i]? = some o) (hi : rem.contains i = true) (hr : rdyB ops (rem ++ X.map (·.i)) i = true) (hw : wantedL ops l o.guard = some true) (h : PS P o l (fun _ => none) [] v)
    (K : ScrK P r ops k Q n ds HK (rem.erase i) X (putL o.dst v l) G L) : ScrK P r ops k Q n ds HK rem X l G L :=
  ScrK.yld ho (List.contains_iff_mem.1 hi) hr (fun a hs => .inl ⟨wantedL_ok hw hs, fun w hw => h wf_none a w hs (holds_none w)⟩) K

/-- One that reads. -/
theorem ScrK.ps {i : Nat} {o : Oper} {v : Value} (ho : ops[i]? = some o) (hi : rem.contains i = true) (hr : rdyB ops (rem ++ X.map (·.i)) i = true) (hw : wantedL ops l o.guard = some true) (h : PS P o l G L v)
    (K : ScrK P r ops k Q n ds (ov G L) (rem.erase i) X (putL o.dst v l) G L) : ScrK P r ops k Q n ds HK rem X l G L := fun D hd st wf =>
  ScrK.weaken (HK' := ov G L) (fun _ => Sub.refl _) (fun _ hs => hs) (ScrK.yld ho (List.contains_iff_mem.1 hi) hr (fun a hs => .inl ⟨wantedL_ok hw hs, fun w hw => h wf a w hs hw⟩) K) D hd st wf

theorem ScrK.c0 {i : Nat} {o : Oper} {v : Value} {b : Bool} (ho : ops[i]? = some o) (hi : rem.contains i = true) (hr : rdyB ops (rem ++ X.map (·.i)) i = true) (hw : Wants ops l o b) (h : b = true → PS P o l (fun _ => none) [] v)
    (K : ScrK P r ops k Q n ds HK (rem.erase i) X (putL o.dst (gv b v) l) G L) : ScrK P r ops k Q n ds HK rem X l G L :=
  ScrK.yld ho (List.contains_iff_mem.1 hi) hr (fun a hs => by
    cases b with
    | true => exact .inl ⟨hw a hs, fun w hw' => h rfl wf_none a w hs (holds_none w)⟩
    | false => exact .inr ⟨hw a hs, rfl⟩) K

theorem ScrK.gs {i : Nat} {o : Oper} {R : Value → Heap → Locs → Prop} (ho : ops[i]? = some o) (hi : rem.contains i = true) (hone : onlyB ops rem i = true) (hw : wantedL ops l o.guard = some true) (h : GS P r o l G L R)
    (hl : ∀ x ∈ X, ∀ d, dstAt ops x.i = some d → look d l = none)
    (K : ∀ v G' L', R v G' L' → (Wf G L → Wf G' L' → Sub HK (ov G' L')) ∧ ScrK P r ops k Q n ds HK (rem.erase i) X (putL o.dst v l) G' L') : ScrK P r ops k Q n ds HK rem X l G L := by
  have hi := List.contains_iff_mem.1 hi
  intro D hdst st wf hsubK H0 w0 a w S he hh hf hL hn m hm
  have hlen : (rem.erase i).length + 1 = rem.length := by rw [List.length_erase_of_mem hi]; have := List.length_pos_of_mem hi; omega
  induction m generalizing a w S with
  | zero => omega
  | succ m ih =>
    refine ⟨hh.sub hsubK, fun hno => absurd (.inl hi) (hno i), fun j hj hr => ?_⟩
    by_cases hji : j = i
    · subst hji
      unfold wpOpIn
      simp only [ho]
      rw [if_pos (wantedL_ok hw he.2.1)]
      refine ⟨fun _ _ => trivial, ?_⟩
      rw [h.sem wf he.2.1 hh]
      refine uponIn_mono (h wf a w he.2.1 hh) ?_ (fun _ _ _ h => h.elim)
      rintro a' w' ⟨v, G', L', rfl, k2, k3, k4, k5⟩
      obtain ⟨hsub, hscr⟩ := K v G' L' k5
      rw [del_rem st hi]
      have hL1 : Lat P ops (ov G L) w0 (a.put o.dst v) w X S := hL.put D st hi ho (fun j' hj' => by cases hh' : edgeB o j' with | false => rfl | true => exact absurd (.inr hj') (hr o ho j' hh'))
      have hL2 : Lat P ops (ov G' L') w0 (a.put o.dst v) w' X S := Lat.mono (fun x hx s hs => by
        cases s with
        | none => exact hs
        | some b =>
          obtain ⟨m1, m2, m3, obj, m4, m5⟩ := hs
          have hlt := (Array.getElem?_eq_some_iff.1 m4).1
          obtain ⟨f1, f2⟩ := k4.2.2.2.2 b hlt m1
          exact ⟨f1, m2, m3, obj, by rw [f2]; exact m4, m5⟩) hL1
      exact (hscr D hdst st.erase k2 (hsub wf k2) H0 w0 _ w' S (he.put o.dst v (dst_lt hdst ho)) k3 (hf.trans k4) hL2 hn m (by omega))
    · rcases hj with hj | hj
      · exfalso
        have := List.all_eq_true.1 hone j hj
        simp only [Bool.or_eq_true, beq_iff_eq, hji, false_or] at this
        have hlt : j < ops.size := Nat.lt_of_lt_of_le (st.lt j (List.mem_append_left _ hj)) D.le
        rw [Array.getElem?_eq_getElem hlt] at this
        simp only [List.any_eq_true] at this
        obtain ⟨i', hi', he'⟩ := this
        exact hr _ (Array.getElem?_eq_getElem hlt) i' he' (.inl hi')
      · have hsz : ∀ (i : Nat) (o : Oper), ops[i]? = some o → ∀ d, o.dst = some d → d < a.tmps.size := fun i o ho d hd => by rw [he.1]; exact dst_lt hdst ho d hd
        obtain ⟨o', x, obj, S', hx, hxi, ho', hg', hrun, hL', hc, hpd, hbs, hnd⟩ := late_now D hh hf.2.2.2.1 hsz (fun x hx => st.lt x.i (List.mem_append_right _ (List.mem_map.2 ⟨x, hx, rfl⟩)))
          (List.nodup_append.1 st.nodup).2.1 st.edgeX (fun b hb => (hL.blocks b hb).2) hL hj
        refine wpOpIn_late ho' (D.plain _ _ ho') hg' hrun ?_
        have hR : del (fun j => j ∈ rem ∨ pendR X S j) j = fun j => j ∈ rem ∨ pendR X S' j := by
          funext y
          simp only [del, eq_iff_iff]
          constructor
          · rintro ⟨h | h, hne⟩
            · exact .inl h
            · exact .inr ((hpd y).2 ⟨h, hne⟩)
          · rintro (h | h)
            · exact ⟨.inl h, fun e => by subst e; exact st.not_late h x hx hxi⟩
            · exact ⟨.inr ((hpd y).1 h).1, ((hpd y).1 h).2⟩
        rw [hR]
        refine ih _ _ S' ⟨?_, ?_, ?_⟩ (holds_alloc' hh _) (hf.trans (frame_alloc' hh _)) hL' (hnd hn) (by omega)
        · cases hd : o'.dst <;> simp [Act.put, he.1]
        · intro t u hu
          have hne : o'.dst ≠ some t := fun e => by
            have := hl x hx t (by rw [hxi]; simp [dstAt, ho', e])
            rw [this] at hu
            cases hu
          rw [(same_put o'.dst a _).2 t hne]
          exact he.2.1 t u hu
        · cases hd : o'.dst <;> exact he.2.2


/-- A region that draws its order. -/
theorem WP.drawK {id : Nat} (k : Nat) (hm : P.follows .mixedOrders = true) (hok : drawOk ops k = true) (hd : dstB n ops = true) (h : ScrK P r ops k Q n ds (fun _ => none) (List.range k) [] l G L) :
    WP P r (.region id ops true) Q ⟨n, l, ds⟩ G L := by
  intro wf a w he hh
  have D := drawOk_spec hok
  refine wpIn_region_any hm ?_
  have hAny := h D (dstB_ok hd) ⟨by simpa using List.nodup_range, by simp, by simp, by simp⟩ wf (fun b V hb => by cases hb) (ov G L) w a { w with drawn := w.drawn + 1 } [] he (hh.drawn _) (frame_drawn _ _ _ (Nat.le_succ _)) trivial (by simp) k (by simp [pends])
  have key : ∀ (m : Nat) (R : Nat → Prop) (a : Act) (w' : World), AnyK P r ops noQ (zOf P r ops k Q (ov G L) w) (Holds (fun _ => none)) m R a w' → AnyK P r ops (Ends Q (ov G L) w) (zOf P r ops k Q (ov G L) w) (Holds (fun _ => none)) m R a w' := by
    intro m
    induction m with
    | zero => exact fun R a w' h => h
    | succ m ih =>
      intro R a w' h
      refine ⟨h.1, h.2.1, fun i hi hr => ?_⟩
      have := h.2.2 i hi hr
      unfold wpOpIn at this ⊢
      split
      · rename_i e; rw [e] at this; exact ih _ _ _ this
      · rename_i o e
        rw [e] at this
        simp only [] at this
        split
        · rename_i hw; rw [if_pos hw] at this; exact ⟨this.1, uponIn_mono this.2 (fun a w hx => ih _ _ _ hx) (fun _ _ _ hx => hx.elim)⟩
        · rename_i hw; rw [if_neg hw] at this; exact ⟨this.1, ih _ _ _ this.2⟩
  refine any_of D k (fun j => j ∈ List.range k ∨ pendR [] [] j) (Array.replicate ops.size false) a _ (fun i hi => ?_) (by simp) (fun i hi => ⟨false, by simp [hi], by simp [pendR]⟩) (key _ _ _ _ hAny) ops.size (by have := D.le; omega)
  rcases hi with hi | hi
  · exact List.mem_range.1 hi
  · exact hi.elim


end
end Go.Proofs.YtfoakjdnopljmaaGreatDoor

set_option linter.unusedVariables false
set_option linter.unusedSimpArgs false
namespace Go.Proofs.YtfoakjdnopljmaaGreatDoor
open Go

section
variable {P : Program} {r : Option Nat} {l : Slots} {G : Heap} {L : Locs} {d : Option Tmp} {ty : TypeId} {pos : String} {af : Array Edge} {g : Option (Nat × Bool)}

/-- 'copy(dst, src)' of slices: what src held goes over dst's cells. -/
theorem GS.copy {t t' e : TypeId} {x y : Operand} {b o dl dc b2 o2 sl sc m n : Nat} {ag : Bool} {V V' V2 : View} {cs : List Value} {G' : Heap} {L' : Locs} [ht : ElemK P t none e ag n]
    (hx : evL l x = some (.slice (some ⟨b, o, none⟩) dl dc)) (hy : evL l y = some (.slice (some ⟨b2, o2, none⟩) sl sc)) (hm : m = Nat.min sl dl) (hb2 : InR G L b2 V2) (hs : V2.take o2 (m * n) = some cs) (hu : UpdR G L b V V' G' L')
    (hw : V.write o cs = some V') (ho : cs.all (·.oneCell') = true) :
    GS P r ⟨d, .call ⟨.builtin .copy, #[x, y], #[t, t']⟩, ty, pos, af, g⟩ l G L (fun u G1 L1 => u = num m ∧ G1 = G' ∧ L1 = L') := fun wf a w hs' hh => by
  obtain ⟨k1, k2⟩ := elemK_slice ht.h
  obtain ⟨h1, h2, h3⟩ := hu wf
  obtain ⟨q1, q2⟩ := View.take_spec hs
  have hl := run_loadCells_list (P := P) w ⟨b2, o2, none⟩ cs (fun j v hj => by
    rw [add_none]
    exact hh.cell? (hb2 wf) (q2 j v hj))
  rw [q1] at hl
  obtain ⟨w', e1, e2, e3⟩ := run_storeCells_view (P := P) (vs := cs) hh h1 (fun u hu => List.all_eq_true.1 ho u hu) hw
  have hmin : sl.min dl = m := hm.symm
  have : (execOp a.eval ⟨d, .call ⟨.builtin .copy, #[x, y], #[t, t']⟩, ty, pos, af, g⟩).run P w = .ok (.value (num m)) w' := by
    simp only [execOp, resolve, Go.invoke, builtin, hs'.eval hx, hs'.eval hy, List.map_toArray, List.map_cons, List.map_nil, Sem.run_bind, Sem.run_pure, Result.andThen_ok]
    simp [Builtin.copy_, run_underlying k1, Builtin.lenOf, Builtin.firstCells, run_sizeOf' k2, hmin, hl, e1, goInt, hs'.eval hx, hs'.eval hy]
  rw [this]
  exact ⟨num m, G', L', rfl, h2, by rw [h3]; exact e2, by rw [h3]; exact e3, rfl, rfl, rfl⟩

theorem NS.allocL {t : TypeId} {z : Value} {cs : List Value} [hz : ZeroK P t z] (h : z.cells.toList = cs) : NS P ⟨d, .alloc t, ty, pos, af, g⟩ l (fun b => .pointer (some ⟨b, 0, none⟩)) (.cells cs t) := by
  subst h; exact NS.alloc

end
section
variable {P : Program} {r : Option Nat} {Q : Post} {n : Nat} {l : Slots} {ds : List Nat} {G : Heap} {L : Locs} {ops : Array Oper} {rest : List Oper} {k : Nat} {rem : List Nat} {X : List LateI} {HK : Heap}

/-- Behind an operation that turns one block, where nothing that was read counts. -/
theorem ScrK.upd {i : Nat} {o : Oper} {u : Value} {G' : Heap} {L' : Locs} (ho : ops[i]? = some o) (hi : rem.contains i = true) (hone : onlyB ops rem i = true) (hw : wantedL ops l o.guard = some true)
    (h : GS P r o l G L (fun v G1 L1 => v = u ∧ G1 = G' ∧ L1 = L')) (hl : ∀ x ∈ X, ∀ d, dstAt ops x.i = some d → look d l = none)
    (K : ScrK P r ops k Q n ds (fun _ => none) (rem.erase i) X (putL o.dst u l) G' L') : ScrK P r ops k Q n ds (fun _ => none) rem X l G L :=
  ScrK.gs ho hi hone hw h hl fun v G1 L1 ⟨h1, h2, h3⟩ => by subst h1 h2 h3; exact ⟨fun _ _ b V h => (by cases h), K⟩

theorem WPL.upd {o : Oper} {u : Value} {G' : Heap} {L' : Locs} (hw : wantedL ops l o.guard = some true) (h : GS P r o l G L (fun v G1 L1 => v = u ∧ G1 = G' ∧ L1 = L')) (K : WPL P r ops rest Q ⟨n, putL o.dst u l, ds⟩ G' L') :
    WPL P r ops (o :: rest) Q ⟨n, l, ds⟩ G L := WPL.gs hw h fun v G1 L1 ⟨h1, h2, h3⟩ => by subst h1 h2 h3; exact K

theorem Scr.done1 {x : LateI} (hl : ∀ y ∈ [x], ∀ d, dstAt ops y.i = some d → look d l = none) (K : ∀ b, WPL P r ops (ops.toList.drop k) Q ⟨n, putL (dstAt ops x.i) (x.v b) l, ds⟩ G ((b, x.V) :: L)) : Scr P r ops k Q n ds [] [x] l G L :=
  Scr.done (fun b => K b) hl
theorem Scr.done2 {x y : LateI} (hl : ∀ z ∈ [x, y], ∀ d, dstAt ops z.i = some d → look d l = none)
    (K : ∀ b c, WPL P r ops (ops.toList.drop k) Q ⟨n, putL (dstAt ops y.i) (y.v c) (putL (dstAt ops x.i) (x.v b) l), ds⟩ G ((c, y.V) :: (b, x.V) :: L)) : Scr P r ops k Q n ds [] [x, y] l G L :=
  Scr.done (fun b c => K b c) hl

theorem ScrK.end (h : WPL P r ops (ops.toList.drop k) Q ⟨n, l, ds⟩ G L) : ScrK P r ops k Q n ds HK [] [] l G L := ScrK.of (Scr.end h)

/-- A call that leaves all as it was. -/
theorem ScrK.cl {ty : TypeId} {pos : String} {af : Array Edge} {i : Nat} {d : Option Tmp} {c : Operand} {args : Array Operand} {ats : Array TypeId} {f : FuncId} {first caps vs : List Value} {v : Value} (ho : ops[i]? = some ⟨d, .call ⟨.value c, args, ats⟩, ty, pos, af, none⟩)
    (hi : rem.contains i = true) (hone : onlyB ops rem i = true) (hc : evL l c = some (.func (.func f) ⟨first⟩ ⟨caps⟩)) (ha : evs l args.toList = some vs) (h : Wf G L → EvP P f (first ++ vs ++ caps) (ov G L) v)
    (hl : ∀ x ∈ X, ∀ d, dstAt ops x.i = some d → look d l = none) (K : ScrK P r ops k Q n ds (fun _ => none) (rem.erase i) X (putL d v l) G L) : ScrK P r ops k Q n ds (fun _ => none) rem X l G L :=
  ScrK.upd ho hi hone rfl (GS.callP hc ha h) hl K

end
end Go.Proofs.YtfoakjdnopljmaaGreatDoor

set_option linter.unusedVariables false
set_option linter.unusedSimpArgs false
namespace Go.Proofs.YtfoakjdnopljmaaGreatDoor
open Go

section
variable {P : Program} {r : Option Nat} {ops : Array Oper} {k : Nat} {Q : Post} {n : Nat} {ds : List Nat} {rem : List Nat} {X : List LateI} {l : Slots} {G : Heap} {L : Locs} {HK : Heap}

/-- A new block that nothing else of the first part needs at once. -/
theorem ScrK.late {i : Nat} {o : Oper} {v : Nat → Value} {V : View} (ho : ops[i]? = some o) (hi : rem.contains i = true) (hr : rdyB ops (rem ++ X.map (·.i)) i = true) (hg : o.guard = none) (h : NS P o l v V)
    (hx : X.all (fun x => rdyB ops [i] x.i) = true) (K : ScrK P r ops k Q n ds HK (rem.erase i) (⟨i, v, V⟩ :: X) l G L) : ScrK P r ops k Q n ds HK rem X l G L := by
  have hi := List.contains_iff_mem.1 hi
  intro D hdst st wf hsubK H0 w0 a w S he hh hf hL hn m hm
  have hlen : (rem.erase i).length + 1 = rem.length := by rw [List.length_erase_of_mem hi]; have := List.length_pos_of_mem hi; omega
  have hedge := rdyB_edge ho hr
  have st' : Stat ops k (rem.erase i) (⟨i, v, V⟩ :: X) := by
    refine ⟨?_, ?_, ?_, ?_⟩
    · have h1 := st.nodup
      have hp : (rem.erase i ++ i :: X.map (·.i)).Perm (rem ++ X.map (·.i)) := by
        have : (rem.erase i ++ i :: X.map (·.i)).Perm (i :: rem.erase i ++ X.map (·.i)) := by
          simp
        exact this.trans ((List.perm_cons_erase hi).symm.append_right _)
      exact hp.nodup_iff.2 h1
    · intro j hj
      rcases List.mem_append.1 hj with h | h
      · exact st.lt j (List.mem_append_left _ (List.mem_of_mem_erase h))
      · simp only [List.map_cons, List.mem_cons] at h
        rcases h with rfl | h
        · exact st.lt j (List.mem_append_left _ hi)
        · exact st.lt j (List.mem_append_right _ h)
    · intro x hxm o' ho' j hj
      rcases List.mem_cons.1 hxm with rfl | hxm
      · rw [ho] at ho'; cases ho'
        exact hedge j (List.mem_append_left _ (List.mem_of_mem_erase hj))
      · exact st.edge x hxm o' ho' j (List.mem_of_mem_erase hj)
    · intro x hxm o' ho' y hym
      rcases List.mem_cons.1 hxm with rfl | hxm
      · rw [ho] at ho'; cases ho'
        rcases List.mem_cons.1 hym with rfl | hym
        · exact hedge _ (List.mem_append_left _ hi)
        · exact hedge y.i (List.mem_append_right _ (List.mem_map.2 ⟨y, hym, rfl⟩))
      · rcases List.mem_cons.1 hym with rfl | hym
        · exact rdyB_edge ho' (List.all_eq_true.1 hx x hxm) _ (by simp)
        · exact st.edgeX x hxm o' ho' y hym
  have hlat : Lat P ops (ov G L) w0 a w (⟨i, v, V⟩ :: X) (none :: S) := ⟨⟨o, ho, hg, fun w' => h a w' he.2.1⟩, hL⟩
  have hR : (fun j => j ∈ rem ∨ pendR X S j) = fun j => j ∈ rem.erase i ∨ pendR (⟨i, v, V⟩ :: X) (none :: S) j := by
    funext j
    simp only [pendR, true_and, eq_iff_iff]
    constructor
    · rintro (h | h)
      · by_cases e : j = i
        · exact .inr (.inl e.symm)
        · exact .inl ((List.mem_erase_of_ne e).2 h)
      · exact .inr (.inr h)
    · rintro (h | h | h)
      · exact .inl (List.mem_of_mem_erase h)
      · exact .inl (h ▸ hi)
      · exact .inr h
  rw [hR]
  exact K D hdst st' wf hsubK H0 w0 a w (none :: S) he hh hf hlat (by simpa [List.filterMap_cons] using hn) m (by simp only [pends, List.filter_cons, Option.isNone_none, if_true, List.length_cons] at hm ⊢; omega)


/-- An operation that turns the world behind all late ones. -/
theorem ScrK.gsX {i : Nat} {o : Oper} (ho : ops[i]? = some o) (hi : rem.contains i = true) (hone : onlyB ops rem i = true) (hg : o.guard = none) (hX : X.all (fun x => edgeB o x.i) = true)
    (hl : ∀ x ∈ X, ∀ d, dstAt ops x.i = some d → look d l = none)
    (K : doneQ ops (fun l' L' => ∃ R, GS P r o l' G L' R ∧ ∀ v G' L2, R v G' L2 → (Wf G L' → Wf G' L2 → Sub HK (ov G' L2)) ∧ ScrK P r ops k Q n ds HK (rem.erase i) [] (putL o.dst v l') G' L2) X l L) : ScrK P r ops k Q n ds HK rem X l G L := by
  have hi := List.contains_iff_mem.1 hi
  intro D hdst st wf hsubK H0 w0 a w S he hh hf hL hn m hm
  have hlen : (rem.erase i).length + 1 = rem.length := by rw [List.length_erase_of_mem hi]; have := List.length_pos_of_mem hi; omega
  induction m generalizing a w S with
  | zero => omega
  | succ m ih =>
    refine ⟨hh.sub hsubK, fun hno => absurd (.inl hi) (hno i), fun j hj hr => ?_⟩
    by_cases hji : j = i
    · subst hji
      have hp0 : ∀ y, ¬ pendR X S y := fun y hy => by
        obtain ⟨x, hx, e⟩ := pendR_mem hy
        have h1 := List.all_eq_true.1 hX x hx
        rw [e] at h1
        exact hr o ho y h1 (.inr hy)
      have hp : pends S = 0 := (pendR_none hL).2 hp0
      obtain ⟨l', L', k1, k2, k3, k4, R, k5, k6⟩ := done_reveal (H0 := H0) hp hL hn (fun b hb => (hL.blocks b hb).1) he.2.1 wf hh hf K
      unfold wpOpIn
      simp only [ho]
      have hwt : Region.wanted o (yielded ops a.tmps) = true := by simp [Region.wanted, hg]
      rw [if_pos hwt]
      refine ⟨fun _ _ => trivial, ?_⟩
      rw [k5.sem k2 k1 k3]
      refine uponIn_mono (k5 k2 a w k1 k3) ?_ (fun _ _ _ h => h.elim)
      rintro a' w' ⟨v, G', L2, rfl, q2, q3, q4, q5⟩
      obtain ⟨hsub, hscr⟩ := k6 v G' L2 q5
      have hR : del (fun y => y ∈ rem ∨ pendR X S y) j = fun y => y ∈ rem.erase j ∨ pendR [] [] y := by
        rw [del_rem st hi]
        funext y
        simp only [eq_iff_iff]
        exact ⟨fun h => h.elim .inl (fun h => absurd h (hp0 y)), fun h => h.elim .inl (fun h => h.elim)⟩
      rw [hR]
      have st2 : Stat ops k (rem.erase j) ([] : List LateI) := by
        have s1 := st.erase (i := j)
        refine ⟨?_, ?_, ?_, ?_⟩
        · have := s1.nodup; rw [List.nodup_append] at this; simpa using this.1
        · exact fun y hy => s1.lt y (List.mem_append_left _ (by simpa using hy))
        · exact fun x hx => by cases hx
        · simp
      exact hscr D hdst st2 q2 (hsub k2 q2) H0 w0 _ w' [] (EnvOk.put (E := ⟨n, l', ds⟩) ⟨he.1, k1, he.2.2⟩ o.dst v (dst_lt hdst ho)) q3 (k4.trans q4) trivial (by simp) m (by simp [pends]; omega)
    · rcases hj with hj | hj
      · exfalso
        have := List.all_eq_true.1 hone j hj
        simp only [Bool.or_eq_true, beq_iff_eq, hji, false_or] at this
        have hlt : j < ops.size := Nat.lt_of_lt_of_le (st.lt j (List.mem_append_left _ hj)) D.le
        rw [Array.getElem?_eq_getElem hlt] at this
        simp only [List.any_eq_true] at this
        obtain ⟨i', hi', he'⟩ := this
        exact hr _ (Array.getElem?_eq_getElem hlt) i' he' (.inl hi')
      · have hsz : ∀ (i : Nat) (o : Oper), ops[i]? = some o → ∀ d, o.dst = some d → d < a.tmps.size := fun i o ho d hd => by rw [he.1]; exact dst_lt hdst ho d hd
        obtain ⟨o', x, obj, S', hx, hxi, ho', hg', hrun, hL', hc, hpd, hbs, hnd⟩ := late_now D hh hf.2.2.2.1 hsz (fun x hx => st.lt x.i (List.mem_append_right _ (List.mem_map.2 ⟨x, hx, rfl⟩)))
          (List.nodup_append.1 st.nodup).2.1 st.edgeX (fun b hb => (hL.blocks b hb).2) hL hj
        refine wpOpIn_late ho' (D.plain _ _ ho') hg' hrun ?_
        have hR : del (fun j => j ∈ rem ∨ pendR X S j) j = fun j => j ∈ rem ∨ pendR X S' j := by
          funext y
          simp only [del, eq_iff_iff]
          constructor
          · rintro ⟨h | h, hne⟩
            · exact .inl h
            · exact .inr ((hpd y).2 ⟨h, hne⟩)
          · rintro (h | h)
            · exact ⟨.inl h, fun e => by subst e; exact st.not_late h x hx hxi⟩
            · exact ⟨.inr ((hpd y).1 h).1, ((hpd y).1 h).2⟩
        rw [hR]
        refine ih _ _ S' ⟨?_, ?_, ?_⟩ (holds_alloc' hh _) (hf.trans (frame_alloc' hh _)) hL' (hnd hn) (by omega)
        · cases hd : o'.dst <;> simp [Act.put, he.1]
        · intro t u hu
          have hne : o'.dst ≠ some t := fun e => by
            have := hl x hx t (by rw [hxi]; simp [dstAt, ho', e])
            rw [this] at hu
            cases hu
          rw [(same_put o'.dst a _).2 t hne]
          exact he.2.1 t u hu
        · cases hd : o'.dst <;> exact he.2.2


theorem ScrK.clS {ty : TypeId} {pos : String} {af : Array Edge} {i : Nat} {d : Option Tmp} {c : Operand} {args : Array Operand} {ats : Array TypeId} {f : FuncId} {first caps vs : List Value} {v : Value} (ho : ops[i]? = some ⟨d, .call ⟨.value c, args, ats⟩, ty, pos, af, none⟩)
    (hi : rem.contains i = true) (hone : onlyB ops rem i = true) (hc : evL l c = some (.func (.func f) ⟨first⟩ ⟨caps⟩)) (ha : evs l args.toList = some vs) (h : Wf G L → EvP P f (first ++ vs ++ caps) (ov G L) v)
    (hl : ∀ x ∈ X, ∀ d, dstAt ops x.i = some d → look d l = none) (K : ScrK P r ops k Q n ds HK (rem.erase i) X (putL d v l) G L) : ScrK P r ops k Q n ds HK rem X l G L := fun D hd st wf hsub =>
  ScrK.gs ho hi hone rfl (GS.callP hc ha h) hl (fun u G1 L1 ⟨h1, h2, h3⟩ => by subst h1 h2 h3; exact ⟨fun _ _ => hsub, K⟩) D hd st wf hsub

theorem ScrK.updS {i : Nat} {o : Oper} {u : Value} {L0 L' : Locs} (ho : ops[i]? = some o) (hi : rem.contains i = true) (hone : onlyB ops rem i = true) (hw : wantedL ops l o.guard = some true)
    (h : GS P r o l G L (fun v G1 L1 => v = u ∧ G1 = G ∧ L1 = L')) (hl : ∀ x ∈ X, ∀ d, dstAt ops x.i = some d → look d l = none) (hs : L0.Sublist L')
    (K : ScrK P r ops k Q n ds (ov G L0) (rem.erase i) X (putL o.dst u l) G L') : ScrK P r ops k Q n ds (ov G L0) rem X l G L :=
  ScrK.gs ho hi hone hw h hl fun v G1 L1 ⟨h1, h2, h3⟩ => by subst h1 h2 h3; exact ⟨fun _ wf => sub_of hs wf, K⟩

theorem ScrK.updX2 {i : Nat} {o : Oper} {x y : LateI} {L0 : Locs} (ho : ops[i]? = some o) (hi : rem.contains i = true) (hone : onlyB ops rem i = true) (hg : o.guard = none) (hX : [x, y].all (fun x => edgeB o x.i) = true)
    (hl : ∀ z ∈ [x, y], ∀ d, dstAt ops z.i = some d → look d l = none)
    (K : ∀ b c, ∃ u L2, GS P r o (putL (dstAt ops y.i) (y.v c) (putL (dstAt ops x.i) (x.v b) l)) G ((c, y.V) :: (b, x.V) :: L) (fun v G1 L1 => v = u ∧ G1 = G ∧ L1 = L2) ∧ L0.Sublist L2 ∧
      ScrK P r ops k Q n ds (ov G L0) (rem.erase i) [] (putL o.dst u (putL (dstAt ops y.i) (y.v c) (putL (dstAt ops x.i) (x.v b) l))) G L2) : ScrK P r ops k Q n ds (ov G L0) rem [x, y] l G L :=
  ScrK.gsX ho hi hone hg hX hl (fun b c => by
    obtain ⟨u, L2, h1, h2, h3⟩ := K b c
    exact ⟨_, h1, fun v G1 L1 ⟨e1, e2, e3⟩ => by subst e1 e2 e3; exact ⟨fun _ wf => sub_of h2 wf, h3⟩⟩)

end
end Go.Proofs.YtfoakjdnopljmaaGreatDoor

set_option linter.unusedVariables false
set_option linter.unusedSimpArgs false
namespace Go.Proofs.YtfoakjdnopljmaaGreatDoor
open Go

/-! ### A slice of the call's own, and 'append' -/

theorem InR.skip {G : Heap} {L : Locs} {b : Nat} {V : View} (h : InR G L b V) : ∀ A : Locs, InR G (A ++ L) b V
  | [] => h
  | x :: A => (InR.skip h A).there

theorem UpdR.skip {G G' : Heap} {L L' : Locs} {b : Nat} {V V' : View} (h : UpdR G L b V V' G' L') : ∀ A : Locs, UpdR G (A ++ L) b V V' G' (A ++ L')
  | [] => h
  | x :: A => (UpdR.skip h A).there

theorem lookL_mem {b : Nat} {V : View} : ∀ {L : Locs}, (L.map (·.1)).Nodup → (lookL b L = some V ↔ (b, V) ∈ L)
  | [], _ => by simp [lookL]
  | (k, U) :: r, h => by
    have hn := List.nodup_cons.1 h
    simp only [lookL, List.mem_cons, Prod.mk.injEq]
    by_cases e : b = k
    · subst e
      rw [if_pos rfl]
      constructor
      · rintro h; cases h; exact .inl ⟨rfl, rfl⟩
      · rintro (⟨_, rfl⟩ | h)
        · rfl
        · exact absurd (List.mem_map.2 ⟨_, h, rfl⟩) hn.1
    · rw [if_neg e, lookL_mem hn.2]
      exact ⟨.inr, fun h => h.elim (fun h => absurd h.1 e) id⟩

theorem wf_perm {G : Heap} {L L' : Locs} (h : L.Perm L') (wf : Wf G L) : Wf G L' ∧ ov G L' = ov G L := by
  have h1 : (L'.map (·.1)).Nodup := (h.map _).nodup_iff.1 wf.1
  refine ⟨⟨h1, fun x hx => wf.2 x (h.mem_iff.2 hx)⟩, ?_⟩
  funext b
  have key : lookL b L' = lookL b L := by
    cases e : lookL b L with
    | some V => exact (lookL_mem h1).2 (h.mem_iff.1 ((lookL_mem wf.1).1 e))
    | none =>
      cases e' : lookL b L' with
      | none => rfl
      | some V => rw [(lookL_mem wf.1).2 (h.mem_iff.2 ((lookL_mem h1).1 e'))] at e; cases e
  simp only [ov, key]

/-- What holds a slice of the call's own. -/
def slL (v : Value) (cs : List Value) (e : TypeId) (n : Nat) : Locs :=
  match v with
  | .slice (some a) _ cap => [(a.block, .row 0 cs e (cap * n))]
  | _ => []

/-- A slice of the call's own, of m elements. -/
def Own (v : Value) (cs : List Value) (n m : Nat) : Prop :=
  cs.length = m * n ∧ ((v = .slice none 0 0 ∧ m = 0) ∨ ∃ b cap, v = .slice (some ⟨b, 0, none⟩) m cap ∧ m ≤ cap)

theorem Own.nil {n : Nat} : Own (.slice none 0 0) [] n 0 := ⟨by simp, .inl ⟨rfl, rfl⟩⟩

/-- What an append reads: some elements' cells. -/
def SrcIs (G : Heap) (L : Locs) (v : Value) (m n : Nat) (news : List Value) : Prop :=
  (∃ b o c V, v = .slice (some ⟨b, o, none⟩) m c ∧ InR G L b V ∧ V.take o (m * n) = some news) ∨ (v = .slice none 0 0 ∧ m = 0 ∧ news = [])

section
variable {P : Program} {r : Option Nat} {l : Slots} {G : Heap} {d : Option Tmp} {ty : TypeId} {pos : String} {af : Array Edge} {g : Option (Nat × Bool)}

theorem zeroCells_eq {v : Value} {z : List Value} {n m : Nat} (h : v.cells.toList = z) (hm : z.length = m) : Builtin.zeroCells v.cells n = (⟨zeros z n⟩ : Array Value) := by
  have := madeCells_eq (n := n) h hm
  rw [← this]
  unfold Builtin.zeroCells madeCells
  have : v.cells.size = m := by rw [← hm, ← h]; simp
  rw [this]

theorem SrcIs.run {L : Locs} {v : Value} {m n : Nat} {news : List Value} (h : SrcIs G L v m n news) (wf : Wf G L) {w : World} (hh : Holds (ov G L) w) :
    (Builtin.firstCells n m v).run P w = .ok ⟨news⟩ w ∧ (Builtin.lenOf v).run P w = .ok m w ∧ news.length = m * n := by
  rcases h with ⟨b, o, c, V, rfl, hb, ht⟩ | ⟨rfl, rfl, rfl⟩
  · obtain ⟨q1, q2⟩ := View.take_spec ht
    have hl := run_loadCells_list (P := P) w ⟨b, o, none⟩ news (fun j v hj => by
      rw [add_none]
      exact hh.cell? (hb wf) (q2 j v hj))
    rw [q1] at hl
    exact ⟨by simp [Builtin.firstCells, hl], by simp [Builtin.lenOf], q1⟩
  · exact ⟨by simp [Builtin.firstCells], by simp [Builtin.lenOf], by simp⟩

/-- 'append' onto a slice of the call's own. -/
theorem GS.append {t t' e : TypeId} {x y : Operand} {v u : Value} {cs news z : List Value} {n m m2 bytes : Nat} {ag : Bool} {e2 : TypeId} {A B : Locs} [ht : ElemK P t none e ag n] [ht' : Und P t' (.slice e2)] [hi : InfoK P e n bytes z]
    (hx : evL l x = some v) (hy : evL l y = some u) (ho : Own v cs n m) (hs : SrcIs G (A ++ (slL v cs e n ++ B)) u m2 n news) (h1 : news.all (·.oneCell') = true)
    (hn : 0 < bytes) (hb : (m + m2) * bytes ≤ 140737488355328) :
    GS P r ⟨d, .call ⟨.builtin .append, #[x, y], #[t, t']⟩, ty, pos, af, g⟩ l G (A ++ (slL v cs e n ++ B)) (fun v' G1 L1 => Own v' (cs ++ news) n (m + m2) ∧ G1 = G ∧ L1 = A ++ (slL v' (cs ++ news) e n ++ B)) := fun wf a w hs' hh => by
  obtain ⟨k1, k2⟩ := elemK_slice ht.h
  obtain ⟨inf, zv, i1, i2, i3, i4, i5⟩ := hi.h
  obtain ⟨s1, s2, s3⟩ := hs.run (P := P) wf hh
  have s1d : (Builtin.firstCells n m2 u).run P w.drew = .ok ⟨news⟩ w.drew := (hs.run (P := P) (w := w.drew) wf hh).1
  have hmm : m + m2 ≤ 140737488355328 := Nat.le_trans (Nat.le_mul_of_pos_right _ hn) hb
  have hEx : ∀ (V : Value) (w' : World), (Builtin.append_ #[t, t'] ty #[v, u]).run P w = .ok V w' → (execOp a.eval ⟨d, .call ⟨.builtin .append, #[x, y], #[t, t']⟩, ty, pos, af, g⟩).run P w = .ok (.value V) w' := fun V w' h => by
    simp [execOp, resolve, Go.invoke, builtin, hs'.eval hx, hs'.eval hy, h]
  have hlenA : (cs ++ news).length = (m + m2) * n := by rw [List.length_append, ho.1, s3, Nat.add_mul]
  -- a new row
  have grow : ∀ (olds : List Value) (base : Option Addr) (sCap : Nat), v = .slice base m sCap → olds = cs → sCap < m + m2 → (Builtin.firstCells n m v).run P w.drew = .ok ⟨cs⟩ w.drew →
      (∀ L0 : Locs, L0 = A ++ B → (Wf G (A ++ (slL v cs e n ++ B)) → Wf G (A ++ B) ∧ Sub (ov G (A ++ B)) (ov G (A ++ (slL v cs e n ++ B))))) →
      ∃ v' w', (Builtin.append_ #[t, t'] ty #[v, u]).run P w = .ok v' w' ∧ Wf G (A ++ (slL v' (cs ++ news) e n ++ B)) ∧ Holds (ov G (A ++ (slL v' (cs ++ news) e n ++ B))) w' ∧ Frame (ov G (A ++ (slL v cs e n ++ B))) w (ov G (A ++ (slL v' (cs ++ news) e n ++ B))) w' ∧ Own v' (cs ++ news) n (m + m2) := by
    intro olds base sCap hv _ hg hold hsub
    have hge := grownCap_ge w (m + m2) sCap e
    have hfit : Builtin.nextslicecap (m + m2) sCap * bytes ≤ 281474976710656 := growslice_fits hg hb
    have hfit' : ¬ (281474976710656 < Builtin.nextslicecap (m + m2) sCap * bytes) := by omega
    have h63 : ¬ (9223372036854775807 < ((m : Int) + (m2 : Int))) := by omega
    have hn' : ¬ (m + m2 ≤ sCap) := by omega
    have hz : ∀ c, Builtin.zeroCells zv.cells c = (⟨zeros z c⟩ : Array Value) := fun c => zeroCells_eq i5 hi.hz
    have hrun : (Builtin.append_ #[t, t'] ty #[v, u]).run P w = .ok (.slice (some ⟨w.heap.size, 0, none⟩) (m + m2) (grownCap w (m + m2) sCap e)) (w.drew.alloc (.cells (⟨cs⟩ ++ ⟨news⟩ ++ (⟨zeros z (grownCap w (m + m2) sCap e - (m + m2))⟩ : Array Value)) e)) := by
      have hold' := hold
      rw [hv] at hold' ⊢
      have s1d' := s1d
      have hsz : inf.size = n := i2
      have hby : inf.bytes = bytes := i3
      simp [Builtin.append_, run_underlying k1, run_underlying ht'.h, sizeOf, typeInfo, zeroValue, i1, i4, hsz, hby, s2, hn', h63, hfit', Question.forced, hold', s1d, newRow, grownCap, hz]
    refine ⟨_, _, hrun, ?_⟩
    obtain ⟨wf0, sub0⟩ := hsub _ rfl wf
    have hfr : ov G (A ++ B) w.heap.size = none := by
      cases e' : ov G (A ++ B) w.heap.size with
      | none => rfl
      | some V => exact absurd (hh.lt (sub0 _ _ e')) (by omega)
    have hp : ((w.heap.size, View.row 0 (cs ++ news) e (grownCap w (m + m2) sCap e * n)) :: (A ++ B)).Perm (A ++ (slL (.slice (some ⟨w.heap.size, 0, none⟩) (m + m2) (grownCap w (m + m2) sCap e)) (cs ++ news) e n ++ B)) := by
      simpa [slL] using (List.perm_middle (a := (w.heap.size, View.row 0 (cs ++ news) e (grownCap w (m + m2) sCap e * n))) (l₁ := A) (l₂ := B)).symm
    obtain ⟨p1, p2⟩ := wf_perm hp (wf0.cons hfr)
    rw [p2, ov_cons]
    have hobj : (View.row 0 (cs ++ news) e (grownCap w (m + m2) sCap e * n)).ok (.cells (⟨cs⟩ ++ ⟨news⟩ ++ (⟨zeros z (grownCap w (m + m2) sCap e - (m + m2))⟩ : Array Value)) e) := by
      refine ⟨_, (0, 0), rfl, ?_, ?_, fun i _ _ h => Nat.not_lt_zero _ h.2, fun i v hi => ?_⟩
      · simp only [Array.size_append, List.size_toArray, zeros_length, hi.hz]
        have : cs.length + news.length = (m + m2) * n := by rw [← List.length_append]; exact hlenA
        rw [this, ← Nat.add_mul]
        congr 1
        omega
      · rw [hlenA]; exact (by simpa using Nat.mul_le_mul_right n hge)
      · rw [Nat.zero_add, ← Array.getElem?_toList]
        simp only [Array.toList_append]
        rw [List.getElem?_append_left (by have := (List.getElem?_eq_some_iff.1 hi).1; simpa using this)]
        exact hi
    have hh0 : Holds (ov G (A ++ B)) w.drew := (hh.sub sub0).drawn _
    refine ⟨p1, holds_alloc hh0 _ hobj, ?_, hlenA, .inr ⟨_, _, rfl, hge⟩⟩
    have f1 : Frame (ov G (A ++ (slL v cs e n ++ B))) w (ov G (A ++ B)) w := (Frame.refl _ _).sub sub0
    have f2 : Frame (ov G (A ++ B)) w (ov G (A ++ B)) w.drew := frame_drawn _ _ _ (Nat.le_succ _)
    exact (f1.trans f2).trans (frame_alloc _ _ _ _)
  rcases ho.2 with ⟨rfl, rfl⟩ | ⟨b, cap, rfl, hcap⟩
  · -- nil
    have hcs : cs = [] := List.length_eq_zero_iff.1 (by simpa using ho.1)
    subst hcs
    rcases Nat.eq_zero_or_pos m2 with h0 | h0
    · subst h0
      have hnews : news = [] := List.length_eq_zero_iff.1 (by simpa using s3)
      subst hnews
      have hrun : (Builtin.append_ #[t, t'] ty #[.slice none 0 0, u]).run P w = .ok (.slice none 0 0) w := by
        simp [Builtin.append_, run_underlying k1, run_underlying ht'.h, sizeOf, typeInfo, i1, i2, s2, s1]
      rw [hEx _ _ hrun]
      exact ⟨_, G, _, rfl, wf, hh, Frame.refl _ _, ⟨by simp, .inl ⟨rfl, rfl⟩⟩, rfl, rfl⟩
    · obtain ⟨v', w', q1, q2, q3, q4, q5⟩ := grow [] none 0 rfl rfl (by omega) (by simp [Builtin.firstCells]) (fun _ _ wf => by simpa [slL] using ⟨wf, Sub.refl _⟩)
      rw [hEx _ _ q1]
      exact ⟨v', G, _, rfl, q2, q3, q4, q5, rfl, rfl⟩
  · by_cases hroom : m + m2 ≤ cap
    · -- there is room
      have hU : UpdR G (A ++ (slL (.slice (some ⟨b, 0, none⟩) m cap) cs e n ++ B)) b (.row 0 cs e (cap * n)) (.row 0 (cs ++ news) e (cap * n)) G (A ++ (slL (.slice (some ⟨b, 0, none⟩) (m + m2) cap) (cs ++ news) e n ++ B)) :=
        UpdR.skip (UpdR.here (L := B)) A
      obtain ⟨h1', h2, h3⟩ := hU wf
      obtain ⟨o, hob, hok⟩ := hh b _ h1'
      obtain ⟨c, fr, rfl, q1, q2, q3, q4⟩ := hok
      have hlt := (Array.getElem?_eq_some_iff.1 hob).1
      have hfit : (m + m2) * n ≤ cap * n := Nat.mul_le_mul_right n hroom
      have hcsl := ho.1
      rw [Nat.add_mul] at hfit
      have hst := run_storeCells_row (P := P) (e := e) (fr := fr) news (m * n) 0 c w hob (by omega) (fun j k1 k2 => q3 j (by omega) (by omega)) (fun v hv => List.all_eq_true.1 h1 v hv)
      simp only [Nat.add_zero] at hst
      have hsz : inf.size = n := i2
      have hrun : (Builtin.append_ #[t, t'] ty #[.slice (some ⟨b, 0, none⟩) m cap, u]).run P w = .ok (.slice (some ⟨b, 0, none⟩) (m + m2) cap) (putRow w b ⟨wr c.toList (m * n) news⟩ e fr) := by
        simp [Builtin.append_, run_underlying k1, run_underlying ht'.h, sizeOf, typeInfo, i1, hsz, s2, hroom, s1, add_none, hst]
      rw [hEx _ _ hrun]
      have hwl : m * n + news.length ≤ c.toList.length := by simp; omega
      have hobj : (View.row 0 (cs ++ news) e (cap * n)).ok (.cells ⟨wr c.toList (m * n) news⟩ e fr) := by
        refine ⟨_, fr, rfl, by simp [wr_length, q1], by rw [hlenA, Nat.add_mul]; omega, q3, fun i v hi => ?_⟩
        rw [Nat.zero_add, ← Array.getElem?_toList]
        show (wr c.toList (m * n) news)[i]? = some v
        rw [wr_get news c.toList (m * n) i hwl]
        by_cases hi2 : i < cs.length
        · rw [List.getElem?_append_left hi2] at hi
          rw [if_neg (by omega)]
          have := q4 i v hi
          simpa using this
        · rw [List.getElem?_append_right (by omega)] at hi
          have := (List.getElem?_eq_some_iff.1 hi).1
          rw [if_pos (by omega), ← hi]
          congr 1
          omega
      refine ⟨_, G, _, rfl, h2, ?_, ?_, ⟨hlenA, .inr ⟨b, cap, rfl, hroom⟩⟩, rfl, rfl⟩
      · rw [h3]; exact holds_put hh (fun k hk => putRow_other _ _ _ _ _ hk) ⟨_, putRow_same _ _ _ _ _ hlt, hobj⟩
      · rw [h3]; exact frame_put h1' (by simp [putRow]) ⟨rfl, Nat.le_refl _⟩ rfl rfl (fun k hk => putRow_other _ _ _ _ _ hk)
    · have hin : InR G (A ++ (slL (.slice (some ⟨b, 0, none⟩) m cap) cs e n ++ B)) b (.row 0 cs e (cap * n)) := InR.skip (InR.here (L := B)) A
      have hsrc : SrcIs G (A ++ (slL (.slice (some ⟨b, 0, none⟩) m cap) cs e n ++ B)) (.slice (some ⟨b, 0, none⟩) m cap) m n cs := by
        refine .inl ⟨b, 0, cap, _, rfl, hin, ?_⟩
        rw [View.take_row (by omega) (by rw [← ho.1]; omega), ← ho.1]
        simp
      obtain ⟨v', w', q1, q2, q3, q4, q5⟩ := grow cs (some ⟨b, 0, none⟩) cap rfl rfl (by omega) (hsrc.run (P := P) (w := w.drew) wf hh).1 (fun _ _ wf => by
          exact wf_sublist (List.Sublist.append_left (List.sublist_append_right _ _) A) wf)
      rw [hEx _ _ q1]
      exact ⟨v', G, _, rfl, q2, q3, q4, q5, rfl, rfl⟩

end

section
variable {P : Program} {r : Option Nat} {Q : Post} {n : Nat} {l : Slots} {ds : List Nat} {G : Heap} {L : Locs} {ops : Array Oper} {rest : List Oper}

theorem WPL.app {t t' e : TypeId} {x y : Operand} {v u : Value} {cs news z : List Value} {k m m2 bytes : Nat} {ag : Bool} {e2 : TypeId} {d : Option Tmp} {ty : TypeId} {pos : String} {af : Array Edge} (A B : Locs) [ht : ElemK P t none e ag k] [ht' : Und P t' (.slice e2)] [hi : InfoK P e k bytes z]
    (hx : evL l x = some v) (hy : evL l y = some u) (ho : Own v cs k m) (hL : L = A ++ (slL v cs e k ++ B)) (hs : SrcIs G L u m2 k news) (h1 : news.all (·.oneCell') = true) (hn : 0 < bytes) (hb : (m + m2) * bytes ≤ 140737488355328)
    (K : ∀ v', Own v' (cs ++ news) k (m + m2) → WPL P r ops rest Q ⟨n, putL d v' l, ds⟩ G (A ++ (slL v' (cs ++ news) e k ++ B))) :
    WPL P r ops (⟨d, .call ⟨.builtin .append, #[x, y], #[t, t']⟩, ty, pos, af, none⟩ :: rest) Q ⟨n, l, ds⟩ G L := by
  subst hL
  exact WPL.gs rfl (GS.append hx hy ho hs h1 hn hb) fun v' G1 L1 ⟨h1, h2, h3⟩ => by subst h2 h3; exact K v' h1

/-- A slice of the call's own, looked into. -/
theorem Own.inr {v : Value} {cs : List Value} {e : TypeId} {k m : Nat} {A B : Locs} (h : Own v cs k m) (hm : 0 < m) : ∃ b cap, v = .slice (some ⟨b, 0, none⟩) m cap ∧ m ≤ cap ∧ InR G (A ++ (slL v cs e k ++ B)) b (.row 0 cs e (cap * k)) := by
  rcases h.2 with ⟨_, h0⟩ | ⟨b, cap, rfl, hc⟩
  · omega
  · exact ⟨b, cap, rfl, hc, InR.skip (InR.here (L := B)) A⟩

theorem Own.len {v : Value} {cs : List Value} {k m : Nat} (h : Own v cs k m) : ∃ a c, v = .slice a m c := by
  rcases h.2 with ⟨rfl, rfl⟩ | ⟨b, cap, rfl, _⟩
  · exact ⟨_, _, rfl⟩
  · exact ⟨_, _, rfl⟩
end
end Go.Proofs.YtfoakjdnopljmaaGreatDoor

set_option linter.unusedVariables false
set_option linter.unusedSimpArgs false
namespace Go.Proofs.YtfoakjdnopljmaaGreatDoor
open Go

section
variable {P : Program} {r : Option Nat} {l : Slots} {G : Heap} {L : Locs} {d : Option Tmp} {ty : TypeId} {pos : String} {af : Array Edge} {g : Option (Nat × Bool)}

theorem PS.b2sNil {src dst e : TypeId} {x : Operand} [hs : Und P src (.slice e)] [hd : Und P dst .string] [he : Und P e (.int .u8)] (hx : evL l x = some (.slice none 0 0)) : PS P ⟨d, .convert src dst x, ty, pos, af, g⟩ l G L (str []) :=
  .of fun a w hs' => by simp [execOp, hs'.eval hx, convert, run_underlying hs.h, run_underlying hd.h, run_underlying he.h, Conv.bytesToString]; rfl

/-- A string of the bytes of a slice of the call's own. -/
theorem PS.b2sOwn {src dst e : TypeId} {x : Operand} {v : Value} {s : List UInt8} {m : Nat} {A B : Locs} [hs : Und P src (.slice e)] [hd : Und P dst .string] [he : Und P e (.int .u8)] (hx : evL l x = some v) (ho : Own v (s.map u8) 1 m)
    (hL : L = A ++ (slL v (s.map u8) e 1 ++ B)) : PS P ⟨d, .convert src dst x, ty, pos, af, g⟩ l G L (str s) := by
  have hlen : s.length = m := by simpa using ho.1
  rcases ho.2 with ⟨rfl, h0⟩ | ⟨b, cap, rfl, hc⟩
  · have : s = [] := List.length_eq_zero_iff.1 (by omega)
    subst this
    exact PS.b2sNil hx
  · subst hL
    refine PS.b2s (V := .row 0 (s.map u8) e (cap * 1)) hx (InR.skip (InR.here (L := B)) A) ?_
    rw [View.take_row (by omega) (by simp; omega)]
    simp [List.take_of_length_le, hlen]
end
end Go.Proofs.YtfoakjdnopljmaaGreatDoor

set_option linter.unusedVariables false
set_option linter.unusedSimpArgs false
namespace Go.Proofs.YtfoakjdnopljmaaGreatDoor
open Go
section
variable {P : Program} {r : Option Nat} {Q : Post} {n : Nat} {l : Slots} {ds : List Nat} {G : Heap} {L : Locs} {ops : Array Oper} {k : Nat} {rem : List Nat} {X : List LateI} {HK : Heap}

/-- Only some of the call's own blocks are read in this region. -/
theorem ScrK.keep {L0 : Locs} (hs : L0.Sublist L) (K : ScrK P r ops k Q n ds (ov G L0) rem X l G L) : ScrK P r ops k Q n ds (fun _ => none) rem X l G L :=
  ScrK.weaken (HK' := ov G L0) (fun wf => sub_of hs wf) (fun _ _ b V h => by cases h) K

theorem ScrK.psK {i : Nat} {o : Oper} {v : Value} {L0 : Locs} (hs : L0.Sublist L) (ho : ops[i]? = some o) (hi : rem.contains i = true) (hr : rdyB ops (rem ++ X.map (·.i)) i = true) (hw : wantedL ops l o.guard = some true) (h : PS P o l G L0 v)
    (K : ScrK P r ops k Q n ds (ov G L0) (rem.erase i) X (putL o.dst v l) G L) : ScrK P r ops k Q n ds (ov G L0) rem X l G L := fun D hd st wf =>
  ScrK.yld ho (List.contains_iff_mem.1 hi) hr (fun a hs' => .inl ⟨wantedL_ok hw hs', fun w hw => h (wf_sublist hs wf).1 a w hs' hw⟩) K D hd st wf

theorem ScrK.cK {i : Nat} {o : Oper} {v : Value} {b : Bool} {L0 : Locs} (hs : L0.Sublist L) (ho : ops[i]? = some o) (hi : rem.contains i = true) (hr : rdyB ops (rem ++ X.map (·.i)) i = true) (hw : Wants ops l o b) (h : b = true → PS P o l G L0 v)
    (K : ScrK P r ops k Q n ds (ov G L0) (rem.erase i) X (putL o.dst (gv b v) l) G L) : ScrK P r ops k Q n ds (ov G L0) rem X l G L := fun D hd st wf =>
  ScrK.yld ho (List.contains_iff_mem.1 hi) hr (fun a hs' => by
    cases b with
    | true => exact .inl ⟨hw a hs', fun w hw' => h rfl (wf_sublist hs wf).1 a w hs' hw'⟩
    | false => exact .inr ⟨hw a hs', rfl⟩) K D hd st wf

/-- A store into a block that nothing read leans on. -/
theorem ScrK.stK {i : Nat} {d : Option Tmp} {t : TypeId} {x y : Operand} {ty : TypeId} {pos : String} {af : Array Edge} {b off m : Nat} {ag : Bool} {V V' : View} {v : Value} {L0 L' : Locs} [ht : TyK P t ag m]
    (ho : ops[i]? = some ⟨d, .store t x y, ty, pos, af, none⟩) (hi : rem.contains i = true) (hone : onlyB ops rem i = true) (hx : evL l x = some (.pointer (some ⟨b, off, none⟩))) (hy : evL l y = some v) (hb : UpdR G L b V V' G L') (hn : v.cells.size = m)
    (ho1 : v.cells.toList.all (·.oneCell') = true) (hv : V.write off v.cells.toList = some V') (hl : ∀ x ∈ X, ∀ d, dstAt ops x.i = some d → look d l = none) (hs : L0.Sublist L')
    (K : ScrK P r ops k Q n ds (ov G L0) (rem.erase i) X (putL d undef l) G L') : ScrK P r ops k Q n ds (ov G L0) rem X l G L :=
  ScrK.updS ho hi hone rfl (GS.store hx hy hb hn ho1 hv) hl hs K
end
end Go.Proofs.YtfoakjdnopljmaaGreatDoor

set_option linter.unusedVariables false
set_option linter.unusedSimpArgs false
namespace Go.Proofs.YtfoakjdnopljmaaGreatDoor
open Go

/-! ### Maps as lists of keys and values, in the order of their making -/
section pure
variable {α : Type} [BEq α]
def afind (a : α) : List (α × Value) → Nat → Option (Nat × Value)
  | [], _ => none
  | x :: T, i => bif a == x.1 then some (i, x.2) else afind a T (i + 1)
def aget {β : Type} (a : α) : List (α × β) → Option β
  | [] => none
  | x :: T => bif a == x.1 then some x.2 else aget a T
def aput {β : Type} (a : α) (v : β) : List (α × β) → List (α × β)
  | [] => [(a, v)]
  | x :: T => bif a == x.1 then (a, v) :: T else x :: aput a v T
def adel {β : Type} (a : α) : List (α × β) → List (α × β)
  | [] => []
  | x :: T => bif a == x.1 then T else x :: adel a T

theorem afind_get (a : α) : ∀ (T : List (α × Value)) (i : Nat), (afind a T i).map (·.2) = aget a T
  | [], _ => rfl
  | x :: T, i => by
    simp only [afind, aget]
    cases a == x.1 with
    | true => rfl
    | false => exact afind_get a T (i + 1)
theorem afind_none (a : α) : ∀ (T : List (α × Value)) (i : Nat), afind a T i = none → ∀ v, aput a v T = T ++ [(a, v)]
  | [], _, _, _ => rfl
  | x :: T, i, h, v => by
    simp only [afind] at h
    simp only [aput]
    cases hx : a == x.1 with
    | true => rw [hx] at h; cases h
    | false => rw [hx] at h; simp only [cond_false, List.cons_append]; rw [afind_none a T (i + 1) h]
theorem afind_noneD (a : α) : ∀ (T : List (α × Value)) (i : Nat), afind a T i = none → adel a T = T
  | [], _, _ => rfl
  | x :: T, i, h => by
    simp only [afind] at h
    simp only [adel]
    cases hx : a == x.1 with
    | true => rw [hx] at h; cases h
    | false => rw [hx] at h; simp only [cond_false]; rw [afind_noneD a T (i + 1) h]
theorem afind_some (a : α) : ∀ (T : List (α × Value)) (i j : Nat) (u : Value), afind a T i = some (j, u) → ∃ k x, j = i + k ∧ T[k]? = some x ∧ (a == x.1) = true ∧ u = x.2 ∧ (∀ v, aput a v T = T.set k (a, v)) ∧ adel a T = T.eraseIdx k
  | [], _, _, _, h => by cases h
  | x :: T, i, j, u, h => by
    simp only [afind] at h
    cases hx : a == x.1 with
    | true =>
      rw [hx] at h; cases h
      exact ⟨0, x, rfl, rfl, hx, rfl, fun v => by simp [aput, hx], by simp [adel, hx]⟩
    | false =>
      rw [hx] at h
      obtain ⟨k, y, h1, h2, h3, h4, h5, h6⟩ := afind_some a T (i + 1) j u h
      exact ⟨k + 1, y, by omega, by simpa using h2, h3, h4, fun v => by simp [aput, hx, h5], by simp [adel, hx, h6]⟩
end pure

/-- What is asked of the keys of a map's type. -/
structure KeyLaw (P : Program) (kt : TypeId) {α : Type} [BEq α] (enc : α → Value) (ok : α → Prop) : Prop where
  eqv : ∀ a b, ok a → ok b → (a == b) = true → enc a = enc b
  chk : ∀ em a w, ok a → (Instr.checkKey em 10000 kt (enc a)).run P w = .ok () w
  find : ∀ a (es : List MapEntry) (T : List (α × Value)) (w : World), ok a → (∀ x ∈ T, ok x.1) → es.map (fun e => (e.key, e.val)) = T.map (fun x => (enc x.1, x.2)) → (Instr.findKey kt (enc a) es).run P w = .ok (afind a T 0) w
  same : ∀ a, ok a → Instr.sameBits 10000 (enc a) (enc a) = true

def mapV {α : Type} (enc : α → Value) (T : List (α × Value)) : View := .map (T.map fun x => (enc x.1, x.2))

theorem underlying_run {P : Program} {t : TypeId} {d : TypeDesc} (h : P.underlying t = some d) (w : World) : (underlying t).run P w = .ok d w := run_underlying h w

section
variable {P : Program} {kt : TypeId} {α : Type} [BEq α] {enc : α → Value} {ok : α → Prop}

theorem findAsking_run {a : α} (hq : ∀ b (w : World), ok b → (Op.equal kt (enc a) (enc b)).run P w = .ok (a == b) w) : ∀ (es : List MapEntry) (T : List (α × Value)) (i : Nat) (w : World), (∀ x ∈ T, ok x.1) →
    es.map (fun e => (e.key, e.val)) = T.map (fun x => (enc x.1, x.2)) → (Instr.findAsking kt (enc a) es i).run P w = .ok (afind a T i) w
  | [], [], i, w, _, _ => rfl
  | [], _ :: _, _, _, _, h => by simp at h
  | _ :: _, [], _, _, _, h => by simp at h
  | e :: es, x :: T, i, w, hT, h => by
    simp only [List.map_cons, List.cons.injEq, Prod.mk.injEq] at h
    simp only [Instr.findAsking, Sem.run_bind, h.1.1, hq x.1 w (hT x (List.mem_cons_self ..)), Result.andThen_ok, afind]
    cases a == x.1 with
    | true => simp [h.1.2]
    | false =>
      simp only [cond_false, Bool.false_eq_true, ↓reduceIte]
      exact findAsking_run hq es T (i + 1) w (fun y hy => hT y (List.mem_cons_of_mem _ hy)) h.2

end

theorem flat_desc {P : Program} {t : TypeId} {ks : List CK} [h : FlatK P t ks] : ∃ d, P.underlying t = some d := by
  have := h.h
  simp only [flatK] at this
  split at this <;> first | exact ⟨_, ‹_›⟩ | cases this

theorem sameBits_cell {k : CK} {v : Value} (h : k.fits v = true) (n : Nat) : Instr.sameBits n v v = true := by
  cases k <;> cases v <;> simp_all [CK.fits, Instr.sameBits, MapKept.bytes_beq]
theorem sameBits_list : ∀ {ks : List CK} {vs : List Value}, fitsL ks vs = true → ∀ n, ((vs.zip vs).all fun (x, y) => Instr.sameBits n x y) = true
  | [], [], _, _ => rfl
  | [], _ :: _, h, _ => by simp [fitsL] at h
  | _ :: _, [], h, _ => by simp [fitsL] at h
  | k :: ks, v :: vs, h, n => by
    simp only [fitsL, Bool.and_eq_true] at h
    simp only [List.zip_cons_cons, List.all_cons, sameBits_cell h.1 n, Bool.true_and]
    exact sameBits_list h.2 n

/-- Keys that are structs, or arrays, of numbers, truth values and strings. -/
theorem KeyLaw.flat {P : Program} {kt : TypeId} {ks : List CK} [hf : FlatK P kt ks] {α : Type} [BEq α] {enc : α → List Value} {ok : α → Prop} (h1 : ∀ a, ok a → fitsL ks (enc a) = true)
    (h2 : ∀ a b, ok a → ok b → cellsEq (enc a) (enc b) = (a == b)) (h3 : ∀ a b, ok a → ok b → (a == b) = true → enc a = enc b) : KeyLaw P kt (fun a => Value.agg ⟨enc a⟩) ok where
  eqv a b ha hb h := by simp only [h3 a b ha hb h]
  chk em a w ha := ((flat_spec 10 9990 kt true ks hf.h).2.1 em) w (enc a) (h1 a ha)
  find a es T w ha hT h := by
    obtain ⟨d, hd⟩ := flat_desc (P := P) (t := kt)
    have hk : (Instr.findAsking kt (.agg ⟨enc a⟩) es 0).run P w = .ok (afind a T 0) w :=
      findAsking_run (enc := fun a => Value.agg ⟨enc a⟩) (ok := ok) (fun b w hb => by rw [FlatK.run (h1 a ha) (h1 b hb) w, h2 a b ha hb]) es T 0 w hT h
    simp only [Instr.findKey, Sem.run_bind, underlying_run hd, Result.andThen_ok]
    cases es with
    | nil =>
      cases T with
      | nil => simp [Instr.findNow, afind]
      | cons x T => simp at h
    | cons e es =>
      have : Instr.findNow d (.agg ⟨enc a⟩) (e :: es) 0 = none := by
        have hs : Instr.sameNow d (.agg ⟨enc a⟩) e.key = none := by cases d <;> cases e.key <;> rfl
        simp [Instr.findNow, hs]
      simp only [this]
      exact hk
  same a ha := by
    have := sameBits_list (h1 a ha) 9999
    simp only [Instr.sameBits, beq_self_eq_true, Bool.true_and]
    exact this

end Go.Proofs.YtfoakjdnopljmaaGreatDoor

set_option linter.unusedVariables false
set_option linter.unusedSimpArgs false
namespace Go.Proofs.YtfoakjdnopljmaaGreatDoor
open Go
theorem map_erase {α β : Type} (f : α → β) : ∀ (l : List α) (k : Nat), (l.eraseIdx k).map f = (l.map f).eraseIdx k
  | [], _ => rfl
  | _ :: _, 0 => rfl
  | x :: l, k + 1 => by simp [map_erase f l k]
section
variable {P : Program} {r : Option Nat} {l : Slots} {G : Heap} {L : Locs} {d : Option Tmp} {ty : TypeId} {pos : String} {af : Array Edge} {g : Option (Nat × Bool)}
  {α : Type} [BEq α] {enc : α → Value} {ok : α → Prop} {T : List (α × Value)} {t kt et : TypeId} {x y z : Operand} {b : Nat} {a : α}

/-- What a look-up hands back. -/
def got (o : Option Value) (z : Value) (commaOk : Bool) : Value := bif commaOk then .tuple #[o.getD z, .bool o.isSome] else o.getD z

theorem PS.mapGet {c : Bool} {zv : Value} [hu : Und P t (.map kt et)] [hz : ZeroK P et zv] (K : KeyLaw P kt enc ok) (hx : evL l x = some (.map (some b))) (hy : evL l y = some (enc a)) (hb : InR G L b (mapV enc T)) (ha : ok a) (hT : ∀ x ∈ T, ok x.1) :
    PS P ⟨d, .lookup t x y c, ty, pos, af, g⟩ l G L (got (aget a T) zv c) := fun wf act w hs hh => by
  obtain ⟨o, ho, en, ck, rfl, h1, h2, h3⟩ := hh b _ (hb wf)
  have e1 := K.find a en.toList T w ha hT h1
  have e2 := K.chk en.isEmpty a w ha
  have hg := afind_get a T 0
  simp only [execOp, hs.eval hx, hs.eval hy, Instr.lookup, Sem.run_bind, underlying_run hu.h, Result.andThen_ok, MapKept.run_getObj_map ho, Sem.run_pure, e2, e1]
  cases hf : afind a T 0 with
  | none =>
    rw [hf] at hg
    have hg : aget a T = none := hg.symm
    simp only [Sem.run_bind, run_zero hz.h, Result.andThen_ok, Sem.run_pure, hg, got]
    cases c <;> rfl
  | some p =>
    rw [hf] at hg
    have hg : aget a T = some p.2 := hg.symm
    simp only [Sem.run_bind, Result.andThen_ok, Sem.run_pure, hg, got]
    cases c <;> rfl

theorem PS.mapGetNil {c : Bool} {zv : Value} [hu : Und P t (.map kt et)] [hz : ZeroK P et zv] (K : KeyLaw P kt enc ok) (hx : evL l x = some (.map none)) (hy : evL l y = some (enc a)) (ha : ok a) :
    PS P ⟨d, .lookup t x y c, ty, pos, af, g⟩ l G L (got none zv c) := fun wf act w hs hh => by
  have e1 := K.find a [] [] w ha (by simp) rfl
  have e2 := K.chk true a w ha
  simp only [execOp, hs.eval hx, hs.eval hy, Instr.lookup, Sem.run_bind, underlying_run hu.h, Result.andThen_ok, Sem.run_pure, Array.isEmpty_empty, e2, e1, afind, run_zero hz.h, got, List.toArray]
  cases c <;> rfl

theorem PS.lenMap {es : List (Value × Value)} [hu : Und P t (.map kt et)] (hx : evL l x = some (.map (some b))) (hb : InR G L b (.map es)) :
    PS P ⟨d, .call ⟨.builtin .len, #[x], #[t]⟩, ty, pos, af, g⟩ l G L (num es.length) := fun wf act w hs hh => by
  obtain ⟨o, ho, en, ck, rfl, h1, h2, h3⟩ := hh b _ (hb wf)
  have : es.length = en.size := by rw [← h1]; simp
  simp [execOp, resolve, Go.invoke, builtin, Builtin.len_, hs.eval hx, run_underlying hu.h, goInt, MapKept.run_getObj_map ho, this]

theorem PS.lenMapNil [hu : Und P t (.map kt et)] (hx : evL l x = some (.map none)) :
    PS P ⟨d, .call ⟨.builtin .len, #[x], #[t]⟩, ty, pos, af, g⟩ l G L (num 0) := fun wf act w hs hh => by
  simp [execOp, resolve, Go.invoke, builtin, Builtin.len_, hs.eval hx, run_underlying hu.h, goInt]

/-- A block that is there is turned into another one. -/
theorem put_view {H : Heap} {w : World} {V V' : View} {o' : Obj} (hh : Holds H w) (hb : H b = some V) (hok : V'.ok o') :
    Holds (H.set b V') { w with heap := w.heap.setIfInBounds b o' } ∧ Frame H w (H.set b V') { w with heap := w.heap.setIfInBounds b o' } := by
  obtain ⟨o, ho, _⟩ := hh b V hb
  obtain ⟨k1, k2⟩ := MapKept.heap_set (o' := o') ho
  exact ⟨holds_put hh (fun c hc => k2 c hc) ⟨o', k1, hok⟩, frame_put hb (by simp) ⟨rfl, Nat.le_refl _⟩ rfl rfl (fun c hc => k2 c hc)⟩

theorem GS.mapPut {v : Value} {G' : Heap} {L' : Locs} [hu : Und P t (.map kt et)] (K : KeyLaw P kt enc ok) (hx : evL l x = some (.map (some b))) (hy : evL l y = some (enc a)) (hz : evL l z = some v) (hb : UpdR G L b (mapV enc T) (mapV enc (aput a v T)) G' L')
    (ha : ok a) (hT : ∀ x ∈ T, ok x.1) : GS P r ⟨d, .mapUpdate t x y z, ty, pos, af, g⟩ l G L (fun u G1 L1 => u = undef ∧ G1 = G' ∧ L1 = L') := fun wf act w hs hh => by
  obtain ⟨hb1, hb2, hb3⟩ := hb wf
  obtain ⟨o, ho, en, ck, rfl, h1, h2, h3⟩ := hh b _ hb1
  have e1 := K.find a en.toList T w ha hT h1
  have e2 := K.chk false a w ha
  cases hf : afind a T 0 with
  | none =>
    rw [hf] at e1
    have hr : (execOp act.eval ⟨d, .mapUpdate t x y z, ty, pos, af, g⟩).run P w = .ok .skip { w with heap := w.heap.setIfInBounds b (.map (en.push { key := enc a, val := v, born := ck }) (ck + 1)) } := by
      simp [execOp, hs.eval hx, hs.eval hy, hs.eval hz, Instr.mapUpdate, Sem.run_bind, underlying_run hu.h, Result.andThen_ok, MapKept.run_getObj_map ho, e2, e1, MapKept.run_setObj_map _ ho]
    obtain ⟨p1, p2⟩ := put_view (V' := mapV enc (aput a v T)) (o' := .map (en.push { key := enc a, val := v, born := ck }) (ck + 1)) hh hb1 ⟨_, _, rfl, by simp [afind_none a T 0 hf, h1], by
        simp only [Array.toList_push, List.map_append, List.map_cons, List.map_nil]
        refine List.nodup_append.2 ⟨h2, by simp, ?_⟩
        intro p hp q hq
        simp only [List.mem_singleton] at hq
        subst hq
        simp only [List.mem_map] at hp
        obtain ⟨e, he, rfl⟩ := hp
        have := h3 e he
        omega, by
        intro e he
        simp only [Array.toList_push, List.mem_append, List.mem_singleton] at he
        rcases he with he | rfl
        · have := h3 e he; omega
        · simp⟩
    rw [hr]
    exact ⟨undef, G', L', rfl, hb2, by rw [hb3]; exact p1, by rw [hb3]; exact p2, rfl, rfl, rfl⟩
  | some p =>
    obtain ⟨j, u⟩ := p
    rw [hf] at e1
    obtain ⟨k, q, hk1, hk2, hk3, hk4, hk5, hk6⟩ := afind_some a T 0 j u hf
    have hj : j = k := by omega
    subst hj
    have hen : (en.toList.map (fun e => (e.key, e.val)))[j]? = some (enc q.1, q.2) := by rw [h1]; simp [hk2]
    rw [List.getElem?_map] at hen
    obtain ⟨e, he, hee⟩ := Option.map_eq_some_iff.1 hen
    have hea : en[j]? = some e := by simpa using he
    simp only [Prod.mk.injEq] at hee
    have hq : ok q.1 := hT q (List.mem_of_getElem? hk2)
    have hkey : e.key = enc a := by rw [hee.1, K.eqv a q.1 ha hq hk3]
    have hr : (execOp act.eval ⟨d, .mapUpdate t x y z, ty, pos, af, g⟩).run P w = .ok .skip { w with heap := w.heap.setIfInBounds b (.map (en.modify j fun e => { e with key := enc a, val := v }) ck) } := by
      simp [execOp, hs.eval hx, hs.eval hy, hs.eval hz, Instr.mapUpdate, Sem.run_bind, underlying_run hu.h, Result.andThen_ok, MapKept.run_getObj_map ho, e2, e1, MapKept.run_setObj_map _ ho, hea, hkey, Instr.keyThatStays, K.same a ha]
    have hml : (en.modify j fun e => { e with key := enc a, val := v }).toList = en.toList.set j { e with key := enc a, val := v } := by
      rw [Array.toList_modify, List.modify_eq_set]; simp [he]
    obtain ⟨p1, p2⟩ := put_view (V' := mapV enc (aput a v T)) (o' := .map (en.modify j fun e => { e with key := enc a, val := v }) ck) hh hb1 ⟨_, _, rfl, by
        rw [hml, List.map_set, h1, hk5 v, List.map_set], by
        rw [hml, List.map_set]
        have : (en.toList.map (·.born)).set j e.born = en.toList.map (·.born) := by
          apply List.ext_getElem?
          intro i
          rw [List.getElem?_set]
          split
          · rename_i hij; subst hij
            split
            · simp [he]
            · rename_i hlt; simp at hlt; simp [hlt]
          · rfl
        rw [this]; exact h2, by
        rw [hml]
        intro e' he'
        rcases List.mem_or_eq_of_mem_set he' with h | rfl
        · exact h3 e' h
        · exact h3 e (List.mem_of_getElem? he)⟩
    rw [hr]
    exact ⟨undef, G', L', rfl, hb2, by rw [hb3]; exact p1, by rw [hb3]; exact p2, rfl, rfl, rfl⟩

/-- 'delete(m, k)'. -/
theorem GS.mapDel {t' : TypeId} {G' : Heap} {L' : Locs} [hu : Und P t (.map kt et)] (K : KeyLaw P kt enc ok) (hx : evL l x = some (.map (some b))) (hy : evL l y = some (enc a)) (hb : UpdR G L b (mapV enc T) (mapV enc (adel a T)) G' L')
    (ha : ok a) (hT : ∀ x ∈ T, ok x.1) : GS P r ⟨d, .call ⟨.builtin .delete, #[x, y], #[t, t']⟩, ty, pos, af, g⟩ l G L (fun u G1 L1 => u = .tuple #[] ∧ G1 = G' ∧ L1 = L') := fun wf act w hs hh => by
  obtain ⟨hb1, hb2, hb3⟩ := hb wf
  obtain ⟨o, ho, en, ck, rfl, h1, h2, h3⟩ := hh b _ hb1
  have e1 := K.find a en.toList T w ha hT h1
  have e2 := K.chk en.isEmpty a w ha
  cases hf : afind a T 0 with
  | none =>
    rw [hf] at e1
    have hr : (execOp act.eval ⟨d, .call ⟨.builtin .delete, #[x, y], #[t, t']⟩, ty, pos, af, g⟩).run P w = .ok (.value (.tuple #[])) { w with heap := w.heap.setIfInBounds b (.map en ck) } := by
      simp [execOp, resolve, Go.invoke, builtin, Builtin.delete_, hs.eval hx, hs.eval hy, Sem.run_bind, underlying_run hu.h, Result.andThen_ok, MapKept.run_getObj_map ho, e2, e1, MapKept.run_setObj_map _ ho]
    obtain ⟨p1, p2⟩ := put_view (V' := mapV enc (adel a T)) (o' := .map en ck) hh hb1 ⟨_, _, rfl, by rw [afind_noneD a T 0 hf, h1], h2, h3⟩
    rw [hr]
    exact ⟨_, G', L', rfl, hb2, by rw [hb3]; exact p1, by rw [hb3]; exact p2, rfl, rfl, rfl⟩
  | some p =>
    obtain ⟨j, u⟩ := p
    rw [hf] at e1
    obtain ⟨k, q, hk1, hk2, hk3, hk4, hk5, hk6⟩ := afind_some a T 0 j u hf
    have hj : j = k := by omega
    subst hj
    have hr : (execOp act.eval ⟨d, .call ⟨.builtin .delete, #[x, y], #[t, t']⟩, ty, pos, af, g⟩).run P w = .ok (.value (.tuple #[])) { w with heap := w.heap.setIfInBounds b (.map (en.eraseIdxIfInBounds j) ck) } := by
      simp [execOp, resolve, Go.invoke, builtin, Builtin.delete_, hs.eval hx, hs.eval hy, Sem.run_bind, underlying_run hu.h, Result.andThen_ok, MapKept.run_getObj_map ho, e2, e1, MapKept.run_setObj_map _ ho]
    have hml : (en.eraseIdxIfInBounds j).toList = en.toList.eraseIdx j := by simp
    obtain ⟨p1, p2⟩ := put_view (V' := mapV enc (adel a T)) (o' := .map (en.eraseIdxIfInBounds j) ck) hh hb1 ⟨_, _, rfl, by
        rw [hml, map_erase, h1, hk6, map_erase], by
        rw [hml, map_erase]; exact h2.sublist (List.eraseIdx_sublist ..), by
        rw [hml]
        intro e' he'
        exact h3 e' (List.mem_of_mem_eraseIdx he')⟩
    rw [hr]
    exact ⟨_, G', L', rfl, hb2, by rw [hb3]; exact p1, by rw [hb3]; exact p2, rfl, rfl, rfl⟩
end
end Go.Proofs.YtfoakjdnopljmaaGreatDoor

set_option linter.unusedVariables false
set_option linter.unusedSimpArgs false
namespace Go.Proofs.YtfoakjdnopljmaaGreatDoor
open Go

/-! ### Ranging over a map -/
theorem Heap.set_same {H : Heap} {b : Nat} {V : View} (h : H b = some V) : H.set b V = H := by
  funext x; simp only [Heap.set]; split
  · rename_i e; rw [e, h]
  · rfl
theorem Heap.set_set {H : Heap} {b : Nat} {V V' : View} : (H.set b V).set b V' = H.set b V' := by
  funext x; simp only [Heap.set]; split <;> rfl
theorem Heap.set_at {H : Heap} {b : Nat} {V : View} : H.set b V b = some V := by simp [Heap.set]
theorem Heap.set_back {H : Heap} {b : Nat} {V V' : View} (h : H b = some V) : (H.set b V').set b V = H := by rw [Heap.set_set, Heap.set_same h]

structure MapObj (es : List (Value × Value)) (en : Array MapEntry) (ck : Nat) : Prop where
  kv : en.toList.map (fun x => (x.key, x.val)) = es
  nd : (en.toList.map (·.born)).Nodup
  lt : ∀ x ∈ en.toList, x.born < ck

theorem MapObj.ok {es : List (Value × Value)} {en : Array MapEntry} {ck : Nat} (h : MapObj es en ck) : (View.map es).ok (.map en ck) := ⟨en, ck, rfl, h.kv, h.nd, h.lt⟩

/-- The entries that have been handed out. -/
def iterO (b ck : Nat) (D : List MapEntry) : View := .obj (.mapIter (some b) ck (D.map (·.born)).toArray ck)
structure Sel (en : Array MapEntry) (D : List MapEntry) : Prop where
  nd : (D.map (·.born)).Nodup
  sub : ∀ e ∈ D, e ∈ en.toList
theorem Sel.nil {en : Array MapEntry} : Sel en [] := ⟨by simp, by simp⟩

theorem born_inj {en : Array MapEntry} (h : (en.toList.map (·.born)).Nodup) {x y : MapEntry} (hx : x ∈ en.toList) (hy : y ∈ en.toList) (e : x.born = y.born) : x = y := by
  have h1 := Go.find_born x en.toList h hx
  have h2 := Go.find_born y en.toList h hy
  rw [e] at h1
  rw [h1] at h2
  exact Option.some.inj h2
theorem nodup_of_map {α β : Type} (f : α → β) : ∀ {l : List α}, (l.map f).Nodup → l.Nodup
  | [], _ => by simp
  | x :: l, h => by
    rw [List.map_cons, List.nodup_cons] at h
    exact List.nodup_cons.2 ⟨fun hx => h.1 (List.mem_map_of_mem hx), nodup_of_map f h.2⟩
theorem Sel.add {en : Array MapEntry} {D : List MapEntry} (h : Sel en D) {e : MapEntry} (he : e ∈ en.toList) (hn : e.born ∉ D.map (·.born)) : Sel en (D ++ [e]) := by
  refine ⟨?_, fun x hx => ?_⟩
  · rw [List.map_append, List.nodup_append]
    refine ⟨h.nd, by simp, fun a ha c hc => ?_⟩
    simp only [List.map_cons, List.map_nil, List.mem_singleton] at hc
    subst hc
    intro e'; subst e'; exact hn ha
  · rcases List.mem_append.1 hx with hx | hx
    · exact h.sub x hx
    · rw [List.mem_singleton.1 hx]; exact he
theorem perm_of_all {en : Array MapEntry} {D : List MapEntry} (h : Sel en D) (hn : (en.toList.map (·.born)).Nodup) (ha : ∀ e ∈ en.toList, e.born ∈ D.map (·.born)) : D.Perm en.toList := by
  refine (List.perm_ext_iff_of_nodup (nodup_of_map _ h.nd) (nodup_of_map _ hn)).2 fun e => ⟨h.sub e, fun he => ?_⟩
  obtain ⟨x, hx, hxe⟩ := List.mem_map.1 (ha e he)
  rwa [← born_inj hn (h.sub x hx) he hxe]
theorem nodup_len : ∀ {l l' : List Nat}, l.Nodup → (∀ x ∈ l, x ∈ l') → l.length ≤ l'.length
  | [], _, _, _ => Nat.zero_le _
  | x :: l, l', h, hs => by
    have hx : x ∈ l' := hs x (List.mem_cons_self ..)
    have h1 := List.nodup_cons.1 h
    have h2 := nodup_len (l' := l'.erase x) h1.2 fun y hy => by
      have hne : y ≠ x := fun e => by subst e; exact h1.1 hy
      exact (List.mem_erase_of_ne hne).2 (hs y (List.mem_cons_of_mem _ hy))
    rw [List.length_erase_of_mem hx] at h2
    have : 0 < l'.length := List.length_pos_of_mem hx
    simp only [List.length_cons]; omega
theorem Sel.lt {en : Array MapEntry} {D : List MapEntry} (h : Sel en D) : D.length ≤ en.size := by
  have := nodup_len (l' := en.toList.map (·.born)) h.nd fun x hx => by
    obtain ⟨e, he, rfl⟩ := List.mem_map.1 hx
    exact List.mem_map_of_mem (h.sub e he)
  simpa using this

theorem perm_map_inv {α β : Type} {f : α → β} {l l' : List β} (h : l.Perm l') : ∀ {T : List α}, l' = T.map f → ∃ T' : List α, T'.Perm T ∧ T'.map f = l := by
  induction h with
  | nil => intro T hT; exact ⟨T, List.Perm.refl _, hT.symm⟩
  | cons x _ ih =>
    intro T hT
    cases T with
    | nil => simp at hT
    | cons y T =>
      simp only [List.map_cons, List.cons.injEq] at hT
      obtain ⟨T', h1, h2⟩ := ih hT.2
      exact ⟨y :: T', h1.cons y, by simp [h2, hT.1]⟩
  | swap x y l =>
    intro T hT
    match T, hT with
    | a :: b :: T, hT =>
      simp only [List.map_cons, List.cons.injEq] at hT
      exact ⟨b :: a :: T, List.Perm.swap a b T, by simp [hT.1, hT.2.1, hT.2.2]⟩
    | [], hT => simp at hT
    | [a], hT => simp at hT
  | trans _ _ ih1 ih2 =>
    intro T hT
    obtain ⟨T1, h1, h2⟩ := ih2 hT
    obtain ⟨T2, h3, h4⟩ := ih1 h2.symm
    exact ⟨T2, h3.trans h1, h4⟩

/-- All entries handed out, as keys and values. -/
theorem all_entries {α : Type} {enc : α → Value} {T : List (α × Value)} {en : Array MapEntry} {ck : Nat} {D : List MapEntry} (ho : MapObj (T.map fun x => (enc x.1, x.2)) en ck) (h : D.Perm en.toList) :
    ∃ T' : List (α × Value), T'.Perm T ∧ T'.map (fun x => (enc x.1, x.2)) = D.map fun e => (e.key, e.val) :=
  perm_map_inv (h.map _) ho.kv
theorem some_entries {α : Type} {enc : α → Value} {T : List (α × Value)} {en : Array MapEntry} {ck : Nat} {e : MapEntry} (ho : MapObj (T.map fun x => (enc x.1, x.2)) en ck) (h : e ∈ en.toList) : ∃ x ∈ T, e.key = enc x.1 ∧ e.val = x.2 := by
  have : (e.key, e.val) ∈ T.map fun x => (enc x.1, x.2) := by rw [← ho.kv]; exact List.mem_map_of_mem (f := fun x : MapEntry => (x.key, x.val)) h
  obtain ⟨x, hx, he⟩ := List.mem_map.1 this
  simp only [Prod.mk.injEq] at he
  exact ⟨x, hx, he.1.symm, he.2.symm⟩

section
variable {P : Program} {r : Option Nat} {Q : Post} {E : Env} {G : Heap} {L : Locs} {n : Nat} {l : Slots} {ds : List Nat} {ops : Array Oper} {rest : List Oper} {d : Option Tmp} {ty : TypeId} {pos : String} {af : Array Edge}

theorem start_turn {H : Heap} {w : World} {b : Nat} {V V' : View} {o : Obj} (hh : Holds H w) (hb : H b = some V) (ho : w.heap[b]? = some o) (hok : V'.ok o) : Holds (H.set b V') w ∧ Frame H w (H.set b V') w :=
  ⟨holds_put hh (fun _ _ => rfl) ⟨o, ho, hok⟩, frame_put hb rfl ⟨rfl, Nat.le_refl _⟩ rfl rfl (fun _ _ => rfl)⟩

/-- A view is read otherwise. -/
theorem WP.turn {c : Code} {b : Nat} {V V' : View} {G' : Heap} {L' : Locs} (hb : UpdR G L b V V' G' L') (hV : ∀ o, V.ok o → V'.ok o) (K : WP P r c Q E G' L') : WP P r c Q E G L := by
  intro wf a w he hh
  obtain ⟨h1, h2, h3⟩ := hb wf
  obtain ⟨o, ho, hok⟩ := hh b V h1
  obtain ⟨k1, k2⟩ := start_turn hh h1 ho (hV o hok)
  exact WP.start K he h2 (by rw [h3]; exact k1) (by rw [h3]; exact k2)

/-- A map is looked at entry by entry. -/
theorem WP.expose {c : Code} {b : Nat} {es : List (Value × Value)} {G' : Array MapEntry → Nat → Heap} {L' : Array MapEntry → Nat → Locs} (hb : ∀ en ck, UpdR G L b (.map es) (.obj (.map en ck)) (G' en ck) (L' en ck))
    (K : ∀ en ck, MapObj es en ck → WP P r c Q E (G' en ck) (L' en ck)) : WP P r c Q E G L := by
  intro wf a w he hh
  have h1 := (hb #[] 0 wf).1
  obtain ⟨o, ho, en, ck, rfl, k1, k2, k3⟩ := hh b _ h1
  obtain ⟨-, h2, h3⟩ := hb en ck wf
  obtain ⟨q1, q2⟩ := start_turn (V' := .obj (.map en ck)) hh h1 ho rfl
  exact WP.start (K en ck ⟨k1, k2, k3⟩) he h2 (by rw [h3]; exact q1) (by rw [h3]; exact q2)

theorem WPL.rangeM {t kt et : TypeId} {x : Operand} {b : Nat} {en : Array MapEntry} {ck : Nat} [hu : Und P t (.map kt et)] (hx : evL l x = some (.map (some b))) (hb : InR G L b (.obj (.map en ck)))
    (K : ∀ bi, WPL P r ops rest Q ⟨n, putL d (.pointer (some ⟨bi, 0, none⟩)) l, ds⟩ G ((bi, iterO b ck []) :: L)) : WPL P r ops (⟨d, .range t x, ty, pos, af, none⟩ :: rest) Q ⟨n, l, ds⟩ G L :=
  WPL.gs rfl (R := fun v G' L' => ∃ bi, v = .pointer (some ⟨bi, 0, none⟩) ∧ G' = G ∧ L' = (bi, iterO b ck []) :: L) (fun wf a w hs hh => by
    obtain ⟨o, ho, hok⟩ := hh b _ (hb wf)
    have hok : o = .map en ck := hok
    subst hok
    have hr : (execOp a.eval ⟨d, .range t x, ty, pos, af, none⟩).run P w = .ok (.value (.pointer (some ⟨w.heap.size, 0, none⟩))) (w.alloc (.mapIter (some b) ck #[] ck)) := by
      simp [execOp, hs.eval hx, run_range_map w t kt et b en ck hu.h ho]
    rw [hr]
    refine ⟨_, G, (w.heap.size, iterO b ck []) :: L, rfl, wf.cons (hh.fresh (Nat.le_refl _)), ?_, ?_, _, rfl, rfl, rfl⟩
    · rw [ov_cons]; exact holds_alloc hh _ rfl
    · rw [ov_cons]; exact frame_alloc _ _ _ _) fun v G' L' ⟨bi, h1, h2, h3⟩ => by rw [h1, h2, h3]; exact K bi

theorem leftOf_mem {en : Array MapEntry} {D : List MapEntry} {e : MapEntry} : e ∈ (leftOf en (D.map (·.born)).toArray).toList ↔ e ∈ en.toList ∧ e.born ∉ D.map (·.born) := by
  simp [leftOf]

theorem WPL.next {es : List (Value × Value)} {t : Nat} {x : Operand} {b bi : Nat} {en : Array MapEntry} {ck : Nat} {D : List MapEntry} {L' : View → Locs} (hx : evL l x = some (.pointer (some ⟨bi, 0, none⟩))) (hm : InR G L b (.obj (.map en ck)))
    (hb : ∀ V', UpdR G L bi (iterO b ck D) V' G (L' V')) (ho : MapObj es en ck) (hS : Sel en D)
    (K : ∀ (c : Bool) (vs : List Value) (D' : List MapEntry), Sel en D' → (c = true → ∃ e, D' = D ++ [e] ∧ e ∈ en.toList ∧ D.length < en.size) → (c = false → D' = D ∧ D.Perm en.toList) →
      WPL P r ops rest Q ⟨n, (t, .tuple ⟨.bool c :: vs⟩) :: l, ds⟩ G (L' (iterO b ck D'))) : WPL P r ops (⟨some t, .next x false, ty, pos, af, none⟩ :: rest) Q ⟨n, l, ds⟩ G L :=
  WPL.gs rfl (R := fun v G' L1 => ∃ c vs D', v = .tuple ⟨.bool c :: vs⟩ ∧ Sel en D' ∧ (c = true → ∃ e, D' = D ++ [e] ∧ e ∈ en.toList ∧ D.length < en.size) ∧ (c = false → D' = D ∧ D.Perm en.toList) ∧ G' = G ∧ L1 = L' (iterO b ck D')) (fun wf a w hs hh => by
    obtain ⟨o, h1, hok⟩ := hh b _ (hm wf)
    have hok : o = .map en ck := hok
    subst hok
    obtain ⟨hi, hwf0, hov0⟩ := hb (iterO b ck D) wf
    obtain ⟨o, h2, hok⟩ := hh bi _ hi
    have hok : o = .mapIter (some b) ck (D.map (·.born)).toArray ck := hok
    subst hok
    rcases run_next_at (P := P) w ty bi b ck ck (D.map (·.born)).toArray en ck h2 h1 ho.lt (Nat.le_refl _) with ⟨h3, h4⟩ | ⟨e, he, w1, hw1, h4⟩
    · have hr : (execOp a.eval ⟨some t, .next x false, ty, pos, af, none⟩).run P w = .ok (.value (.tuple #[.bool false])) w := by simp [execOp, hs.eval hx, h4]
      rw [hr]
      have hov : ov G (L' (iterO b ck D)) = ov G L := by rw [hov0]; exact Heap.set_same hi
      refine ⟨_, G, L' (iterO b ck D), rfl, hwf0, by rw [hov]; exact hh, by rw [hov]; exact Frame.refl _ _, false, [], D, rfl, hS, (fun h => by cases h), (fun _ => ⟨rfl, perm_of_all hS ho.nd fun e he => ?_⟩), rfl, rfl⟩
      refine Classical.byContradiction fun hn => ?_
      have : e ∈ (leftOf en (D.map (·.born)).toArray).toList := leftOf_mem.2 ⟨he, hn⟩
      have hz : (leftOf en (D.map (·.born)).toArray).toList = [] := by simpa using h3
      rw [hz] at this; cases this
    · obtain ⟨he1, he2⟩ := leftOf_mem.1 he
      have hS' := hS.add he1 he2
      have hlt : D.length < en.size := by have := hS'.lt; simp at this; omega
      have hr : (execOp a.eval ⟨some t, .next x false, ty, pos, af, none⟩).run P w = .ok (.value (.tuple #[.bool true, e.key, e.val])) (ChangeMaps.setBlock w1 bi (.mapIter (some b) ck ((D.map (·.born)).toArray.push e.born) ck)) := by simp [execOp, hs.eval hx, h4]
      rw [hr]
      obtain ⟨-, hwf1, hov1⟩ := hb (iterO b ck (D ++ [e])) wf
      have hobj : (iterO b ck (D ++ [e])).ok (.mapIter (some b) ck ((D.map (·.born)).toArray.push e.born) ck) := by
        show _ = _
        congr 1
        apply Array.toList_inj.1; simp
      have hbl : bi < w.heap.size := hh.lt hi
      have hw : (ChangeMaps.setBlock w1 bi (.mapIter (some b) ck ((D.map (·.born)).toArray.push e.born) ck)).heap = w.heap.setIfInBounds bi (.mapIter (some b) ck ((D.map (·.born)).toArray.push e.born) ck) := by rcases hw1 with rfl | rfl <;> rfl
      have hoth : ∀ c, c ≠ bi → (ChangeMaps.setBlock w1 bi (.mapIter (some b) ck ((D.map (·.born)).toArray.push e.born) ck)).heap[c]? = w.heap[c]? := fun c hc => by rw [hw]; simp [Ne.symm hc]
      refine ⟨_, G, L' (iterO b ck (D ++ [e])), rfl, hwf1, ?_, ?_, true, [e.key, e.val], D ++ [e], rfl, hS', (fun _ => ⟨e, rfl, he1, hlt⟩), (fun h => by cases h), rfl, rfl⟩
      · rw [hov1]; exact holds_put hh hoth ⟨_, by rw [hw]; simp [hbl], hobj⟩
      · rw [hov1]
        exact frame_put hi (by rw [hw]; simp) (by rcases hw1 with rfl | rfl <;> first | exact ⟨rfl, Nat.le_refl _⟩ | exact ⟨rfl, Nat.le_succ _⟩) (by rcases hw1 with rfl | rfl <;> rfl) (by rcases hw1 with rfl | rfl <;> rfl) hoth)
    fun v G' L1 ⟨c, vs, D', h1, h2, h3, h4, h5, h6⟩ => by subst h1 h5 h6; exact K c vs D' h2 h3 h4

theorem PS.entry {es : List (Value × Value)} {g : Option (Nat × Bool)} {x : Operand} {b bi : Nat} {en : Array MapEntry} {ck : Nat} {D : List MapEntry} {e : MapEntry} (hx : evL l x = some (.pointer (some ⟨bi, 0, none⟩))) (hm : InR G L b (.obj (.map en ck)))
    (hi : InR G L bi (iterO b ck (D ++ [e]))) (ho : MapObj es en ck) (he : e ∈ en.toList) : PS P ⟨d, .entry x, ty, pos, af, g⟩ l G L (.tuple #[e.key, e.val]) := fun wf a w hs hh => by
  obtain ⟨o, h1, hok⟩ := hh b _ (hm wf)
  have hok : o = .map en ck := hok
  subst hok
  obtain ⟨o, h2, hok⟩ := hh bi _ (hi wf)
  have hok : o = .mapIter (some b) ck ((D ++ [e]).map (·.born)).toArray ck := hok
  subst hok
  have h3 : ((D ++ [e]).map (·.born)).toArray = (D.map (·.born)).toArray.push e.born := by apply Array.toList_inj.1; simp
  rw [h3] at h2
  simp [execOp, hs.eval hx, run_entry_at (P := P) w bi b ck (D.map (·.born)).toArray en ck e h2 h1 he ho.nd]
end
end Go.Proofs.YtfoakjdnopljmaaGreatDoor

set_option linter.unusedVariables false
set_option linter.unusedSimpArgs false
namespace Go.Proofs.YtfoakjdnopljmaaGreatDoor
open Go
section
variable {P : Program} {r : Option Nat} {Q : Post} {E : Env} {G : Heap} {L : Locs} {n : Nat} {l : Slots} {ds : List Nat} {ops : Array Oper} {rest : List Oper}

theorem ov_absorb {b : Nat} {V : View} (wf : Wf G ((b, V) :: L)) : Wf (G.set b V) L ∧ ov (G.set b V) L = ov G ((b, V) :: L) := by
  have hn : b ∉ L.map (·.1) := (List.nodup_cons.1 wf.1).1
  refine ⟨⟨(List.nodup_cons.1 wf.1).2, fun x hx => ?_⟩, ?_⟩
  · have hne : x.1 ≠ b := fun e => hn (by rw [← e]; exact List.mem_map_of_mem hx)
    simp only [Heap.set, if_neg hne]
    exact wf.2 x (List.mem_cons_of_mem _ hx)
  · funext c
    rw [ov_cons]
    simp only [ov, Heap.set]
    by_cases hc : c = b
    · subst hc
      have : lookL c L = none := by
        cases h : lookL c L with
        | none => rfl
        | some V' => exact absurd (List.mem_map_of_mem (f := (·.1)) ((lookL_mem (List.nodup_cons.1 wf.1).2).1 h)) hn
      simp [this]
    · cases lookL c L <;> simp [hc]

/-- A block of the call's own counts as one of the world's. -/
theorem WP.absorb {c : Code} {b : Nat} {V : View} (K : G b = none → WP P r c Q E (G.set b V) L) : WP P r c Q E G ((b, V) :: L) := by
  intro wf a w he hh
  obtain ⟨h1, h2⟩ := ov_absorb wf
  have := K (wf.2 (b, V) (List.mem_cons_self ..)) h1 a w he (by rw [h2]; exact hh)
  rwa [h2] at this

/-- Own blocks that are needed no more. -/
theorem WP.drop {c : Code} {L' : Locs} (h : L'.Sublist L) (K : WP P r c Q E G L') : WP P r c Q E G L := by
  obtain ⟨n, l, ds⟩ := E
  exact WP.views (fun wf => wf_sublist h wf) K

/-- A call whose blocks are told by the whole heap. -/
theorem WPL.ev {d : Option Tmp} {c : Operand} {args : Array Operand} {ats : Array TypeId} {ty : TypeId} {pos : String} {af : Array Edge} {g : Option (Nat × Bool)} {f : FuncId} {first caps vs : List Value} {Q0 : Value → Heap → Prop} (hw : wantedL ops l g = some true)
    (hc : evL l c = some (.func (.func f) ⟨first⟩ ⟨caps⟩)) (ha : evs l args.toList = some vs)
    (h : Wf G L → Ev P f (first ++ vs ++ caps) (ov G L) Q0) (K : ∀ v H', Q0 v H' → ∃ G' L', (Wf G L → Wf G' L' ∧ Sub (ov G' L') H') ∧ WPL P r ops rest Q ⟨n, putL d v l, ds⟩ G' L') :
    WPL P r ops (⟨d, .call ⟨.value c, args, ats⟩, ty, pos, af, g⟩ :: rest) Q ⟨n, l, ds⟩ G L :=
  WPL.gs hw (GS.call hc ha h (R := fun v G' L' => WPL P r ops rest Q ⟨n, putL d v l, ds⟩ G' L') fun v H' hq => K v H' hq) fun v G' L' hk => hk
end

/-! ### Regions that draw: some blocks are written, others are read -/
def Heap.del (H : Heap) (b : Nat) : Heap := fun x => if x = b then none else H x
theorem Heap.del_ne {H : Heap} {b c : Nat} (h : c ≠ b) : H.del b c = H c := by simp [Heap.del, h]
theorem wf_del {G : Heap} {L : Locs} {b : Nat} (wf : Wf G L) : Wf (G.del b) L := ⟨wf.1, fun x hx => by simp only [Heap.del]; split; rfl; exact wf.2 x hx⟩
theorem sub_del {G : Heap} {L : Locs} {b : Nat} : Sub (ov (G.del b) L) (ov G L) := fun c V h => by
  simp only [ov, Heap.del] at h ⊢
  cases hl : lookL c L with
  | some V' => rw [hl] at h; exact h
  | none => rw [hl] at h; simp only at h ⊢; split at h; cases h; exact h
theorem sub_del_set {G : Heap} {L : Locs} {b : Nat} {V : View} : Sub (ov (G.del b) L) (ov (G.set b V) L) := fun c W h => by
  simp only [ov, Heap.del, Heap.set] at h ⊢
  cases hl : lookL c L with
  | some V' => rw [hl] at h; exact h
  | none => rw [hl] at h; simp only at h ⊢; split at h; cases h; rename_i hc; rw [if_neg hc]; exact h
section
variable {P : Program} {r : Option Nat} {Q : Post} {n : Nat} {l : Slots} {ds : List Nat} {G G0 : Heap} {L L0 : Locs} {ops : Array Oper} {k : Nat} {rem : List Nat} {X : List LateI}
theorem ScrK.keep2 (hs : Wf G L → Sub (ov G0 L0) (ov G L)) (K : ScrK P r ops k Q n ds (ov G0 L0) rem X l G L) : ScrK P r ops k Q n ds (fun _ => none) rem X l G L :=
  ScrK.weaken (HK' := ov G0 L0) hs (fun _ _ b V h => by cases h) K
theorem ScrK.psK2 {i : Nat} {o : Oper} {v : Value} (w0 : Wf G L → Wf G0 L0) (ho : ops[i]? = some o) (hi : rem.contains i = true) (hr : rdyB ops (rem ++ X.map (·.i)) i = true) (hw : wantedL ops l o.guard = some true) (h : PS P o l G0 L0 v)
    (K : ScrK P r ops k Q n ds (ov G0 L0) (rem.erase i) X (putL o.dst v l) G L) : ScrK P r ops k Q n ds (ov G0 L0) rem X l G L := fun D hd st wf =>
  ScrK.yld ho (List.contains_iff_mem.1 hi) hr (fun a hs' => .inl ⟨wantedL_ok hw hs', fun w hw => h (w0 wf) a w hs' hw⟩) K D hd st wf
theorem ScrK.updK2 {i : Nat} {o : Oper} {u : Value} {G' : Heap} {L' : Locs} (ho : ops[i]? = some o) (hi : rem.contains i = true) (hone : onlyB ops rem i = true) (hw : wantedL ops l o.guard = some true)
    (h : GS P r o l G L (fun v G1 L1 => v = u ∧ G1 = G' ∧ L1 = L')) (hl : ∀ x ∈ X, ∀ d, dstAt ops x.i = some d → look d l = none) (hs : Wf G L → Wf G' L' → Sub (ov G0 L0) (ov G' L'))
    (K : ScrK P r ops k Q n ds (ov G0 L0) (rem.erase i) X (putL o.dst u l) G' L') : ScrK P r ops k Q n ds (ov G0 L0) rem X l G L :=
  ScrK.gs ho hi hone hw h hl fun v G1 L1 ⟨h1, h2, h3⟩ => by subst h1 h2 h3; exact ⟨hs, K⟩
end
end Go.Proofs.YtfoakjdnopljmaaGreatDoor

set_option linter.unusedVariables false
set_option linter.unusedSimpArgs false
/- The library's sorts, brought over from the kit's contracts. -/
namespace Go.Proofs.YtfoakjdnopljmaaGreatDoor
open Go

theorem getEl {α : Type} [Inhabited α] {a : Array α} {i : Nat} (h : i < a.size) : a[i]! = a.toList.getD i default := by
  rw [getElem!_pos a i h, List.getD_eq_getElem?_getD]; simp [h]

theorem flatK_list {α : Type} [Inhabited α] {enc : α → List Value} {k : Nat} (hk : ∀ x, (enc x).length = k) (l : List α) : (Go.Sort.flatK enc k l.toArray).toList = l.flatMap enc := by
  apply List.ext_getElem?
  intro t
  have hl : (l.flatMap enc).length = l.length * k := by
    have : ∀ l : List α, (l.flatMap enc).length = l.length * k := by
      intro l; induction l with
      | nil => simp
      | cons x l ih => simp [ih, hk, Nat.succ_mul]; omega
    exact this l
  have hs : (Go.Sort.flatK enc k l.toArray).size = l.length * k := by simp
  by_cases ht : t < l.length * k
  · have k0 : 0 < k := by rcases Nat.eq_zero_or_pos k with h | h; · subst h; simp at ht
                          · exact h
    have hq : t / k < l.length := by rw [Nat.div_lt_iff_lt_mul k0]; exact ht
    have hm : t % k < k := Nat.mod_lt _ k0
    have key : ∀ (l : List α) (q c : Nat), q < l.length → c < k → (l.flatMap enc)[q * k + c]? = (enc (l.getD q default))[c]? := by
      intro l; induction l with
      | nil => intro q c h; simp at h
      | cons x l ih =>
        intro q c h hc
        cases q with
        | zero => rw [List.flatMap_cons, List.getElem?_append_left (by rw [hk]; omega)]; simp
        | succ q =>
          rw [List.flatMap_cons, List.getElem?_append_right (by rw [hk, Nat.succ_mul]; omega), hk, show (q + 1) * k + c - k = q * k + c by rw [Nat.succ_mul]; omega, ih q c (by simpa using h) hc]
          simp
    have e := key l (t / k) (t % k) hq hm
    rw [show t / k * k + t % k = t by rw [Nat.mul_comm]; exact Nat.div_add_mod t k] at e
    rw [e, Array.getElem?_toList, Array.getElem?_eq_getElem (by rw [hs]; exact ht)]
    have := Go.Sort.get_flatK enc k l.toArray t (by simpa using ht)
    rw [getElem!_pos _ t (by rw [hs]; exact ht)] at this
    rw [this, getEl (by simpa using hq)]
    have hc : t % k < (enc (l.getD (t / k) default)).length := by rw [hk]; exact hm
    rw [List.getElem?_eq_getElem hc]
    simp only [List.getElem!_eq_getElem?_getD, List.getElem?_eq_getElem hc]; rfl
  · rw [List.getElem?_eq_none (by rw [Array.length_toList, hs]; omega), List.getElem?_eq_none (by rw [hl]; omega)]

/-- A row that the library turns: its cells hold some values. -/
theorem row_holds {H : Heap} {w : World} {b N : Nat} {e : TypeId} {cs : List Value} (h : Holds H w) (hb : H b = some (.row 0 cs e N)) : Go.Sort.Holds (id : Value → Value) w b 0 cs.toArray := by
  obtain ⟨o, ho, c, fr, rfl, h1, h2, h3, h4⟩ := h b _ hb
  intro j hj
  have hj : j < cs.length := by simpa using hj
  have e0 : cs.toArray[j]! = cs[j] := by rw [getElem!_pos _ j (by simpa using hj)]; simp
  refine ⟨?_, ?_⟩
  · have := h4 j cs[j] (List.getElem?_eq_getElem hj)
    simp only [World.cell?, ho, this, e0]; rfl
  · have := h3 (0 + j) (by omega) (by omega)
    simp only [World.frozen?, ho]
    simp only [Bool.and_eq_false_iff, decide_eq_false_iff_not]
    by_cases h5 : fr.1 ≤ 0 + j
    · right; exact fun h6 => this ⟨h5, h6⟩
    · left; exact h5

/-- What a sort leaves. -/
theorem row_put {H : Heap} {w : World} {b N : Nat} {e : TypeId} {cs cs' : List Value} (h : Holds H w) (hb : H b = some (.row 0 cs e N)) (hl : cs'.length = cs.length) (n : Nat) (os : Array Obj) :
    Holds (H.set b (.row 0 cs' e N)) (Go.Sort.grow (Go.Sort.putRow (id : Value → Value) (Go.Sort.ahead w n) b 0 cs'.toArray) os) ∧
    Frame H w (H.set b (.row 0 cs' e N)) (Go.Sort.grow (Go.Sort.putRow (id : Value → Value) (Go.Sort.ahead w n) b 0 cs'.toArray) os) := by
  obtain ⟨o, ho, c, fr, rfl, h1, h2, h3, h4⟩ := h b _ hb
  have hlt : b < w.heap.size := (Array.getElem?_eq_some_iff.1 ho).1
  have hheap : ∀ x, x < w.heap.size → (Go.Sort.grow (Go.Sort.putRow (id : Value → Value) (Go.Sort.ahead w n) b 0 cs'.toArray) os).heap[x]? = (w.heap.modify b (Go.Sort.onCells (Go.Sort.putCells id 0 cs'.toArray)))[x]? := by
    intro x hx
    show ((w.heap.modify b _) ++ os)[x]? = _
    rw [Array.getElem?_append_left (by simpa using hx)]
  have hb' : (Go.Sort.grow (Go.Sort.putRow (id : Value → Value) (Go.Sort.ahead w n) b 0 cs'.toArray) os).heap[b]? = some (.cells (Go.Sort.putCells id 0 cs'.toArray c) e fr) := by
    rw [hheap b hlt, Array.getElem?_modify, if_pos rfl, ho]; rfl
  have hother : ∀ x, x ≠ b → x < w.heap.size → (Go.Sort.grow (Go.Sort.putRow (id : Value → Value) (Go.Sort.ahead w n) b 0 cs'.toArray) os).heap[x]? = w.heap[x]? := by
    intro x hx hxs
    rw [hheap x hxs, Array.getElem?_modify, if_neg (Ne.symm hx)]
  refine ⟨fun x V hV => ?_, ⟨rfl, by show w.drawn ≤ w.drawn + n; omega⟩, rfl, rfl, ?_, fun x hx hn => ?_⟩
  · simp only [Heap.set] at hV
    split at hV
    · rename_i hx; subst hx; cases hV
      refine ⟨_, hb', _, fr, rfl, by simp [Go.Sort.putCells, h1], by omega, h3, fun i v hi => ?_⟩
      have hi' := (List.getElem?_eq_some_iff.1 hi)
      obtain ⟨hi1, hi2⟩ := hi'
      have hc : 0 + i < c.size := by omega
      rw [Array.getElem?_eq_getElem (by simpa [Go.Sort.putCells] using hc)]
      simp only [Go.Sort.putCells, Array.getElem_mapIdx]
      rw [if_pos (by simp; omega)]
      congr 1
      show cs'.toArray[0 + i - 0]! = v
      rw [show 0 + i - 0 = i by omega, getElem!_pos _ i (by simpa using hi1)]
      simpa using hi2
    · rename_i hx
      obtain ⟨o', ho', hok⟩ := h x V hV
      exact ⟨o', by rw [hother x hx (h.lt hV)]; exact ho', hok⟩
  · show w.heap.size ≤ ((w.heap.modify b _) ++ os).size
    simp
  · have hne : x ≠ b := fun e' => by subst e'; rw [hb] at hn; cases hn
    exact ⟨by simp [Heap.set, hne, hn], hother x hne hx⟩

theorem row_prefix {cs ds : List Value} {e : TypeId} {N : Nat} {o : Obj} (h : (View.row 0 (cs ++ ds) e N).ok o) : (View.row 0 cs e N).ok o := by
  obtain ⟨c, fr, rfl, h1, h2, h3, h4⟩ := h
  refine ⟨c, fr, rfl, h1, by simp at h2; omega, h3, fun i v hi => h4 i v ?_⟩
  rw [List.getElem?_append_left (List.getElem?_eq_some_iff.1 hi).1]; exact hi
theorem set_turn {H H0 : Heap} {w0 w : World} {b : Nat} {V V' : View} (hV : ∀ o, V.ok o → V'.ok o) (h : Holds (H.set b V) w) (hf : Frame H0 w0 (H.set b V) w) : Holds (H.set b V') w ∧ Frame H0 w0 (H.set b V') w := by
  refine ⟨fun c U hc => ?_, hf.1, hf.2.1, hf.2.2.1, hf.2.2.2.1, fun c hc hn => ?_⟩
  · simp only [Heap.set] at hc
    split at hc
    · rename_i e; subst e; cases hc
      obtain ⟨o, ho, hok⟩ := h c V (by simp [Heap.set])
      exact ⟨o, ho, hV o hok⟩
    · rename_i e
      exact h c U (by simp only [Heap.set, if_neg e]; exact hc)
  · obtain ⟨h1, h2⟩ := hf.2.2.2.2 c hc hn
    refine ⟨?_, h2⟩
    simp only [Heap.set] at h1 ⊢
    split at h1
    · cases h1
    · rename_i e; rw [if_neg e]; exact h1
theorem frame_grow {w w' : World} {H' : Heap} (h : Frame (fun _ => none) w H' w') : ∃ q os, w' = Go.Sort.grow (w.drewN q) os := by
  obtain ⟨⟨a1, a1'⟩, a2, a3, a4, a5⟩ := h
  refine ⟨w'.drawn - w.drawn, w'.heap.extract w.heap.size w'.heap.size, ?_⟩
  have e1 : w'.heap = w.heap ++ w'.heap.extract w.heap.size w'.heap.size := by
    apply Array.ext_getElem?
    intro i
    by_cases hi : i < w.heap.size
    · rw [Array.getElem?_append_left hi, (a5 i hi rfl).2]
    · rw [Array.getElem?_append_right (by omega), Array.getElem?_extract]
      by_cases h2 : i < w'.heap.size
      · rw [if_pos (by omega)]; congr 1; omega
      · rw [if_neg (by omega), Array.getElem?_eq_none (by omega)]
  have e2 : w'.drawn = w.drawn + (w'.drawn - w.drawn) := by omega
  cases w'
  simp only at a1 a2 a3 e1 e2
  simp only [Go.Sort.grow, World.drewN]
  subst a1 a2 a3
  congr 1

/-- A comparison that looks at nothing. -/
theorem calls_of_ev {P : Program} {f : FuncId} {args : List Value} {v : Value} (h : Ev P f args (fun _ => none) (fun u _ => u = v)) (w : World) :
    Calls P f ⟨args⟩ w fun e w' => e = .returned v ∧ ∃ q os, w' = Go.Sort.grow (w.drewN q) os := by
  have := callsIn_wide.1 (h.2 w (fun b V hb => by cases hb))
  exact this.mono fun e w' ⟨u, H', h1, h2, h3, h4⟩ => ⟨by rw [h1, h4], frame_grow h3⟩

open Go.Sort in
theorem Ev.sortFunc {P : Program} {ρ : Go.Shelf.Ren} {α : Type} [Inhabited α] (Ly : SlLaysF0.n6 P ρ) (k : Nat) (aE : ∀ w, (isAgg (ρ.t 24)).run P w = .ok true w) (zE : ∀ w, (Go.sizeOf (ρ.t 24)).run P w = .ok k w) (enc : α → List Value)
    (hk : ∀ x, (enc x).length = k) (h1 : ∀ x, ∀ v ∈ enc x, v.oneCell' = true) (cf : α → α → Int) (hO : SWO (ltOf cf)) (g : Nat) (cb : List Value) (hg : ∀ x y, Ev P g ([.agg ⟨enc x⟩, .agg ⟨enc y⟩] ++ cb) (fun _ => none) (fun u _ => u = .int .i64 (cf x y))) (x0 : α)
    (hE : Enters P (ρ.f 6)) {H : Heap} {b N cap : Nat} {e : TypeId} {l : List α} (hb : H b = some (.row 0 (l.flatMap enc) e N)) (hsz : l.length < 4611686018427387904) :
    Ev P (ρ.f 6) [.slice (some ⟨b, 0, none⟩) l.length cap, .func (.func g) #[] ⟨cb⟩] H (fun v H' => v = .tuple #[] ∧ ∃ l' : List α, l'.Perm l ∧ l'.Pairwise (fun x y => ltOf cf y x = false) ∧ H' = H.set b (.row 0 (l'.flatMap enc) e N)) := by
  refine ⟨hE, fun w hw => callsIn_wide.2 ?_⟩
  have hH : HoldsK enc k w b 0 l.toArray := by
    have := row_holds hw hb
    unfold HoldsK
    have e1 : Go.Sort.flatK enc k l.toArray = (l.flatMap enc).toArray := by rw [← flatK_list hk l]
    rw [e1]; exact this
  have hcmp : CmpLays P g ⟨cb⟩ enc k cf b 0 l.toArray.size w := by
    intro m os dk hs x y
    have ha : (#[.agg (enc x).toArray, .agg (enc y).toArray] ++ (⟨cb⟩ : Array Value)) = (⟨[.agg ⟨enc x⟩, .agg ⟨enc y⟩] ++ cb⟩ : Array Value) := by apply Array.toList_inj.1; simp
    rw [ha]
    exact calls_of_ev (hg x y) _
  have := AnyQ.slices_SortFunc Ly k aE zE enc hk h1 cf hO g ⟨cb⟩ b 0 cap l.toArray w (hg x0 x0).1 hcmp hH (hw.lt hb) (by simpa using hsz)
  simp only [List.size_toArray] at this
  refine this.mono fun e' w' ⟨he, d', n, os, hp, hs, hw'⟩ => ?_
  obtain ⟨p1, p2, p3⟩ := hp
  have hd : d' = d'.toList.toArray := by simp
  have hlen : d'.toList.length = l.length := by simpa using p1
  have e1 : Go.Sort.flatK enc k d' = (d'.toList.flatMap enc).toArray := by rw [← flatK_list hk d'.toList]
  have hl2 : (d'.toList.flatMap enc).length = (l.flatMap enc).length := by
    have q1 := congrArg List.length (flatK_list hk d'.toList)
    have q2 := congrArg List.length (flatK_list hk l)
    simp only [Array.length_toList, size_flatK, List.size_toArray] at q1 q2
    rw [← q1, ← q2]; simp at hlen; simp [hlen]
  obtain ⟨r1, r2⟩ := row_put (cs' := d'.toList.flatMap enc) hw hb hl2 n os
  refine ⟨_, _, he, ?_, ?_, rfl, d'.toList, ?_, ?_, rfl⟩
  · rw [hw', sortWorldK, putRowK, e1]; exact r1
  · rw [hw', sortWorldK, putRowK, e1]; exact r2
  · have q3 : (d'.extract 0 l.length).toList = d'.toList := by
      have : d'.size = l.length := by simpa using p1
      rw [← this]; simp
    have q4 : (l.toArray.extract 0 l.length).toList = l := by simp
    rw [q3, q4] at p3; exact p3
  · rw [List.pairwise_iff_getElem]
    intro i j hi hj hij
    have := hs i j (Nat.zero_le _) hij (by simpa [hlen] using hj)
    rw [getElem!_pos _ i (by simpa using hi), getElem!_pos _ j (by simpa using hj)] at this
    simpa using this

open Go.Sort in
theorem Ev.sortFuncNone {P : Program} {ρ : Go.Shelf.Ren} (Ly : SlLaysF0.n6 P ρ) (hE : Enters P (ρ.f 6)) {H : Heap} {p : Option Addr} {cap : Nat} {fv : Value} : Ev P (ρ.f 6) [.slice p 0 cap, fv] H (fun v H' => v = .tuple #[] ∧ H' = H) :=
  ⟨hE, fun w hw => callsIn_wide.2 ((AnyF.slices_SortFunc_none { Ly with } p cap fv w).mono fun e w' ⟨h1, h2⟩ => by subst h2; exact ⟨_, H, h1, hw, Frame.refl _ _, rfl, rfl⟩)⟩

open Go.Sort in
theorem Ev.sortInt {P : Program} {ρ : Go.Shelf.Ren} (Ly : SlLaysM.n5 P ρ) (hE : Enters P (ρ.f 5)) {H : Heap} {b N cap : Nat} {e : TypeId} {l : List Int} (hb : H b = some (.row 0 (l.map (Value.int .i64)) e N)) (hsz : l.length < 4611686018427387904) :
    Ev P (ρ.f 5) [.slice (some ⟨b, 0, none⟩) l.length cap] H (fun v H' => v = .tuple #[] ∧ H' = H.set b (.row 0 ((l.mergeSort fun x y => decide (x ≤ y)).map (Value.int .i64)) e N)) := by
  refine ⟨hE, fun w hw => callsIn_wide.2 ?_⟩
  have conv : ∀ (l : List Int) (w : World), Go.Sort.putRow (Value.int .i64) w b 0 l.toArray = Go.Sort.putRow id w b 0 (l.map (Value.int .i64)).toArray := by
    intro l w
    unfold Go.Sort.putRow
    congr 1
    funext c
    unfold putCells
    simp only [List.size_toArray, List.length_map]
    apply Array.ext
    · simp
    · intro i h1 h2
      simp only [Array.getElem_mapIdx]
      split
      · rename_i h3
        rw [getElem!_pos _ (i - 0) (by simp; omega), getElem!_pos _ (i - 0) (by simp; omega)]
        simp
      · rfl
  have hH : Go.Sort.Holds (Value.int .i64) w b 0 l.toArray := by
    intro j hj
    have := row_holds hw hb j (by simpa using hj)
    have hj' : j < l.length := by simpa using hj
    rw [getElem!_pos _ j (by simpa using hj')] at this ⊢
    simpa using this
  refine (AnyM.slices_Sort_int Ly b 0 cap l w hH (hw.lt hb) hsz).mono fun e' w' ⟨he, n, os, hw'⟩ => ?_
  obtain ⟨r1, r2⟩ := row_put (cs' := (l.mergeSort fun x y => decide (x ≤ y)).map (Value.int .i64)) hw hb (by simp) n os
  exact ⟨_, _, he, by rw [hw', conv]; exact r1, by rw [hw', conv]; exact r2, rfl, rfl⟩
open Go.Sort in
theorem Ev.sortIntNone {P : Program} {ρ : Go.Shelf.Ren} (Ly : SlLaysM.n5 P ρ) (hE : Enters P (ρ.f 5)) {H : Heap} {p : Option Addr} {cap : Nat} : Ev P (ρ.f 5) [.slice p 0 cap] H (fun v H' => v = .tuple #[] ∧ H' = H) :=
  ⟨hE, fun w hw => callsIn_wide.2 ((AnyM.slices_Sort_int_none Ly p cap w).mono fun e w' ⟨h1, h2⟩ => by subst h2; exact ⟨_, H, h1, hw, Frame.refl _ _, rfl, rfl⟩)⟩
open Go.Sort in
theorem Ev.compactInt {P : Program} {ρ : Go.Shelf.Ren} (Ly : SlLaysN.n43 P ρ) (hE : Enters P (ρ.f 43)) {H : Heap} {b N cap : Nat} {e : TypeId} {l : List Int} (hb : H b = some (.row 0 (l.map (Value.int .i64)) e N)) (hcap : l.length ≤ cap) (hsz : l.length ≤ 9223372036854775807) :
    Ev P (ρ.f 43) [.slice (some ⟨b, 0, none⟩) l.length cap] H (fun v H' => v = .slice (some ⟨b, 0, none⟩) (Lib.compact l).length cap ∧ H' = H.set b (.row 0 ((Lib.compact l).map (Value.int .i64)) e N)) := by
  refine ⟨hE, fun w hw => callsIn_wide.2 ?_⟩
  have conv : ∀ (l : List Int) (w : World), Go.Sort.putRow (Value.int .i64) w b 0 l.toArray = Go.Sort.putRow id w b 0 (l.map (Value.int .i64)).toArray := by
    intro l w
    unfold Go.Sort.putRow
    congr 1
    funext c
    unfold putCells
    simp only [List.size_toArray, List.length_map]
    apply Array.ext
    · simp
    · intro i h1 h2
      simp only [Array.getElem_mapIdx]
      split
      · rename_i h3
        rw [getElem!_pos _ (i - 0) (by simp; omega), getElem!_pos _ (i - 0) (by simp; omega)]
        simp
      · rfl
  have hH : Go.Sort.Holds (Value.int .i64) w b 0 l.toArray := by
    intro j hj
    have := row_holds hw hb j (by simpa using hj)
    have hj' : j < l.length := by simpa using hj
    rw [getElem!_pos _ j (by simpa using hj')] at this ⊢
    simpa using this
  have hle : (Lib.compact l).length ≤ l.length := Lib.compact_length_le l
  refine (AnyG.slices_Compact_int Ly b 0 cap l w hH hsz hcap).mono fun e' w' ⟨he, n, hw'⟩ => ?_
  obtain ⟨r1, r2⟩ := row_put (cs' := (Lib.compact l ++ List.replicate (l.length - (Lib.compact l).length) 0).map (Value.int .i64)) hw hb (by simp; omega) n #[]
  rw [Go.Sort.grow_empty] at r1 r2
  rw [List.map_append] at r1 r2
  obtain ⟨r3, r4⟩ := set_turn (V' := .row 0 ((Lib.compact l).map (Value.int .i64)) e N) (fun o h => row_prefix h) r1 r2
  exact ⟨_, _, he, by rw [hw', conv, List.map_append]; exact r3, by rw [hw', conv, List.map_append]; exact r4, rfl, rfl⟩
theorem Ev.compactIntNone {P : Program} {ρ : Go.Shelf.Ren} (Ly : SlLaysN.n43 P ρ) (hE : Enters P (ρ.f 43)) {H : Heap} {p : Option Addr} {cap : Nat} : Ev P (ρ.f 43) [.slice p 0 cap] H (fun v H' => v = .slice p 0 cap ∧ H' = H) :=
  ⟨hE, fun w hw => callsIn_wide.2 ((AnyG.slices_Compact_int_empty Ly p cap w).mono fun e w' ⟨h1, h2⟩ => by subst h2; exact ⟨_, H, h1, hw, Frame.refl _ _, rfl, rfl⟩)⟩
end Go.Proofs.YtfoakjdnopljmaaGreatDoor
