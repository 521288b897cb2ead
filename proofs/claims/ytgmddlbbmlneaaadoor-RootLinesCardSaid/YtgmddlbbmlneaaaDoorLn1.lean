/- Part 1 of 5 of the texts on which the proof leans: plain words, and contracts of the functions that it reaches. -/
import Derived.Test.YtgmddlbbmlneaaaDoorProg
import Derived.Lib.SmallJoins
import Derived.Lib.LaidTab
import Derived.Lib.ItoaMem
import Derived.Shelf.Strconv.Itoa3
import Derived.Below
import Derived.Lib.AppendIntMem
import Derived.Test.YtgmddlbbmlneaaaDoorRows
import Derived.Test.YtgmddlbbmlneaaaDoorTie
import Derived.Test.YtgmddlbbmlneaaaDoorCards
import Derived.WalkKit
import Derived.ProofKit
import Derived.OpenShut
import Derived.ShutString
import Derived.ChangeOld
import Derived.SizedLaws
import Derived.Handed
import Derived.Lay
import Derived.MakeChecks
import Derived.Stop.LaidErr
import Derived.SevenTiedAt
import Derived.Shelf.Vars
import Derived.Deep.Draws
import Derived.Deep.AppendLies
import Derived.Maps.AppendAt
import Derived.OwnWalk
import Derived.Laws.BytesArg
import Derived.Laws.MakeOwn
import Derived.Laws.OwnMore
import Derived.Deep.OwnRows
import Derived.Tactics
import Derived.Lib.ConvBytes
import Derived.Laws.Slices
import Derived.KernelRfl
import Derived.RowKit3
import Derived.Deep.LoopGhost
import Derived.Deep.QuietTactic
import Derived.BigQuiet
import Derived.WideLaws
import Derived.Deep.DeepCutAuto
import Derived.Deep.CutBlock
import Derived.Deep.RegionHeld3
import Derived.Laws.Rows
import Derived.Lib.AppendStr
import Derived.ArgAppend
import Derived.Laws.IdiomCopy
import Derived.OrdersHeld
import Derived.Laws.BitsLemmas
import Derived.RowKit
import Derived.Test.YtgmddlbbmlneaaaDoorWWords
import Derived.Test.YtgmddlbbmlneaaaDoorWLast
import Derived.Test.YtgmddlbbmlneaaaDoorWQPut
import Derived.Test.YtgmddlbbmlneaaaDoorWApart
import Derived.Test.YtgmddlbbmlneaaaDoorWArr
import Derived.Test.YtgmddlbbmlneaaaDoorWZeros
import Derived.Test.YtgmddlbbmlneaaaDoorWFoot
import Derived.Test.YtgmddlbbmlneaaaDoorWKept
import Derived.Test.YtgmddlbbmlneaaaDoorWShare
import Derived.Test.YtgmddlbbmlneaaaDoorWN
import Derived.Test.YtgmddlbbmlneaaaDoorWEqStruct
import Derived.Test.YtgmddlbbmlneaaaDoorWRepsOne
import Derived.Test.YtgmddlbbmlneaaaDoorWGuard
import Derived.Test.YtgmddlbbmlneaaaDoorWNEv
import Derived.Test.YtgmddlbbmlneaaaDoorWMore
import Derived.Lib.Strings
import Derived.Lib.Split
import Derived.Lib.SplitLaws
import Derived.Lib.IndexBytes
import Derived.Lib.SlBy
import Derived.Shelf.Abstract
import Derived.Shelf.Strings.Builder1
import Derived.Shelf.Strings.Builder2
import Derived.Shelf.Strings.OnBuilder
import Derived.Shelf.Strings.BuilderF
import Derived.Shelf.Strings.BuilderK
import Derived.Shelf.Strconv.Itoa0
import Derived.Shelf.Strconv.Itoa1
import Derived.Shelf.LaysM
import Derived.Shelf.Strconv.Itoa2
import Derived.Shelf.Strings.Search1
import Derived.Shelf.Strings.Search2
import Derived.Shelf.Strings.Search3
import Derived.Shelf.Strings.Cut
import Derived.Shelf.Strings.Count
import Derived.Shelf.Strings.Shaped
import Derived.Shelf.Strings.Prefix
import Derived.Shelf.Strings.Split
import Derived.Shelf.Strings.SplitShaped
import Derived.Shelf.Unicode.DecodeSlow
import Derived.Ground.Names2Prog
import Derived.Shelf.Slices.Clone
import Derived.WalkSpells
import Derived.Lib.QuietBelow
import Derived.WalkLawsBesides
import Derived.IntWalk
import Derived.Deep.DeepMust
import Derived.Maps.Own
import Derived.Maps.Views
set_option linter.all false
/- What all calls lean on of the library's own variables: bytealg.MaxLen holds some number, strconv's powers of ten lie as they are laid. -/
namespace Go.Proofs.YtgmddlbbmlneaaaDoor.PR
open Go.RowKit
def Gl (w : World) : Prop := (∃ m, w.cell? ⟨0, 0, none⟩ = some (.int .i64 m)) ∧ Lib.TabIs Tryd.prog w "internal/strconv.uint64pow10" .u64 Lib.pow10Tab
theorem Gl_below {w W : World} (h : Gl w) (hb : Below w.heap.size w W) : Gl W := by
  obtain ⟨⟨m, hm⟩, ht⟩ := h
  exact ⟨⟨m, (hb.cell (World.block_lt_of_cell? w _ hm)).trans hm⟩, Lib.tabBelow_of_tabIs ht W hb⟩
theorem Gl.tab {w : World} (h : Gl w) : Lib.TabIs Tryd.prog w "internal/strconv.uint64pow10" .u64 Lib.pow10Tab := h.2
theorem Gl.drewN {w : World} (h : Gl w) (n : Nat) : Gl (w.drewN n) := Gl_below h ⟨rfl, rfl, rfl, Nat.le_refl _, fun _ _ => rfl⟩
end Go.Proofs.YtgmddlbbmlneaaaDoor.PR

/- From a row's condition (what the listed variables hold, the world's shape) to what the walks lean on; the wrap that hands both on; the witness' world. -/
namespace Go.Proofs.YtgmddlbbmlneaaaDoor
open Go.ChangeShapes Go.WideShapes Go.ChangeAt Go.RowKit
set_option linter.unusedVariables false
abbrev laidAll : List (String × DataW Unit) := [("math/bits.deBruijn32tab", Rows.laid_math_bits_deBruijn32tab), ("math/bits.deBruijn64tab", Rows.laid_math_bits_deBruijn64tab), ("internal/strconv.uint64pow10", Rows.laid_internal_strconv_uint64pow10), ("unicode/utf8.acceptRanges", Rows.laid_unicode_utf8_acceptRanges), ("unicode/utf8.first", Rows.laid_unicode_utf8_first)]

theorem own : ownKnob Tryd.prog.godebug = none := by kernel_rfl
theorem laidOut : laidOutB Tryd.prog = true := by kernel_rfl

theorem pow10_data : (Rows.laid_internal_strconv_uint64pow10 : DataW Unit) = Lib.tabData .u64 Lib.pow10Tab := by kernel_rfl
theorem maxLen_shape {W : World} (h : W.ShapedOpen Tryd.prog) : ∃ m, W.cell? ⟨0, 0, none⟩ = some (.int .i64 m) :=
  Go.Proofs.cell_of_shapedOpen_int (zero := #[.int .i64 0]) (t := 3) h (of_decide_eq_true (by kernel_rfl)) (by kernel_rfl) rfl (by kernel_rfl) (by kernel_rfl) Tryd.underlying3
theorem gl_of {W : World} (hL : laidMetH Tryd.prog laidAll W) (h : W.ShapedOpen Tryd.prog) : PR.Gl W := by
  rw [MakeChecks.laidMetH_plain _ _ _ (by kernel_rfl)] at hL
  refine ⟨maxLen_shape h, ?_⟩
  have h2 := hL.tail.tail
  rw [pow10_data] at h2
  exact Lib.tabIs_of_head (g := 1) (t := 129) (n := 20) (by kernel_rfl) (by kernel_rfl) (by kernel_rfl) Tryd.underlying121 (by kernel_rfl) (by kernel_rfl) h2

section
variable {H : Type} {enc : TypeId × Value → H}
theorem returns_of_laid_shaped {C : Checked} {os : Os} {f : FuncId} {fn : Func} {s : ChangeSpec} {conds : List PathCond} {apart fresh handsOn again : Bool} {X : World → Array Value → Prop}
    (hX : ∀ (w w' : World) (args : Array Value), w.heap = w'.heap → X w args → X w' args)
    (own : ownKnob C.prog.godebug = none) (started : os.Started) (noInit : C.prog.inits.idxOf? f = none) (hfn : C.prog.funcs[f]? = some fn)
    (witness : ∃ (w : World) (tape : Tape) (i : Input), w.os = os ∧ (w.forCall tape i).Shaped C.prog ∧ i.vars = [] ∧ Input.okWide C.prog (w.forCall tape i) .any w.heap.size f i ∧
      ((s.pre enc C.prog fn conds apart (w.forCall tape i).memory i.args ∧ X (w.forCall tape i).memory i.args) ∧ sizedMet enc C.prog fn (OpenSpec.ofChange s) apart (w.forCall tape i).memory i.args) ∧ Assume.holds {} C.prog (lone (Frame.enter C.prog f i.args .normal) [] (w.forCall tape i)))
    (contract : ∀ (W : World) (base : Nat) (args : Array Value) (ds gs : List (DataW H)) (before : List MemPlace),
      (∀ (j : Nat) t v, fn.params[j]? = some t → args[j]? = some v → Value.okWide C.prog W .any base t v) →
      DataW.Whole enc C.prog fn.params.toList s.vars apart W args.toList ds gs before →
      (DataW.weightsEach C.prog (fn.params.toList ++ s.plain.varTypes C.prog) (ds ++ gs)).all (· ≤ reachBytes) = true → X W args → W.ShapedOpen C.prog →
      Calls C.prog f args W fun e W' => ∃ v, e = .returned v ∧ s.post enc C.prog fn apart fresh handsOn again W args v W') :
    ReturnsInHanded {} C os f .any (fun w args => (s.pre enc C.prog fn conds apart w args ∧ X w args) ∧ sizedMet enc C.prog fn (OpenSpec.ofChange s) apart w args) (s.post enc C.prog fn apart fresh handsOn again) := by
  refine returnsInHanded_of_calls own started noInit witness ?_
  intro w tape i _ hshape _ hok hpre hholds
  obtain ⟨_, _, _, g, hg, _, _, _, _, hval⟩ := hok
  obtain rfl : g = fn := Option.some.inj (hg.symm.trans hfn)
  obtain ⟨⟨⟨ds, gs, before, hwh, _⟩, hx⟩, hz⟩ := hpre
  have hwh' := DataW.Whole.of_heap (w' := w.forCall tape i) (by rfl) hwh
  refine (contract (w.forCall tape i) w.heap.size i.args ds gs before hval hwh' (hz.weights hwh) (hX _ _ _ (by rfl) hx) hshape).mono fun e W' ⟨v, he, hp⟩ => ?_
  subst he
  exact ChangeSpec.post_blind hp
end
theorem world_shaped (os : Os) (args : Array Value) : ((World.laidAll Tryd.prog os laidAll).forCall (fun _ _ => 0) ⟨#[], args, []⟩).Shaped Tryd.prog := World.shaped_of_ZipB (by kernel_rfl) (by kernel_rfl)
theorem world_laid (os : Os) (args : Array Value) : laidMetH Tryd.prog laidAll ((World.laidAll Tryd.prog os laidAll).forCall (fun _ _ => 0) ⟨#[], args, []⟩).memory := by
  rw [MakeChecks.laidMetH_plain _ _ _ (by kernel_rfl)]
  exact laidMet_laidAll _ (by kernel_rfl) (by kernel_rfl)
end Go.Proofs.YtgmddlbbmlneaaaDoor

namespace Go.Proofs.YtgmddlbbmlneaaaDoor.PR
open Go.RowKit Go.Proofs.YtgmddlbbmlneaaaDoorW.PrintWords Go.Proofs.YtgmddlbbmlneaaaDoorW.PrintLast Go.Proofs.YtgmddlbbmlneaaaDoorW.PrintMore
attribute [local go_sem] max2_int min2_int max_two min_two max_three min_three max_four min_four   -- for this text's walks alone
set_option linter.unusedVariables false
set_option linter.unusedSimpArgs false



def errW : Option Int → Value
  | none => .nilIface
  | some c => .iface 0 (.int .i64 c)
theorem errW_none : errW none = .nilIface := rfl
theorem errW_some (c : Int) : errW (some c) = .iface 0 (.int .i64 c) := rfl

theorem info5 : (Tryd.prog.info? 5).map (fun i => (i.zero, i.size, i.bytes)) = some (some (.int .u8 0), 1, 1) := by kernel_rfl
theorem info40 : (Tryd.prog.info? 40).map (fun i => (i.zero, i.size, i.bytes)) = some (some (.agg #[(.string ⟨#[]⟩), (.bool false), (.string ⟨#[]⟩), (.slice none 0 0), (.slice none 0 0)]), 5, 88) := by kernel_rfl
theorem info76 : (Tryd.prog.info? 76).map (fun i => (i.zero, i.size, i.bytes)) = some (some (.agg #[(.string ⟨#[]⟩), (.string ⟨#[]⟩)]), 2, 32) := by kernel_rfl
-- the values' own types
def rd_L1 (xs : List (List ByteArray)) (i : Int) : (List ByteArray) := xs.getD i.toNat ([] : List ByteArray)
theorem at_L1 {w : World} {A : Option Addr} {n : Nat} {xs : List (List ByteArray)} (h : Kd.C (Kd.slice 9 Kd.string) w A n xs) (i : Int) (h0 : 0 ≤ i) (h1 : i < n) : ∃ ad A0 c0, A = some ad ∧ w.cell? (ad.add i.toNat) = some (.slice A0 (rd_L1 xs i).length c0) ∧ (rd_L1 xs i).length ≤ c0 ∧ Kd.string.C w A0 (rd_L1 xs i).length (rd_L1 xs i) := by
  obtain ⟨ad, c, e, _, hK, hc0⟩ := Kd.C_get h ([] : List ByteArray) i h0 h1
  have hc : ∀ j u, c[j]? = some u → w.cell? (ad.add (i.toNat * 1 + j)) = some u := hc0
  obtain ⟨A0, c0, rfl, l0, g0⟩ := hK
  exact ⟨ad, A0, c0, e, by have hq := hc 0 _ rfl; rwa [Nat.mul_one, Nat.add_zero] at hq, l0, g0⟩

/-! #### struct type 76 -/
structure S76 where
  f0 : ByteArray
  f1 : ByteArray
def z76 : S76 := ⟨(⟨#[]⟩ : ByteArray), (⟨#[]⟩ : ByteArray)⟩
def k76 : Kd S76 := Kd.iso (Kd.pair Kd.string Kd.string) (fun x : S76 => (x.f0, x.f1))
theorem k76_open {w : World} {x : S76} {cs : List Value} (h : k76.K w x cs) : cs = [.string x.f0, .string x.f1] := by
  obtain ⟨_, _, rfl, rfl, rfl⟩ := h
  exact rfl
theorem k76_openM {w : World} {base : Nat} {ok : Nat → Prop} {x : S76} {cs : List Value} (h : k76.M w base ok x cs) : cs = [.string x.f0, .string x.f1] := by
  obtain ⟨_, _, rfl, rfl, rfl⟩ := h
  exact rfl
theorem k76_mk (w : World) (x : S76)  : k76.K w x [.string x.f0, .string x.f1] := ⟨[.string x.f0], [.string x.f1], rfl, rfl, rfl⟩
theorem k76_mkM (w : World) (base : Nat) (ok : Nat → Prop) (x : S76)  : k76.M w base ok x [.string x.f0, .string x.f1] := ⟨[.string x.f0], [.string x.f1], rfl, rfl, rfl⟩
theorem k76_mkF (W : World) (ok : Nat → Prop) (x : S76) : Kd.FK k76 W ok x [.string x.f0, .string x.f1] := fun W2 _ => k76_mk W2 x
def rd_T76 (xs : List S76) (i : Int) : S76 := xs.getD i.toNat z76
theorem at_T76 {w : World} {A : Option Addr} {n : Nat} {xs : List S76} (h : Kd.C k76 w A n xs) (i : Int) (h0 : 0 ≤ i) (h1 : i < n) : ∃ ad , A = some ad ∧ w.cell? (ad.add (i.toNat * 2)) = some (.string (rd_T76 xs i).f0) ∧ w.cell? ⟨(ad.add (i.toNat * 2)).block, (ad.add (i.toNat * 2)).off + 1, none⟩ = some (.string (rd_T76 xs i).f1) := by
  obtain ⟨ad, c, e, _, hK, hc0⟩ := Kd.C_get h z76 i h0 h1
  have hc : ∀ j u, c[j]? = some u → w.cell? (ad.add (i.toNat * 2 + j)) = some u := hc0
  obtain rfl := k76_open hK
  exact ⟨ad, e, hc 0 _ rfl, by rw [← add_field _ _ 1 (by omega)]; exact hc 1 _ rfl⟩

def rd_L3 (xs : List (List S76)) (i : Int) : (List S76) := xs.getD i.toNat ([] : List S76)
theorem at_L3 {w : World} {A : Option Addr} {n : Nat} {xs : List (List S76)} (h : Kd.C (Kd.slice 76 k76) w A n xs) (i : Int) (h0 : 0 ≤ i) (h1 : i < n) : ∃ ad A0 c0, A = some ad ∧ w.cell? (ad.add i.toNat) = some (.slice A0 (rd_L3 xs i).length c0) ∧ (rd_L3 xs i).length ≤ c0 ∧ k76.C w A0 (rd_L3 xs i).length (rd_L3 xs i) := by
  obtain ⟨ad, c, e, _, hK, hc0⟩ := Kd.C_get h ([] : List S76) i h0 h1
  have hc : ∀ j u, c[j]? = some u → w.cell? (ad.add (i.toNat * 1 + j)) = some u := hc0
  obtain ⟨A0, c0, rfl, l0, g0⟩ := hK
  exact ⟨ad, A0, c0, e, by have hq := hc 0 _ rfl; rwa [Nat.mul_one, Nat.add_zero] at hq, l0, g0⟩

/-! #### struct type 40 -/
structure S40 where
  f0 : ByteArray
  f1 : Bool
  f2 : ByteArray
  f3 : (List S76)
  f4 : (List ByteArray)
def z40 : S40 := ⟨(⟨#[]⟩ : ByteArray), false, (⟨#[]⟩ : ByteArray), ([] : List S76), ([] : List ByteArray)⟩
def k40 : Kd S40 := Kd.iso (Kd.pair Kd.string (Kd.pair Kd.bool (Kd.pair Kd.string (Kd.pair (Kd.slice 76 k76) (Kd.slice 9 Kd.string))))) (fun x : S40 => (x.f0, x.f1, x.f2, x.f3, x.f4))
theorem k40_open {w : World} {x : S40} {cs : List Value} (h : k40.K w x cs) : ∃ A3 c3 A4 c4, cs = [.string x.f0, .bool x.f1, .string x.f2, .slice A3 x.f3.length c3, .slice A4 x.f4.length c4] ∧ x.f3.length ≤ c3 ∧ k76.C w A3 x.f3.length x.f3 ∧ x.f4.length ≤ c4 ∧ Kd.string.C w A4 x.f4.length x.f4 := by
  obtain ⟨_, _, rfl, rfl, ⟨_, _, rfl, rfl, ⟨_, _, rfl, rfl, ⟨_, _, rfl, ⟨A3, c3, rfl, l3, g3⟩, ⟨A4, c4, rfl, l4, g4⟩⟩⟩⟩⟩ := h
  exact ⟨A3, c3, A4, c4, rfl, l3, g3, l4, g4⟩
theorem k40_openM {w : World} {base : Nat} {ok : Nat → Prop} {x : S40} {cs : List Value} (h : k40.M w base ok x cs) : ∃ v3 v4, cs = [.string x.f0, .bool x.f1, .string x.f2, v3, v4] ∧ k76.R 76 w base ok v3 x.f3 ∧ Kd.string.R 9 w base ok v4 x.f4 := by
  obtain ⟨_, _, rfl, rfl, ⟨_, _, rfl, rfl, ⟨_, _, rfl, rfl, ⟨_, _, rfl, ⟨v3, rfl, g3⟩, ⟨v4, rfl, g4⟩⟩⟩⟩⟩ := h
  exact ⟨v3, v4, rfl, g3, g4⟩
theorem k40_mk (w : World) (x : S40) {A3 : Option Addr} {c3 : Nat} (l3 : x.f3.length ≤ c3) (g3 : k76.C w A3 x.f3.length x.f3) {A4 : Option Addr} {c4 : Nat} (l4 : x.f4.length ≤ c4) (g4 : Kd.string.C w A4 x.f4.length x.f4) : k40.K w x [.string x.f0, .bool x.f1, .string x.f2, .slice A3 x.f3.length c3, .slice A4 x.f4.length c4] := ⟨[.string x.f0], [.bool x.f1, .string x.f2, .slice A3 x.f3.length c3, .slice A4 x.f4.length c4], rfl, rfl, ⟨[.bool x.f1], [.string x.f2, .slice A3 x.f3.length c3, .slice A4 x.f4.length c4], rfl, rfl, ⟨[.string x.f2], [.slice A3 x.f3.length c3, .slice A4 x.f4.length c4], rfl, rfl, ⟨[.slice A3 x.f3.length c3], [.slice A4 x.f4.length c4], rfl, ⟨A3, c3, rfl, l3, g3⟩, ⟨A4, c4, rfl, l4, g4⟩⟩⟩⟩⟩
theorem k40_mkM (w : World) (base : Nat) (ok : Nat → Prop) (x : S40) {v3 : Value} (g3 : k76.R 76 w base ok v3 x.f3) {v4 : Value} (g4 : Kd.string.R 9 w base ok v4 x.f4) : k40.M w base ok x [.string x.f0, .bool x.f1, .string x.f2, v3, v4] := ⟨[.string x.f0], [.bool x.f1, .string x.f2, v3, v4], rfl, rfl, ⟨[.bool x.f1], [.string x.f2, v3, v4], rfl, rfl, ⟨[.string x.f2], [v3, v4], rfl, rfl, ⟨[v3], [v4], rfl, ⟨v3, rfl, g3⟩, ⟨v4, rfl, g4⟩⟩⟩⟩⟩
theorem k40_openF {W : World} {ok : Nat → Prop} {x : S40} {cs : List Value} (h : Kd.FK k40 W ok x cs) : ∃ A3 c3 A4 c4, cs = [.string x.f0, .bool x.f1, .string x.f2, .slice A3 x.f3.length c3, .slice A4 x.f4.length c4] ∧ x.f3.length ≤ c3 ∧ Kd.F k76 W ok A3 x.f3.length x.f3 ∧ x.f4.length ≤ c4 ∧ Kd.F Kd.string W ok A4 x.f4.length x.f4 := by
  obtain ⟨A3, c3, A4, c4, rfl, l3, _, l4, _⟩ := k40_open (Kd.FK_now h)
  exact ⟨A3, c3, A4, c4, rfl, l3, (fun W' hW => by obtain ⟨A3_, c3_, A4_, c4_, he, l3_, g3_, l4_, g4_⟩ := k40_open (h W' hW); injection (Option.some.inj (show some (Value.slice A3 x.f3.length c3) = some (Value.slice A3_ x.f3.length c3_) from congrArg (fun l => l[3]?) he)) with ha_ _ _; rw [ha_]; exact g3_), l4, (fun W' hW => by obtain ⟨A3_, c3_, A4_, c4_, he, l3_, g3_, l4_, g4_⟩ := k40_open (h W' hW); injection (Option.some.inj (show some (Value.slice A4 x.f4.length c4) = some (Value.slice A4_ x.f4.length c4_) from congrArg (fun l => l[4]?) he)) with ha_ _ _; rw [ha_]; exact g4_)⟩
theorem k40_mkF (W : World) (ok : Nat → Prop) (x : S40) {A3 : Option Addr} {c3 : Nat} (l3 : x.f3.length ≤ c3) (g3 : Kd.F k76 W ok A3 x.f3.length x.f3) {A4 : Option Addr} {c4 : Nat} (l4 : x.f4.length ≤ c4) (g4 : Kd.F Kd.string W ok A4 x.f4.length x.f4) : Kd.FK k40 W ok x [.string x.f0, .bool x.f1, .string x.f2, .slice A3 x.f3.length c3, .slice A4 x.f4.length c4] := fun W2 hW => k40_mk W2 x l3 (g3 W2 hW) l4 (g4 W2 hW)
def rd_T40 (xs : List S40) (i : Int) : S40 := xs.getD i.toNat z40
theorem at_T40 {w : World} {A : Option Addr} {n : Nat} {xs : List S40} (h : Kd.C k40 w A n xs) (i : Int) (h0 : 0 ≤ i) (h1 : i < n) : ∃ ad A3 c3 A4 c4, A = some ad ∧ w.cell? (ad.add (i.toNat * 5)) = some (.string (rd_T40 xs i).f0) ∧ w.cell? ⟨(ad.add (i.toNat * 5)).block, (ad.add (i.toNat * 5)).off + 1, none⟩ = some (.bool (rd_T40 xs i).f1) ∧ w.cell? ⟨(ad.add (i.toNat * 5)).block, (ad.add (i.toNat * 5)).off + 2, none⟩ = some (.string (rd_T40 xs i).f2) ∧ w.cell? ⟨(ad.add (i.toNat * 5)).block, (ad.add (i.toNat * 5)).off + 3, none⟩ = some (.slice A3 (rd_T40 xs i).f3.length c3) ∧ w.cell? ⟨(ad.add (i.toNat * 5)).block, (ad.add (i.toNat * 5)).off + 4, none⟩ = some (.slice A4 (rd_T40 xs i).f4.length c4) ∧ (rd_T40 xs i).f3.length ≤ c3 ∧ k76.C w A3 (rd_T40 xs i).f3.length (rd_T40 xs i).f3 ∧ (rd_T40 xs i).f4.length ≤ c4 ∧ Kd.string.C w A4 (rd_T40 xs i).f4.length (rd_T40 xs i).f4 := by
  obtain ⟨ad, c, e, _, hK, hc0⟩ := Kd.C_get h z40 i h0 h1
  have hc : ∀ j u, c[j]? = some u → w.cell? (ad.add (i.toNat * 5 + j)) = some u := hc0
  obtain ⟨A3, c3, A4, c4, rfl, l3, g3, l4, g4⟩ := k40_open hK
  exact ⟨ad, A3, c3, A4, c4, e, hc 0 _ rfl, by rw [← add_field _ _ 1 (by omega)]; exact hc 1 _ rfl, by rw [← add_field _ _ 2 (by omega)]; exact hc 2 _ rfl, by rw [← add_field _ _ 3 (by omega)]; exact hc 3 _ rfl, by rw [← add_field _ _ 4 (by omega)]; exact hc 4 _ rfl, l3, g3, l4, g4⟩

def rd_L7 (xs : List (List S40)) (i : Int) : (List S40) := xs.getD i.toNat ([] : List S40)
theorem at_L7 {w : World} {A : Option Addr} {n : Nat} {xs : List (List S40)} (h : Kd.C (Kd.slice 40 k40) w A n xs) (i : Int) (h0 : 0 ≤ i) (h1 : i < n) : ∃ ad A0 c0, A = some ad ∧ w.cell? (ad.add i.toNat) = some (.slice A0 (rd_L7 xs i).length c0) ∧ (rd_L7 xs i).length ≤ c0 ∧ k40.C w A0 (rd_L7 xs i).length (rd_L7 xs i) := by
  obtain ⟨ad, c, e, _, hK, hc0⟩ := Kd.C_get h ([] : List S40) i h0 h1
  have hc : ∀ j u, c[j]? = some u → w.cell? (ad.add (i.toNat * 1 + j)) = some u := hc0
  obtain ⟨A0, c0, rfl, l0, g0⟩ := hK
  exact ⟨ad, A0, c0, e, by have hq := hc 0 _ rfl; rwa [Nat.mul_one, Nat.add_zero] at hq, l0, g0⟩

/-! #### struct type 25 -/
structure S25 where
  f0 : Int
  f1 : (List ByteArray)
  f2 : (List S40)
def z25 : S25 := ⟨(0 : Int), ([] : List ByteArray), ([] : List S40)⟩
def k25 : Kd S25 := Kd.iso (Kd.pair (Kd.int .i64) (Kd.pair (Kd.slice 9 Kd.string) (Kd.slice 40 k40))) (fun x : S25 => (x.f0, x.f1, x.f2))
theorem k25_open {w : World} {x : S25} {cs : List Value} (h : k25.K w x cs) : ∃ A1 c1 A2 c2, cs = [.int .i64 x.f0, .slice A1 x.f1.length c1, .slice A2 x.f2.length c2] ∧ x.f1.length ≤ c1 ∧ Kd.string.C w A1 x.f1.length x.f1 ∧ x.f2.length ≤ c2 ∧ k40.C w A2 x.f2.length x.f2 := by
  obtain ⟨_, _, rfl, rfl, ⟨_, _, rfl, ⟨A1, c1, rfl, l1, g1⟩, ⟨A2, c2, rfl, l2, g2⟩⟩⟩ := h
  exact ⟨A1, c1, A2, c2, rfl, l1, g1, l2, g2⟩
theorem k25_openM {w : World} {base : Nat} {ok : Nat → Prop} {x : S25} {cs : List Value} (h : k25.M w base ok x cs) : ∃ v1 v2, cs = [.int .i64 x.f0, v1, v2] ∧ Kd.string.R 9 w base ok v1 x.f1 ∧ k40.R 40 w base ok v2 x.f2 := by
  obtain ⟨_, _, rfl, rfl, ⟨_, _, rfl, ⟨v1, rfl, g1⟩, ⟨v2, rfl, g2⟩⟩⟩ := h
  exact ⟨v1, v2, rfl, g1, g2⟩
theorem k25_mk (w : World) (x : S25) {A1 : Option Addr} {c1 : Nat} (l1 : x.f1.length ≤ c1) (g1 : Kd.string.C w A1 x.f1.length x.f1) {A2 : Option Addr} {c2 : Nat} (l2 : x.f2.length ≤ c2) (g2 : k40.C w A2 x.f2.length x.f2) : k25.K w x [.int .i64 x.f0, .slice A1 x.f1.length c1, .slice A2 x.f2.length c2] := ⟨[.int .i64 x.f0], [.slice A1 x.f1.length c1, .slice A2 x.f2.length c2], rfl, rfl, ⟨[.slice A1 x.f1.length c1], [.slice A2 x.f2.length c2], rfl, ⟨A1, c1, rfl, l1, g1⟩, ⟨A2, c2, rfl, l2, g2⟩⟩⟩
theorem k25_mkM (w : World) (base : Nat) (ok : Nat → Prop) (x : S25) {v1 : Value} (g1 : Kd.string.R 9 w base ok v1 x.f1) {v2 : Value} (g2 : k40.R 40 w base ok v2 x.f2) : k25.M w base ok x [.int .i64 x.f0, v1, v2] := ⟨[.int .i64 x.f0], [v1, v2], rfl, rfl, ⟨[v1], [v2], rfl, ⟨v1, rfl, g1⟩, ⟨v2, rfl, g2⟩⟩⟩
theorem k25_openF {W : World} {ok : Nat → Prop} {x : S25} {cs : List Value} (h : Kd.FK k25 W ok x cs) : ∃ A1 c1 A2 c2, cs = [.int .i64 x.f0, .slice A1 x.f1.length c1, .slice A2 x.f2.length c2] ∧ x.f1.length ≤ c1 ∧ Kd.F Kd.string W ok A1 x.f1.length x.f1 ∧ x.f2.length ≤ c2 ∧ Kd.F k40 W ok A2 x.f2.length x.f2 := by
  obtain ⟨A1, c1, A2, c2, rfl, l1, _, l2, _⟩ := k25_open (Kd.FK_now h)
  exact ⟨A1, c1, A2, c2, rfl, l1, (fun W' hW => by obtain ⟨A1_, c1_, A2_, c2_, he, l1_, g1_, l2_, g2_⟩ := k25_open (h W' hW); injection (Option.some.inj (show some (Value.slice A1 x.f1.length c1) = some (Value.slice A1_ x.f1.length c1_) from congrArg (fun l => l[1]?) he)) with ha_ _ _; rw [ha_]; exact g1_), l2, (fun W' hW => by obtain ⟨A1_, c1_, A2_, c2_, he, l1_, g1_, l2_, g2_⟩ := k25_open (h W' hW); injection (Option.some.inj (show some (Value.slice A2 x.f2.length c2) = some (Value.slice A2_ x.f2.length c2_) from congrArg (fun l => l[2]?) he)) with ha_ _ _; rw [ha_]; exact g2_)⟩
theorem k25_mkF (W : World) (ok : Nat → Prop) (x : S25) {A1 : Option Addr} {c1 : Nat} (l1 : x.f1.length ≤ c1) (g1 : Kd.F Kd.string W ok A1 x.f1.length x.f1) {A2 : Option Addr} {c2 : Nat} (l2 : x.f2.length ≤ c2) (g2 : Kd.F k40 W ok A2 x.f2.length x.f2) : Kd.FK k25 W ok x [.int .i64 x.f0, .slice A1 x.f1.length c1, .slice A2 x.f2.length c2] := fun W2 hW => k25_mk W2 x l1 (g1 W2 hW) l2 (g2 W2 hW)
def rd_T25 (xs : List S25) (i : Int) : S25 := xs.getD i.toNat z25
theorem at_T25 {w : World} {A : Option Addr} {n : Nat} {xs : List S25} (h : Kd.C k25 w A n xs) (i : Int) (h0 : 0 ≤ i) (h1 : i < n) : ∃ ad A1 c1 A2 c2, A = some ad ∧ w.cell? (ad.add (i.toNat * 3)) = some (.int .i64 (rd_T25 xs i).f0) ∧ w.cell? ⟨(ad.add (i.toNat * 3)).block, (ad.add (i.toNat * 3)).off + 1, none⟩ = some (.slice A1 (rd_T25 xs i).f1.length c1) ∧ w.cell? ⟨(ad.add (i.toNat * 3)).block, (ad.add (i.toNat * 3)).off + 2, none⟩ = some (.slice A2 (rd_T25 xs i).f2.length c2) ∧ (rd_T25 xs i).f1.length ≤ c1 ∧ Kd.string.C w A1 (rd_T25 xs i).f1.length (rd_T25 xs i).f1 ∧ (rd_T25 xs i).f2.length ≤ c2 ∧ k40.C w A2 (rd_T25 xs i).f2.length (rd_T25 xs i).f2 := by
  obtain ⟨ad, c, e, _, hK, hc0⟩ := Kd.C_get h z25 i h0 h1
  have hc : ∀ j u, c[j]? = some u → w.cell? (ad.add (i.toNat * 3 + j)) = some u := hc0
  obtain ⟨A1, c1, A2, c2, rfl, l1, g1, l2, g2⟩ := k25_open hK
  exact ⟨ad, A1, c1, A2, c2, e, hc 0 _ rfl, by rw [← add_field _ _ 1 (by omega)]; exact hc 1 _ rfl, by rw [← add_field _ _ 2 (by omega)]; exact hc 2 _ rfl, l1, g1, l2, g2⟩

def rd_L10 (xs : List (List Int)) (i : Int) : (List Int) := xs.getD i.toNat ([] : List Int)
theorem at_L10 {w : World} {A : Option Addr} {n : Nat} {xs : List (List Int)} (h : Kd.C (Kd.slice 5 (Kd.int .u8)) w A n xs) (i : Int) (h0 : 0 ≤ i) (h1 : i < n) : ∃ ad A0 c0, A = some ad ∧ w.cell? (ad.add i.toNat) = some (.slice A0 (rd_L10 xs i).length c0) ∧ (rd_L10 xs i).length ≤ c0 ∧ (Kd.int .u8).C w A0 (rd_L10 xs i).length (rd_L10 xs i) := by
  obtain ⟨ad, c, e, _, hK, hc0⟩ := Kd.C_get h ([] : List Int) i h0 h1
  have hc : ∀ j u, c[j]? = some u → w.cell? (ad.add (i.toNat * 1 + j)) = some u := hc0
  obtain ⟨A0, c0, rfl, l0, g0⟩ := hK
  exact ⟨ad, A0, c0, e, by have hq := hc 0 _ rfl; rwa [Nat.mul_one, Nat.add_zero] at hq, l0, g0⟩

end Go.Proofs.YtgmddlbbmlneaaaDoor.PR

/- Plain words of the root's proofs: names, packs, no program in sight. -/
namespace Go.Proofs.YtgmddlbbmlneaaaDoor.PR
open Go.RowKit Go.Proofs.YtgmddlbbmlneaaaDoorW.PrintWords Go.Proofs.YtgmddlbbmlneaaaDoorW.PrintLast Go.Proofs.YtgmddlbbmlneaaaDoorW.PrintMore
set_option linter.unusedVariables false

theorem ba_beq (a b : ByteArray) : (a == b) = (a.data == b.data) := by cases a; cases b; rfl
instance baLaw : LawfulBEq ByteArray where
  eq_of_beq := by
    intro a b h
    rw [ba_beq] at h
    have := eq_of_beq h
    cases a; cases b; exact congrArg ByteArray.mk this
  rfl := by
    intro a
    rw [ba_beq]
    exact beq_self_eq_true _

def isHex (c : UInt8) : Bool := (48 ≤ c && c ≤ 57) || (97 ≤ c && c ≤ 102)
def hexName (s : ByteArray) : Bool := s.data.toList.all isHex && s.size == 64
def letOk (c : UInt8) : Bool := c == 46 || c == 45 || c == 95 || (97 ≤ c && c ≤ 122) || (48 ≤ c && c ≤ 57)
def lettersL (l : List UInt8) : Bool := l.all letOk && !l.isEmpty && decide (l.length ≤ 30) && l.head? != some 46
def forkOk (c : UInt8) : Bool := c == 45 || (97 ≤ c && c ≤ 122) || (48 ≤ c && c ≤ 57)
def forkName (s : ByteArray) : Bool := s.data.toList.all forkOk && !s.data.toList.isEmpty && decide (s.size ≤ 20)
def splitL (c : UInt8) : List UInt8 → List (List UInt8)
  | [] => [[]]
  | x :: xs => if x = c then [] :: splitL c xs else match splitL c xs with
    | [] => [[x]]
    | p :: ps => (x :: p) :: ps
def ofL (l : List UInt8) : ByteArray := ⟨l.toArray⟩
def refNameL (l : List UInt8) : Bool :=
  decide (l.length ≤ 80) && decide (2 ≤ (splitL 47 l).length) && decide ((splitL 47 l).length ≤ 4) &&
    ((splitL 47 l).head? == some [104, 101, 97, 100, 115] || (splitL 47 l).head? == some [116, 97, 103, 115]) && (splitL 47 l).tail.all lettersL
def refName (s : ByteArray) : Bool := refNameL s.data.toList

def aboveB (a b : ByteArray) : Bool := (a.data.toList ++ [47]).isPrefixOf b.data.toList
def okRef (x : S76) : Bool := decide (x.f0.size ≤ 4294967000) && decide (x.f1.size ≤ 140737488351232)
def refsGo (all : List S76) (prev : Option ByteArray) : List S76 → Bool
  | [] => true
  | x :: xs => if refName x.f0 = true then (if hexName x.f1 = true then (if (match prev with | none => true | some p => Op.bytesLess p.toList x.f0.toList) = true then (if (all.any fun y => aboveB y.f0 x.f0) = true then false else refsGo all (some x.f0) xs) else false) else false) else false
def refsB (l : List S76) : Bool := refsGo l none l && decide (l.length ≤ 64)
def refLine (x : S76) : List UInt8 := x.f1.data.toList ++ 32 :: (x.f0.data.toList ++ [10])
def refsText (l : List S76) : List UInt8 := l.flatMap refLine
def okS (s : ByteArray) : Bool := s.size ≤ 140737488351232

def packsGo (seen : List ByteArray) : List ByteArray → Bool
  | [] => true
  | x :: xs => if x ∈ seen then false else if hexName x then packsGo (seen ++ [x]) xs else false
def packsB (l : List ByteArray) : Bool := packsGo [] l && decide (l.length ≤ 24)

def forkB (x : S40) : Bool :=
  if forkName x.f0 = true then (if packsB x.f4 = true then (if refsB x.f3 = true then (if refName x.f2 = true then [104, 101, 97, 100, 115, 47].isPrefixOf x.f2.data.toList else false) else false) else false) else false
def rootGo (prev : Option ByteArray) : List S40 → Bool
  | [] => true
  | x :: xs => if forkB x = true then (if (match prev with | none => true | some p => Op.bytesLess p.toList x.f0.toList) = true then rootGo (some x.f0) xs else false) else false
def rootB (a : Int) (pool : List ByteArray) (forks : List S40) : Bool :=
  rootGo none forks && (decide (0 ≤ a) && decide (a ≤ 1099511627776) && packsB pool && decide (forks.length ≤ 16))
def okFork (x : S40) : Bool := okS x.f0 && decide (x.f2.size ≤ 4294967000) && x.f3.all okRef && x.f4.all okS && decide (x.f4.length ≤ 8796093022208)
def okRoot (l1 : List ByteArray) (l2 : List S40) : Bool := l1.all okS && decide (l1.length ≤ 8796093022208) && l2.all okFork
end Go.Proofs.YtgmddlbbmlneaaaDoor.PR

namespace Go.Proofs.YtgmddlbbmlneaaaDoor.PR
open Go.RowKit Go.Proofs.YtgmddlbbmlneaaaDoorW.PrintWords Go.Proofs.YtgmddlbbmlneaaaDoorW.PrintLast Go.Proofs.YtgmddlbbmlneaaaDoorW.PrintMore
attribute [local go_sem] max2_int min2_int max_two min_two max_three min_three max_four min_four   -- for this text's walks alone
set_option linter.unusedVariables false
set_option linter.unusedSimpArgs false

/-! ### root_Named: function 15 -/
def root_Named.l0 : Nat → ByteArray → Int → Int → Option (Bool)
  | 0, _, _, _ => none
  | k + 1, x0, x6, x7 => if x7 < x6 then (if 0 ≤ x7 then (if x7 < (x0.size : Int) then (if (bt x0 x7) = 45 then (root_Named.l0 k x0 x6 (wrap64 (x7 + 1))) else (if (bt x0 x7) < 97 then (if (bt x0 x7) < 48 then (some false) else (if (bt x0 x7) > 57 then (some false) else (root_Named.l0 k x0 x6 (wrap64 (x7 + 1))))) else (if (bt x0 x7) > 122 then (if (bt x0 x7) < 48 then (some false) else (if (bt x0 x7) > 57 then (some false) else (root_Named.l0 k x0 x6 (wrap64 (x7 + 1))))) else (root_Named.l0 k x0 x6 (wrap64 (x7 + 1)))))) else (none)) else (none)) else (if x0.toList = ([] : List UInt8) then (some false) else (some (decide ((x0.size : Int) ≤ 20))))
def root_Named.f (k : Nat) (a0 : ByteArray) : Option (Bool) := root_Named.l0 k a0 (a0.size : Int) 0
theorem root_Named.mono_l : ∀ k, (∀ y0 y1 y2, LeO (root_Named.l0 k y0 y1 y2) (root_Named.l0 (k + 1) y0 y1 y2))
  | 0 => fun _ _ _ r h => by simp [root_Named.l0] at h
  | k + 1 => by
    have ih0 := root_Named.mono_l k
    · intro y0 y1 y2
      unfold root_Named.l0
      repeat' first
      | (with_reducible exact ih0 _ _ _)
      | (with_reducible exact LeO.refl _)
      | (with_reducible exact LeO.none _)
      | (with_reducible refine LeO.ite ?_ ?_)
      | (with_reducible refine LeO.bind ?_ (fun _ => ?_))
      | exact ih0 _ _ _
      | exact LeO.none _
      | refine LeO.ite ?_ ?_
      | refine LeO.bind ?_ (fun _ => ?_)
theorem root_Named.mono : ∀ a0 k, LeO (root_Named.f k a0) (root_Named.f (k + 1) a0) := by
  intro a0 k
  have ih0 := root_Named.mono_l k
  unfold root_Named.f
  repeat' first
      | (with_reducible exact ih0 _ _ _)
      | (with_reducible exact LeO.refl _)
      | (with_reducible exact LeO.none _)
      | (with_reducible refine LeO.ite ?_ ?_)
      | (with_reducible refine LeO.bind ?_ (fun _ => ?_))
      | exact ih0 _ _ _
      | exact LeO.none _
      | refine LeO.ite ?_ ?_
      | refine LeO.bind ?_ (fun _ => ?_)
set_option maxHeartbeats 8000000 in
set_option maxRecDepth 100000 in
theorem root_Named.calls (k : Nat) (a0 : ByteArray) (r : Bool) (w : World) (h : root_Named.f k a0 = some r) :
    Calls Tryd.prog 15 #[.string a0] w fun e w' => e = .returned (.bool r) ∧ Drawn0 w w' := by
  have H : (root_Named.l0 k a0 (a0.size : Int) 0) = some r := h
  clear h
  have H' := Aside0.mk H
  clear H
  go_enter Tryd.func15, Tryd.ntmps15
  go_wp2
  go_loopg [7] k (fun kq v7 w' => ∃ (x7_1 : Int), v7 = .int .i64 x7_1 ∧ Aside0 (root_Named.l0 kq a0 (a0.size : Int) x7_1 = some r) ∧ Aside0 (kq ≤ k) ∧ Drawn0 w w')
  case atStart => exact ⟨(0), (by first | rfl | (simp; done) | (simp [*]; done)), H', ⟨Nat.le_refl _⟩, by repeat (first | exact Drawn0.refl _ | apply Drawn0.step)⟩
  case round =>
    clear H'
    try clear c1
    obtain ⟨x7_1, rfl, HA, HK1, ⟨m1, rfl⟩⟩ := hrel
    cases gk with
    | zero => exact absurd HA.out (by simp [root_Named.l0])
    | succ k1 =>
      have H := HA.out
      clear HA
      simp only [root_Named.l0] at H
      by_cases c2 : x7_1 < (a0.size : Int)
      · rw [if_pos c2] at H
        have c2b0 : decide (x7_1 < (a0.size : Int)) = true := decide_eq_true c2
        clear c2
        by_cases c3 : 0 ≤ x7_1
        · rw [if_pos c3] at H
          have c3b0 : decide (0 ≤ x7_1) = true := decide_eq_true c3
          clear c3
          by_cases c4 : x7_1 < (a0.size : Int)
          · rw [if_pos c4] at H
            have c4b0 : decide (x7_1 < (a0.size : Int)) = true := decide_eq_true c4
            clear c4
            by_cases c6 : (bt a0 x7_1) = 45
            · rw [if_pos c6] at H
              have c6b0 : ((bt a0 x7_1) == 45) = true := beq_iff_eq.mpr c6
              have c6b1 : ((bt a0 x7_1) != 45) = false := bne_eq_false_iff_eq.mpr c6
              clear c6
              have H' := Aside0.mk H
              clear H
              have p5 : 0 ≤ (x7_1 : Int) := of_decide_eq_true (by first | (with_reducible assumption) | assumption)
              have q5 : x7_1 < (a0.size : Int) := of_decide_eq_true (by first | (with_reducible assumption) | assumption)
              have hx5 := bt_at a0 x7_1
              replace p5 := eq_true p5
              replace q5 := eq_true q5
              go_wp2
              go_roundg k1
              case measure => have := HK1.out; omega
              case rel => exact ⟨(wrap64 (x7_1 + 1)), (by first | rfl | (simp; done) | (simp [*]; done)), H', ⟨by have := HK1.out; omega⟩, by repeat (first | exact Drawn0.refl _ | apply Drawn0.step)⟩
            · rw [if_neg c6] at H
              have c6b0 : ((bt a0 x7_1) == 45) = false := beq_eq_false_iff_ne.mpr c6
              have c6b1 : ((bt a0 x7_1) != 45) = true := bne_iff_ne.mpr c6
              by_cases c7 : (bt a0 x7_1) < 97
              · rw [if_pos c7] at H
                have c7b0 : decide ((bt a0 x7_1) < 97) = true := decide_eq_true c7
                clear c7
                by_cases c8 : (bt a0 x7_1) < 48
                · rw [if_pos c8] at H
                  have c8b0 : decide ((bt a0 x7_1) < 48) = true := decide_eq_true c8
                  clear c8
                  obtain rfl := Option.some.inj H
                  have p5 : 0 ≤ (x7_1 : Int) := of_decide_eq_true (by first | (with_reducible assumption) | assumption)
                  have q5 : x7_1 < (a0.size : Int) := of_decide_eq_true (by first | (with_reducible assumption) | assumption)
                  have hx5 := bt_at a0 x7_1
                  replace p5 := eq_true p5
                  replace q5 := eq_true q5
                  go_wp2
                  go_ret
                  exact ⟨by first | rfl | (simp; done) | (simp [*]; done), by repeat (first | exact Drawn0.refl _ | apply Drawn0.step)⟩
                · rw [if_neg c8] at H
                  have c8b0 : decide ((bt a0 x7_1) < 48) = false := decide_eq_false c8
                  clear c8
                  by_cases c9 : (bt a0 x7_1) > 57
                  · rw [if_pos c9] at H
                    have c9b0 : decide (57 < (bt a0 x7_1)) = true := decide_eq_true c9
                    clear c9
                    obtain rfl := Option.some.inj H
                    have p5 : 0 ≤ (x7_1 : Int) := of_decide_eq_true (by first | (with_reducible assumption) | assumption)
                    have q5 : x7_1 < (a0.size : Int) := of_decide_eq_true (by first | (with_reducible assumption) | assumption)
                    have hx5 := bt_at a0 x7_1
                    replace p5 := eq_true p5
                    replace q5 := eq_true q5
                    go_wp2
                    go_ret
                    exact ⟨by first | rfl | (simp; done) | (simp [*]; done), by repeat (first | exact Drawn0.refl _ | apply Drawn0.step)⟩
                  · rw [if_neg c9] at H
                    have c9b0 : decide (57 < (bt a0 x7_1)) = false := decide_eq_false c9
                    clear c9
                    have H' := Aside0.mk H
                    clear H
                    have p5 : 0 ≤ (x7_1 : Int) := of_decide_eq_true (by first | (with_reducible assumption) | assumption)
                    have q5 : x7_1 < (a0.size : Int) := of_decide_eq_true (by first | (with_reducible assumption) | assumption)
                    have hx5 := bt_at a0 x7_1
                    replace p5 := eq_true p5
                    replace q5 := eq_true q5
                    go_wp2
                    go_roundg k1
                    case measure => have := HK1.out; omega
                    case rel => exact ⟨(wrap64 (x7_1 + 1)), (by first | rfl | (simp; done) | (simp [*]; done)), H', ⟨by have := HK1.out; omega⟩, by repeat (first | exact Drawn0.refl _ | apply Drawn0.step)⟩
              · rw [if_neg c7] at H
                have c7b0 : decide ((bt a0 x7_1) < 97) = false := decide_eq_false c7
                clear c7
                by_cases c10 : (bt a0 x7_1) > 122
                · rw [if_pos c10] at H
                  have c10b0 : decide (122 < (bt a0 x7_1)) = true := decide_eq_true c10
                  clear c10
                  by_cases c11 : (bt a0 x7_1) < 48
                  · rw [if_pos c11] at H
                    have c11b0 : decide ((bt a0 x7_1) < 48) = true := decide_eq_true c11
                    clear c11
                    obtain rfl := Option.some.inj H
                    have p5 : 0 ≤ (x7_1 : Int) := of_decide_eq_true (by first | (with_reducible assumption) | assumption)
                    have q5 : x7_1 < (a0.size : Int) := of_decide_eq_true (by first | (with_reducible assumption) | assumption)
                    have hx5 := bt_at a0 x7_1
                    replace p5 := eq_true p5
                    replace q5 := eq_true q5
                    go_wp2
                    go_ret
                    exact ⟨by first | rfl | (simp; done) | (simp [*]; done), by repeat (first | exact Drawn0.refl _ | apply Drawn0.step)⟩
                  · rw [if_neg c11] at H
                    have c11b0 : decide ((bt a0 x7_1) < 48) = false := decide_eq_false c11
                    clear c11
                    by_cases c12 : (bt a0 x7_1) > 57
                    · rw [if_pos c12] at H
                      have c12b0 : decide (57 < (bt a0 x7_1)) = true := decide_eq_true c12
                      clear c12
                      obtain rfl := Option.some.inj H
                      have p5 : 0 ≤ (x7_1 : Int) := of_decide_eq_true (by first | (with_reducible assumption) | assumption)
                      have q5 : x7_1 < (a0.size : Int) := of_decide_eq_true (by first | (with_reducible assumption) | assumption)
                      have hx5 := bt_at a0 x7_1
                      replace p5 := eq_true p5
                      replace q5 := eq_true q5
                      go_wp2
                      go_ret
                      exact ⟨by first | rfl | (simp; done) | (simp [*]; done), by repeat (first | exact Drawn0.refl _ | apply Drawn0.step)⟩
                    · rw [if_neg c12] at H
                      have c12b0 : decide (57 < (bt a0 x7_1)) = false := decide_eq_false c12
                      clear c12
                      have H' := Aside0.mk H
                      clear H
                      have p5 : 0 ≤ (x7_1 : Int) := of_decide_eq_true (by first | (with_reducible assumption) | assumption)
                      have q5 : x7_1 < (a0.size : Int) := of_decide_eq_true (by first | (with_reducible assumption) | assumption)
                      have hx5 := bt_at a0 x7_1
                      replace p5 := eq_true p5
                      replace q5 := eq_true q5
                      go_wp2
                      go_roundg k1
                      case measure => have := HK1.out; omega
                      case rel => exact ⟨(wrap64 (x7_1 + 1)), (by first | rfl | (simp; done) | (simp [*]; done)), H', ⟨by have := HK1.out; omega⟩, by repeat (first | exact Drawn0.refl _ | apply Drawn0.step)⟩
                · rw [if_neg c10] at H
                  have c10b0 : decide (122 < (bt a0 x7_1)) = false := decide_eq_false c10
                  clear c10
                  have H' := Aside0.mk H
                  clear H
                  have p5 : 0 ≤ (x7_1 : Int) := of_decide_eq_true (by first | (with_reducible assumption) | assumption)
                  have q5 : x7_1 < (a0.size : Int) := of_decide_eq_true (by first | (with_reducible assumption) | assumption)
                  have hx5 := bt_at a0 x7_1
                  replace p5 := eq_true p5
                  replace q5 := eq_true q5
                  go_wp2
                  go_roundg k1
                  case measure => have := HK1.out; omega
                  case rel => exact ⟨(wrap64 (x7_1 + 1)), (by first | rfl | (simp; done) | (simp [*]; done)), H', ⟨by have := HK1.out; omega⟩, by repeat (first | exact Drawn0.refl _ | apply Drawn0.step)⟩
          · rw [if_neg c4] at H
            exact absurd H (by simp)
        · rw [if_neg c3] at H
          exact absurd H (by simp)
      · rw [if_neg c2] at H
        have c2b0 : decide (x7_1 < (a0.size : Int)) = false := decide_eq_false c2
        clear c2
        by_cases c13 : a0.toList = ([] : List UInt8)
        · rw [if_pos c13] at H
          have c13b0 : (a0.toList == ([] : List UInt8)) = true := beq_iff_eq.mpr c13
          have c13b1 : (a0.toList != ([] : List UInt8)) = false := bne_eq_false_iff_eq.mpr c13
          clear c13
          obtain rfl := Option.some.inj H
          go_wp2
          go_ret
          exact ⟨by first | rfl | (simp; done) | (simp [*]; done), by repeat (first | exact Drawn0.refl _ | apply Drawn0.step)⟩
        · rw [if_neg c13] at H
          have c13b0 : (a0.toList == ([] : List UInt8)) = false := beq_eq_false_iff_ne.mpr c13
          have c13b1 : (a0.toList != ([] : List UInt8)) = true := bne_iff_ne.mpr c13
          obtain rfl := Option.some.inj H
          go_wp2
          go_ret
          exact ⟨by first | rfl | (simp; done) | (simp [*]; done), by repeat (first | exact Drawn0.refl _ | apply Drawn0.step)⟩

/-! ### digest_Named: function 42 -/
def digest_Named.l0 : Nat → ByteArray → Int → Int → Option (Bool)
  | 0, _, _, _ => none
  | k + 1, x0, x6, x7 => if x7 < x6 then (if 0 ≤ x7 then (if x7 < (x0.size : Int) then (if (bt x0 x7) < 48 then (if (bt x0 x7) < 97 then (some false) else (if (bt x0 x7) > 102 then (some false) else (digest_Named.l0 k x0 x6 (wrap64 (x7 + 1))))) else (if (bt x0 x7) > 57 then (if (bt x0 x7) < 97 then (some false) else (if (bt x0 x7) > 102 then (some false) else (digest_Named.l0 k x0 x6 (wrap64 (x7 + 1))))) else (digest_Named.l0 k x0 x6 (wrap64 (x7 + 1))))) else (none)) else (none)) else (some ((x0.size : Int) == 64))
def digest_Named.f (k : Nat) (a0 : ByteArray) : Option (Bool) := digest_Named.l0 k a0 (a0.size : Int) 0
theorem digest_Named.mono_l : ∀ k, (∀ y0 y1 y2, LeO (digest_Named.l0 k y0 y1 y2) (digest_Named.l0 (k + 1) y0 y1 y2))
  | 0 => fun _ _ _ r h => by simp [digest_Named.l0] at h
  | k + 1 => by
    have ih0 := digest_Named.mono_l k
    · intro y0 y1 y2
      unfold digest_Named.l0
      repeat' first
      | (with_reducible exact ih0 _ _ _)
      | (with_reducible exact LeO.refl _)
      | (with_reducible exact LeO.none _)
      | (with_reducible refine LeO.ite ?_ ?_)
      | (with_reducible refine LeO.bind ?_ (fun _ => ?_))
      | exact ih0 _ _ _
      | exact LeO.none _
      | refine LeO.ite ?_ ?_
      | refine LeO.bind ?_ (fun _ => ?_)
theorem digest_Named.mono : ∀ a0 k, LeO (digest_Named.f k a0) (digest_Named.f (k + 1) a0) := by
  intro a0 k
  have ih0 := digest_Named.mono_l k
  unfold digest_Named.f
  repeat' first
      | (with_reducible exact ih0 _ _ _)
      | (with_reducible exact LeO.refl _)
      | (with_reducible exact LeO.none _)
      | (with_reducible refine LeO.ite ?_ ?_)
      | (with_reducible refine LeO.bind ?_ (fun _ => ?_))
      | exact ih0 _ _ _
      | exact LeO.none _
      | refine LeO.ite ?_ ?_
      | refine LeO.bind ?_ (fun _ => ?_)
set_option maxHeartbeats 8000000 in
set_option maxRecDepth 100000 in
theorem digest_Named.calls (k : Nat) (a0 : ByteArray) (r : Bool) (w : World) (h : digest_Named.f k a0 = some r) :
    Calls Tryd.prog 42 #[.string a0] w fun e w' => e = .returned (.bool r) ∧ Drawn0 w w' := by
  have H : (digest_Named.l0 k a0 (a0.size : Int) 0) = some r := h
  clear h
  have H' := Aside0.mk H
  clear H
  go_enter Tryd.func42, Tryd.ntmps42
  go_wp2
  go_loopg [7] k (fun kq v7 w' => ∃ (x7_1 : Int), v7 = .int .i64 x7_1 ∧ Aside0 (digest_Named.l0 kq a0 (a0.size : Int) x7_1 = some r) ∧ Aside0 (kq ≤ k) ∧ Drawn0 w w')
  case atStart => exact ⟨(0), (by first | rfl | (simp; done) | (simp [*]; done)), H', ⟨Nat.le_refl _⟩, by repeat (first | exact Drawn0.refl _ | apply Drawn0.step)⟩
  case round =>
    clear H'
    obtain ⟨x7_1, rfl, HA, HK1, ⟨m1, rfl⟩⟩ := hrel
    cases gk with
    | zero => exact absurd HA.out (by simp [digest_Named.l0])
    | succ k1 =>
      have H := HA.out
      clear HA
      simp only [digest_Named.l0] at H
      by_cases c2 : x7_1 < (a0.size : Int)
      · rw [if_pos c2] at H
        have c2b0 : decide (x7_1 < (a0.size : Int)) = true := decide_eq_true c2
        clear c2
        by_cases c3 : 0 ≤ x7_1
        · rw [if_pos c3] at H
          have c3b0 : decide (0 ≤ x7_1) = true := decide_eq_true c3
          clear c3
          by_cases c4 : x7_1 < (a0.size : Int)
          · rw [if_pos c4] at H
            have c4b0 : decide (x7_1 < (a0.size : Int)) = true := decide_eq_true c4
            clear c4
            by_cases c6 : (bt a0 x7_1) < 48
            · rw [if_pos c6] at H
              have c6b0 : decide ((bt a0 x7_1) < 48) = true := decide_eq_true c6
              clear c6
              by_cases c7 : (bt a0 x7_1) < 97
              · rw [if_pos c7] at H
                have c7b0 : decide ((bt a0 x7_1) < 97) = true := decide_eq_true c7
                clear c7
                obtain rfl := Option.some.inj H
                have p5 : 0 ≤ (x7_1 : Int) := of_decide_eq_true (by first | (with_reducible assumption) | assumption)
                have q5 : x7_1 < (a0.size : Int) := of_decide_eq_true (by first | (with_reducible assumption) | assumption)
                have hx5 := bt_at a0 x7_1
                replace p5 := eq_true p5
                replace q5 := eq_true q5
                go_wp2
                go_ret
                exact ⟨by first | rfl | (simp; done) | (simp [*]; done), by repeat (first | exact Drawn0.refl _ | apply Drawn0.step)⟩
              · rw [if_neg c7] at H
                have c7b0 : decide ((bt a0 x7_1) < 97) = false := decide_eq_false c7
                clear c7
                by_cases c8 : (bt a0 x7_1) > 102
                · rw [if_pos c8] at H
                  have c8b0 : decide (102 < (bt a0 x7_1)) = true := decide_eq_true c8
                  clear c8
                  obtain rfl := Option.some.inj H
                  have p5 : 0 ≤ (x7_1 : Int) := of_decide_eq_true (by first | (with_reducible assumption) | assumption)
                  have q5 : x7_1 < (a0.size : Int) := of_decide_eq_true (by first | (with_reducible assumption) | assumption)
                  have hx5 := bt_at a0 x7_1
                  replace p5 := eq_true p5
                  replace q5 := eq_true q5
                  go_wp2
                  go_ret
                  exact ⟨by first | rfl | (simp; done) | (simp [*]; done), by repeat (first | exact Drawn0.refl _ | apply Drawn0.step)⟩
                · rw [if_neg c8] at H
                  have c8b0 : decide (102 < (bt a0 x7_1)) = false := decide_eq_false c8
                  clear c8
                  have H' := Aside0.mk H
                  clear H
                  have p5 : 0 ≤ (x7_1 : Int) := of_decide_eq_true (by first | (with_reducible assumption) | assumption)
                  have q5 : x7_1 < (a0.size : Int) := of_decide_eq_true (by first | (with_reducible assumption) | assumption)
                  have hx5 := bt_at a0 x7_1
                  replace p5 := eq_true p5
                  replace q5 := eq_true q5
                  go_wp2
                  go_roundg k1
                  case measure => have := HK1.out; omega
                  case rel => exact ⟨(wrap64 (x7_1 + 1)), (by first | rfl | (simp; done) | (simp [*]; done)), H', ⟨by have := HK1.out; omega⟩, by repeat (first | exact Drawn0.refl _ | apply Drawn0.step)⟩
            · rw [if_neg c6] at H
              have c6b0 : decide ((bt a0 x7_1) < 48) = false := decide_eq_false c6
              clear c6
              by_cases c9 : (bt a0 x7_1) > 57
              · rw [if_pos c9] at H
                have c9b0 : decide (57 < (bt a0 x7_1)) = true := decide_eq_true c9
                clear c9
                by_cases c10 : (bt a0 x7_1) < 97
                · rw [if_pos c10] at H
                  have c10b0 : decide ((bt a0 x7_1) < 97) = true := decide_eq_true c10
                  clear c10
                  obtain rfl := Option.some.inj H
                  have p5 : 0 ≤ (x7_1 : Int) := of_decide_eq_true (by first | (with_reducible assumption) | assumption)
                  have q5 : x7_1 < (a0.size : Int) := of_decide_eq_true (by first | (with_reducible assumption) | assumption)
                  have hx5 := bt_at a0 x7_1
                  replace p5 := eq_true p5
                  replace q5 := eq_true q5
                  go_wp2
                  go_ret
                  exact ⟨by first | rfl | (simp; done) | (simp [*]; done), by repeat (first | exact Drawn0.refl _ | apply Drawn0.step)⟩
                · rw [if_neg c10] at H
                  have c10b0 : decide ((bt a0 x7_1) < 97) = false := decide_eq_false c10
                  clear c10
                  by_cases c11 : (bt a0 x7_1) > 102
                  · rw [if_pos c11] at H
                    have c11b0 : decide (102 < (bt a0 x7_1)) = true := decide_eq_true c11
                    clear c11
                    obtain rfl := Option.some.inj H
                    have p5 : 0 ≤ (x7_1 : Int) := of_decide_eq_true (by first | (with_reducible assumption) | assumption)
                    have q5 : x7_1 < (a0.size : Int) := of_decide_eq_true (by first | (with_reducible assumption) | assumption)
                    have hx5 := bt_at a0 x7_1
                    replace p5 := eq_true p5
                    replace q5 := eq_true q5
                    go_wp2
                    go_ret
                    exact ⟨by first | rfl | (simp; done) | (simp [*]; done), by repeat (first | exact Drawn0.refl _ | apply Drawn0.step)⟩
                  · rw [if_neg c11] at H
                    have c11b0 : decide (102 < (bt a0 x7_1)) = false := decide_eq_false c11
                    clear c11
                    have H' := Aside0.mk H
                    clear H
                    have p5 : 0 ≤ (x7_1 : Int) := of_decide_eq_true (by first | (with_reducible assumption) | assumption)
                    have q5 : x7_1 < (a0.size : Int) := of_decide_eq_true (by first | (with_reducible assumption) | assumption)
                    have hx5 := bt_at a0 x7_1
                    replace p5 := eq_true p5
                    replace q5 := eq_true q5
                    go_wp2
                    go_roundg k1
                    case measure => have := HK1.out; omega
                    case rel => exact ⟨(wrap64 (x7_1 + 1)), (by first | rfl | (simp; done) | (simp [*]; done)), H', ⟨by have := HK1.out; omega⟩, by repeat (first | exact Drawn0.refl _ | apply Drawn0.step)⟩
              · rw [if_neg c9] at H
                have c9b0 : decide (57 < (bt a0 x7_1)) = false := decide_eq_false c9
                clear c9
                have H' := Aside0.mk H
                clear H
                have p5 : 0 ≤ (x7_1 : Int) := of_decide_eq_true (by first | (with_reducible assumption) | assumption)
                have q5 : x7_1 < (a0.size : Int) := of_decide_eq_true (by first | (with_reducible assumption) | assumption)
                have hx5 := bt_at a0 x7_1
                replace p5 := eq_true p5
                replace q5 := eq_true q5
                go_wp2
                go_roundg k1
                case measure => have := HK1.out; omega
                case rel => exact ⟨(wrap64 (x7_1 + 1)), (by first | rfl | (simp; done) | (simp [*]; done)), H', ⟨by have := HK1.out; omega⟩, by repeat (first | exact Drawn0.refl _ | apply Drawn0.step)⟩
          · rw [if_neg c4] at H
            exact absurd H (by simp)
        · rw [if_neg c3] at H
          exact absurd H (by simp)
      · rw [if_neg c2] at H
        have c2b0 : decide (x7_1 < (a0.size : Int)) = false := decide_eq_false c2
        clear c2
        obtain rfl := Option.some.inj H
        go_wp2
        go_ret
        exact ⟨by first | rfl | (simp; done) | (simp [*]; done), by repeat (first | exact Drawn0.refl _ | apply Drawn0.step)⟩

end Go.Proofs.YtgmddlbbmlneaaaDoor.PR

namespace Go.Proofs.YtgmddlbbmlneaaaDoor.PR
open Go.RowKit Go.Proofs.YtgmddlbbmlneaaaDoorW.PrintWords Go.Proofs.YtgmddlbbmlneaaaDoorW.PrintLast Go.Proofs.YtgmddlbbmlneaaaDoorW.PrintMore
attribute [local go_sem] max2_int min2_int max_two min_two max_three min_three max_four min_four   -- for this text's walks alone
set_option linter.unusedVariables false
set_option linter.unusedSimpArgs false

/-! ### refs_letters: function 57 -/
def refs_letters.l0 : Nat → ByteArray → Int → Int → Option (Bool)
  | 0, _, _, _ => none
  | k + 1, x0, x6, x7 => if x7 < x6 then (if 0 ≤ x7 then (if x7 < (x0.size : Int) then (if (bt x0 x7) = 46 then (refs_letters.l0 k x0 x6 (wrap64 (x7 + 1))) else (if (bt x0 x7) = 45 then (refs_letters.l0 k x0 x6 (wrap64 (x7 + 1))) else (if (bt x0 x7) = 95 then (refs_letters.l0 k x0 x6 (wrap64 (x7 + 1))) else (if (bt x0 x7) < 97 then (if (bt x0 x7) < 48 then (some false) else (if (bt x0 x7) > 57 then (some false) else (refs_letters.l0 k x0 x6 (wrap64 (x7 + 1))))) else (if (bt x0 x7) > 122 then (if (bt x0 x7) < 48 then (some false) else (if (bt x0 x7) > 57 then (some false) else (refs_letters.l0 k x0 x6 (wrap64 (x7 + 1))))) else (refs_letters.l0 k x0 x6 (wrap64 (x7 + 1)))))))) else (none)) else (none)) else (if x0.toList = ([] : List UInt8) then (some false) else (if (x0.size : Int) ≤ 30 then (if 0 < (x0.size : Int) then (some ((bt x0 0) != 46)) else (none)) else (some false)))
def refs_letters.f (k : Nat) (a0 : ByteArray) : Option (Bool) := refs_letters.l0 k a0 (a0.size : Int) 0
theorem refs_letters.mono_l : ∀ k, (∀ y0 y1 y2, LeO (refs_letters.l0 k y0 y1 y2) (refs_letters.l0 (k + 1) y0 y1 y2))
  | 0 => fun _ _ _ r h => by simp [refs_letters.l0] at h
  | k + 1 => by
    have ih0 := refs_letters.mono_l k
    · intro y0 y1 y2
      unfold refs_letters.l0
      repeat' first
      | (with_reducible exact ih0 _ _ _)
      | (with_reducible exact LeO.refl _)
      | (with_reducible exact LeO.none _)
      | (with_reducible refine LeO.ite ?_ ?_)
      | (with_reducible refine LeO.bind ?_ (fun _ => ?_))
      | exact ih0 _ _ _
      | exact LeO.none _
      | refine LeO.ite ?_ ?_
      | refine LeO.bind ?_ (fun _ => ?_)
theorem refs_letters.mono : ∀ a0 k, LeO (refs_letters.f k a0) (refs_letters.f (k + 1) a0) := by
  intro a0 k
  have ih0 := refs_letters.mono_l k
  unfold refs_letters.f
  repeat' first
      | (with_reducible exact ih0 _ _ _)
      | (with_reducible exact LeO.refl _)
      | (with_reducible exact LeO.none _)
      | (with_reducible refine LeO.ite ?_ ?_)
      | (with_reducible refine LeO.bind ?_ (fun _ => ?_))
      | exact ih0 _ _ _
      | exact LeO.none _
      | refine LeO.ite ?_ ?_
      | refine LeO.bind ?_ (fun _ => ?_)
set_option maxHeartbeats 8000000 in
set_option maxRecDepth 100000 in
theorem refs_letters.calls (k : Nat) (a0 : ByteArray) (r : Bool) (w : World) (h : refs_letters.f k a0 = some r) :
    Calls Tryd.prog 57 #[.string a0] w fun e w' => e = .returned (.bool r) ∧ Drawn0 w w' := by
  have H : (refs_letters.l0 k a0 (a0.size : Int) 0) = some r := h
  clear h
  have H' := Aside0.mk H
  clear H
  go_enter Tryd.func57, Tryd.ntmps57
  go_wp2
  go_loopg [7] k (fun kq v7 w' => ∃ (x7_1 : Int), v7 = .int .i64 x7_1 ∧ Aside0 (refs_letters.l0 kq a0 (a0.size : Int) x7_1 = some r) ∧ Aside0 (kq ≤ k) ∧ Drawn0 w w')
  case atStart => exact ⟨(0), (by first | rfl | (simp; done) | (simp [*]; done)), H', ⟨Nat.le_refl _⟩, by repeat (first | exact Drawn0.refl _ | apply Drawn0.step)⟩
  case round =>
    clear H'
    obtain ⟨x7_1, rfl, HA, HK1, ⟨m1, rfl⟩⟩ := hrel
    cases gk with
    | zero => exact absurd HA.out (by simp [refs_letters.l0])
    | succ k1 =>
      have H := HA.out
      clear HA
      simp only [refs_letters.l0] at H
      by_cases c2 : x7_1 < (a0.size : Int)
      · rw [if_pos c2] at H
        have c2b0 : decide (x7_1 < (a0.size : Int)) = true := decide_eq_true c2
        clear c2
        by_cases c3 : 0 ≤ x7_1
        · rw [if_pos c3] at H
          have c3b0 : decide (0 ≤ x7_1) = true := decide_eq_true c3
          clear c3
          by_cases c4 : x7_1 < (a0.size : Int)
          · rw [if_pos c4] at H
            have c4b0 : decide (x7_1 < (a0.size : Int)) = true := decide_eq_true c4
            clear c4
            by_cases c6 : (bt a0 x7_1) = 46
            · rw [if_pos c6] at H
              have c6b0 : ((bt a0 x7_1) == 46) = true := beq_iff_eq.mpr c6
              have c6b1 : ((bt a0 x7_1) != 46) = false := bne_eq_false_iff_eq.mpr c6
              clear c6
              have H' := Aside0.mk H
              clear H
              have p5 : 0 ≤ (x7_1 : Int) := of_decide_eq_true (by first | (with_reducible assumption) | assumption)
              have q5 : x7_1 < (a0.size : Int) := of_decide_eq_true (by first | (with_reducible assumption) | assumption)
              have hx5 := bt_at a0 x7_1
              replace p5 := eq_true p5
              replace q5 := eq_true q5
              go_wp2
              go_roundg k1
              case measure => have := HK1.out; omega
              case rel => exact ⟨(wrap64 (x7_1 + 1)), (by first | rfl | (simp; done) | (simp [*]; done)), H', ⟨by have := HK1.out; omega⟩, by repeat (first | exact Drawn0.refl _ | apply Drawn0.step)⟩
            · rw [if_neg c6] at H
              have c6b0 : ((bt a0 x7_1) == 46) = false := beq_eq_false_iff_ne.mpr c6
              have c6b1 : ((bt a0 x7_1) != 46) = true := bne_iff_ne.mpr c6
              by_cases c7 : (bt a0 x7_1) = 45
              · rw [if_pos c7] at H
                have c7b0 : ((bt a0 x7_1) == 45) = true := beq_iff_eq.mpr c7
                have c7b1 : ((bt a0 x7_1) != 45) = false := bne_eq_false_iff_eq.mpr c7
                clear c7
                have H' := Aside0.mk H
                clear H
                have p5 : 0 ≤ (x7_1 : Int) := of_decide_eq_true (by first | (with_reducible assumption) | assumption)
                have q5 : x7_1 < (a0.size : Int) := of_decide_eq_true (by first | (with_reducible assumption) | assumption)
                have hx5 := bt_at a0 x7_1
                replace p5 := eq_true p5
                replace q5 := eq_true q5
                go_wp2
                go_roundg k1
                case measure => have := HK1.out; omega
                case rel => exact ⟨(wrap64 (x7_1 + 1)), (by first | rfl | (simp; done) | (simp [*]; done)), H', ⟨by have := HK1.out; omega⟩, by repeat (first | exact Drawn0.refl _ | apply Drawn0.step)⟩
              · rw [if_neg c7] at H
                have c7b0 : ((bt a0 x7_1) == 45) = false := beq_eq_false_iff_ne.mpr c7
                have c7b1 : ((bt a0 x7_1) != 45) = true := bne_iff_ne.mpr c7
                by_cases c8 : (bt a0 x7_1) = 95
                · rw [if_pos c8] at H
                  have c8b0 : ((bt a0 x7_1) == 95) = true := beq_iff_eq.mpr c8
                  have c8b1 : ((bt a0 x7_1) != 95) = false := bne_eq_false_iff_eq.mpr c8
                  clear c8
                  have H' := Aside0.mk H
                  clear H
                  have p5 : 0 ≤ (x7_1 : Int) := of_decide_eq_true (by first | (with_reducible assumption) | assumption)
                  have q5 : x7_1 < (a0.size : Int) := of_decide_eq_true (by first | (with_reducible assumption) | assumption)
                  have hx5 := bt_at a0 x7_1
                  replace p5 := eq_true p5
                  replace q5 := eq_true q5
                  go_wp2
                  go_roundg k1
                  case measure => have := HK1.out; omega
                  case rel => exact ⟨(wrap64 (x7_1 + 1)), (by first | rfl | (simp; done) | (simp [*]; done)), H', ⟨by have := HK1.out; omega⟩, by repeat (first | exact Drawn0.refl _ | apply Drawn0.step)⟩
                · rw [if_neg c8] at H
                  have c8b0 : ((bt a0 x7_1) == 95) = false := beq_eq_false_iff_ne.mpr c8
                  have c8b1 : ((bt a0 x7_1) != 95) = true := bne_iff_ne.mpr c8
                  by_cases c9 : (bt a0 x7_1) < 97
                  · rw [if_pos c9] at H
                    have c9b0 : decide ((bt a0 x7_1) < 97) = true := decide_eq_true c9
                    clear c9
                    by_cases c10 : (bt a0 x7_1) < 48
                    · rw [if_pos c10] at H
                      have c10b0 : decide ((bt a0 x7_1) < 48) = true := decide_eq_true c10
                      clear c10
                      obtain rfl := Option.some.inj H
                      have p5 : 0 ≤ (x7_1 : Int) := of_decide_eq_true (by first | (with_reducible assumption) | assumption)
                      have q5 : x7_1 < (a0.size : Int) := of_decide_eq_true (by first | (with_reducible assumption) | assumption)
                      have hx5 := bt_at a0 x7_1
                      replace p5 := eq_true p5
                      replace q5 := eq_true q5
                      go_wp2
                      go_ret
                      exact ⟨by first | rfl | (simp; done) | (simp [*]; done), by repeat (first | exact Drawn0.refl _ | apply Drawn0.step)⟩
                    · rw [if_neg c10] at H
                      have c10b0 : decide ((bt a0 x7_1) < 48) = false := decide_eq_false c10
                      clear c10
                      by_cases c11 : (bt a0 x7_1) > 57
                      · rw [if_pos c11] at H
                        have c11b0 : decide (57 < (bt a0 x7_1)) = true := decide_eq_true c11
                        clear c11
                        obtain rfl := Option.some.inj H
                        have p5 : 0 ≤ (x7_1 : Int) := of_decide_eq_true (by first | (with_reducible assumption) | assumption)
                        have q5 : x7_1 < (a0.size : Int) := of_decide_eq_true (by first | (with_reducible assumption) | assumption)
                        have hx5 := bt_at a0 x7_1
                        replace p5 := eq_true p5
                        replace q5 := eq_true q5
                        go_wp2
                        go_ret
                        exact ⟨by first | rfl | (simp; done) | (simp [*]; done), by repeat (first | exact Drawn0.refl _ | apply Drawn0.step)⟩
                      · rw [if_neg c11] at H
                        have c11b0 : decide (57 < (bt a0 x7_1)) = false := decide_eq_false c11
                        clear c11
                        have H' := Aside0.mk H
                        clear H
                        have p5 : 0 ≤ (x7_1 : Int) := of_decide_eq_true (by first | (with_reducible assumption) | assumption)
                        have q5 : x7_1 < (a0.size : Int) := of_decide_eq_true (by first | (with_reducible assumption) | assumption)
                        have hx5 := bt_at a0 x7_1
                        replace p5 := eq_true p5
                        replace q5 := eq_true q5
                        go_wp2
                        go_roundg k1
                        case measure => have := HK1.out; omega
                        case rel => exact ⟨(wrap64 (x7_1 + 1)), (by first | rfl | (simp; done) | (simp [*]; done)), H', ⟨by have := HK1.out; omega⟩, by repeat (first | exact Drawn0.refl _ | apply Drawn0.step)⟩
                  · rw [if_neg c9] at H
                    have c9b0 : decide ((bt a0 x7_1) < 97) = false := decide_eq_false c9
                    clear c9
                    by_cases c12 : (bt a0 x7_1) > 122
                    · rw [if_pos c12] at H
                      have c12b0 : decide (122 < (bt a0 x7_1)) = true := decide_eq_true c12
                      clear c12
                      by_cases c13 : (bt a0 x7_1) < 48
                      · rw [if_pos c13] at H
                        have c13b0 : decide ((bt a0 x7_1) < 48) = true := decide_eq_true c13
                        clear c13
                        obtain rfl := Option.some.inj H
                        have p5 : 0 ≤ (x7_1 : Int) := of_decide_eq_true (by first | (with_reducible assumption) | assumption)
                        have q5 : x7_1 < (a0.size : Int) := of_decide_eq_true (by first | (with_reducible assumption) | assumption)
                        have hx5 := bt_at a0 x7_1
                        replace p5 := eq_true p5
                        replace q5 := eq_true q5
                        go_wp2
                        go_ret
                        exact ⟨by first | rfl | (simp; done) | (simp [*]; done), by repeat (first | exact Drawn0.refl _ | apply Drawn0.step)⟩
                      · rw [if_neg c13] at H
                        have c13b0 : decide ((bt a0 x7_1) < 48) = false := decide_eq_false c13
                        clear c13
                        by_cases c14 : (bt a0 x7_1) > 57
                        · rw [if_pos c14] at H
                          have c14b0 : decide (57 < (bt a0 x7_1)) = true := decide_eq_true c14
                          clear c14
                          obtain rfl := Option.some.inj H
                          have p5 : 0 ≤ (x7_1 : Int) := of_decide_eq_true (by first | (with_reducible assumption) | assumption)
                          have q5 : x7_1 < (a0.size : Int) := of_decide_eq_true (by first | (with_reducible assumption) | assumption)
                          have hx5 := bt_at a0 x7_1
                          replace p5 := eq_true p5
                          replace q5 := eq_true q5
                          go_wp2
                          go_ret
                          exact ⟨by first | rfl | (simp; done) | (simp [*]; done), by repeat (first | exact Drawn0.refl _ | apply Drawn0.step)⟩
                        · rw [if_neg c14] at H
                          have c14b0 : decide (57 < (bt a0 x7_1)) = false := decide_eq_false c14
                          clear c14
                          have H' := Aside0.mk H
                          clear H
                          have p5 : 0 ≤ (x7_1 : Int) := of_decide_eq_true (by first | (with_reducible assumption) | assumption)
                          have q5 : x7_1 < (a0.size : Int) := of_decide_eq_true (by first | (with_reducible assumption) | assumption)
                          have hx5 := bt_at a0 x7_1
                          replace p5 := eq_true p5
                          replace q5 := eq_true q5
                          go_wp2
                          go_roundg k1
                          case measure => have := HK1.out; omega
                          case rel => exact ⟨(wrap64 (x7_1 + 1)), (by first | rfl | (simp; done) | (simp [*]; done)), H', ⟨by have := HK1.out; omega⟩, by repeat (first | exact Drawn0.refl _ | apply Drawn0.step)⟩
                    · rw [if_neg c12] at H
                      have c12b0 : decide (122 < (bt a0 x7_1)) = false := decide_eq_false c12
                      clear c12
                      have H' := Aside0.mk H
                      clear H
                      have p5 : 0 ≤ (x7_1 : Int) := of_decide_eq_true (by first | (with_reducible assumption) | assumption)
                      have q5 : x7_1 < (a0.size : Int) := of_decide_eq_true (by first | (with_reducible assumption) | assumption)
                      have hx5 := bt_at a0 x7_1
                      replace p5 := eq_true p5
                      replace q5 := eq_true q5
                      go_wp2
                      go_roundg k1
                      case measure => have := HK1.out; omega
                      case rel => exact ⟨(wrap64 (x7_1 + 1)), (by first | rfl | (simp; done) | (simp [*]; done)), H', ⟨by have := HK1.out; omega⟩, by repeat (first | exact Drawn0.refl _ | apply Drawn0.step)⟩
          · rw [if_neg c4] at H
            exact absurd H (by simp)
        · rw [if_neg c3] at H
          exact absurd H (by simp)
      · rw [if_neg c2] at H
        have c2b0 : decide (x7_1 < (a0.size : Int)) = false := decide_eq_false c2
        clear c2
        by_cases c15 : a0.toList = ([] : List UInt8)
        · rw [if_pos c15] at H
          have c15b0 : (a0.toList == ([] : List UInt8)) = true := beq_iff_eq.mpr c15
          have c15b1 : (a0.toList != ([] : List UInt8)) = false := bne_eq_false_iff_eq.mpr c15
          clear c15
          obtain rfl := Option.some.inj H
          go_wp2
          go_ret
          exact ⟨by first | rfl | (simp; done) | (simp [*]; done), by repeat (first | exact Drawn0.refl _ | apply Drawn0.step)⟩
        · rw [if_neg c15] at H
          have c15b0 : (a0.toList == ([] : List UInt8)) = false := beq_eq_false_iff_ne.mpr c15
          have c15b1 : (a0.toList != ([] : List UInt8)) = true := bne_iff_ne.mpr c15
          by_cases c16 : (a0.size : Int) ≤ 30
          · rw [if_pos c16] at H
            have c16b0 : decide ((a0.size : Int) ≤ 30) = true := decide_eq_true c16
            have c16b1 : decide (a0.size ≤ 30) = true := decide_eq_true (by omega)
            clear c16
            by_cases c17 : 0 < (a0.size : Int)
            · rw [if_pos c17] at H
              have c17b0 : decide (0 < (a0.size : Int)) = true := decide_eq_true c17
              have c17b1 : decide (0 < a0.size) = true := decide_eq_true (by omega)
              clear c17
              obtain rfl := Option.some.inj H
              have p18 : 0 ≤ (0 : Int) := (by omega)
              have q18 : 0 < a0.size := (by have : (0 : Int) < (a0.size : Int) := of_decide_eq_true (by first | (with_reducible assumption) | assumption); omega)
              have hx18 : ∀ h : 0 < a0.size, ((a0[0]'h).toNat : Int) = bt a0 0 := bt_at a0 0
              clear p18
              have qi18 : (0 < (a0.size : Int)) = True := eq_true (of_decide_eq_true (by first | (with_reducible assumption) | assumption))
              replace q18 := eq_true q18
              go_wp2
              go_ret
              exact ⟨by first | rfl | (simp; done) | (simp [*]; done), by repeat (first | exact Drawn0.refl _ | apply Drawn0.step)⟩
            · rw [if_neg c17] at H
              exact absurd H (by simp)
          · rw [if_neg c16] at H
            have c16b0 : decide ((a0.size : Int) ≤ 30) = false := decide_eq_false c16
            have c16b1 : decide (a0.size ≤ 30) = false := decide_eq_false (by omega)
            clear c16
            obtain rfl := Option.some.inj H
            go_wp2
            go_ret
            exact ⟨by first | rfl | (simp; done) | (simp [*]; done), by repeat (first | exact Drawn0.refl _ | apply Drawn0.step)⟩

end Go.Proofs.YtgmddlbbmlneaaaDoor.PR

namespace Go.Proofs.YtgmddlbbmlneaaaDoor.PR
open Go.RowKit Go.Proofs.YtgmddlbbmlneaaaDoorW.PrintWords Go.Proofs.YtgmddlbbmlneaaaDoorW.PrintLast Go.Proofs.YtgmddlbbmlneaaaDoorW.PrintMore
attribute [local go_sem] max2_int min2_int max_two min_two max_three min_three max_four min_four   -- for this text's walks alone
set_option linter.unusedVariables false
set_option linter.unusedSimpArgs false

/-! ### stringslite_HasPrefix: function 58 -/
def stringslite_HasPrefix.f (a0 : ByteArray) (a1 : ByteArray) : Option (Bool) := if (a0.size : Int) ≥ (a1.size : Int) then (if 0 ≤ (a1.size : Int) then (if (a1.size : Int) ≤ (a0.size : Int) then (some ((a0.extract 0 ((a1.size : Int) : Int).toNat).toList == a1.toList)) else (none)) else (none)) else (some false)
set_option maxHeartbeats 8000000 in
set_option maxRecDepth 100000 in
theorem stringslite_HasPrefix.calls (a0 : ByteArray) (a1 : ByteArray) (r : Bool) (w : World) (h : stringslite_HasPrefix.f a0 a1 = some r) :
    Calls Tryd.prog 58 #[.string a0, .string a1] w fun e w' => e = .returned (.bool r) ∧ Drawn0 w w' := by
  have H : (if (a0.size : Int) ≥ (a1.size : Int) then (if 0 ≤ (a1.size : Int) then (if (a1.size : Int) ≤ (a0.size : Int) then (some ((a0.extract 0 ((a1.size : Int) : Int).toNat).toList == a1.toList)) else (none)) else (none)) else (some false)) = some r := h
  clear h
  by_cases c3 : (a0.size : Int) ≥ (a1.size : Int)
  · rw [if_pos c3] at H
    have c3b0 : decide ((a1.size : Int) ≤ (a0.size : Int)) = true := decide_eq_true c3
    have c3b1 : decide (a1.size ≤ a0.size) = true := decide_eq_true (Int.ofNat_le.mp c3)
    clear c3
    by_cases c4 : 0 ≤ (a1.size : Int)
    · rw [if_pos c4] at H
      have c4b0 := eq_true c4
      have c4b1 : decide (0 ≤ (a1.size : Int)) = true := decide_eq_true c4
      clear c4
      by_cases c5 : (a1.size : Int) ≤ (a0.size : Int)
      · rw [if_pos c5] at H
        have c5b0 := eq_true c5
        have c5b1 : decide ((a1.size : Int) ≤ (a0.size : Int)) = true := decide_eq_true c5
        clear c5
        obtain rfl := Option.some.inj H
        go_enter Tryd.func58, Tryd.ntmps58
        go_wp2
        go_ret
        exact ⟨by first | rfl | (simp; done) | (simp [*]; done), by repeat (first | exact Drawn0.refl _ | apply Drawn0.step)⟩
      · rw [if_neg c5] at H
        exact absurd H (by simp)
    · rw [if_neg c4] at H
      exact absurd H (by simp)
  · rw [if_neg c3] at H
    have c3b0 : decide ((a1.size : Int) ≤ (a0.size : Int)) = false := decide_eq_false c3
    have c3b1 : decide (a1.size ≤ a0.size) = false := decide_eq_false (fun h => c3 (Int.ofNat_le.mpr h))
    clear c3
    obtain rfl := Option.some.inj H
    go_enter Tryd.func58, Tryd.ntmps58
    go_wp2
    go_ret
    exact ⟨by first | rfl | (simp; done) | (simp [*]; done), by repeat (first | exact Drawn0.refl _ | apply Drawn0.step)⟩

/-! ### strings_HasPrefix: function 41 -/
def strings_HasPrefix.f (a0 : ByteArray) (a1 : ByteArray) : Option (Bool) := (stringslite_HasPrefix.f a0 a1).bind fun t101 => (some t101)
set_option maxHeartbeats 8000000 in
set_option maxRecDepth 100000 in
theorem strings_HasPrefix.calls (a0 : ByteArray) (a1 : ByteArray) (r : Bool) (w : World) (h : strings_HasPrefix.f a0 a1 = some r) :
    Calls Tryd.prog 41 #[.string a0, .string a1] w fun e w' => e = .returned (.bool r) ∧ Drawn0 w w' := by
  have H : ((stringslite_HasPrefix.f a0 a1).bind fun t101 => (some t101)) = some r := h
  clear h
  replace H := Option.bind_eq_some_iff.mp H
  obtain ⟨t101, A30, H⟩ := H
  replace H : (some t101) = some r := H
  have A3 := Aside0.mk A30
  clear A30
  obtain rfl := Option.some.inj H
  go_enter Tryd.func41, Tryd.ntmps41
  go_wp2_with (first | ((with_reducible refine gate_callee (f := 58) rfl ?_); refine goesL_ (some 7) rfl rfl Tryd.func58 (by kernel_rfl) rfl #[.string a0, .string a1] rfl (by (try simp only [List.map_toArray, List.map_cons, List.map_nil]); first | done | rfl | (simp only [List.length_drop, List.length_take]; rfl)) ?_; (with_reducible refine (stringslite_HasPrefix.calls a0 a1 t101 _ A3.out).mono ?_); rintro e w' ⟨rfl, ⟨nd, rfl⟩⟩; refine ⟨_, rfl, ?_⟩))
  go_ret
  exact ⟨by first | rfl | (simp; done) | (simp [*]; done), by repeat (first | exact Drawn0.refl _ | apply Drawn0.step)⟩

/-! ### refs_above: function 54 -/
def refs_above.f (a0 : ByteArray) (a1 : ByteArray) : Option (Bool) := if a0.size + 1 ≤ 9223372036854775807 then ((strings_HasPrefix.f a1 (a0 ++ (⟨#[47]⟩ : ByteArray))).bind fun t102 => (some t102)) else (none)
set_option maxHeartbeats 8000000 in
set_option maxRecDepth 100000 in
theorem refs_above.calls (a0 : ByteArray) (a1 : ByteArray) (r : Bool) (w : World) (h : refs_above.f a0 a1 = some r) :
    Calls Tryd.prog 54 #[.string a0, .string a1] w fun e w' => e = .returned (.bool r) ∧ Drawn0 w w' := by
  have H : (if a0.size + 1 ≤ 9223372036854775807 then ((strings_HasPrefix.f a1 (a0 ++ (⟨#[47]⟩ : ByteArray))).bind fun t102 => (some t102)) else (none)) = some r := h
  clear h
  by_cases c3 : a0.size + 1 ≤ 9223372036854775807
  · rw [if_pos c3] at H
    have c3b0 := eq_true c3
    have c3b1 : decide (a0.size + 1 ≤ 9223372036854775807) = true := decide_eq_true c3
    try have c3b2 : (9223372036854775807 < a0.size + 1) = False := eq_false (Nat.not_lt.2 c3)
    replace H := Option.bind_eq_some_iff.mp H
    obtain ⟨t102, A40, H⟩ := H
    replace H : (some t102) = some r := H
    have A4 := Aside0.mk A40
    clear A40
    obtain rfl := Option.some.inj H
    go_enter Tryd.func54, Tryd.ntmps54
    go_wp2_with (first | ((with_reducible refine gate_callee (f := 41) rfl ?_); refine goesL_ (some 8) rfl rfl Tryd.func41 (by kernel_rfl) rfl #[.string a1, .string (a0 ++ (⟨#[47]⟩ : ByteArray))] rfl (by (try simp only [List.map_toArray, List.map_cons, List.map_nil]); first | done | rfl | (simp only [List.length_drop, List.length_take]; rfl)) ?_; (with_reducible refine (strings_HasPrefix.calls a1 (a0 ++ (⟨#[47]⟩ : ByteArray)) t102 _ A4.out).mono ?_); rintro e w' ⟨rfl, ⟨nd, rfl⟩⟩; refine ⟨_, rfl, ?_⟩))
    go_ret
    exact ⟨by first | rfl | (simp; done) | (simp [*]; done), by repeat (first | exact Drawn0.refl _ | apply Drawn0.step)⟩
  · rw [if_neg c3] at H
    exact absurd H (by simp)

end Go.Proofs.YtgmddlbbmlneaaaDoor.PR

/- What the printed name tests answer, in plain words (no program in sight): digest.Named, root.Named, refs.letters; and strings.HasPrefix, refs.above. -/
namespace Go.Proofs.YtgmddlbbmlneaaaDoor.PR
open Go.RowKit Go.Proofs.YtgmddlbbmlneaaaDoorW.PrintWords Go.Proofs.YtgmddlbbmlneaaaDoorW.PrintLast Go.Proofs.YtgmddlbbmlneaaaDoorW.PrintMore
set_option linter.unusedVariables false

theorem wrap_nat (i n : Nat) (h : i < n) (hn : n ≤ 9223372036854775807) : wrap64 ((i : Int) + 1) = ((i + 1 : Nat) : Int) := by
  unfold wrap64
  omega

theorem drop_bt (s : ByteArray) (i : Nat) (h : i < s.size) : ∃ c : UInt8, s.data.toList.drop i = c :: s.data.toList.drop (i + 1) ∧ bt s (i : Int) = (c.toNat : Int) := by
  have h' : i < s.data.toList.length := by simpa using h
  refine ⟨s.data.toList[i], List.drop_eq_getElem_cons h', ?_⟩
  simp [bt, h]
  rfl

theorem isHex_iff (c : UInt8) : isHex c = true ↔ (48 ≤ (c.toNat : Int) ∧ (c.toNat : Int) ≤ 57) ∨ (97 ≤ (c.toNat : Int) ∧ (c.toNat : Int) ≤ 102) := by
  simp only [isHex, Bool.or_eq_true, Bool.and_eq_true, decide_eq_true_eq, UInt8.le_iff_toNat_le, UInt8.toNat_ofNat]
  omega

theorem digest_Named_l0 (s : ByteArray) (hs : s.size ≤ 9223372036854775807) : ∀ (d k i : Nat), i + d = s.size → d < k →
    digest_Named.l0 k s (s.size : Int) (i : Int) = some ((s.data.toList.drop i).all isHex && s.size == 64) := by
  intro d
  induction d with
  | zero =>
    intro k i hi hk
    obtain ⟨k, rfl⟩ : ∃ m, k = m + 1 := ⟨k - 1, by omega⟩
    have hl : s.data.toList.length ≤ i := by rw [data_length]; omega
    rw [digest_Named.l0, if_neg (by omega), List.drop_of_length_le hl, List.all_nil, Bool.true_and]
    congr 1
    rw [Bool.eq_iff_iff, beq_iff_eq, beq_iff_eq]
    omega
  | succ d ih =>
    intro k i hi hk
    obtain ⟨k, rfl⟩ : ∃ m, k = m + 1 := ⟨k - 1, by omega⟩
    have hlt : i < s.size := by omega
    obtain ⟨c, hc, hb⟩ := drop_bt s i hlt
    have ih' := ih k (i + 1) (by omega) (by omega)
    rw [digest_Named.l0, if_pos (by omega), if_pos (by omega), if_pos (by omega), wrap_nat i _ hlt hs, hb, ih', hc, List.all_cons]
    have hh := isHex_iff c
    cases hx : isHex c with
    | true =>
      have := hh.1 hx
      rcases this with h | h
      · rw [if_neg (by omega), if_neg (by omega)]; simp
      · rw [if_neg (by omega), if_pos (by omega), if_neg (by omega), if_neg (by omega)]; simp
    | false =>
      have hn : ¬ ((48 ≤ (c.toNat : Int) ∧ (c.toNat : Int) ≤ 57) ∨ (97 ≤ (c.toNat : Int) ∧ (c.toNat : Int) ≤ 102)) := fun h => by rw [hh.2 h] at hx; cases hx
      have hcr : 0 ≤ (c.toNat : Int) := by omega
      by_cases h1 : (c.toNat : Int) < 48
      · rw [if_pos h1, if_pos (by omega)]; simp
      · rw [if_neg h1, if_pos (by omega)]
        by_cases h2 : (c.toNat : Int) < 97
        · rw [if_pos h2]; simp
        · rw [if_neg h2, if_pos (by omega)]; simp

theorem digest_Named_f (s : ByteArray) (hs : s.size ≤ 9223372036854775807) : digest_Named.f (s.size + 1) s = some (hexName s) := by
  have := digest_Named_l0 s hs s.size (s.size + 1) 0 (by omega) (by omega)
  rw [digest_Named.f, show (0 : Int) = ((0 : Nat) : Int) from rfl, this]
  rfl

theorem hexName_calls (s : ByteArray) (w : World) (hs : s.size ≤ 9223372036854775807) :
    Calls Tryd.prog 42 #[.string s] w fun e w' => e = .returned (.bool (hexName s)) ∧ Drawn0 w w' :=
  digest_Named.calls _ s _ w (digest_Named_f s hs)

theorem u8_eq (c d : UInt8) : (c == d) = decide ((c.toNat : Int) = (d.toNat : Int)) := by
  rw [Bool.eq_iff_iff, beq_iff_eq, decide_eq_true_eq, Int.natCast_inj]
  exact ⟨fun h => by rw [h], fun h => UInt8.toNat_inj.1 h⟩
theorem letOk_iff (c : UInt8) : letOk c = true ↔ (c.toNat : Int) = 46 ∨ (c.toNat : Int) = 45 ∨ (c.toNat : Int) = 95 ∨ (97 ≤ (c.toNat : Int) ∧ (c.toNat : Int) ≤ 122) ∨ (48 ≤ (c.toNat : Int) ∧ (c.toNat : Int) ≤ 57) := by
  simp only [letOk, u8_eq, Bool.or_eq_true, Bool.and_eq_true, decide_eq_true_eq, UInt8.le_iff_toNat_le, UInt8.toNat_ofNat]
  omega
theorem forkOk_iff (c : UInt8) : forkOk c = true ↔ (c.toNat : Int) = 45 ∨ (97 ≤ (c.toNat : Int) ∧ (c.toNat : Int) ≤ 122) ∨ (48 ≤ (c.toNat : Int) ∧ (c.toNat : Int) ≤ 57) := by
  simp only [forkOk, u8_eq, Bool.or_eq_true, Bool.and_eq_true, decide_eq_true_eq, UInt8.le_iff_toNat_le, UInt8.toNat_ofNat]
  omega

theorem toList_data (s : ByteArray) : s.toList = s.data.toList := Lib.toList_data s

theorem refs_letters_l0 (s : ByteArray) (hs : s.size ≤ 9223372036854775807) : ∀ (d k i : Nat), i + d = s.size → d < k →
    refs_letters.l0 k s (s.size : Int) (i : Int) = some ((s.data.toList.drop i).all letOk && !s.data.toList.isEmpty && decide (s.data.toList.length ≤ 30) && s.data.toList.head? != some 46) := by
  intro d
  induction d with
  | zero =>
    intro k i hi hk
    obtain ⟨k, rfl⟩ : ∃ m, k = m + 1 := ⟨k - 1, by omega⟩
    have hl : s.data.toList.length ≤ i := by rw [data_length]; omega
    rw [refs_letters.l0, if_neg (by omega), List.drop_of_length_le hl, List.all_nil, Bool.true_and, toList_data]
    by_cases h0 : s.data.toList = []
    · rw [if_pos h0, h0]; rfl
    · rw [if_neg h0]
      have he : s.data.toList.isEmpty = false := by cases hx : s.data.toList with
        | nil => exact absurd hx h0
        | cons a b => rfl
      have hp : 0 < s.size := by rw [← data_length]; exact List.length_pos_iff.2 h0
      rw [he]
      by_cases h30 : (s.size : Int) ≤ 30
      · rw [if_pos h30, if_pos (by omega)]
        obtain ⟨c, hc, hb⟩ := drop_bt s 0 hp
        rw [List.drop_zero] at hc
        have hb' : bt s 0 = (c.toNat : Int) := hb
        have hlen : s.data.toList.length ≤ 30 := by rw [data_length]; omega
        rw [hb', decide_eq_true hlen, hc, List.head?_cons]
        congr 1
        have := u8_eq c 46
        simp only [Bool.not_false, Bool.true_and]
        have e : (some c != some (46 : UInt8)) = !(c == 46) := rfl
        rw [e, this]
        have e2 : (((c.toNat : Int) != 46)) = !decide ((c.toNat : Int) = ((46 : UInt8).toNat : Int)) := by
          have : ((46 : UInt8).toNat : Int) = 46 := rfl
          rw [this]; rfl
        exact e2
      · have hlen : ¬ s.data.toList.length ≤ 30 := by rw [data_length]; omega
        rw [if_neg h30, decide_eq_false hlen]; rfl
  | succ d ih =>
    intro k i hi hk
    obtain ⟨k, rfl⟩ : ∃ m, k = m + 1 := ⟨k - 1, by omega⟩
    have hlt : i < s.size := by omega
    obtain ⟨c, hc, hb⟩ := drop_bt s i hlt
    have ih' := ih k (i + 1) (by omega) (by omega)
    rw [refs_letters.l0, if_pos (by omega), if_pos (by omega), if_pos (by omega), wrap_nat i _ hlt hs, hb, ih', hc, List.all_cons]
    have hh := letOk_iff c
    cases hx : letOk c with
    | true =>
      rcases hh.1 hx with h | h | h | h | h <;> repeat (first | rw [if_pos (by omega)] | rw [if_neg (by omega)])
      all_goals simp
    | false =>
      have hn : ¬ ((c.toNat : Int) = 46 ∨ (c.toNat : Int) = 45 ∨ (c.toNat : Int) = 95 ∨ (97 ≤ (c.toNat : Int) ∧ (c.toNat : Int) ≤ 122) ∨ (48 ≤ (c.toNat : Int) ∧ (c.toNat : Int) ≤ 57)) := fun h => by rw [hh.2 h] at hx; cases hx
      rw [if_neg (by omega), if_neg (by omega), if_neg (by omega)]
      by_cases h1 : (c.toNat : Int) < 97
      · rw [if_pos h1]
        by_cases h2 : (c.toNat : Int) < 48
        · rw [if_pos h2]; simp
        · rw [if_neg h2, if_pos (by omega)]; simp
      · rw [if_neg h1, if_pos (by omega)]
        by_cases h2 : (c.toNat : Int) < 48
        · rw [if_pos h2]; simp
        · rw [if_neg h2, if_pos (by omega)]; simp

theorem letters_calls (s : ByteArray) (w : World) (hs : s.size ≤ 9223372036854775807) :
    Calls Tryd.prog 57 #[.string s] w fun e w' => e = .returned (.bool (lettersL s.data.toList)) ∧ Drawn0 w w' :=
  refs_letters.calls (s.size + 1) s _ w (by
    have := refs_letters_l0 s hs s.size (s.size + 1) 0 (by omega) (by omega)
    rw [refs_letters.f, show (0 : Int) = ((0 : Nat) : Int) from rfl, this]
    rfl)

theorem root_Named_l0 (s : ByteArray) (hs : s.size ≤ 9223372036854775807) : ∀ (d k i : Nat), i + d = s.size → d < k →
    root_Named.l0 k s (s.size : Int) (i : Int) = some ((s.data.toList.drop i).all forkOk && !s.data.toList.isEmpty && decide (s.size ≤ 20)) := by
  intro d
  induction d with
  | zero =>
    intro k i hi hk
    obtain ⟨k, rfl⟩ : ∃ m, k = m + 1 := ⟨k - 1, by omega⟩
    have hl : s.data.toList.length ≤ i := by rw [data_length]; omega
    rw [root_Named.l0, if_neg (by omega), List.drop_of_length_le hl, List.all_nil, Bool.true_and, toList_data]
    by_cases h0 : s.data.toList = []
    · rw [if_pos h0, h0]; rfl
    · rw [if_neg h0]
      have he : s.data.toList.isEmpty = false := by cases hx : s.data.toList with
        | nil => exact absurd hx h0
        | cons a b => rfl
      rw [he]
      congr 1
      simp only [Bool.not_false, Bool.true_and]
      exact decide_eq_decide.2 (by omega)
  | succ d ih =>
    intro k i hi hk
    obtain ⟨k, rfl⟩ : ∃ m, k = m + 1 := ⟨k - 1, by omega⟩
    have hlt : i < s.size := by omega
    obtain ⟨c, hc, hb⟩ := drop_bt s i hlt
    have ih' := ih k (i + 1) (by omega) (by omega)
    rw [root_Named.l0, if_pos (by omega), if_pos (by omega), if_pos (by omega), wrap_nat i _ hlt hs, hb, ih', hc, List.all_cons]
    have hh := forkOk_iff c
    cases hx : forkOk c with
    | true =>
      rcases hh.1 hx with h | h | h <;> repeat (first | rw [if_pos (by omega)] | rw [if_neg (by omega)])
      all_goals simp
    | false =>
      have hn : ¬ ((c.toNat : Int) = 45 ∨ (97 ≤ (c.toNat : Int) ∧ (c.toNat : Int) ≤ 122) ∨ (48 ≤ (c.toNat : Int) ∧ (c.toNat : Int) ≤ 57)) := fun h => by rw [hh.2 h] at hx; cases hx
      rw [if_neg (by omega)]
      by_cases h1 : (c.toNat : Int) < 97
      · rw [if_pos h1]
        by_cases h2 : (c.toNat : Int) < 48
        · rw [if_pos h2]; simp
        · rw [if_neg h2, if_pos (by omega)]; simp
      · rw [if_neg h1, if_pos (by omega)]
        by_cases h2 : (c.toNat : Int) < 48
        · rw [if_pos h2]; simp
        · rw [if_neg h2, if_pos (by omega)]; simp
theorem root_Named_f (s : ByteArray) (hs : s.size ≤ 9223372036854775807) : root_Named.f (s.size + 1) s = some (forkName s) := by
  have := root_Named_l0 s hs s.size (s.size + 1) 0 (by omega) (by omega)
  rw [root_Named.f, show (0 : Int) = ((0 : Nat) : Int) from rfl, this]
  rfl
theorem forkName_calls (s : ByteArray) (w : World) (hs : s.size ≤ 9223372036854775807) :
    Calls Tryd.prog 15 #[.string s] w fun e w' => e = .returned (.bool (forkName s)) ∧ Drawn0 w w' :=
  root_Named.calls _ s _ w (root_Named_f s hs)

theorem isPrefixOf_take (p l : List UInt8) : p.isPrefixOf l = (decide (p.length ≤ l.length) && (l.take p.length == p)) := by
  rw [Bool.eq_iff_iff, List.isPrefixOf_iff_prefix, Bool.and_eq_true, decide_eq_true_eq, beq_iff_eq]
  constructor
  · intro h
    exact ⟨h.length_le, (List.prefix_iff_eq_take.1 h).symm⟩
  · rintro ⟨_, h⟩
    rw [← h]; exact List.take_prefix _ _
theorem prefix_f (a b : ByteArray) : strings_HasPrefix.f b a = some (a.data.toList.isPrefixOf b.data.toList) := by
  rw [strings_HasPrefix.f, stringslite_HasPrefix.f, isPrefixOf_take, data_length, data_length]
  by_cases h : a.size ≤ b.size
  · rw [if_pos (by omega), if_pos (by omega), if_pos (by omega), decide_eq_true h, Bool.true_and, Int.toNat_natCast, toList_data, toList_data]
    have : (b.extract 0 a.size).data.toList = b.data.toList.take a.size := Lib.extract_from_zero b a.size
    first | (rw [this]; rfl) | (simp only [Option.bind_some]; rw [this])
  · rw [if_neg (by omega), decide_eq_false h, Bool.false_and]; rfl
theorem above_f (a b : ByteArray) (h : a.size + 1 ≤ 9223372036854775807) : refs_above.f a b = some (aboveB a b) := by
  rw [refs_above.f]
  first
    | rw [if_pos (by simpa using h), prefix_f]
    | rw [if_pos h, prefix_f]
  simp [aboveB]
theorem above_calls (a b : ByteArray) (w : World) (h : a.size + 1 ≤ 9223372036854775807) :
    Calls Tryd.prog 54 #[.string a, .string b] w fun e w' => e = .returned (.bool (aboveB a b)) ∧ Drawn0 w w' :=
  refs_above.calls a b _ w (above_f a b h)
end Go.Proofs.YtgmddlbbmlneaaaDoor.PR

/- strings.Split at a separator of one byte, in plain words: the pieces between those bytes. -/
namespace Go.Proofs.YtgmddlbbmlneaaaDoor.PR
open Go.RowKit

theorem splitL_ne (c : UInt8) : ∀ l, splitL c l ≠ []
  | [] => by simp [splitL]
  | x :: xs => by
    unfold splitL
    split
    · simp
    · split <;> simp

theorem splitK_one (c : UInt8) : ∀ l : List UInt8, Lib.splitK [c] 0 (l.count c) l = splitL c l
  | [] => by simp [Lib.splitK, splitL]
  | x :: xs => by
    have ih := splitK_one c xs
    by_cases e : x = c
    · subst e
      rw [List.count_cons_self, Lib.splitK, splitL, if_pos rfl]
      have hi : Lib.index (x :: xs) [x] = 0 := by simp [Lib.index]
      rw [hi]
      simp [ih]
    · rw [List.count_cons_of_ne e, splitL, if_neg e, ← ih]
      have hp : [c].isPrefixOf (x :: xs) = false := by simp [List.isPrefixOf]; exact fun h => e h.symm
      cases hk : xs.count c with
      | zero => rw [Lib.splitK, Lib.splitK]
      | succ j =>
        rw [Lib.splitK, Lib.splitK]
        have hidx : Lib.index (x :: xs) [c] = if Lib.index xs [c] == -1 then -1 else Lib.index xs [c] + 1 := by
          rw [Lib.index, hp]; rfl
        have hge := Lib.index_ge xs [c]
        by_cases hm : Lib.index xs [c] = -1
        · rw [hidx, hm]; rfl
        · have hb : (Lib.index xs [c] == -1) = false := by simpa using hm
          have hb2 : (Lib.index xs [c] + 1 == -1) = false := by
            have : Lib.index xs [c] + 1 ≠ -1 := by omega
            simpa using this
          rw [hidx]
          simp only [hb, if_false, Bool.false_eq_true, hb2]
          have h1 : (Lib.index xs [c] + 1).toNat = (Lib.index xs [c]).toNat + 1 := by omega
          simp only [h1, Nat.add_zero, List.take_succ_cons, List.length_cons, List.length_nil]
          rw [show (Lib.index xs [c]).toNat + 1 + (0 + 1) = ((Lib.index xs [c]).toNat + (0 + 1)) + 1 by omega, List.drop_succ_cons]

def splitS (c : UInt8) (s : ByteArray) : List ByteArray := (splitL c s.data.toList).map ofL
theorem ofL_data (s : ByteArray) : ofL s.data.toList = s := by cases s; simp [ofL]
theorem data_ofL (l : List UInt8) : (ofL l).data.toList = l := by simp [ofL]
theorem size_ofL (l : List UInt8) : (ofL l).size = l.length := by simp [ofL, ByteArray.size]
theorem map_ofL_data (l : List ByteArray) : (l.map (·.data.toList)).map ofL = l := by
  rw [List.map_map]
  conv => rhs; rw [← List.map_id l]
  apply List.map_congr_left
  intro x _
  exact ofL_data x

theorem splitS_data (c : UInt8) (s : ByteArray) : (splitS c s).map (·.data.toList) = splitL c s.data.toList := by
  rw [splitS, List.map_map]
  conv => rhs; rw [← List.map_id (splitL c s.data.toList)]
  apply List.map_congr_left
  intro x _
  exact data_ofL x
theorem splitB_one (c : UInt8) (s : ByteArray) : Lib.splitB ⟨#[c]⟩ 0 (Lib.countB s ⟨#[c]⟩) s = splitS c s := by
  have h := Lib.splitB_data ⟨#[c]⟩ 0 (Lib.countB s ⟨#[c]⟩) s
  have hc : Lib.countB s ⟨#[c]⟩ = s.data.toList.count c := Lib.count_one c s.data.toList
  rw [hc] at h ⊢
  have h2 : (Lib.splitB ⟨#[c]⟩ 0 (s.data.toList.count c) s).map (·.data.toList) = splitL c s.data.toList := h.trans (splitK_one c _)
  rw [splitS, ← h2, map_ofL_data]
theorem splitS_length (c : UInt8) (s : ByteArray) : (splitS c s).length = Lib.countB s ⟨#[c]⟩ + 1 := by
  rw [← splitB_one, Lib.splitB_all ⟨#[c]⟩ (Nat.le_refl 1) 0 _ s rfl]
end Go.Proofs.YtgmddlbbmlneaaaDoor.PR

/- slices.IndexFunc and slices.ContainsFunc at texts, at refs and at forks, with any predicate that answers of each element: where the first one is, whether there is one. -/
namespace Go.Proofs.YtgmddlbbmlneaaaDoor.PR
open Go.RowKit Go.Shelf Go.Proofs.YtgmddlbbmlneaaaDoorW.PrintWords Go.Proofs.YtgmddlbbmlneaaaDoorW.PrintLast Go.Proofs.YtgmddlbbmlneaaaDoorW.PrintMore
set_option linter.unusedVariables false

def idxP {α : Type} (p : α → Bool) : List α → Nat → Int
  | [], _ => -1
  | x :: l, i => if p x then (i : Int) else idxP p l (i + 1)
theorem idxP_nonneg {α : Type} (p : α → Bool) : ∀ (l : List α) (i : Nat), decide (0 ≤ idxP p l i) = l.any p
  | [], i => by simp [idxP]
  | x :: l, i => by
    rw [idxP, List.any_cons]
    cases hx : p x with
    | true => simp
    | false => simpa using idxP_nonneg p l (i + 1)

def PredS (g : Nat) (lb : Array Value) (p : ByteArray → Bool) (l : List ByteArray) (w : World) : Prop :=
  ∀ (W : World) (x : ByteArray), x ∈ l → Below w.heap.size w W → Calls Tryd.prog g (#[.string x] ++ lb) W fun e w' => e = .returned (.bool (p x)) ∧ Below W.heap.size W w'

set_option maxHeartbeats 2000000 in
set_option maxRecDepth 100000 in
theorem indexFunc_strings (p : ByteArray → Bool) (g : Nat) (lb : Array Value) (eg : ∀ args w, (callFunc g args).run Tryd.prog w = .ok (.enter g args) w) (A : Option Addr) (c : Nat) (l : List ByteArray) (w : World)
    (hp : PredS g lb p l w) (hr : Kd.C Kd.string w A l.length l) (hbig : l.length ≤ 9223372036854775807) :
    Calls Tryd.prog 66 #[.slice A l.length c, .func (.func g) #[] lb] w fun e w' => e = .returned (.int .i64 (idxP p l 0)) ∧ Below w.heap.size w w' := by
  have HP := Aside0.mk hp
  have HR := Aside0.mk hr
  clear hp hr
  go_enter Tryd.func66, Tryd.ntmps66
  go_wp2
  go_loopw [5, 8] (fun _ i wr => ∃ k : Nat, k ≤ l.length ∧ i = .int .i64 k ∧ Aside0 (idxP p (l.drop k) k = idxP p l 0) ∧ Below w.heap.size w wr) (fun _ i _ => l.length - (intOf i).toNat)
  case atStart => exact ⟨0, Nat.zero_le _, rfl, ⟨rfl⟩, Below.refl _ _⟩
  case round =>
    obtain ⟨k, hk, rfl, HI, hb⟩ := hrel
    by_cases hlt : k < l.length
    · obtain ⟨ad, e, hx⟩ := Kd.at_string (Kd.C_below HR.out hb) (k : Int) (by omega) (by omega)
      cases e
      have hm : l[k] ∈ l := List.getElem_mem hlt
      have hi : idxP p (l.drop k) k = if p l[k] then (k : Int) else idxP p (l.drop (k + 1)) (k + 1) := by rw [List.drop_eq_getElem_cons hlt, idxP]
      rw [HI.out] at hi
      rw [show rdOf ByteArray.empty l (k : Int) = l[k] by simp [rdOf, List.getD, hlt], Int.toNat_natCast] at hx
      have hcall := HP.out _ _ hm hb
      clear hm
      generalize l[k] = x at hx hi hcall
      cases hq : p x with
      | true =>
        rw [hq] at hcall hi
        have HI' := Aside0.mk hi
        clear hi hq
        go_wp2_with (go_at_fn g; refine hcall.mono ?_; rintro e w' ⟨rfl, hb'⟩)
        go_ret
        exact ⟨by rw [HI'.out]; rfl, below_step hb hb'⟩
      | false =>
        rw [hq] at hcall hi
        have HI' := Aside0.mk hi
        clear hi hq
        go_wp2_with (go_at_fn g; refine hcall.mono ?_; rintro e w' ⟨rfl, hb'⟩)
        go_roundw
        case rel => exact ⟨k + 1, by omega, by go_num, ⟨by rw [HI'.out]; rfl⟩, below_step hb hb'⟩
        case measure => simp [intOf]; omega
    · have hkl : k = l.length := by omega
      have hi := HI.out
      rw [hkl, List.drop_length, idxP] at hi
      have HI' := Aside0.mk hi
      clear hi HI
      go_wp2
      go_ret
      exact ⟨by rw [← HI'.out]; rfl, hb⟩

set_option maxRecDepth 100000 in
theorem containsFunc_strings (p : ByteArray → Bool) (g : Nat) (lb : Array Value) (eg : ∀ args w, (callFunc g args).run Tryd.prog w = .ok (.enter g args) w) (A : Option Addr) (c : Nat) (l : List ByteArray) (w : World)
    (hp : PredS g lb p l w) (hr : Kd.C Kd.string w A l.length l) (hbig : l.length ≤ 9223372036854775807) :
    Calls Tryd.prog 55 #[.slice A l.length c, .func (.func g) #[] lb] w fun e w' => e = .returned (.bool (l.any p)) ∧ Below w.heap.size w w' := by
  rw [← idxP_nonneg p l 0]
  have HP := Aside0.mk hp
  have HR := Aside0.mk hr
  clear hp hr
  go_enter Tryd.func55, Tryd.ntmps55
  go_wp2_with (go_at_call 66; refine (indexFunc_strings p g lb eg _ _ l _ HP.out HR.out hbig).mono ?_; rintro e w' ⟨rfl, hb'⟩)
  go_ret
  exact ⟨rfl, hb'⟩
/-! structs -/
def PredT76 (g : Nat) (lb : Array Value) (p : S76 → Bool) (l : List S76) (w : World) : Prop :=
  ∀ (W : World) (x : S76) , x ∈ l → Below w.heap.size w W → Calls Tryd.prog g (#[.agg #[.string x.f0, .string x.f1]] ++ lb) W fun e w' => e = .returned (.bool (p x)) ∧ Below W.heap.size W w'

set_option maxHeartbeats 2000000 in
set_option maxRecDepth 100000 in
theorem indexFunc_T76 (p : S76 → Bool) (g : Nat) (lb : Array Value) (eg : ∀ args w, (callFunc g args).run Tryd.prog w = .ok (.enter g args) w) (A : Option Addr) (c : Nat) (l : List S76) (w : World)
    (hp : PredT76 g lb p l w) (hr : Kd.C k76 w A l.length l) (hbig : l.length ≤ 9223372036854775807) :
    Calls Tryd.prog 65 #[.slice A l.length c, .func (.func g) #[] lb] w fun e w' => e = .returned (.int .i64 (idxP p l 0)) ∧ Below w.heap.size w w' := by
  have HP := Aside0.mk hp
  have HR := Aside0.mk hr
  clear hp hr
  go_enter Tryd.func65, Tryd.ntmps65
  go_wp2
  go_loopw [5, 8] (fun _ i wr => ∃ k : Nat, k ≤ l.length ∧ i = .int .i64 k ∧ Aside0 (idxP p (l.drop k) k = idxP p l 0) ∧ Below w.heap.size w wr) (fun _ i _ => l.length - (intOf i).toNat)
  case atStart => exact ⟨0, Nat.zero_le _, rfl, ⟨rfl⟩, Below.refl _ _⟩
  case round =>
    obtain ⟨k, hk, rfl, HI, hb⟩ := hrel
    by_cases hlt : k < l.length
    · obtain ⟨ad, e, hx0, hx1⟩ := at_T76 (Kd.C_below HR.out hb) (k : Int) (by omega) (by omega)
      cases e
      have hm : l[k] ∈ l := List.getElem_mem hlt
      have hi : idxP p (l.drop k) k = if p l[k] then (k : Int) else idxP p (l.drop (k + 1)) (k + 1) := by rw [List.drop_eq_getElem_cons hlt, idxP]
      rw [HI.out] at hi
      have hrd : rd_T76 l (k : Int) = l[k] := by simp [rd_T76, List.getD, hlt]
      simp only [hrd, Int.toNat_natCast] at hx0 hx1
      have hcall := HP.out wr l[k] hm hb
      clear hm hrd
      generalize l[k] = x at hx0 hx1 hi hcall
      cases hq : p x with
      | true =>
        rw [hq] at hcall hi
        have HI' := Aside0.mk hi
        clear hi hq
        go_wp2_with (go_at_fn g; refine hcall.mono ?_; rintro e w' ⟨rfl, hb'⟩)
        go_ret
        exact ⟨by rw [HI'.out]; rfl, below_step hb hb'⟩
      | false =>
        rw [hq] at hcall hi
        have HI' := Aside0.mk hi
        clear hi hq
        go_wp2_with (go_at_fn g; refine hcall.mono ?_; rintro e w' ⟨rfl, hb'⟩)
        go_roundw
        case rel => exact ⟨k + 1, by omega, by go_num, ⟨by rw [HI'.out]; rfl⟩, below_step hb hb'⟩
        case measure => simp [intOf]; omega
    · have hkl : k = l.length := by omega
      have hi := HI.out
      rw [hkl, List.drop_length, idxP] at hi
      have HI' := Aside0.mk hi
      clear hi HI
      go_wp2
      go_ret
      exact ⟨by rw [← HI'.out]; rfl, hb⟩

set_option maxRecDepth 100000 in
theorem containsFunc_T76 (p : S76 → Bool) (g : Nat) (lb : Array Value) (eg : ∀ args w, (callFunc g args).run Tryd.prog w = .ok (.enter g args) w) (A : Option Addr) (c : Nat) (l : List S76) (w : World)
    (hp : PredT76 g lb p l w) (hr : Kd.C k76 w A l.length l) (hbig : l.length ≤ 9223372036854775807) :
    Calls Tryd.prog 52 #[.slice A l.length c, .func (.func g) #[] lb] w fun e w' => e = .returned (.bool (l.any p)) ∧ Below w.heap.size w w' := by
  rw [← idxP_nonneg p l 0]
  have HP := Aside0.mk hp
  have HR := Aside0.mk hr
  clear hp hr
  go_enter Tryd.func52, Tryd.ntmps52
  go_wp2_with (go_at_call 65; refine (indexFunc_T76 p g lb eg _ _ l _ HP.out HR.out hbig).mono ?_; rintro e w' ⟨rfl, hb'⟩)
  go_ret
  exact ⟨rfl, hb'⟩

def PredT40 (g : Nat) (lb : Array Value) (p : S40 → Bool) (l : List S40) (w : World) : Prop :=
  ∀ (W : World) (x : S40) (A3 : Option Addr) (c3 : Nat) (A4 : Option Addr) (c4 : Nat) , x ∈ l → Below w.heap.size w W → Calls Tryd.prog g (#[.agg #[.string x.f0, .bool x.f1, .string x.f2, .slice A3 x.f3.length c3, .slice A4 x.f4.length c4]] ++ lb) W fun e w' => e = .returned (.bool (p x)) ∧ Below W.heap.size W w'

set_option maxHeartbeats 2000000 in
set_option maxRecDepth 100000 in
theorem indexFunc_T40 (p : S40 → Bool) (g : Nat) (lb : Array Value) (eg : ∀ args w, (callFunc g args).run Tryd.prog w = .ok (.enter g args) w) (A : Option Addr) (c : Nat) (l : List S40) (w : World)
    (hp : PredT40 g lb p l w) (hr : Kd.C k40 w A l.length l) (hbig : l.length ≤ 9223372036854775807) :
    Calls Tryd.prog 34 #[.slice A l.length c, .func (.func g) #[] lb] w fun e w' => e = .returned (.int .i64 (idxP p l 0)) ∧ Below w.heap.size w w' := by
  have HP := Aside0.mk hp
  have HR := Aside0.mk hr
  clear hp hr
  go_enter Tryd.func34, Tryd.ntmps34
  go_wp2
  go_loopw [5, 8] (fun _ i wr => ∃ k : Nat, k ≤ l.length ∧ i = .int .i64 k ∧ Aside0 (idxP p (l.drop k) k = idxP p l 0) ∧ Below w.heap.size w wr) (fun _ i _ => l.length - (intOf i).toNat)
  case atStart => exact ⟨0, Nat.zero_le _, rfl, ⟨rfl⟩, Below.refl _ _⟩
  case round =>
    obtain ⟨k, hk, rfl, HI, hb⟩ := hrel
    by_cases hlt : k < l.length
    · obtain ⟨ad, A3, c3, A4, c4, e, hx0, hx1, hx2, hx3, hx4, hl3, hi3, hl4, hi4⟩ := at_T40 (Kd.C_below HR.out hb) (k : Int) (by omega) (by omega)
      cases e
      have hm : l[k] ∈ l := List.getElem_mem hlt
      have hi : idxP p (l.drop k) k = if p l[k] then (k : Int) else idxP p (l.drop (k + 1)) (k + 1) := by rw [List.drop_eq_getElem_cons hlt, idxP]
      rw [HI.out] at hi
      have hrd : rd_T40 l (k : Int) = l[k] := by simp [rd_T40, List.getD, hlt]
      simp only [hrd, Int.toNat_natCast] at hx0 hx1 hx2 hx3 hx4
      have hcall := HP.out wr l[k] A3 c3 A4 c4 hm hb
      clear hm hrd
      generalize l[k] = x at hx0 hx1 hx2 hx3 hx4 hi hcall
      cases hq : p x with
      | true =>
        rw [hq] at hcall hi
        have HI' := Aside0.mk hi
        clear hi hq
        go_wp2_with (go_at_fn g; refine hcall.mono ?_; rintro e w' ⟨rfl, hb'⟩)
        go_ret
        exact ⟨by rw [HI'.out]; rfl, below_step hb hb'⟩
      | false =>
        rw [hq] at hcall hi
        have HI' := Aside0.mk hi
        clear hi hq
        go_wp2_with (go_at_fn g; refine hcall.mono ?_; rintro e w' ⟨rfl, hb'⟩)
        go_roundw
        case rel => exact ⟨k + 1, by omega, by go_num, ⟨by rw [HI'.out]; rfl⟩, below_step hb hb'⟩
        case measure => simp [intOf]; omega
    · have hkl : k = l.length := by omega
      have hi := HI.out
      rw [hkl, List.drop_length, idxP] at hi
      have HI' := Aside0.mk hi
      clear hi HI
      go_wp2
      go_ret
      exact ⟨by rw [← HI'.out]; rfl, hb⟩

end Go.Proofs.YtgmddlbbmlneaaaDoor.PR

/-
  DERIVED: THE SHELF's CONTRACTS AT THIS DUMP, IN PLAIN WORDS (tools/lay-plain.mjs out of 'TrydShelf.lean', which tools/lay-shelf.mjs wrote): THE SAME DECLARATIONS UNDER THE SAME NAMES: 'import', 'namespace', 'open', 'def', 'theorem' AND NOTHING ELSE: no command of the shelf's: FOR A HAND-IN. Each laying: the table of numbers ('.._ren') and one theorem, a field a fact of the dump's own or the kernel's comparison; each contract: ONE APPLICATION.
-/
namespace Go.Proofs
open Go.Shelf
def Tryd.lays169_ren : Go.Shelf.Ren := ⟨fun | 169 => 23 | n => n, fun | 70 => 46 | 9 => 9 | 0 => 0 | 72 => 48 | 37 => 26 | 127 => 78 | 3 => 3 | 5 => 5 | n => n, fun | n => n⟩
theorem Tryd.lays169 : Go.Proofs.Lays.n169 Tryd.prog Tryd.lays169_ren := {
  mixed := by kernel_rfl
  f169 := Tryd.func23.trans (congrArg some (by kernel_rfl))
  t0 := Tryd.underlying0
  a0 := Tryd.isAgg0
  z0 := Tryd.sizeOf0
  v0 := Tryd.zeroValue0
  t3 := Tryd.underlying3
  a3 := Tryd.isAgg3
  z3 := Tryd.sizeOf3
  v3 := Tryd.zeroValue3
  t9 := Tryd.underlying9
  a9 := Tryd.isAgg9
  z9 := Tryd.sizeOf9
  v9 := Tryd.zeroValue9
  t37 := Tryd.underlying26
  a37 := Tryd.isAgg26
  z37 := Tryd.sizeOf26
  v37 := Tryd.zeroValue26
  t70 := Tryd.underlying46
  a70 := Tryd.isAgg46
  z70 := Tryd.sizeOf46
  v70 := Tryd.zeroValue46
  t72 := Tryd.underlying48
  a72 := Tryd.isAgg48
  z72 := Tryd.sizeOf48
  v72 := Tryd.zeroValue48
  t127 := Tryd.underlying78
  a127 := Tryd.isAgg78
  z127 := Tryd.sizeOf78
  v127 := Tryd.zeroValue78 }
theorem Tryd.Builder_Extra_169 : Builder.Extra Tryd.prog Tryd.lays169_ren := {
  sizeBuilder := by kernel_rfl
  liesBuilder := by kernel_rfl
  t5 := Tryd.underlying5
  a5 := Tryd.isAgg5
  z5 := Tryd.sizeOf5
  v5 := Tryd.zeroValue5
  infoByte := by kernel_rfl
  cellsByte := by kernel_rfl
  sizeByte := by kernel_rfl
  neB5 := by decide }
open Go.RowKit in
theorem Tryd.Builder_String (B b : Nat) (l : List UInt8) (w : World) (h : Lib.IsBuilder 48 5 B b (Lib.byteCells l) w) (h0 : l ≠ []) :
    Calls Tryd.prog 23 #[.pointer (some ⟨b, 0, none⟩)] w fun e w' => e = .returned (.string ⟨l.toArray⟩) ∧ Below B w w' := Any.Builder_String Tryd.lays169 Tryd.Builder_Extra_169 B b l w h h0
open Go.RowKit in
theorem Tryd.Builder_String_empty (B b : Nat) (w : World) (h : Lib.IsBuilder 48 5 B b [] w) (hBw : B ≤ w.heap.size) :
    Calls Tryd.prog 23 #[.pointer (some ⟨b, 0, none⟩)] w fun e w' => e = .returned (.string ⟨#[]⟩) ∧ Below B w w' := Any.Builder_String_empty Tryd.lays169 Tryd.Builder_Extra_169 B b w h hBw
open Go.RowKit in
theorem Tryd.Builder_String_any (B b : Nat) (l : List UInt8) (w : World) (h : Lib.IsBuilder 48 5 B b (Lib.byteCells l) w) (hBw : B ≤ w.heap.size) :
    Calls Tryd.prog 23 #[.pointer (some ⟨b, 0, none⟩)] w fun e w' => e = .returned (.string ⟨l.toArray⟩) ∧ Below B w w' := Any.Builder_String_any Tryd.lays169 Tryd.Builder_Extra_169 B b l w h hBw
def Tryd.lays241_ren : Go.Shelf.Ren := ⟨fun | 241 => 50 | 277 => 63 | n => n, fun | 70 => 46 | 3 => 3 | 0 => 0 | 72 => 48 | 37 => 26 | 5 => 5 | n => n, fun | n => n⟩
theorem Tryd.lays241 : Go.Proofs.Lays.n241 Tryd.prog Tryd.lays241_ren := {
  mixed := by kernel_rfl
  f241 := Tryd.func50.trans (congrArg some (by kernel_rfl))
  f277 := Tryd.func63.trans (congrArg some (by kernel_rfl))
  t0 := Tryd.underlying0
  a0 := Tryd.isAgg0
  z0 := Tryd.sizeOf0
  v0 := Tryd.zeroValue0
  t3 := Tryd.underlying3
  a3 := Tryd.isAgg3
  z3 := Tryd.sizeOf3
  v3 := Tryd.zeroValue3
  t37 := Tryd.underlying26
  a37 := Tryd.isAgg26
  z37 := Tryd.sizeOf26
  v37 := Tryd.zeroValue26
  t70 := Tryd.underlying46
  a70 := Tryd.isAgg46
  z70 := Tryd.sizeOf46
  v70 := Tryd.zeroValue46
  t72 := Tryd.underlying48
  a72 := Tryd.isAgg48
  z72 := Tryd.sizeOf48
  v72 := Tryd.zeroValue48 }
theorem Tryd.Builder_Extra_241 : Builder.Extra Tryd.prog Tryd.lays241_ren := {
  sizeBuilder := by kernel_rfl
  liesBuilder := by kernel_rfl
  t5 := Tryd.underlying5
  a5 := Tryd.isAgg5
  z5 := Tryd.sizeOf5
  v5 := Tryd.zeroValue5
  infoByte := by kernel_rfl
  cellsByte := by kernel_rfl
  sizeByte := by kernel_rfl
  neB5 := by decide }
open Go.RowKit in
theorem Tryd.Builder_grow_fresh (B b n : Nat) (w : World) (hB : B ≤ b) (hbk : w.heap[b]? = some (.cells #[.pointer (some ⟨b, 0, none⟩), .slice none 0 0] 48 (0, 0))) (hBw : B ≤ w.heap.size) (hn : n ≤ 281474976710656) :
    Calls Tryd.prog 50 #[.pointer (some ⟨b, 0, none⟩), .int .i64 n] w fun e w' => e = .returned (.tuple #[]) ∧ (Lib.BuilderAt 48 5 B b (.pointer (some ⟨b, 0, none⟩)) [] w' ∧ Below B w w') := Any.Builder_grow_fresh Tryd.lays241 Tryd.Builder_Extra_241 B b n w hB hbk hBw hn
def Tryd.lays165_ren : Go.Shelf.Ren := ⟨fun | 165 => 37 | 240 => 36 | 241 => 50 | 276 => 49 | 277 => 63 | n => n, fun | 70 => 46 | 3 => 3 | 0 => 0 | 4 => 4 | 9 => 9 | 20 => 20 | 72 => 48 | 37 => 26 | 164 => 94 | 5 => 5 | n => n, fun | n => n⟩
theorem Tryd.lays165 : Go.Proofs.Lays.n165 Tryd.prog Tryd.lays165_ren := {
  mixed := by kernel_rfl
  f165 := Tryd.func37.trans (congrArg some (by kernel_rfl))
  f240 := Tryd.func36.trans (congrArg some (by kernel_rfl))
  f241 := Tryd.func50.trans (congrArg some (by kernel_rfl))
  f276 := Tryd.func49.trans (congrArg some (by kernel_rfl))
  f277 := Tryd.func63.trans (congrArg some (by kernel_rfl))
  t0 := Tryd.underlying0
  a0 := Tryd.isAgg0
  z0 := Tryd.sizeOf0
  v0 := Tryd.zeroValue0
  t3 := Tryd.underlying3
  a3 := Tryd.isAgg3
  z3 := Tryd.sizeOf3
  v3 := Tryd.zeroValue3
  t4 := Tryd.underlying4
  a4 := Tryd.isAgg4
  z4 := Tryd.sizeOf4
  v4 := Tryd.zeroValue4
  t9 := Tryd.underlying9
  a9 := Tryd.isAgg9
  z9 := Tryd.sizeOf9
  v9 := Tryd.zeroValue9
  t20 := Tryd.underlying20
  a20 := Tryd.isAgg20
  z20 := Tryd.sizeOf20
  v20 := Tryd.zeroValue20
  t37 := Tryd.underlying26
  a37 := Tryd.isAgg26
  z37 := Tryd.sizeOf26
  v37 := Tryd.zeroValue26
  t70 := Tryd.underlying46
  a70 := Tryd.isAgg46
  z70 := Tryd.sizeOf46
  v70 := Tryd.zeroValue46
  t72 := Tryd.underlying48
  a72 := Tryd.isAgg48
  z72 := Tryd.sizeOf48
  v72 := Tryd.zeroValue48
  t164 := Tryd.underlying94
  a164 := Tryd.isAgg94
  z164 := Tryd.sizeOf94
  v164 := Tryd.zeroValue94 }
theorem Tryd.Builder_Extra_165 : Builder.Extra Tryd.prog Tryd.lays165_ren := {
  sizeBuilder := by kernel_rfl
  liesBuilder := by kernel_rfl
  t5 := Tryd.underlying5
  a5 := Tryd.isAgg5
  z5 := Tryd.sizeOf5
  v5 := Tryd.zeroValue5
  infoByte := by kernel_rfl
  cellsByte := by kernel_rfl
  sizeByte := by kernel_rfl
  neB5 := by decide }
open Go.RowKit in
theorem Tryd.Builder_Grow_fresh (B b n : Nat) (w : World) (hB : B ≤ b) (hbk : w.heap[b]? = some (.cells #[.pointer none, .slice none 0 0] 48 (0, 0))) (hBw : B ≤ w.heap.size) (hn : n ≤ 281474976710656) :
    Calls Tryd.prog 37 #[.pointer (some ⟨b, 0, none⟩), .int .i64 n] w fun e w' => e = .returned (.tuple #[]) ∧ (Lib.BuilderAt 48 5 B b (.pointer (some ⟨b, 0, none⟩)) [] w' ∧ Below B w w') := Any.Builder_Grow_fresh Tryd.lays165 Tryd.Builder_Extra_165 B b n w hB hbk hBw hn
def Tryd.lays156_ren : Go.Shelf.Ren := ⟨fun | 156 => 19 | 165 => 37 | 166 => 18 | 169 => 23 | 240 => 36 | 241 => 50 | 276 => 49 | 277 => 63 | n => n, fun | 31 => 22 | 9 => 9 | 3 => 3 | 4 => 4 | 0 => 0 | 20 => 20 | 72 => 48 | 76 => 51 | 70 => 46 | 37 => 26 | 75 => 50 | 127 => 78 | 164 => 94 | 5 => 5 | 80 => 59 | n => n, fun | n => n⟩
theorem Tryd.lays156 : Go.Proofs.Lays.n156 Tryd.prog Tryd.lays156_ren := {
  mixed := by kernel_rfl
  f156 := Tryd.func19.trans (congrArg some (by kernel_rfl))
  f165 := Tryd.func37.trans (congrArg some (by kernel_rfl))
  f166 := Tryd.func18.trans (congrArg some (by kernel_rfl))
  f169 := Tryd.func23.trans (congrArg some (by kernel_rfl))
  f240 := Tryd.func36.trans (congrArg some (by kernel_rfl))
  f241 := Tryd.func50.trans (congrArg some (by kernel_rfl))
  f276 := Tryd.func49.trans (congrArg some (by kernel_rfl))
  f277 := Tryd.func63.trans (congrArg some (by kernel_rfl))
  t0 := Tryd.underlying0
  a0 := Tryd.isAgg0
  z0 := Tryd.sizeOf0
  v0 := Tryd.zeroValue0
  t3 := Tryd.underlying3
  a3 := Tryd.isAgg3
  z3 := Tryd.sizeOf3
  v3 := Tryd.zeroValue3
  t4 := Tryd.underlying4
  a4 := Tryd.isAgg4
  z4 := Tryd.sizeOf4
  v4 := Tryd.zeroValue4
  t9 := Tryd.underlying9
  a9 := Tryd.isAgg9
  z9 := Tryd.sizeOf9
  v9 := Tryd.zeroValue9
  t20 := Tryd.underlying20
  a20 := Tryd.isAgg20
  z20 := Tryd.sizeOf20
  v20 := Tryd.zeroValue20
  t31 := Tryd.underlying22
  a31 := Tryd.isAgg22
  z31 := Tryd.sizeOf22
  v31 := Tryd.zeroValue22
  t37 := Tryd.underlying26
  a37 := Tryd.isAgg26
  z37 := Tryd.sizeOf26
  v37 := Tryd.zeroValue26
  t70 := Tryd.underlying46
  a70 := Tryd.isAgg46
  z70 := Tryd.sizeOf46
  v70 := Tryd.zeroValue46
  t72 := Tryd.underlying48
  a72 := Tryd.isAgg48
  z72 := Tryd.sizeOf48
  v72 := Tryd.zeroValue48
  t75 := Tryd.underlying50
  a75 := Tryd.isAgg50
  z75 := Tryd.sizeOf50
  v75 := Tryd.zeroValue50
  t76 := Tryd.underlying51
  a76 := Tryd.isAgg51
  z76 := Tryd.sizeOf51
  v76 := Tryd.zeroValue51
  t127 := Tryd.underlying78
  a127 := Tryd.isAgg78
  z127 := Tryd.sizeOf78
  v127 := Tryd.zeroValue78
  t164 := Tryd.underlying94
  a164 := Tryd.isAgg94
  z164 := Tryd.sizeOf94
  v164 := Tryd.zeroValue94 }
theorem Tryd.Builder_Extra_156 : Builder.Extra Tryd.prog Tryd.lays156_ren := {
  sizeBuilder := by kernel_rfl
  liesBuilder := by kernel_rfl
  t5 := Tryd.underlying5
  a5 := Tryd.isAgg5
  z5 := Tryd.sizeOf5
  v5 := Tryd.zeroValue5
  infoByte := by kernel_rfl
  cellsByte := by kernel_rfl
  sizeByte := by kernel_rfl
  neB5 := by decide }
open Go.RowKit in
theorem Tryd.strings_Join_none (a : Option Addr) (c : Nat) (sep : ByteArray) (w : World) :
    Calls Tryd.prog 19 #[.slice a 0 c, .string sep] w fun e w' => e = .returned (.string ⟨#[]⟩) ∧ w' = w := Any.strings_Join_none Tryd.lays156 Tryd.Builder_Extra_156 a c sep w
open Go.RowKit in
theorem Tryd.strings_Join (bk o c : Nat) (xs : List ByteArray) (sep : ByteArray) (w : World) (hcells : ∀ (j : Nat) x, xs[j]? = some x → w.cell? ⟨bk, o + j, none⟩ = some (.string x)) (hbk : bk < w.heap.size) (hN : xs.length ≤ 140737488355328) (hcap : xs.length ≤ c) (hlen : (Lib.join (xs.map (·.data.toList)) sep.data.toList).length ≤ 140737488355328) :
    Calls Tryd.prog 19 #[.slice (some ⟨bk, o, none⟩) xs.length c, .string sep] w fun e w' => e = .returned (.string ⟨(Lib.join (xs.map (·.data.toList)) sep.data.toList).toArray⟩) ∧ Below w.heap.size w w' := Any.strings_Join Tryd.lays156 Tryd.Builder_Extra_156 bk o c xs sep w hcells hbk hN hcap hlen
open Go.RowKit in
theorem Tryd.Builder_String_f (B b : Nat) (l : List UInt8) (w : World) (h : Lib.IsBuilderF 48 5 B b (Lib.byteCells l) w) (h0 : l ≠ []) :
    Calls Tryd.prog 23 #[.pointer (some ⟨b, 0, none⟩)] w fun e w' => e = .returned (.string ⟨l.toArray⟩) ∧ (Lib.IsBuilderF 48 5 B b (Lib.byteCells l) w' ∧ Below B w w') := Any.Builder_String_f Tryd.lays169 Tryd.Builder_Extra_169 B b l w h h0
open Go.RowKit in
theorem Tryd.Builder_String_empty_f (B b : Nat) (w : World) (h : Lib.IsBuilderF 48 5 B b [] w) (hBw : B ≤ w.heap.size) :
    Calls Tryd.prog 23 #[.pointer (some ⟨b, 0, none⟩)] w fun e w' => e = .returned (.string ⟨#[]⟩) ∧ (Lib.IsBuilderF 48 5 B b [] w' ∧ Below B w w') := Any.Builder_String_empty_f Tryd.lays169 Tryd.Builder_Extra_169 B b w h hBw
open Go.RowKit in
theorem Tryd.Builder_String_any_f (B b : Nat) (l : List UInt8) (w : World) (h : Lib.IsBuilderF 48 5 B b (Lib.byteCells l) w) (hBw : B ≤ w.heap.size) :
    Calls Tryd.prog 23 #[.pointer (some ⟨b, 0, none⟩)] w fun e w' => e = .returned (.string ⟨l.toArray⟩) ∧ (Lib.IsBuilderF 48 5 B b (Lib.byteCells l) w' ∧ Below B w w') := Any.Builder_String_any_f Tryd.lays169 Tryd.Builder_Extra_169 B b l w h hBw
open Go.RowKit in
theorem Tryd.Builder_String_k (B b : Nat) (l : List UInt8) (w : World) (h : Lib.IsBuilderF 48 5 B b (Lib.byteCells l) w) (h0 : l ≠ []) :
    Calls Tryd.prog 23 #[.pointer (some ⟨b, 0, none⟩)] w fun e w' => e = .returned (.string ⟨l.toArray⟩) ∧ (Lib.IsBuilderF 48 5 B b (Lib.byteCells l) w' ∧ Below B w w' ∧ Lib.OthersKept 5 (some b) w w') := Any.Builder_String_k Tryd.lays169 Tryd.Builder_Extra_169 B b l w h h0
open Go.RowKit in
theorem Tryd.Builder_String_empty_k (B b : Nat) (w : World) (h : Lib.IsBuilderF 48 5 B b [] w) (hBw : B ≤ w.heap.size) :
    Calls Tryd.prog 23 #[.pointer (some ⟨b, 0, none⟩)] w fun e w' => e = .returned (.string ⟨#[]⟩) ∧ (Lib.IsBuilderF 48 5 B b [] w' ∧ Below B w w' ∧ Lib.OthersKept 5 (some b) w w') := Any.Builder_String_empty_k Tryd.lays169 Tryd.Builder_Extra_169 B b w h hBw
open Go.RowKit in
theorem Tryd.Builder_String_any_k (B b : Nat) (l : List UInt8) (w : World) (h : Lib.IsBuilderF 48 5 B b (Lib.byteCells l) w) (hBw : B ≤ w.heap.size) :
    Calls Tryd.prog 23 #[.pointer (some ⟨b, 0, none⟩)] w fun e w' => e = .returned (.string ⟨l.toArray⟩) ∧ (Lib.IsBuilderF 48 5 B b (Lib.byteCells l) w' ∧ Below B w w' ∧ Lib.OthersKept 5 (some b) w w') := Any.Builder_String_any_k Tryd.lays169 Tryd.Builder_Extra_169 B b l w h hBw
def Tryd.lays129_ren : Go.Shelf.Ren := ⟨fun | 129 => 82 | n => n, fun | 53 => 121 | 3 => 3 | 4 => 4 | 46 => 127 | 5 => 5 | 9 => 9 | n => n, fun | n => n⟩
theorem Tryd.lays129 : Go.Proofs.Lays.n129 Tryd.prog Tryd.lays129_ren := {
  mixed := by kernel_rfl
  f129 := Tryd.func82.trans (congrArg some (by kernel_rfl))
  t3 := Tryd.underlying3
  a3 := Tryd.isAgg3
  z3 := Tryd.sizeOf3
  v3 := Tryd.zeroValue3
  t4 := Tryd.underlying4
  a4 := Tryd.isAgg4
  z4 := Tryd.sizeOf4
  v4 := Tryd.zeroValue4
  t5 := Tryd.underlying5
  a5 := Tryd.isAgg5
  z5 := Tryd.sizeOf5
  v5 := Tryd.zeroValue5
  t9 := Tryd.underlying9
  a9 := Tryd.isAgg9
  z9 := Tryd.sizeOf9
  v9 := Tryd.zeroValue9
  t46 := Tryd.underlying127
  a46 := Tryd.isAgg127
  z46 := Tryd.sizeOf127
  v46 := Tryd.zeroValue127
  t53 := Tryd.underlying121
  a53 := Tryd.isAgg121
  z53 := Tryd.sizeOf121
  v53 := Tryd.zeroValue121 }
theorem Tryd.bits_Len64 (x : Int) (w : World) (h0 : 0 ≤ x) (h1 : x ≤ 18446744073709551615) :
    Calls Tryd.prog 82 #[.int .u64 x] w fun e w' => e = .returned (.int .i64 (Lib.bitLen x.toNat)) ∧ w' = w := Any.bits_Len64 Tryd.lays129 x w h0 h1
def Tryd.lays317_ren : Go.Shelf.Ren := ⟨fun | 317 => 81 | n => n, fun | 3 => 3 | 46 => 127 | n => n, fun | n => n⟩
theorem Tryd.lays317 : Go.Proofs.Lays.n317 Tryd.prog Tryd.lays317_ren := {
  mixed := by kernel_rfl
  f317 := Tryd.func81.trans (congrArg some (by kernel_rfl))
  t3 := Tryd.underlying3
  a3 := Tryd.isAgg3
  z3 := Tryd.sizeOf3
  v3 := Tryd.zeroValue3
  t46 := Tryd.underlying127
  a46 := Tryd.isAgg127
  z46 := Tryd.sizeOf127
  v46 := Tryd.zeroValue127 }
open Go.Lib in
theorem Tryd.internal_strconv_log10Pow2 (x : Nat) (h : x ≤ 64) (w : World) :
    Calls Tryd.prog 81 #[.int .i64 x] w fun e w' => e = .returned (.int .i64 (Lib.l10 x)) ∧ w' = w := Any.internal_strconv_log10Pow2 Tryd.lays317 x h w
def Tryd.lays318_ren : Go.Shelf.Ren := ⟨fun | 318 => 83 | n => n, fun | 3 => 3 | 4 => 4 | n => n, fun | n => n⟩
theorem Tryd.lays318 : Go.Proofs.Lays.n318 Tryd.prog Tryd.lays318_ren := {
  mixed := by kernel_rfl
  f318 := Tryd.func83.trans (congrArg some (by kernel_rfl))
  t3 := Tryd.underlying3
  a3 := Tryd.isAgg3
  z3 := Tryd.sizeOf3
  v3 := Tryd.zeroValue3
  t4 := Tryd.underlying4
  a4 := Tryd.isAgg4
  z4 := Tryd.sizeOf4
  v4 := Tryd.zeroValue4 }
open Go.Lib in
theorem Tryd.internal_strconv_bool2_int (b : Bool) (w : World) :
    Calls Tryd.prog 83 #[.bool b] w fun e w' => e = .returned (.int .i64 (if b then 1 else 0)) ∧ w' = w := Any.internal_strconv_bool2_int Tryd.lays318 b w
def Tryd.lays283_ren : Go.Shelf.Ren := ⟨fun | 283 => 72 | n => n, fun | 3 => 3 | 9 => 9 | 4 => 4 | n => n, fun | n => n⟩
theorem Tryd.lays283 : Go.Proofs.Lays.n283 Tryd.prog Tryd.lays283_ren := {
  mixed := by kernel_rfl
  f283 := Tryd.func72.trans (congrArg some (by kernel_rfl))
  t3 := Tryd.underlying3
  a3 := Tryd.isAgg3
  z3 := Tryd.sizeOf3
  v3 := Tryd.zeroValue3
  t4 := Tryd.underlying4
  a4 := Tryd.isAgg4
  z4 := Tryd.sizeOf4
  v4 := Tryd.zeroValue4
  t9 := Tryd.underlying9
  a9 := Tryd.isAgg9
  z9 := Tryd.sizeOf9
  v9 := Tryd.zeroValue9 }
open Go.Lib in
theorem Tryd.internal_strconv_small (i : Nat) (h : i < 100) (w : World) :
    Calls Tryd.prog 72 #[.int .i64 i] w fun e w' => e = .returned (.string ⟨(Lib.decDigits i).toArray⟩) ∧ w' = w := Any.internal_strconv_small Tryd.lays283 i h w
def Tryd.laysM284_ren : Go.Shelf.Ren := ⟨fun | 284 => 73 | 129 => 82 | 317 => 81 | 318 => 83 | n => n, fun | 53 => 121 | 3 => 3 | 212 => 129 | 0 => 0 | 4 => 4 | 46 => 127 | 5 => 5 | 9 => 9 | n => n, fun | 17 => 1 | n => n⟩
theorem Tryd.laysM284 : Go.Proofs.LaysM.n284 Tryd.prog Tryd.laysM284_ren := {
  mixed := by kernel_rfl
  f129 := Tryd.func82.trans (congrArg some (by kernel_rfl))
  f284 := Tryd.func73.trans (congrArg some (by kernel_rfl))
  f317 := Tryd.func81.trans (congrArg some (by kernel_rfl))
  f318 := Tryd.func83.trans (congrArg some (by kernel_rfl))
  t0 := Tryd.underlying0
  a0 := Tryd.isAgg0
  z0 := Tryd.sizeOf0
  v0 := Tryd.zeroValue0
  t3 := Tryd.underlying3
  a3 := Tryd.isAgg3
  z3 := Tryd.sizeOf3
  v3 := Tryd.zeroValue3
  t4 := Tryd.underlying4
  a4 := Tryd.isAgg4
  z4 := Tryd.sizeOf4
  v4 := Tryd.zeroValue4
  t5 := Tryd.underlying5
  a5 := Tryd.isAgg5
  z5 := Tryd.sizeOf5
  v5 := Tryd.zeroValue5
  t9 := Tryd.underlying9
  a9 := Tryd.isAgg9
  z9 := Tryd.sizeOf9
  v9 := Tryd.zeroValue9
  t46 := Tryd.underlying127
  a46 := Tryd.isAgg127
  z46 := Tryd.sizeOf127
  v46 := Tryd.zeroValue127
  t53 := Tryd.underlying121
  a53 := Tryd.isAgg121
  z53 := Tryd.sizeOf121
  v53 := Tryd.zeroValue121
  t212 := Tryd.underlying129
  a212 := Tryd.isAgg129
  z212 := Tryd.sizeOf129
  v212 := Tryd.zeroValue129
  g17 := by kernel_rfl
  i0 := by kernel_rfl
  i3 := by kernel_rfl
  i4 := by kernel_rfl
  i5 := by kernel_rfl
  i9 := by kernel_rfl
  i46 := by kernel_rfl
  i53 := by kernel_rfl
  i212 := by kernel_rfl
  m17 := by kernel_rfl }
open Go.Lib in
theorem Tryd.internal_strconv_numDigits (u : Nat) (h1 : 1 ≤ u) (h2 : u < 18446744073709551616) (w : World) (htab : Lib.TabIs Tryd.prog w "internal/strconv.uint64pow10" .u64 Lib.pow10Tab) :
    Calls Tryd.prog 73 #[.int .u64 u] w fun e w' => e = .returned (.int .i64 (Lib.nDigits u)) ∧ w' = w := Any.internal_strconv_numDigits Tryd.laysM284 u h1 h2 w htab
def Tryd.lays285_ren : Go.Shelf.Ren := ⟨fun | 285 => 74 | n => n, fun | 37 => 26 | 53 => 121 | 3 => 3 | 4 => 4 | 51 => 130 | 9 => 9 | 5 => 5 | 0 => 0 | n => n, fun | n => n⟩
theorem Tryd.lays285 : Go.Proofs.Lays.n285 Tryd.prog Tryd.lays285_ren := {
  mixed := by kernel_rfl
  f285 := Tryd.func74.trans (congrArg some (by kernel_rfl))
  t0 := Tryd.underlying0
  a0 := Tryd.isAgg0
  z0 := Tryd.sizeOf0
  v0 := Tryd.zeroValue0
  t3 := Tryd.underlying3
  a3 := Tryd.isAgg3
  z3 := Tryd.sizeOf3
  v3 := Tryd.zeroValue3
  t4 := Tryd.underlying4
  a4 := Tryd.isAgg4
  z4 := Tryd.sizeOf4
  v4 := Tryd.zeroValue4
  t5 := Tryd.underlying5
  a5 := Tryd.isAgg5
  z5 := Tryd.sizeOf5
  v5 := Tryd.zeroValue5
  t9 := Tryd.underlying9
  a9 := Tryd.isAgg9
  z9 := Tryd.sizeOf9
  v9 := Tryd.zeroValue9
  t37 := Tryd.underlying26
  a37 := Tryd.isAgg26
  z37 := Tryd.sizeOf26
  v37 := Tryd.zeroValue26
  t51 := Tryd.underlying130
  a51 := Tryd.isAgg130
  z51 := Tryd.sizeOf130
  v51 := Tryd.zeroValue130
  t53 := Tryd.underlying121
  a53 := Tryd.isAgg121
  z53 := Tryd.sizeOf121
  v53 := Tryd.zeroValue121 }
open Go.RowKit Go.Sort Go.Lib in
theorem Tryd.internal_strconv_formatBase10 (blk off cap : Nat) (u : Nat) (d : Array UInt8) (w : World) (hH : Holds (fun (b : UInt8) => Value.int .u8 (b.toNat : Int)) w blk off d) (hu : u < 10 ^ d.size) (hu64 : u < 18446744073709551616) (hsz : d.size < 4611686018427387904) :
    Calls Tryd.prog 74 #[.slice (some ⟨blk, off, none⟩) d.size cap, .int .u64 u] w fun e w' =>
      e = .returned (.tuple #[]) ∧ ∃ (n v' : Nat) (dk : Array UInt8), w' = (putRow (fun (b : UInt8) => Value.int .u8 (b.toNat : Int)) w blk off dk).drewN n ∧ FmtInv d.size u 0 v' dk := Any.internal_strconv_formatBase10 Tryd.lays285 blk off cap u d w hH hu hu64 hsz
def Tryd.laysM246_ren : Go.Shelf.Ren := ⟨fun | 246 => 64 | 283 => 72 | 284 => 73 | 285 => 74 | 286 => 75 | 129 => 82 | 317 => 81 | 318 => 83 | 319 => 84 | 320 => 85 | 337 => 88 | 338 => 89 | n => n, fun | 2 => 2 | 3 => 3 | 9 => 9 | 4 => 4 | 171 => 120 | 0 => 0 | 53 => 121 | 37 => 26 | 5 => 5 | 173 => 124 | 212 => 129 | 51 => 130 | 20 => 20 | 213 => 131 | 46 => 127 | 232 => 141 | 233 => 142 | n => n, fun | 17 => 1 | 18 => 4 | 19 => 5 | n => n⟩
theorem Tryd.laysM246 : Go.Proofs.LaysM.n246 Tryd.prog Tryd.laysM246_ren := {
  mixed := by kernel_rfl
  f129 := Tryd.func82.trans (congrArg some (by kernel_rfl))
  f246 := Tryd.func64.trans (congrArg some (by kernel_rfl))
  f283 := Tryd.func72.trans (congrArg some (by kernel_rfl))
  f284 := Tryd.func73.trans (congrArg some (by kernel_rfl))
  f285 := Tryd.func74.trans (congrArg some (by kernel_rfl))
  f286 := Tryd.func75.trans (congrArg some (by kernel_rfl))
  f317 := Tryd.func81.trans (congrArg some (by kernel_rfl))
  f318 := Tryd.func83.trans (congrArg some (by kernel_rfl))
  f319 := Tryd.func84.trans (congrArg some (by kernel_rfl))
  f320 := Tryd.func85.trans (congrArg some (by kernel_rfl))
  f337 := Tryd.func88.trans (congrArg some (by kernel_rfl))
  f338 := Tryd.func89.trans (congrArg some (by kernel_rfl))
  t0 := Tryd.underlying0
  a0 := Tryd.isAgg0
  z0 := Tryd.sizeOf0
  v0 := Tryd.zeroValue0
  t2 := Tryd.underlying2
  a2 := Tryd.isAgg2
  z2 := Tryd.sizeOf2
  v2 := Tryd.zeroValue2
  t3 := Tryd.underlying3
  a3 := Tryd.isAgg3
  z3 := Tryd.sizeOf3
  v3 := Tryd.zeroValue3
  t4 := Tryd.underlying4
  a4 := Tryd.isAgg4
  z4 := Tryd.sizeOf4
  v4 := Tryd.zeroValue4
  t5 := Tryd.underlying5
  a5 := Tryd.isAgg5
  z5 := Tryd.sizeOf5
  v5 := Tryd.zeroValue5
  t9 := Tryd.underlying9
  a9 := Tryd.isAgg9
  z9 := Tryd.sizeOf9
  v9 := Tryd.zeroValue9
  t20 := Tryd.underlying20
  a20 := Tryd.isAgg20
  z20 := Tryd.sizeOf20
  v20 := Tryd.zeroValue20
  t37 := Tryd.underlying26
  a37 := Tryd.isAgg26
  z37 := Tryd.sizeOf26
  v37 := Tryd.zeroValue26
  t46 := Tryd.underlying127
  a46 := Tryd.isAgg127
  z46 := Tryd.sizeOf127
  v46 := Tryd.zeroValue127
  t51 := Tryd.underlying130
  a51 := Tryd.isAgg130
  z51 := Tryd.sizeOf130
  v51 := Tryd.zeroValue130
  t53 := Tryd.underlying121
  a53 := Tryd.isAgg121
  z53 := Tryd.sizeOf121
  v53 := Tryd.zeroValue121
  t171 := Tryd.underlying120
  a171 := Tryd.isAgg120
  z171 := Tryd.sizeOf120
  v171 := Tryd.zeroValue120
  t173 := Tryd.underlying124
  a173 := Tryd.isAgg124
  z173 := Tryd.sizeOf124
  v173 := Tryd.zeroValue124
  t212 := Tryd.underlying129
  a212 := Tryd.isAgg129
  z212 := Tryd.sizeOf129
  v212 := Tryd.zeroValue129
  t213 := Tryd.underlying131
  a213 := Tryd.isAgg131
  z213 := Tryd.sizeOf131
  t232 := Tryd.underlying141
  a232 := Tryd.isAgg141
  z232 := Tryd.sizeOf141
  v232 := Tryd.zeroValue141
  t233 := Tryd.underlying142
  a233 := Tryd.isAgg142
  z233 := Tryd.sizeOf142
  v233 := Tryd.zeroValue142
  g17 := by kernel_rfl
  g18 := by kernel_rfl
  g19 := by kernel_rfl
  i0 := by kernel_rfl
  i2 := by kernel_rfl
  i3 := by kernel_rfl
  i4 := by kernel_rfl
  i5 := by kernel_rfl
  i9 := by kernel_rfl
  i20 := by kernel_rfl
  i37 := by kernel_rfl
  i46 := by kernel_rfl
  i51 := by kernel_rfl
  i53 := by kernel_rfl
  i171 := by kernel_rfl
  i173 := by kernel_rfl
  i212 := by kernel_rfl
  i232 := by kernel_rfl
  i233 := by kernel_rfl
  m17 := by kernel_rfl
  m18 := by kernel_rfl
  m19 := by kernel_rfl }
open Go.RowKit Go.Sort Go.Lib in
theorem Tryd.internal_strconv_FormatInt_10 (n : Int) (h0 : -9223372036854775808 ≤ n) (h1 : n ≤ 9223372036854775807) (w : World) (htab : Lib.TabIs Tryd.prog w "internal/strconv.uint64pow10" .u64 Lib.pow10Tab) :
    Calls Tryd.prog 64 #[.int .i64 n, .int .i64 10] w fun e w' => e = .returned (.string ⟨(Lib.itoa n).toArray⟩) ∧ ∃ k os, w' = grow (w.drewN k) os := Any.internal_strconv_FormatInt_10 Tryd.laysM246 n h0 h1 w htab
def Tryd.lays246_ren : Go.Shelf.Ren := ⟨fun | 246 => 64 | 283 => 72 | 284 => 73 | 285 => 74 | 286 => 75 | 129 => 82 | 317 => 81 | 318 => 83 | 319 => 84 | 320 => 85 | 337 => 88 | 338 => 89 | n => n, fun | 2 => 2 | 3 => 3 | 9 => 9 | 4 => 4 | 171 => 120 | 0 => 0 | 53 => 121 | 37 => 26 | 5 => 5 | 173 => 124 | 212 => 129 | 51 => 130 | 20 => 20 | 213 => 131 | 46 => 127 | 232 => 141 | 233 => 142 | n => n, fun | 17 => 1 | 18 => 4 | 19 => 5 | n => n⟩
theorem Tryd.lays246 : Go.Proofs.Lays.n246 Tryd.prog Tryd.lays246_ren := {
  mixed := by kernel_rfl
  f129 := Tryd.func82.trans (congrArg some (by kernel_rfl))
  f246 := Tryd.func64.trans (congrArg some (by kernel_rfl))
  f283 := Tryd.func72.trans (congrArg some (by kernel_rfl))
  f284 := Tryd.func73.trans (congrArg some (by kernel_rfl))
  f285 := Tryd.func74.trans (congrArg some (by kernel_rfl))
  f286 := Tryd.func75.trans (congrArg some (by kernel_rfl))
  f317 := Tryd.func81.trans (congrArg some (by kernel_rfl))
  f318 := Tryd.func83.trans (congrArg some (by kernel_rfl))
  f319 := Tryd.func84.trans (congrArg some (by kernel_rfl))
  f320 := Tryd.func85.trans (congrArg some (by kernel_rfl))
  f337 := Tryd.func88.trans (congrArg some (by kernel_rfl))
  f338 := Tryd.func89.trans (congrArg some (by kernel_rfl))
  t0 := Tryd.underlying0
  a0 := Tryd.isAgg0
  z0 := Tryd.sizeOf0
  v0 := Tryd.zeroValue0
  t2 := Tryd.underlying2
  a2 := Tryd.isAgg2
  z2 := Tryd.sizeOf2
  v2 := Tryd.zeroValue2
  t3 := Tryd.underlying3
  a3 := Tryd.isAgg3
  z3 := Tryd.sizeOf3
  v3 := Tryd.zeroValue3
  t4 := Tryd.underlying4
  a4 := Tryd.isAgg4
  z4 := Tryd.sizeOf4
  v4 := Tryd.zeroValue4
  t5 := Tryd.underlying5
  a5 := Tryd.isAgg5
  z5 := Tryd.sizeOf5
  v5 := Tryd.zeroValue5
  t9 := Tryd.underlying9
  a9 := Tryd.isAgg9
  z9 := Tryd.sizeOf9
  v9 := Tryd.zeroValue9
  t20 := Tryd.underlying20
  a20 := Tryd.isAgg20
  z20 := Tryd.sizeOf20
  v20 := Tryd.zeroValue20
  t37 := Tryd.underlying26
  a37 := Tryd.isAgg26
  z37 := Tryd.sizeOf26
  v37 := Tryd.zeroValue26
  t46 := Tryd.underlying127
  a46 := Tryd.isAgg127
  z46 := Tryd.sizeOf127
  v46 := Tryd.zeroValue127
  t51 := Tryd.underlying130
  a51 := Tryd.isAgg130
  z51 := Tryd.sizeOf130
  v51 := Tryd.zeroValue130
  t53 := Tryd.underlying121
  a53 := Tryd.isAgg121
  z53 := Tryd.sizeOf121
  v53 := Tryd.zeroValue121
  t171 := Tryd.underlying120
  a171 := Tryd.isAgg120
  z171 := Tryd.sizeOf120
  v171 := Tryd.zeroValue120
  t173 := Tryd.underlying124
  a173 := Tryd.isAgg124
  z173 := Tryd.sizeOf124
  v173 := Tryd.zeroValue124
  t212 := Tryd.underlying129
  a212 := Tryd.isAgg129
  z212 := Tryd.sizeOf129
  v212 := Tryd.zeroValue129
  t213 := Tryd.underlying131
  a213 := Tryd.isAgg131
  z213 := Tryd.sizeOf131
  t232 := Tryd.underlying141
  a232 := Tryd.isAgg141
  z232 := Tryd.sizeOf141
  v232 := Tryd.zeroValue141
  t233 := Tryd.underlying142
  a233 := Tryd.isAgg142
  z233 := Tryd.sizeOf142
  v233 := Tryd.zeroValue142
  g17 := by kernel_rfl
  g18 := by kernel_rfl
  g19 := by kernel_rfl }
open Go.RowKit Go.Sort Go.Lib in
theorem Tryd.internal_strconv_FormatInt_10_small (i : Nat) (hi : i < 100) (w : World) :
    Calls Tryd.prog 64 #[.int .i64 i, .int .i64 10] w fun e w' => e = .returned (.string ⟨(Lib.decDigits i).toArray⟩) ∧ w' = w := Any.internal_strconv_FormatInt_10_small Tryd.lays246 i hi w
def Tryd.laysM243_ren : Go.Shelf.Ren := ⟨fun | 243 => 51 | 246 => 64 | 283 => 72 | 284 => 73 | 285 => 74 | 286 => 75 | 129 => 82 | 317 => 81 | 318 => 83 | 319 => 84 | 320 => 85 | 337 => 88 | 338 => 89 | n => n, fun | 3 => 3 | 9 => 9 | 2 => 2 | 4 => 4 | 171 => 120 | 0 => 0 | 53 => 121 | 37 => 26 | 5 => 5 | 173 => 124 | 212 => 129 | 51 => 130 | 20 => 20 | 213 => 131 | 46 => 127 | 232 => 141 | 233 => 142 | n => n, fun | 17 => 1 | 18 => 4 | 19 => 5 | n => n⟩
theorem Tryd.laysM243 : Go.Proofs.LaysM.n243 Tryd.prog Tryd.laysM243_ren := {
  mixed := by kernel_rfl
  f129 := Tryd.func82.trans (congrArg some (by kernel_rfl))
  f243 := Tryd.func51.trans (congrArg some (by kernel_rfl))
  f246 := Tryd.func64.trans (congrArg some (by kernel_rfl))
  f283 := Tryd.func72.trans (congrArg some (by kernel_rfl))
  f284 := Tryd.func73.trans (congrArg some (by kernel_rfl))
  f285 := Tryd.func74.trans (congrArg some (by kernel_rfl))
  f286 := Tryd.func75.trans (congrArg some (by kernel_rfl))
  f317 := Tryd.func81.trans (congrArg some (by kernel_rfl))
  f318 := Tryd.func83.trans (congrArg some (by kernel_rfl))
  f319 := Tryd.func84.trans (congrArg some (by kernel_rfl))
  f320 := Tryd.func85.trans (congrArg some (by kernel_rfl))
  f337 := Tryd.func88.trans (congrArg some (by kernel_rfl))
  f338 := Tryd.func89.trans (congrArg some (by kernel_rfl))
  t0 := Tryd.underlying0
  a0 := Tryd.isAgg0
  z0 := Tryd.sizeOf0
  v0 := Tryd.zeroValue0
  t2 := Tryd.underlying2
  a2 := Tryd.isAgg2
  z2 := Tryd.sizeOf2
  v2 := Tryd.zeroValue2
  t3 := Tryd.underlying3
  a3 := Tryd.isAgg3
  z3 := Tryd.sizeOf3
  v3 := Tryd.zeroValue3
  t4 := Tryd.underlying4
  a4 := Tryd.isAgg4
  z4 := Tryd.sizeOf4
  v4 := Tryd.zeroValue4
  t5 := Tryd.underlying5
  a5 := Tryd.isAgg5
  z5 := Tryd.sizeOf5
  v5 := Tryd.zeroValue5
  t9 := Tryd.underlying9
  a9 := Tryd.isAgg9
  z9 := Tryd.sizeOf9
  v9 := Tryd.zeroValue9
  t20 := Tryd.underlying20
  a20 := Tryd.isAgg20
  z20 := Tryd.sizeOf20
  v20 := Tryd.zeroValue20
  t37 := Tryd.underlying26
  a37 := Tryd.isAgg26
  z37 := Tryd.sizeOf26
  v37 := Tryd.zeroValue26
  t46 := Tryd.underlying127
  a46 := Tryd.isAgg127
  z46 := Tryd.sizeOf127
  v46 := Tryd.zeroValue127
  t51 := Tryd.underlying130
  a51 := Tryd.isAgg130
  z51 := Tryd.sizeOf130
  v51 := Tryd.zeroValue130
  t53 := Tryd.underlying121
  a53 := Tryd.isAgg121
  z53 := Tryd.sizeOf121
  v53 := Tryd.zeroValue121
  t171 := Tryd.underlying120
  a171 := Tryd.isAgg120
  z171 := Tryd.sizeOf120
  v171 := Tryd.zeroValue120
  t173 := Tryd.underlying124
  a173 := Tryd.isAgg124
  z173 := Tryd.sizeOf124
  v173 := Tryd.zeroValue124
  t212 := Tryd.underlying129
  a212 := Tryd.isAgg129
  z212 := Tryd.sizeOf129
  v212 := Tryd.zeroValue129
  t213 := Tryd.underlying131
  a213 := Tryd.isAgg131
  z213 := Tryd.sizeOf131
  t232 := Tryd.underlying141
  a232 := Tryd.isAgg141
  z232 := Tryd.sizeOf141
  v232 := Tryd.zeroValue141
  t233 := Tryd.underlying142
  a233 := Tryd.isAgg142
  z233 := Tryd.sizeOf142
  v233 := Tryd.zeroValue142
  g17 := by kernel_rfl
  g18 := by kernel_rfl
  g19 := by kernel_rfl
  i0 := by kernel_rfl
  i2 := by kernel_rfl
  i3 := by kernel_rfl
  i4 := by kernel_rfl
  i5 := by kernel_rfl
  i9 := by kernel_rfl
  i20 := by kernel_rfl
  i37 := by kernel_rfl
  i46 := by kernel_rfl
  i51 := by kernel_rfl
  i53 := by kernel_rfl
  i171 := by kernel_rfl
  i173 := by kernel_rfl
  i212 := by kernel_rfl
  i232 := by kernel_rfl
  i233 := by kernel_rfl
  m17 := by kernel_rfl
  m18 := by kernel_rfl
  m19 := by kernel_rfl }
open Go.RowKit Go.Sort Go.Lib in
theorem Tryd.internal_strconv_Itoa (n : Int) (h0 : -9223372036854775808 ≤ n) (h1 : n ≤ 9223372036854775807) (w : World) (htab : Lib.TabIs Tryd.prog w "internal/strconv.uint64pow10" .u64 Lib.pow10Tab) :
    Calls Tryd.prog 51 #[.int .i64 n] w fun e w' => e = .returned (.string ⟨(Lib.itoa n).toArray⟩) ∧ ∃ k os, w' = grow (w.drewN k) os := Any.internal_strconv_Itoa Tryd.laysM243 n h0 h1 w htab
def Tryd.lays243_ren : Go.Shelf.Ren := ⟨fun | 243 => 51 | 246 => 64 | 283 => 72 | 284 => 73 | 285 => 74 | 286 => 75 | 129 => 82 | 317 => 81 | 318 => 83 | 319 => 84 | 320 => 85 | 337 => 88 | 338 => 89 | n => n, fun | 3 => 3 | 9 => 9 | 2 => 2 | 4 => 4 | 171 => 120 | 0 => 0 | 53 => 121 | 37 => 26 | 5 => 5 | 173 => 124 | 212 => 129 | 51 => 130 | 20 => 20 | 213 => 131 | 46 => 127 | 232 => 141 | 233 => 142 | n => n, fun | 17 => 1 | 18 => 4 | 19 => 5 | n => n⟩
theorem Tryd.lays243 : Go.Proofs.Lays.n243 Tryd.prog Tryd.lays243_ren := {
  mixed := by kernel_rfl
  f129 := Tryd.func82.trans (congrArg some (by kernel_rfl))
  f243 := Tryd.func51.trans (congrArg some (by kernel_rfl))
  f246 := Tryd.func64.trans (congrArg some (by kernel_rfl))
  f283 := Tryd.func72.trans (congrArg some (by kernel_rfl))
  f284 := Tryd.func73.trans (congrArg some (by kernel_rfl))
  f285 := Tryd.func74.trans (congrArg some (by kernel_rfl))
  f286 := Tryd.func75.trans (congrArg some (by kernel_rfl))
  f317 := Tryd.func81.trans (congrArg some (by kernel_rfl))
  f318 := Tryd.func83.trans (congrArg some (by kernel_rfl))
  f319 := Tryd.func84.trans (congrArg some (by kernel_rfl))
  f320 := Tryd.func85.trans (congrArg some (by kernel_rfl))
  f337 := Tryd.func88.trans (congrArg some (by kernel_rfl))
  f338 := Tryd.func89.trans (congrArg some (by kernel_rfl))
  t0 := Tryd.underlying0
  a0 := Tryd.isAgg0
  z0 := Tryd.sizeOf0
  v0 := Tryd.zeroValue0
  t2 := Tryd.underlying2
  a2 := Tryd.isAgg2
  z2 := Tryd.sizeOf2
  v2 := Tryd.zeroValue2
  t3 := Tryd.underlying3
  a3 := Tryd.isAgg3
  z3 := Tryd.sizeOf3
  v3 := Tryd.zeroValue3
  t4 := Tryd.underlying4
  a4 := Tryd.isAgg4
  z4 := Tryd.sizeOf4
  v4 := Tryd.zeroValue4
  t5 := Tryd.underlying5
  a5 := Tryd.isAgg5
  z5 := Tryd.sizeOf5
  v5 := Tryd.zeroValue5
  t9 := Tryd.underlying9
  a9 := Tryd.isAgg9
  z9 := Tryd.sizeOf9
  v9 := Tryd.zeroValue9
  t20 := Tryd.underlying20
  a20 := Tryd.isAgg20
  z20 := Tryd.sizeOf20
  v20 := Tryd.zeroValue20
  t37 := Tryd.underlying26
  a37 := Tryd.isAgg26
  z37 := Tryd.sizeOf26
  v37 := Tryd.zeroValue26
  t46 := Tryd.underlying127
  a46 := Tryd.isAgg127
  z46 := Tryd.sizeOf127
  v46 := Tryd.zeroValue127
  t51 := Tryd.underlying130
  a51 := Tryd.isAgg130
  z51 := Tryd.sizeOf130
  v51 := Tryd.zeroValue130
  t53 := Tryd.underlying121
  a53 := Tryd.isAgg121
  z53 := Tryd.sizeOf121
  v53 := Tryd.zeroValue121
  t171 := Tryd.underlying120
  a171 := Tryd.isAgg120
  z171 := Tryd.sizeOf120
  v171 := Tryd.zeroValue120
  t173 := Tryd.underlying124
  a173 := Tryd.isAgg124
  z173 := Tryd.sizeOf124
  v173 := Tryd.zeroValue124
  t212 := Tryd.underlying129
  a212 := Tryd.isAgg129
  z212 := Tryd.sizeOf129
  v212 := Tryd.zeroValue129
  t213 := Tryd.underlying131
  a213 := Tryd.isAgg131
  z213 := Tryd.sizeOf131
  t232 := Tryd.underlying141
  a232 := Tryd.isAgg141
  z232 := Tryd.sizeOf141
  v232 := Tryd.zeroValue141
  t233 := Tryd.underlying142
  a233 := Tryd.isAgg142
  z233 := Tryd.sizeOf142
  v233 := Tryd.zeroValue142
  g17 := by kernel_rfl
  g18 := by kernel_rfl
  g19 := by kernel_rfl }
open Go.RowKit Go.Sort Go.Lib in
theorem Tryd.internal_strconv_Itoa_small (i : Nat) (hi : i < 100) (w : World) :
    Calls Tryd.prog 51 #[.int .i64 i] w fun e w' => e = .returned (.string ⟨(Lib.decDigits i).toArray⟩) ∧ w' = w := Any.internal_strconv_Itoa_small Tryd.lays243 i hi w
def Tryd.laysM171_ren : Go.Shelf.Ren := ⟨fun | 171 => 38 | 243 => 51 | 246 => 64 | 283 => 72 | 284 => 73 | 285 => 74 | 286 => 75 | 129 => 82 | 317 => 81 | 318 => 83 | 319 => 84 | 320 => 85 | 337 => 88 | 338 => 89 | n => n, fun | 3 => 3 | 9 => 9 | 2 => 2 | 4 => 4 | 171 => 120 | 0 => 0 | 53 => 121 | 37 => 26 | 5 => 5 | 173 => 124 | 212 => 129 | 51 => 130 | 20 => 20 | 213 => 131 | 46 => 127 | 232 => 141 | 233 => 142 | n => n, fun | 17 => 1 | 18 => 4 | 19 => 5 | n => n⟩
theorem Tryd.laysM171 : Go.Proofs.LaysM.n171 Tryd.prog Tryd.laysM171_ren := {
  mixed := by kernel_rfl
  f129 := Tryd.func82.trans (congrArg some (by kernel_rfl))
  f171 := Tryd.func38.trans (congrArg some (by kernel_rfl))
  f243 := Tryd.func51.trans (congrArg some (by kernel_rfl))
  f246 := Tryd.func64.trans (congrArg some (by kernel_rfl))
  f283 := Tryd.func72.trans (congrArg some (by kernel_rfl))
  f284 := Tryd.func73.trans (congrArg some (by kernel_rfl))
  f285 := Tryd.func74.trans (congrArg some (by kernel_rfl))
  f286 := Tryd.func75.trans (congrArg some (by kernel_rfl))
  f317 := Tryd.func81.trans (congrArg some (by kernel_rfl))
  f318 := Tryd.func83.trans (congrArg some (by kernel_rfl))
  f319 := Tryd.func84.trans (congrArg some (by kernel_rfl))
  f320 := Tryd.func85.trans (congrArg some (by kernel_rfl))
  f337 := Tryd.func88.trans (congrArg some (by kernel_rfl))
  f338 := Tryd.func89.trans (congrArg some (by kernel_rfl))
  t0 := Tryd.underlying0
  a0 := Tryd.isAgg0
  z0 := Tryd.sizeOf0
  v0 := Tryd.zeroValue0
  t2 := Tryd.underlying2
  a2 := Tryd.isAgg2
  z2 := Tryd.sizeOf2
  v2 := Tryd.zeroValue2
  t3 := Tryd.underlying3
  a3 := Tryd.isAgg3
  z3 := Tryd.sizeOf3
  v3 := Tryd.zeroValue3
  t4 := Tryd.underlying4
  a4 := Tryd.isAgg4
  z4 := Tryd.sizeOf4
  v4 := Tryd.zeroValue4
  t5 := Tryd.underlying5
  a5 := Tryd.isAgg5
  z5 := Tryd.sizeOf5
  v5 := Tryd.zeroValue5
  t9 := Tryd.underlying9
  a9 := Tryd.isAgg9
  z9 := Tryd.sizeOf9
  v9 := Tryd.zeroValue9
  t20 := Tryd.underlying20
  a20 := Tryd.isAgg20
  z20 := Tryd.sizeOf20
  v20 := Tryd.zeroValue20
  t37 := Tryd.underlying26
  a37 := Tryd.isAgg26
  z37 := Tryd.sizeOf26
  v37 := Tryd.zeroValue26
  t46 := Tryd.underlying127
  a46 := Tryd.isAgg127
  z46 := Tryd.sizeOf127
  v46 := Tryd.zeroValue127
  t51 := Tryd.underlying130
  a51 := Tryd.isAgg130
  z51 := Tryd.sizeOf130
  v51 := Tryd.zeroValue130
  t53 := Tryd.underlying121
  a53 := Tryd.isAgg121
  z53 := Tryd.sizeOf121
  v53 := Tryd.zeroValue121
  t171 := Tryd.underlying120
  a171 := Tryd.isAgg120
  z171 := Tryd.sizeOf120
  v171 := Tryd.zeroValue120
  t173 := Tryd.underlying124
  a173 := Tryd.isAgg124
  z173 := Tryd.sizeOf124
  v173 := Tryd.zeroValue124
  t212 := Tryd.underlying129
  a212 := Tryd.isAgg129
  z212 := Tryd.sizeOf129
  v212 := Tryd.zeroValue129
  t213 := Tryd.underlying131
  a213 := Tryd.isAgg131
  z213 := Tryd.sizeOf131
  t232 := Tryd.underlying141
  a232 := Tryd.isAgg141
  z232 := Tryd.sizeOf141
  v232 := Tryd.zeroValue141
  t233 := Tryd.underlying142
  a233 := Tryd.isAgg142
  z233 := Tryd.sizeOf142
  v233 := Tryd.zeroValue142
  g17 := by kernel_rfl
  g18 := by kernel_rfl
  g19 := by kernel_rfl
  i0 := by kernel_rfl
  i2 := by kernel_rfl
  i3 := by kernel_rfl
  i4 := by kernel_rfl
  i5 := by kernel_rfl
  i9 := by kernel_rfl
  i20 := by kernel_rfl
  i37 := by kernel_rfl
  i46 := by kernel_rfl
  i51 := by kernel_rfl
  i53 := by kernel_rfl
  i171 := by kernel_rfl
  i173 := by kernel_rfl
  i212 := by kernel_rfl
  i232 := by kernel_rfl
  i233 := by kernel_rfl
  m17 := by kernel_rfl
  m18 := by kernel_rfl
  m19 := by kernel_rfl }
open Go.RowKit Go.Sort Go.Lib in
theorem Tryd.strconv_Itoa (n : Int) (h0 : -9223372036854775808 ≤ n) (h1 : n ≤ 9223372036854775807) (w : World) (htab : Lib.TabIs Tryd.prog w "internal/strconv.uint64pow10" .u64 Lib.pow10Tab) :
    Calls Tryd.prog 38 #[.int .i64 n] w fun e w' => e = .returned (.string ⟨(Lib.itoa n).toArray⟩) ∧ ∃ k os, w' = grow (w.drewN k) os := Any.strconv_Itoa Tryd.laysM171 n h0 h1 w htab
def Tryd.lays171_ren : Go.Shelf.Ren := ⟨fun | 171 => 38 | 243 => 51 | 246 => 64 | 283 => 72 | 284 => 73 | 285 => 74 | 286 => 75 | 129 => 82 | 317 => 81 | 318 => 83 | 319 => 84 | 320 => 85 | 337 => 88 | 338 => 89 | n => n, fun | 3 => 3 | 9 => 9 | 2 => 2 | 4 => 4 | 171 => 120 | 0 => 0 | 53 => 121 | 37 => 26 | 5 => 5 | 173 => 124 | 212 => 129 | 51 => 130 | 20 => 20 | 213 => 131 | 46 => 127 | 232 => 141 | 233 => 142 | n => n, fun | 17 => 1 | 18 => 4 | 19 => 5 | n => n⟩
theorem Tryd.lays171 : Go.Proofs.Lays.n171 Tryd.prog Tryd.lays171_ren := {
  mixed := by kernel_rfl
  f129 := Tryd.func82.trans (congrArg some (by kernel_rfl))
  f171 := Tryd.func38.trans (congrArg some (by kernel_rfl))
  f243 := Tryd.func51.trans (congrArg some (by kernel_rfl))
  f246 := Tryd.func64.trans (congrArg some (by kernel_rfl))
  f283 := Tryd.func72.trans (congrArg some (by kernel_rfl))
  f284 := Tryd.func73.trans (congrArg some (by kernel_rfl))
  f285 := Tryd.func74.trans (congrArg some (by kernel_rfl))
  f286 := Tryd.func75.trans (congrArg some (by kernel_rfl))
  f317 := Tryd.func81.trans (congrArg some (by kernel_rfl))
  f318 := Tryd.func83.trans (congrArg some (by kernel_rfl))
  f319 := Tryd.func84.trans (congrArg some (by kernel_rfl))
  f320 := Tryd.func85.trans (congrArg some (by kernel_rfl))
  f337 := Tryd.func88.trans (congrArg some (by kernel_rfl))
  f338 := Tryd.func89.trans (congrArg some (by kernel_rfl))
  t0 := Tryd.underlying0
  a0 := Tryd.isAgg0
  z0 := Tryd.sizeOf0
  v0 := Tryd.zeroValue0
  t2 := Tryd.underlying2
  a2 := Tryd.isAgg2
  z2 := Tryd.sizeOf2
  v2 := Tryd.zeroValue2
  t3 := Tryd.underlying3
  a3 := Tryd.isAgg3
  z3 := Tryd.sizeOf3
  v3 := Tryd.zeroValue3
  t4 := Tryd.underlying4
  a4 := Tryd.isAgg4
  z4 := Tryd.sizeOf4
  v4 := Tryd.zeroValue4
  t5 := Tryd.underlying5
  a5 := Tryd.isAgg5
  z5 := Tryd.sizeOf5
  v5 := Tryd.zeroValue5
  t9 := Tryd.underlying9
  a9 := Tryd.isAgg9
  z9 := Tryd.sizeOf9
  v9 := Tryd.zeroValue9
  t20 := Tryd.underlying20
  a20 := Tryd.isAgg20
  z20 := Tryd.sizeOf20
  v20 := Tryd.zeroValue20
  t37 := Tryd.underlying26
  a37 := Tryd.isAgg26
  z37 := Tryd.sizeOf26
  v37 := Tryd.zeroValue26
  t46 := Tryd.underlying127
  a46 := Tryd.isAgg127
  z46 := Tryd.sizeOf127
  v46 := Tryd.zeroValue127
  t51 := Tryd.underlying130
  a51 := Tryd.isAgg130
  z51 := Tryd.sizeOf130
  v51 := Tryd.zeroValue130
  t53 := Tryd.underlying121
  a53 := Tryd.isAgg121
  z53 := Tryd.sizeOf121
  v53 := Tryd.zeroValue121
  t171 := Tryd.underlying120
  a171 := Tryd.isAgg120
  z171 := Tryd.sizeOf120
  v171 := Tryd.zeroValue120
  t173 := Tryd.underlying124
  a173 := Tryd.isAgg124
  z173 := Tryd.sizeOf124
  v173 := Tryd.zeroValue124
  t212 := Tryd.underlying129
  a212 := Tryd.isAgg129
  z212 := Tryd.sizeOf129
  v212 := Tryd.zeroValue129
  t213 := Tryd.underlying131
  a213 := Tryd.isAgg131
  z213 := Tryd.sizeOf131
  t232 := Tryd.underlying141
  a232 := Tryd.isAgg141
  z232 := Tryd.sizeOf141
  v232 := Tryd.zeroValue141
  t233 := Tryd.underlying142
  a233 := Tryd.isAgg142
  z233 := Tryd.sizeOf142
  v233 := Tryd.zeroValue142
  g17 := by kernel_rfl
  g18 := by kernel_rfl
  g19 := by kernel_rfl }
open Go.RowKit Go.Sort Go.Lib in
theorem Tryd.strconv_Itoa_small (i : Nat) (hi : i < 100) (w : World) :
    Calls Tryd.prog 38 #[.int .i64 i] w fun e w' => e = .returned (.string ⟨(Lib.decDigits i).toArray⟩) ∧ w' = w := Any.strconv_Itoa_small Tryd.lays171 i hi w
def Tryd.lays217_ren : Go.Shelf.Ren := ⟨fun | 217 => 77 | 266 => 86 | n => n, fun | 9 => 9 | 5 => 5 | 3 => 3 | n => n, fun | n => n⟩
theorem Tryd.lays217 : Go.Proofs.Lays.n217 Tryd.prog Tryd.lays217_ren := {
  mixed := by kernel_rfl
  f217 := Tryd.func77.trans (congrArg some (by kernel_rfl))
  f266 := Tryd.func86.trans (congrArg some (by kernel_rfl))
  t3 := Tryd.underlying3
  a3 := Tryd.isAgg3
  z3 := Tryd.sizeOf3
  v3 := Tryd.zeroValue3
  t5 := Tryd.underlying5
  a5 := Tryd.isAgg5
  z5 := Tryd.sizeOf5
  v5 := Tryd.zeroValue5
  t9 := Tryd.underlying9
  a9 := Tryd.isAgg9
  z9 := Tryd.sizeOf9
  v9 := Tryd.zeroValue9 }
open Go.RowKit Go.Lib in
theorem Tryd.stringslite_IndexByte (s : ByteArray) (c : Int) (w : World) :
    Calls Tryd.prog 77 #[.string s, .int .u8 c] w fun e w' => e = .returned (.int .i64 (Lib.indexByte s.data.toList c.toNat.toUInt8)) ∧ w' = w := Any.stringslite_IndexByte Tryd.lays217 s c w
def Tryd.lays224_ren : Go.Shelf.Ren := ⟨fun | 224 => 79 | n => n, fun | 3 => 3 | n => n, fun | n => n⟩
theorem Tryd.lays224 : Go.Proofs.Lays.n224 Tryd.prog Tryd.lays224_ren := {
  mixed := by kernel_rfl
  f224 := Tryd.func79.trans (congrArg some (by kernel_rfl))
  t3 := Tryd.underlying3
  a3 := Tryd.isAgg3
  z3 := Tryd.sizeOf3
  v3 := Tryd.zeroValue3 }
open Go.RowKit Go.Lib in
theorem Tryd.bytealg_Cutover (n : Int) (h0 : 0 ≤ n) (h1 : n < 4611686018427387904) (w : World) :
    Calls Tryd.prog 79 #[.int .i64 n] w fun e w' => e = .returned (.int .i64 ((n + 16) / 8)) ∧ w' = w := Any.bytealg_Cutover Tryd.lays224 n h0 h1 w
def Tryd.lays314_ren : Go.Shelf.Ren := ⟨fun | 314 => 87 | n => n, fun | 9 => 9 | 51 => 130 | 3 => 3 | 4 => 4 | 5 => 5 | 46 => 127 | n => n, fun | n => n⟩
theorem Tryd.lays314 : Go.Proofs.Lays.n314 Tryd.prog Tryd.lays314_ren := {
  mixed := by kernel_rfl
  f314 := Tryd.func87.trans (congrArg some (by kernel_rfl))
  t3 := Tryd.underlying3
  a3 := Tryd.isAgg3
  z3 := Tryd.sizeOf3
  v3 := Tryd.zeroValue3
  t4 := Tryd.underlying4
  a4 := Tryd.isAgg4
  z4 := Tryd.sizeOf4
  v4 := Tryd.zeroValue4
  t5 := Tryd.underlying5
  a5 := Tryd.isAgg5
  z5 := Tryd.sizeOf5
  v5 := Tryd.zeroValue5
  t9 := Tryd.underlying9
  a9 := Tryd.isAgg9
  z9 := Tryd.sizeOf9
  v9 := Tryd.zeroValue9
  t46 := Tryd.underlying127
  a46 := Tryd.isAgg127
  z46 := Tryd.sizeOf127
  v46 := Tryd.zeroValue127
  t51 := Tryd.underlying130
  a51 := Tryd.isAgg130
  z51 := Tryd.sizeOf130
  v51 := Tryd.zeroValue130 }
open Go.RowKit Go.Lib in
theorem Tryd.bytealg_hashStr (sep : ByteArray) (hs : sep.size < 4294967281) (w : World) :
    Calls Tryd.prog 87 #[.string sep] w fun e w' => e = .returned (.tuple #[.int .u32 (RK.H sep.data.toList % 4294967296), .int .u32 (16777619 ^ sep.size % 4294967296)]) ∧ w' = w := Any.bytealg_hashStr Tryd.lays314 sep hs w
def Tryd.lays267_ren : Go.Shelf.Ren := ⟨fun | 267 => 80 | 314 => 87 | n => n, fun | 9 => 9 | 3 => 3 | 146 => 138 | 51 => 130 | 4 => 4 | 5 => 5 | 46 => 127 | n => n, fun | n => n⟩
theorem Tryd.lays267 : Go.Proofs.Lays.n267 Tryd.prog Tryd.lays267_ren := {
  mixed := by kernel_rfl
  f267 := Tryd.func80.trans (congrArg some (by kernel_rfl))
  f314 := Tryd.func87.trans (congrArg some (by kernel_rfl))
  t3 := Tryd.underlying3
  a3 := Tryd.isAgg3
  z3 := Tryd.sizeOf3
  v3 := Tryd.zeroValue3
  t4 := Tryd.underlying4
  a4 := Tryd.isAgg4
  z4 := Tryd.sizeOf4
  v4 := Tryd.zeroValue4
  t5 := Tryd.underlying5
  a5 := Tryd.isAgg5
  z5 := Tryd.sizeOf5
  v5 := Tryd.zeroValue5
  t9 := Tryd.underlying9
  a9 := Tryd.isAgg9
  z9 := Tryd.sizeOf9
  v9 := Tryd.zeroValue9
  t46 := Tryd.underlying127
  a46 := Tryd.isAgg127
  z46 := Tryd.sizeOf127
  v46 := Tryd.zeroValue127
  t51 := Tryd.underlying130
  a51 := Tryd.isAgg130
  z51 := Tryd.sizeOf130
  v51 := Tryd.zeroValue130
  t146 := Tryd.underlying138
  a146 := Tryd.isAgg138
  z146 := Tryd.sizeOf138
  v146 := Tryd.zeroValue138 }
open Go.RowKit Go.Lib in
theorem Tryd.bytealg_IndexRabinKarp (s sep : ByteArray) (h1 : 1 ≤ sep.size) (h2 : sep.size ≤ s.size) (hs : s.size < 4294967281) (w : World) :
    Calls Tryd.prog 80 #[.string s, .string sep] w fun e w' => e = .returned (.int .i64 (Lib.index s.data.toList sep.data.toList)) ∧ w' = w := Any.bytealg_IndexRabinKarp Tryd.lays267 s sep h1 h2 hs w
def Tryd.lays219_ren : Go.Shelf.Ren := ⟨fun | 219 => 70 | 217 => 77 | 225 => 78 | 224 => 79 | 267 => 80 | 266 => 86 | 314 => 87 | n => n, fun | 9 => 9 | 3 => 3 | 4 => 4 | 5 => 5 | 46 => 127 | 146 => 138 | 51 => 130 | n => n, fun | 1 => 0 | n => n⟩
theorem Tryd.lays219 : Go.Proofs.Lays.n219 Tryd.prog Tryd.lays219_ren := {
  mixed := by kernel_rfl
  f217 := Tryd.func77.trans (congrArg some (by kernel_rfl))
  f219 := Tryd.func70.trans (congrArg some (by kernel_rfl))
  f224 := Tryd.func79.trans (congrArg some (by kernel_rfl))
  f225 := Tryd.func78.trans (congrArg some (by kernel_rfl))
  f266 := Tryd.func86.trans (congrArg some (by kernel_rfl))
  f267 := Tryd.func80.trans (congrArg some (by kernel_rfl))
  f314 := Tryd.func87.trans (congrArg some (by kernel_rfl))
  t3 := Tryd.underlying3
  a3 := Tryd.isAgg3
  z3 := Tryd.sizeOf3
  v3 := Tryd.zeroValue3
  t4 := Tryd.underlying4
  a4 := Tryd.isAgg4
  z4 := Tryd.sizeOf4
  v4 := Tryd.zeroValue4
  t5 := Tryd.underlying5
  a5 := Tryd.isAgg5
  z5 := Tryd.sizeOf5
  v5 := Tryd.zeroValue5
  t9 := Tryd.underlying9
  a9 := Tryd.isAgg9
  z9 := Tryd.sizeOf9
  v9 := Tryd.zeroValue9
  t46 := Tryd.underlying127
  a46 := Tryd.isAgg127
  z46 := Tryd.sizeOf127
  v46 := Tryd.zeroValue127
  t51 := Tryd.underlying130
  a51 := Tryd.isAgg130
  z51 := Tryd.sizeOf130
  v51 := Tryd.zeroValue130
  t146 := Tryd.underlying138
  a146 := Tryd.isAgg138
  z146 := Tryd.sizeOf138
  v146 := Tryd.zeroValue138
  g1 := by kernel_rfl }
open Go.RowKit Go.Lib in
theorem Tryd.stringslite_Index_one (s : ByteArray) (c : UInt8) (w : World) :
    Calls Tryd.prog 70 #[.string s, .string ⟨#[c]⟩] w fun e w' => e = .returned (.int .i64 (Lib.indexByte s.data.toList c)) ∧ w' = w := Any.stringslite_Index_one Tryd.lays219 s c w
open Go.RowKit Go.Lib in
theorem Tryd.stringslite_Index (s sub : ByteArray) (m : Int) (w : World) (hs : s.size < 4294967281) (hm : w.cell? ⟨0, 0, none⟩ = some (.int .i64 m)) :
    Calls Tryd.prog 70 #[.string s, .string sub] w fun e w' => e = .returned (.int .i64 (Lib.index s.data.toList sub.data.toList)) ∧ w' = w := Any.stringslite_Index Tryd.lays219 s sub m w hs hm
def Tryd.lays143_ren : Go.Shelf.Ren := ⟨fun | 143 => 61 | 219 => 70 | 217 => 77 | 225 => 78 | 224 => 79 | 267 => 80 | 266 => 86 | 314 => 87 | n => n, fun | 9 => 9 | 3 => 3 | 4 => 4 | 5 => 5 | 46 => 127 | 146 => 138 | 51 => 130 | n => n, fun | 1 => 0 | n => n⟩
theorem Tryd.lays143 : Go.Proofs.Lays.n143 Tryd.prog Tryd.lays143_ren := {
  mixed := by kernel_rfl
  f143 := Tryd.func61.trans (congrArg some (by kernel_rfl))
  f217 := Tryd.func77.trans (congrArg some (by kernel_rfl))
  f219 := Tryd.func70.trans (congrArg some (by kernel_rfl))
  f224 := Tryd.func79.trans (congrArg some (by kernel_rfl))
  f225 := Tryd.func78.trans (congrArg some (by kernel_rfl))
  f266 := Tryd.func86.trans (congrArg some (by kernel_rfl))
  f267 := Tryd.func80.trans (congrArg some (by kernel_rfl))
  f314 := Tryd.func87.trans (congrArg some (by kernel_rfl))
  t3 := Tryd.underlying3
  a3 := Tryd.isAgg3
  z3 := Tryd.sizeOf3
  v3 := Tryd.zeroValue3
  t4 := Tryd.underlying4
  a4 := Tryd.isAgg4
  z4 := Tryd.sizeOf4
  v4 := Tryd.zeroValue4
  t5 := Tryd.underlying5
  a5 := Tryd.isAgg5
  z5 := Tryd.sizeOf5
  v5 := Tryd.zeroValue5
  t9 := Tryd.underlying9
  a9 := Tryd.isAgg9
  z9 := Tryd.sizeOf9
  v9 := Tryd.zeroValue9
  t46 := Tryd.underlying127
  a46 := Tryd.isAgg127
  z46 := Tryd.sizeOf127
  v46 := Tryd.zeroValue127
  t51 := Tryd.underlying130
  a51 := Tryd.isAgg130
  z51 := Tryd.sizeOf130
  v51 := Tryd.zeroValue130
  t146 := Tryd.underlying138
  a146 := Tryd.isAgg138
  z146 := Tryd.sizeOf138
  v146 := Tryd.zeroValue138
  g1 := by kernel_rfl }
open Go.RowKit Go.Lib in
theorem Tryd.strings_Index_one (s : ByteArray) (c : UInt8) (w : World) :
    Calls Tryd.prog 61 #[.string s, .string ⟨#[c]⟩] w fun e w' => e = .returned (.int .i64 (Lib.indexByte s.data.toList c)) ∧ w' = w := Any.strings_Index_one Tryd.lays143 s c w
open Go.RowKit Go.Lib in
theorem Tryd.strings_Index (s sub : ByteArray) (m : Int) (w : World) (hs : s.size < 4294967281) (hm : w.cell? ⟨0, 0, none⟩ = some (.int .i64 m)) :
    Calls Tryd.prog 61 #[.string s, .string sub] w fun e w' => e = .returned (.int .i64 (Lib.index s.data.toList sub.data.toList)) ∧ w' = w := Any.strings_Index Tryd.lays143 s sub m w hs hm
def Tryd.lays220_ren : Go.Shelf.Ren := ⟨fun | 220 => 71 | 219 => 70 | 217 => 77 | 225 => 78 | 224 => 79 | 267 => 80 | 266 => 86 | 314 => 87 | n => n, fun | 9 => 9 | 4 => 4 | 3 => 3 | 5 => 5 | 46 => 127 | 146 => 138 | 51 => 130 | n => n, fun | 1 => 0 | n => n⟩
theorem Tryd.lays220 : Go.Proofs.Lays.n220 Tryd.prog Tryd.lays220_ren := {
  mixed := by kernel_rfl
  f217 := Tryd.func77.trans (congrArg some (by kernel_rfl))
  f219 := Tryd.func70.trans (congrArg some (by kernel_rfl))
  f220 := Tryd.func71.trans (congrArg some (by kernel_rfl))
  f224 := Tryd.func79.trans (congrArg some (by kernel_rfl))
  f225 := Tryd.func78.trans (congrArg some (by kernel_rfl))
  f266 := Tryd.func86.trans (congrArg some (by kernel_rfl))
  f267 := Tryd.func80.trans (congrArg some (by kernel_rfl))
  f314 := Tryd.func87.trans (congrArg some (by kernel_rfl))
  t3 := Tryd.underlying3
  a3 := Tryd.isAgg3
  z3 := Tryd.sizeOf3
  v3 := Tryd.zeroValue3
  t4 := Tryd.underlying4
  a4 := Tryd.isAgg4
  z4 := Tryd.sizeOf4
  v4 := Tryd.zeroValue4
  t5 := Tryd.underlying5
  a5 := Tryd.isAgg5
  z5 := Tryd.sizeOf5
  v5 := Tryd.zeroValue5
  t9 := Tryd.underlying9
  a9 := Tryd.isAgg9
  z9 := Tryd.sizeOf9
  v9 := Tryd.zeroValue9
  t46 := Tryd.underlying127
  a46 := Tryd.isAgg127
  z46 := Tryd.sizeOf127
  v46 := Tryd.zeroValue127
  t51 := Tryd.underlying130
  a51 := Tryd.isAgg130
  z51 := Tryd.sizeOf130
  v51 := Tryd.zeroValue130
  t146 := Tryd.underlying138
  a146 := Tryd.isAgg138
  z146 := Tryd.sizeOf138
  v146 := Tryd.zeroValue138
  g1 := by kernel_rfl }
open Go.RowKit Go.Lib in
theorem Tryd.stringslite_Cut (s sep : ByteArray) (m : Int) (w : World) (hs : s.size < 4294967281) (hm : w.cell? ⟨0, 0, none⟩ = some (.int .i64 m)) :
    Calls Tryd.prog 71 #[.string s, .string sep] w fun e w' => e = .returned (.tuple #[.string ⟨(Lib.cut s.data.toList sep.data.toList).1.toArray⟩, .string ⟨(Lib.cut s.data.toList sep.data.toList).2.1.toArray⟩, .bool (Lib.cut s.data.toList sep.data.toList).2.2]) ∧ ∃ n, w' = w.drewN n := Any.stringslite_Cut Tryd.lays220 s sep m w hs hm
def Tryd.lays145_ren : Go.Shelf.Ren := ⟨fun | 145 => 62 | 220 => 71 | 219 => 70 | 217 => 77 | 225 => 78 | 224 => 79 | 267 => 80 | 266 => 86 | 314 => 87 | n => n, fun | 9 => 9 | 4 => 4 | 59 => 100 | 3 => 3 | 5 => 5 | 46 => 127 | 146 => 138 | 51 => 130 | n => n, fun | 1 => 0 | n => n⟩
theorem Tryd.lays145 : Go.Proofs.Lays.n145 Tryd.prog Tryd.lays145_ren := {
  mixed := by kernel_rfl
  f145 := Tryd.func62.trans (congrArg some (by kernel_rfl))
  f217 := Tryd.func77.trans (congrArg some (by kernel_rfl))
  f219 := Tryd.func70.trans (congrArg some (by kernel_rfl))
  f220 := Tryd.func71.trans (congrArg some (by kernel_rfl))
  f224 := Tryd.func79.trans (congrArg some (by kernel_rfl))
  f225 := Tryd.func78.trans (congrArg some (by kernel_rfl))
  f266 := Tryd.func86.trans (congrArg some (by kernel_rfl))
  f267 := Tryd.func80.trans (congrArg some (by kernel_rfl))
  f314 := Tryd.func87.trans (congrArg some (by kernel_rfl))
  t3 := Tryd.underlying3
  a3 := Tryd.isAgg3
  z3 := Tryd.sizeOf3
  v3 := Tryd.zeroValue3
  t4 := Tryd.underlying4
  a4 := Tryd.isAgg4
  z4 := Tryd.sizeOf4
  v4 := Tryd.zeroValue4
  t5 := Tryd.underlying5
  a5 := Tryd.isAgg5
  z5 := Tryd.sizeOf5
  v5 := Tryd.zeroValue5
  t9 := Tryd.underlying9
  a9 := Tryd.isAgg9
  z9 := Tryd.sizeOf9
  v9 := Tryd.zeroValue9
  t46 := Tryd.underlying127
  a46 := Tryd.isAgg127
  z46 := Tryd.sizeOf127
  v46 := Tryd.zeroValue127
  t51 := Tryd.underlying130
  a51 := Tryd.isAgg130
  z51 := Tryd.sizeOf130
  v51 := Tryd.zeroValue130
  t59 := Tryd.underlying100
  a59 := Tryd.isAgg100
  z59 := Tryd.sizeOf100
  v59 := Tryd.zeroValue100
  t146 := Tryd.underlying138
  a146 := Tryd.isAgg138
  z146 := Tryd.sizeOf138
  v146 := Tryd.zeroValue138
  g1 := by kernel_rfl }
open Go.RowKit Go.Lib in
theorem Tryd.strings_Cut (s sep : ByteArray) (m : Int) (w : World) (hs : s.size < 4294967281) (hm : w.cell? ⟨0, 0, none⟩ = some (.int .i64 m)) :
    Calls Tryd.prog 62 #[.string s, .string sep] w fun e w' => e = .returned (.tuple #[.string ⟨(Lib.cut s.data.toList sep.data.toList).1.toArray⟩, .string ⟨(Lib.cut s.data.toList sep.data.toList).2.1.toArray⟩, .bool (Lib.cut s.data.toList sep.data.toList).2.2]) ∧ ∃ n, w' = w.drewN n := Any.strings_Cut Tryd.lays145 s sep m w hs hm
def Tryd.lays138_ren : Go.Shelf.Ren := ⟨fun | 138 => 60 | 195 => 67 | 218 => 69 | 143 => 61 | 219 => 70 | 217 => 77 | 225 => 78 | 224 => 79 | 267 => 80 | 266 => 86 | 314 => 87 | n => n, fun | 9 => 9 | 3 => 3 | 4 => 4 | 5 => 5 | 0 => 0 | 46 => 127 | 146 => 138 | 51 => 130 | n => n, fun | 1 => 0 | n => n⟩
theorem Tryd.lays138 : Go.Proofs.Lays.n138 Tryd.prog Tryd.lays138_ren := {
  mixed := by kernel_rfl
  f138 := Tryd.func60.trans (congrArg some (by kernel_rfl))
  f143 := Tryd.func61.trans (congrArg some (by kernel_rfl))
  f195 := Tryd.func67.trans (congrArg some (by kernel_rfl))
  f217 := Tryd.func77.trans (congrArg some (by kernel_rfl))
  f218 := Tryd.func69.trans (congrArg some (by kernel_rfl))
  f219 := Tryd.func70.trans (congrArg some (by kernel_rfl))
  f224 := Tryd.func79.trans (congrArg some (by kernel_rfl))
  f225 := Tryd.func78.trans (congrArg some (by kernel_rfl))
  f266 := Tryd.func86.trans (congrArg some (by kernel_rfl))
  f267 := Tryd.func80.trans (congrArg some (by kernel_rfl))
  f314 := Tryd.func87.trans (congrArg some (by kernel_rfl))
  t0 := Tryd.underlying0
  a0 := Tryd.isAgg0
  z0 := Tryd.sizeOf0
  v0 := Tryd.zeroValue0
  t3 := Tryd.underlying3
  a3 := Tryd.isAgg3
  z3 := Tryd.sizeOf3
  v3 := Tryd.zeroValue3
  t4 := Tryd.underlying4
  a4 := Tryd.isAgg4
  z4 := Tryd.sizeOf4
  v4 := Tryd.zeroValue4
  t5 := Tryd.underlying5
  a5 := Tryd.isAgg5
  z5 := Tryd.sizeOf5
  v5 := Tryd.zeroValue5
  t9 := Tryd.underlying9
  a9 := Tryd.isAgg9
  z9 := Tryd.sizeOf9
  v9 := Tryd.zeroValue9
  t46 := Tryd.underlying127
  a46 := Tryd.isAgg127
  z46 := Tryd.sizeOf127
  v46 := Tryd.zeroValue127
  t51 := Tryd.underlying130
  a51 := Tryd.isAgg130
  z51 := Tryd.sizeOf130
  v51 := Tryd.zeroValue130
  t146 := Tryd.underlying138
  a146 := Tryd.isAgg138
  z146 := Tryd.sizeOf138
  v146 := Tryd.zeroValue138
  g1 := by kernel_rfl }
open Go.RowKit Go.Lib in
theorem Tryd.strings_Count_one (s : ByteArray) (c : UInt8) (w : World) :
    Calls Tryd.prog 60 #[.string s, .string ⟨#[c]⟩] w fun e w' => e = .returned (.int .i64 (Lib.countByte s.data.toList c)) ∧ w' = w := Any.strings_Count_one Tryd.lays138 s c w
open Go.RowKit Go.Lib in
theorem Tryd.strings_Count (s sub : ByteArray) (m : Int) (w : World) (hs : s.size < 4294967281) (hm : w.cell? ⟨0, 0, none⟩ = some (.int .i64 m)) (h2 : 2 ≤ sub.size) :
    Calls Tryd.prog 60 #[.string s, .string sub] w fun e w' => e = .returned (.int .i64 (Lib.countB s sub)) ∧ w' = w := Any.strings_Count Tryd.lays138 s sub m w hs hm h2
def Tryd.laysM219_ren : Go.Shelf.Ren := ⟨fun | 219 => 70 | 217 => 77 | 225 => 78 | 224 => 79 | 267 => 80 | 266 => 86 | 314 => 87 | n => n, fun | 9 => 9 | 3 => 3 | 4 => 4 | 5 => 5 | 46 => 127 | 146 => 138 | 51 => 130 | n => n, fun | 1 => 0 | n => n⟩
theorem Tryd.laysM219 : Go.Proofs.LaysM.n219 Tryd.prog Tryd.laysM219_ren := {
  mixed := by kernel_rfl
  f217 := Tryd.func77.trans (congrArg some (by kernel_rfl))
  f219 := Tryd.func70.trans (congrArg some (by kernel_rfl))
  f224 := Tryd.func79.trans (congrArg some (by kernel_rfl))
  f225 := Tryd.func78.trans (congrArg some (by kernel_rfl))
  f266 := Tryd.func86.trans (congrArg some (by kernel_rfl))
  f267 := Tryd.func80.trans (congrArg some (by kernel_rfl))
  f314 := Tryd.func87.trans (congrArg some (by kernel_rfl))
  t3 := Tryd.underlying3
  a3 := Tryd.isAgg3
  z3 := Tryd.sizeOf3
  v3 := Tryd.zeroValue3
  t4 := Tryd.underlying4
  a4 := Tryd.isAgg4
  z4 := Tryd.sizeOf4
  v4 := Tryd.zeroValue4
  t5 := Tryd.underlying5
  a5 := Tryd.isAgg5
  z5 := Tryd.sizeOf5
  v5 := Tryd.zeroValue5
  t9 := Tryd.underlying9
  a9 := Tryd.isAgg9
  z9 := Tryd.sizeOf9
  v9 := Tryd.zeroValue9
  t46 := Tryd.underlying127
  a46 := Tryd.isAgg127
  z46 := Tryd.sizeOf127
  v46 := Tryd.zeroValue127
  t51 := Tryd.underlying130
  a51 := Tryd.isAgg130
  z51 := Tryd.sizeOf130
  v51 := Tryd.zeroValue130
  t146 := Tryd.underlying138
  a146 := Tryd.isAgg138
  z146 := Tryd.sizeOf138
  v146 := Tryd.zeroValue138
  g1 := by kernel_rfl
  i3 := by kernel_rfl
  i4 := by kernel_rfl
  i5 := by kernel_rfl
  i9 := by kernel_rfl
  i46 := by kernel_rfl
  i51 := by kernel_rfl
  i146 := by kernel_rfl
  m1 := by kernel_rfl
  s1_3 := fun w h => Go.Proofs.cell_of_shapedOpen_int (zero := #[.int .i64 0]) (t := 3) h (of_decide_eq_true (by kernel_rfl)) (by kernel_rfl) rfl (by kernel_rfl) (by kernel_rfl) Tryd.underlying3 }
open Go.RowKit Go.Lib in
theorem Tryd.stringslite_Index_shaped (s sub : ByteArray) (w : World) (h : w.ShapedOpen Tryd.prog) (hs : s.size < 4294967281) :
    Calls Tryd.prog 70 #[.string s, .string sub] w fun e w' => e = .returned (.int .i64 (Lib.index s.data.toList sub.data.toList)) ∧ w' = w := Any.stringslite_Index_shaped Tryd.laysM219 s sub w h hs
def Tryd.laysM143_ren : Go.Shelf.Ren := ⟨fun | 143 => 61 | 219 => 70 | 217 => 77 | 225 => 78 | 224 => 79 | 267 => 80 | 266 => 86 | 314 => 87 | n => n, fun | 9 => 9 | 3 => 3 | 4 => 4 | 5 => 5 | 46 => 127 | 146 => 138 | 51 => 130 | n => n, fun | 1 => 0 | n => n⟩
theorem Tryd.laysM143 : Go.Proofs.LaysM.n143 Tryd.prog Tryd.laysM143_ren := {
  mixed := by kernel_rfl
  f143 := Tryd.func61.trans (congrArg some (by kernel_rfl))
  f217 := Tryd.func77.trans (congrArg some (by kernel_rfl))
  f219 := Tryd.func70.trans (congrArg some (by kernel_rfl))
  f224 := Tryd.func79.trans (congrArg some (by kernel_rfl))
  f225 := Tryd.func78.trans (congrArg some (by kernel_rfl))
  f266 := Tryd.func86.trans (congrArg some (by kernel_rfl))
  f267 := Tryd.func80.trans (congrArg some (by kernel_rfl))
  f314 := Tryd.func87.trans (congrArg some (by kernel_rfl))
  t3 := Tryd.underlying3
  a3 := Tryd.isAgg3
  z3 := Tryd.sizeOf3
  v3 := Tryd.zeroValue3
  t4 := Tryd.underlying4
  a4 := Tryd.isAgg4
  z4 := Tryd.sizeOf4
  v4 := Tryd.zeroValue4
  t5 := Tryd.underlying5
  a5 := Tryd.isAgg5
  z5 := Tryd.sizeOf5
  v5 := Tryd.zeroValue5
  t9 := Tryd.underlying9
  a9 := Tryd.isAgg9
  z9 := Tryd.sizeOf9
  v9 := Tryd.zeroValue9
  t46 := Tryd.underlying127
  a46 := Tryd.isAgg127
  z46 := Tryd.sizeOf127
  v46 := Tryd.zeroValue127
  t51 := Tryd.underlying130
  a51 := Tryd.isAgg130
  z51 := Tryd.sizeOf130
  v51 := Tryd.zeroValue130
  t146 := Tryd.underlying138
  a146 := Tryd.isAgg138
  z146 := Tryd.sizeOf138
  v146 := Tryd.zeroValue138
  g1 := by kernel_rfl
  i3 := by kernel_rfl
  i4 := by kernel_rfl
  i5 := by kernel_rfl
  i9 := by kernel_rfl
  i46 := by kernel_rfl
  i51 := by kernel_rfl
  i146 := by kernel_rfl
  m1 := by kernel_rfl
  s1_3 := fun w h => Go.Proofs.cell_of_shapedOpen_int (zero := #[.int .i64 0]) (t := 3) h (of_decide_eq_true (by kernel_rfl)) (by kernel_rfl) rfl (by kernel_rfl) (by kernel_rfl) Tryd.underlying3 }
open Go.RowKit Go.Lib in
theorem Tryd.strings_Index_shaped (s sub : ByteArray) (w : World) (h : w.ShapedOpen Tryd.prog) (hs : s.size < 4294967281) :
    Calls Tryd.prog 61 #[.string s, .string sub] w fun e w' => e = .returned (.int .i64 (Lib.index s.data.toList sub.data.toList)) ∧ w' = w := Any.strings_Index_shaped Tryd.laysM143 s sub w h hs
def Tryd.laysM220_ren : Go.Shelf.Ren := ⟨fun | 220 => 71 | 219 => 70 | 217 => 77 | 225 => 78 | 224 => 79 | 267 => 80 | 266 => 86 | 314 => 87 | n => n, fun | 9 => 9 | 4 => 4 | 3 => 3 | 5 => 5 | 46 => 127 | 146 => 138 | 51 => 130 | n => n, fun | 1 => 0 | n => n⟩
theorem Tryd.laysM220 : Go.Proofs.LaysM.n220 Tryd.prog Tryd.laysM220_ren := {
  mixed := by kernel_rfl
  f217 := Tryd.func77.trans (congrArg some (by kernel_rfl))
  f219 := Tryd.func70.trans (congrArg some (by kernel_rfl))
  f220 := Tryd.func71.trans (congrArg some (by kernel_rfl))
  f224 := Tryd.func79.trans (congrArg some (by kernel_rfl))
  f225 := Tryd.func78.trans (congrArg some (by kernel_rfl))
  f266 := Tryd.func86.trans (congrArg some (by kernel_rfl))
  f267 := Tryd.func80.trans (congrArg some (by kernel_rfl))
  f314 := Tryd.func87.trans (congrArg some (by kernel_rfl))
  t3 := Tryd.underlying3
  a3 := Tryd.isAgg3
  z3 := Tryd.sizeOf3
  v3 := Tryd.zeroValue3
  t4 := Tryd.underlying4
  a4 := Tryd.isAgg4
  z4 := Tryd.sizeOf4
  v4 := Tryd.zeroValue4
  t5 := Tryd.underlying5
  a5 := Tryd.isAgg5
  z5 := Tryd.sizeOf5
  v5 := Tryd.zeroValue5
  t9 := Tryd.underlying9
  a9 := Tryd.isAgg9
  z9 := Tryd.sizeOf9
  v9 := Tryd.zeroValue9
  t46 := Tryd.underlying127
  a46 := Tryd.isAgg127
  z46 := Tryd.sizeOf127
  v46 := Tryd.zeroValue127
  t51 := Tryd.underlying130
  a51 := Tryd.isAgg130
  z51 := Tryd.sizeOf130
  v51 := Tryd.zeroValue130
  t146 := Tryd.underlying138
  a146 := Tryd.isAgg138
  z146 := Tryd.sizeOf138
  v146 := Tryd.zeroValue138
  g1 := by kernel_rfl
  i3 := by kernel_rfl
  i4 := by kernel_rfl
  i5 := by kernel_rfl
  i9 := by kernel_rfl
  i46 := by kernel_rfl
  i51 := by kernel_rfl
  i146 := by kernel_rfl
  m1 := by kernel_rfl
  s1_3 := fun w h => Go.Proofs.cell_of_shapedOpen_int (zero := #[.int .i64 0]) (t := 3) h (of_decide_eq_true (by kernel_rfl)) (by kernel_rfl) rfl (by kernel_rfl) (by kernel_rfl) Tryd.underlying3 }
open Go.RowKit Go.Lib in
theorem Tryd.stringslite_Cut_shaped (s sep : ByteArray) (w : World) (h : w.ShapedOpen Tryd.prog) (hs : s.size < 4294967281) :
    Calls Tryd.prog 71 #[.string s, .string sep] w fun e w' => e = .returned (.tuple #[.string ⟨(Lib.cut s.data.toList sep.data.toList).1.toArray⟩, .string ⟨(Lib.cut s.data.toList sep.data.toList).2.1.toArray⟩, .bool (Lib.cut s.data.toList sep.data.toList).2.2]) ∧ ∃ n, w' = w.drewN n := Any.stringslite_Cut_shaped Tryd.laysM220 s sep w h hs
def Tryd.laysM145_ren : Go.Shelf.Ren := ⟨fun | 145 => 62 | 220 => 71 | 219 => 70 | 217 => 77 | 225 => 78 | 224 => 79 | 267 => 80 | 266 => 86 | 314 => 87 | n => n, fun | 9 => 9 | 4 => 4 | 59 => 100 | 3 => 3 | 5 => 5 | 46 => 127 | 146 => 138 | 51 => 130 | n => n, fun | 1 => 0 | n => n⟩
theorem Tryd.laysM145 : Go.Proofs.LaysM.n145 Tryd.prog Tryd.laysM145_ren := {
  mixed := by kernel_rfl
  f145 := Tryd.func62.trans (congrArg some (by kernel_rfl))
  f217 := Tryd.func77.trans (congrArg some (by kernel_rfl))
  f219 := Tryd.func70.trans (congrArg some (by kernel_rfl))
  f220 := Tryd.func71.trans (congrArg some (by kernel_rfl))
  f224 := Tryd.func79.trans (congrArg some (by kernel_rfl))
  f225 := Tryd.func78.trans (congrArg some (by kernel_rfl))
  f266 := Tryd.func86.trans (congrArg some (by kernel_rfl))
  f267 := Tryd.func80.trans (congrArg some (by kernel_rfl))
  f314 := Tryd.func87.trans (congrArg some (by kernel_rfl))
  t3 := Tryd.underlying3
  a3 := Tryd.isAgg3
  z3 := Tryd.sizeOf3
  v3 := Tryd.zeroValue3
  t4 := Tryd.underlying4
  a4 := Tryd.isAgg4
  z4 := Tryd.sizeOf4
  v4 := Tryd.zeroValue4
  t5 := Tryd.underlying5
  a5 := Tryd.isAgg5
  z5 := Tryd.sizeOf5
  v5 := Tryd.zeroValue5
  t9 := Tryd.underlying9
  a9 := Tryd.isAgg9
  z9 := Tryd.sizeOf9
  v9 := Tryd.zeroValue9
  t46 := Tryd.underlying127
  a46 := Tryd.isAgg127
  z46 := Tryd.sizeOf127
  v46 := Tryd.zeroValue127
  t51 := Tryd.underlying130
  a51 := Tryd.isAgg130
  z51 := Tryd.sizeOf130
  v51 := Tryd.zeroValue130
  t59 := Tryd.underlying100
  a59 := Tryd.isAgg100
  z59 := Tryd.sizeOf100
  v59 := Tryd.zeroValue100
  t146 := Tryd.underlying138
  a146 := Tryd.isAgg138
  z146 := Tryd.sizeOf138
  v146 := Tryd.zeroValue138
  g1 := by kernel_rfl
  i3 := by kernel_rfl
  i4 := by kernel_rfl
  i5 := by kernel_rfl
  i9 := by kernel_rfl
  i46 := by kernel_rfl
  i51 := by kernel_rfl
  i59 := by kernel_rfl
  i146 := by kernel_rfl
  m1 := by kernel_rfl
  s1_3 := fun w h => Go.Proofs.cell_of_shapedOpen_int (zero := #[.int .i64 0]) (t := 3) h (of_decide_eq_true (by kernel_rfl)) (by kernel_rfl) rfl (by kernel_rfl) (by kernel_rfl) Tryd.underlying3 }
open Go.RowKit Go.Lib in
theorem Tryd.strings_Cut_shaped (s sep : ByteArray) (w : World) (h : w.ShapedOpen Tryd.prog) (hs : s.size < 4294967281) :
    Calls Tryd.prog 62 #[.string s, .string sep] w fun e w' => e = .returned (.tuple #[.string ⟨(Lib.cut s.data.toList sep.data.toList).1.toArray⟩, .string ⟨(Lib.cut s.data.toList sep.data.toList).2.1.toArray⟩, .bool (Lib.cut s.data.toList sep.data.toList).2.2]) ∧ ∃ n, w' = w.drewN n := Any.strings_Cut_shaped Tryd.laysM145 s sep w h hs
def Tryd.laysM138_ren : Go.Shelf.Ren := ⟨fun | 138 => 60 | 195 => 67 | 218 => 69 | 143 => 61 | 219 => 70 | 217 => 77 | 225 => 78 | 224 => 79 | 267 => 80 | 266 => 86 | 314 => 87 | n => n, fun | 9 => 9 | 3 => 3 | 4 => 4 | 5 => 5 | 0 => 0 | 46 => 127 | 146 => 138 | 51 => 130 | n => n, fun | 1 => 0 | n => n⟩
theorem Tryd.laysM138 : Go.Proofs.LaysM.n138 Tryd.prog Tryd.laysM138_ren := {
  mixed := by kernel_rfl
  f138 := Tryd.func60.trans (congrArg some (by kernel_rfl))
  f143 := Tryd.func61.trans (congrArg some (by kernel_rfl))
  f195 := Tryd.func67.trans (congrArg some (by kernel_rfl))
  f217 := Tryd.func77.trans (congrArg some (by kernel_rfl))
  f218 := Tryd.func69.trans (congrArg some (by kernel_rfl))
  f219 := Tryd.func70.trans (congrArg some (by kernel_rfl))
  f224 := Tryd.func79.trans (congrArg some (by kernel_rfl))
  f225 := Tryd.func78.trans (congrArg some (by kernel_rfl))
  f266 := Tryd.func86.trans (congrArg some (by kernel_rfl))
  f267 := Tryd.func80.trans (congrArg some (by kernel_rfl))
  f314 := Tryd.func87.trans (congrArg some (by kernel_rfl))
  t0 := Tryd.underlying0
  a0 := Tryd.isAgg0
  z0 := Tryd.sizeOf0
  v0 := Tryd.zeroValue0
  t3 := Tryd.underlying3
  a3 := Tryd.isAgg3
  z3 := Tryd.sizeOf3
  v3 := Tryd.zeroValue3
  t4 := Tryd.underlying4
  a4 := Tryd.isAgg4
  z4 := Tryd.sizeOf4
  v4 := Tryd.zeroValue4
  t5 := Tryd.underlying5
  a5 := Tryd.isAgg5
  z5 := Tryd.sizeOf5
  v5 := Tryd.zeroValue5
  t9 := Tryd.underlying9
  a9 := Tryd.isAgg9
  z9 := Tryd.sizeOf9
  v9 := Tryd.zeroValue9
  t46 := Tryd.underlying127
  a46 := Tryd.isAgg127
  z46 := Tryd.sizeOf127
  v46 := Tryd.zeroValue127
  t51 := Tryd.underlying130
  a51 := Tryd.isAgg130
  z51 := Tryd.sizeOf130
  v51 := Tryd.zeroValue130
  t146 := Tryd.underlying138
  a146 := Tryd.isAgg138
  z146 := Tryd.sizeOf138
  v146 := Tryd.zeroValue138
  g1 := by kernel_rfl
  i0 := by kernel_rfl
  i3 := by kernel_rfl
  i4 := by kernel_rfl
  i5 := by kernel_rfl
  i9 := by kernel_rfl
  i46 := by kernel_rfl
  i51 := by kernel_rfl
  i146 := by kernel_rfl
  m1 := by kernel_rfl
  s1_3 := fun w h => Go.Proofs.cell_of_shapedOpen_int (zero := #[.int .i64 0]) (t := 3) h (of_decide_eq_true (by kernel_rfl)) (by kernel_rfl) rfl (by kernel_rfl) (by kernel_rfl) Tryd.underlying3 }
open Go.RowKit Go.Lib in
theorem Tryd.strings_Count_shaped (s sub : ByteArray) (w : World) (h : w.ShapedOpen Tryd.prog) (hs : s.size < 4294967281) (h2 : 2 ≤ sub.size) :
    Calls Tryd.prog 60 #[.string s, .string sub] w fun e w' => e = .returned (.int .i64 (Lib.countB s sub)) ∧ w' = w := Any.strings_Count_shaped Tryd.laysM138 s sub w h hs h2
def Tryd.lays206_ren : Go.Shelf.Ren := ⟨fun | 206 => 58 | n => n, fun | 9 => 9 | 4 => 4 | 3 => 3 | n => n, fun | n => n⟩
theorem Tryd.lays206 : Go.Proofs.Lays.n206 Tryd.prog Tryd.lays206_ren := {
  mixed := by kernel_rfl
  f206 := Tryd.func58.trans (congrArg some (by kernel_rfl))
  t3 := Tryd.underlying3
  a3 := Tryd.isAgg3
  z3 := Tryd.sizeOf3
  v3 := Tryd.zeroValue3
  t4 := Tryd.underlying4
  a4 := Tryd.isAgg4
  z4 := Tryd.sizeOf4
  v4 := Tryd.zeroValue4
  t9 := Tryd.underlying9
  a9 := Tryd.isAgg9
  z9 := Tryd.sizeOf9
  v9 := Tryd.zeroValue9 }
open Go.RowKit Go.Lib in
theorem Tryd.stringslite_HasPrefix (s p : ByteArray) (w : World) :
    Calls Tryd.prog 58 #[.string s, .string p] w fun e w' => e = .returned (.bool (Lib.hasPrefix s.data.toList p.data.toList)) ∧ w' = w := Any.stringslite_HasPrefix Tryd.lays206 s p w
def Tryd.lays99_ren : Go.Shelf.Ren := ⟨fun | 99 => 41 | 206 => 58 | n => n, fun | 9 => 9 | 4 => 4 | 3 => 3 | n => n, fun | n => n⟩
theorem Tryd.lays99 : Go.Proofs.Lays.n99 Tryd.prog Tryd.lays99_ren := {
  mixed := by kernel_rfl
  f99 := Tryd.func41.trans (congrArg some (by kernel_rfl))
  f206 := Tryd.func58.trans (congrArg some (by kernel_rfl))
  t3 := Tryd.underlying3
  a3 := Tryd.isAgg3
  z3 := Tryd.sizeOf3
  v3 := Tryd.zeroValue3
  t4 := Tryd.underlying4
  a4 := Tryd.isAgg4
  z4 := Tryd.sizeOf4
  v4 := Tryd.zeroValue4
  t9 := Tryd.underlying9
  a9 := Tryd.isAgg9
  z9 := Tryd.sizeOf9
  v9 := Tryd.zeroValue9 }
open Go.RowKit Go.Lib in
theorem Tryd.strings_HasPrefix (s p : ByteArray) (w : World) :
    Calls Tryd.prog 41 #[.string s, .string p] w fun e w' => e = .returned (.bool (Lib.hasPrefix s.data.toList p.data.toList)) ∧ w' = w := Any.strings_HasPrefix Tryd.lays99 s p w
open Go.RowKit Go.Lib in
theorem Tryd.strings_Count_any (s sep : ByteArray) (m : Int) (w : World) (hs : s.size < 4294967281) (hm : w.cell? ⟨0, 0, none⟩ = some (.int .i64 m)) (h1 : 1 ≤ sep.size) :
    Calls Tryd.prog 60 #[.string s, .string sep] w fun e w' => e = .returned (.int .i64 (Lib.countB s sep)) ∧ w' = w := Any.strings_Count_any Tryd.lays138 s sep m w hs hm h1
def Tryd.lays221_ren : Go.Shelf.Ren := ⟨fun | 221 => 43 | 268 => 59 | 138 => 60 | 143 => 61 | 195 => 67 | 197 => 68 | 218 => 69 | 219 => 70 | 260 => 76 | 217 => 77 | 225 => 78 | 224 => 79 | 267 => 80 | 266 => 86 | 314 => 87 | n => n, fun | 9 => 9 | 3 => 3 | 31 => 22 | 4 => 4 | 0 => 0 | 105 => 117 | 21 => 21 | 5 => 5 | 46 => 127 | 119 => 134 | 139 => 137 | 138 => 136 | 146 => 138 | 51 => 130 | n => n, fun | 1 => 0 | 3 => 2 | 4 => 3 | n => n⟩
theorem Tryd.lays221 : Go.Proofs.Lays.n221 Tryd.prog Tryd.lays221_ren := {
  mixed := by kernel_rfl
  f138 := Tryd.func60.trans (congrArg some (by kernel_rfl))
  f143 := Tryd.func61.trans (congrArg some (by kernel_rfl))
  f195 := Tryd.func67.trans (congrArg some (by kernel_rfl))
  f197 := Tryd.func68.trans (congrArg some (by kernel_rfl))
  f217 := Tryd.func77.trans (congrArg some (by kernel_rfl))
  f218 := Tryd.func69.trans (congrArg some (by kernel_rfl))
  f219 := Tryd.func70.trans (congrArg some (by kernel_rfl))
  f221 := Tryd.func43.trans (congrArg some (by kernel_rfl))
  f224 := Tryd.func79.trans (congrArg some (by kernel_rfl))
  f225 := Tryd.func78.trans (congrArg some (by kernel_rfl))
  f260 := Tryd.func76.trans (congrArg some (by kernel_rfl))
  f266 := Tryd.func86.trans (congrArg some (by kernel_rfl))
  f267 := Tryd.func80.trans (congrArg some (by kernel_rfl))
  f268 := Tryd.func59.trans (congrArg some (by kernel_rfl))
  f314 := Tryd.func87.trans (congrArg some (by kernel_rfl))
  t0 := Tryd.underlying0
  a0 := Tryd.isAgg0
  z0 := Tryd.sizeOf0
  v0 := Tryd.zeroValue0
  t3 := Tryd.underlying3
  a3 := Tryd.isAgg3
  z3 := Tryd.sizeOf3
  v3 := Tryd.zeroValue3
  t4 := Tryd.underlying4
  a4 := Tryd.isAgg4
  z4 := Tryd.sizeOf4
  v4 := Tryd.zeroValue4
  t5 := Tryd.underlying5
  a5 := Tryd.isAgg5
  z5 := Tryd.sizeOf5
  v5 := Tryd.zeroValue5
  t9 := Tryd.underlying9
  a9 := Tryd.isAgg9
  z9 := Tryd.sizeOf9
  v9 := Tryd.zeroValue9
  t21 := Tryd.underlying21
  a21 := Tryd.isAgg21
  z21 := Tryd.sizeOf21
  v21 := Tryd.zeroValue21
  t31 := Tryd.underlying22
  a31 := Tryd.isAgg22
  z31 := Tryd.sizeOf22
  v31 := Tryd.zeroValue22
  t46 := Tryd.underlying127
  a46 := Tryd.isAgg127
  z46 := Tryd.sizeOf127
  v46 := Tryd.zeroValue127
  t51 := Tryd.underlying130
  a51 := Tryd.isAgg130
  z51 := Tryd.sizeOf130
  v51 := Tryd.zeroValue130
  t105 := Tryd.underlying117
  a105 := Tryd.isAgg117
  z105 := Tryd.sizeOf117
  v105 := Tryd.zeroValue117
  t119 := Tryd.underlying134
  a119 := Tryd.isAgg134
  z119 := Tryd.sizeOf134
  t138 := Tryd.underlying136
  a138 := Tryd.isAgg136
  z138 := Tryd.sizeOf136
  v138 := Tryd.zeroValue136
  t139 := Tryd.underlying137
  a139 := Tryd.isAgg137
  z139 := Tryd.sizeOf137
  v139 := Tryd.zeroValue137
  t146 := Tryd.underlying138
  a146 := Tryd.isAgg138
  z146 := Tryd.sizeOf138
  v146 := Tryd.zeroValue138
  g1 := by kernel_rfl
  g3 := by kernel_rfl
  g4 := by kernel_rfl }
open Go.RowKit Go.Lib in
theorem Tryd.strings_genSplit (s sep : ByteArray) (sv : Nat) (n : Int) (N : Nat) (m : Int) (w : World) (hs : s.size < 4294967281) (hm : w.cell? ⟨0, 0, none⟩ = some (.int .i64 m)) (h1 : 1 ≤ sep.size) (hsv : sv ≤ sep.size) (hn0 : n ≠ 0) (hn63 : n ≤ 9223372036854775807) (hN : (N : Int) = min (if n < 0 then (Lib.countB s sep : Int) + 1 else n) ((s.size : Int) + 1)) :
    Calls Tryd.prog 43 #[.string s, .string sep, .int .i64 sv, .int .i64 n] w fun e w' =>
      e = .returned (.slice (some ⟨w.heap.size, 0, none⟩) (Lib.splitB sep sv (N - 1) s).length N) ∧ w' = w.alloc (.cells (Lib.cellsOf (Lib.splitB sep sv (N - 1) s) N) 9) := Any.strings_genSplit Tryd.lays221 (by kernel_rfl) s sep sv n N m w hs hm h1 hsv hn0 hn63 hN
def Tryd.lays146_ren : Go.Shelf.Ren := ⟨fun | 146 => 26 | 221 => 43 | 268 => 59 | 138 => 60 | 143 => 61 | 195 => 67 | 197 => 68 | 218 => 69 | 219 => 70 | 260 => 76 | 217 => 77 | 225 => 78 | 224 => 79 | 267 => 80 | 266 => 86 | 314 => 87 | n => n, fun | 9 => 9 | 31 => 22 | 3 => 3 | 4 => 4 | 0 => 0 | 105 => 117 | 21 => 21 | 5 => 5 | 46 => 127 | 119 => 134 | 139 => 137 | 138 => 136 | 146 => 138 | 51 => 130 | n => n, fun | 1 => 0 | 3 => 2 | 4 => 3 | n => n⟩
theorem Tryd.lays146 : Go.Proofs.Lays.n146 Tryd.prog Tryd.lays146_ren := {
  mixed := by kernel_rfl
  f138 := Tryd.func60.trans (congrArg some (by kernel_rfl))
  f143 := Tryd.func61.trans (congrArg some (by kernel_rfl))
  f146 := Tryd.func26.trans (congrArg some (by kernel_rfl))
  f195 := Tryd.func67.trans (congrArg some (by kernel_rfl))
  f197 := Tryd.func68.trans (congrArg some (by kernel_rfl))
  f217 := Tryd.func77.trans (congrArg some (by kernel_rfl))
  f218 := Tryd.func69.trans (congrArg some (by kernel_rfl))
  f219 := Tryd.func70.trans (congrArg some (by kernel_rfl))
  f221 := Tryd.func43.trans (congrArg some (by kernel_rfl))
  f224 := Tryd.func79.trans (congrArg some (by kernel_rfl))
  f225 := Tryd.func78.trans (congrArg some (by kernel_rfl))
  f260 := Tryd.func76.trans (congrArg some (by kernel_rfl))
  f266 := Tryd.func86.trans (congrArg some (by kernel_rfl))
  f267 := Tryd.func80.trans (congrArg some (by kernel_rfl))
  f268 := Tryd.func59.trans (congrArg some (by kernel_rfl))
  f314 := Tryd.func87.trans (congrArg some (by kernel_rfl))
  t0 := Tryd.underlying0
  a0 := Tryd.isAgg0
  z0 := Tryd.sizeOf0
  v0 := Tryd.zeroValue0
  t3 := Tryd.underlying3
  a3 := Tryd.isAgg3
  z3 := Tryd.sizeOf3
  v3 := Tryd.zeroValue3
  t4 := Tryd.underlying4
  a4 := Tryd.isAgg4
  z4 := Tryd.sizeOf4
  v4 := Tryd.zeroValue4
  t5 := Tryd.underlying5
  a5 := Tryd.isAgg5
  z5 := Tryd.sizeOf5
  v5 := Tryd.zeroValue5
  t9 := Tryd.underlying9
  a9 := Tryd.isAgg9
  z9 := Tryd.sizeOf9
  v9 := Tryd.zeroValue9
  t21 := Tryd.underlying21
  a21 := Tryd.isAgg21
  z21 := Tryd.sizeOf21
  v21 := Tryd.zeroValue21
  t31 := Tryd.underlying22
  a31 := Tryd.isAgg22
  z31 := Tryd.sizeOf22
  v31 := Tryd.zeroValue22
  t46 := Tryd.underlying127
  a46 := Tryd.isAgg127
  z46 := Tryd.sizeOf127
  v46 := Tryd.zeroValue127
  t51 := Tryd.underlying130
  a51 := Tryd.isAgg130
  z51 := Tryd.sizeOf130
  v51 := Tryd.zeroValue130
  t105 := Tryd.underlying117
  a105 := Tryd.isAgg117
  z105 := Tryd.sizeOf117
  v105 := Tryd.zeroValue117
  t119 := Tryd.underlying134
  a119 := Tryd.isAgg134
  z119 := Tryd.sizeOf134
  t138 := Tryd.underlying136
  a138 := Tryd.isAgg136
  z138 := Tryd.sizeOf136
  v138 := Tryd.zeroValue136
  t139 := Tryd.underlying137
  a139 := Tryd.isAgg137
  z139 := Tryd.sizeOf137
  v139 := Tryd.zeroValue137
  t146 := Tryd.underlying138
  a146 := Tryd.isAgg138
  z146 := Tryd.sizeOf138
  v146 := Tryd.zeroValue138
  g1 := by kernel_rfl
  g3 := by kernel_rfl
  g4 := by kernel_rfl }
open Go.RowKit Go.Lib in
theorem Tryd.strings_Split (s sep : ByteArray) (m : Int) (w : World) (hs : s.size < 4294967281) (hm : w.cell? ⟨0, 0, none⟩ = some (.int .i64 m)) (h1 : 1 ≤ sep.size) :
    Calls Tryd.prog 26 #[.string s, .string sep] w fun e w' =>
      e = .returned (.slice (some ⟨w.heap.size, 0, none⟩) (Lib.countB s sep + 1) (Lib.countB s sep + 1)) ∧ w' = w.alloc (.cells ((Lib.splitB sep 0 (Lib.countB s sep) s).map Value.string).toArray 9) := Any.strings_Split Tryd.lays146 (by kernel_rfl) s sep m w hs hm h1
def Tryd.laysM146_ren : Go.Shelf.Ren := ⟨fun | 146 => 26 | 221 => 43 | 268 => 59 | 138 => 60 | 143 => 61 | 195 => 67 | 197 => 68 | 218 => 69 | 219 => 70 | 260 => 76 | 217 => 77 | 225 => 78 | 224 => 79 | 267 => 80 | 266 => 86 | 314 => 87 | n => n, fun | 9 => 9 | 31 => 22 | 3 => 3 | 4 => 4 | 0 => 0 | 105 => 117 | 21 => 21 | 5 => 5 | 46 => 127 | 119 => 134 | 139 => 137 | 138 => 136 | 146 => 138 | 51 => 130 | n => n, fun | 1 => 0 | 3 => 2 | 4 => 3 | n => n⟩
theorem Tryd.laysM146 : Go.Proofs.LaysM.n146 Tryd.prog Tryd.laysM146_ren := {
  mixed := by kernel_rfl
  f138 := Tryd.func60.trans (congrArg some (by kernel_rfl))
  f143 := Tryd.func61.trans (congrArg some (by kernel_rfl))
  f146 := Tryd.func26.trans (congrArg some (by kernel_rfl))
  f195 := Tryd.func67.trans (congrArg some (by kernel_rfl))
  f197 := Tryd.func68.trans (congrArg some (by kernel_rfl))
  f217 := Tryd.func77.trans (congrArg some (by kernel_rfl))
  f218 := Tryd.func69.trans (congrArg some (by kernel_rfl))
  f219 := Tryd.func70.trans (congrArg some (by kernel_rfl))
  f221 := Tryd.func43.trans (congrArg some (by kernel_rfl))
  f224 := Tryd.func79.trans (congrArg some (by kernel_rfl))
  f225 := Tryd.func78.trans (congrArg some (by kernel_rfl))
  f260 := Tryd.func76.trans (congrArg some (by kernel_rfl))
  f266 := Tryd.func86.trans (congrArg some (by kernel_rfl))
  f267 := Tryd.func80.trans (congrArg some (by kernel_rfl))
  f268 := Tryd.func59.trans (congrArg some (by kernel_rfl))
  f314 := Tryd.func87.trans (congrArg some (by kernel_rfl))
  t0 := Tryd.underlying0
  a0 := Tryd.isAgg0
  z0 := Tryd.sizeOf0
  v0 := Tryd.zeroValue0
  t3 := Tryd.underlying3
  a3 := Tryd.isAgg3
  z3 := Tryd.sizeOf3
  v3 := Tryd.zeroValue3
  t4 := Tryd.underlying4
  a4 := Tryd.isAgg4
  z4 := Tryd.sizeOf4
  v4 := Tryd.zeroValue4
  t5 := Tryd.underlying5
  a5 := Tryd.isAgg5
  z5 := Tryd.sizeOf5
  v5 := Tryd.zeroValue5
  t9 := Tryd.underlying9
  a9 := Tryd.isAgg9
  z9 := Tryd.sizeOf9
  v9 := Tryd.zeroValue9
  t21 := Tryd.underlying21
  a21 := Tryd.isAgg21
  z21 := Tryd.sizeOf21
  v21 := Tryd.zeroValue21
  t31 := Tryd.underlying22
  a31 := Tryd.isAgg22
  z31 := Tryd.sizeOf22
  v31 := Tryd.zeroValue22
  t46 := Tryd.underlying127
  a46 := Tryd.isAgg127
  z46 := Tryd.sizeOf127
  v46 := Tryd.zeroValue127
  t51 := Tryd.underlying130
  a51 := Tryd.isAgg130
  z51 := Tryd.sizeOf130
  v51 := Tryd.zeroValue130
  t105 := Tryd.underlying117
  a105 := Tryd.isAgg117
  z105 := Tryd.sizeOf117
  v105 := Tryd.zeroValue117
  t119 := Tryd.underlying134
  a119 := Tryd.isAgg134
  z119 := Tryd.sizeOf134
  t138 := Tryd.underlying136
  a138 := Tryd.isAgg136
  z138 := Tryd.sizeOf136
  v138 := Tryd.zeroValue136
  t139 := Tryd.underlying137
  a139 := Tryd.isAgg137
  z139 := Tryd.sizeOf137
  v139 := Tryd.zeroValue137
  t146 := Tryd.underlying138
  a146 := Tryd.isAgg138
  z146 := Tryd.sizeOf138
  v146 := Tryd.zeroValue138
  g1 := by kernel_rfl
  g3 := by kernel_rfl
  g4 := by kernel_rfl
  i0 := by kernel_rfl
  i3 := by kernel_rfl
  i4 := by kernel_rfl
  i5 := by kernel_rfl
  i9 := by kernel_rfl
  i21 := by kernel_rfl
  i31 := by kernel_rfl
  i46 := by kernel_rfl
  i51 := by kernel_rfl
  i105 := by kernel_rfl
  i138 := by kernel_rfl
  i139 := by kernel_rfl
  i146 := by kernel_rfl
  m1 := by kernel_rfl
  s1_3 := fun w h => Go.Proofs.cell_of_shapedOpen_int (zero := #[.int .i64 0]) (t := 3) h (of_decide_eq_true (by kernel_rfl)) (by kernel_rfl) rfl (by kernel_rfl) (by kernel_rfl) Tryd.underlying3
  m3 := by kernel_rfl
  m4 := by kernel_rfl }
open Go.RowKit Go.Lib in
theorem Tryd.strings_Split_shaped (s sep : ByteArray) (w : World) (h : w.ShapedOpen Tryd.prog) (hs : s.size < 4294967281) (h1 : 1 ≤ sep.size) :
    Calls Tryd.prog 26 #[.string s, .string sep] w fun e w' =>
      e = .returned (.slice (some ⟨w.heap.size, 0, none⟩) (Lib.countB s sep + 1) (Lib.countB s sep + 1)) ∧ w' = w.alloc (.cells ((Lib.splitB sep 0 (Lib.countB s sep) s).map Value.string).toArray 9) := Any.strings_Split_shaped Tryd.laysM146 s sep w h hs h1
def Tryd.lays260_ren : Go.Shelf.Ren := ⟨fun | 260 => 76 | n => n, fun | 9 => 9 | 21 => 21 | 3 => 3 | 4 => 4 | 5 => 5 | 119 => 134 | 0 => 0 | 46 => 127 | 139 => 137 | 138 => 136 | n => n, fun | 3 => 2 | 4 => 3 | n => n⟩
theorem Tryd.lays260 : Go.Proofs.Lays.n260 Tryd.prog Tryd.lays260_ren := {
  mixed := by kernel_rfl
  f260 := Tryd.func76.trans (congrArg some (by kernel_rfl))
  t0 := Tryd.underlying0
  a0 := Tryd.isAgg0
  z0 := Tryd.sizeOf0
  v0 := Tryd.zeroValue0
  t3 := Tryd.underlying3
  a3 := Tryd.isAgg3
  z3 := Tryd.sizeOf3
  v3 := Tryd.zeroValue3
  t4 := Tryd.underlying4
  a4 := Tryd.isAgg4
  z4 := Tryd.sizeOf4
  v4 := Tryd.zeroValue4
  t5 := Tryd.underlying5
  a5 := Tryd.isAgg5
  z5 := Tryd.sizeOf5
  v5 := Tryd.zeroValue5
  t9 := Tryd.underlying9
  a9 := Tryd.isAgg9
  z9 := Tryd.sizeOf9
  v9 := Tryd.zeroValue9
  t21 := Tryd.underlying21
  a21 := Tryd.isAgg21
  z21 := Tryd.sizeOf21
  v21 := Tryd.zeroValue21
  t46 := Tryd.underlying127
  a46 := Tryd.isAgg127
  z46 := Tryd.sizeOf127
  v46 := Tryd.zeroValue127
  t119 := Tryd.underlying134
  a119 := Tryd.isAgg134
  z119 := Tryd.sizeOf134
  t138 := Tryd.underlying136
  a138 := Tryd.isAgg136
  z138 := Tryd.sizeOf136
  v138 := Tryd.zeroValue136
  t139 := Tryd.underlying137
  a139 := Tryd.isAgg137
  z139 := Tryd.sizeOf137
  v139 := Tryd.zeroValue137
  g3 := by kernel_rfl
  g4 := by kernel_rfl }
open Go.RowKit Go.Lib in
theorem Tryd.utf8_decodeRuneInStringSlow (s : ByteArray) (w : World) (hT : Lib.Utf8Tabs 2 3 w) :
    Calls Tryd.prog 76 #[.string s] w fun e w' => e = .returned (.tuple #[.int .i32 (Lib.decodeGo s).1, .int .i64 (Lib.decodeGo s).2]) ∧ Below w.heap.size w w' := Any.utf8_decodeRuneInStringSlow Tryd.lays260 s w hT
def Tryd.laysNm216_ren : Go.Shelf.Ren := ⟨fun | 16 => 45 | n => n, fun | 24 => 22 | 9 => 9 | 4 => 4 | n => n, fun | n => n⟩
theorem Tryd.laysNm216 : Go.Proofs.Lays2.n16 Tryd.prog Tryd.laysNm216_ren := {
  mixed := by kernel_rfl
  f16 := Tryd.func45.trans (congrArg some (by kernel_rfl))
  t4 := Tryd.underlying4
  a4 := Tryd.isAgg4
  z4 := Tryd.sizeOf4
  v4 := Tryd.zeroValue4
  t9 := Tryd.underlying9
  a9 := Tryd.isAgg9
  z9 := Tryd.sizeOf9
  v9 := Tryd.zeroValue9
  t24 := Tryd.underlying22
  a24 := Tryd.isAgg22
  z24 := Tryd.sizeOf22
  v24 := Tryd.zeroValue22
  i9 := by kernel_rfl }
open Go.RowKit Go.Lib in
theorem Tryd.slices_Clone_string (b off n c : Nat) (zs : List ByteArray) (w : World) (hz : n ≤ zs.length) (hbig : n * 16 ≤ 140737488355328) (hc : ∀ j, j < zs.length → w.cell? ⟨b, off + j, none⟩ = some (.string (zs.getD j ByteArray.empty))) :
    Calls Tryd.prog 45 #[.slice (some ⟨b, off, none⟩) n c] w fun e w' => ∃ v', e = .returned v' ∧ w'.ownsRow w.heap.size 9 1 v' n ((zs.take n).map (Value.string)) ∧ v' ≠ .slice none 0 0 ∧ Below w.heap.size w w' := Any.slices_Clone_string Tryd.laysNm216 b off n c zs w hz hbig hc
open Go.RowKit Go.Lib in
theorem Tryd.slices_Clone_string_nil (n c : Nat) (w : World) :
    Calls Tryd.prog 45 #[.slice none n c] w fun e w' => e = .returned (.slice none 0 0) ∧ w' = w := Any.slices_Clone_string_nil Tryd.laysNm216 n c w
open Go.RowKit Go.Lib in
theorem Tryd.slices_Clone_string_zero (a : Addr) (c : Nat) (w : World) :
    Calls Tryd.prog 45 #[.slice (some a) 0 c] w fun e w' => ∃ v', e = .returned v' ∧ w'.ownsRow w.heap.size 9 1 v' 0 [] ∧ v' ≠ .slice none 0 0 ∧ Below w.heap.size w w' := Any.slices_Clone_string_zero Tryd.laysNm216 a c w
end Go.Proofs

/- refs.Named: whether a text may be a ref's name: its pieces between slashes are two to four, the first is 'heads' or 'tags', the others may be parts. -/

namespace Go.Proofs.YtgmddlbbmlneaaaDoor.PR
open Go.RowKit Go.Shelf Go.Proofs.YtgmddlbbmlneaaaDoorW.PrintWords Go.Proofs.YtgmddlbbmlneaaaDoorW.PrintLast Go.Proofs.YtgmddlbbmlneaaaDoorW.PrintMore
set_option linter.unusedVariables false

theorem C_strs {w : World} (b off : Nat) (xs : List ByteArray) (hbig : xs.length ≤ 9223372036854775807) (hc : ∀ j x, xs[j]? = some x → w.cell? ⟨b, off + j, none⟩ = some (.string x)) : Kd.C Kd.string w (some ⟨b, off, none⟩) xs.length xs := by
  refine ⟨rfl, hbig, fun _ => ⟨_, rfl, fun j p hj => ⟨[.string p], rfl, rfl, fun i u hu => ?_⟩⟩⟩
  cases i with
  | zero =>
    simp only [List.getElem?_cons_zero, Option.some.injEq] at hu
    subst hu
    have := hc j p hj
    rw [show (⟨b, off, none⟩ : Addr).add (j * Kd.string.sz + 0) = ⟨b, off + j, none⟩ by rw [show Kd.string.sz = 1 from rfl]; simp [Addr.add]]
    exact this
  | succ i => simp at hu

theorem new_strs (w : World) (xs : List ByteArray) (t : TypeId) (j : Nat) (x : ByteArray) (h : xs[j]? = some x) : (w.alloc (.cells (xs.map Value.string).toArray t)).cell? ⟨w.heap.size, j, none⟩ = some (.string x) := by
  rw [blk_cell (heap_alloc_new w _) j]
  simp [h]

theorem ret_b {a b : Bool} (h : a = b) : Ending.returned (.bool a) = Ending.returned (.bool b) := by rw [h]
theorem ret_i {k : IntKind} {a b : Int} (h : a = b) : Ending.returned (.int k a) = Ending.returned (.int k b) := by rw [h]

def refs_Named.f (a0 : ByteArray) : Option (Bool) := if a0.size < 4294967281 then some (refName a0) else none

theorem refs_closure (l : List ByteArray) (w : World) (hl : ∀ x ∈ l, x.size ≤ 9223372036854775807) : PredS 56 #[] (fun x => !lettersL x.data.toList) l w := by
  intro W x hx hb
  have hs := hl x hx
  have hc := letters_calls x
  clear hl hx hb
  show Calls Tryd.prog 56 #[.string x] W _
  go_enter Tryd.func56, Tryd.ntmps56
  go_wp2_with (go_at_call 57; refine (hc _ hs).mono ?_; rintro e w' ⟨rfl, ⟨nd, rfl⟩⟩)
  go_ret
  exact ⟨rfl, pw_below_drewN (Below.refl _ _) nd⟩

theorem splitS_sizes (c : UInt8) (s : ByteArray) : ∀ x ∈ splitS c s, x.size ≤ s.size := by
  have : ∀ l : List UInt8, ∀ p ∈ splitL c l, p.length ≤ l.length := by
    intro l
    induction l with
    | nil => simp [splitL]
    | cons x xs ih =>
      unfold splitL
      intro p hp
      split at hp
      · rcases List.mem_cons.1 hp with rfl | h
        · simp
        · have := ih p h; simp; omega
      · split at hp
        · rename_i h0
          exact absurd h0 (splitL_ne c xs)
        · rename_i q qs hq
          rcases List.mem_cons.1 hp with rfl | h
          · have := ih q (by rw [hq]; exact List.mem_cons_self); simp; omega
          · have := ih p (by rw [hq]; exact List.mem_cons_of_mem _ h); simp; omega
  intro x hx
  obtain ⟨p, hp, rfl⟩ := List.mem_map.1 hx
  rw [size_ofL, ← data_length]
  exact this _ p hp

set_option maxHeartbeats 4000000 in
set_option maxRecDepth 100000 in
theorem refs_Named.calls (a0 : ByteArray) (r : Bool) (w : World) (hG : Gl w) (h : refs_Named.f a0 = some r) :
    Calls Tryd.prog 40 #[.string a0] w fun e w' => e = .returned (.bool r) ∧ Below w.heap.size w w' := by
  unfold refs_Named.f at h
  split at h
  case isFalse => exact absurd h (by simp)
  rename_i hb
  have HRES := Aside0.mk (Option.some.inj h)
  clear h
  obtain ⟨m, hm⟩ := hG.1
  clear hG
  have hsplit := Tryd.strings_Split a0 ⟨#[47]⟩ m w hb hm (Nat.le_refl 1)
  rw [splitB_one, ← splitS_length] at hsplit
  have hsz := splitS_sizes 47 a0
  -- what it answers, by the pieces
  have hmap := (splitS_data 47 a0).symm
  have hrn : refName a0 = (decide (a0.size ≤ 80) && decide (2 ≤ (splitS 47 a0).length) && decide ((splitS 47 a0).length ≤ 4) && ((((splitS 47 a0).map (·.data.toList)).head? == some [104, 101, 97, 100, 115]) || (((splitS 47 a0).map (·.data.toList)).head? == some [116, 97, 103, 115])) && (splitS 47 a0).tail.all (fun x => lettersL x.data.toList)) := by
    rw [refName, refNameL, hmap, data_length, List.length_map, ← List.map_tail, List.all_map]; rfl
  rw [hrn] at HRES
  clear hrn hmap hm
  have hlen : (splitS 47 a0).length ≤ 4294967281 := by
    have := splitS_length 47 a0
    have h2 := Lib.countB_le ⟨#[47]⟩ (Nat.le_refl 1) _ a0 (Nat.le_refl _)
    omega
  have hne : splitS 47 a0 ≠ [] := by rw [splitS]; intro h; exact splitL_ne 47 a0.data.toList (List.map_eq_nil_iff.1 h)
  generalize splitS 47 a0 = P at hsplit hsz HRES hlen hne
  cases P with
  | nil => exact absurd rfl hne
  | cons p ps =>
    simp only [List.map_cons, List.head?_cons, List.tail_cons, List.length_cons] at HRES hlen
    simp only [List.length_cons] at hsplit
    have hcell0 : ∀ W : World, W.cell? ⟨W.heap.size, 0, none⟩ = W.cell? ⟨W.heap.size, 0, none⟩ := fun _ => rfl
    clear hcell0 hne
    have hc0 := new_strs w (p :: ps) 9 0 p rfl
    have hC : Kd.C Kd.string (w.alloc (.cells ((p :: ps).map Value.string).toArray 9)) (some ⟨w.heap.size, 1, none⟩) ps.length ps := C_strs _ 1 ps (by omega) (fun j x hx => by
      have := new_strs w (p :: ps) 9 (1 + j) x (by rw [Nat.add_comm, List.getElem?_cons_succ]; exact hx)
      exact this)
    have hcl := containsFunc_strings (fun x => !lettersL x.data.toList) 56 #[] (enters_of Tryd.func56 (by kernel_rfl) rfl) (some ⟨w.heap.size, 1, none⟩) ps.length ps (w.alloc (.cells ((p :: ps).map Value.string).toArray 9)) (refs_closure ps _ (fun x hx => by have := hsz x (List.mem_cons_of_mem _ hx); omega)) hC (by omega)
    clear hC hsz
    have HBB : Below w.heap.size w (w.alloc (.cells ((p :: ps).map Value.string).toArray 9)) := below_alloc (Below.refl _ _) _
    generalize w.alloc (.cells ((p :: ps).map Value.string).toArray 9) = W at hsplit hc0 hcl HBB
    have hsp : Calls Tryd.prog 26 #[.string a0, .string ⟨#[47]⟩] w fun e w' => e = .returned (.slice (some ⟨w.heap.size, 0, none⟩) (ps.length + 1) (ps.length + 1)) ∧ W = w' := hsplit.mono fun e w' ⟨a, b⟩ => ⟨a, b.symm⟩
    clear hsplit
    simp only [← toList_data] at HRES
    have HB := Aside0.mk HBB
    clear HBB
    have hgs : w.heap.size < W.heap.size := World.block_lt_of_cell? W _ hc0
    by_cases h80 : 80 < a0.size
    · have hr : r = false := by rw [← HRES.out, decide_eq_false (by omega : ¬ a0.size ≤ 80)]; simp
      have HR := Aside0.mk hr
      clear hr HRES
      go_enter Tryd.func40, Tryd.ntmps40
      go_wp2_with (go_at_call 26; refine hsp.mono ?_; rintro e w' ⟨rfl, rfl⟩)
      go_ret
      exact ⟨ret_b HR.out.symm, HB.out⟩
    · by_cases h2 : ps.length + 1 < 2
      · have hr : r = false := by rw [← HRES.out, decide_eq_false (by omega : ¬ 2 ≤ ps.length + 1)]; simp
        have HR := Aside0.mk hr
        clear hr HRES
        go_enter Tryd.func40, Tryd.ntmps40
        go_wp2_with (go_at_call 26; refine hsp.mono ?_; rintro e w' ⟨rfl, rfl⟩)
        go_ret
        exact ⟨ret_b HR.out.symm, HB.out⟩
      · by_cases h4 : 4 < ps.length + 1
        · have hr : r = false := by rw [← HRES.out, decide_eq_false (by omega : ¬ ps.length + 1 ≤ 4)]; simp
          have HR := Aside0.mk hr
          clear hr HRES
          go_enter Tryd.func40, Tryd.ntmps40
          go_wp2_with (go_at_call 26; refine hsp.mono ?_; rintro e w' ⟨rfl, rfl⟩)
          go_ret
          exact ⟨ret_b HR.out.symm, HB.out⟩
        · rw [decide_eq_true (by omega : a0.size ≤ 80), decide_eq_true (by omega : 2 ≤ ps.length + 1), decide_eq_true (by omega : ps.length + 1 ≤ 4)] at HRES
          simp only [Bool.true_and] at HRES
          have hany : (!(ps.any fun x => !lettersL x.data.toList)) = ps.all fun x => lettersL x.data.toList := by
            rw [List.not_any_eq_all_not]; simp
          simp only [toList_data] at HRES
          rw [← toList_data] at HRES
          rw [← hany] at HRES
          have HCL := Aside0.mk hcl
          have hps : ¬ (ps = []) := by intro h; subst h; simp at h2
          clear hcl
          cases hh : (p.toList == [104, 101, 97, 100, 115]) with
          | true =>
            have hh2 : (p.toList != [104, 101, 97, 100, 115]) = false := by rw [bne, hh]; rfl
            have hr : r = !(ps.any fun x => !lettersL x.data.toList) := by
              rw [← HRES.out, show (some p.toList == some [104, 101, 97, 100, 115]) = true from hh]; simp
            have HR := Aside0.mk hr
            clear hr HRES hany
            go_enter Tryd.func40, Tryd.ntmps40
            go_wp2_with (first | (go_at_call 26; refine hsp.mono ?_; rintro e w' ⟨rfl, rfl⟩) | (go_at_call 55; refine HCL.out.mono ?_; rintro e w' ⟨rfl, hb'⟩))
            go_ret
            exact ⟨ret_b HR.out.symm, below_step HB.out hb'⟩
          | false =>
            have hh2 : (p.toList != [104, 101, 97, 100, 115]) = true := by rw [bne, hh]; rfl
            cases ht : (p.toList == [116, 97, 103, 115]) with
            | true =>
              have ht2 : (p.toList != [116, 97, 103, 115]) = false := by rw [bne, ht]; rfl
              have hr : r = !(ps.any fun x => !lettersL x.data.toList) := by
                rw [← HRES.out, show (some p.toList == some [116, 97, 103, 115]) = true from ht]; simp
              have HR := Aside0.mk hr
              clear hr HRES hany
              go_enter Tryd.func40, Tryd.ntmps40
              go_wp2_with (first | (go_at_call 26; refine hsp.mono ?_; rintro e w' ⟨rfl, rfl⟩) | (go_at_call 55; refine HCL.out.mono ?_; rintro e w' ⟨rfl, hb'⟩))
              go_ret
              exact ⟨ret_b HR.out.symm, below_step HB.out hb'⟩
            | false =>
              have ht2 : (p.toList != [116, 97, 103, 115]) = true := by rw [bne, ht]; rfl
              have hr : r = false := by
                rw [← HRES.out, show (some p.toList == some [104, 101, 97, 100, 115]) = false from hh, show (some p.toList == some [116, 97, 103, 115]) = false from ht]; simp
              have HR := Aside0.mk hr
              clear hr HRES hany
              go_enter Tryd.func40, Tryd.ntmps40
              go_wp2_with (go_at_call 26; refine hsp.mono ?_; rintro e w' ⟨rfl, rfl⟩)
              go_ret
              exact ⟨ret_b HR.out.symm, HB.out⟩
end Go.Proofs.YtgmddlbbmlneaaaDoor.PR

/- refs.Right: whether refs may be: names, objects' names, rising, none above another one, at most 64. -/
namespace Go.Proofs.YtgmddlbbmlneaaaDoor.PR
open Go.RowKit Go.Shelf Go.Proofs.YtgmddlbbmlneaaaDoorW.PrintWords Go.Proofs.YtgmddlbbmlneaaaDoorW.PrintLast Go.Proofs.YtgmddlbbmlneaaaDoorW.PrintMore
set_option linter.unusedVariables false

def refs_Right.f (l0 : List (S76)) : Option (Bool) := if l0.all okRef = true then some (refsB l0) else none

theorem right_closure (x : S76) (g : Nat) (l : List S76) (w : World) (hl : ∀ y ∈ l, okRef y = true) (hg : w.cell? ⟨g, 0, none⟩ = some (.string x.f0)) :
    PredT76 53 #[.pointer (some ⟨g, 0, none⟩)] (fun y => aboveB y.f0 x.f0) l w := by
  intro W y hy hb
  have hs := hl y hy
  have hs2 : y.f0.size + 1 ≤ 9223372036854775807 := by
    simp only [okRef, Bool.and_eq_true, decide_eq_true_eq] at hs
    omega
  have hc := above_calls y.f0 x.f0
  have hgW := pw_cell_below hb hg
  clear hl hy hb hs hg
  show Calls Tryd.prog 53 #[.agg #[.string y.f0, .string y.f1], .pointer (some ⟨g, 0, none⟩)] W _
  have hgA : ∀ o, (W.alloc o).cell? ⟨g, 0, none⟩ = some (.string x.f0) := fun o => pw_cell_below (below_alloc (Below.refl _ _) o) hgW
  go_enter Tryd.func53, Tryd.ntmps53
  go_wp2_with (go_at_call 54; refine (hc _ hs2).mono ?_; rintro e w' ⟨rfl, ⟨nd, rfl⟩⟩)
  go_ret
  exact ⟨rfl, pw_below_drewN (below_alloc (Below.refl _ _) _) nd⟩


theorem refsGo_step {all l : List S76} {k : Nat} {prev : Option ByteArray} (h : k < l.length) : refsGo all prev (l.drop k) = if refName l[k].f0 = true then (if hexName l[k].f1 = true then (if (match prev with | none => true | some p => Op.bytesLess p.toList l[k].f0.toList) = true then (if (all.any fun y => aboveB y.f0 l[k].f0) = true then false else refsGo all (some l[k].f0) (l.drop (k + 1))) else false) else false) else false := by
  rw [List.drop_eq_getElem_cons h]
  cases prev <;> rw [refsGo]
def prevAt (l : List S76) (k : Nat) : Option ByteArray := if k = 0 then none else some (rd_T76 l ((k : Int) - 1)).f0

set_option maxHeartbeats 1000000 in
set_option maxRecDepth 100000 in
theorem refs_Right.calls (A0 : Option Addr) (c0 : Nat) (l0 : List (S76)) (r : Bool) (w : World) (hG : Gl w) (hr0 : Kd.C k76 w A0 l0.length l0) (hc0 : l0.length ≤ c0) (h : refs_Right.f l0 = some r) :
    Calls Tryd.prog 39 #[.slice A0 l0.length c0] w fun e w' => e = .returned (.bool r) ∧ Below w.heap.size w w' := by
  have HR0 := Aside0.mk hr0
  have hbig : l0.length ≤ 9223372036854775807 := hr0.2.1
  clear hr0 hc0
  unfold refs_Right.f at h
  split at h
  case isFalse => exact absurd h (by simp)
  rename_i hall
  have HALL := Aside0.mk hall
  clear hall
  have HRES := Aside0.mk (Option.some.inj h)
  clear h
  have HG := Aside0.mk hG
  clear hG
  go_enter Tryd.func39, Tryd.ntmps39
  go_wp2
  go_loopw [7] (fun i wr => ∃ k : Nat, k ≤ l0.length ∧ i = .int .i64 k ∧ Aside0 (refsGo l0 (prevAt l0 k) (l0.drop k) = refsGo l0 none l0) ∧ Below w.heap.size w wr) (fun i _ => l0.length - (intOf i).toNat)
  case atStart => exact ⟨0, Nat.zero_le _, rfl, ⟨rfl⟩, Below.refl _ _⟩
  case round =>
    obtain ⟨k, hk, rfl, HGO, hnx⟩ := hrel
    by_cases hlt : k < l0.length
    · obtain ⟨ad, e, hx0, hx1⟩ := at_T76 (Kd.C_below HR0.out hnx) (k : Int) (by omega) (by omega)
      cases e
      have hs : okRef l0[k] = true := List.all_eq_true.1 HALL.out _ (List.getElem_mem hlt)
      have hrd : rd_T76 l0 (k : Int) = l0[k] := by simp [rd_T76, List.getD, hlt]
      simp only [hrd, Int.toNat_natCast] at hx0 hx1
      have hgo := refsGo_step (all := l0) (prev := prevAt l0 k) hlt
      rw [HGO.out] at hgo
      have hprev : prevAt l0 (k + 1) = some l0[k].f0 := by rw [prevAt, if_neg (by omega), show ((k + 1 : Nat) : Int) - 1 = (k : Int) by omega, hrd]
      rw [← hprev] at hgo
      have HS := Aside0.mk hs
      have HGO' := Aside0.mk hgo
      clear hs hgo hprev hrd HGO
      generalize l0[k] = x at hx0 hx1 HS HGO'
      have hok := HS.out
      simp only [okRef, Bool.and_eq_true, decide_eq_true_eq] at hok
      obtain ⟨hok0, hok1⟩ := hok
      go_wp2
      have hb2 : Below w.heap.size w (wr.alloc (.cells #[.string x.f0, .string x.f1] 76)) := below_alloc hnx _
      have hbx0 : (wr.alloc (.cells #[.string x.f0, .string x.f1] 76)).cell? ⟨wr.heap.size, 0, none⟩ = some (.string x.f0) := by rw [blk_cell (heap_alloc_new wr _) 0]; rfl
      have hbx1 : (wr.alloc (.cells #[.string x.f0, .string x.f1] 76)).cell? ⟨wr.heap.size, 1, none⟩ = some (.string x.f1) := by rw [blk_cell (heap_alloc_new wr _) 1]; rfl
      generalize wr.alloc (.cells #[.string x.f0, .string x.f1] 76) = W at hb2 hbx0 hbx1 ⊢
      have hGW : ∀ d os, Gl (Go.Sort.grow (redrawn W d) os) := fun d os => Gl_below (Gl_below HG.out hb2) (below_regrown W d os)
      have cN : ∀ d os, Calls Tryd.prog 40 #[.string x.f0] (Go.Sort.grow (redrawn W d) os) fun e w'' => e = .returned (.bool (refName x.f0)) ∧ ∃ p : Regrown, w'' = Go.Sort.grow (redrawn W p.d) p.os :=
        fun d os => Calls.regrown_of (refs_Named.calls x.f0 _ _ (hGW d os) (by rw [refs_Named.f, if_pos (by omega)]))
      have cH : ∀ d os, Calls Tryd.prog 42 #[.string x.f1] (Go.Sort.grow (redrawn W d) os) fun e w'' => e = .returned (.bool (hexName x.f1)) ∧ ∃ p : Regrown, w'' = Go.Sort.grow (redrawn W p.d) p.os :=
        fun d os => Calls.regrown_of ((hexName_calls x.f1 _ (by omega)).mono fun e w' ⟨a, b⟩ => ⟨a, b.below⟩)
      have k0 := cell_regrown hbx0
      have k1 := cell_regrown hbx1
      have hcl := containsFunc_T76 (fun y => aboveB y.f0 x.f0) 53 #[.pointer (some ⟨wr.heap.size, 0, none⟩)] (enters_of Tryd.func53 (by kernel_rfl) rfl) (some ad) c0 l0
      have hp : ∀ {W2 : World}, Below W.heap.size W W2 → PredT76 53 #[.pointer (some ⟨wr.heap.size, 0, none⟩)] (fun y => aboveB y.f0 x.f0) l0 W2 :=
        fun h => right_closure x _ l0 _ (fun y hy => List.all_eq_true.1 HALL.out y hy) (pw_cell_below h hbx0)
      have HP := Aside0.mk @hp
      have HCL := Aside0.mk hcl
      have HB2 := Aside0.mk hb2
      clear hp hcl hGW hb2 hnx hx0 hx1
      cases hA : refName x.f0 with
      | false =>
        rw [hA] at cN
        have hr : r = false := by rw [← HRES.out, refsB, HGO'.out, if_neg (by rw [hA]; simp)]; simp
        have HR := Aside0.mk hr
        clear hr HRES HGO'
        refine wp_region_quiet_below (by kernel_rfl) (by kernel_rfl) ?_
        repeat (go_big_quiet_step (first | exact cN _ _ | exact cH _ _))
        refine wpQuiet_nil ?_
        intro _ hw'
        obtain ⟨⟨dq, osq⟩, hw''⟩ := hw'
        subst hw''
        go_wp2
        go_ret
        exact ⟨ret_b HR.out.symm, below_step HB2.out (below_regrown W dq osq)⟩
      | true =>
        rw [hA] at cN
        cases hB : hexName x.f1 with
        | false =>
          rw [hB] at cH
          have hr : r = false := by rw [← HRES.out, refsB, HGO'.out, if_pos hA, if_neg (by rw [hB]; simp)]; simp
          have HR := Aside0.mk hr
          clear hr HRES HGO'
          refine wp_region_quiet_below (by kernel_rfl) (by kernel_rfl) ?_
          repeat (go_big_quiet_step (first | exact cN _ _ | exact cH _ _))
          refine wpQuiet_nil ?_
          intro _ hw'
          obtain ⟨⟨dq, osq⟩, hw''⟩ := hw'
          subst hw''
          go_wp2
          go_ret
          exact ⟨ret_b HR.out.symm, below_step HB2.out (below_regrown W dq osq)⟩
        | true =>
          rw [hB] at cH
          by_cases hk0 : k = 0
          · have hpv : (match prevAt l0 k with | none => true | some p => Op.bytesLess p.toList x.f0.toList) = true := by rw [prevAt, if_pos hk0]
            have HA := Aside0.mk hA
            have HBB := Aside0.mk hB
            have HPV := Aside0.mk hpv
            clear hA hB hpv
            have hkk : decide (0 < k) = false := decide_eq_false (by omega)
            clear hk0
            refine wp_region_quiet_below (by kernel_rfl) (by kernel_rfl) ?_
            repeat (go_big_quiet_step (first | exact cN _ _ | exact cH _ _))
            refine wpQuiet_nil ?_
            intro _ hw'
            obtain ⟨⟨dq, osq⟩, hw''⟩ := hw'
            subst hw''
            have hw2 := below_regrown W dq osq
            generalize Go.Sort.grow (redrawn W dq) osq = W2 at hw2 ⊢
            have hb3 : Below w.heap.size w W2 := below_step HB2.out hw2
            have hcon := HCL.out W2 (HP.out hw2) (Kd.C_below HR0.out hb3) hbig
            have HB3 := Aside0.mk hb3
            clear hb3 hw2 k0 k1 hbx0 hbx1 HP HCL
            cases hE : (l0.any fun y => aboveB y.f0 x.f0) with
            | true =>
              have hr : r = false := by rw [← HRES.out, refsB, HGO'.out, if_pos HA.out, if_pos HBB.out, if_pos HPV.out, if_pos hE]; simp
              have HR := Aside0.mk hr
              rw [hE] at hcon
              clear hr HRES HGO' hE
              go_wp2_with (go_at_call 52; refine hcon.mono ?_; rintro e w' ⟨rfl, hb'⟩)
              go_ret
              exact ⟨ret_b HR.out.symm, below_step HB3.out hb'⟩
            | false =>
              have hn : refsGo l0 (prevAt l0 (k + 1)) (l0.drop (k + 1)) = refsGo l0 none l0 := by rw [HGO'.out, if_pos HA.out, if_pos HBB.out, if_pos HPV.out, if_neg (by rw [hE]; simp)]
              have HN := Aside0.mk hn
              rw [hE] at hcon
              clear hn HGO' hE
              go_wp2_with (go_at_call 52; refine hcon.mono ?_; rintro e w' ⟨rfl, hb'⟩)
              go_roundw
              case rel => exact ⟨k + 1, by omega, by go_num, HN, below_step HB3.out hb'⟩
              case measure => simp [intOf]; omega
          · obtain ⟨ad2, e2, hp0, _⟩ := at_T76 (Kd.C_below HR0.out HB2.out) ((k : Int) - 1) (by omega) (by omega)
            cases e2
            have hix : ((k : Int) - 1).toNat = k - 1 := by omega
            have hpv : prevAt l0 k = some (rd_T76 l0 ((k : Int) - 1)).f0 := by rw [prevAt, if_neg hk0]
            rw [hix] at hp0
            rw [hpv] at HGO'
            simp only [] at HGO'
            clear hpv
            generalize (rd_T76 l0 ((k : Int) - 1)).f0 = pv at hp0 HGO'
            have kp := cell_regrown hp0
            have hk1 : decide (0 < k) = true := decide_eq_true (by omega)
            have hk2 : IntKind.i64.wrap ((k : Int) - 1) = (k : Int) - 1 := IntWalk.i64_in _ (by omega)
            have hk3 : 0 ≤ (k : Int) - 1 := by omega
            have hk4 : (k : Int) - 1 < l0.length := by omega
            clear hp0 hk0
            cases hD : Op.bytesLess pv.toList x.f0.toList with
            | false =>
              have hr : r = false := by rw [← HRES.out, refsB, HGO'.out, if_pos hA, if_pos hB, if_neg (by rw [hD]; simp)]; simp
              have HR := Aside0.mk hr
              clear hr HRES HGO'
              refine wp_region_quiet_below (by kernel_rfl) (by kernel_rfl) ?_
              repeat (go_big_quiet_step (first | exact cN _ _ | exact cH _ _))
              refine wpQuiet_nil ?_
              intro _ hw'
              obtain ⟨⟨dq, osq⟩, hw''⟩ := hw'
              subst hw''
              go_wp2
              go_ret
              exact ⟨ret_b HR.out.symm, below_step HB2.out (below_regrown W dq osq)⟩
            | true =>
              have HA := Aside0.mk hA
              have HBB := Aside0.mk hB
              have HPV := Aside0.mk hD
              clear hA hB
              refine wp_region_quiet_below (by kernel_rfl) (by kernel_rfl) ?_
              repeat (go_big_quiet_step (first | exact cN _ _ | exact cH _ _))
              refine wpQuiet_nil ?_
              intro _ hw'
              obtain ⟨⟨dq, osq⟩, hw''⟩ := hw'
              subst hw''
              have hw2 := below_regrown W dq osq
              generalize Go.Sort.grow (redrawn W dq) osq = W2 at hw2 ⊢
              have hb3 : Below w.heap.size w W2 := below_step HB2.out hw2
              have hcon := HCL.out W2 (HP.out hw2) (Kd.C_below HR0.out hb3) hbig
              have HB3 := Aside0.mk hb3
              clear hb3 hw2 k0 k1 hbx0 hbx1 HP HCL
              cases hE : (l0.any fun y => aboveB y.f0 x.f0) with
              | true =>
                have hr : r = false := by rw [← HRES.out, refsB, HGO'.out, if_pos HA.out, if_pos HBB.out, if_pos HPV.out, if_pos hE]; simp
                have HR := Aside0.mk hr
                rw [hE] at hcon
                clear hr HRES HGO' hE
                go_wp2_with (go_at_call 52; refine hcon.mono ?_; rintro e w' ⟨rfl, hb'⟩)
                go_ret
                exact ⟨ret_b HR.out.symm, below_step HB3.out hb'⟩
              | false =>
                have hn : refsGo l0 (prevAt l0 (k + 1)) (l0.drop (k + 1)) = refsGo l0 none l0 := by rw [HGO'.out, if_pos HA.out, if_pos HBB.out, if_pos HPV.out, if_neg (by rw [hE]; simp)]
                have HN := Aside0.mk hn
                rw [hE] at hcon
                clear hn HGO' hE
                go_wp2_with (go_at_call 52; refine hcon.mono ?_; rintro e w' ⟨rfl, hb'⟩)
                go_roundw
                case rel => exact ⟨k + 1, by omega, by go_num, HN, below_step HB3.out hb'⟩
                case measure => simp [intOf]; omega
    · have hkl : k = l0.length := by omega
      have hg := HGO.out
      rw [hkl, List.drop_length, refsGo] at hg
      have HG2 := Aside0.mk hg
      clear hg HGO hlt
      subst hkl
      go_wp2
      go_ret
      refine ⟨?_, hnx⟩
      rw [← HRES.out, refsB, ← HG2.out]; simp
      omega
end Go.Proofs.YtgmddlbbmlneaaaDoor.PR

/- strings.Builder's copyCheck and WriteString at this program: the shelf's contracts, laid by hand (the one command cannot tell two of their types' numbers). -/
namespace Go.Proofs
open Go.Shelf
def Tryd.lays240_ren : Go.Shelf.Ren := ⟨fun | 240 => 36 | 276 => 49 | n => n, fun | 0 => 0 | 4 => 4 | 9 => 9 | 20 => 20 | 70 => 46 | 72 => 48 | 164 => 94 | 37 => 26 | 5 => 5 | n => n, fun | n => n⟩
theorem Tryd.lays240 : Go.Proofs.Lays.n240 Tryd.prog Tryd.lays240_ren := {
  mixed := by kernel_rfl
  f240 := Tryd.func36.trans (congrArg some (by kernel_rfl))
  f276 := Tryd.func49.trans (congrArg some (by kernel_rfl))
  t0 := Tryd.underlying0
  a0 := Tryd.isAgg0
  z0 := Tryd.sizeOf0
  v0 := Tryd.zeroValue0
  t4 := Tryd.underlying4
  a4 := Tryd.isAgg4
  z4 := Tryd.sizeOf4
  v4 := Tryd.zeroValue4
  t9 := Tryd.underlying9
  a9 := Tryd.isAgg9
  z9 := Tryd.sizeOf9
  v9 := Tryd.zeroValue9
  t20 := Tryd.underlying20
  a20 := Tryd.isAgg20
  z20 := Tryd.sizeOf20
  v20 := Tryd.zeroValue20
  t70 := Tryd.underlying46
  a70 := Tryd.isAgg46
  z70 := Tryd.sizeOf46
  v70 := Tryd.zeroValue46
  t72 := Tryd.underlying48
  a72 := Tryd.isAgg48
  z72 := Tryd.sizeOf48
  v72 := Tryd.zeroValue48
  t164 := Tryd.underlying94
  a164 := Tryd.isAgg94
  z164 := Tryd.sizeOf94
  v164 := Tryd.zeroValue94 }
theorem Tryd.Builder_X72_240 : Builder.X72 Tryd.prog Tryd.lays240_ren := {
  sizeBuilder := by kernel_rfl
  liesBuilder := by kernel_rfl }
def Tryd.lays166_ren : Go.Shelf.Ren := ⟨fun | 166 => 18 | 240 => 36 | 276 => 49 | n => n, fun | 0 => 0 | 3 => 3 | 4 => 4 | 9 => 9 | 20 => 20 | 70 => 46 | 72 => 48 | 164 => 94 | 37 => 26 | 5 => 5 | 75 => 50 | 80 => 59 | n => n, fun | n => n⟩
theorem Tryd.lays166 : Go.Proofs.Lays.n166 Tryd.prog Tryd.lays166_ren := {
  mixed := by kernel_rfl
  f166 := Tryd.func18.trans (congrArg some (by kernel_rfl))
  f240 := Tryd.func36.trans (congrArg some (by kernel_rfl))
  f276 := Tryd.func49.trans (congrArg some (by kernel_rfl))
  t0 := Tryd.underlying0
  a0 := Tryd.isAgg0
  z0 := Tryd.sizeOf0
  v0 := Tryd.zeroValue0
  t3 := Tryd.underlying3
  a3 := Tryd.isAgg3
  z3 := Tryd.sizeOf3
  v3 := Tryd.zeroValue3
  t4 := Tryd.underlying4
  a4 := Tryd.isAgg4
  z4 := Tryd.sizeOf4
  v4 := Tryd.zeroValue4
  t9 := Tryd.underlying9
  a9 := Tryd.isAgg9
  z9 := Tryd.sizeOf9
  v9 := Tryd.zeroValue9
  t20 := Tryd.underlying20
  a20 := Tryd.isAgg20
  z20 := Tryd.sizeOf20
  v20 := Tryd.zeroValue20
  t37 := Tryd.underlying26
  a37 := Tryd.isAgg26
  z37 := Tryd.sizeOf26
  v37 := Tryd.zeroValue26
  t70 := Tryd.underlying46
  a70 := Tryd.isAgg46
  z70 := Tryd.sizeOf46
  v70 := Tryd.zeroValue46
  t72 := Tryd.underlying48
  a72 := Tryd.isAgg48
  z72 := Tryd.sizeOf48
  v72 := Tryd.zeroValue48
  t75 := Tryd.underlying50
  a75 := Tryd.isAgg50
  z75 := Tryd.sizeOf50
  v75 := Tryd.zeroValue50
  t164 := Tryd.underlying94
  a164 := Tryd.isAgg94
  z164 := Tryd.sizeOf94
  v164 := Tryd.zeroValue94 }
theorem Tryd.Builder_Extra_166 : Builder.Extra Tryd.prog Tryd.lays166_ren := {
  sizeBuilder := by kernel_rfl
  liesBuilder := by kernel_rfl
  t5 := Tryd.underlying5
  a5 := Tryd.isAgg5
  z5 := Tryd.sizeOf5
  v5 := Tryd.zeroValue5
  infoByte := by kernel_rfl
  cellsByte := by kernel_rfl
  sizeByte := by kernel_rfl
  neB5 := by decide }
open Go.RowKit in
theorem Tryd.Builder_WriteString (B b : Nat) (bs : List Value) (s : ByteArray) (w : World) (h : Lib.IsBuilder 48 5 B b bs w) (hlen : bs.length + s.size ≤ 140737488355328) (hBw : B ≤ w.heap.size) :
    Calls Tryd.prog 18 #[.pointer (some ⟨b, 0, none⟩), .string s] w fun e w' => e = .returned (.tuple #[.int .i64 s.size, .nilIface]) ∧ (Lib.BuilderAt 48 5 B b (.pointer (some ⟨b, 0, none⟩)) (bs ++ Lib.strCells s) w' ∧ Below B w w') := Any.Builder_WriteString Tryd.lays166 Tryd.Builder_Extra_166 B b bs s w h hlen hBw
open Go.RowKit in
theorem Tryd.Builder_WriteString_k (B b : Nat) (bs : List Value) (s : ByteArray) (w : World) (h : Lib.IsBuilderF 48 5 B b bs w) (hlen : bs.length + s.size ≤ 140737488355328) (hBw : B ≤ w.heap.size) :
    Calls Tryd.prog 18 #[.pointer (some ⟨b, 0, none⟩), .string s] w fun e w' => e = .returned (.tuple #[.int .i64 s.size, .nilIface]) ∧ (Lib.BuilderAtF 48 5 B b (.pointer (some ⟨b, 0, none⟩)) (bs ++ Lib.strCells s) w' ∧ Below B w w' ∧ Lib.OthersKept 5 (some b) w w') := Any.Builder_WriteString_k Tryd.lays166 Tryd.Builder_Extra_166 B b bs s w h hlen hBw
end Go.Proofs

/- refs.Put: right refs as lines. -/
namespace Go.Proofs.YtgmddlbbmlneaaaDoor.PR
open Go.RowKit Go.Shelf Go.Proofs.YtgmddlbbmlneaaaDoorW.PrintWords Go.Proofs.YtgmddlbbmlneaaaDoorW.PrintLast Go.Proofs.YtgmddlbbmlneaaaDoorW.PrintMore
set_option linter.unusedVariables false

theorem refsGo_all (all : List S76) : ∀ (l : List S76) (prev : Option ByteArray), refsGo all prev l = true → ∀ x ∈ l, refName x.f0 = true ∧ hexName x.f1 = true
  | [], _, _, x, hx => absurd hx (by simp)
  | y :: ys, prev, h, x, hx => by
    have hy : refName y.f0 = true ∧ hexName y.f1 = true ∧ refsGo all (some y.f0) ys = true := by
      cases prev <;> rw [refsGo] at h
      all_goals
        split at h
        · rename_i h1
          split at h
          · rename_i h2
            split at h
            · split at h
              · cases h
              · exact ⟨h1, h2, h⟩
            · cases h
          · cases h
        · cases h
    rcases List.mem_cons.1 hx with rfl | h'
    · exact ⟨hy.1, hy.2.1⟩
    · exact refsGo_all all ys _ hy.2.2 x h'
theorem refName_size {s : ByteArray} (h : refName s = true) : s.size ≤ 80 := by
  simp only [refName, refNameL, Bool.and_eq_true, decide_eq_true_eq] at h
  rw [← data_length]; exact h.1.1.1.1
theorem hexName_size {s : ByteArray} (h : hexName s = true) : s.size = 64 := by
  simp only [hexName, Bool.and_eq_true, beq_iff_eq] at h
  exact h.2
theorem refsB_sizes {l : List S76} (h : refsB l = true) : l.length ≤ 64 ∧ ∀ x ∈ l, x.f0.size ≤ 80 ∧ x.f1.size = 64 := by
  simp only [refsB, Bool.and_eq_true, decide_eq_true_eq] at h
  exact ⟨h.2, fun x hx => let ⟨a, b⟩ := refsGo_all l l none h.1 x hx; ⟨refName_size a, hexName_size b⟩⟩
theorem refsText_length (l : List S76) (h : ∀ x ∈ l, x.f0.size ≤ 80 ∧ x.f1.size = 64) : (refsText l).length ≤ 146 * l.length := by
  induction l with
  | nil => simp [refsText]
  | cons x l ih =>
    have hx := h x List.mem_cons_self
    have := ih fun y hy => h y (List.mem_cons_of_mem _ hy)
    simp only [refsText, List.flatMap_cons, List.length_append, refLine, List.length_cons, List.length_nil, data_length] at this ⊢
    omega

theorem builder_new (B : Nat) (w : World) (hB : B ≤ w.heap.size) : Lib.IsBuilder 48 5 B w.heap.size [] (w.alloc (.cells #[.pointer none, .slice none 0 0] 48)) :=
  .inl ⟨hB, .slice none 0 0, heap_alloc_new w _, own_nil _ _ _ _, by simp [Value.ownBlock]⟩

def refs_Put.f (l0 : List (S76)) : Option (ByteArray × Bool) := if l0.all okRef = true then some (if refsB l0 = true then (ofL (refsText l0), true) else (⟨#[]⟩, false)) else none

theorem ret_sb {a b : ByteArray} {c d : Bool} (h : a = b) (k : c = d) : Ending.returned (.tuple #[.string a, .bool c]) = Ending.returned (.tuple #[.string b, .bool d]) := by rw [h, k]

set_option maxHeartbeats 1000000 in
set_option maxRecDepth 100000 in
theorem refs_Put.calls (A0 : Option Addr) (c0 : Nat) (l0 : List (S76)) (r1 : ByteArray) (r2 : Bool) (w : World) (hG : Gl w) (hr0 : Kd.C k76 w A0 l0.length l0) (hc0 : l0.length ≤ c0) (h : refs_Put.f l0 = some (r1, r2)) :
    Calls Tryd.prog 22 #[.slice A0 l0.length c0] w fun e w' => e = .returned (.tuple #[.string r1, .bool r2]) ∧ Below w.heap.size w w' := by
  unfold refs_Put.f at h
  split at h
  case isFalse => exact absurd h (by simp)
  rename_i hall
  have hri := refs_Right.calls A0 c0 l0 (refsB l0) w hG hr0 hc0 (by rw [refs_Right.f, if_pos hall])
  have HRES := Aside0.mk (Option.some.inj h)
  clear h hall hG
  have HR0 := Aside0.mk hr0
  clear hr0 hc0
  cases hB : refsB l0 with
  | false =>
    have hr : r1 = ⟨#[]⟩ ∧ r2 = false := by have := HRES.out; rw [if_neg (by rw [hB]; simp)] at this; cases this; exact ⟨rfl, rfl⟩
    have HR := Aside0.mk hr
    rw [hB] at hri
    clear hr HRES hB
    go_enter Tryd.func22, Tryd.ntmps22
    go_wp2_with (go_at_call 39; refine hri.mono ?_; rintro e w' ⟨rfl, hb'⟩)
    go_ret2
    exact ⟨ret_sb HR.out.1.symm HR.out.2.symm, hb'⟩
  | true =>
    have hr : r1 = ofL (refsText l0) ∧ r2 = true := by have := HRES.out; rw [if_pos hB] at this; cases this; exact ⟨rfl, rfl⟩
    have HR := Aside0.mk hr
    have hsz := refsB_sizes hB
    rw [hB] at hri
    clear hr HRES hB
    have HSZ := Aside0.mk hsz
    clear hsz
    go_enter Tryd.func22, Tryd.ntmps22
    go_wp2_with (go_at_call 39; refine hri.mono ?_; rintro e w1 ⟨rfl, hb1⟩)
    have hbu := Lib.IsBuilderF.of (builder_new w.heap.size w1 hb1.size)
    have hbb := below_alloc hb1 (.cells #[.pointer none, .slice none 0 0] 48)
    generalize w1.alloc (.cells #[.pointer none, .slice none 0 0] 48) = W at hbu hbb ⊢
    generalize w1.heap.size = b at hbu ⊢
    go_loopw [12] (fun i wr => ∃ k : Nat, k ≤ l0.length ∧ i = .int .i64 k ∧ Lib.IsBuilderF 48 5 w.heap.size b (Lib.byteCells (refsText (l0.take k))) wr ∧ Below w.heap.size w wr) (fun i _ => l0.length - (intOf i).toNat)
    case atStart => exact ⟨0, Nat.zero_le _, rfl, hbu, hbb⟩
    case round =>
      obtain ⟨k, hk, rfl, hbk, hnx⟩ := hrel
      have hl64 := HSZ.out.1
      by_cases hlt : k < l0.length
      · obtain ⟨ad, e, hx0, hx1⟩ := at_T76 (Kd.C_below HR0.out hnx) (k : Int) (by omega) (by omega)
        cases e
        have hrd : rd_T76 l0 (k : Int) = l0[k] := by simp [rd_T76, List.getD, hlt]
        simp only [hrd, Int.toNat_natCast] at hx0 hx1
        have hs := HSZ.out.2 _ (List.getElem_mem hlt)
        have htx : refsText (l0.take (k + 1)) = refsText (l0.take k) ++ refLine l0[k] := by rw [List.take_succ_eq_append_getElem hlt, refsText, List.flatMap_append]; simp [refsText]
        have hlen := refsText_length (l0.take k) (fun x hx => HSZ.out.2 x (List.mem_of_mem_take hx))
        rw [List.length_take] at hlen
        have HTX := Aside0.mk htx
        clear htx hrd
        generalize l0[k] = x at hx0 hx1 hs HTX
        obtain ⟨hs0, hs1⟩ := hs
        have hs1' : x.f1.size ≤ 64 := by omega
        clear hs1
        have HBK := Aside0.mk hbk
        have HNX := Aside0.mk hnx
        have hle : (refsText (l0.take k)).length ≤ 146 * 64 := by omega
        have HLE := Aside0.mk hle
        clear hbk hnx hlen hle
        have hw := fun s (hs : s.size ≤ 1000) o => Tryd.Builder_WriteString_k w.heap.size b (Lib.byteCells (refsText (l0.take k))) s (wr.alloc o) (Lib.IsBuilderF.alloc HBK.out o) (by rw [Lib.byteCells_length]; have := HLE.out; omega) (below_alloc HNX.out o).size
        have HW := Aside0.mk hw
        clear hw
        go_wp2_with (go_at_call 18; go_must (refine (HW.out _ ?hsz _).mono ?_); (case hsz => simp only [ByteArray.size_append, show (⟨#[32]⟩ : ByteArray).size = 1 from rfl, show (⟨#[10]⟩ : ByteArray).size = 1 from rfl]; omega); rintro e w' ⟨rfl, hbd, hb', _⟩)
        go_roundw
        case rel =>
          refine ⟨k + 1, by omega, by go_num, ?_, (below_alloc HNX.out _).trans hb'⟩
          rw [HTX.out, Lib.byteCells_append]
          refine .inr ?_
          rw [Lib.strCells_eq] at hbd
          have e : ∀ a b : ByteArray, (a ++ b).data.toList = a.data.toList ++ b.data.toList := fun a b => by simp
          simpa [e, refLine] using hbd
        case measure => simp [intOf]; omega
      · have hkl : k = l0.length := by omega
        subst hkl
        rw [List.take_length] at hbk
        have hst := Tryd.Builder_String_any_k w.heap.size b _ wr hbk hnx.size
        clear hlt
        go_wp2_with (go_at_call 23; refine hst.mono ?_; rintro e w' ⟨rfl, _, hb', _⟩)
        go_ret2
        exact ⟨ret_sb HR.out.1.symm HR.out.2.symm, hnx.trans hb'⟩
end Go.Proofs.YtgmddlbbmlneaaaDoor.PR

/- num.Text: a number's decimals, by strconv.Itoa's contract. -/
namespace Go.Proofs.YtgmddlbbmlneaaaDoor.PR
open Go.RowKit Go.Proofs.YtgmddlbbmlneaaaDoorW.PrintWords Go.Proofs.YtgmddlbbmlneaaaDoorW.PrintLast Go.Proofs.YtgmddlbbmlneaaaDoorW.PrintMore
set_option linter.unusedVariables false
def textB (n : Int) : ByteArray := if n < 0 then ⟨#[]⟩ else ⟨(Lib.itoa n).toArray⟩
def num_Text.f (a0 : Int) : Option (ByteArray) := if -9223372036854775808 ≤ a0 ∧ a0 ≤ 9223372036854775807 then some (textB a0) else none
set_option maxRecDepth 100000 in
theorem num_Text.calls (a0 : Int) (r : ByteArray) (w : World) (hG : Gl w) (h : num_Text.f a0 = some r) :
    Calls Tryd.prog 21 #[.int .i64 a0] w fun e w' => e = .returned (.string r) ∧ Below w.heap.size w w' := by
  unfold num_Text.f at h
  split at h
  case isFalse => exact absurd h (by simp)
  rename_i hb
  obtain ⟨h0, h1⟩ := hb
  have HR := Aside0.mk (Option.some.inj h)
  clear h
  have HG := Aside0.mk hG
  clear hG
  by_cases hn : a0 < 0
  · have hr : r = ⟨#[]⟩ := by rw [← HR.out, textB, if_pos hn]
    have HR' := Aside0.mk hr
    clear hr HR
    go_enter Tryd.func21, Tryd.ntmps21
    go_wp2
    go_ret
    exact ⟨by rw [HR'.out]; rfl, Below.refl _ _⟩
  · have hr : r = ⟨(Lib.itoa a0).toArray⟩ := by rw [← HR.out, textB, if_neg hn]
    have HR' := Aside0.mk hr
    clear hr HR
    go_enter Tryd.func21, Tryd.ntmps21
    go_wp2_with (go_at_call 38; refine (Tryd.strconv_Itoa a0 h0 h1 _ HG.out.tab).mono ?_; rintro e w' ⟨rfl, ⟨k, os, rfl⟩⟩)
    go_ret
    exact ⟨by rw [HR'.out]; rfl, Lib.below_grow _ _ (Nat.le_refl _) k os⟩
end Go.Proofs.YtgmddlbbmlneaaaDoor.PR

/- root.packs: whether texts may be packs' names, each once, at most 24: what it answers, for any texts. -/
namespace Go.Proofs.YtgmddlbbmlneaaaDoor.PR
open Go.RowKit Go.WideMaps Go.Maps Go.Proofs.YtgmddlbbmlneaaaDoorW.PrintWords Go.Proofs.YtgmddlbbmlneaaaDoorW.PrintLast Go.Proofs.YtgmddlbbmlneaaaDoorW.PrintMore
set_option linter.unusedVariables false

theorem packs_law : Keyed Tryd.prog 9 := string_keyed Tryd.underlying9
theorem packs_zero (w : World) : (zeroValue 3).run Tryd.prog w = .ok (.int .i64 0) w := by kernel_rfl

def keyS (s : ByteArray) : Lit := .string s.data.toList
def packsD (l : List ByteArray) : DataW Unit := setOf (.lit (.int .i64 1)) (l.map keyS)

theorem keyS_lit (s : ByteArray) : WideAt.IsKeyLit (keyS s) := by trivial
theorem keyS_inj {s t : ByteArray} (h : keyS s = keyS t) : s = t := by
  simp only [keyS, Lit.string.injEq] at h
  have := congrArg List.toArray h
  simp only [Array.toArray_toList] at this
  cases s; cases t; simp_all

theorem packsD_snoc (l : List ByteArray) (s : ByteArray) : packsD (l ++ [s]) = (packsD l).put (keyS s) (.lit (.int .i64 1)) := by
  rw [packsD, List.map_append, List.map_cons, List.map_nil, setOf_snoc]; rfl

theorem isMap_fold (u : DataW Unit) : ∀ (acc : List Lit) (m : DataW Unit), IsMap m → IsMap (acc.foldl (fun m x => m.put x u) m)
  | [], m, h => h
  | x :: xs, m, h => isMap_fold u xs _ (h.put x u)

theorem packsD_isMap (l : List ByteArray) : IsMap (packsD l) := isMap_fold _ _ _ isMap_empty

theorem snocRec {α : Type} {M : List α → Prop} (h0 : M []) (h1 : ∀ l x, M l → M (l ++ [x])) (l : List α) : M l := by
  have : ∀ r : List α, M r.reverse := by
    intro r
    induction r with
    | nil => exact h0
    | cons x r ih => rw [List.reverse_cons]; exact h1 _ _ ih
  have h := this l.reverse
  rwa [List.reverse_reverse] at h

theorem packsD_at (l : List ByteArray) (s : ByteArray) : (packsD l).atKey (keyS s) (.lit (.int .i64 0)) = .lit (.int .i64 (if s ∈ l then 1 else 0)) := by
  refine snocRec (M := fun l => (packsD l).atKey (keyS s) (.lit (.int .i64 0)) = .lit (.int .i64 (if s ∈ l then 1 else 0))) ?_ ?_ l
  · simp [packsD, setOf, DataW.atKey]
  · intro l x ih
    rw [packsD_snoc]
    by_cases e : s = x
    · subst e
      rw [atKey_put_same (packsD_isMap l) (keyS_lit s)]
      simp
    · rw [atKey_put_other (fun h => e (keyS_inj h)), ih]
      simp [e]

def root_packs.f (l0 : List ByteArray) : Option (Bool) := if l0.all okS = true ∧ l0.length ≤ 8796093022208 then some (packsB l0) else none

theorem rdOf_get (l : List ByteArray) (k : Nat) (h : k < l.length) : rdOf ByteArray.empty l (k : Int) = l[k] := by
  simp [rdOf, List.getD, h]

theorem packsGo_step {l : List ByteArray} {k : Nat} (h : k < l.length) : packsGo (l.take k) (l.drop k) = if l[k] ∈ l.take k then false else if hexName l[k] then packsGo (l.take (k + 1)) (l.drop (k + 1)) else false := by
  rw [List.drop_eq_getElem_cons h, packsGo, List.take_succ_eq_append_getElem h]

set_option maxHeartbeats 2000000 in
set_option maxRecDepth 100000 in
theorem root_packs.calls (A0 : Option Addr) (c0 : Nat) (l0 : List ByteArray) (r : Bool) (w : World) (hr0 : Kd.C Kd.string w A0 l0.length l0) (hc0 : l0.length ≤ c0) (h : root_packs.f l0 = some r) :
    Calls Tryd.prog 25 #[.slice A0 l0.length c0] w fun e w' => e = .returned (.bool r) ∧ Below w.heap.size w w' := by
  have HR0 := Aside0.mk hr0
  clear hr0 hc0
  unfold root_packs.f at h
  split at h
  case isFalse => exact absurd h (by simp)
  rename_i hok
  obtain ⟨hall, hlen⟩ := hok
  have HALL := Aside0.mk hall
  clear hall
  have HRES := Aside0.mk (Option.some.inj h)
  clear h
  have hmm := @run_makeMap Tryd.prog
  go_enter Tryd.func25, Tryd.ntmps25
  go_wp2
  go_loopw [9] (fun i wr => ∃ k : Nat, k ≤ l0.length ∧ i = .int .i64 k ∧ Aside0 (packsGo (l0.take k) (l0.drop k) = packsGo [] l0) ∧ wr.ownsMap Tryd.prog 9 (plainElem Tryd.prog 3) w.heap.size k (packsD (l0.take k)) ∧ Below w.heap.size w wr)
    (fun i _ => l0.length - (intOf i).toNat)
  case atStart => exact ⟨0, Nat.zero_le _, rfl, ⟨rfl⟩, World.ownsMap_made _ _ _ _, (Below.refl _ _).alloc (Nat.le_refl _) _⟩
  case round =>
    obtain ⟨k, hk, rfl, HGO, hown, hnx⟩ := hrel
    by_cases hlt : k < l0.length
    · obtain ⟨ad, e, hx⟩ := Kd.at_string (Kd.C_below HR0.out hnx) (k : Int) (by omega) (by omega)
      cases e
      have hs : okS l0[k] = true := List.all_eq_true.1 HALL.out _ (List.getElem_mem hlt)
      rw [rdOf_get l0 k hlt, Int.toNat_natCast] at hx
      have hsz : l0[k].size ≤ 140737488351232 := by simpa [okS] using hs
      clear hs
      have hat0 := packsD_at (l0.take k) l0[k]
      have hgo := packsGo_step hlt
      rw [HGO.out] at hgo
      have hsn : packsD (l0.take (k + 1)) = (packsD (l0.take k)).put (keyS l0[k]) (.lit (.int .i64 1)) := by rw [List.take_succ_eq_append_getElem hlt, packsD_snoc]
      generalize l0[k] = s at hx hsz hat0 hgo hsn
      have hkey : keyOf Tryd.prog 9 (.string s) = some (keyS s) := keyOf_string_mk Tryd.underlying9 (by unfold maxLen; omega)
      obtain ⟨c, hrun, hat, _⟩ := hown.lookup_int packs_law Tryd.underlying80 Tryd.underlying3 (packs_zero _) hkey
      by_cases hin : s ∈ l0.take k
      · rw [if_pos hin] at hat0 hgo
        obtain rfl : c = 1 := by rw [hat0] at hat; injection hat with hat; injection hat with _ hat; exact hat.symm
        have HG := Aside0.mk hgo
        clear hgo hat hat0 hsn hin
        go_wp2_with (at_mapUpdate; refine wpList_mapUpdate_own _ rfl _ _ _ 80 rfl 9 3 packs_law Tryd.underlying80 _ w.heap.size k _ rfl hown (by unfold maxLen; omega) _ _ _ rfl rfl hkey _ [] (plainElem_int Tryd.underlying3 (by decide)) ?_)
        intro w1 hown1 hgrow1
        have hnx1 := hnx.grown hgrow1 hnx.size (fun j hj => by cases hj; exact Nat.le_refl _)
        obtain ⟨c2, hrun2, hat2, _⟩ := hown1.lookup_int packs_law Tryd.underlying80 Tryd.underlying3 (packs_zero _) hkey
        obtain rfl : c2 = 2 := by rw [atKey_put_same (packsD_isMap _) (keyS_lit s)] at hat2; injection hat2 with hat2; injection hat2 with _ hat2; exact hat2.symm
        clear hat2 hrun hown hgrow1 hnx hown1
        go_wp2
        go_ret
        refine ⟨?_, hnx1⟩
        rw [← HRES.out, packsB, HG.out]; simp
      · rw [if_neg hin] at hat0 hgo
        obtain rfl : c = 0 := by rw [hat0] at hat; injection hat with hat; injection hat with _ hat; exact hat.symm
        have HG := Aside0.mk hgo
        have HSN := Aside0.mk hsn
        clear hgo hat hat0 hsn hin
        go_wp2_with (at_mapUpdate; refine wpList_mapUpdate_own _ rfl _ _ _ 80 rfl 9 3 packs_law Tryd.underlying80 _ w.heap.size k _ rfl hown (by unfold maxLen; omega) _ _ _ rfl rfl hkey _ [] (plainElem_int Tryd.underlying3 (by decide)) ?_)
        intro w1 hown1 hgrow1
        have hnx1 := hnx.grown hgrow1 hnx.size (fun j hj => by cases hj; exact Nat.le_refl _)
        obtain ⟨c2, hrun2, hat2, _⟩ := hown1.lookup_int packs_law Tryd.underlying80 Tryd.underlying3 (packs_zero _) hkey
        obtain rfl : c2 = 1 := by rw [atKey_put_same (packsD_isMap _) (keyS_lit s)] at hat2; injection hat2 with hat2; injection hat2 with _ hat2; exact hat2.symm
        rw [← HSN.out] at hown1
        have HOWN := Aside0.mk hown1
        clear hat2 hrun hown hgrow1 hnx hown1
        have hc := hexName_calls s
        cases hh : hexName s with
        | true =>
          rw [hh] at hc HG
          clear hh
          go_wp2_with (go_at_call 42; refine (hc _ (by omega)).mono ?_; rintro e w' ⟨rfl, ⟨nd, rfl⟩⟩)
          go_roundw
          case rel => exact ⟨k + 1, by omega, by go_num, ⟨by rw [HG.out]; simp⟩, HOWN.out, pw_below_drewN hnx1 nd⟩
          case measure => simp [intOf]; omega
        | false =>
          rw [hh] at hc HG
          clear hh
          go_wp2_with (go_at_call 42; refine (hc _ (by omega)).mono ?_; rintro e w' ⟨rfl, ⟨nd, rfl⟩⟩)
          go_ret
          refine ⟨?_, pw_below_drewN hnx1 nd⟩
          rw [← HRES.out, packsB, HG.out]; simp
    · have hkl : k = l0.length := by omega
      subst hkl
      have hg := HGO.out
      rw [List.drop_length, packsGo] at hg
      have HG := Aside0.mk hg
      clear hg HGO hlt
      go_wp2
      go_ret
      refine ⟨?_, hnx⟩
      rw [← HRES.out, packsB, ← HG.out]; simp
      omega

end Go.Proofs.YtgmddlbbmlneaaaDoor.PR
