/- Part 2 of 5 of the texts on which the proof leans: plain words, and contracts of the functions that it reaches. -/
import Derived.Test.YtgmddlbbmlneaaaDoorLn1
import Derived.Lib.SplitLaws
import Derived.Lib.Join
import Derived.Lib.ItoaLen
import Derived.WalkKit
import Derived.Test.YtgmddlbbmlneaaaDoorChecked
import Derived.LaidEql
import Derived.Stop.Asserts
import Derived.RowKitTokens
import Derived.Laws.CopyOwn
import Derived.BigQuiet
import Derived.BigRegion
import Derived.Deep.RegionHeld3
import Derived.Lib.BufferKept
import Derived.StillTail
import Derived.Deep.Quiet
import Derived.Lib.QuietBelow
import Derived.Laws.EntriesVeiled
import Derived.Deep.RegionLaw
set_option linter.all false
namespace Go.Proofs.YtgmddlbbmlneaaaDoor.PR
open Go.RowKit Go.Proofs.YtgmddlbbmlneaaaDoorW.PrintWords Go.Proofs.YtgmddlbbmlneaaaDoorW.PrintLast Go.Proofs.YtgmddlbbmlneaaaDoorW.PrintMore
attribute [local go_sem] max2_int min2_int max_two min_two max_three min_three max_four min_four   -- for this text's walks alone
set_option linter.unusedVariables false
set_option linter.unusedSimpArgs false

/-! ### root_fork: function 24 -/
def root_fork.f (k : Nat) (a0_0 : ByteArray) (a0_1 : Bool) (a0_2 : ByteArray) (l0_3 : List (S76)) (l0_4 : List ByteArray) : Option (Bool) := (root_Named.f k a0_0).bind fun t104 => (if t104 = true then ((root_packs.f l0_4).bind fun t105 => (if t105 = true then ((refs_Right.f l0_3).bind fun t106 => (if t106 = true then ((refs_Named.f a0_2).bind fun t107 => (if t107 = true then ((strings_HasPrefix.f a0_2 (⟨#[104, 101, 97, 100, 115, 47]⟩ : ByteArray)).bind fun t108 => (some t108)) else (some false))) else (some false))) else (some false))) else (some false))
theorem root_fork.mono : ∀ a0 a1 a2 a3 a4 k, LeO (root_fork.f k a0 a1 a2 a3 a4) (root_fork.f (k + 1) a0 a1 a2 a3 a4) := by
  intro a0 a1 a2 a3 a4 k
  unfold root_fork.f
  repeat' first
      | (with_reducible exact root_Named.mono _ _)
      | (with_reducible exact LeO.refl _)
      | (with_reducible exact LeO.none _)
      | (with_reducible refine LeO.ite ?_ ?_)
      | (with_reducible refine LeO.bind ?_ (fun _ => ?_))
      | exact root_Named.mono _ _
      | exact LeO.none _
      | refine LeO.ite ?_ ?_
      | refine LeO.bind ?_ (fun _ => ?_)
set_option maxHeartbeats 8000000 in
set_option maxRecDepth 100000 in
theorem root_fork.calls (k : Nat) (a0_0 : ByteArray) (a0_1 : Bool) (a0_2 : ByteArray) (A0_3 : Option Addr) (c0_3 : Nat) (l0_3 : List (S76)) (A0_4 : Option Addr) (c0_4 : Nat) (l0_4 : List ByteArray) (r : Bool) (w : World) (hG : Gl w) (hr0_3 : Kd.C k76 w A0_3 l0_3.length l0_3) (hc0_3 : l0_3.length ≤ c0_3) (hr0_4 : Kd.C Kd.string w A0_4 l0_4.length l0_4) (hc0_4 : l0_4.length ≤ c0_4) (h : root_fork.f k a0_0 a0_1 a0_2 l0_3 l0_4 = some r) :
    Calls Tryd.prog 24 #[.agg #[.string a0_0, .bool a0_1, .string a0_2, .slice A0_3 l0_3.length c0_3, .slice A0_4 l0_4.length c0_4]] w fun e w' => e = .returned (.bool r) ∧ Below w.heap.size w w' := by
  have hu40 := Tryd.underlying40
  have HR0_3 := Aside0.mk hr0_3
  have HC0_3 := Aside0.mk hc0_3
  clear hr0_3 hc0_3
  have HR0_4 := Aside0.mk hr0_4
  have HC0_4 := Aside0.mk hc0_4
  clear hr0_4 hc0_4
  have HB := Aside0.mk (Below.refl w.heap.size w)
  have HG := Aside0.mk hG
  clear hG
  have H : ((root_Named.f k a0_0).bind fun t104 => (if t104 = true then ((root_packs.f l0_4).bind fun t105 => (if t105 = true then ((refs_Right.f l0_3).bind fun t106 => (if t106 = true then ((refs_Named.f a0_2).bind fun t107 => (if t107 = true then ((strings_HasPrefix.f a0_2 (⟨#[104, 101, 97, 100, 115, 47]⟩ : ByteArray)).bind fun t108 => (some t108)) else (some false))) else (some false))) else (some false))) else (some false))) = some r := h
  clear h
  replace H := Option.bind_eq_some_iff.mp H
  obtain ⟨t104, A20, H⟩ := H
  replace H : (if t104 = true then ((root_packs.f l0_4).bind fun t105 => (if t105 = true then ((refs_Right.f l0_3).bind fun t106 => (if t106 = true then ((refs_Named.f a0_2).bind fun t107 => (if t107 = true then ((strings_HasPrefix.f a0_2 (⟨#[104, 101, 97, 100, 115, 47]⟩ : ByteArray)).bind fun t108 => (some t108)) else (some false))) else (some false))) else (some false))) else (some false)) = some r := H
  have A2 := Aside0.mk A20
  clear A20
  by_cases c3 : t104 = true
  · subst c3
    have H1 : ((root_packs.f l0_4).bind fun t105 => (if t105 = true then ((refs_Right.f l0_3).bind fun t106 => (if t106 = true then ((refs_Named.f a0_2).bind fun t107 => (if t107 = true then ((strings_HasPrefix.f a0_2 (⟨#[104, 101, 97, 100, 115, 47]⟩ : ByteArray)).bind fun t108 => (some t108)) else (some false))) else (some false))) else (some false))) = some r := by rw [if_pos rfl] at H; exact H
    clear H
    have H := H1
    clear H1
    replace H := Option.bind_eq_some_iff.mp H
    obtain ⟨t105, A40, H⟩ := H
    replace H : (if t105 = true then ((refs_Right.f l0_3).bind fun t106 => (if t106 = true then ((refs_Named.f a0_2).bind fun t107 => (if t107 = true then ((strings_HasPrefix.f a0_2 (⟨#[104, 101, 97, 100, 115, 47]⟩ : ByteArray)).bind fun t108 => (some t108)) else (some false))) else (some false))) else (some false)) = some r := H
    have A4 := Aside0.mk A40
    clear A40
    by_cases c5 : t105 = true
    · subst c5
      have H1 : ((refs_Right.f l0_3).bind fun t106 => (if t106 = true then ((refs_Named.f a0_2).bind fun t107 => (if t107 = true then ((strings_HasPrefix.f a0_2 (⟨#[104, 101, 97, 100, 115, 47]⟩ : ByteArray)).bind fun t108 => (some t108)) else (some false))) else (some false))) = some r := by rw [if_pos rfl] at H; exact H
      clear H
      have H := H1
      clear H1
      replace H := Option.bind_eq_some_iff.mp H
      obtain ⟨t106, A60, H⟩ := H
      replace H : (if t106 = true then ((refs_Named.f a0_2).bind fun t107 => (if t107 = true then ((strings_HasPrefix.f a0_2 (⟨#[104, 101, 97, 100, 115, 47]⟩ : ByteArray)).bind fun t108 => (some t108)) else (some false))) else (some false)) = some r := H
      have A6 := Aside0.mk A60
      clear A60
      by_cases c7 : t106 = true
      · subst c7
        have H1 : ((refs_Named.f a0_2).bind fun t107 => (if t107 = true then ((strings_HasPrefix.f a0_2 (⟨#[104, 101, 97, 100, 115, 47]⟩ : ByteArray)).bind fun t108 => (some t108)) else (some false))) = some r := by rw [if_pos rfl] at H; exact H
        clear H
        have H := H1
        clear H1
        replace H := Option.bind_eq_some_iff.mp H
        obtain ⟨t107, A80, H⟩ := H
        replace H : (if t107 = true then ((strings_HasPrefix.f a0_2 (⟨#[104, 101, 97, 100, 115, 47]⟩ : ByteArray)).bind fun t108 => (some t108)) else (some false)) = some r := H
        have A8 := Aside0.mk A80
        clear A80
        by_cases c9 : t107 = true
        · subst c9
          have H1 : ((strings_HasPrefix.f a0_2 (⟨#[104, 101, 97, 100, 115, 47]⟩ : ByteArray)).bind fun t108 => (some t108)) = some r := by rw [if_pos rfl] at H; exact H
          clear H
          have H := H1
          clear H1
          replace H := Option.bind_eq_some_iff.mp H
          obtain ⟨t108, A100, H⟩ := H
          replace H : (some t108) = some r := H
          have A10 := Aside0.mk A100
          clear A100
          obtain rfl := Option.some.inj H
          go_enter Tryd.func24, Tryd.ntmps24
          go_wp2_with (first | ((with_reducible refine gate_dst (N := 1) rfl ?_); refine box_event ?hg (N := 1) ?hd (cs := #[.string a0_0, .bool a0_1, .string a0_2, .slice A0_3 l0_3.length c0_3, .slice A0_4 l0_4.length c0_4]) (t := 40) ?hr ?_; (case hd => rfl); (case hg => rfl); (case hr => first | (go_simp; done) | (go_simp; rfl)); intro gb103 hg w11 hbox hb; have n0_ := Aside0.mk (below_step (by repeat (first | (with_reducible first | exact HB.out | apply below_alloc | apply pw_below_drewN | apply below_drew1) | exact HB.out)) hb); have n1_ := Aside0.mk (hbox); have n2_ := Aside0.mk ((by rw [hg]; exact (below_size (by repeat (first | (with_reducible first | exact HB.out | apply below_alloc | apply pw_below_drewN | apply below_drew1) | exact HB.out))) : w.heap.size ≤ gb103)); have n3_ := Aside0.mk ((by rw [hg]; exact (below_size (by repeat (first | (with_reducible first | exact HB.out | apply below_alloc | apply pw_below_drewN | apply below_drew1) | exact HB.out))) : w.heap.size ≤ gb103)); clear HB; have HB := n0_; have BK103 := n1_; have GW103 := n2_; have GE103 := n3_; clear n0_ n1_ n2_ n3_; clear hb hbox hg; have hcz12_0 : w11.cell? ⟨gb103, 0, none⟩ = some (.string a0_0) := (blk_cell BK103.out 0).trans rfl; have hcz12_1 : w11.cell? ⟨gb103, 1, none⟩ = some (.bool a0_1) := (blk_cell BK103.out 1).trans rfl; have hcz12_2 : w11.cell? ⟨gb103, 2, none⟩ = some (.string a0_2) := (blk_cell BK103.out 2).trans rfl; have hcz12_3 : w11.cell? ⟨gb103, 3, none⟩ = some (.slice A0_3 l0_3.length c0_3) := (blk_cell BK103.out 3).trans rfl; have hcz12_4 : w11.cell? ⟨gb103, 4, none⟩ = some (.slice A0_4 l0_4.length c0_4) := (blk_cell BK103.out 4).trans rfl; have hfz12_0 := blk_frozen BK103.out 0; have hfz12_1 := blk_frozen BK103.out 1; have hfz12_2 := blk_frozen BK103.out 2; have hfz12_3 := blk_frozen BK103.out 3; have hfz12_4 := blk_frozen BK103.out 4) | ((with_reducible refine gate_callee (f := 15) rfl ?_); refine goesL_ (some 5) rfl rfl Tryd.func15 (by kernel_rfl) rfl #[.string a0_0] rfl (by (try simp only [List.map_toArray, List.map_cons, List.map_nil]); first | done | rfl | (simp only [List.length_drop, List.length_take]; rfl)) ?_; (with_reducible refine (root_Named.calls k a0_0 true _ A2.out).mono ?_); rintro e w' ⟨rfl, ⟨nd, rfl⟩⟩; refine ⟨_, rfl, ?_⟩) | (go_at_call 25; (with_reducible refine (root_packs.calls _ _ l0_4 true _ ?side1 ?side2 A4.out).mono ?_); (case side1 => repeat (first | exact (Kd.C_below HR0_4.out (by repeat (first | (with_reducible first | exact HB.out | apply below_alloc | apply pw_below_drewN | apply below_drew1 | refine below_set ?_ GE103.out) | exact HB.out))) | (with_reducible refine Kd.C_alloc ?_ _) | (with_reducible refine Kd.C_drewN ?_ _) | (with_reducible refine Kd.C_drew ?_))); (case side2 => exact HC0_4.out); rintro e w13 ⟨rfl, hb⟩; have n0_ := Aside0.mk (blk_below (g := gb103) (o := .cells #[.string a0_0, .bool a0_1, .string a0_2, .slice A0_3 l0_3.length c0_3, .slice A0_4 l0_4.length c0_4] 40 (0, 0)) (by (with_reducible repeat (first | refine blk_drewN ?_ _ | refine blk_drew ?_ | refine blk_alloc ?_ _)); exact BK103.out) hb); have n1_ := Aside0.mk (below_step (by repeat (first | (with_reducible first | exact HB.out | apply below_alloc | apply pw_below_drewN | apply below_drew1 | refine below_set ?_ GE103.out) | exact HB.out)) hb); clear BK103; clear HB; have BK103 := n0_; have HB := n1_; clear n0_ n1_; (try clear hb); (try clear hb2); (try clear hk); (try clear hi); have hcz14_0 : w13.cell? ⟨gb103, 0, none⟩ = some (.string a0_0) := (blk_cell BK103.out 0).trans rfl; have hcz14_1 : w13.cell? ⟨gb103, 1, none⟩ = some (.bool a0_1) := (blk_cell BK103.out 1).trans rfl; have hcz14_2 : w13.cell? ⟨gb103, 2, none⟩ = some (.string a0_2) := (blk_cell BK103.out 2).trans rfl; have hcz14_3 : w13.cell? ⟨gb103, 3, none⟩ = some (.slice A0_3 l0_3.length c0_3) := (blk_cell BK103.out 3).trans rfl; have hcz14_4 : w13.cell? ⟨gb103, 4, none⟩ = some (.slice A0_4 l0_4.length c0_4) := (blk_cell BK103.out 4).trans rfl; have hfz14_0 := blk_frozen BK103.out 0; have hfz14_1 := blk_frozen BK103.out 1; have hfz14_2 := blk_frozen BK103.out 2; have hfz14_3 := blk_frozen BK103.out 3; have hfz14_4 := blk_frozen BK103.out 4) | (go_at_call 39; (with_reducible refine (refs_Right.calls _ _ l0_3 true _ ?side1 ?side2 ?side3 A6.out).mono ?_); (case side1 => exact Gl_below HG.out (by repeat (first | (with_reducible first | exact HB.out | apply below_alloc | apply pw_below_drewN | apply below_drew1 | refine below_set ?_ GE103.out) | exact HB.out))); (case side2 => repeat (first | exact (Kd.C_below HR0_3.out HB.out) | (with_reducible refine Kd.C_alloc ?_ _) | (with_reducible refine Kd.C_drewN ?_ _) | (with_reducible refine Kd.C_drew ?_))); (case side3 => exact HC0_3.out); rintro e w15 ⟨rfl, hb⟩; have n0_ := Aside0.mk (blk_below (g := gb103) (o := .cells #[.string a0_0, .bool a0_1, .string a0_2, .slice A0_3 l0_3.length c0_3, .slice A0_4 l0_4.length c0_4] 40 (0, 0)) (by (with_reducible repeat (first | refine blk_drewN ?_ _ | refine blk_drew ?_ | refine blk_alloc ?_ _)); exact BK103.out) hb); have n1_ := Aside0.mk (below_step (by repeat (first | (with_reducible first | exact HB.out | apply below_alloc | apply pw_below_drewN | apply below_drew1 | refine below_set ?_ GE103.out) | exact HB.out)) hb); clear BK103; clear HB; have BK103 := n0_; have HB := n1_; clear n0_ n1_; (try clear hb); (try clear hb2); (try clear hk); (try clear hi); have hcz16_0 : w15.cell? ⟨gb103, 0, none⟩ = some (.string a0_0) := (blk_cell BK103.out 0).trans rfl; have hcz16_1 : w15.cell? ⟨gb103, 1, none⟩ = some (.bool a0_1) := (blk_cell BK103.out 1).trans rfl; have hcz16_2 : w15.cell? ⟨gb103, 2, none⟩ = some (.string a0_2) := (blk_cell BK103.out 2).trans rfl; have hcz16_3 : w15.cell? ⟨gb103, 3, none⟩ = some (.slice A0_3 l0_3.length c0_3) := (blk_cell BK103.out 3).trans rfl; have hcz16_4 : w15.cell? ⟨gb103, 4, none⟩ = some (.slice A0_4 l0_4.length c0_4) := (blk_cell BK103.out 4).trans rfl; have hfz16_0 := blk_frozen BK103.out 0; have hfz16_1 := blk_frozen BK103.out 1; have hfz16_2 := blk_frozen BK103.out 2; have hfz16_3 := blk_frozen BK103.out 3; have hfz16_4 := blk_frozen BK103.out 4) | (go_at_call 40; (with_reducible refine (refs_Named.calls a0_2 true _ ?side1 A8.out).mono ?_); (case side1 => exact Gl_below HG.out (by repeat (first | (with_reducible first | exact HB.out | apply below_alloc | apply pw_below_drewN | apply below_drew1 | refine below_set ?_ GE103.out) | exact HB.out))); rintro e w17 ⟨rfl, hb⟩; have n0_ := Aside0.mk (blk_below (g := gb103) (o := .cells #[.string a0_0, .bool a0_1, .string a0_2, .slice A0_3 l0_3.length c0_3, .slice A0_4 l0_4.length c0_4] 40 (0, 0)) (by (with_reducible repeat (first | refine blk_drewN ?_ _ | refine blk_drew ?_ | refine blk_alloc ?_ _)); exact BK103.out) hb); have n1_ := Aside0.mk (below_step (by repeat (first | (with_reducible first | exact HB.out | apply below_alloc | apply pw_below_drewN | apply below_drew1 | refine below_set ?_ GE103.out) | exact HB.out)) hb); clear BK103; clear HB; have BK103 := n0_; have HB := n1_; clear n0_ n1_; (try clear hb); (try clear hb2); (try clear hk); (try clear hi); have hcz18_0 : w17.cell? ⟨gb103, 0, none⟩ = some (.string a0_0) := (blk_cell BK103.out 0).trans rfl; have hcz18_1 : w17.cell? ⟨gb103, 1, none⟩ = some (.bool a0_1) := (blk_cell BK103.out 1).trans rfl; have hcz18_2 : w17.cell? ⟨gb103, 2, none⟩ = some (.string a0_2) := (blk_cell BK103.out 2).trans rfl; have hcz18_3 : w17.cell? ⟨gb103, 3, none⟩ = some (.slice A0_3 l0_3.length c0_3) := (blk_cell BK103.out 3).trans rfl; have hcz18_4 : w17.cell? ⟨gb103, 4, none⟩ = some (.slice A0_4 l0_4.length c0_4) := (blk_cell BK103.out 4).trans rfl; have hfz18_0 := blk_frozen BK103.out 0; have hfz18_1 := blk_frozen BK103.out 1; have hfz18_2 := blk_frozen BK103.out 2; have hfz18_3 := blk_frozen BK103.out 3; have hfz18_4 := blk_frozen BK103.out 4) | (go_at_call 41; (with_reducible refine (strings_HasPrefix.calls a0_2 (⟨#[104, 101, 97, 100, 115, 47]⟩ : ByteArray) t108 _ A10.out).mono ?_); rintro e w' ⟨rfl, ⟨nd, rfl⟩⟩))
          go_ret
          exact ⟨by first | rfl | (simp [errW_none, errW_some] <;> rfl) | (simp [*, errW_none, errW_some] <;> rfl), by repeat (first | (with_reducible first | exact HB.out | apply below_alloc | apply pw_below_drewN | apply below_drew1 | refine below_set ?_ GE103.out) | exact HB.out)⟩
        · replace c9 := Bool.eq_false_iff.mpr c9
          subst c9
          have H1 : (some false) = some r := by rw [if_neg (show ¬ (false = true) by decide)] at H; exact H
          clear H
          have H := H1
          clear H1
          obtain rfl := Option.some.inj H
          go_enter Tryd.func24, Tryd.ntmps24
          go_wp2_with (first | ((with_reducible refine gate_dst (N := 1) rfl ?_); refine box_event ?hg (N := 1) ?hd (cs := #[.string a0_0, .bool a0_1, .string a0_2, .slice A0_3 l0_3.length c0_3, .slice A0_4 l0_4.length c0_4]) (t := 40) ?hr ?_; (case hd => rfl); (case hg => rfl); (case hr => first | (go_simp; done) | (go_simp; rfl)); intro gb103 hg w19 hbox hb; have n0_ := Aside0.mk (below_step (by repeat (first | (with_reducible first | exact HB.out | apply below_alloc | apply pw_below_drewN | apply below_drew1) | exact HB.out)) hb); have n1_ := Aside0.mk (hbox); have n2_ := Aside0.mk ((by rw [hg]; exact (below_size (by repeat (first | (with_reducible first | exact HB.out | apply below_alloc | apply pw_below_drewN | apply below_drew1) | exact HB.out))) : w.heap.size ≤ gb103)); have n3_ := Aside0.mk ((by rw [hg]; exact (below_size (by repeat (first | (with_reducible first | exact HB.out | apply below_alloc | apply pw_below_drewN | apply below_drew1) | exact HB.out))) : w.heap.size ≤ gb103)); clear HB; have HB := n0_; have BK103 := n1_; have GW103 := n2_; have GE103 := n3_; clear n0_ n1_ n2_ n3_; clear hb hbox hg; have hcz20_0 : w19.cell? ⟨gb103, 0, none⟩ = some (.string a0_0) := (blk_cell BK103.out 0).trans rfl; have hcz20_1 : w19.cell? ⟨gb103, 1, none⟩ = some (.bool a0_1) := (blk_cell BK103.out 1).trans rfl; have hcz20_2 : w19.cell? ⟨gb103, 2, none⟩ = some (.string a0_2) := (blk_cell BK103.out 2).trans rfl; have hcz20_3 : w19.cell? ⟨gb103, 3, none⟩ = some (.slice A0_3 l0_3.length c0_3) := (blk_cell BK103.out 3).trans rfl; have hcz20_4 : w19.cell? ⟨gb103, 4, none⟩ = some (.slice A0_4 l0_4.length c0_4) := (blk_cell BK103.out 4).trans rfl; have hfz20_0 := blk_frozen BK103.out 0; have hfz20_1 := blk_frozen BK103.out 1; have hfz20_2 := blk_frozen BK103.out 2; have hfz20_3 := blk_frozen BK103.out 3; have hfz20_4 := blk_frozen BK103.out 4) | ((with_reducible refine gate_callee (f := 15) rfl ?_); refine goesL_ (some 5) rfl rfl Tryd.func15 (by kernel_rfl) rfl #[.string a0_0] rfl (by (try simp only [List.map_toArray, List.map_cons, List.map_nil]); first | done | rfl | (simp only [List.length_drop, List.length_take]; rfl)) ?_; (with_reducible refine (root_Named.calls k a0_0 true _ A2.out).mono ?_); rintro e w' ⟨rfl, ⟨nd, rfl⟩⟩; refine ⟨_, rfl, ?_⟩) | (go_at_call 25; (with_reducible refine (root_packs.calls _ _ l0_4 true _ ?side1 ?side2 A4.out).mono ?_); (case side1 => repeat (first | exact (Kd.C_below HR0_4.out (by repeat (first | (with_reducible first | exact HB.out | apply below_alloc | apply pw_below_drewN | apply below_drew1 | refine below_set ?_ GE103.out) | exact HB.out))) | (with_reducible refine Kd.C_alloc ?_ _) | (with_reducible refine Kd.C_drewN ?_ _) | (with_reducible refine Kd.C_drew ?_))); (case side2 => exact HC0_4.out); rintro e w21 ⟨rfl, hb⟩; have n0_ := Aside0.mk (blk_below (g := gb103) (o := .cells #[.string a0_0, .bool a0_1, .string a0_2, .slice A0_3 l0_3.length c0_3, .slice A0_4 l0_4.length c0_4] 40 (0, 0)) (by (with_reducible repeat (first | refine blk_drewN ?_ _ | refine blk_drew ?_ | refine blk_alloc ?_ _)); exact BK103.out) hb); have n1_ := Aside0.mk (below_step (by repeat (first | (with_reducible first | exact HB.out | apply below_alloc | apply pw_below_drewN | apply below_drew1 | refine below_set ?_ GE103.out) | exact HB.out)) hb); clear BK103; clear HB; have BK103 := n0_; have HB := n1_; clear n0_ n1_; (try clear hb); (try clear hb2); (try clear hk); (try clear hi); have hcz22_0 : w21.cell? ⟨gb103, 0, none⟩ = some (.string a0_0) := (blk_cell BK103.out 0).trans rfl; have hcz22_1 : w21.cell? ⟨gb103, 1, none⟩ = some (.bool a0_1) := (blk_cell BK103.out 1).trans rfl; have hcz22_2 : w21.cell? ⟨gb103, 2, none⟩ = some (.string a0_2) := (blk_cell BK103.out 2).trans rfl; have hcz22_3 : w21.cell? ⟨gb103, 3, none⟩ = some (.slice A0_3 l0_3.length c0_3) := (blk_cell BK103.out 3).trans rfl; have hcz22_4 : w21.cell? ⟨gb103, 4, none⟩ = some (.slice A0_4 l0_4.length c0_4) := (blk_cell BK103.out 4).trans rfl; have hfz22_0 := blk_frozen BK103.out 0; have hfz22_1 := blk_frozen BK103.out 1; have hfz22_2 := blk_frozen BK103.out 2; have hfz22_3 := blk_frozen BK103.out 3; have hfz22_4 := blk_frozen BK103.out 4) | (go_at_call 39; (with_reducible refine (refs_Right.calls _ _ l0_3 true _ ?side1 ?side2 ?side3 A6.out).mono ?_); (case side1 => exact Gl_below HG.out (by repeat (first | (with_reducible first | exact HB.out | apply below_alloc | apply pw_below_drewN | apply below_drew1 | refine below_set ?_ GE103.out) | exact HB.out))); (case side2 => repeat (first | exact (Kd.C_below HR0_3.out HB.out) | (with_reducible refine Kd.C_alloc ?_ _) | (with_reducible refine Kd.C_drewN ?_ _) | (with_reducible refine Kd.C_drew ?_))); (case side3 => exact HC0_3.out); rintro e w23 ⟨rfl, hb⟩; have n0_ := Aside0.mk (blk_below (g := gb103) (o := .cells #[.string a0_0, .bool a0_1, .string a0_2, .slice A0_3 l0_3.length c0_3, .slice A0_4 l0_4.length c0_4] 40 (0, 0)) (by (with_reducible repeat (first | refine blk_drewN ?_ _ | refine blk_drew ?_ | refine blk_alloc ?_ _)); exact BK103.out) hb); have n1_ := Aside0.mk (below_step (by repeat (first | (with_reducible first | exact HB.out | apply below_alloc | apply pw_below_drewN | apply below_drew1 | refine below_set ?_ GE103.out) | exact HB.out)) hb); clear BK103; clear HB; have BK103 := n0_; have HB := n1_; clear n0_ n1_; (try clear hb); (try clear hb2); (try clear hk); (try clear hi); have hcz24_0 : w23.cell? ⟨gb103, 0, none⟩ = some (.string a0_0) := (blk_cell BK103.out 0).trans rfl; have hcz24_1 : w23.cell? ⟨gb103, 1, none⟩ = some (.bool a0_1) := (blk_cell BK103.out 1).trans rfl; have hcz24_2 : w23.cell? ⟨gb103, 2, none⟩ = some (.string a0_2) := (blk_cell BK103.out 2).trans rfl; have hcz24_3 : w23.cell? ⟨gb103, 3, none⟩ = some (.slice A0_3 l0_3.length c0_3) := (blk_cell BK103.out 3).trans rfl; have hcz24_4 : w23.cell? ⟨gb103, 4, none⟩ = some (.slice A0_4 l0_4.length c0_4) := (blk_cell BK103.out 4).trans rfl; have hfz24_0 := blk_frozen BK103.out 0; have hfz24_1 := blk_frozen BK103.out 1; have hfz24_2 := blk_frozen BK103.out 2; have hfz24_3 := blk_frozen BK103.out 3; have hfz24_4 := blk_frozen BK103.out 4) | (go_at_call 40; (with_reducible refine (refs_Named.calls a0_2 false _ ?side1 A8.out).mono ?_); (case side1 => exact Gl_below HG.out (by repeat (first | (with_reducible first | exact HB.out | apply below_alloc | apply pw_below_drewN | apply below_drew1 | refine below_set ?_ GE103.out) | exact HB.out))); rintro e w25 ⟨rfl, hb⟩; have n0_ := Aside0.mk (blk_below (g := gb103) (o := .cells #[.string a0_0, .bool a0_1, .string a0_2, .slice A0_3 l0_3.length c0_3, .slice A0_4 l0_4.length c0_4] 40 (0, 0)) (by (with_reducible repeat (first | refine blk_drewN ?_ _ | refine blk_drew ?_ | refine blk_alloc ?_ _)); exact BK103.out) hb); have n1_ := Aside0.mk (below_step (by repeat (first | (with_reducible first | exact HB.out | apply below_alloc | apply pw_below_drewN | apply below_drew1 | refine below_set ?_ GE103.out) | exact HB.out)) hb); clear BK103; clear HB; have BK103 := n0_; have HB := n1_; clear n0_ n1_; (try clear hb); (try clear hb2); (try clear hk); (try clear hi)))
          go_ret
          exact ⟨by first | rfl | (simp [errW_none, errW_some] <;> rfl) | (simp [*, errW_none, errW_some] <;> rfl), by repeat (first | (with_reducible first | exact HB.out | apply below_alloc | apply pw_below_drewN | apply below_drew1 | refine below_set ?_ GE103.out) | exact HB.out)⟩
      · replace c7 := Bool.eq_false_iff.mpr c7
        subst c7
        have H1 : (some false) = some r := by rw [if_neg (show ¬ (false = true) by decide)] at H; exact H
        clear H
        have H := H1
        clear H1
        obtain rfl := Option.some.inj H
        go_enter Tryd.func24, Tryd.ntmps24
        go_wp2_with (first | ((with_reducible refine gate_dst (N := 1) rfl ?_); refine box_event ?hg (N := 1) ?hd (cs := #[.string a0_0, .bool a0_1, .string a0_2, .slice A0_3 l0_3.length c0_3, .slice A0_4 l0_4.length c0_4]) (t := 40) ?hr ?_; (case hd => rfl); (case hg => rfl); (case hr => first | (go_simp; done) | (go_simp; rfl)); intro gb103 hg w26 hbox hb; have n0_ := Aside0.mk (below_step (by repeat (first | (with_reducible first | exact HB.out | apply below_alloc | apply pw_below_drewN | apply below_drew1) | exact HB.out)) hb); have n1_ := Aside0.mk (hbox); have n2_ := Aside0.mk ((by rw [hg]; exact (below_size (by repeat (first | (with_reducible first | exact HB.out | apply below_alloc | apply pw_below_drewN | apply below_drew1) | exact HB.out))) : w.heap.size ≤ gb103)); have n3_ := Aside0.mk ((by rw [hg]; exact (below_size (by repeat (first | (with_reducible first | exact HB.out | apply below_alloc | apply pw_below_drewN | apply below_drew1) | exact HB.out))) : w.heap.size ≤ gb103)); clear HB; have HB := n0_; have BK103 := n1_; have GW103 := n2_; have GE103 := n3_; clear n0_ n1_ n2_ n3_; clear hb hbox hg; have hcz27_0 : w26.cell? ⟨gb103, 0, none⟩ = some (.string a0_0) := (blk_cell BK103.out 0).trans rfl; have hcz27_1 : w26.cell? ⟨gb103, 1, none⟩ = some (.bool a0_1) := (blk_cell BK103.out 1).trans rfl; have hcz27_2 : w26.cell? ⟨gb103, 2, none⟩ = some (.string a0_2) := (blk_cell BK103.out 2).trans rfl; have hcz27_3 : w26.cell? ⟨gb103, 3, none⟩ = some (.slice A0_3 l0_3.length c0_3) := (blk_cell BK103.out 3).trans rfl; have hcz27_4 : w26.cell? ⟨gb103, 4, none⟩ = some (.slice A0_4 l0_4.length c0_4) := (blk_cell BK103.out 4).trans rfl; have hfz27_0 := blk_frozen BK103.out 0; have hfz27_1 := blk_frozen BK103.out 1; have hfz27_2 := blk_frozen BK103.out 2; have hfz27_3 := blk_frozen BK103.out 3; have hfz27_4 := blk_frozen BK103.out 4) | ((with_reducible refine gate_callee (f := 15) rfl ?_); refine goesL_ (some 5) rfl rfl Tryd.func15 (by kernel_rfl) rfl #[.string a0_0] rfl (by (try simp only [List.map_toArray, List.map_cons, List.map_nil]); first | done | rfl | (simp only [List.length_drop, List.length_take]; rfl)) ?_; (with_reducible refine (root_Named.calls k a0_0 true _ A2.out).mono ?_); rintro e w' ⟨rfl, ⟨nd, rfl⟩⟩; refine ⟨_, rfl, ?_⟩) | (go_at_call 25; (with_reducible refine (root_packs.calls _ _ l0_4 true _ ?side1 ?side2 A4.out).mono ?_); (case side1 => repeat (first | exact (Kd.C_below HR0_4.out (by repeat (first | (with_reducible first | exact HB.out | apply below_alloc | apply pw_below_drewN | apply below_drew1 | refine below_set ?_ GE103.out) | exact HB.out))) | (with_reducible refine Kd.C_alloc ?_ _) | (with_reducible refine Kd.C_drewN ?_ _) | (with_reducible refine Kd.C_drew ?_))); (case side2 => exact HC0_4.out); rintro e w28 ⟨rfl, hb⟩; have n0_ := Aside0.mk (blk_below (g := gb103) (o := .cells #[.string a0_0, .bool a0_1, .string a0_2, .slice A0_3 l0_3.length c0_3, .slice A0_4 l0_4.length c0_4] 40 (0, 0)) (by (with_reducible repeat (first | refine blk_drewN ?_ _ | refine blk_drew ?_ | refine blk_alloc ?_ _)); exact BK103.out) hb); have n1_ := Aside0.mk (below_step (by repeat (first | (with_reducible first | exact HB.out | apply below_alloc | apply pw_below_drewN | apply below_drew1 | refine below_set ?_ GE103.out) | exact HB.out)) hb); clear BK103; clear HB; have BK103 := n0_; have HB := n1_; clear n0_ n1_; (try clear hb); (try clear hb2); (try clear hk); (try clear hi); have hcz29_0 : w28.cell? ⟨gb103, 0, none⟩ = some (.string a0_0) := (blk_cell BK103.out 0).trans rfl; have hcz29_1 : w28.cell? ⟨gb103, 1, none⟩ = some (.bool a0_1) := (blk_cell BK103.out 1).trans rfl; have hcz29_2 : w28.cell? ⟨gb103, 2, none⟩ = some (.string a0_2) := (blk_cell BK103.out 2).trans rfl; have hcz29_3 : w28.cell? ⟨gb103, 3, none⟩ = some (.slice A0_3 l0_3.length c0_3) := (blk_cell BK103.out 3).trans rfl; have hcz29_4 : w28.cell? ⟨gb103, 4, none⟩ = some (.slice A0_4 l0_4.length c0_4) := (blk_cell BK103.out 4).trans rfl; have hfz29_0 := blk_frozen BK103.out 0; have hfz29_1 := blk_frozen BK103.out 1; have hfz29_2 := blk_frozen BK103.out 2; have hfz29_3 := blk_frozen BK103.out 3; have hfz29_4 := blk_frozen BK103.out 4) | (go_at_call 39; (with_reducible refine (refs_Right.calls _ _ l0_3 false _ ?side1 ?side2 ?side3 A6.out).mono ?_); (case side1 => exact Gl_below HG.out (by repeat (first | (with_reducible first | exact HB.out | apply below_alloc | apply pw_below_drewN | apply below_drew1 | refine below_set ?_ GE103.out) | exact HB.out))); (case side2 => repeat (first | exact (Kd.C_below HR0_3.out HB.out) | (with_reducible refine Kd.C_alloc ?_ _) | (with_reducible refine Kd.C_drewN ?_ _) | (with_reducible refine Kd.C_drew ?_))); (case side3 => exact HC0_3.out); rintro e w30 ⟨rfl, hb⟩; have n0_ := Aside0.mk (blk_below (g := gb103) (o := .cells #[.string a0_0, .bool a0_1, .string a0_2, .slice A0_3 l0_3.length c0_3, .slice A0_4 l0_4.length c0_4] 40 (0, 0)) (by (with_reducible repeat (first | refine blk_drewN ?_ _ | refine blk_drew ?_ | refine blk_alloc ?_ _)); exact BK103.out) hb); have n1_ := Aside0.mk (below_step (by repeat (first | (with_reducible first | exact HB.out | apply below_alloc | apply pw_below_drewN | apply below_drew1 | refine below_set ?_ GE103.out) | exact HB.out)) hb); clear BK103; clear HB; have BK103 := n0_; have HB := n1_; clear n0_ n1_; (try clear hb); (try clear hb2); (try clear hk); (try clear hi)))
        go_ret
        exact ⟨by first | rfl | (simp [errW_none, errW_some] <;> rfl) | (simp [*, errW_none, errW_some] <;> rfl), by repeat (first | (with_reducible first | exact HB.out | apply below_alloc | apply pw_below_drewN | apply below_drew1 | refine below_set ?_ GE103.out) | exact HB.out)⟩
    · replace c5 := Bool.eq_false_iff.mpr c5
      subst c5
      have H1 : (some false) = some r := by rw [if_neg (show ¬ (false = true) by decide)] at H; exact H
      clear H
      have H := H1
      clear H1
      obtain rfl := Option.some.inj H
      go_enter Tryd.func24, Tryd.ntmps24
      go_wp2_with (first | ((with_reducible refine gate_dst (N := 1) rfl ?_); refine box_event ?hg (N := 1) ?hd (cs := #[.string a0_0, .bool a0_1, .string a0_2, .slice A0_3 l0_3.length c0_3, .slice A0_4 l0_4.length c0_4]) (t := 40) ?hr ?_; (case hd => rfl); (case hg => rfl); (case hr => first | (go_simp; done) | (go_simp; rfl)); intro gb103 hg w31 hbox hb; have n0_ := Aside0.mk (below_step (by repeat (first | (with_reducible first | exact HB.out | apply below_alloc | apply pw_below_drewN | apply below_drew1) | exact HB.out)) hb); have n1_ := Aside0.mk (hbox); have n2_ := Aside0.mk ((by rw [hg]; exact (below_size (by repeat (first | (with_reducible first | exact HB.out | apply below_alloc | apply pw_below_drewN | apply below_drew1) | exact HB.out))) : w.heap.size ≤ gb103)); have n3_ := Aside0.mk ((by rw [hg]; exact (below_size (by repeat (first | (with_reducible first | exact HB.out | apply below_alloc | apply pw_below_drewN | apply below_drew1) | exact HB.out))) : w.heap.size ≤ gb103)); clear HB; have HB := n0_; have BK103 := n1_; have GW103 := n2_; have GE103 := n3_; clear n0_ n1_ n2_ n3_; clear hb hbox hg; have hcz32_0 : w31.cell? ⟨gb103, 0, none⟩ = some (.string a0_0) := (blk_cell BK103.out 0).trans rfl; have hcz32_1 : w31.cell? ⟨gb103, 1, none⟩ = some (.bool a0_1) := (blk_cell BK103.out 1).trans rfl; have hcz32_2 : w31.cell? ⟨gb103, 2, none⟩ = some (.string a0_2) := (blk_cell BK103.out 2).trans rfl; have hcz32_3 : w31.cell? ⟨gb103, 3, none⟩ = some (.slice A0_3 l0_3.length c0_3) := (blk_cell BK103.out 3).trans rfl; have hcz32_4 : w31.cell? ⟨gb103, 4, none⟩ = some (.slice A0_4 l0_4.length c0_4) := (blk_cell BK103.out 4).trans rfl; have hfz32_0 := blk_frozen BK103.out 0; have hfz32_1 := blk_frozen BK103.out 1; have hfz32_2 := blk_frozen BK103.out 2; have hfz32_3 := blk_frozen BK103.out 3; have hfz32_4 := blk_frozen BK103.out 4) | ((with_reducible refine gate_callee (f := 15) rfl ?_); refine goesL_ (some 5) rfl rfl Tryd.func15 (by kernel_rfl) rfl #[.string a0_0] rfl (by (try simp only [List.map_toArray, List.map_cons, List.map_nil]); first | done | rfl | (simp only [List.length_drop, List.length_take]; rfl)) ?_; (with_reducible refine (root_Named.calls k a0_0 true _ A2.out).mono ?_); rintro e w' ⟨rfl, ⟨nd, rfl⟩⟩; refine ⟨_, rfl, ?_⟩) | (go_at_call 25; (with_reducible refine (root_packs.calls _ _ l0_4 false _ ?side1 ?side2 A4.out).mono ?_); (case side1 => repeat (first | exact (Kd.C_below HR0_4.out (by repeat (first | (with_reducible first | exact HB.out | apply below_alloc | apply pw_below_drewN | apply below_drew1 | refine below_set ?_ GE103.out) | exact HB.out))) | (with_reducible refine Kd.C_alloc ?_ _) | (with_reducible refine Kd.C_drewN ?_ _) | (with_reducible refine Kd.C_drew ?_))); (case side2 => exact HC0_4.out); rintro e w33 ⟨rfl, hb⟩; have n0_ := Aside0.mk (blk_below (g := gb103) (o := .cells #[.string a0_0, .bool a0_1, .string a0_2, .slice A0_3 l0_3.length c0_3, .slice A0_4 l0_4.length c0_4] 40 (0, 0)) (by (with_reducible repeat (first | refine blk_drewN ?_ _ | refine blk_drew ?_ | refine blk_alloc ?_ _)); exact BK103.out) hb); have n1_ := Aside0.mk (below_step (by repeat (first | (with_reducible first | exact HB.out | apply below_alloc | apply pw_below_drewN | apply below_drew1 | refine below_set ?_ GE103.out) | exact HB.out)) hb); clear BK103; clear HB; have BK103 := n0_; have HB := n1_; clear n0_ n1_; (try clear hb); (try clear hb2); (try clear hk); (try clear hi)))
      go_ret
      exact ⟨by first | rfl | (simp [errW_none, errW_some] <;> rfl) | (simp [*, errW_none, errW_some] <;> rfl), by repeat (first | (with_reducible first | exact HB.out | apply below_alloc | apply pw_below_drewN | apply below_drew1 | refine below_set ?_ GE103.out) | exact HB.out)⟩
  · replace c3 := Bool.eq_false_iff.mpr c3
    subst c3
    have H1 : (some false) = some r := by rw [if_neg (show ¬ (false = true) by decide)] at H; exact H
    clear H
    have H := H1
    clear H1
    obtain rfl := Option.some.inj H
    go_enter Tryd.func24, Tryd.ntmps24
    go_wp2_with (first | ((with_reducible refine gate_dst (N := 1) rfl ?_); refine box_event ?hg (N := 1) ?hd (cs := #[.string a0_0, .bool a0_1, .string a0_2, .slice A0_3 l0_3.length c0_3, .slice A0_4 l0_4.length c0_4]) (t := 40) ?hr ?_; (case hd => rfl); (case hg => rfl); (case hr => first | (go_simp; done) | (go_simp; rfl)); intro gb103 hg w34 hbox hb; have n0_ := Aside0.mk (below_step (by repeat (first | (with_reducible first | exact HB.out | apply below_alloc | apply pw_below_drewN | apply below_drew1) | exact HB.out)) hb); have n1_ := Aside0.mk (hbox); have n2_ := Aside0.mk ((by rw [hg]; exact (below_size (by repeat (first | (with_reducible first | exact HB.out | apply below_alloc | apply pw_below_drewN | apply below_drew1) | exact HB.out))) : w.heap.size ≤ gb103)); have n3_ := Aside0.mk ((by rw [hg]; exact (below_size (by repeat (first | (with_reducible first | exact HB.out | apply below_alloc | apply pw_below_drewN | apply below_drew1) | exact HB.out))) : w.heap.size ≤ gb103)); clear HB; have HB := n0_; have BK103 := n1_; have GW103 := n2_; have GE103 := n3_; clear n0_ n1_ n2_ n3_; clear hb hbox hg; have hcz35_0 : w34.cell? ⟨gb103, 0, none⟩ = some (.string a0_0) := (blk_cell BK103.out 0).trans rfl; have hcz35_1 : w34.cell? ⟨gb103, 1, none⟩ = some (.bool a0_1) := (blk_cell BK103.out 1).trans rfl; have hcz35_2 : w34.cell? ⟨gb103, 2, none⟩ = some (.string a0_2) := (blk_cell BK103.out 2).trans rfl; have hcz35_3 : w34.cell? ⟨gb103, 3, none⟩ = some (.slice A0_3 l0_3.length c0_3) := (blk_cell BK103.out 3).trans rfl; have hcz35_4 : w34.cell? ⟨gb103, 4, none⟩ = some (.slice A0_4 l0_4.length c0_4) := (blk_cell BK103.out 4).trans rfl; have hfz35_0 := blk_frozen BK103.out 0; have hfz35_1 := blk_frozen BK103.out 1; have hfz35_2 := blk_frozen BK103.out 2; have hfz35_3 := blk_frozen BK103.out 3; have hfz35_4 := blk_frozen BK103.out 4) | ((with_reducible refine gate_callee (f := 15) rfl ?_); refine goesL_ (some 5) rfl rfl Tryd.func15 (by kernel_rfl) rfl #[.string a0_0] rfl (by (try simp only [List.map_toArray, List.map_cons, List.map_nil]); first | done | rfl | (simp only [List.length_drop, List.length_take]; rfl)) ?_; (with_reducible refine (root_Named.calls k a0_0 false _ A2.out).mono ?_); rintro e w' ⟨rfl, ⟨nd, rfl⟩⟩; refine ⟨_, rfl, ?_⟩))
    go_ret
    exact ⟨by first | rfl | (simp [errW_none, errW_some] <;> rfl) | (simp [*, errW_none, errW_some] <;> rfl), by repeat (first | (with_reducible first | exact HB.out | apply below_alloc | apply pw_below_drewN | apply below_drew1 | refine below_set ?_ GE103.out) | exact HB.out)⟩

end Go.Proofs.YtgmddlbbmlneaaaDoor.PR

/- root.Right: whether that may be all that a net has. -/
namespace Go.Proofs.YtgmddlbbmlneaaaDoor.PR
open Go.RowKit Go.Shelf Go.Proofs.YtgmddlbbmlneaaaDoorW.PrintWords Go.Proofs.YtgmddlbbmlneaaaDoorW.PrintLast Go.Proofs.YtgmddlbbmlneaaaDoorW.PrintMore
set_option linter.unusedVariables false

theorem root_fork_f (x : S40) (h : okFork x = true) : root_fork.f (x.f0.size + 1) x.f0 x.f1 x.f2 x.f3 x.f4 = some (forkB x) := by
  simp only [okFork, okS, Bool.and_eq_true, decide_eq_true_eq] at h
  obtain ⟨⟨⟨⟨h0, h2⟩, h3⟩, h4⟩, h5⟩ := h
  have hp : root_packs.f x.f4 = some (packsB x.f4) := by rw [root_packs.f, if_pos ⟨h4, h5⟩]
  have hr : refs_Right.f x.f3 = some (refsB x.f3) := by rw [refs_Right.f, if_pos h3]
  have hn : refs_Named.f x.f2 = some (refName x.f2) := by rw [refs_Named.f, if_pos (by omega)]
  rw [root_fork.f, root_Named_f x.f0 (by omega), hp, hr, hn, prefix_f]
  simp only [Option.bind_some, forkB]
  cases forkName x.f0 <;> cases packsB x.f4 <;> cases refsB x.f3 <;> cases refName x.f2 <;> rfl

theorem rootGo_step {l : List S40} {k : Nat} {prev : Option ByteArray} (h : k < l.length) : rootGo prev (l.drop k) = if forkB l[k] = true then (if (match prev with | none => true | some p => Op.bytesLess p.toList l[k].f0.toList) = true then rootGo (some l[k].f0) (l.drop (k + 1)) else false) else false := by
  rw [List.drop_eq_getElem_cons h]
  cases prev <;> rw [rootGo]
def prevF (l : List S40) (k : Nat) : Option ByteArray := if k = 0 then none else some (rd_T40 l ((k : Int) - 1)).f0

def root_Right.f (a0_0 : Int) (l0_1 : List ByteArray) (l0_2 : List (S40)) : Option (Bool) := if okRoot l0_1 l0_2 = true then some (rootB a0_0 l0_1 l0_2) else none

set_option maxHeartbeats 2000000 in
set_option maxRecDepth 100000 in
theorem root_Right.calls (a0_0 : Int) (A0_1 : Option Addr) (c0_1 : Nat) (l0_1 : List ByteArray) (A0_2 : Option Addr) (c0_2 : Nat) (l0_2 : List (S40)) (r : Bool) (w : World) (hG : Gl w) (hr0_1 : Kd.C Kd.string w A0_1 l0_1.length l0_1) (hc0_1 : l0_1.length ≤ c0_1) (hr0_2 : Kd.C k40 w A0_2 l0_2.length l0_2) (hc0_2 : l0_2.length ≤ c0_2) (h : root_Right.f a0_0 l0_1 l0_2 = some r) :
    Calls Tryd.prog 11 #[.agg #[.int .i64 a0_0, .slice A0_1 l0_1.length c0_1, .slice A0_2 l0_2.length c0_2]] w fun e w' => e = .returned (.bool r) ∧ Below w.heap.size w w' := by
  have HR1 := Aside0.mk hr0_1
  have HC1 := Aside0.mk hc0_1
  have HR2 := Aside0.mk hr0_2
  have hbig : l0_2.length ≤ 9223372036854775807 := hr0_2.2.1
  clear hr0_1 hc0_1 hr0_2 hc0_2
  unfold root_Right.f at h
  split at h
  case isFalse => exact absurd h (by simp)
  rename_i hall
  simp only [okRoot, Bool.and_eq_true, decide_eq_true_eq] at hall
  have HALL := Aside0.mk hall
  clear hall
  have HRES := Aside0.mk (Option.some.inj h)
  clear h
  have HG := Aside0.mk hG
  clear hG
  go_enter Tryd.func11, Tryd.ntmps11
  go_wp2
  have hb0 : Below w.heap.size w (w.alloc (.cells #[.int .i64 a0_0, .slice A0_1 l0_1.length c0_1, .slice A0_2 l0_2.length c0_2] 25)) := below_alloc (Below.refl _ _) _
  have hz0 : (w.alloc (.cells #[.int .i64 a0_0, .slice A0_1 l0_1.length c0_1, .slice A0_2 l0_2.length c0_2] 25)).cell? ⟨w.heap.size, 0, none⟩ = some (.int .i64 a0_0) := by rw [blk_cell (heap_alloc_new w _) 0]; rfl
  have hz1 : (w.alloc (.cells #[.int .i64 a0_0, .slice A0_1 l0_1.length c0_1, .slice A0_2 l0_2.length c0_2] 25)).cell? ⟨w.heap.size, 1, none⟩ = some (.slice A0_1 l0_1.length c0_1) := by rw [blk_cell (heap_alloc_new w _) 1]; rfl
  have hz2 : (w.alloc (.cells #[.int .i64 a0_0, .slice A0_1 l0_1.length c0_1, .slice A0_2 l0_2.length c0_2] 25)).cell? ⟨w.heap.size, 2, none⟩ = some (.slice A0_2 l0_2.length c0_2) := by rw [blk_cell (heap_alloc_new w _) 2]; rfl
  generalize w.alloc (.cells #[.int .i64 a0_0, .slice A0_1 l0_1.length c0_1, .slice A0_2 l0_2.length c0_2] 25) = W0 at hb0 hz0 hz1 hz2 ⊢
  generalize w.heap.size = bx at hz0 hz1 hz2 ⊢
  have HZ := Aside0.mk (And.intro hz0 (And.intro hz1 hz2))
  have HB0 := Aside0.mk hb0
  clear hb0 hz0 hz1 hz2
  go_loopw [8] (fun i wr => ∃ k : Nat, k ≤ l0_2.length ∧ i = .int .i64 k ∧ Aside0 (rootGo (prevF l0_2 k) (l0_2.drop k) = rootGo none l0_2) ∧ Below W0.heap.size W0 wr) (fun i _ => l0_2.length - (intOf i).toNat)
  case atStart => exact ⟨0, Nat.zero_le _, rfl, ⟨rfl⟩, Below.refl _ _⟩
  case round =>
    obtain ⟨k, hk, rfl, HGO, hnx⟩ := hrel
    by_cases hlt : k < l0_2.length
    · obtain ⟨ad, A3, c3, A4, c4, e, hx0, hx1, hx2, hx3, hx4, hl3, hi3, hl4, hi4⟩ := at_T40 (Kd.C_below HR2.out (below_step HB0.out hnx)) (k : Int) (by omega) (by omega)
      cases e
      have hs : okFork l0_2[k] = true := List.all_eq_true.1 HALL.out.2 _ (List.getElem_mem hlt)
      have hrd : rd_T40 l0_2 (k : Int) = l0_2[k] := by simp [rd_T40, List.getD, hlt]
      simp only [hrd, Int.toNat_natCast] at hx0 hx1 hx2 hx3 hx4 hl3 hi3 hl4 hi4
      have hgo := rootGo_step (prev := prevF l0_2 k) hlt
      rw [HGO.out] at hgo
      have hprev : prevF l0_2 (k + 1) = some l0_2[k].f0 := by rw [prevF, if_neg (by omega), show ((k + 1 : Nat) : Int) - 1 = (k : Int) by omega, hrd]
      rw [← hprev] at hgo
      have HS := Aside0.mk hs
      have HGO' := Aside0.mk hgo
      clear hs hgo hprev hrd HGO
      generalize l0_2[k] = x at hx0 hx1 hx2 hx3 hx4 hl3 hi3 hl4 hi4 HS HGO'
      have HLI := Aside0.mk (And.intro hl3 (And.intro hi3 (And.intro hl4 hi4)))
      clear hl3 hi3 hl4 hi4
      go_wp2
      have hb2 : Below W0.heap.size W0 (wr.alloc (.cells #[.string x.f0, .bool x.f1, .string x.f2, .slice A3 x.f3.length c3, .slice A4 x.f4.length c4] 40)) := below_alloc hnx _
      have hb3 : Below wr.heap.size wr (wr.alloc (.cells #[.string x.f0, .bool x.f1, .string x.f2, .slice A3 x.f3.length c3, .slice A4 x.f4.length c4] 40)) := below_alloc (Below.refl _ _) _
      have hbx := blk_cell (heap_alloc_new wr (.cells #[.string x.f0, .bool x.f1, .string x.f2, .slice A3 x.f3.length c3, .slice A4 x.f4.length c4] 40))
      generalize wr.alloc (.cells #[.string x.f0, .bool x.f1, .string x.f2, .slice A3 x.f3.length c3, .slice A4 x.f4.length c4] 40) = W at hb2 hb3 hbx ⊢
      have hbx0 : W.cell? ⟨wr.heap.size, 0, none⟩ = some (.string x.f0) := (hbx 0).trans rfl
      have hbx1 : W.cell? ⟨wr.heap.size, 1, none⟩ = some (.bool x.f1) := (hbx 1).trans rfl
      have hbx2 : W.cell? ⟨wr.heap.size, 2, none⟩ = some (.string x.f2) := (hbx 2).trans rfl
      have hbx3 : W.cell? ⟨wr.heap.size, 3, none⟩ = some (.slice A3 x.f3.length c3) := (hbx 3).trans rfl
      have hbx4 : W.cell? ⟨wr.heap.size, 4, none⟩ = some (.slice A4 x.f4.length c4) := (hbx 4).trans rfl
      have hzW := pw_cell_below hb2 HZ.out.2.2
      clear hbx
      have hGW : ∀ d os, Gl (Go.Sort.grow (redrawn W d) os) := fun d os => Gl_below (Gl_below (Gl_below HG.out HB0.out) hb2) (below_regrown W d os)
      have cF : ∀ d os, Calls Tryd.prog 24 #[.agg #[.string x.f0, .bool x.f1, .string x.f2, .slice A3 x.f3.length c3, .slice A4 x.f4.length c4]] (Go.Sort.grow (redrawn W d) os) fun e w'' => e = .returned (.bool (forkB x)) ∧ ∃ p : Regrown, w'' = Go.Sort.grow (redrawn W p.d) p.os :=
        fun d os => Calls.regrown_of (root_fork.calls _ x.f0 x.f1 x.f2 A3 c3 x.f3 A4 c4 x.f4 _ _ (hGW d os) (Kd.C_below (Kd.C_below HLI.out.2.1 hb3) (below_regrown W d os)) HLI.out.1 (Kd.C_below (Kd.C_below HLI.out.2.2.2 hb3) (below_regrown W d os)) HLI.out.2.2.1 (root_fork_f x HS.out))
      have k0 := cell_regrown hbx0
      have k1 := cell_regrown hbx1
      have k2 := cell_regrown hbx2
      have k3 := cell_regrown hbx3
      have k4 := cell_regrown hbx4
      have kz := cell_regrown hzW
      have HB2 := Aside0.mk hb2
      clear hGW hb2 hb3 hnx hx0 hx1 hx2 hx3 hx4 hbx0 hbx1 hbx2 hbx3 hbx4 hzW
      cases hA : forkB x with
      | false =>
        rw [hA] at cF
        have hr : r = false := by rw [← HRES.out, rootB, HGO'.out, if_neg (by rw [hA]; simp)]; simp
        have HR := Aside0.mk hr
        clear hr HRES HGO'
        refine wp_region_quiet_below (by kernel_rfl) (by kernel_rfl) ?_
        repeat (go_big_quiet_step (exact cF _ _))
        refine wpQuiet_nil ?_
        intro _ hw'
        obtain ⟨⟨dq, osq⟩, hw''⟩ := hw'
        subst hw''
        go_wp2
        go_ret
        exact ⟨ret_b HR.out.symm, below_step HB0.out (below_step HB2.out (below_regrown W dq osq))⟩
      | true =>
        rw [hA] at cF
        by_cases hk0 : k = 0
        · have hpv : (match prevF l0_2 k with | none => true | some p => Op.bytesLess p.toList x.f0.toList) = true := by rw [prevF, if_pos hk0]
          have HA := Aside0.mk hA
          have HPV := Aside0.mk hpv
          clear hA hpv
          have hkk : decide (0 < k) = false := decide_eq_false (by omega)
          clear hk0
          refine wp_region_quiet_below (by kernel_rfl) (by kernel_rfl) ?_
          repeat (go_big_quiet_step (exact cF _ _))
          refine wpQuiet_nil ?_
          intro _ hw'
          obtain ⟨⟨dq, osq⟩, hw''⟩ := hw'
          subst hw''
          go_wp2
          go_roundw
          case rel => exact ⟨k + 1, by omega, by go_num, ⟨by rw [HGO'.out, if_pos HA.out, if_pos HPV.out]⟩, below_step HB2.out (below_regrown W dq osq)⟩
          case measure => simp [intOf]; omega
        · obtain ⟨ad2, B3, d3, B4, d4, e2, hp0, _⟩ := at_T40 (Kd.C_below HR2.out (below_step HB0.out HB2.out)) ((k : Int) - 1) (by omega) (by omega)
          cases e2
          have hix : ((k : Int) - 1).toNat = k - 1 := by omega
          have hpv : prevF l0_2 k = some (rd_T40 l0_2 ((k : Int) - 1)).f0 := by rw [prevF, if_neg hk0]
          rw [hix] at hp0
          rw [hpv] at HGO'
          simp only [] at HGO'
          clear hpv
          generalize (rd_T40 l0_2 ((k : Int) - 1)).f0 = pv at hp0 HGO'
          have kp := cell_regrown hp0
          have hk1 : decide (0 < k) = true := decide_eq_true (by omega)
          have hk2 : IntKind.i64.wrap ((k : Int) - 1) = (k : Int) - 1 := IntWalk.i64_in _ (by omega)
          have hk3 : 0 ≤ (k : Int) - 1 := by omega
          have hk4 : (k : Int) - 1 < l0_2.length := by omega
          clear hp0 hk0
          have HA := Aside0.mk hA
          clear hA
          cases hD : Op.bytesLess pv.toList x.f0.toList with
          | false =>
            have hr : r = false := by rw [← HRES.out, rootB, HGO'.out, if_pos HA.out, if_neg (by rw [hD]; simp)]; simp
            have HR := Aside0.mk hr
            clear hr HRES HGO'
            refine wp_region_quiet_below (by kernel_rfl) (by kernel_rfl) ?_
            repeat (go_big_quiet_step (exact cF _ _))
            refine wpQuiet_nil ?_
            intro _ hw'
            obtain ⟨⟨dq, osq⟩, hw''⟩ := hw'
            subst hw''
            go_wp2
            go_ret
            exact ⟨ret_b HR.out.symm, below_step HB0.out (below_step HB2.out (below_regrown W dq osq))⟩
          | true =>
            have HPV := Aside0.mk hD
            refine wp_region_quiet_below (by kernel_rfl) (by kernel_rfl) ?_
            repeat (go_big_quiet_step (exact cF _ _))
            refine wpQuiet_nil ?_
            intro _ hw'
            obtain ⟨⟨dq, osq⟩, hw''⟩ := hw'
            subst hw''
            go_wp2
            go_roundw
            case rel => exact ⟨k + 1, by omega, by go_num, ⟨by rw [HGO'.out, if_pos HA.out, if_pos HPV.out]⟩, below_step HB2.out (below_regrown W dq osq)⟩
            case measure => simp [intOf]; omega
    · have hkl : k = l0_2.length := by omega
      have hg := HGO.out
      rw [hkl, List.drop_length, rootGo] at hg
      have hr : r = (decide (0 ≤ a0_0) && decide (a0_0 ≤ 1099511627776) && packsB l0_1 && decide (l0_2.length ≤ 16)) := by rw [← HRES.out, rootB, ← hg]; simp
      have HR := Aside0.mk hr
      clear hr hg HGO hlt HRES
      subst hkl
      have hz0 := pw_cell_below hnx HZ.out.1
      have hz1 := pw_cell_below hnx HZ.out.2.1
      have hz2 := pw_cell_below hnx HZ.out.2.2
      have hpk := root_packs.calls A0_1 c0_1 l0_1 (packsB l0_1) wr (Kd.C_below HR1.out (below_step HB0.out hnx)) HC1.out (by rw [root_packs.f, if_pos HALL.out.1])
      have HPK := Aside0.mk hpk
      have HNX := Aside0.mk (below_step HB0.out hnx)
      clear hpk hnx
      by_cases hc0 : 0 ≤ a0_0
      · by_cases hc1 : a0_0 ≤ 1099511627776
        · rw [decide_eq_true hc0, decide_eq_true hc1] at HR
          have HZ2 := Aside0.mk hz2
          cases hp : packsB l0_1 with
          | true =>
            rw [hp] at HPK HR
            have hr : r = decide (l0_2.length ≤ 16) := by rw [HR.out]; simp
            have HR' := Aside0.mk hr
            clear hr HR hp
            go_wp2_with (go_at_call 25; refine HPK.out.mono ?_; rintro e w' ⟨rfl, hb'⟩; have hz2' := pw_cell_below hb' HZ2.out)
            go_ret
            refine ⟨?_, below_step HNX.out hb'⟩
            rw [HR'.out]; simp
            omega
          | false =>
            rw [hp] at HPK HR
            have hr : r = false := by rw [HR.out]; simp
            have HR' := Aside0.mk hr
            clear hr HR hp
            go_wp2_with (go_at_call 25; refine HPK.out.mono ?_; rintro e w' ⟨rfl, hb'⟩; have hz2' := pw_cell_below hb' HZ2.out)
            go_ret
            exact ⟨ret_b HR'.out.symm, below_step HNX.out hb'⟩
        · have hr : r = false := by rw [HR.out, decide_eq_false hc1]; simp
          have HR' := Aside0.mk hr
          clear hr HR
          go_wp2
          go_ret
          exact ⟨ret_b HR'.out.symm, HNX.out⟩
      · have hr : r = false := by rw [HR.out, decide_eq_false hc0]; simp
        have HR' := Aside0.mk hr
        clear hr HR
        go_wp2
        go_ret
        exact ⟨ret_b HR'.out.symm, HNX.out⟩
end Go.Proofs.YtgmddlbbmlneaaaDoor.PR

/- The root's lines, in plain words; how long they can be. -/
namespace Go.Proofs.YtgmddlbbmlneaaaDoor.PR
open Go.RowKit Go.Proofs.YtgmddlbbmlneaaaDoorW.PrintWords Go.Proofs.YtgmddlbbmlneaaaDoorW.PrintLast Go.Proofs.YtgmddlbbmlneaaaDoorW.PrintMore
set_option linter.unusedVariables false

def lineL (ws : List ByteArray) : List UInt8 := Lib.join (ws.map (·.data.toList)) [32] ++ [10]
def rowsL (l : List ByteArray) : List UInt8 := l.flatMap fun x => x.data.toList ++ [10]
def linkS (b : Bool) : ByteArray := if b then ⟨#[108, 105, 110, 107, 101, 100]⟩ else ⟨#[97, 108, 111, 110, 101]⟩
def forkHead (x : S40) : List UInt8 := lineL [⟨#[102, 111, 114, 107]⟩, x.f0, linkS x.f1, x.f2, textB x.f3.length, textB x.f4.length]
def forkText (x : S40) : List UInt8 := forkHead x ++ refsText x.f3 ++ rowsL x.f4
def rootHead (a : Int) (l1 : List ByteArray) (n : Nat) : List UInt8 :=
  lineL [⟨#[110, 101, 116]⟩, textB a] ++ lineL [⟨#[112, 111, 111, 108]⟩, textB l1.length] ++ rowsL l1 ++ lineL [⟨#[102, 111, 114, 107, 115]⟩, textB n]
def rootText (a : Int) (l1 : List ByteArray) (l2 : List S40) : List UInt8 := rootHead a l1 l2.length ++ l2.flatMap forkText
def intsOf (l : List UInt8) : List Int := l.map fun c => (c.toNat : Int)
def root_Put.f (a0_0 : Int) (l0_1 : List ByteArray) (l0_2 : List (S40)) : Option (List Int × Bool) :=
  if okRoot l0_1 l0_2 = true then some (if rootB a0_0 l0_1 l0_2 = true then (intsOf (rootText a0_0 l0_1 l0_2), true) else ([], false)) else none

theorem hexName_all {l : List ByteArray} (h : packsB l = true) : l.length ≤ 24 ∧ ∀ x ∈ l, x.size = 64 := by
  simp only [packsB, Bool.and_eq_true, decide_eq_true_eq] at h
  refine ⟨h.2, ?_⟩
  have : ∀ (l seen : List ByteArray), packsGo seen l = true → ∀ x ∈ l, hexName x = true := by
    intro l
    induction l with
    | nil => intro _ _ x hx; cases hx
    | cons y ys ih =>
      intro seen h x hx
      rw [packsGo] at h
      split at h
      · cases h
      · split at h
        · rename_i h2
          rcases List.mem_cons.1 hx with rfl | hx'
          · exact h2
          · exact ih _ h x hx'
        · cases h
  exact fun x hx => hexName_size (this l [] h.1 x hx)
theorem rowsL_length {l : List ByteArray} {n : Nat} (h : ∀ x ∈ l, x.size ≤ n) : (rowsL l).length ≤ (n + 1) * l.length := by
  induction l with
  | nil => simp [rowsL]
  | cons x l ih =>
    have hx := h x List.mem_cons_self
    have := ih fun y hy => h y (List.mem_cons_of_mem _ hy)
    simp only [rowsL, List.flatMap_cons, List.length_append, List.length_cons, List.length_nil, data_length, Nat.mul_add] at this ⊢
    omega
theorem forkB_parts {x : S40} (h : forkB x = true) : x.f0.size ≤ 20 ∧ x.f2.size ≤ 80 ∧ refsB x.f3 = true ∧ packsB x.f4 = true := by
  unfold forkB at h
  split at h
  · rename_i h0
    split at h
    · rename_i h1
      split at h
      · rename_i h2
        split at h
        · rename_i h3
          simp only [forkName, Bool.and_eq_true, decide_eq_true_eq] at h0
          exact ⟨h0.2, refName_size h3, h2, h1⟩
        · cases h
      · cases h
    · cases h
  · cases h
theorem rootGo_all : ∀ (l : List S40) (prev : Option ByteArray), rootGo prev l = true → ∀ x ∈ l, forkB x = true
  | [], _, _, x, hx => by cases hx
  | y :: ys, prev, h, x, hx => by
    have hy : forkB y = true ∧ rootGo (some y.f0) ys = true := by
      cases prev <;> rw [rootGo] at h
      all_goals
        split at h
        · rename_i h1
          split at h
          · exact ⟨h1, h⟩
          · cases h
        · cases h
    rcases List.mem_cons.1 hx with rfl | h'
    · exact hy.1
    · exact rootGo_all ys _ hy.2 x h'
theorem rootB_parts {a : Int} {l1 : List ByteArray} {l2 : List S40} (h : rootB a l1 l2 = true) : 0 ≤ a ∧ a ≤ 1099511627776 ∧ packsB l1 = true ∧ l2.length ≤ 16 ∧ ∀ x ∈ l2, forkB x = true := by
  simp only [rootB, Bool.and_eq_true, decide_eq_true_eq] at h
  exact ⟨h.2.1.1.1, h.2.1.1.2, h.2.1.2, h.2.2, rootGo_all l2 none h.1⟩

theorem textB_size (n : Int) (h0 : 0 ≤ n) (h1 : n ≤ 9223372036854775807) : (textB n).size ≤ 21 := by
  rw [textB, if_neg (by omega)]
  have := Lib.itoa_length_le n (by omega) h1
  simpa [ByteArray.size] using this
theorem lineL_length (ws : List ByteArray) : (lineL ws).length ≤ (ws.map (·.size)).sum + ws.length + 1 := by
  have : ∀ ws : List ByteArray, (Lib.joinTail [32] (ws.map (·.data.toList))).length = (ws.map (·.size)).sum + ws.length := by
    intro ws
    induction ws with
    | nil => simp [Lib.joinTail]
    | cons x xs ih =>
      simp only [Lib.joinTail, List.map_cons, List.flatten_cons, List.length_append, List.length_cons, List.length_nil, data_length, List.sum_cons] at ih ⊢
      omega
  cases ws with
  | nil => simp [lineL, Lib.join_nil]
  | cons x xs =>
    have h := this xs
    rw [lineL, List.map_cons, Lib.join_cons, List.length_append, List.length_append, data_length, h]
    simp
    omega
theorem forkText_length {x : S40} (h : forkB x = true) : (forkText x).length ≤ 20000 := by
  obtain ⟨s0, s2, hrf, hpk⟩ := forkB_parts h
  obtain ⟨h24, h64⟩ := hexName_all hpk
  obtain ⟨h64r, hszr⟩ := refsB_sizes hrf
  have hrl := refsText_length x.f3 hszr
  have e3 := rowsL_length (l := x.f4) (n := 64) (fun y hy => Nat.le_of_eq (h64 y hy))
  have u3 := textB_size (x.f3.length : Int) (by omega) (by omega)
  have u4 := textB_size (x.f4.length : Int) (by omega) (by omega)
  have ehd := lineL_length [⟨#[102, 111, 114, 107]⟩, x.f0, linkS x.f1, x.f2, textB x.f3.length, textB x.f4.length]
  have els : (linkS x.f1).size ≤ 6 := by cases x.f1 <;> decide
  simp only [List.map_cons, List.map_nil, List.sum_cons, List.sum_nil, List.length_cons, List.length_nil, show (⟨#[102, 111, 114, 107]⟩ : ByteArray).size = 4 from rfl] at ehd
  simp only [forkText, forkHead, List.length_append]
  omega
theorem forksText_length (l : List S40) (h : ∀ x ∈ l, forkB x = true) : (l.flatMap forkText).length ≤ 20000 * l.length := by
  induction l with
  | nil => simp
  | cons x l ih =>
    have hx := forkText_length (h x List.mem_cons_self)
    have := ih fun y hy => h y (List.mem_cons_of_mem _ hy)
    simp only [List.flatMap_cons, List.length_append, List.length_cons] at this ⊢
    omega
end Go.Proofs.YtgmddlbbmlneaaaDoor.PR

/- strings.Cut, by the shelf's contract, in the printed texts' form. -/
namespace Go.Proofs.YtgmddlbbmlneaaaDoor.PR
open Go.RowKit Go.Proofs.YtgmddlbbmlneaaaDoorW.PrintWords Go.Proofs.YtgmddlbbmlneaaaDoorW.PrintLast Go.Proofs.YtgmddlbbmlneaaaDoorW.PrintMore
set_option linter.unusedVariables false
def strings_Cut.f (a0 : ByteArray) (a1 : ByteArray) : Option (ByteArray × ByteArray × Bool) :=
  if a0.size < 4294967281 then some (⟨(Lib.cut a0.data.toList a1.data.toList).1.toArray⟩, ⟨(Lib.cut a0.data.toList a1.data.toList).2.1.toArray⟩, (Lib.cut a0.data.toList a1.data.toList).2.2) else none
theorem strings_Cut.calls (a0 : ByteArray) (a1 : ByteArray) (r1 : ByteArray) (r2 : ByteArray) (r3 : Bool) (w : World) (hG : Gl w) (h : strings_Cut.f a0 a1 = some (r1, r2, r3)) :
    Calls Tryd.prog 62 #[.string a0, .string a1] w fun e w' => e = .returned (.tuple #[.string r1, .string r2, .bool r3]) ∧ Below w.heap.size w w' := by
  unfold strings_Cut.f at h
  split at h
  case isFalse => exact absurd h (by simp)
  rename_i hb
  obtain ⟨m, hm⟩ := hG.1
  simp only [Option.some.injEq, Prod.mk.injEq] at h
  obtain ⟨rfl, rfl, rfl⟩ := h
  refine (Tryd.strings_Cut a0 a1 m w hb hm).mono ?_
  rintro e w' ⟨rfl, n, rfl⟩
  exact ⟨rfl, pw_below_drewN (Below.refl _ _) n⟩
end Go.Proofs.YtgmddlbbmlneaaaDoor.PR

namespace Go.Proofs.YtgmddlbbmlneaaaDoor.PR
open Go.RowKit Go.Proofs.YtgmddlbbmlneaaaDoorW.PrintWords Go.Proofs.YtgmddlbbmlneaaaDoorW.PrintLast Go.Proofs.YtgmddlbbmlneaaaDoorW.PrintMore
attribute [local go_sem] max2_int min2_int max_two min_two max_three min_three max_four min_four   -- for this text's walks alone
set_option linter.unusedVariables false
set_option linter.unusedSimpArgs false

/-! ### refs_Get: function 46 -/
def refs_Get.l0 : Nat → ByteArray → List (S76) → ByteArray → Option ((List (S76)) × Bool)
  | 0, _, _, _ => none
  | k + 1, x0, x4, x5 => if x5.toList = ([] : List UInt8) then ((refs_Put.f x4).bind fun bt110 => (if bt110.2 = true then (if bt110.1.toList = x0.toList then (some (x4, true)) else (some (([] : List (S76)), false))) else (some (([] : List (S76)), false)))) else ((strings_Cut.f x5 (⟨#[10]⟩ : ByteArray)).bind fun bt112 => ((strings_Cut.f bt112.1 (⟨#[32]⟩ : ByteArray)).bind fun bt115 => (if x4.length < 4398046511104 then (refs_Get.l0 k x0 (x4 ++ [(⟨bt115.2.1, bt115.1⟩ : S76)]) bt112.2.1) else (none))))
def refs_Get.f (k : Nat) (a0 : ByteArray) : Option ((List (S76)) × Bool) := refs_Get.l0 k a0 ([] : List (S76)) a0
theorem refs_Get.mono_l : ∀ k, (∀ y0 y1 y2, LeO (refs_Get.l0 k y0 y1 y2) (refs_Get.l0 (k + 1) y0 y1 y2))
  | 0 => fun _ _ _ r h => by simp [refs_Get.l0] at h
  | k + 1 => by
    have ih0 := refs_Get.mono_l k
    · intro y0 y1 y2
      unfold refs_Get.l0
      repeat' first
      | (with_reducible exact ih0 _ _ _)
      | (with_reducible exact LeO.refl _)
      | (with_reducible exact LeO.none _)
      | (with_reducible refine LeO.ite ?_ ?_)
      | (with_reducible refine LeO.bind ?_ (fun _ => ?_))
      | exact ih0 _ _ _
      | exact LeO.none _
      | refine LeO.ite ?_ ?_
      | refine LeO.bind ?_ (fun _ => ?_)
theorem refs_Get.mono : ∀ a0 k, LeO (refs_Get.f k a0) (refs_Get.f (k + 1) a0) := by
  intro a0 k
  have ih0 := refs_Get.mono_l k
  unfold refs_Get.f
  repeat' first
      | (with_reducible exact ih0 _ _ _)
      | (with_reducible exact LeO.refl _)
      | (with_reducible exact LeO.none _)
      | (with_reducible refine LeO.ite ?_ ?_)
      | (with_reducible refine LeO.bind ?_ (fun _ => ?_))
      | exact ih0 _ _ _
      | exact LeO.none _
      | refine LeO.ite ?_ ?_
      | refine LeO.bind ?_ (fun _ => ?_)
set_option maxHeartbeats 8000000 in
set_option maxRecDepth 100000 in
theorem refs_Get.calls (k : Nat) (a0 : ByteArray) (r1 : List (S76)) (r2 : Bool) (w : World) (hG : Gl w) (h : refs_Get.f k a0 = some (r1, r2)) :
    Calls Tryd.prog 46 #[.string a0] w fun e w' => ∃ v0_ : Value, e = .returned (.tuple #[v0_, .bool r2]) ∧ Kd.R k76 76 w' w.heap.size (fun _ => True) v0_ r1 ∧ Below w.heap.size w w' := by
  have hu76 := Tryd.underlying76
  have HB := Aside0.mk (Below.refl w.heap.size w)
  have HG := Aside0.mk hG
  clear hG
  have H : (refs_Get.l0 k a0 ([] : List (S76)) a0) = some (r1, r2) := h
  clear h
  have H' := Aside0.mk H
  clear H
  go_enter Tryd.func46, Tryd.ntmps46
  go_wp2
  go_loopg [4, 5] k (fun kq v4 v5 w' => ∃ (x4_1 : List (S76)) (x5_1 : ByteArray), v5 = .string x5_1 ∧ Aside0 (refs_Get.l0 kq a0 x4_1 x5_1 = some (r1, r2)) ∧ Aside0 (kq ≤ k) ∧ Aside0 (Kd.R k76 76 w' w.heap.size (fun _ => True) v4 x4_1) ∧ Aside0 (Below w.heap.size w w'))
  case atStart => exact ⟨(([] : List (S76))), (a0), (by first | rfl | (simp; done) | (simp [*]; done)), H', ⟨Nat.le_refl _⟩, ⟨by first | exact Kd.R_nil _ _ _ _ _ | exact Kd.N_nil _ _ _ _ _ | exact Kd.V_nil _ _ _ _ _ | exact Kd.Q_nil _ _ _ _ _ | exact Kd.S_nil _ _ _ _ _⟩, ⟨by repeat (first | (with_reducible first | exact HB.out | apply below_alloc | apply pw_below_drewN | apply below_drew1) | exact HB.out)⟩⟩
  case round =>
    clear H'
    obtain ⟨x4_1, x5_1, rfl, HA, HK1, HO_4, HB⟩ := hrel
    cases gk with
    | zero => exact absurd HA.out (by simp [refs_Get.l0])
    | succ k1 =>
      have H := HA.out
      clear HA
      simp only [refs_Get.l0] at H
      by_cases c2 : x5_1.toList = ([] : List UInt8)
      · rw [if_pos c2] at H
        have c2b0 : (x5_1.toList == ([] : List UInt8)) = true := beq_iff_eq.mpr c2
        have c2b1 : (x5_1.toList != ([] : List UInt8)) = false := bne_eq_false_iff_eq.mpr c2
        clear c2
        replace H := Option.bind_eq_some_iff.mp H
        obtain ⟨⟨t110, t111⟩, A30, H⟩ := H
        replace H : (if t111 = true then (if t110.toList = a0.toList then (some (x4_1, true)) else (some (([] : List (S76)), false))) else (some (([] : List (S76)), false))) = some (r1, r2) := H
        have A3 := Aside0.mk A30
        clear A30
        by_cases c4 : t111 = true
        · subst c4
          have H1 : (if t110.toList = a0.toList then (some (x4_1, true)) else (some (([] : List (S76)), false))) = some (r1, r2) := by rw [if_pos rfl] at H; exact H
          clear H
          have H := H1
          clear H1
          by_cases c5 : t110.toList = a0.toList
          · rw [if_pos c5] at H
            have c5b0 : (t110.toList == a0.toList) = true := beq_iff_eq.mpr c5
            have c5b1 : (t110.toList != a0.toList) = false := bne_eq_false_iff_eq.mpr c5
            clear c5
            simp only [Option.some.injEq, Prod.mk.injEq] at H
            obtain ⟨rfl, rfl⟩ := H
            obtain ⟨Ao6, co6, eo6⟩ := Kd.R_slice HO_4.out
            subst eo6
            go_wp2_with (first | ((with_reducible refine gate_callee (f := 22) rfl ?_); refine goesL_ (some 38) rfl rfl Tryd.func22 (by kernel_rfl) rfl #[.slice Ao6 x4_1.length co6] rfl (by (try simp only [List.map_toArray, List.map_cons, List.map_nil]); first | done | rfl | (simp only [List.length_drop, List.length_take]; rfl)) ?_; (with_reducible refine (refs_Put.calls _ _ x4_1 t110 true _ ?side1 ?side2 ?side3 A3.out).mono ?_); (case side1 => exact Gl_below HG.out (by repeat (first | (with_reducible first | exact HB.out | apply below_alloc | apply pw_below_drewN | apply below_drew1) | exact HB.out))); (case side2 => repeat (first | exact (Kd.R_reads' HO_4.out).2.2 | (with_reducible refine Kd.C_alloc ?_ _) | (with_reducible refine Kd.C_drewN ?_ _) | (with_reducible refine Kd.C_drew ?_))); (case side3 => exact (Kd.R_reads' HO_4.out).2.1); rintro e w7 ⟨rfl, hb⟩; refine ⟨_, rfl, ?_⟩; have n0_ := Aside0.mk (Kd.R_below (by (with_reducible repeat (first | apply Kd.R_alloc | apply Kd.R_drewN | apply Kd.R_drew)); exact HO_4.out) hb); have n1_ := Aside0.mk (below_step (by repeat (first | (with_reducible first | exact HB.out | apply below_alloc | apply pw_below_drewN | apply below_drew1) | exact HB.out)) hb); clear HO_4; clear HB; have HO_4 := n0_; have HB := n1_; clear n0_ n1_; (try clear hb); (try clear hb2); (try clear hk); (try clear hi)))
            go_ret2
            exact ⟨_, by first | rfl | (simp [errW_none, errW_some] <;> rfl) | (simp [*, errW_none, errW_some] <;> rfl), by (with_reducible repeat (first | apply Kd.R_alloc | apply Kd.R_drewN | apply Kd.R_drew)); exact HO_4.out, by repeat (first | (with_reducible first | exact HB.out | apply below_alloc | apply pw_below_drewN | apply below_drew1) | exact HB.out)⟩
          · rw [if_neg c5] at H
            have c5b0 : (t110.toList == a0.toList) = false := beq_eq_false_iff_ne.mpr c5
            have c5b1 : (t110.toList != a0.toList) = true := bne_iff_ne.mpr c5
            simp only [Option.some.injEq, Prod.mk.injEq] at H
            obtain ⟨rfl, rfl⟩ := H
            obtain ⟨Ao8, co8, eo8⟩ := Kd.R_slice HO_4.out
            subst eo8
            go_wp2_with (first | ((with_reducible refine gate_callee (f := 22) rfl ?_); refine goesL_ (some 38) rfl rfl Tryd.func22 (by kernel_rfl) rfl #[.slice Ao8 x4_1.length co8] rfl (by (try simp only [List.map_toArray, List.map_cons, List.map_nil]); first | done | rfl | (simp only [List.length_drop, List.length_take]; rfl)) ?_; (with_reducible refine (refs_Put.calls _ _ x4_1 t110 true _ ?side1 ?side2 ?side3 A3.out).mono ?_); (case side1 => exact Gl_below HG.out (by repeat (first | (with_reducible first | exact HB.out | apply below_alloc | apply pw_below_drewN | apply below_drew1) | exact HB.out))); (case side2 => repeat (first | exact (Kd.R_reads' HO_4.out).2.2 | (with_reducible refine Kd.C_alloc ?_ _) | (with_reducible refine Kd.C_drewN ?_ _) | (with_reducible refine Kd.C_drew ?_))); (case side3 => exact (Kd.R_reads' HO_4.out).2.1); rintro e w9 ⟨rfl, hb⟩; refine ⟨_, rfl, ?_⟩; have n0_ := Aside0.mk (Kd.R_below (by (with_reducible repeat (first | apply Kd.R_alloc | apply Kd.R_drewN | apply Kd.R_drew)); exact HO_4.out) hb); have n1_ := Aside0.mk (below_step (by repeat (first | (with_reducible first | exact HB.out | apply below_alloc | apply pw_below_drewN | apply below_drew1) | exact HB.out)) hb); clear HO_4; clear HB; have HO_4 := n0_; have HB := n1_; clear n0_ n1_; (try clear hb); (try clear hb2); (try clear hk); (try clear hi)))
            go_ret2
            exact ⟨_, by first | rfl | (simp [errW_none, errW_some] <;> rfl) | (simp [*, errW_none, errW_some] <;> rfl), by first | exact Kd.R_nil _ _ _ _ _ | exact Kd.N_nil _ _ _ _ _ | exact Kd.V_nil _ _ _ _ _ | exact Kd.Q_nil _ _ _ _ _ | exact Kd.S_nil _ _ _ _ _, by repeat (first | (with_reducible first | exact HB.out | apply below_alloc | apply pw_below_drewN | apply below_drew1) | exact HB.out)⟩
        · replace c4 := Bool.eq_false_iff.mpr c4
          subst c4
          have H1 : (some (([] : List (S76)), false)) = some (r1, r2) := by rw [if_neg (show ¬ (false = true) by decide)] at H; exact H
          clear H
          have H := H1
          clear H1
          simp only [Option.some.injEq, Prod.mk.injEq] at H
          obtain ⟨rfl, rfl⟩ := H
          obtain ⟨Ao10, co10, eo10⟩ := Kd.R_slice HO_4.out
          subst eo10
          go_wp2_with (first | ((with_reducible refine gate_callee (f := 22) rfl ?_); refine goesL_ (some 38) rfl rfl Tryd.func22 (by kernel_rfl) rfl #[.slice Ao10 x4_1.length co10] rfl (by (try simp only [List.map_toArray, List.map_cons, List.map_nil]); first | done | rfl | (simp only [List.length_drop, List.length_take]; rfl)) ?_; (with_reducible refine (refs_Put.calls _ _ x4_1 t110 false _ ?side1 ?side2 ?side3 A3.out).mono ?_); (case side1 => exact Gl_below HG.out (by repeat (first | (with_reducible first | exact HB.out | apply below_alloc | apply pw_below_drewN | apply below_drew1) | exact HB.out))); (case side2 => repeat (first | exact (Kd.R_reads' HO_4.out).2.2 | (with_reducible refine Kd.C_alloc ?_ _) | (with_reducible refine Kd.C_drewN ?_ _) | (with_reducible refine Kd.C_drew ?_))); (case side3 => exact (Kd.R_reads' HO_4.out).2.1); rintro e w11 ⟨rfl, hb⟩; refine ⟨_, rfl, ?_⟩; have n0_ := Aside0.mk (Kd.R_below (by (with_reducible repeat (first | apply Kd.R_alloc | apply Kd.R_drewN | apply Kd.R_drew)); exact HO_4.out) hb); have n1_ := Aside0.mk (below_step (by repeat (first | (with_reducible first | exact HB.out | apply below_alloc | apply pw_below_drewN | apply below_drew1) | exact HB.out)) hb); clear HO_4; clear HB; have HO_4 := n0_; have HB := n1_; clear n0_ n1_; (try clear hb); (try clear hb2); (try clear hk); (try clear hi)))
          go_ret2
          exact ⟨_, by first | rfl | (simp [errW_none, errW_some] <;> rfl) | (simp [*, errW_none, errW_some] <;> rfl), by first | exact Kd.R_nil _ _ _ _ _ | exact Kd.N_nil _ _ _ _ _ | exact Kd.V_nil _ _ _ _ _ | exact Kd.Q_nil _ _ _ _ _ | exact Kd.S_nil _ _ _ _ _, by repeat (first | (with_reducible first | exact HB.out | apply below_alloc | apply pw_below_drewN | apply below_drew1) | exact HB.out)⟩
      · rw [if_neg c2] at H
        have c2b0 : (x5_1.toList == ([] : List UInt8)) = false := beq_eq_false_iff_ne.mpr c2
        have c2b1 : (x5_1.toList != ([] : List UInt8)) = true := bne_iff_ne.mpr c2
        replace H := Option.bind_eq_some_iff.mp H
        obtain ⟨⟨t112, t113, t114⟩, A120, H⟩ := H
        replace H : ((strings_Cut.f t112 (⟨#[32]⟩ : ByteArray)).bind fun bt115 => (if x4_1.length < 4398046511104 then (refs_Get.l0 k1 a0 (x4_1 ++ [(⟨bt115.2.1, bt115.1⟩ : S76)]) t113) else (none))) = some (r1, r2) := H
        have A12 := Aside0.mk A120
        clear A120
        replace H := Option.bind_eq_some_iff.mp H
        obtain ⟨⟨t115, t116, t117⟩, A130, H⟩ := H
        replace H : (if x4_1.length < 4398046511104 then (refs_Get.l0 k1 a0 (x4_1 ++ [(⟨t116, t115⟩ : S76)]) t113) else (none)) = some (r1, r2) := H
        have A13 := Aside0.mk A130
        clear A130
        by_cases c14 : x4_1.length < 4398046511104
        · rw [if_pos c14] at H
          have LMc14 := Aside0.mk c14
          clear c14
          obtain ⟨y118, hy118⟩ : ∃ y_ : List (S76), y_ = (x4_1 ++ [(⟨t116, t115⟩ : S76)]) := ⟨_, rfl⟩
          replace H : (refs_Get.l0 k1 a0 y118 t113) = some (r1, r2) := by first | (rw [hy118]; with_reducible exact H) | (have H2_ := (Option.bind_some _ _).symm.trans H; rw [hy118]; with_reducible exact H2_) | (have H2_ := (Option.bind_some _ _).symm.trans H; with_reducible exact H2_) | with_reducible exact H | (rw [hy118]; exact H) | exact H
          have Ny118 := Aside0.mk hy118
          clear hy118
          have H' := Aside0.mk H
          clear H
          go_wp2_with (first | ((with_reducible refine gate_callee (f := 62) rfl ?_); refine goesL_ (some 19) rfl rfl Tryd.func62 (by kernel_rfl) rfl #[.string x5_1, .string (⟨#[10]⟩ : ByteArray)] rfl (by (try simp only [List.map_toArray, List.map_cons, List.map_nil]); first | done | rfl | (simp only [List.length_drop, List.length_take]; rfl)) ?_; (with_reducible refine (strings_Cut.calls x5_1 (⟨#[10]⟩ : ByteArray) t112 t113 t114 _ ?side1 A12.out).mono ?_); (case side1 => exact Gl_below HG.out (by repeat (first | (with_reducible first | exact HB.out | apply below_alloc | apply pw_below_drewN | apply below_drew1) | exact HB.out))); rintro e w15 ⟨rfl, hb⟩; refine ⟨_, rfl, ?_⟩; have n0_ := Aside0.mk (Kd.R_below (by (with_reducible repeat (first | apply Kd.R_alloc | apply Kd.R_drewN | apply Kd.R_drew)); exact HO_4.out) hb); have n1_ := Aside0.mk (below_step (by repeat (first | (with_reducible first | exact HB.out | apply below_alloc | apply pw_below_drewN | apply below_drew1) | exact HB.out)) hb); clear HO_4; clear HB; have HO_4 := n0_; have HB := n1_; clear n0_ n1_; (try clear hb); (try clear hb2); (try clear hk); (try clear hi)) | ((with_reducible refine gate_callee (f := 62) rfl ?_); refine goesL_ (some 25) rfl rfl Tryd.func62 (by kernel_rfl) rfl #[.string t112, .string (⟨#[32]⟩ : ByteArray)] rfl (by (try simp only [List.map_toArray, List.map_cons, List.map_nil]); first | done | rfl | (simp only [List.length_drop, List.length_take]; rfl)) ?_; (with_reducible refine (strings_Cut.calls t112 (⟨#[32]⟩ : ByteArray) t115 t116 t117 _ ?side1 A13.out).mono ?_); (case side1 => exact Gl_below HG.out (by repeat (first | (with_reducible first | exact HB.out | apply below_alloc | apply pw_below_drewN | apply below_drew1) | exact HB.out))); rintro e w16 ⟨rfl, hb⟩; refine ⟨_, rfl, ?_⟩; have n0_ := Aside0.mk (Kd.R_below (by (with_reducible repeat (first | apply Kd.R_alloc | apply Kd.R_drewN | apply Kd.R_drew)); exact HO_4.out) hb); have n1_ := Aside0.mk (below_step (by repeat (first | (with_reducible first | exact HB.out | apply below_alloc | apply pw_below_drewN | apply below_drew1) | exact HB.out)) hb); clear HO_4; clear HB; have HO_4 := n0_; have HB := n1_; clear n0_ n1_; (try clear hb); (try clear hb2); (try clear hk); (try clear hi)) | ((with_reducible refine gate_builtin (b := .append) (xs := #[.tmp 29, .tmp 33]) rfl ?_); at_builtin; refine Kd.R_append k76 (w0 := w) w.heap.size rfl (.tmp 29) (.tmp 33) 38 76 (.agg #[(.string ⟨#[]⟩), (.string ⟨#[]⟩)]) 32 rfl Tryd.underlying38 info76 rfl (by decide) (by omega) u4 x4_1 (⟨t116, t115⟩ : S76) [.string t116, .string t115] (fun _ => True) (fun _ => False) rfl rfl ?aP (fun _ hk => hk.elim) ?aF ?aO ?aB ?aS ?aL ?_; (case aP => exact k76_mkM _ _ _ (⟨t116, t115⟩ : S76)); (case aB => exact (by repeat (first | (with_reducible first | exact HB.out | apply below_alloc | apply pw_below_drewN | apply below_drew1) | exact HB.out))); (case aF => exact (fun _ _ => trivial)); (case aO => exact (by (with_reducible repeat (first | apply Kd.R_alloc | apply Kd.R_drewN | apply Kd.R_drew)); exact HO_4.out)); (case aS => exact (below_size (by repeat (first | (with_reducible first | exact HB.out | apply below_alloc | apply pw_below_drewN | apply below_drew1) | exact HB.out)))); (case aL => have := LMc14.out; omega); intro v119 w17 ho hb hg hat; rw [← Ny118.out] at ho; have n0_ := Aside0.mk (hb); have n1_ := Aside0.mk (ho); clear HB; clear HO_4; have HB := n0_; have HO120 := n1_; clear n0_ n1_; clear ho hb hg hat))
          go_roundg k1
          case measure => have := HK1.out; omega
          case rel => exact ⟨(y118), (t113), (by first | rfl | (simp; done) | (simp [*]; done)), H', ⟨by have := HK1.out; omega⟩, ⟨by (with_reducible repeat (first | apply Kd.R_alloc | apply Kd.R_drewN | apply Kd.R_drew)); exact HO120.out⟩, ⟨by repeat (first | (with_reducible first | exact HB.out | apply below_alloc | apply pw_below_drewN | apply below_drew1) | exact HB.out)⟩⟩
        · rw [if_neg c14] at H
          exact absurd H (by simp)

end Go.Proofs.YtgmddlbbmlneaaaDoor.PR

namespace Go.Proofs.YtgmddlbbmlneaaaDoor.PR
open Go.RowKit Go.Proofs.YtgmddlbbmlneaaaDoorW.PrintWords Go.Proofs.YtgmddlbbmlneaaaDoorW.PrintLast Go.Proofs.YtgmddlbbmlneaaaDoorW.PrintMore
attribute [local go_sem] max2_int min2_int max_two min_two max_three min_three max_four min_four   -- for this text's walks alone
set_option linter.unusedVariables false
set_option linter.unusedSimpArgs false

/-! ### num_Decimal: function 44 -/
def num_Decimal.l0 : Nat → ByteArray → Int → Int → Int → Option (Int × Bool)
  | 0, _, _, _, _ => none
  | k + 1, x0, x4, x7, x8 => if x8 < x7 then (if 0 ≤ x8 then (if x8 < (x0.size : Int) then (if (bt x0 x8) < 48 then (some (0, false)) else (if (bt x0 x8) > 57 then (some (0, false)) else (if x8 = 13 then (some (0, false)) else (num_Decimal.l0 k x0 (wrap64 ((wrap64 (10 * x4)) + (((bt x0 x8) - 48) % 256))) x7 (wrap64 (x8 + 1)))))) else (none)) else (none)) else (if x4 > 1099511627776 then (some (0, false)) else ((num_Text.f x4).bind fun t109 => (if t109.toList = x0.toList then (some (x4, true)) else (some (0, false)))))
def num_Decimal.f (k : Nat) (a0 : ByteArray) : Option (Int × Bool) := num_Decimal.l0 k a0 0 (a0.size : Int) 0
theorem num_Decimal.mono_l : ∀ k, (∀ y0 y1 y2 y3, LeO (num_Decimal.l0 k y0 y1 y2 y3) (num_Decimal.l0 (k + 1) y0 y1 y2 y3))
  | 0 => fun _ _ _ _ r h => by simp [num_Decimal.l0] at h
  | k + 1 => by
    have ih0 := num_Decimal.mono_l k
    · intro y0 y1 y2 y3
      unfold num_Decimal.l0
      repeat' first
      | (with_reducible exact ih0 _ _ _ _)
      | (with_reducible exact LeO.refl _)
      | (with_reducible exact LeO.none _)
      | (with_reducible refine LeO.ite ?_ ?_)
      | (with_reducible refine LeO.bind ?_ (fun _ => ?_))
      | exact ih0 _ _ _ _
      | exact LeO.none _
      | refine LeO.ite ?_ ?_
      | refine LeO.bind ?_ (fun _ => ?_)
theorem num_Decimal.mono : ∀ a0 k, LeO (num_Decimal.f k a0) (num_Decimal.f (k + 1) a0) := by
  intro a0 k
  have ih0 := num_Decimal.mono_l k
  unfold num_Decimal.f
  repeat' first
      | (with_reducible exact ih0 _ _ _ _)
      | (with_reducible exact LeO.refl _)
      | (with_reducible exact LeO.none _)
      | (with_reducible refine LeO.ite ?_ ?_)
      | (with_reducible refine LeO.bind ?_ (fun _ => ?_))
      | exact ih0 _ _ _ _
      | exact LeO.none _
      | refine LeO.ite ?_ ?_
      | refine LeO.bind ?_ (fun _ => ?_)
set_option maxHeartbeats 8000000 in
set_option maxRecDepth 100000 in
theorem num_Decimal.calls (k : Nat) (a0 : ByteArray) (r1 : Int) (r2 : Bool) (w : World) (hG : Gl w) (h : num_Decimal.f k a0 = some (r1, r2)) :
    Calls Tryd.prog 44 #[.string a0] w fun e w' => e = .returned (.tuple #[.int .i64 r1, .bool r2]) ∧ Below w.heap.size w w' := by
  have HB := Aside0.mk (Below.refl w.heap.size w)
  have HG := Aside0.mk hG
  clear hG
  have H : (num_Decimal.l0 k a0 0 (a0.size : Int) 0) = some (r1, r2) := h
  clear h
  have H' := Aside0.mk H
  clear H
  go_enter Tryd.func44, Tryd.ntmps44
  go_wp2
  go_loopg [4, 8] k (fun kq v4 v8 w' => ∃ (x4_1 : Int) (x8_1 : Int), v4 = .int .i64 x4_1 ∧ v8 = .int .i64 x8_1 ∧ Aside0 (num_Decimal.l0 kq a0 x4_1 (a0.size : Int) x8_1 = some (r1, r2)) ∧ Aside0 (kq ≤ k) ∧ Aside0 (Below w.heap.size w w'))
  case atStart => exact ⟨(0), (0), (by first | rfl | (simp; done) | (simp [*]; done)), (by first | rfl | (simp; done) | (simp [*]; done)), H', ⟨Nat.le_refl _⟩, ⟨by repeat (first | (with_reducible first | exact HB.out | apply below_alloc | apply pw_below_drewN | apply below_drew1) | exact HB.out)⟩⟩
  case round =>
    clear H'
    obtain ⟨x4_1, x8_1, rfl, rfl, HA, HK1, HB⟩ := hrel
    cases gk with
    | zero => exact absurd HA.out (by simp [num_Decimal.l0])
    | succ k1 =>
      have H := HA.out
      clear HA
      simp only [num_Decimal.l0] at H
      by_cases c2 : x8_1 < (a0.size : Int)
      · rw [if_pos c2] at H
        have c2b0 : decide (x8_1 < (a0.size : Int)) = true := decide_eq_true c2
        clear c2
        by_cases c3 : 0 ≤ x8_1
        · rw [if_pos c3] at H
          have c3b0 : decide (0 ≤ x8_1) = true := decide_eq_true c3
          clear c3
          by_cases c4 : x8_1 < (a0.size : Int)
          · rw [if_pos c4] at H
            have c4b0 : decide (x8_1 < (a0.size : Int)) = true := decide_eq_true c4
            clear c4
            by_cases c6 : (bt a0 x8_1) < 48
            · rw [if_pos c6] at H
              have c6b0 : decide ((bt a0 x8_1) < 48) = true := decide_eq_true c6
              clear c6
              simp only [Option.some.injEq, Prod.mk.injEq] at H
              obtain ⟨rfl, rfl⟩ := H
              have p5 : 0 ≤ (x8_1 : Int) := of_decide_eq_true (by first | (with_reducible assumption) | assumption)
              have q5 : x8_1 < (a0.size : Int) := of_decide_eq_true (by first | (with_reducible assumption) | assumption)
              have hx5 := bt_at a0 x8_1
              replace p5 := eq_true p5
              replace q5 := eq_true q5
              go_wp2
              go_ret2
              exact ⟨by first | rfl | (simp [errW_none, errW_some] <;> rfl) | (simp [*, errW_none, errW_some] <;> rfl), by repeat (first | (with_reducible first | exact HB.out | apply below_alloc | apply pw_below_drewN | apply below_drew1) | exact HB.out)⟩
            · rw [if_neg c6] at H
              have c6b0 : decide ((bt a0 x8_1) < 48) = false := decide_eq_false c6
              clear c6
              by_cases c8 : (bt a0 x8_1) > 57
              · rw [if_pos c8] at H
                have c8b0 : decide (57 < (bt a0 x8_1)) = true := decide_eq_true c8
                clear c8
                simp only [Option.some.injEq, Prod.mk.injEq] at H
                obtain ⟨rfl, rfl⟩ := H
                have p5 : 0 ≤ (x8_1 : Int) := of_decide_eq_true (by first | (with_reducible assumption) | assumption)
                have q5 : x8_1 < (a0.size : Int) := of_decide_eq_true (by first | (with_reducible assumption) | assumption)
                have hx5 := bt_at a0 x8_1
                replace p5 := eq_true p5
                replace q5 := eq_true q5
                have p7 : 0 ≤ (x8_1 : Int) := of_decide_eq_true (by first | (with_reducible assumption) | assumption)
                have q7 : x8_1 < (a0.size : Int) := of_decide_eq_true (by first | (with_reducible assumption) | assumption)
                have hx7 := bt_at a0 x8_1
                replace p7 := eq_true p7
                replace q7 := eq_true q7
                go_wp2
                go_ret2
                exact ⟨by first | rfl | (simp [errW_none, errW_some] <;> rfl) | (simp [*, errW_none, errW_some] <;> rfl), by repeat (first | (with_reducible first | exact HB.out | apply below_alloc | apply pw_below_drewN | apply below_drew1) | exact HB.out)⟩
              · rw [if_neg c8] at H
                have c8b0 : decide (57 < (bt a0 x8_1)) = false := decide_eq_false c8
                clear c8
                by_cases c9 : x8_1 = 13
                · rw [if_pos c9] at H
                  have c9b0 : (x8_1 == 13) = true := beq_iff_eq.mpr c9
                  have c9b1 : (x8_1 != 13) = false := bne_eq_false_iff_eq.mpr c9
                  clear c9
                  simp only [Option.some.injEq, Prod.mk.injEq] at H
                  obtain ⟨rfl, rfl⟩ := H
                  have p5 : 0 ≤ (x8_1 : Int) := of_decide_eq_true (by first | (with_reducible assumption) | assumption)
                  have q5 : x8_1 < (a0.size : Int) := of_decide_eq_true (by first | (with_reducible assumption) | assumption)
                  have hx5 := bt_at a0 x8_1
                  replace p5 := eq_true p5
                  replace q5 := eq_true q5
                  have p7 : 0 ≤ (x8_1 : Int) := of_decide_eq_true (by first | (with_reducible assumption) | assumption)
                  have q7 : x8_1 < (a0.size : Int) := of_decide_eq_true (by first | (with_reducible assumption) | assumption)
                  have hx7 := bt_at a0 x8_1
                  replace p7 := eq_true p7
                  replace q7 := eq_true q7
                  go_wp2
                  go_ret2
                  exact ⟨by first | rfl | (simp [errW_none, errW_some] <;> rfl) | (simp [*, errW_none, errW_some] <;> rfl), by repeat (first | (with_reducible first | exact HB.out | apply below_alloc | apply pw_below_drewN | apply below_drew1) | exact HB.out)⟩
                · rw [if_neg c9] at H
                  have c9b0 : (x8_1 == 13) = false := beq_eq_false_iff_ne.mpr c9
                  have c9b1 : (x8_1 != 13) = true := bne_iff_ne.mpr c9
                  have H' := Aside0.mk H
                  clear H
                  have p5 : 0 ≤ (x8_1 : Int) := of_decide_eq_true (by first | (with_reducible assumption) | assumption)
                  have q5 : x8_1 < (a0.size : Int) := of_decide_eq_true (by first | (with_reducible assumption) | assumption)
                  have hx5 := bt_at a0 x8_1
                  replace p5 := eq_true p5
                  replace q5 := eq_true q5
                  have p7 : 0 ≤ (x8_1 : Int) := of_decide_eq_true (by first | (with_reducible assumption) | assumption)
                  have q7 : x8_1 < (a0.size : Int) := of_decide_eq_true (by first | (with_reducible assumption) | assumption)
                  have hx7 := bt_at a0 x8_1
                  replace p7 := eq_true p7
                  replace q7 := eq_true q7
                  have p10 : 0 ≤ (x8_1 : Int) := of_decide_eq_true (by first | (with_reducible assumption) | assumption)
                  have q10 : x8_1 < (a0.size : Int) := of_decide_eq_true (by first | (with_reducible assumption) | assumption)
                  have hx10 := bt_at a0 x8_1
                  replace p10 := eq_true p10
                  replace q10 := eq_true q10
                  go_wp2
                  go_roundg k1
                  case measure => have := HK1.out; omega
                  case rel => exact ⟨(wrap64 ((wrap64 (10 * x4_1)) + (((bt a0 x8_1) - 48) % 256))), (wrap64 (x8_1 + 1)), (by first | rfl | (simp; done) | (simp [*]; done)), (by first | rfl | (simp; done) | (simp [*]; done)), H', ⟨by have := HK1.out; omega⟩, ⟨by repeat (first | (with_reducible first | exact HB.out | apply below_alloc | apply pw_below_drewN | apply below_drew1) | exact HB.out)⟩⟩
          · rw [if_neg c4] at H
            exact absurd H (by simp)
        · rw [if_neg c3] at H
          exact absurd H (by simp)
      · rw [if_neg c2] at H
        have c2b0 : decide (x8_1 < (a0.size : Int)) = false := decide_eq_false c2
        clear c2
        by_cases c11 : x4_1 > 1099511627776
        · rw [if_pos c11] at H
          have c11b0 : decide (1099511627776 < x4_1) = true := decide_eq_true c11
          clear c11
          simp only [Option.some.injEq, Prod.mk.injEq] at H
          obtain ⟨rfl, rfl⟩ := H
          go_wp2
          go_ret2
          exact ⟨by first | rfl | (simp [errW_none, errW_some] <;> rfl) | (simp [*, errW_none, errW_some] <;> rfl), by repeat (first | (with_reducible first | exact HB.out | apply below_alloc | apply pw_below_drewN | apply below_drew1) | exact HB.out)⟩
        · rw [if_neg c11] at H
          have c11b0 : decide (1099511627776 < x4_1) = false := decide_eq_false c11
          clear c11
          replace H := Option.bind_eq_some_iff.mp H
          obtain ⟨t109, A120, H⟩ := H
          replace H : (if t109.toList = a0.toList then (some (x4_1, true)) else (some (0, false))) = some (r1, r2) := H
          have A12 := Aside0.mk A120
          clear A120
          by_cases c13 : t109.toList = a0.toList
          · rw [if_pos c13] at H
            have c13b0 : (t109.toList == a0.toList) = true := beq_iff_eq.mpr c13
            have c13b1 : (t109.toList != a0.toList) = false := bne_eq_false_iff_eq.mpr c13
            clear c13
            simp only [Option.some.injEq, Prod.mk.injEq] at H
            obtain ⟨rfl, rfl⟩ := H
            go_wp2_with (first | (go_at_call 21; (with_reducible refine (num_Text.calls x4_1 t109 _ ?side1 A12.out).mono ?_); (case side1 => exact Gl_below HG.out (by repeat (first | (with_reducible first | exact HB.out | apply below_alloc | apply pw_below_drewN | apply below_drew1) | exact HB.out))); rintro e w14 ⟨rfl, hb⟩; have n0_ := Aside0.mk (below_step (by repeat (first | (with_reducible first | exact HB.out | apply below_alloc | apply pw_below_drewN | apply below_drew1) | exact HB.out)) hb); clear HB; have HB := n0_; clear n0_; (try clear hb); (try clear hb2); (try clear hk); (try clear hi)))
            go_ret2
            exact ⟨by first | rfl | (simp [errW_none, errW_some] <;> rfl) | (simp [*, errW_none, errW_some] <;> rfl), by repeat (first | (with_reducible first | exact HB.out | apply below_alloc | apply pw_below_drewN | apply below_drew1) | exact HB.out)⟩
          · rw [if_neg c13] at H
            have c13b0 : (t109.toList == a0.toList) = false := beq_eq_false_iff_ne.mpr c13
            have c13b1 : (t109.toList != a0.toList) = true := bne_iff_ne.mpr c13
            simp only [Option.some.injEq, Prod.mk.injEq] at H
            obtain ⟨rfl, rfl⟩ := H
            go_wp2_with (first | (go_at_call 21; (with_reducible refine (num_Text.calls x4_1 t109 _ ?side1 A12.out).mono ?_); (case side1 => exact Gl_below HG.out (by repeat (first | (with_reducible first | exact HB.out | apply below_alloc | apply pw_below_drewN | apply below_drew1) | exact HB.out))); rintro e w15 ⟨rfl, hb⟩; have n0_ := Aside0.mk (below_step (by repeat (first | (with_reducible first | exact HB.out | apply below_alloc | apply pw_below_drewN | apply below_drew1) | exact HB.out)) hb); clear HB; have HB := n0_; clear n0_; (try clear hb); (try clear hb2); (try clear hk); (try clear hi)))
            go_ret2
            exact ⟨by first | rfl | (simp [errW_none, errW_some] <;> rfl) | (simp [*, errW_none, errW_some] <;> rfl), by repeat (first | (with_reducible first | exact HB.out | apply below_alloc | apply pw_below_drewN | apply below_drew1) | exact HB.out)⟩

end Go.Proofs.YtgmddlbbmlneaaaDoor.PR

/- What root's reader reads, in plain words: the lines that are left, and whether one was wrong. -/
namespace Go.Proofs.YtgmddlbbmlneaaaDoor.PR
open Go.RowKit Go.Proofs.YtgmddlbbmlneaaaDoorW.PrintWords Go.Proofs.YtgmddlbbmlneaaaDoorW.PrintLast Go.Proofs.YtgmddlbbmlneaaaDoorW.PrintMore
set_option linter.unusedVariables false

def decB (a : ByteArray) : Int × Bool := (num_Decimal.f 20 a).getD (0, false)
def refsGetB (a : ByteArray) : List S76 × Bool := (refs_Get.f (a.size + 1) a).getD ([], false)
def someP (n : Int) (l : List ByteArray) (e : Bool) : List ByteArray × List ByteArray × Bool :=
  if (l.length : Int) < n ∨ e = true then ([], l, true) else (l.take n.toNat, l.drop n.toNat, false)
def wordsP (first : ByteArray) (many : Nat) (l : List ByteArray) (e : Bool) : List ByteArray × List ByteArray × Bool :=
  match l, e with
  | x :: l', false => if (splitS 32 x).length ≠ many ∨ (splitS 32 x).headD ⟨#[]⟩ ≠ first then (List.replicate many ⟨#[]⟩, l', true) else (splitS 32 x, l', false)
  | l, _ => (List.replicate many ⟨#[]⟩, l, true)
def numberP (a : ByteArray) (e : Bool) : Int × Bool := ((decB a).1, e || !(decB a).2)
def wordAt (l : List ByteArray) (j : Nat) : ByteArray := l.getD j ⟨#[]⟩
def forkP (l : List ByteArray) (e : Bool) : S40 × List ByteArray × Bool :=
  let w := wordsP ⟨#[102, 111, 114, 107]⟩ 6 l e
  let many := numberP (wordAt w.1 4) w.2.2
  let own := numberP (wordAt w.1 5) many.2
  let rows := someP many.1 w.2.1 own.2
  let rs := refsGetB (ofL (rowsL rows.1))
  let pk := someP own.1 rows.2.1 (rows.2.2 || !rs.2)
  (⟨wordAt w.1 1, (wordAt w.1 2).toList == [108, 105, 110, 107, 101, 100], wordAt w.1 3, rs.1, pk.1⟩, pk.2.1, pk.2.2)
def forksP : Nat → List ByteArray → Bool → List S40 → List S40 × Bool
  | 0, _, e, acc => (acc, e)
  | n + 1, l, e, acc => if e = true then (acc, e) else forksP n (forkP l e).2.1 (forkP l e).2.2 (acc ++ [(forkP l e).1])
def linesP (s : ByteArray) : Int × List ByteArray × List S40 × Bool :=
  let w := wordsP ⟨#[110, 101, 116]⟩ 2 (splitS 10 s) false
  let c := numberP (wordAt w.1 1) w.2.2
  let w2 := wordsP ⟨#[112, 111, 111, 108]⟩ 2 w.2.1 c.2
  let n2 := numberP (wordAt w2.1 1) w2.2.2
  let pool := someP n2.1 w2.2.1 n2.2
  let w3 := wordsP ⟨#[102, 111, 114, 107, 115]⟩ 2 pool.2.1 pool.2.2
  let n3 := numberP (wordAt w3.1 1) w3.2.2
  let fs := forksP n3.1.toNat w3.2.1 n3.2 []
  (c.1, pool.1, fs.1, fs.2)
def getP (s : ByteArray) : Int × List ByteArray × List S40 × Bool :=
  let x := linesP s
  if x.2.2.2 = false ∧ rootB x.1 x.2.1 x.2.2.1 = true ∧ rootText x.1 x.2.1 x.2.2.1 = s.data.toList then (x.1, x.2.1, x.2.2.1, true) else (0, [], [], false)
end Go.Proofs.YtgmddlbbmlneaaaDoor.PR

/- num.Decimal and refs.Get answer at every text that can come in. -/
namespace Go.Proofs.YtgmddlbbmlneaaaDoor.PR
open Go.RowKit Go.Proofs.YtgmddlbbmlneaaaDoorW.PrintWords Go.Proofs.YtgmddlbbmlneaaaDoorW.PrintLast Go.Proofs.YtgmddlbbmlneaaaDoorW.PrintMore
set_option linter.unusedVariables false
set_option maxHeartbeats 100000

theorem bt_lt (a : ByteArray) (i : Int) : 0 ≤ bt a i ∧ bt a i < 256 := by
  unfold bt
  split
  · rename_i h
    have := (a[i.toNat]'h).toNat_lt
    omega
  · omega
theorem step_num (x b : Int) (h4 : 0 ≤ x) (hx : x ≤ 10000000000000) (hb : 48 ≤ b) (hb2 : b ≤ 57) : wrap64 ((wrap64 (10 * x)) + ((b - 48) % 256)) = 10 * x + (b - 48) := by
  rw [IntWalk.wrap64_in (10 * x) ⟨by omega, by omega⟩, show (b - 48) % 256 = b - 48 by omega, IntWalk.wrap64_in _ ⟨by omega, by omega⟩]
theorem step_j (j : Nat) (h : j ≤ 13) : wrap64 ((j : Int) + 1) = ((j + 1 : Nat) : Int) := by
  rw [IntWalk.wrap64_in _ ⟨by omega, by omega⟩]; omega
theorem step_pow (P x b : Int) (h : x < P) (hb2 : b ≤ 57) : 10 * x + (b - 48) < P * 10 := by omega
theorem dec_go (a : ByteArray) : ∀ (m j k : Nat) (x : Int), m = 14 - j → j ≤ 13 → m ≤ k → 0 ≤ x → x < 10 ^ j → ∃ n is, num_Decimal.l0 (k + 1) a x (a.size : Int) (j : Int) = some (n, is) ∧ 0 ≤ n ∧ n ≤ 1099511627776 := by
  intro m
  induction m with
  | zero => intro j k x h1 h2; omega
  | succ m ih =>
    intro j k x h1 h2 h3 h4 h5
    unfold num_Decimal.l0
    have hp : (10 : Int) ^ j ≤ 10000000000000 := by
      have : (10 : Nat) ^ j ≤ 10 ^ 13 := Nat.pow_le_pow_right (by decide) h2
      have h2 : ((10 ^ j : Nat) : Int) ≤ ((10 ^ 13 : Nat) : Int) := Int.ofNat_le.2 this
      rw [Int.natCast_pow] at h2
      exact h2
    have hx : x ≤ 10000000000000 := Int.le_trans (Int.le_of_lt h5) hp
    by_cases c1 : (j : Int) < (a.size : Int)
    · rw [if_pos c1, if_pos (by omega), if_pos c1]
      by_cases c2 : bt a j < 48
      · rw [if_pos c2]; exact ⟨_, _, rfl, by omega, by omega⟩
      · rw [if_neg c2]
        by_cases c3 : bt a j > 57
        · rw [if_pos c3]; exact ⟨_, _, rfl, by omega, by omega⟩
        · rw [if_neg c3]
          by_cases c4 : (j : Int) = 13
          · rw [if_pos c4]; exact ⟨_, _, rfl, by omega, by omega⟩
          · rw [if_neg c4]
            rw [step_num x (bt a j) h4 hx (by omega) (by omega), step_j j h2]
            obtain ⟨k', rfl⟩ : ∃ k', k = k' + 1 := ⟨k - 1, by omega⟩
            have h6 : 10 * x + (bt a j - 48) < (10 : Int) ^ (j + 1) := by
              rw [Int.pow_succ]
              exact step_pow _ x (bt a j) h5 (by omega)
            exact ih (j + 1) k' _ (by omega) (by omega) (by omega) (by omega) h6
    · rw [if_neg c1]
      by_cases c2 : x > 1099511627776
      · rw [if_pos c2]; exact ⟨_, _, rfl, by omega, by omega⟩
      · rw [if_neg c2]
        have : num_Text.f x = some (textB x) := by rw [num_Text.f, if_pos (by omega)]
        rw [this]
        simp only [Option.bind_some]
        split
        · exact ⟨_, _, rfl, h4, by omega⟩
        · exact ⟨_, _, rfl, by omega, by omega⟩
theorem dec_all (a : ByteArray) : ∃ n is, num_Decimal.f 20 a = some (n, is) ∧ 0 ≤ n ∧ n ≤ 1099511627776 := by
  have h := dec_go a 14 0 19 0 rfl (by decide) (by decide) (by decide) (by decide)
  unfold num_Decimal.f
  exact h
theorem numberOk (a : ByteArray) : num_Decimal.f 20 a = some (decB a) := by
  obtain ⟨n, is, h, _⟩ := dec_all a
  rw [decB, h]; rfl
theorem decB_range (a : ByteArray) : 0 ≤ (decB a).1 ∧ (decB a).1 ≤ 1099511627776 := by
  obtain ⟨n, is, h, h1, h2⟩ := dec_all a
  rw [decB, h]; exact ⟨h1, h2⟩

theorem cut_sizes (s : List UInt8) (c : UInt8) (hs : s ≠ []) : (Lib.cut s [c]).1.length ≤ s.length ∧ (Lib.cut s [c]).2.1.length < s.length := by
  have h1 : 0 < s.length := List.length_pos_iff.2 hs
  unfold Lib.cut
  split
  · simp only [List.length_take, List.length_drop, List.length_cons, List.length_nil]
    omega
  · exact ⟨Nat.le_refl _, h1⟩
theorem cut_sizes' (s : List UInt8) (c : UInt8) : (Lib.cut s [c]).1.length ≤ s.length ∧ (Lib.cut s [c]).2.1.length ≤ s.length := by
  cases s with
  | nil =>
    unfold Lib.cut
    split <;> simp
  | cons x xs => exact ⟨(cut_sizes _ c (by simp)).1, Nat.le_of_lt (cut_sizes _ c (by simp)).2⟩
def smallRef (x : S76) : Bool := decide (x.f0.size ≤ 2000000) && decide (x.f1.size ≤ 2000000)
theorem get_go (a : ByteArray) : ∀ (k : Nat) (x4 : List S76) (x5 : ByteArray), x5.size < k → x5.size ≤ 2000000 → x4.length + x5.size ≤ 2000000 → x4.all smallRef = true → ∃ r, refs_Get.l0 k a x4 x5 = some r ∧ r.1.all smallRef = true := by
  intro k
  induction k with
  | zero => intro x4 x5 h; omega
  | succ k ih =>
    intro x4 x5 h1 h2 h3 h4
    unfold refs_Get.l0
    by_cases c1 : x5.toList = []
    · rw [if_pos c1]
      have hok : x4.all okRef = true := by
        rw [List.all_eq_true] at h4 ⊢
        intro x hx
        have := h4 x hx
        simp only [smallRef, okRef, Bool.and_eq_true, decide_eq_true_eq] at this ⊢
        omega
      rw [refs_Put.f, if_pos hok]
      simp only [Option.bind_some]
      repeat' split
      all_goals first | exact ⟨_, rfl, h4⟩ | exact ⟨_, rfl, rfl⟩
    · rw [if_neg c1]
      have hne : x5.data.toList ≠ [] := by rw [← toList_data]; exact c1
      have hcut := cut_sizes x5.data.toList 10 hne
      rw [strings_Cut.f, if_pos (by omega)]
      simp only [Option.bind_some]
      have hc2 := cut_sizes' (Lib.cut x5.data.toList [10]).1 32
      have hsz : x5.data.toList.length = x5.size := data_length x5
      rw [strings_Cut.f, if_pos (by simp [ByteArray.size]; omega)]
      simp only [Option.bind_some]
      rw [if_pos (by omega)]
      refine ih _ _ ?_ ?_ ?_ ?_
      · simp only [ByteArray.size, List.size_toArray]; omega
      · simp only [ByteArray.size, List.size_toArray]; omega
      · simp only [ByteArray.size, List.size_toArray, List.length_append, List.length_cons, List.length_nil]; omega
      · rw [List.all_append, h4]
        simp only [List.all_cons, List.all_nil, smallRef, ByteArray.size, List.size_toArray, Bool.and_eq_true, decide_eq_true_eq, Bool.true_and, Bool.and_true]
        constructor
        · omega
        · omega
theorem refsGetOk (a : ByteArray) (h : a.size ≤ 2000000) : refs_Get.f (a.size + 1) a = some (refsGetB a) := by
  obtain ⟨r, hr, _⟩ := get_go a (a.size + 1) [] a (by omega) h (by simp; omega) rfl
  have : refs_Get.f (a.size + 1) a = some r := hr
  rw [refsGetB, this]; rfl
theorem refsGet_small (a : ByteArray) (h : a.size ≤ 2000000) : (refsGetB a).1.all smallRef = true := by
  obtain ⟨r, hr, hs⟩ := get_go a (a.size + 1) [] a (by omega) h (by simp; omega) rfl
  have : refs_Get.f (a.size + 1) a = some r := hr
  rw [refsGetB, this]; exact hs
end Go.Proofs.YtgmddlbbmlneaaaDoor.PR

/- errors.Is(err, ErrCorrupt), err nil or one of root's 'bad': which it is. -/
namespace Go.Proofs.YtgmddlbbmlneaaaDoor.PR
open Go.RowKit Go.Extern.Stop Go.Stop Go.Extern Go.Proofs.YtgmddlbbmlneaaaDoorW.PrintWords Go.Proofs.YtgmddlbbmlneaaaDoorW.PrintLast Go.Proofs.YtgmddlbbmlneaaaDoorW.PrintMore
set_option linter.unusedVariables false

def comparableE : Array Value → Sem Value := Extern.ReflectliteType.method fun t => do Extern.Rtype.noPackHeld "Comparable" t; pure (.bool (← typeInfo t).comparable)
theorem isTypeOf (v : Value) (w : World) : (Extern.ReflectliteType.typeOf #[.iface 71 v]).run Tryd.prog w = .ok (.iface 103 (.agg #[.pointer (some ⟨6, 71, none⟩)])) w := by kernel_rfl
theorem isComparable (w : World) : (comparableE #[.agg #[.pointer (some ⟨6, 71, none⟩)]]).run Tryd.prog w = .ok (.bool true) w := by kernel_rfl
theorem isMethodComparable (v : Value) (w : World) : (Go.method 272 103 v "Comparable").run Tryd.prog w = .ok (112, v) w := by kernel_rfl
theorem noIsB (v : Value) (xT : TypeId) (w : World) : (Instr.typeAssert (.iface 84 v) xT 105 true).run Tryd.prog w = .ok (.tuple #[.nilIface, .bool false]) w := run_typeAssert_lacksB Tryd.underlying105 (by kernel_rfl) (by kernel_rfl) v xT w
theorem hasUnwrapB (v : Value) (xT : TypeId) (w : World) : (Instr.typeAssert (.iface 84 v) xT 108 true).run Tryd.prog w = .ok (.tuple #[.iface 84 v, .bool true]) w := run_typeAssert_hasB Tryd.underlying108 (by kernel_rfl) v xT w
theorem methodUnwrap (v : Value) (w : World) : (Go.method 272 84 v "Unwrap").run Tryd.prog w = .ok (108, v) w := by kernel_rfl
theorem eqErr (w : World) : (binOp .eql 50 (.iface 71 (.int .i64 3)) (.iface 71 (.int .i64 3))).run Tryd.prog w = .ok (.bool true) w := by kernel_rfl

def IsErr (e : Bool) (v : Value) : Prop := if e = true then ∃ a : Addr, v = .iface 84 (.pointer (some a)) else v = .nilIface

set_option maxHeartbeats 1000000 in
set_option maxRecDepth 100000 in
theorem errorsIs_calls (er : Bool) (v : Value) (hv : IsErr er v) (w : World) :
    Calls Tryd.prog 31 #[v, .iface 71 (.int .i64 3)] w fun e w' => e = .returned (.bool er) ∧ w' = w := by
  cases er with
  | false =>
    have hv' : v = .nilIface := hv
    subst hv'
    have hn := run_eql_iface_nil_left (P := Tryd.prog) w 71 (.int .i64 3) Tryd.underlying50
    go_enter Tryd.func31, Tryd.ntmps31
    go_wp2
    go_ret
    exact ⟨rfl, rfl⟩
  | true =>
    obtain ⟨a, rfl⟩ : ∃ a : Addr, v = .iface 84 (.pointer (some a)) := hv
    have h8 := @run_callFunc_extern Tryd.prog 47 _ Extern.ReflectliteType.typeOf Tryd.func47 (by kernel_rfl) (by kernel_rfl) (by kernel_rfl) (by kernel_rfl)
    have h32 := @run_callFunc_extern Tryd.prog 112 _ comparableE Tryd.func112 (by kernel_rfl) (by kernel_rfl) (by kernel_rfl) (by kernel_rfl)
    have tT := isTypeOf
    have cT := isComparable
    have mR := isMethodComparable
    have nE := noIsB
    have uE := hasUnwrapB
    have mU := methodUnwrap
    have heq := eqErr
    have hty := run_eql_iface_types (P := Tryd.prog) 84 71 (.pointer (some a)) (.int .i64 3) Tryd.underlying50 (by decide) w
    go_enter Tryd.func31, Tryd.ntmps31
    go_wp2
    refine wp_loop_rounds 2 ?_
    rw [rounds_succ]
    go_wp2
    rw [rounds_succ]
    go_wp2
    go_ret
    exact ⟨rfl, rfl⟩
end Go.Proofs.YtgmddlbbmlneaaaDoor.PR

/- root.reader's 'some' and 'number'. -/
namespace Go.Proofs.YtgmddlbbmlneaaaDoor.PR
open Go.RowKit Go.Shelf Go.Proofs.YtgmddlbbmlneaaaDoorW.PrintWords Go.Proofs.YtgmddlbbmlneaaaDoorW.PrintLast Go.Proofs.YtgmddlbbmlneaaaDoorW.PrintMore
set_option linter.unusedVariables false

structure RD (w0 : World) (rb sb : Nat) (l : List ByteArray) (e : Bool) (W : World) : Prop where
  blk : ∃ (off : Nat) (v : Value), W.heap[rb]? = some (.cells #[.slice (some ⟨sb, off, none⟩) l.length l.length, v] 65 (0, 0)) ∧ IsErr e v ∧ ∀ j x, l[j]? = some x → W.cell? ⟨sb, off + j, none⟩ = some (.string x)
  ne : rb ≠ sb
  lt : sb < W.heap.size
  base : Below w0.heap.size w0 W
  hi : w0.heap.size ≤ rb
structure KR (b : Nat) (w w' : World) : Prop where
  below : Below b w w'
  keep : ∀ k, k < w.heap.size → k ≠ b → w'.heap[k]? = w.heap[k]?
theorem KR.refl (b : Nat) (w : World) : KR b w w := ⟨Below.refl _ _, fun _ _ _ => rfl⟩
theorem KR.trans {b : Nat} {w w1 w2 : World} (h : KR b w w1) (k : KR b w1 w2) : KR b w w2 :=
  ⟨h.below.trans k.below, fun j hj hb => (k.keep j (Nat.lt_of_lt_of_le hj h.below.size) hb).trans (h.keep j hj hb)⟩
theorem KR.of_below {b : Nat} {w w1 : World} (hb : b ≤ w.heap.size) (h : Below w.heap.size w w1) : KR b w w1 := ⟨h.mono hb, fun j hj _ => h.block j hj⟩
theorem KR.set {b : Nat} {w w1 : World} (h : KR b w w1) (j : Nat) (u : Value) : KR b w (w1.setCell ⟨b, j, none⟩ u) :=
  ⟨h.below.setCell (Nat.le_refl _) u, fun k hk hb => (Below.heap_setCell _ _ _ _ hb).trans (h.keep k hk hb)⟩
theorem KR.alloc {b : Nat} {w w1 : World} (h : KR b w w1) (hb : b ≤ w.heap.size) (o : Obj) : KR b w (w1.alloc o) :=
  ⟨h.below.alloc (Nat.le_trans hb h.below.size) o, fun k hk hne => (Below.heap_alloc _ _ _ (Nat.lt_of_lt_of_le hk h.below.size)).trans (h.keep k hk hne)⟩
theorem KR.blk {b k : Nat} {w w' : World} {o : Obj} (h : KR b w w') (hk : w.heap[k]? = some o) (hne : k ≠ b) : w'.heap[k]? = some o := (h.keep k (blk_lt hk) hne).trans hk
theorem RD.later {w0 : World} {rb sb : Nat} {l : List ByteArray} {e : Bool} {W W' : World} (h : RD w0 rb sb l e W) (hb : Below W.heap.size W W') : RD w0 rb sb l e W' := by
  obtain ⟨⟨off, v, h1, h2, h3⟩, h4, h5, h6, h7⟩ := h
  exact ⟨⟨off, v, (hb.block _ (blk_lt h1)).trans h1, h2, fun j x hx => pw_cell_below hb (h3 j x hx)⟩, h4, Nat.lt_of_lt_of_le h5 hb.size, below_step h6 hb, h7⟩

theorem RD.facts {w0 : World} {rb sb : Nat} {l : List ByteArray} {e : Bool} {W : World} (h : RD w0 rb sb l e W) : ∃ (off : Nat) (v : Value), IsErr e v ∧ W.cell? ⟨rb, 0, none⟩ = some (.slice (some ⟨sb, off, none⟩) l.length l.length) ∧ W.cell? ⟨rb, 1, none⟩ = some v ∧
    (∀ o, (W.alloc o).cell? ⟨rb, 1, none⟩ = some v) ∧ (∀ o, (W.alloc o).frozen? ⟨rb, 1, none⟩ = false) ∧ W.frozen? ⟨rb, 0, none⟩ = false ∧ (∀ j x, l[j]? = some x → W.cell? ⟨sb, off + j, none⟩ = some (.string x)) := by
  obtain ⟨⟨off, v, h1, h2, h3⟩, h4, h5, h6, h7⟩ := h
  exact ⟨off, v, h2, blk_cell h1 0, blk_cell h1 1, fun o => blk_cell (blk_alloc h1 o) 1, fun o => blk_frozen (blk_alloc h1 o) 1, blk_frozen h1 0, h3⟩
theorem RD.at_lt {w0 : World} {rb sb : Nat} {l : List ByteArray} {e : Bool} {W : World} (h : RD w0 rb sb l e W) : rb < W.heap.size := by
  obtain ⟨⟨off, v, h1, _⟩, _⟩ := h
  exact blk_lt h1
theorem RD.under {w0 : World} {rb sb : Nat} {l : List ByteArray} {e : Bool} {W W' : World} {B : Nat} (h : RD w0 rb sb l e W) (hb : Below B W W') (hr : rb < B) (hs : sb < B) : RD w0 rb sb l e W' := by
  obtain ⟨⟨off, v, h1, h2, h3⟩, h4, h5, h6, h7⟩ := h
  exact ⟨⟨off, v, (hb.block _ hr).trans h1, h2, fun j x hx => (hb.cell hs).trans (h3 j x hx)⟩, h4, Nat.lt_of_lt_of_le h5 hb.size, h6.trans (hb.mono (by omega)), h7⟩
theorem RD.wrong {w0 : World} {rb sb : Nat} {l : List ByteArray} {e : Bool} {W : World} (h : RD w0 rb sb l e W) (o : Obj) (a : Addr) : RD w0 rb sb l true ((W.alloc o).setCell ⟨rb, 1, none⟩ (.iface 84 (.pointer (some a)))) := by
  have h' := h.later (below_alloc (Below.refl _ _) o)
  obtain ⟨⟨off, v, h1, h2, h3⟩, h4, h5, h6, h7⟩ := h'
  refine ⟨⟨off, .iface 84 (.pointer (some a)), blk_set h1 1 _, ⟨a, rfl⟩, fun j x hx => ?_⟩, h4, by simpa [World.setCell] using h5, h6.setCell h7 _, h7⟩
  rw [World.cell?_setCell_far]
  · exact h3 j x hx
  · exact h4
theorem KR.wrong {b : Nat} {w w1 : World} (h : KR b w w1) (hb : b ≤ w.heap.size) (o : Obj) (u : Value) : KR b w ((w1.alloc o).setCell ⟨b, 1, none⟩ u) := (h.alloc hb o).set 1 u

theorem V_strs {W : World} {base : Nat} {v : Value} {xs : List ByteArray} {n : Nat} (h : W.ownsRow base 9 1 v n (xs.map Value.string)) (hn : n = xs.length) (hbig : xs.length ≤ 9223372036854775807) : Kd.V Kd.string 9 W base (fun k_ => base ≤ k_) v xs := by
  subst hn
  obtain ⟨h1, h2⟩ := h
  rcases h2 with ⟨rfl, h0⟩ | ⟨g, cap, cur, rfl, hg, hh, hcap, _, hcs, ht⟩
  · have : xs = [] := List.eq_nil_of_length_eq_zero h0
    subst this
    exact Kd.V_nil _ _ _ _ _
  · refine ⟨_, cap, rfl, hcap, fun W' hW => C_strs g 0 xs hbig (fun j x hx => ?_)⟩
    have hblk : W'.heap[g]? = some (.cells cur 9 (0, 0)) := (hW g hg (blk_lt hh)).trans hh
    rw [Nat.zero_add, blk_cell hblk j]
    have hj : j < xs.length := (List.getElem?_eq_some_iff.1 hx).1
    have hx2 : (xs.map Value.string)[j]? = some (.string x) := by rw [List.getElem?_map, hx]; rfl
    rw [← ht, List.getElem?_take, if_pos (by omega)] at hx2
    rw [← Array.getElem?_toList]
    exact hx2

theorem clone_calls (sb off n c : Nat) (zs : List ByteArray) (W : World) (hn : n ≤ zs.length) (hbig : zs.length ≤ 2000000) (hc : ∀ j x, zs[j]? = some x → W.cell? ⟨sb, off + j, none⟩ = some (.string x)) :
    Calls Tryd.prog 45 #[.slice (some ⟨sb, off, none⟩) n c] W fun e w' => ∃ v, e = .returned v ∧ (Kd.V Kd.string 9 w' W.heap.size (fun k_ => W.heap.size ≤ k_) v (zs.take n) ∧ ∀ k, v.ownBlock = some k → k < w'.heap.size) ∧ Below W.heap.size W w' := by
  cases n with
  | zero =>
    refine (Tryd.slices_Clone_string_zero ⟨sb, off, none⟩ c W).mono ?_
    rintro e w' ⟨v, rfl, ho, _, hb⟩
    exact ⟨v, rfl, ⟨by have := V_strs (xs := []) (n := 0) (by simpa using ho) rfl (by simp); simpa using this, own_lt ho⟩, hb⟩
  | succ m =>
    refine (Tryd.slices_Clone_string sb off (m + 1) c zs W hn (by omega) (fun j hj => ?_)).mono ?_
    · rw [hc j zs[j] (List.getElem?_eq_getElem hj)]
      simp [hj]
    · rintro e w' ⟨v, rfl, ho, _, hb⟩
      refine ⟨v, rfl, ⟨V_strs (n := m + 1) (by simpa using ho) (by rw [List.length_take]; omega) (by rw [List.length_take]; omega), own_lt ho⟩, hb⟩

theorem RD.moved {w0 : World} {rb sb : Nat} {l l' : List ByteArray} {W : World} {off' : Nat} (h : RD w0 rb sb l false W) (hc : ∀ j x, l'[j]? = some x → W.cell? ⟨sb, off' + j, none⟩ = some (.string x)) : RD w0 rb sb l' false (W.setCell ⟨rb, 0, none⟩ (.slice (some ⟨sb, off', none⟩) l'.length l'.length)) := by
  obtain ⟨⟨off, v, h1, h2, h3⟩, h4, h5, h6, h7⟩ := h
  refine ⟨⟨off', v, blk_set h1 0 _, h2, fun j x hx => ?_⟩, h4, by simpa [World.setCell] using h5, h6.setCell h7 _, h7⟩
  rw [World.cell?_setCell_far]
  · exact hc j x hx
  · exact h4

set_option maxHeartbeats 1000000 in
set_option maxRecDepth 100000 in
theorem number_calls (w0 : World) (rb sb : Nat) (l : List ByteArray) (er : Bool) (a : ByteArray) (w : World) (hG : Gl w0) (h : RD w0 rb sb l er w) :
    Calls Tryd.prog 27 #[.pointer (some ⟨rb, 0, none⟩), .string a] w fun e w' => e = .returned (.int .i64 (numberP a er).1) ∧ RD w0 rb sb l (numberP a er).2 w' ∧ KR rb w w' := by
  have hd := num_Decimal.calls 20 a (decB a).1 (decB a).2 w (Gl_below hG h.base) (numberOk a)
  rw [numberP]
  generalize decB a = q at hd
  obtain ⟨n, is⟩ := q
  dsimp only at hd ⊢
  have HR := Aside0.mk h
  have HLT := Aside0.mk h.at_lt
  clear h hG
  cases is with
  | true =>
    go_enter Tryd.func27, Tryd.ntmps27
    go_wp2_with (go_at_call 44; refine hd.mono ?_; rintro e w1 ⟨rfl, hb1⟩)
    go_ret
    exact ⟨rfl, by simpa using HR.out.later hb1, KR.of_below (Nat.le_of_lt HLT.out) hb1⟩
  | false =>
    go_enter Tryd.func27, Tryd.ntmps27
    go_wp2_with (go_at_call 44; refine hd.mono ?_; rintro e w1 ⟨rfl, hb1⟩; obtain ⟨off, v, hv, hz0, hz1, hz2, hz3, hz4, hz5⟩ := (HR.out.later hb1).facts; clear hv hz0 hz1 hz4 hz5)
    go_ret
    exact ⟨rfl, by simpa using (HR.out.later hb1).wrong _ _, (KR.of_below (Nat.le_of_lt HLT.out) hb1).wrong (Nat.le_of_lt HLT.out) _ _⟩

set_option maxHeartbeats 1000000 in
set_option maxRecDepth 100000 in
theorem some_calls2 (w0 : World) (rb sb : Nat) (l : List ByteArray) (er : Bool) (n : Int) (hn : 0 ≤ n) (hl : l.length ≤ 2000000) (w : World) (h : RD w0 rb sb l er w) :
    Calls Tryd.prog 29 #[.pointer (some ⟨rb, 0, none⟩), .int .i64 n] w fun e w' => ∃ v, e = .returned v ∧ (Kd.V Kd.string 9 w' w.heap.size (fun k_ => w.heap.size ≤ k_) v (someP n l er).1 ∧ ∀ k, v.ownBlock = some k → k < w'.heap.size) ∧ RD w0 rb sb (someP n l er).2.1 (someP n l er).2.2 w' ∧ KR rb w w' := by
  have HR := Aside0.mk h
  have HLT := Aside0.mk h.at_lt
  obtain ⟨off, v, hv, hz0, hz1, hz2, hz3, hz4, hz5⟩ := h.facts
  clear h
  by_cases hlong : (l.length : Int) < n
  · rw [someP, if_pos (Or.inl hlong)]
    have hd : decide ((l.length : Int) < n) = true := decide_eq_true hlong
    clear hlong hn hl hv hz1 hz4 hz5
    go_enter Tryd.func29, Tryd.ntmps29
    go_wp2
    go_ret
    exact ⟨_, rfl, ⟨Kd.V_nil _ _ _ _ _, fun k hk => by simp [Value.ownBlock] at hk⟩, HR.out.wrong _ _, (KR.refl _ _).wrong (Nat.le_of_lt HLT.out) _ _⟩
  · have hd : decide ((l.length : Int) < n) = false := decide_eq_false hlong
    cases er with
    | true =>
      rw [someP, if_pos (Or.inr rfl)]
      obtain ⟨a, rfl⟩ : ∃ a : Addr, v = .iface 84 (.pointer (some a)) := hv
      clear hlong hn hl hz4 hz5
      go_enter Tryd.func29, Tryd.ntmps29
      go_wp2
      go_ret
      exact ⟨_, rfl, ⟨Kd.V_nil _ _ _ _ _, fun k hk => by simp [Value.ownBlock] at hk⟩, HR.out.wrong _ _, (KR.refl _ _).wrong (Nat.le_of_lt HLT.out) _ _⟩
    | false =>
      rw [someP, if_neg (by simp; omega)]
      have hv' : v = .nilIface := hv
      subst hv'
      have h2 : n ≤ l.length := by omega
      clear hz2 hz3
      have hnn : n.toNat ≤ l.length := by omega
      have hlen : (l.drop n.toNat).length = l.length - n.toNat := List.length_drop
      by_cases hq : l.length = n.toNat
      · obtain rfl : n = l.length := by omega
        rw [Int.toNat_natCast, List.take_length, List.drop_length]
        have hmv : RD w0 rb sb [] false (w.setCell ⟨rb, 0, none⟩ (.slice (some ⟨sb, off, none⟩) 0 0)) := HR.out.moved (l' := []) (off' := off) (fun j x hx => by simp at hx)
        have hkr : KR rb w (w.setCell ⟨rb, 0, none⟩ (.slice (some ⟨sb, off, none⟩) 0 0)) := (KR.refl _ _).set 0 _
        have hcl := clone_calls sb off l.length l.length l (w.setCell ⟨rb, 0, none⟩ (.slice (some ⟨sb, off, none⟩) 0 0)) (Nat.le_refl _) hl (fun j x hx => by
          rw [World.cell?_setCell_far]
          · exact hz5 j x hx
          · exact HR.out.ne)
        rw [List.take_length] at hcl
        have HMV := Aside0.mk hmv
        have HKR := Aside0.mk hkr
        clear hz5 hlong hv hlen hmv hkr hnn hq hn h2
        go_enter Tryd.func29, Tryd.ntmps29
        go_wp2_with (go_at_call 45; refine hcl.mono ?_; rintro e w1 ⟨v1, rfl, hv1, hb1⟩)
        go_ret
        have hsz : (w.setCell ⟨rb, 0, none⟩ (.slice (some ⟨sb, off, none⟩) 0 0)).heap.size = w.heap.size := by simp [World.setCell]
        rw [hsz] at hv1
        exact ⟨_, rfl, hv1, HMV.out.later hb1, HKR.out.trans (KR.of_below (by rw [hsz]; exact Nat.le_of_lt HLT.out) hb1)⟩
      · have hmv : RD w0 rb sb (l.drop n.toNat) false (w.setCell ⟨rb, 0, none⟩ (.slice (some ⟨sb, off + n.toNat, none⟩) (l.drop n.toNat).length (l.drop n.toNat).length)) := HR.out.moved (off' := off + n.toNat) (fun j x hx => by
          rw [List.getElem?_drop] at hx
          rw [Nat.add_assoc]
          exact hz5 _ _ hx)
        rw [hlen] at hmv
        have hkr : KR rb w (w.setCell ⟨rb, 0, none⟩ (.slice (some ⟨sb, off + n.toNat, none⟩) (l.length - n.toNat) (l.length - n.toNat))) := (KR.refl _ _).set 0 _
        have hcl := clone_calls sb off n.toNat l.length l (w.setCell ⟨rb, 0, none⟩ (.slice (some ⟨sb, off + n.toNat, none⟩) (l.length - n.toNat) (l.length - n.toNat))) hnn hl (fun j x hx => by
          rw [World.cell?_setCell_far]
          · exact hz5 j x hx
          · exact HR.out.ne)
        have HMV := Aside0.mk hmv
        have HKR := Aside0.mk hkr
        clear hz5 hlong hv hlen hmv hkr hnn
        go_enter Tryd.func29, Tryd.ntmps29
        go_wp2_with (go_at_call 45; refine hcl.mono ?_; rintro e w1 ⟨v1, rfl, hv1, hb1⟩)
        go_ret
        have hsz : (w.setCell ⟨rb, 0, none⟩ (.slice (some ⟨sb, off + n.toNat, none⟩) (l.length - n.toNat) (l.length - n.toNat))).heap.size = w.heap.size := by simp [World.setCell]
        rw [hsz] at hv1
        exact ⟨_, rfl, hv1, HMV.out.later hb1, HKR.out.trans (KR.of_below (by rw [hsz]; exact Nat.le_of_lt HLT.out) hb1)⟩
theorem some_calls (w0 : World) (rb sb : Nat) (l : List ByteArray) (er : Bool) (n : Int) (hn : 0 ≤ n) (hl : l.length ≤ 2000000) (w : World) (h : RD w0 rb sb l er w) :
    Calls Tryd.prog 29 #[.pointer (some ⟨rb, 0, none⟩), .int .i64 n] w fun e w' => ∃ v, e = .returned v ∧ Kd.V Kd.string 9 w' w.heap.size (fun k_ => w.heap.size ≤ k_) v (someP n l er).1 ∧ RD w0 rb sb (someP n l er).2.1 (someP n l er).2.2 w' ∧ KR rb w w' :=
  (some_calls2 w0 rb sb l er n hn hl w h).mono fun e w' ⟨v, h1, h2, h3, h4⟩ => ⟨v, h1, h2.1, h3, h4⟩
end Go.Proofs.YtgmddlbbmlneaaaDoor.PR

/- root.reader's 'words'. -/
namespace Go.Proofs.YtgmddlbbmlneaaaDoor.PR
open Go.RowKit Go.Shelf Go.Proofs.YtgmddlbbmlneaaaDoorW.PrintWords Go.Proofs.YtgmddlbbmlneaaaDoorW.PrintLast Go.Proofs.YtgmddlbbmlneaaaDoorW.PrintMore
set_option linter.unusedVariables false

theorem str_info : ∃ i, Tryd.prog.info? 9 = some i ∧ i.zero = some (.string ⟨#[]⟩) ∧ i.size = 1 ∧ i.bytes = 16 := by
  have h : (Tryd.prog.info? 9).map (fun i => (i.zero, i.size, i.bytes)) = some (some (.string ⟨#[]⟩), 1, 16) := by kernel_rfl
  obtain ⟨i, hi, he⟩ := Option.map_eq_some_iff.1 h
  simp only [Prod.mk.injEq] at he
  exact ⟨i, hi, he.1, he.2.1, he.2.2⟩
def zeroRow (n : Nat) : Obj := .cells ((List.replicate n (⟨#[]⟩ : ByteArray)).map Value.string).toArray 9 (0, 0)
theorem make_strs (n : Nat) (hn : n ≤ 1000000) (W : World) : (Instr.makeSlice 22 (.int .i64 (n : Int)) (.int .i64 (n : Int))).run Tryd.prog W = .ok (.slice (some ⟨W.heap.size, 0, none⟩) n n) (W.alloc (zeroRow n)) := by
  obtain ⟨i, hi, hz, hs, hb⟩ := str_info
  rw [run_make W 22 9 i _ Tryd.underlying22 hi hz .i64 .i64 n n (by omega) (Int.le_refl _) (by rw [hb]; omega) (by omega), hs]
  have he : madeCells (Value.string ⟨#[]⟩).cells ((n : Int).toNat * 1) = ((List.replicate n (⟨#[]⟩ : ByteArray)).map Value.string).toArray := by
    apply Array.ext
    · simp [madeCells]
    · intro j h1 h2
      simp [madeCells, Value.cells]
      rw [Nat.mod_one]; rfl
  rw [he, Int.toNat_natCast]
  rfl
theorem zero_blk {W : World} {b n : Nat} (h : W.heap[b]? = some (zeroRow n)) : W.heap[b]? = some (.cells ((List.replicate n (⟨#[]⟩ : ByteArray)).map Value.string).toArray 9 (0, 0)) := h
theorem src_strs {W : World} {b : Nat} {l : List ByteArray} (h : W.heap[b]? = some (.cells (l.map Value.string).toArray 9 (0, 0))) : ∀ (j : Nat) (u : Value), (l.map Value.string)[j]? = some u → W.cell? (Addr.add ⟨b, 0, none⟩ j) = some u := by
  intro j u hu
  rw [show Addr.add ⟨b, 0, none⟩ j = ⟨b, j, none⟩ by simp [Addr.add]; exact fun h => h.symm, blk_cell h]
  simpa using hu
theorem strs_one (l : List ByteArray) : ∀ v ∈ l.map Value.string, v.oneCell' = true := by
  intro v hv
  obtain ⟨y, _, rfl⟩ := List.mem_map.1 hv
  rfl
theorem C_str_at {W : World} {A : Option Addr} {xs : List ByteArray} (h : Kd.C Kd.string W A xs.length xs) (j : Nat) (x : ByteArray) (hj : xs[j]? = some x) : ∃ ad, A = some ad ∧ W.cell? (ad.add j) = some (.string x) := by
  have hlt := (List.getElem?_eq_some_iff.1 hj).1
  obtain ⟨ad, rfl, hc⟩ := h.2.2 (by omega)
  refine ⟨ad, rfl, ?_⟩
  obtain ⟨cs, _, hcs, hu⟩ := hc j x hj
  have := hu 0 (.string x) (by rw [show cs = [.string x] from hcs]; rfl)
  simpa [show Kd.string.sz = 1 from rfl] using this

set_option maxHeartbeats 2000000 in
set_option maxRecDepth 100000 in
theorem words_calls (w0 : World) (rb sb : Nat) (l : List ByteArray) (er : Bool) (first : ByteArray) (many : Nat) (hm : many ≤ 100) (hl : l.length ≤ 2000000) (hs : ∀ x ∈ l, x.size ≤ 2000000) (w : World) (hG : Gl w0) (h : RD w0 rb sb l er w) :
    Calls Tryd.prog 28 #[.pointer (some ⟨rb, 0, none⟩), .string first, .int .i64 (many : Int)] w fun e w' => ∃ ob : Nat, e = .returned (.slice (some ⟨ob, 0, none⟩) many many) ∧ w.heap.size ≤ ob ∧
      w'.heap[ob]? = some (.cells ((wordsP first many l er).1.map Value.string).toArray 9 (0, 0)) ∧ RD w0 rb sb (wordsP first many l er).2.1 (wordsP first many l er).2.2 w' ∧ KR rb w w' := by
  have hmk := make_strs many (by omega)
  have hob := blk_new w (zeroRow many)
  have hba : Below w.heap.size w (w.alloc (zeroRow many)) := below_alloc (Below.refl _ _) _
  have hne : w.heap.size ≠ rb := by have := h.at_lt; omega
  have hsm := some_calls w0 rb sb l er 1 (by omega) hl _ (h.later hba)
  have hk0 : KR rb w (w.alloc (zeroRow many)) := KR.of_below (Nat.le_of_lt h.at_lt) hba
  have HK0 := Aside0.mk hk0
  have HOB := Aside0.mk hob
  have HLT := Aside0.mk h.at_lt
  have HNE := Aside0.mk hne
  have HSB := Aside0.mk h.lt
  have HSZ := Aside0.mk (show (Tryd.prog.info? 9).map (·.size) = some 1 by kernel_rfl)
  clear hk0 hob hba hne
  by_cases hbad : er = true ∨ l = []
  · have hw : wordsP first many l er = (List.replicate many ⟨#[]⟩, l, true) := by
      cases l with
      | nil => rfl
      | cons x l' => cases er with
        | true => rfl
        | false => simp at hbad
    have hse : someP 1 l er = ([], l, true) := by
      rw [someP, if_pos]
      rcases hbad with rfl | rfl
      · exact .inr rfl
      · exact .inl (by simp)
    rw [hw]
    rw [hse] at hsm
    clear hw hse hbad h hG
    go_enter Tryd.func28, Tryd.ntmps28
    go_wp2_with (go_at_call 29; refine hsm.mono ?_; rintro e w2 ⟨v, rfl, hv, hrd, hkr⟩; obtain ⟨off, ve, hve, hz0, hz1, hz2, hz3, hz4, hz5⟩ := hrd.facts; obtain ⟨ae, rfl⟩ : ∃ a : Addr, ve = .iface 84 (.pointer (some a)) := hve; clear hz0 hz2 hz3 hz4 hz5 hv)
    go_ret
    exact ⟨_, rfl, Nat.le_refl _, hkr.blk HOB.out HNE.out, hrd, HK0.out.trans hkr⟩
  · obtain ⟨rfl, x, l', rfl⟩ : er = false ∧ ∃ x l', l = x :: l' := by
      cases er with
      | true => simp at hbad
      | false =>
        cases l with
        | nil => simp at hbad
        | cons x l' => exact ⟨rfl, x, l', rfl⟩
    have hse : someP 1 (x :: l') false = ([x], l', false) := by
      rw [someP, if_neg (by simp; omega)]
      rfl
    rw [hse] at hsm
    have hxs := hs x List.mem_cons_self
    obtain ⟨m, hm0⟩ := hG.1
    have hm2 : ∀ {w2 : World}, Below w0.heap.size w0 w2 → w2.cell? ⟨0, 0, none⟩ = some (.int .i64 m) := fun hb => (hb.cell (World.block_lt_of_cell? _ _ hm0)).trans hm0
    have hsplit : ∀ w2 : World, w2.cell? ⟨0, 0, none⟩ = some (.int .i64 m) → Calls Tryd.prog 26 #[.string x, .string ⟨#[32]⟩] w2 fun e w' => e = .returned (.slice (some ⟨w2.heap.size, 0, none⟩) (splitS 32 x).length (splitS 32 x).length) ∧ Below w2.heap.size w2 w' ∧ w'.heap[w2.heap.size]? = some (.cells ((splitS 32 x).map Value.string).toArray 9 (0, 0)) := by
      intro w2 hw2
      have := Tryd.strings_Split x ⟨#[32]⟩ m w2 (by omega) hw2 (Nat.le_refl 1)
      rw [splitB_one, ← splitS_length] at this
      exact this.mono fun e w' ⟨h1, h2⟩ => by subst h2; exact ⟨h1, below_alloc (Below.refl _ _) _, blk_new _ _⟩
    have hpne : splitS 32 x ≠ [] := by rw [splitS]; intro h; exact splitL_ne 32 x.data.toList (List.map_eq_nil_iff.1 h)
    have hplen : (splitS 32 x).length ≤ 3000000 := by
      have := splitS_length 32 x
      have h2 := Lib.countB_le ⟨#[32]⟩ (Nat.le_refl 1) _ x (Nat.le_refl _)
      omega
    have hwp : wordsP first many (x :: l') false = if (splitS 32 x).length ≠ many ∨ (splitS 32 x).headD ⟨#[]⟩ ≠ first then (List.replicate many ⟨#[]⟩, l', true) else (splitS 32 x, l', false) := rfl
    obtain ⟨R, hR⟩ : ∃ R, wordsP first many (x :: l') false = R := ⟨_, rfl⟩
    rw [hR] at hwp ⊢
    generalize splitS 32 x = P at hsplit hpne hplen hwp
    cases P with
    | nil => exact absurd rfl hpne
    | cons p ps =>
      simp only [List.length_cons] at hsplit hplen
      have HS := Aside0.mk hsplit
      have HM2 := Aside0.mk @hm2
      clear hsplit hm2 hpne hse hs hl hbad hm0 hG h hR
      by_cases hk : ps.length + 1 = many
      · by_cases hp : p = first
        · obtain rfl : R = (p :: ps, l', false) := hwp.trans (if_neg (by rintro (h | h); exact h hk; exact h hp))
          clear hwp
          have hkd : decide ((ps.length : Int) + 1 = (many : Int)) = true := decide_eq_true (by omega)
          have hki : (ps.length : Int) + 1 = (many : Int) := by omega
          have HK := Aside0.mk hk
          clear hk
          subst hp
          have HFIT := Aside0.mk (show 0 + ((p :: ps).map Value.string).length ≤ ((List.replicate many (⟨#[]⟩ : ByteArray)).map Value.string).length by have := HK.out; simp; omega)
          have HMN := Aside0.mk (show ((p :: ps).map Value.string).length = Nat.min (ps.length + 1) many by show _ = min (ps.length + 1) many; have := HK.out; simp only [List.length_map, List.length_cons]; omega)
          go_enter Tryd.func28, Tryd.ntmps28
          go_wp2_with (first | (go_at_call 29; refine hsm.mono ?_; rintro e w2 ⟨v, rfl, hv, hrd, hkr⟩; obtain ⟨off, ve, hve, hz0, hz1, hz2, hz3, hz4, hz5⟩ := hrd.facts; (obtain rfl : ve = .nilIface := hve); obtain ⟨A, c, rfl, hc, hF⟩ := hv; obtain ⟨ad, rfl, hcx⟩ := C_str_at (Kd.F_now hF) 0 x rfl; (replace hcx : w2.cell? ad = some (.string x) := hcx); have hm3 := HM2.out hrd.base; clear hz0 hz2 hz3 hz4 hz5 hF hc) | (go_at_call 26; refine (HS.out _ hm3).mono ?_; rintro e w3 ⟨rfl, hb3, hblk⟩; have hp0 := (blk_cell hblk 0).trans rfl; have hq0 := pw_cell_below hb3 hcx; have HR3 := Aside0.mk (hrd.later hb3); obtain ⟨off, ve, hve, hz0, hz1, hz2, hz3, hz4, hz5⟩ := HR3.out.facts; (obtain rfl : ve = .nilIface := hve); have HBL := Aside0.mk hblk; have HK3 := Aside0.mk (hkr.trans (KR.of_below (Nat.le_of_lt hrd.at_lt) hb3)); have HZ3 := Aside0.mk (zero_blk (HK3.out.blk HOB.out HNE.out)); have HSC := Aside0.mk (src_strs hblk); clear hz0 hz1 hz4 hz5 hm3 hblk hb3) | (with_reducible refine wpList_copy_splice rfl (.tmp 44) (.tmp 45) 22 22 rfl 9 Tryd.underlying22 HSZ.out (some ⟨w.heap.size, 0, none⟩) (some ⟨w2.heap.size, 0, none⟩) many many (ps.length + 1) (ps.length + 1) rfl rfl w.heap.size 0 ((List.replicate many (⟨#[]⟩ : ByteArray)).map Value.string) 9 HZ3.out ((p :: ps).map Value.string) HMN.out (fun _ => ⟨rfl, _, rfl, HSC.out⟩) HFIT.out (strs_one (p :: ps)) w.heap.size w3 (Below.refl _ _) (Nat.le_refl _) ?_; intro w4 hg4 hb4))
          go_ret
          have hsp : splice ((List.replicate many (⟨#[]⟩ : ByteArray)).map Value.string) 0 ((p :: ps).map Value.string) = (p :: ps).map Value.string := by
            rw [splice, List.take_zero, List.nil_append, List.drop_eq_nil_of_le (by have := HK.out; simp; omega), List.append_nil]
          have hg4' := hg4.out
          rw [hsp] at hg4'
          exact ⟨_, rfl, Nat.le_refl _, hg4', HR3.out.under hb4 HLT.out HSB.out, ⟨(HK0.out.trans HK3.out).below.trans (hb4.mono (Nat.le_of_lt HLT.out)), fun k hk hne => (hb4.block k hk).trans ((HK0.out.trans HK3.out).keep k hk hne)⟩⟩
        · obtain rfl : R = (List.replicate many ⟨#[]⟩, l', true) := hwp.trans (if_pos (Or.inr hp))
          clear hwp
          have hpd : (p.toList == first.toList) = false := by rw [beq_eq_false_iff_ne]; exact fun e => hp (by rw [← ofL_data p, ← ofL_data first, ← toList_data, ← toList_data, e])
          have hpd2 : (p.toList != first.toList) = true := by rw [bne, hpd]; rfl
          clear hp
          have hkd : decide ((ps.length : Int) + 1 = (many : Int)) = true := decide_eq_true (by omega)
          have hki : (ps.length : Int) + 1 = (many : Int) := by omega
          have HK := Aside0.mk hk
          clear hk
          go_enter Tryd.func28, Tryd.ntmps28
          go_wp2_with (first | (go_at_call 29; refine hsm.mono ?_; rintro e w2 ⟨v, rfl, hv, hrd, hkr⟩; obtain ⟨off, ve, hve, hz0, hz1, hz2, hz3, hz4, hz5⟩ := hrd.facts; (obtain rfl : ve = .nilIface := hve); obtain ⟨A, c, rfl, hc, hF⟩ := hv; obtain ⟨ad, rfl, hcx⟩ := C_str_at (Kd.F_now hF) 0 x rfl; (replace hcx : w2.cell? ad = some (.string x) := hcx); have hm3 := HM2.out hrd.base; clear hz0 hz2 hz3 hz4 hz5 hF hc) | (go_at_call 26; refine (HS.out _ hm3).mono ?_; rintro e w3 ⟨rfl, hb3, hblk⟩; have hp0 := (blk_cell hblk 0).trans rfl; have hq0 := pw_cell_below hb3 hcx; have HR3 := Aside0.mk (hrd.later hb3); obtain ⟨off, ve, hve, hz0, hz1, hz2, hz3, hz4, hz5⟩ := HR3.out.facts; (obtain rfl : ve = .nilIface := hve); have HBL := Aside0.mk hblk; have HK3 := Aside0.mk (hkr.trans (KR.of_below (Nat.le_of_lt hrd.at_lt) hb3)); have HZ3 := Aside0.mk (zero_blk (HK3.out.blk HOB.out HNE.out)); have HSC := Aside0.mk (src_strs hblk); clear hz0 hz1 hz4 hz5 hm3 hblk hb3))
          go_ret
          have hle : rb ≤ (w.alloc (zeroRow many)).heap.size := Nat.le_of_lt (by have := HLT.out; simp; omega)
          exact ⟨_, rfl, Nat.le_refl _, (HK3.out.wrong hle _ _).blk HOB.out HNE.out, HR3.out.wrong _ _, HK0.out.trans (HK3.out.wrong hle _ _)⟩
      · obtain rfl : R = (List.replicate many ⟨#[]⟩, l', true) := hwp.trans (if_pos (Or.inl hk))
        clear hwp
        have hki : ((ps.length : Int) + 1 = (many : Int)) = False := eq_false (by omega)
        have hkd : decide ((ps.length : Int) + 1 = (many : Int)) = false := decide_eq_false (by omega)
        go_enter Tryd.func28, Tryd.ntmps28
        go_wp2_with (first | (go_at_call 29; refine hsm.mono ?_; rintro e w2 ⟨v, rfl, hv, hrd, hkr⟩; obtain ⟨off, ve, hve, hz0, hz1, hz2, hz3, hz4, hz5⟩ := hrd.facts; (obtain rfl : ve = .nilIface := hve); obtain ⟨A, c, rfl, hc, hF⟩ := hv; obtain ⟨ad, rfl, hcx⟩ := C_str_at (Kd.F_now hF) 0 x rfl; (replace hcx : w2.cell? ad = some (.string x) := hcx); have hm3 := HM2.out hrd.base; clear hz0 hz2 hz3 hz4 hz5 hF hc) | (go_at_call 26; refine (HS.out _ hm3).mono ?_; rintro e w3 ⟨rfl, hb3, hblk⟩; have hp0 := (blk_cell hblk 0).trans rfl; have hq0 := pw_cell_below hb3 hcx; have HR3 := Aside0.mk (hrd.later hb3); obtain ⟨off, ve, hve, hz0, hz1, hz2, hz3, hz4, hz5⟩ := HR3.out.facts; (obtain rfl : ve = .nilIface := hve); have HBL := Aside0.mk hblk; have HK3 := Aside0.mk (hkr.trans (KR.of_below (Nat.le_of_lt hrd.at_lt) hb3)); have HZ3 := Aside0.mk (zero_blk (HK3.out.blk HOB.out HNE.out)); have HSC := Aside0.mk (src_strs hblk); clear hz0 hz1 hz4 hz5 hm3 hblk hb3))
        go_ret
        have hle : rb ≤ (w.alloc (zeroRow many)).heap.size := Nat.le_of_lt (by have := HLT.out; simp; omega)
        exact ⟨_, rfl, Nat.le_refl _, (HK3.out.wrong hle _ _).blk HOB.out HNE.out, HR3.out.wrong _ _, HK0.out.trans (HK3.out.wrong hle _ _)⟩
end Go.Proofs.YtgmddlbbmlneaaaDoor.PR

/- root.reader's 'fork'. -/
namespace Go.Proofs.YtgmddlbbmlneaaaDoor.PR
open Go.RowKit Go.Shelf Go.Proofs.YtgmddlbbmlneaaaDoorW.PrintWords Go.Proofs.YtgmddlbbmlneaaaDoorW.PrintLast Go.Proofs.YtgmddlbbmlneaaaDoorW.PrintMore
set_option linter.unusedVariables false

theorem wordsP_length (first : ByteArray) (many : Nat) (l : List ByteArray) (e : Bool) : (wordsP first many l e).1.length = many := by
  unfold wordsP
  split
  · split
    · simp
    · rename_i h
      exact Decidable.byContradiction (fun hk => h (Or.inl hk))
  · simp
theorem word_cell {W : World} {b : Nat} {ws : List ByteArray} (h : W.heap[b]? = some (.cells (ws.map Value.string).toArray 9 (0, 0))) (j : Nat) (hj : j < ws.length) : W.cell? ⟨b, j, none⟩ = some (.string (wordAt ws j)) := by
  rw [blk_cell h]
  simp [wordAt, hj]

theorem rowsL_cons (x : ByteArray) (l : List ByteArray) : rowsL (x :: l) = x.data.toList ++ [10] ++ rowsL l := rfl
theorem tot_cons (x : ByteArray) (l : List ByteArray) : (rowsL (x :: l)).length = x.size + 1 + (rowsL l).length := by
  rw [rowsL_cons, List.length_append, List.length_append, data_length]; rfl
theorem tot_len : ∀ l : List ByteArray, l.length ≤ (rowsL l).length
  | [] => Nat.le_refl _
  | x :: l => by have := tot_len l; rw [tot_cons, List.length_cons]; omega
theorem tot_mem : ∀ (l : List ByteArray) (x : ByteArray), x ∈ l → x.size + 1 ≤ (rowsL l).length
  | y :: l, x, h => by
    rw [tot_cons]
    rcases List.mem_cons.1 h with rfl | h
    · omega
    · have := tot_mem l x h; omega
theorem tot_drop : ∀ (n : Nat) (l : List ByteArray), (rowsL (l.drop n)).length ≤ (rowsL l).length
  | 0, l => Nat.le_refl _
  | n + 1, [] => Nat.le_refl _
  | n + 1, x :: l => by have := tot_drop n l; rw [tot_cons, List.drop_succ_cons]; omega
theorem tot_take : ∀ (n : Nat) (l : List ByteArray), (rowsL (l.take n)).length ≤ (rowsL l).length
  | 0, l => by simp [rowsL]
  | n + 1, [] => Nat.le_refl _
  | n + 1, x :: l => by have := tot_take n l; rw [tot_cons, List.take_succ_cons, tot_cons]; omega
theorem wordsP_tot (first : ByteArray) (many : Nat) (l : List ByteArray) (e : Bool) : (rowsL (wordsP first many l e).2.1).length ≤ (rowsL l).length := by
  unfold wordsP
  split
  · split <;> (simp only [tot_cons]; omega)
  · exact Nat.le_refl _
theorem someP_tot (n : Int) (l : List ByteArray) (e : Bool) : (rowsL (someP n l e).1).length ≤ (rowsL l).length ∧ (rowsL (someP n l e).2.1).length ≤ (rowsL l).length := by
  unfold someP
  split
  · exact ⟨Nat.zero_le _, Nat.le_refl _⟩
  · exact ⟨tot_take _ _, tot_drop _ _⟩
theorem rows_step (l : List ByteArray) (k : Nat) (h : k < l.length) : ofL (rowsL (l.take k)) ++ (l[k] ++ ⟨#[10]⟩) = ofL (rowsL (l.take (k + 1))) := by
  rw [List.take_succ_eq_append_getElem h, rowsL, rowsL, List.flatMap_append, ← ofL_data (ofL _ ++ _)]
  apply congrArg ofL
  simp [ofL, ByteArray.data_append]

theorem five_sets (w8 : World) (bres fb t : Nat) (cs : Array Value) (a0 a1 a2 a3 a4 z0 z1 z2 z3 z4 u : Value) (hne : bres ≠ fb) (hle : bres ≤ fb) (hb : w8.heap[bres]? = some (.cells #[z0, z1, z2, z3, z4] t (0, 0))) :
    (((((((w8.setCell ⟨fb, 4, none⟩ u).setCell ⟨bres, 0, none⟩ a0).setCell ⟨bres, 1, none⟩ a1).setCell ⟨bres, 2, none⟩ a2).setCell ⟨bres, 3, none⟩ a3).setCell ⟨bres, 4, none⟩ a4).heap[bres]? = some (.cells #[a0, a1, a2, a3, a4] t (0, 0))) ∧
    (∀ k, k ≠ fb → k ≠ bres → ((((((w8.setCell ⟨fb, 4, none⟩ u).setCell ⟨bres, 0, none⟩ a0).setCell ⟨bres, 1, none⟩ a1).setCell ⟨bres, 2, none⟩ a2).setCell ⟨bres, 3, none⟩ a3).setCell ⟨bres, 4, none⟩ a4).heap[k]? = w8.heap[k]?) ∧
    Below bres w8 ((((((w8.setCell ⟨fb, 4, none⟩ u).setCell ⟨bres, 0, none⟩ a0).setCell ⟨bres, 1, none⟩ a1).setCell ⟨bres, 2, none⟩ a2).setCell ⟨bres, 3, none⟩ a3).setCell ⟨bres, 4, none⟩ a4) := by
  refine ⟨?_, fun k h1 h2 => ?_, ?_⟩
  · exact blk_put (blk_put (blk_put (blk_put (blk_put (blk_far hb hne u) 0 a0 rfl) 1 a1 rfl) 2 a2 rfl) 3 a3 rfl) 4 a4 rfl
  · rw [Below.heap_setCell _ _ _ _ h2, Below.heap_setCell _ _ _ _ h2, Below.heap_setCell _ _ _ _ h2, Below.heap_setCell _ _ _ _ h2, Below.heap_setCell _ _ _ _ h2, Below.heap_setCell _ _ _ _ h1]
  · exact ((((((Below.refl _ _).setCell (p := ⟨fb, 4, none⟩) hle u).setCell (p := ⟨bres, 0, none⟩) (Nat.le_refl _) a0).setCell (p := ⟨bres, 1, none⟩) (Nat.le_refl _) a1).setCell (p := ⟨bres, 2, none⟩) (Nat.le_refl _) a2).setCell (p := ⟨bres, 3, none⟩) (Nat.le_refl _) a3).setCell (p := ⟨bres, 4, none⟩) (Nat.le_refl _) a4
theorem KR.far {b : Nat} {w w1 : World} (h : KR b w w1) {p : Addr} (hp : w.heap.size ≤ p.block) (hb : b ≤ p.block) (u : Value) : KR b w (w1.setCell p u) :=
  ⟨h.below.setCell hb u, fun k hk hne => (Below.heap_setCell _ _ _ _ (by omega)).trans (h.keep k hk hne)⟩
theorem KR.under {b B : Nat} {w w1 w2 : World} (h : KR b w w1) (hb : Below B w1 w2) (h1 : b ≤ B) (h2 : w.heap.size ≤ B) : KR b w w2 :=
  ⟨h.below.trans (hb.mono h1), fun k hk hne => (hb.block k (by omega)).trans (h.keep k hk hne)⟩

set_option maxHeartbeats 4000000 in
set_option maxRecDepth 100000 in
theorem fork_calls (w0 : World) (rb sb : Nat) (l : List ByteArray) (er : Bool) (ht : (rowsL l).length ≤ 2000000) (w : World) (hG : Gl w0) (h : RD w0 rb sb l er w) :
    Calls Tryd.prog 30 #[.pointer (some ⟨rb, 0, none⟩)] w fun e w' => ∃ v3 v4 : Value, e = .returned (.agg #[.string (forkP l er).1.f0, .bool (forkP l er).1.f1, .string (forkP l er).1.f2, v3, v4]) ∧
      Kd.V k76 76 w' w.heap.size (fun k_ => w.heap.size ≤ k_) v3 (forkP l er).1.f3 ∧ Kd.V Kd.string 9 w' w.heap.size (fun k_ => w.heap.size ≤ k_) v4 (forkP l er).1.f4 ∧
      RD w0 rb sb (forkP l er).2.1 (forkP l er).2.2 w' ∧ KR rb w w' := by
  have hwords : ∀ W, RD w0 rb sb l er W → Calls Tryd.prog 28 #[.pointer (some ⟨rb, 0, none⟩), .string ⟨#[102, 111, 114, 107]⟩, .int .i64 6] W _ := fun W hW => words_calls w0 rb sb l er ⟨#[102, 111, 114, 107]⟩ 6 (by omega) (Nat.le_trans (tot_len l) ht) (fun x hx => by have := tot_mem l x hx; omega) W hG hW
  have hlen := wordsP_length ⟨#[102, 111, 114, 107]⟩ 6 l er
  obtain ⟨F, hF⟩ : ∃ F, forkP l er = F := ⟨_, rfl⟩
  rw [hF]
  rw [forkP] at hF
  have htot := wordsP_tot ⟨#[102, 111, 114, 107]⟩ 6 l er
  generalize wordsP ⟨#[102, 111, 114, 107]⟩ 6 l er = R1 at hwords hlen hF htot
  obtain ⟨ws, l1, e1⟩ := R1
  dsimp only at hwords hlen hF htot
  have hnum : ∀ {l : List ByteArray} {e : Bool} {W : World}, RD w0 rb sb l e W → ∀ a : ByteArray, Calls Tryd.prog 27 #[.pointer (some ⟨rb, 0, none⟩), .string a] W fun e' w' => e' = .returned (.int .i64 (numberP a e).1) ∧ RD w0 rb sb l (numberP a e).2 w' ∧ KR rb W w' := fun hW a => number_calls w0 rb sb _ _ a _ hG hW
  have hsome : ∀ {l : List ByteArray} {e : Bool} {W : World}, RD w0 rb sb l e W → ∀ n : Int, 0 ≤ n → l.length ≤ 2000000 → Calls Tryd.prog 29 #[.pointer (some ⟨rb, 0, none⟩), .int .i64 n] W fun e' w' => ∃ v, e' = .returned v ∧ Kd.V Kd.string 9 w' W.heap.size (fun k_ => W.heap.size ≤ k_) v (someP n l e).1 ∧ RD w0 rb sb (someP n l e).2.1 (someP n l e).2.2 w' ∧ KR rb W w' := fun hW n h0 hl => some_calls w0 rb sb _ _ n h0 hl _ hW
  have HSOME := Aside0.mk @hsome
  have HSB := Aside0.mk h.lt
  clear hsome
  have HNUM := Aside0.mk @hnum
  have HLT := Aside0.mk h.at_lt
  clear hnum
  have HT1 := Aside0.mk (And.intro (Nat.le_trans htot ht) (Nat.le_trans (tot_len l1) (Nat.le_trans htot ht)))
  have HWD := Aside0.mk hwords
  have HR := Aside0.mk h
  have HLEN := Aside0.mk hlen
  have HF := Aside0.mk hF
  clear hwords h hlen hF htot ht
  go_enter Tryd.func30, Tryd.ntmps30
  go_wp2_with (go_at_call 28; refine (HWD.out _ (HR.out.later (below_alloc (Below.refl _ _) _))).mono ?_; rintro e w1 ⟨ob, rfl, hob, hblk, hrd, hkr⟩; have hq1 := word_cell hblk 1 (by have := HLEN.out; omega); have hq2 := word_cell hblk 2 (by have := HLEN.out; omega); have hq3 := word_cell hblk 3 (by have := HLEN.out; omega); have ha1 := fun o => word_cell (blk_alloc hblk o) 1 (by have := HLEN.out; omega); have ha2 := fun o => word_cell (blk_alloc hblk o) 2 (by have := HLEN.out; omega); have ha3 := fun o => word_cell (blk_alloc hblk o) 3 (by have := HLEN.out; omega); have HBLK := Aside0.mk hblk; have HOB := Aside0.mk hob; clear hblk hob)
  go_region
  -- what stands: the words' row, the fork's own block, the result's
  have hst : ∃ W, W = (w1.alloc (.cells #[.string (wordAt ws 1), .bool ((wordAt ws 2).toList == [108, 105, 110, 107, 101, 100]), .string (wordAt ws 3), .slice none 0 0, .slice none 0 0] 40)).drew := ⟨_, rfl⟩
  obtain ⟨W2, hW2⟩ := hst
  have hb2 : Below w1.heap.size w1 W2 := by rw [hW2]; exact below_drew (below_alloc (Below.refl _ _) _)
  have hfb : W2.heap[w1.heap.size]? = some (.cells #[.string (wordAt ws 1), .bool ((wordAt ws 2).toList == [108, 105, 110, 107, 101, 100]), .string (wordAt ws 3), .slice none 0 0, .slice none 0 0] 40 (0, 0)) := by rw [hW2]; exact blk_drew (blk_new _ _)
  rw [← hW2]
  clear hW2
  have hbw := blk_below HBLK.out hb2
  have HRD := hrd.later hb2
  have hkw := (KR.of_below (Nat.le_of_lt HLT.out) (below_alloc (Below.refl w.heap.size w) (.cells #[.string ⟨#[]⟩, .bool false, .string ⟨#[]⟩, .slice none 0 0, .slice none 0 0] 40))).trans (hkr.trans (KR.of_below (Nat.le_of_lt hrd.at_lt) hb2))
  have hres : W2.heap[w.heap.size]? = some (.cells #[.string ⟨#[]⟩, .bool false, .string ⟨#[]⟩, .slice none 0 0, .slice none 0 0] 40 (0, 0)) := blk_below (hkr.blk (blk_new _ _) (by have := HLT.out; omega)) hb2
  have hne1 : ob ≠ rb := by have := HOB.out; have := HLT.out; simp at *; omega
  have hob1 : ob < w1.heap.size := blk_lt HBLK.out
  have hfo : w.heap.size < ob + 1 := by have := HOB.out; simp at this; omega
  have HW := Aside0.mk hbw
  have HR2 := Aside0.mk HRD
  have HK2 := Aside0.mk hkw
  have HRES := Aside0.mk hres
  have HFB := Aside0.mk hfb
  have HNE := Aside0.mk (And.intro hne1 (And.intro hob1 hfo))
  clear hq1 hq2 hq3 ha1 ha2 ha3 hrd hkr hb2 hbw HRD hkw hres hfb hne1 hob1 hfo HWD HR HOB HBLK
  go_wp2
  have hD := HR2.out.later (below_drew (Below.refl W2.heap.size W2))
  have z4 := word_cell HW.out 4 (by have := HLEN.out; omega)
  have z5 := word_cell HW.out 5 (by have := HLEN.out; omega)
  go_region_held3 (fun w' => w'.cell? ⟨ob, 4, none⟩ = some (.string (wordAt ws 4)) ∧ w'.cell? ⟨ob, 5, none⟩ = some (.string (wordAt ws 5))) (first | exact ⟨z4, z5⟩ | exact ⟨y4, y5⟩ | exact ⟨x4, x5⟩ | go_keep) (first | (go_at_call 27; refine (HNUM.out hra (wordAt ws 5)).mono ?_; rintro e w3 ⟨rfl, hrb, hkb⟩; have hwb := hkb.blk hwa HNE.out.1; have x4 := word_cell hwb 4 (by have := HLEN.out; omega); have x5 := word_cell hwb 5 (by have := HLEN.out; omega)) | (go_at_call 27; refine (HNUM.out hD (wordAt ws 4)).mono ?_; rintro e wa ⟨rfl, hra, hka⟩; have hwa := hka.blk (show W2.drew.heap[ob]? = _ from HW.out) HNE.out.1; have y4 := word_cell hwa 4 (by have := HLEN.out; omega); have y5 := word_cell hwa 5 (by have := HLEN.out; omega)))
  have HK3 := Aside0.mk (HK2.out.trans ((KR.of_below (Nat.le_of_lt HR2.out.at_lt) (below_drew (Below.refl W2.heap.size W2))).trans (hka.trans hkb)))
  have hkx : KR rb W2 w3 := (KR.of_below (Nat.le_of_lt HR2.out.at_lt) (below_drew (Below.refl W2.heap.size W2))).trans (hka.trans hkb)
  have HFB3 := Aside0.mk (hkx.blk HFB.out (by have := HLT.out; have := HNE.out.2; omega))
  have HRES3 := Aside0.mk (hkx.blk HRES.out (by have := HLT.out; omega))
  have HR3 := Aside0.mk hrb
  clear hD z4 z5 y4 y5 x4 x5 hra hka hwa hkb hwb hrb hkx HW HR2 HK2 HRES HFB
  have hn4 := (decB_range (wordAt ws 4)).1
  have hn5 := (decB_range (wordAt ws 5)).1
  have hl1 : l1.length ≤ 2000000 := HT1.out.2
  have hsm := some_calls w0 rb sb l1 (numberP (wordAt ws 5) (numberP (wordAt ws 4) e1).2).2 (numberP (wordAt ws 4) e1).1 hn4 hl1 w3 HR3.out
  have hstot := someP_tot (numberP (wordAt ws 4) e1).1 l1 (numberP (wordAt ws 5) (numberP (wordAt ws 4) e1).2).2
  generalize hRW : someP (numberP (wordAt ws 4) e1).1 l1 (numberP (wordAt ws 5) (numberP (wordAt ws 4) e1).2).2 = RW at hsm hstot
  obtain ⟨rows, l4, e4⟩ := RW
  dsimp only at hsm hstot
  have HRW := Aside0.mk hRW
  clear hRW
  have HS4 := Aside0.mk hstot
  have HN := Aside0.mk (And.intro hn4 hn5)
  clear hn4 hn5 hstot hl1
  go_wp2_with (go_at_call 29; refine hsm.mono ?_; rintro e w4 ⟨v, rfl, hv, hr4, hk4⟩; obtain ⟨A, c, rfl, hc, hVF⟩ := hv; have HC4 := Aside0.mk (Kd.F_now hVF); have HR4 := Aside0.mk hr4; have HK4 := Aside0.mk hk4; clear hVF hc hr4 hk4)
  clear hsm
  have hrl : rows.length ≤ 2000000 := Nat.le_trans (tot_len rows) (Nat.le_trans HS4.out.1 HT1.out.1)
  go_loopw [7, 39] (fun s i wr => ∃ k : Nat, k ≤ rows.length ∧ s = .string (ofL (rowsL (rows.take k))) ∧ i = .int .i64 k ∧ wr = w4) (fun _ i _ => rows.length - (intOf i).toNat)
  case atStart => exact ⟨0, Nat.zero_le _, rfl, rfl, rfl⟩
  case round =>
    obtain ⟨k, hk, rfl, rfl, rfl⟩ := hrel
    by_cases hlt : k < rows.length
    · obtain ⟨ad, e, hx⟩ := Kd.at_string HC4.out (k : Int) (by omega) (by omega)
      cases e
      rw [show rdOf ByteArray.empty rows (k : Int) = rows[k] by simp [rdOf, List.getD, hlt], Int.toNat_natCast] at hx
      have hstep := Aside0.mk (rows_step rows k hlt)
      have hsx := tot_mem rows _ (List.getElem_mem hlt)
      have hst := tot_take k rows
      have hrt := HS4.out.1
      have htt := HT1.out.1
      generalize rows[k] = x at hx hstep hsx
      generalize rowsL (rows.take k) = tx at hstep hst
      have p1 : ¬ 9223372036854775807 < x.size + 1 := by omega
      have p2 : ¬ 9223372036854775807 < (ofL tx).size + (x.size + 1) := by rw [size_ofL]; omega
      clear hsx hst hrt htt
      go_wp2
      go_roundw
      case rel => exact ⟨k + 1, by omega, by rw [hstep.out], by go_num, trivial⟩
      case measure => clear p1 p2; simp [intOf]; omega
    · have hkl : k = rows.length := by omega
      subst hkl
      rw [List.take_length]
      clear hlt
      have HGET := Aside0.mk (refs_Get.calls ((ofL (rowsL rows)).size + 1) (ofL (rowsL rows)) (refsGetB (ofL (rowsL rows))).1 (refsGetB (ofL (rowsL rows))).2 wr (Gl_below hG HR4.out.base) (refsGetOk _ (by rw [size_ofL]; have := HS4.out.1; have := HT1.out.1; omega)))
      generalize hGG : refsGetB (ofL (rowsL rows)) = G at HGET
      obtain ⟨rs, is⟩ := G
      have HGG := Aside0.mk hGG
      clear hGG
      dsimp only at HGET
      have HFBR := Aside0.mk (show w1.heap.size ≠ rb by have := HNE.out.2; have := HLT.out; omega)
      have HBRR := Aside0.mk (show w.heap.size ≠ rb by have := HLT.out; omega)
      have HBRF := Aside0.mk (show w.heap.size ≠ w1.heap.size by have := HNE.out.2; omega)
      have HFL := Aside0.mk (show rb < w1.heap.size ∧ sb < w1.heap.size by have := HNE.out.2; have := HLT.out; have := HSB.out; omega)
      have HL4 := Aside0.mk (Nat.le_trans (tot_len l4) (Nat.le_trans HS4.out.2 HT1.out.1))
      cases is with
      | true =>
        go_wp2_with (first  | (go_at_call 46; refine HGET.out.mono ?_; rintro e w5 ⟨v3, rfl, hv3, hb5⟩; obtain ⟨A3, c3, rfl⟩ := Kd.R_slice hv3; have HR6 := Aside0.mk (HR4.out.later hb5); have hfb5 := blk_below (HK4.out.blk HFB3.out HFBR.out) hb5; have hre5 := blk_below (HK4.out.blk HRES3.out HBRR.out) hb5; have hfb6 := hfb5; have hre6 := hre5; have g3 := blk_cell hfb6 3; have g3z := blk_frozen hfb6 3; have HFB6 := Aside0.mk hfb6; have HRE6 := Aside0.mk hre6; have HK6 := Aside0.mk (HK4.out.trans (KR.of_below (Nat.le_of_lt HR4.out.at_lt) hb5)); have HV3 := Aside0.mk hv3; have HB5 := Aside0.mk hb5; clear hfb5 hre5 hfb6 hre6 hv3 hb5) | (go_at_call 29; refine (HSOME.out (HR6.out.under (B := w1.heap.size) (Below.setCell (Below.refl _ _) (p := ⟨w1.heap.size, 3, none⟩) (Nat.le_refl _) _) HFL.out.1 HFL.out.2) _ HN.out.2 HL4.out).mono ?_; rintro e w8 ⟨v4, rfl, hv4, hr8, hk8⟩; obtain ⟨A4, c4, rfl⟩ := Kd.V_slice hv4; have hfb8 : w8.heap[w1.heap.size]? = some (.cells #[.string (wordAt ws 1), .bool ((wordAt ws 2).toList == [108, 105, 110, 107, 101, 100]), .string (wordAt ws 3), .slice A3 rs.length c3, .slice none 0 0] 40 (0, 0)) := hk8.blk (blk_put HFB6.out 3 _ rfl) HFBR.out; have hre8 : w8.heap[w.heap.size]? = some (.cells #[.string ⟨#[]⟩, .bool false, .string ⟨#[]⟩, .slice none 0 0, .slice none 0 0] 40 (0, 0)) := hk8.blk (blk_far HRE6.out (p := ⟨w1.heap.size, 3, none⟩) HBRF.out _) HBRR.out; have g4 := blk_cell hfb8 4; have g4z := blk_frozen hfb8 4; have hfb9 := fun (A : Option Addr) (n c : Nat) => blk_put hfb8 4 (.slice A n c) (cs' := #[.string (wordAt ws 1), .bool ((wordAt ws 2).toList == [108, 105, 110, 107, 101, 100]), .string (wordAt ws 3), .slice A3 rs.length c3, .slice A n c]) rfl; have hre9 := fun (u : Value) => blk_far hre8 (p := ⟨w1.heap.size, 4, none⟩) HBRF.out u; have kk0 := fun (A : Option Addr) (n c : Nat) => blk_cell (hfb9 A n c) 0; have kk1 := fun (A : Option Addr) (n c : Nat) => blk_cell (hfb9 A n c) 1; have kk2 := fun (A : Option Addr) (n c : Nat) => blk_cell (hfb9 A n c) 2; have kk3 := fun (A : Option Addr) (n c : Nat) => blk_cell (hfb9 A n c) 3; have kk4 := fun (A : Option Addr) (n c : Nat) => blk_cell (hfb9 A n c) 4; have kr0 := fun (u : Value) => blk_cell (hre9 u) 0; have kr1 := fun (u : Value) => blk_cell (hre9 u) 1; have kr2 := fun (u : Value) => blk_cell (hre9 u) 2; have kr3 := fun (u : Value) => blk_cell (hre9 u) 3; have kr4 := fun (u : Value) => blk_cell (hre9 u) 4; have kz0 := fun (u : Value) => blk_frozen (hre9 u) 0; have kz1 := fun (u : Value) => blk_frozen (hre9 u) 1; have kz2 := fun (u : Value) => blk_frozen (hre9 u) 2; have kz3 := fun (u : Value) => blk_frozen (hre9 u) 3; have kz4 := fun (u : Value) => blk_frozen (hre9 u) 4; have HFB8 := Aside0.mk hfb8; have HRE8 := Aside0.mk hre8; have HR8 := Aside0.mk hr8; have HK8 := Aside0.mk hk8; have HV4 := Aside0.mk hv4; clear hfb8 hre8 hfb9 hre9 hr8 hk8 hv4))
        have hfive := five_sets w8 w.heap.size w1.heap.size 40 #[] (.string (wordAt ws 1)) (.bool ((wordAt ws 2).toList == [108, 105, 110, 107, 101, 100])) (.string (wordAt ws 3)) (.slice A3 rs.length c3) (.slice A4 (someP (decB (wordAt ws 5)).fst l4 e4).fst.length c4) _ _ _ _ _ (.slice A4 (someP (decB (wordAt ws 5)).fst l4 e4).fst.length c4) HBRF.out (by have := HNE.out.2; omega) HRE8.out
        clear kk0 kk1 kk2 kk3 kk4 kr0 kr1 kr2 kr3 kr4 kz0 kz1 kz2 kz3 kz4 g4 g4z g3 g3z
        generalize ((((((w8.setCell _ _).setCell _ _).setCell _ _).setCell _ _).setCell _ _).setCell _ _) = Wf at hfive ⊢
        obtain ⟨hbl, hrest, hbw⟩ := hfive
        have r0 := (blk_cell hbl 0).trans rfl
        have r1 := (blk_cell hbl 1).trans rfl
        have r2 := (blk_cell hbl 2).trans rfl
        have r3 := (blk_cell hbl 3).trans rfl
        have r4 := (blk_cell hbl 4).trans rfl
        have hF := HF.out
        rw [HRW.out] at hF
        dsimp only at hF
        rw [HGG.out] at hF
        dsimp only at hF
        rw [show (e4 || !true) = e4 by cases e4 <;> rfl] at hF
        subst hF
        have hs1 := HNE.out.2
        have hs2 := HLT.out
        have hs3 : w1.heap.size < wr.heap.size := Nat.lt_of_lt_of_le (blk_lt HFB3.out) HK4.out.below.size
        have hs4 := HB5.out.size
        have hKw8 : KR rb w w8 := ((HK3.out.trans HK6.out).far (p := ⟨w1.heap.size, 3, none⟩) (by show w.heap.size ≤ w1.heap.size; omega) (by show rb ≤ w1.heap.size; omega) _).trans HK8.out
        refine bodyPost_ret (v := .agg #[.string (wordAt ws 1), .bool ((wordAt ws 2).toList == [108, 105, 110, 107, 101, 100]), .string (wordAt ws 3), .slice A3 rs.length c3, .slice A4 (someP (decB (wordAt ws 5)).fst l4 e4).fst.length c4]) (by simp [results, Tryd.results30, go_sem, r0, r1, r2, r3, r4]) rfl ⟨_, _, rfl, ?_, ?_, ?_, ?_⟩
        · refine Kd.V_mono (Kd.V_step (Kd.R_V (base' := w.heap.size) (Kd.R_bound HV3.out)) (fun k hk hlt => ?_)) (fun k hk => ?_)
          · obtain ⟨_, hk1, hk2, _⟩ := hk
            exact (hrest k (by omega) (by omega)).trans ((HK8.out.keep k (by simpa [World.setCell] using hk2) (by omega)).trans (Below.heap_setCell _ _ _ _ (by show k ≠ w1.heap.size; omega)))
          · obtain ⟨_, hk1, hk2, _⟩ := hk; omega
        · refine Kd.V_mono (Kd.V_step HV4.out (fun k hk hlt => ?_)) (fun k hk => ?_)
          · have hk' : w5.heap.size ≤ k := by simpa [World.setCell] using hk
            exact hrest k (by omega) (by omega)
          · have hk' : w5.heap.size ≤ k := by simpa [World.setCell] using hk
            omega
        · exact HR8.out.under hbw HLT.out HSB.out
        · exact hKw8.under hbw (Nat.le_of_lt HLT.out) (Nat.le_refl _)
      | false =>
        go_wp2_with (first  | (go_at_call 46; refine HGET.out.mono ?_; rintro e w5 ⟨v3, rfl, hv3, hb5⟩; obtain ⟨A3, c3, rfl⟩ := Kd.R_slice hv3; have HR6 := Aside0.mk (fun (o : Obj) (a : Addr) => (HR4.out.later hb5).wrong o a); have hfb5 := blk_below (HK4.out.blk HFB3.out HFBR.out) hb5; have hre5 := blk_below (HK4.out.blk HRES3.out HBRR.out) hb5; obtain ⟨offx, vx, hvx, ex0, ex1, ex2, ex3, ex4, ex5⟩ := (HR4.out.later hb5).facts; clear hvx ex0 ex1 ex4 ex5; have hfb6 := fun (o : Obj) (u : Value) => blk_far (blk_alloc hfb5 o) (p := ⟨rb, 1, none⟩) HFBR.out u; have hre6 := fun (o : Obj) (u : Value) => blk_far (blk_alloc hre5 o) (p := ⟨rb, 1, none⟩) HBRR.out u; have g3 := fun (o : Obj) (u : Value) => blk_cell (hfb6 o u) 3; have g3z := fun (o : Obj) (u : Value) => blk_frozen (hfb6 o u) 3; have HFB6 := Aside0.mk hfb6; have HRE6 := Aside0.mk hre6; have HK6 := Aside0.mk (HK4.out.trans (KR.of_below (Nat.le_of_lt HR4.out.at_lt) hb5)); have HV3 := Aside0.mk hv3; have HB5 := Aside0.mk hb5; clear hfb5 hre5 hfb6 hre6 hv3 hb5) | (go_at_call 29; refine (HSOME.out ((HR6.out _ _).under (B := w1.heap.size) (Below.setCell (Below.refl _ _) (p := ⟨w1.heap.size, 3, none⟩) (Nat.le_refl _) _) HFL.out.1 HFL.out.2) _ HN.out.2 HL4.out).mono ?_; rintro e w8 ⟨v4, rfl, hv4, hr8, hk8⟩; obtain ⟨A4, c4, rfl⟩ := Kd.V_slice hv4; have hfb8 : w8.heap[w1.heap.size]? = some (.cells #[.string (wordAt ws 1), .bool ((wordAt ws 2).toList == [108, 105, 110, 107, 101, 100]), .string (wordAt ws 3), .slice A3 rs.length c3, .slice none 0 0] 40 (0, 0)) := hk8.blk (blk_put (HFB6.out _ _) 3 _ rfl) HFBR.out; have hre8 : w8.heap[w.heap.size]? = some (.cells #[.string ⟨#[]⟩, .bool false, .string ⟨#[]⟩, .slice none 0 0, .slice none 0 0] 40 (0, 0)) := hk8.blk (blk_far (HRE6.out _ _) (p := ⟨w1.heap.size, 3, none⟩) HBRF.out _) HBRR.out; have g4 := blk_cell hfb8 4; have g4z := blk_frozen hfb8 4; have hfb9 := fun (A : Option Addr) (n c : Nat) => blk_put hfb8 4 (.slice A n c) (cs' := #[.string (wordAt ws 1), .bool ((wordAt ws 2).toList == [108, 105, 110, 107, 101, 100]), .string (wordAt ws 3), .slice A3 rs.length c3, .slice A n c]) rfl; have hre9 := fun (u : Value) => blk_far hre8 (p := ⟨w1.heap.size, 4, none⟩) HBRF.out u; have kk0 := fun (A : Option Addr) (n c : Nat) => blk_cell (hfb9 A n c) 0; have kk1 := fun (A : Option Addr) (n c : Nat) => blk_cell (hfb9 A n c) 1; have kk2 := fun (A : Option Addr) (n c : Nat) => blk_cell (hfb9 A n c) 2; have kk3 := fun (A : Option Addr) (n c : Nat) => blk_cell (hfb9 A n c) 3; have kk4 := fun (A : Option Addr) (n c : Nat) => blk_cell (hfb9 A n c) 4; have kr0 := fun (u : Value) => blk_cell (hre9 u) 0; have kr1 := fun (u : Value) => blk_cell (hre9 u) 1; have kr2 := fun (u : Value) => blk_cell (hre9 u) 2; have kr3 := fun (u : Value) => blk_cell (hre9 u) 3; have kr4 := fun (u : Value) => blk_cell (hre9 u) 4; have kz0 := fun (u : Value) => blk_frozen (hre9 u) 0; have kz1 := fun (u : Value) => blk_frozen (hre9 u) 1; have kz2 := fun (u : Value) => blk_frozen (hre9 u) 2; have kz3 := fun (u : Value) => blk_frozen (hre9 u) 3; have kz4 := fun (u : Value) => blk_frozen (hre9 u) 4; have HFB8 := Aside0.mk hfb8; have HRE8 := Aside0.mk hre8; have HR8 := Aside0.mk hr8; have HK8 := Aside0.mk hk8; have HV4 := Aside0.mk hv4; clear hfb8 hre8 hfb9 hre9 hr8 hk8 hv4))
        have hfive := five_sets w8 w.heap.size w1.heap.size 40 #[] (.string (wordAt ws 1)) (.bool ((wordAt ws 2).toList == [108, 105, 110, 107, 101, 100])) (.string (wordAt ws 3)) (.slice A3 rs.length c3) (.slice A4 (someP (decB (wordAt ws 5)).fst l4 true).fst.length c4) _ _ _ _ _ (.slice A4 (someP (decB (wordAt ws 5)).fst l4 true).fst.length c4) HBRF.out (by have := HNE.out.2; omega) HRE8.out
        clear kk0 kk1 kk2 kk3 kk4 kr0 kr1 kr2 kr3 kr4 kz0 kz1 kz2 kz3 kz4 g4 g4z g3 g3z
        generalize ((((((w8.setCell _ _).setCell _ _).setCell _ _).setCell _ _).setCell _ _).setCell _ _) = Wf at hfive ⊢
        obtain ⟨hbl, hrest, hbw⟩ := hfive
        have r0 := (blk_cell hbl 0).trans rfl
        have r1 := (blk_cell hbl 1).trans rfl
        have r2 := (blk_cell hbl 2).trans rfl
        have r3 := (blk_cell hbl 3).trans rfl
        have r4 := (blk_cell hbl 4).trans rfl
        have hF := HF.out
        rw [HRW.out] at hF
        dsimp only at hF
        rw [HGG.out] at hF
        dsimp only at hF
        rw [show (e4 || !false) = true by cases e4 <;> rfl] at hF
        subst hF
        have hs1 := HNE.out.2
        have hs2 := HLT.out
        have hs3 : w1.heap.size < wr.heap.size := Nat.lt_of_lt_of_le (blk_lt HFB3.out) HK4.out.below.size
        have hs4 := HB5.out.size
        have hKw8 : KR rb w w8 := (((HK3.out.trans HK6.out).wrong (Nat.le_of_lt HLT.out) _ _).far (p := ⟨w1.heap.size, 3, none⟩) (by show w.heap.size ≤ w1.heap.size; omega) (by show rb ≤ w1.heap.size; omega) _).trans HK8.out
        refine bodyPost_ret (v := .agg #[.string (wordAt ws 1), .bool ((wordAt ws 2).toList == [108, 105, 110, 107, 101, 100]), .string (wordAt ws 3), .slice A3 rs.length c3, .slice A4 (someP (decB (wordAt ws 5)).fst l4 true).fst.length c4]) (by simp [results, Tryd.results30, go_sem, r0, r1, r2, r3, r4]) rfl ⟨_, _, rfl, ?_, ?_, ?_, ?_⟩
        · refine Kd.V_mono (Kd.V_step (Kd.R_V (base' := w.heap.size) (Kd.R_bound HV3.out)) (fun k hk hlt => ?_)) (fun k hk => ?_)
          · obtain ⟨_, hk1, hk2, _⟩ := hk
            refine (hrest k (by omega) (by omega)).trans ((HK8.out.keep k (by simp [World.setCell]; omega) (by omega)).trans ((Below.heap_setCell _ _ _ _ (by show k ≠ w1.heap.size; omega)).trans ((Below.heap_setCell _ _ _ _ (by show k ≠ rb; omega)).trans (Below.heap_alloc _ _ _ hk2))))
          · obtain ⟨_, hk1, hk2, _⟩ := hk; omega
        · refine Kd.V_mono (Kd.V_step HV4.out (fun k hk hlt => ?_)) (fun k hk => ?_)
          · have hk' : w5.heap.size + 1 ≤ k := by simpa [World.setCell] using hk
            exact hrest k (by omega) (by omega)
          · have hk' : w5.heap.size + 1 ≤ k := by simpa [World.setCell] using hk
            omega
        · exact HR8.out.under hbw HLT.out HSB.out
        · exact hKw8.under hbw (Nat.le_of_lt HLT.out) (Nat.le_refl _)
end Go.Proofs.YtgmddlbbmlneaaaDoor.PR

/- root.Put's two closures: a line of words into the builder; lines of one word each. -/
namespace Go.Proofs.YtgmddlbbmlneaaaDoor.PR
open Go.RowKit Go.Shelf Go.Proofs.YtgmddlbbmlneaaaDoorW.PrintWords Go.Proofs.YtgmddlbbmlneaaaDoorW.PrintLast Go.Proofs.YtgmddlbbmlneaaaDoorW.PrintMore
set_option linter.unusedVariables false

theorem builderAt_below {T e : TypeId} {B b : Nat} {p : Value} {bs : List Value} {w w' : World} (h : Lib.BuilderAtF T e B b p bs w) (hb : Below w.heap.size w w') : Lib.BuilderAtF T e B b p bs w' := by
  obtain ⟨hB, v, hv, hown, hne⟩ := h
  exact ⟨hB, v, (hb.block b (blk_lt hv)).trans hv, World.ownsRowF.kept hown (grown_of_below hb none) (by cases hq : v.ownBlock <;> simp), hne⟩
theorem builder_below {T e : TypeId} {B b : Nat} {bs : List Value} {w w' : World} (h : Lib.IsBuilderF T e B b bs w) (hb : Below w.heap.size w w') : Lib.IsBuilderF T e B b bs w' :=
  h.imp (builderAt_below · hb) (builderAt_below · hb)

def HoldsB (b : Nat) (l : List UInt8) (w : World) : Prop := Lib.IsBuilderF 48 5 b b (Lib.byteCells l) w
def KeptB (b : Nat) (w w' : World) : Prop := Below b w w' ∧ Lib.OthersKept 5 (some b) w w'
theorem KeptB.refl (b : Nat) (w : World) : KeptB b w w := ⟨Below.refl _ _, Lib.OthersKept.refl _ _ _⟩
theorem KeptB.trans {b : Nat} {w w1 w2 : World} (h : KeptB b w w1) (k : KeptB b w1 w2) : KeptB b w w2 := ⟨h.1.trans k.1, h.2.trans k.2⟩
theorem KeptB.below {b : Nat} {w w1 w2 : World} (h : KeptB b w w1) (hb : b ≤ w1.heap.size) (k : Below w1.heap.size w1 w2) : KeptB b w w2 := ⟨below_then h.1 hb k, Lib.OthersKept.below h.2 k⟩
theorem KeptB.blk {b k : Nat} {w w' : World} {o : Obj} (h : KeptB b w w') (hk : w.heap[k]? = some o) (hne : k ≠ b) (ho : ∀ c fz, o ≠ .cells c 5 fz) : w'.heap[k]? = some o := h.2 k o hk (by simpa using hne) ho
theorem HoldsB.below {b : Nat} {l : List UInt8} {w w' : World} (h : HoldsB b l w) (hb : Below w.heap.size w w') : HoldsB b l w' := builder_below h hb
theorem HoldsB.lt {b : Nat} {l : List UInt8} {w : World} (h : HoldsB b l w) : b < w.heap.size := by
  rcases h with h | h <;> exact h.lt

theorem ret_unit : Ending.returned (.tuple #[]) = Ending.returned (.tuple #[]) := rfl

set_option maxHeartbeats 1000000 in
set_option maxRecDepth 100000 in
theorem line_calls (b bk o c : Nat) (l : List UInt8) (ws : List ByteArray) (w : World) (hb : HoldsB b l w) (hc : ∀ (j : Nat) x, ws[j]? = some x → w.cell? ⟨bk, o + j, none⟩ = some (.string x)) (hbk : bk < w.heap.size)
    (hcap : ws.length ≤ c) (hw : ws.length ≤ 1000) (hl : (lineL ws).length ≤ 1000000000000) (hbs : l.length ≤ 1000000000000) :
    Calls Tryd.prog 17 #[.slice (some ⟨bk, o, none⟩) ws.length c, .pointer (some ⟨b, 0, none⟩)] w fun e w' => e = .returned (.tuple #[]) ∧ HoldsB b (l ++ lineL ws) w' ∧ KeptB b w w' := by
  have hjl : (Lib.join (ws.map (·.data.toList)) [32]).length ≤ 1000000000000 := by rw [lineL, List.length_append] at hl; omega
  have hj := Tryd.strings_Join bk o c ws ⟨#[32]⟩ w hc hbk (by omega) hcap (by show (Lib.join (ws.map (·.data.toList)) [32]).length ≤ _; omega)
  have hj' : Calls Tryd.prog 19 #[.slice (some ⟨bk, o, none⟩) ws.length c, .string ⟨#[32]⟩] w fun e w' => e = .returned (.string (ofL (Lib.join (ws.map (·.data.toList)) [32]))) ∧ Below w.heap.size w w' := hj
  have hsz : (ofL (Lib.join (ws.map (·.data.toList)) [32])).size ≤ 1000000000000 := by rw [size_ofL]; exact hjl
  have hdat : (ofL (Lib.join (ws.map (·.data.toList)) [32]) ++ (⟨#[10]⟩ : ByteArray)).data.toList = lineL ws := by
    have e : ∀ a b : ByteArray, (a ++ b).data.toList = a.data.toList ++ b.data.toList := fun a b => by simp
    rw [e, data_ofL]; rfl
  clear hj hc hl hjl
  generalize ofL (Lib.join (ws.map (·.data.toList)) [32]) = J at hj' hsz hdat
  have HD := Aside0.mk hdat
  have HB := Aside0.mk hb
  clear hdat hb
  go_enter Tryd.func17, Tryd.ntmps17
  go_wp2_with (first | (go_at_call 19; refine hj'.mono ?_; rintro e w1 ⟨rfl, hb1⟩; have hh := HB.out.below hb1; have hlt := hh.lt) | (go_at_call 18; refine (Tryd.Builder_WriteString_k b b (Lib.byteCells l) _ _ hh ?hq (by omega)).mono ?_; (case hq => rw [Lib.byteCells_length]; simp only [ByteArray.size_append, show (⟨#[10]⟩ : ByteArray).size = 1 from rfl]; omega); rintro e w2 ⟨rfl, hd2, hb2, hk2⟩))
  go_end0
  refine ⟨rfl, ?_, ?_⟩
  · refine .inr ?_
    rw [Lib.byteCells_append, ← HD.out, ← Lib.strCells_eq]
    exact hd2
  · exact ((KeptB.refl b w).below (Nat.le_of_lt HB.out.lt) hb1).trans ⟨hb2, hk2⟩

def lineObj (b : Nat) : Obj := .cells #[.func (.func 17) #[] #[.pointer (some ⟨b, 0, none⟩)]] 54 (0, 0)

set_option maxHeartbeats 1000000 in
set_option maxRecDepth 100000 in
theorem each_calls (b nl : Nat) (A : Option Addr) (c : Nat) (l : List UInt8) (ws : List ByteArray) (w : World) (hb : HoldsB b l w) (hnl : w.heap[nl]? = some (lineObj b)) (hne : nl ≠ b)
    (hr : ∀ W, Below b w W → Kd.C Kd.string W A ws.length ws) (hs : ∀ x ∈ ws, x.size ≤ 100) (hw : ws.length ≤ 1000) (hbs : l.length ≤ 900000000000) :
    Calls Tryd.prog 20 #[.slice A ws.length c, .pointer (some ⟨nl, 0, none⟩)] w fun e w' => e = .returned (.tuple #[]) ∧ HoldsB b (l ++ rowsL ws) w' ∧ KeptB b w w' := by
  have HB := Aside0.mk hb
  have HNL := Aside0.mk hnl
  have HR := Aside0.mk hr
  have HS := Aside0.mk hs
  clear hb hnl hr hs
  go_enter Tryd.func20, Tryd.ntmps20
  go_wp2
  go_loopw [7] (fun i wr => ∃ k : Nat, k ≤ ws.length ∧ i = .int .i64 k ∧ HoldsB b (l ++ rowsL (ws.take k)) wr ∧ KeptB b w wr) (fun i _ => ws.length - (intOf i).toNat)
  case atStart => exact ⟨0, Nat.zero_le _, rfl, by simpa [rowsL] using HB.out, KeptB.refl _ _⟩
  case round =>
    obtain ⟨k, hk, rfl, hh, hkp⟩ := hrel
    by_cases hlt : k < ws.length
    · obtain ⟨ad, e, hx⟩ := Kd.at_string (HR.out wr hkp.1) (k : Int) (by omega) (by omega)
      cases e
      rw [show rdOf ByteArray.empty ws (k : Int) = ws[k] by simp [rdOf, List.getD, hlt], Int.toNat_natCast] at hx
      have hsx := HS.out _ (List.getElem_mem hlt)
      have htx : rowsL (ws.take (k + 1)) = rowsL (ws.take k) ++ lineL [ws[k]] := by rw [List.take_succ_eq_append_getElem hlt, rowsL, List.flatMap_append]; simp [rowsL, lineL, Lib.join_one]
      have hlen : (rowsL (ws.take k)).length ≤ 101 * ws.length := by
        have h1 := rowsL_length (l := ws.take k) (n := 100) (fun x hx => HS.out x (List.mem_of_mem_take hx))
        rw [List.length_take] at h1
        have h2 : (100 + 1) * min k ws.length ≤ 101 * ws.length := Nat.mul_le_mul_left _ (Nat.min_le_right _ _)
        omega
      have HTX := Aside0.mk htx
      clear htx
      generalize ws[k] = x at hx hsx HTX
      have hll : (lineL [x]).length ≤ 102 := by have := lineL_length [x]; simp at this; omega
      have hcell : wr.cell? ⟨nl, 0, none⟩ = some (.func (.func 17) #[] #[.pointer (some ⟨b, 0, none⟩)]) := by
        have := hkp.blk HNL.out hne (by intro c fz h; simp [lineObj] at h)
        exact (blk_cell this 0).trans rfl
      have hline := fun o => line_calls b wr.heap.size 0 1 (l ++ rowsL (ws.take k)) [x] (wr.alloc o)
      have hcl := hline (.cells #[.string x] 9) (hh.below (below_alloc (Below.refl _ _) _)) (fun j y hy => by
        have := new_strs wr [x] 9 j y hy
        simpa using this) (by simp) (by simp) (by simp) (by omega) (by rw [List.length_append]; omega)
      have HCL := Aside0.mk hcl
      have HK := Aside0.mk hkp
      have HHL := Aside0.mk hh.lt
      clear hline hcl hkp hh hlen hll
      go_wp2_with (go_at_call 17; refine HCL.out.mono ?_; rintro e w2 ⟨rfl, hh2, hk2⟩)
      go_roundw
      case rel => exact ⟨k + 1, by omega, by go_num, by rw [HTX.out, ← List.append_assoc]; exact hh2, (HK.out.below (Nat.le_of_lt HHL.out) (below_alloc (Below.refl _ _) _)).trans hk2⟩
      case measure => simp [intOf]; omega
    · have hkl : k = ws.length := by omega
      subst hkl
      rw [List.take_length] at hh
      clear hlt
      go_wp2
      go_end0
      exact ⟨rfl, hh, hkp⟩
end Go.Proofs.YtgmddlbbmlneaaaDoor.PR

/- A region that draws its order: reads and quiet calls first (their callees may lay blocks), behind them, in one forced order, what writes: one walk in the text's order serves all orders. -/
namespace Go.Proofs.YtgmddlbbmlneaaaDoor.PR
open Go
section
variable {P : Program} {ops : Array Oper} {md : Region.Mode} {C : World → Prop}

def headQ (P : Program) (md : Region.Mode) (ops : Array Oper) (C : World → Prop) (n : Nat) (L : Array Bool → Act → Prop) : Nat → Array Bool → Act → Prop
  | 0, listed, a => L listed a
  | f + 1, listed, a => Region.ready md ops listed ≠ [] ∧ ∀ i ∈ Region.ready md ops listed, i < n ∧ qOp P ops C i (headQ P md ops C n L f (listed.setIfInBounds i true)) a

theorem wpAny_of_headQ {n g : Nat} {L : Array Bool → Act → Prop} {Q' : Exit → Act → World → Prop} (hL : ∀ listed a w, C w → L listed a → wpAny P md ops Q' g listed a w) :
    ∀ (f : Nat) (listed : Array Bool) (a : Act) (w : World), C w → headQ P md ops C n L f listed a → wpAny P md ops Q' (f + g) listed a w
  | 0, listed, a, w, hw, h => by rw [Nat.zero_add]; exact hL _ _ _ hw h
  | f + 1, listed, a, w, hw, h => by
    rw [show f + 1 + g = (f + g) + 1 by omega]
    exact ⟨fun h0 => absurd h0 h.1, fun i hi => wpOp_of_qOp hw (fun a' w' hw' h' => wpAny_of_headQ hL f _ a' w' hw' h') (h.2 i hi).2⟩

theorem headQ_first {n i : Nat} {oi : Oper} {v : Value} {L : Array Bool → Act → Prop} (hi : ops[i]? = some oi) (hsel : ∀ (j : Nat) (o : Oper) cs b, ops[j]? = some o → o.op ≠ .select cs b)
    (hs : Region.sinkB md ops n = true) (hc : Region.chainB md ops n = true) (hn : n < ops.size) (hin : i < n)
    (hdone : ∀ listed a, L listed a → ∀ j ∈ Region.ready md ops listed, n ≤ j) :
    ∀ (f : Nat) (listed : Array Bool) (a : Act), HeadInv md ops n listed →
      (∀ j oj, ops[j]? = some oj → j ≠ i → listed.getD j true = false → (∀ e ∈ oj.after, Region.binds md e = true → e.on ≠ i) → oi.apart ops oj = true) →
      i ∈ Region.ready md ops listed → YieldsIn P ops C oi v a →
      headQ P md ops C n L f (listed.setIfInBounds i true) (a.put oi.dst v) → headQ P md ops C n L (f + 1) listed a := by
  intro f
  induction f with
  | zero =>
    intro listed a inv _ hr hy H
    have hun := (mem_ready.1 hr).1
    refine ⟨fun h => (by rw [h] at hr; cases hr), fun j hj => ?_⟩
    have hjn : j < n := Nat.lt_of_not_le fun h => absurd hj (tail_waits hs hc hn inv _ i rfl hin hun j h)
    refine ⟨hjn, ?_⟩
    by_cases hji : j = i
    · subst hji; exact hy.qOp hi H
    · exact absurd (hdone _ _ H j (ready_mono hj hji)) (by omega)
  | succ f ih =>
    intro listed a inv hfree hr hy H
    have hun := (mem_ready.1 hr).1
    refine ⟨fun h => (by rw [h] at hr; cases hr), fun j hj => ?_⟩
    have hjn : j < n := Nat.lt_of_not_le fun h => absurd hj (tail_waits hs hc hn inv _ i rfl hin hun j h)
    refine ⟨hjn, ?_⟩
    by_cases hji : j = i
    · subst hji; exact hy.qOp hi H
    · have h1 := (H.2 j (ready_mono hj hji)).2
      obtain ⟨hjun, oj, hoj, hall⟩ := mem_ready.1 hj
      have hnot : ∀ e ∈ oj.after, Region.binds md e = true → e.on ≠ i := fun e he hb heq => by
        have h2 := hall e he hb
        rw [heq, getD_both hun] at h2
        cases h2
      have h2 := qOp_put hoj (hfree j oj hoj hji hjun hnot) (fun cs b => hsel i oi cs b hi) (fun cs b => hsel j oj cs b hoj) hy h1
      refine qOp_mono (fun a' h3 => ih (listed.setIfInBounds j true) a' (inv.set hj hjn) (fun k ok hk hki hu hno => hfree k ok hk hki ?_ hno) (ready_mono hr (Ne.symm hji)) h3.1 ?_) h2
      · by_cases hjk : j = k
        · subst hjk; exact hjun
        · rw [getD_set_ne true hjk] at hu; exact hu
      · rw [Array.setIfInBounds_comm _ _ hji]
        exact h3.2

theorem headQ_lex {n g : Nat} {Lq : Act → Prop} (hsel : Region.noSelect ops = true) (hs : Region.sinkB md ops n = true) (hc : Region.chainB md ops n = true) (hn : n < ops.size) :
    ∀ (l : List Oper) (k : Nat) (listed : Array Bool) (a : Act), (∀ j, j < l.length → l[j]? = ops[k + j]?) → k + l.length = n → HeadInv md ops n listed →
    Region.lexHead md ops g l.length k listed = true → wpQuiet P ops C Lq l a →
    headQ P md ops C n (fun listed' a' => Region.seqB md ops g n listed' = true ∧ Lq a') l.length listed a
  | [], k, listed, a, _, hk, _, hB, h => by
    have : k = n := by simpa using hk
    subst this
    exact ⟨by simpa [Region.lexHead] using hB, h⟩
  | o :: l, k, listed, a, hl, hk, inv, hB, h => by
    have h0 : ops[k]? = some o := by simpa using (hl 0 (by simp)).symm
    simp only [List.length_cons, Region.lexHead, Bool.and_eq_true] at hB
    obtain ⟨⟨hr, hf⟩, hB'⟩ := hB
    have hkn : k < n := by simp only [List.length_cons] at hk; omega
    have hr' : k ∈ Region.ready md ops listed := by simpa using hr
    have hst : qOp P ops C k (wpQuiet P ops C Lq l) a := by unfold qOp; simp only [h0]; exact h
    obtain ⟨v, hy, hK⟩ := yieldsIn_of_qOp h0 hst
    exact headQ_first h0 (Region.noSelect_spec hsel) hs hc hn hkn (fun listed' a' hL => seqB_ready hL.1) l.length listed a inv (Region.free_spec h0 hf) hr' hy
      (headQ_lex hsel hs hc hn l (k + 1) _ _ (fun j hj => by have := hl (j + 1) (by simp; omega); simpa [Nat.add_assoc, Nat.add_comm 1 j] using this) (by simp only [List.length_cons] at hk; omega) (inv.set hr' hkn) hB' hK)

theorem wp_region_quiet_tail {id : Nat} {Q : Exit → Act → World → Prop} {a : Act} {w : World} {l : List Oper} (n : Nat) (hm : P.follows .mixedOrders = true) (hB : Region.lexTailB .any l.toArray n = true) (hC : C { w with drawn := w.drawn + 1 })
    (h : wpQuiet P l.toArray C (fun a' => ∀ w', C w' → wpList P l.toArray Q (l.drop n) a' w') (l.take n) a) : (Code.region id l.toArray true).wp P Q a w := by
  simp only [Region.lexTailB, Bool.and_eq_true, decide_eq_true_eq] at hB
  obtain ⟨⟨⟨⟨hsel, hn⟩, hs⟩, hc⟩, hlex⟩ := hB
  have hn' : n < l.length := by simpa using hn
  have htl : (l.take n).length = n := by simp; omega
  have hdl : (l.drop n).length = l.toArray.size - n := by simp
  have inv0 : HeadInv .any l.toArray n (Array.replicate l.toArray.size false) :=
    ⟨by simp, fun j oj _ hl => (by rw [getD_replicate_false] at hl; cases hl), fun t _ ht => getD_in (by simpa using ht) (getD_replicate_false _ _)⟩
  have H := headQ_lex (md := .any) (g := l.toArray.size - n) hsel hs hc hn (l.take n) 0 _ a (fun j hj => by
    have hj' : j < n := by rw [htl] at hj; exact hj
    simp [hj']) (by simpa using htl) inv0 (by rw [htl]; exact hlex) h
  refine wp_region_any hm ?_
  have := wpAny_of_headQ (Q' := Q) (g := l.toArray.size - n) (fun listed a' w' hw' hL => by
    have := wpAny_of_seq (md := .any) (Q' := Q) (l.drop n) n listed a' w' (fun j => by simp [List.getElem?_drop]) (by rw [hdl]; exact hL.1) (hL.2 w' hw')
    rwa [hdl] at this) _ _ _ _ hC H
  rw [htl, show n + (l.toArray.size - n) = l.toArray.size by omega] at this
  exact this

theorem wp_region_below_tail {id : Nat} {Q : Exit → Act → World → Prop} {a : Act} {w : World} {l : List Oper} (n : Nat) (hm : P.follows .mixedOrders = true) (hB : Region.lexTailB .any l.toArray n = true)
    (h : wpQuiet P l.toArray (fun w' => ∃ p : Regrown, w' = Go.Sort.grow (redrawn w p.d) p.os) (fun a' => ∀ w', (∃ p : Regrown, w' = Go.Sort.grow (redrawn w p.d) p.os) → wpList P l.toArray Q (l.drop n) a' w') (l.take n) a) : (Code.region id l.toArray true).wp P Q a w :=
  wp_region_quiet_tail n hm hB ⟨⟨w.drawn + 1, #[]⟩, by rw [Go.Sort.grow_empty]; rfl⟩ h
end
end Go.Proofs.YtgmddlbbmlneaaaDoor.PR

/- root.Put: the lines of all that a net has. -/
namespace Go.Proofs.YtgmddlbbmlneaaaDoor.PR
open Go.RowKit Go.Shelf Go.Proofs.YtgmddlbbmlneaaaDoorW.PrintWords Go.Proofs.YtgmddlbbmlneaaaDoorW.PrintLast Go.Proofs.YtgmddlbbmlneaaaDoorW.PrintMore
set_option linter.unusedVariables false

theorem bytesOf_ints (T : List UInt8) : bytesOf ⟨T.toArray⟩ = intsOf T := by simp [bytesOf, intsOf]
theorem V_bytes (W : World) (base : Nat) (T : List UInt8) (hb : base ≤ W.heap.size) (hT : T.length ≤ 9223372036854775807) :
    Kd.V (Kd.int .u8) 5 (Lib.bytesWorld W 5 ⟨T.toArray⟩) base (fun k_ => base ≤ k_) (.slice (some ⟨W.heap.size, 0, none⟩) (⟨T.toArray⟩ : ByteArray).size (grownCap W (⟨T.toArray⟩ : ByteArray).size 0 5)) (intsOf T) := by
  have hsz : (⟨T.toArray⟩ : ByteArray).size = (intsOf T).length := by simp [ByteArray.size, intsOf]
  have hr := bytes_reads W 5 ⟨T.toArray⟩ (by rw [hsz]; simpa [intsOf] using hT)
  rw [bytesOf_ints] at hr
  refine ⟨some ⟨W.heap.size, 0, none⟩, grownCap W (⟨T.toArray⟩ : ByteArray).size 0 5, by rw [← hsz], by rw [← hsz]; exact grownCap_ge _ _ _ _, ?_⟩
  intro W' hW
  have hblk : W'.heap[W.heap.size]? = (Lib.bytesWorld W 5 ⟨T.toArray⟩).heap[W.heap.size]? := hW W.heap.size hb (by rw [Lib.bytesWorld_size]; omega)
  have hr' : ReadsInt W' .u8 (some ⟨W.heap.size, 0, none⟩) (intsOf T).length (intsOf T) := by
    rw [← hsz]
    refine ⟨hr.1, hr.2.1, fun hn => ?_⟩
    obtain ⟨ad, e, hc⟩ := hr.2.2 hn
    refine ⟨ad, e, fun j hj => ?_⟩
    have hb' : ad.block = W.heap.size := by cases e; rfl
    have hx := hc j hj
    have : W'.cell? (ad.add j) = (Lib.bytesWorld W 5 ⟨T.toArray⟩).cell? (ad.add j) := by
      unfold World.cell?
      rw [add_block, hb', hblk]
    rw [this]; exact hx
  exact Kd.C_of_reads (d := (0 : Int)) (h1 := fun _ => rfl) hr'

def rootObj (a : Int) (A1 : Option Addr) (n1 c1 : Nat) (A2 : Option Addr) (n2 c2 : Nat) : Obj := .cells #[.int .i64 a, .slice A1 n1 c1, .slice A2 n2 c2] 25 (0, 0)
structure St (b nl bx : Nat) (ro : Obj) (by_ : Nat) (fo : Obj) (w0 : World) (l : List UInt8) (W : World) : Prop where
  holds : HoldsB b l W
  line : W.heap[nl]? = some (lineObj b)
  box : W.heap[bx]? = some ro
  below : Below w0.heap.size w0 W
  base : w0.heap.size ≤ b
  nb : nl ≠ b
  xb : bx ≠ b
  ro' : ∀ c fz, ro ≠ .cells c 5 fz
  box2 : W.heap[by_]? = some fo
  yb : by_ ≠ b
  fo' : ∀ c fz, fo ≠ .cells c 5 fz
theorem St.kept {b nl bx : Nat} {ro : Obj} {by_ : Nat} {fo : Obj} {w0 : World} {l l' : List UInt8} {W W' : World} (h : St b nl bx ro by_ fo w0 l W) (hk : KeptB b W W') (hh : HoldsB b l' W') : St b nl bx ro by_ fo w0 l' W' :=
  ⟨hh, hk.blk h.line h.nb (by intro c fz h; simp [lineObj] at h), hk.blk h.box h.xb h.ro', h.below.trans (Below.mono hk.1 h.base), h.base, h.nb, h.xb, h.ro', hk.blk h.box2 h.yb h.fo', h.yb, h.fo'⟩
theorem St.later {b nl bx : Nat} {ro : Obj} {by_ : Nat} {fo : Obj} {w0 : World} {l : List UInt8} {W W' : World} (h : St b nl bx ro by_ fo w0 l W) (hb : Below W.heap.size W W') : St b nl bx ro by_ fo w0 l W' :=
  ⟨h.holds.below hb, (hb.block _ (blk_lt h.line)).trans h.line, (hb.block _ (blk_lt h.box)).trans h.box, below_step h.below hb, h.base, h.nb, h.xb, h.ro', (hb.block _ (blk_lt h.box2)).trans h.box2, h.yb, h.fo'⟩

theorem St.swap {b nl bx : Nat} {ro : Obj} {by_ : Nat} {fo : Obj} {w0 : World} {l : List UInt8} {W : World} (h : St b nl bx ro by_ fo w0 l W) (o : Obj) (ho : ∀ c fz, o ≠ .cells c 5 fz) : St b nl bx ro W.heap.size o w0 l (W.alloc o) :=
  let h2 := h.later (below_alloc (Below.refl _ _) o)
  ⟨h2.holds, h2.line, h2.box, h2.below, h2.base, h2.nb, h2.xb, h2.ro', heap_alloc_new W o, by have := h.holds.lt; omega, ho⟩
theorem St.back {b nl bx : Nat} {ro : Obj} {by_ : Nat} {fo : Obj} {w0 : World} {l : List UInt8} {W : World} (h : St b nl bx ro by_ fo w0 l W) : St b nl bx ro bx ro w0 l W :=
  ⟨h.holds, h.line, h.box, h.below, h.base, h.nb, h.xb, h.ro', h.box, h.xb, h.ro'⟩
theorem St.text {b nl bx : Nat} {ro : Obj} {by_ : Nat} {fo : Obj} {w0 : World} {l : List UInt8} {W : World} (h : St b nl bx ro by_ fo w0 l W) (hG : Gl w0) (n : Int) (h0 : 0 ≤ n) (h1 : n ≤ 9223372036854775807) (d : Nat) (os : Array Obj) :
    Calls Tryd.prog 21 #[.int .i64 n] (Go.Sort.grow (redrawn W d) os) fun e w'' => e = .returned (.string (textB n)) ∧ ∃ p : Regrown, w'' = Go.Sort.grow (redrawn W p.d) p.os :=
  Calls.regrown_of (num_Text.calls n (textB n) _ (Gl_below (Gl_below hG h.below) (below_regrown W d os)) (by rw [num_Text.f, if_pos (by omega)]))
theorem St.line_cell {b nl bx : Nat} {ro : Obj} {by_ : Nat} {fo : Obj} {w0 : World} {l : List UInt8} {W : World} (h : St b nl bx ro by_ fo w0 l W) (d : Nat) (os : Array Obj) :
    (Go.Sort.grow (redrawn W d) os).cell? ⟨nl, 0, none⟩ = some (.func (.func 17) #[] #[.pointer (some ⟨b, 0, none⟩)]) := cell_regrown ((blk_cell h.line 0).trans rfl) d os
theorem St.line_step {b nl bx : Nat} {ro : Obj} {by_ : Nat} {fo : Obj} {w0 : World} {l : List UInt8} {W : World} (h : St b nl bx ro by_ fo w0 l W) (ws : List ByteArray) (hw : ws.length ≤ 1000) (hl : (lineL ws).length ≤ 1000000000000) (hbs : l.length ≤ 1000000000000) :
    Calls Tryd.prog 17 #[.slice (some ⟨W.heap.size, 0, none⟩) ws.length ws.length, .pointer (some ⟨b, 0, none⟩)] (W.alloc (.cells (ws.map Value.string).toArray 9)) fun e w' => e = .returned (.tuple #[]) ∧ St b nl bx ro by_ fo w0 (l ++ lineL ws) w' :=
  let hA := h.later (below_alloc (Below.refl _ _) (.cells (ws.map Value.string).toArray 9))
  (line_calls b W.heap.size 0 ws.length l ws _ hA.holds (fun j x hx => by rw [Nat.zero_add]; exact new_strs W ws 9 j x hx) (by simp) (Nat.le_refl _) hw hl hbs).mono fun e w' ⟨he, hh, hk⟩ => ⟨he, hA.kept hk hh⟩
theorem St.each_step {b nl bx : Nat} {ro : Obj} {by_ : Nat} {fo : Obj} {w0 : World} {l : List UInt8} {W : World} (h : St b nl bx ro by_ fo w0 l W) (A : Option Addr) (c : Nat) (ws : List ByteArray) (hr : Kd.C Kd.string w0 A ws.length ws) (hs : ∀ x ∈ ws, x.size ≤ 100) (hw : ws.length ≤ 1000) (hbs : l.length ≤ 900000000000) :
    Calls Tryd.prog 20 #[.slice A ws.length c, .pointer (some ⟨nl, 0, none⟩)] W fun e w' => e = .returned (.tuple #[]) ∧ St b nl bx ro by_ fo w0 (l ++ rowsL ws) w' :=
  (each_calls b nl A c l ws W h.holds h.line h.nb (fun W2 hb => Kd.C_below hr (h.below.trans (Below.mono hb h.base))) hs hw hbs).mono fun e w' ⟨he, hh, hk⟩ => ⟨he, h.kept hk hh⟩
theorem St.write_step {b nl bx : Nat} {ro : Obj} {by_ : Nat} {fo : Obj} {w0 : World} {l : List UInt8} {W : World} (h : St b nl bx ro by_ fo w0 l W) (s : ByteArray) (hs : s.size ≤ 1000000000000) (hbs : l.length ≤ 1000000000000) :
    Calls Tryd.prog 18 #[.pointer (some ⟨b, 0, none⟩), .string s] W fun e w' => e = .returned (.tuple #[.int .i64 s.size, .nilIface]) ∧ St b nl bx ro by_ fo w0 (l ++ s.data.toList) w' :=
  (Tryd.Builder_WriteString_k b b (Lib.byteCells l) s W h.holds (by rw [Lib.byteCells_length]; omega) (Nat.le_of_lt h.holds.lt)).mono fun e w' ⟨he, hd, hb, hk⟩ => ⟨he, h.kept ⟨hb, hk⟩ (.inr (by rw [Lib.byteCells_append, ← Lib.strCells_eq]; exact hd))⟩

set_option maxHeartbeats 2000000 in
set_option maxRecDepth 100000 in
theorem root_Put.calls (a0_0 : Int) (A0_1 : Option Addr) (c0_1 : Nat) (l0_1 : List ByteArray) (A0_2 : Option Addr) (c0_2 : Nat) (l0_2 : List (S40)) (r1 : List Int) (r2 : Bool) (w : World) (hG : Gl w) (hr0_1 : Kd.C Kd.string w A0_1 l0_1.length l0_1) (hc0_1 : l0_1.length ≤ c0_1) (hr0_2 : Kd.C k40 w A0_2 l0_2.length l0_2) (hc0_2 : l0_2.length ≤ c0_2) (h : root_Put.f a0_0 l0_1 l0_2 = some (r1, r2)) :
    Calls Tryd.prog 10 #[.agg #[.int .i64 a0_0, .slice A0_1 l0_1.length c0_1, .slice A0_2 l0_2.length c0_2]] w fun e w' => ∃ v0_ : Value, e = .returned (.tuple #[v0_, .bool r2]) ∧ Kd.V (Kd.int .u8) 5 w' w.heap.size (fun k_ => (w.heap.size ≤ k_)) v0_ r1 ∧ Below w.heap.size w w' := by
  unfold root_Put.f at h
  split at h
  case isFalse => exact absurd h (by simp)
  rename_i hall
  have hbx : (w.alloc (rootObj a0_0 A0_1 l0_1.length c0_1 A0_2 l0_2.length c0_2)).heap[w.heap.size]? = some (rootObj a0_0 A0_1 l0_1.length c0_1 A0_2 l0_2.length c0_2) := heap_alloc_new w _
  have hb0 : Below w.heap.size w (w.alloc (rootObj a0_0 A0_1 l0_1.length c0_1 A0_2 l0_2.length c0_2)) := below_alloc (Below.refl _ _) _
  have hri := root_Right.calls a0_0 A0_1 c0_1 l0_1 A0_2 c0_2 l0_2 (rootB a0_0 l0_1 l0_2) _ (Gl_below hG hb0) (Kd.C_below hr0_1 hb0) hc0_1 (Kd.C_below hr0_2 hb0) hc0_2 (by rw [root_Right.f, if_pos hall])
  have hz0 := blk_cell hbx 0
  have hz1 := blk_cell hbx 1
  have hz2 := blk_cell hbx 2
  have HG := Aside0.mk hG
  have HR1 := Aside0.mk hr0_1
  have HC1 := Aside0.mk hc0_1
  have HR2 := Aside0.mk hr0_2
  have HC2 := Aside0.mk hc0_2
  have HRES := Aside0.mk (Option.some.inj h)
  have HBX := Aside0.mk hbx
  have HB0 := Aside0.mk hb0
  have HRI := Aside0.mk hri
  have HOK := Aside0.mk (show l0_2.all okFork = true by simp only [okRoot, Bool.and_eq_true] at hall; exact hall.2)
  clear h hall hG hr0_1 hc0_1 hr0_2 hc0_2 hri hbx hb0
  cases hB : rootB a0_0 l0_1 l0_2 with
  | false =>
    have hr : r1 = [] ∧ r2 = false := by have := HRES.out; rw [if_neg (by rw [hB]; simp)] at this; cases this; exact ⟨rfl, rfl⟩
    obtain ⟨rfl, rfl⟩ := hr
    rw [hB] at HRI
    clear HRES hB hz0 hz1 hz2
    go_enter Tryd.func10, Tryd.ntmps10
    go_wp2_with (go_at_call 11; refine HRI.out.mono ?_; rintro e w' ⟨rfl, hb'⟩)
    go_ret2
    exact ⟨_, rfl, Kd.V_nil _ _ _ _ _, below_step HB0.out hb'⟩
  | true =>
    rw [hB] at HRI
    go_enter Tryd.func10, Tryd.ntmps10
    go_wp2_with (go_at_call 11; refine HRI.out.mono ?_; rintro e w1 ⟨rfl, hb1⟩)
    have hpar := rootB_parts hB
    obtain ⟨hp0, hp1, hp2, hp3, hp4⟩ := hpar
    have hr : r1 = intsOf (rootText a0_0 l0_1 l0_2) ∧ r2 = true := by have := HRES.out; rw [if_pos hB] at this; cases this; exact ⟨rfl, rfl⟩
    obtain ⟨h24, h64⟩ := hexName_all hp2
    have HR := Aside0.mk hr
    have HP4 := Aside0.mk hp4
    have H64 := Aside0.mk h64
    clear hr HRES hB hp4 h64
    have hst0 : St w1.heap.size (w1.heap.size + 1) w.heap.size (rootObj a0_0 A0_1 l0_1.length c0_1 A0_2 l0_2.length c0_2) w.heap.size (rootObj a0_0 A0_1 l0_1.length c0_1 A0_2 l0_2.length c0_2) w [] ((w1.alloc (.cells #[.pointer none, .slice none 0 0] 48)).alloc (lineObj w1.heap.size)) := by
      have hbb := below_alloc (Below.refl w1.heap.size w1) (.cells #[.pointer none, .slice none 0 0] 48)
      have hbb2 := below_alloc (Below.refl _ (w1.alloc (.cells #[.pointer none, .slice none 0 0] 48))) (lineObj w1.heap.size)
      have hltx := blk_lt HBX.out
      have hsz1 := hb1.size
      refine ⟨builder_below (Lib.IsBuilderF.of (builder_new w1.heap.size w1 (Nat.le_refl _))) hbb2, ?_, (hbb2.block _ (by have := hbb.size; omega)).trans ((hbb.block _ (by omega)).trans ((hb1.block _ hltx).trans HBX.out)), below_step (below_step (below_step HB0.out hb1) hbb) hbb2, by have := HB0.out.size; omega, by omega, by omega, by intro c fz h; simp [rootObj] at h, (hbb2.block _ (by have := hbb.size; omega)).trans ((hbb.block _ (by omega)).trans ((hb1.block _ hltx).trans HBX.out)), by omega, by intro c fz h; simp [rootObj] at h⟩
      have := heap_alloc_new (w1.alloc (.cells #[.pointer none, .slice none 0 0] 48)) (lineObj w1.heap.size)
      rwa [World.size_alloc] at this
    change Code.wp _ _ _ _ ((w1.alloc (.cells #[.pointer none, .slice none 0 0] 48)).alloc (lineObj w1.heap.size))
    generalize (w1.alloc (.cells #[.pointer none, .slice none 0 0] 48)).alloc (lineObj w1.heap.size) = W at hst0 ⊢
    generalize w1.heap.size + 1 = nl at hst0 ⊢
    generalize w1.heap.size = b at hst0 ⊢
    clear hb1 hz0 hz1 hz2
    -- what is asked again and again
    have hT : ∀ {by_ : Nat} {fo : Obj} {W : World} {l : List UInt8}, St b nl w.heap.size (rootObj a0_0 A0_1 l0_1.length c0_1 A0_2 l0_2.length c0_2) by_ fo w l W → ∀ (n : Int), 0 ≤ n → n ≤ 9223372036854775807 → Calls Tryd.prog 21 #[.int .i64 n] W fun e w' => e = .returned (.string (textB n)) ∧ St b nl w.heap.size (rootObj a0_0 A0_1 l0_1.length c0_1 A0_2 l0_2.length c0_2) by_ fo w l w' :=
      fun h n h0 h1 => (num_Text.calls n (textB n) _ (Gl_below HG.out h.below) (by rw [num_Text.f, if_pos (by omega)])).mono fun e w' ⟨he, hb⟩ => ⟨he, h.later hb⟩
    have HT := Aside0.mk @hT
    clear hT
    have t0 := textB_size a0_0 hp0 (by omega)
    have t1 := textB_size (l0_1.length : Int) (by omega) (by omega)
    have t2 := textB_size (l0_2.length : Int) (by omega) (by omega)
    have e0 := lineL_length [⟨#[110, 101, 116]⟩, textB a0_0]
    have e1 := lineL_length [⟨#[112, 111, 111, 108]⟩, textB l0_1.length]
    have e2 := lineL_length [⟨#[102, 111, 114, 107, 115]⟩, textB l0_2.length]
    have e3 := rowsL_length (l := l0_1) (n := 64) (fun x hx => Nat.le_of_eq (H64.out x hx))
    simp only [List.map_cons, List.map_nil, List.sum_cons, List.sum_nil, List.length_cons, List.length_nil, show (⟨#[110, 101, 116]⟩ : ByteArray).size = 3 from rfl, show (⟨#[112, 111, 111, 108]⟩ : ByteArray).size = 4 from rfl, show (⟨#[102, 111, 114, 107, 115]⟩ : ByteArray).size = 5 from rfl] at e0 e1 e2
    have e0' : (lineL [⟨#[110, 101, 116]⟩, textB a0_0]).length ≤ 1000 := by omega
    have e1' : (lineL [⟨#[112, 111, 111, 108]⟩, textB l0_1.length]).length ≤ 1000 := by omega
    have e2' : (lineL [⟨#[102, 111, 114, 107, 115]⟩, textB l0_2.length]).length ≤ 1000 := by omega
    have e3' : (rowsL l0_1).length ≤ 10000 := by omega
    clear e0 e1 e2 e3 t0 t1 t2
    have hd1 := hst0.later (below_drew (Below.refl W.heap.size W))
    have z1_0 := (blk_cell hst0.line 0).trans rfl
    have z1_1 := (blk_cell hst0.box 0).trans rfl
    go_region_held3 (fun w' => w'.cell? ⟨nl, 0, none⟩ = some (.func (.func 17) #[] #[.pointer (some ⟨b, 0, none⟩)]) ∧ w'.cell? ⟨w.heap.size, 0, none⟩ = some (.int .i64 a0_0)) (first | exact ⟨z1_0, z1_1⟩ | exact ⟨y1_0, y1_1⟩ | exact ⟨v1_0 _, v1_1 _⟩ | exact ⟨x1_0, x1_1⟩ | go_keep) (first | (go_at_call 21; refine (HT.out hd1 a0_0 hp0 (by omega)).mono ?_; rintro e wa1 ⟨rfl, ha1⟩; have y1_0 := (blk_cell ha1.line 0).trans rfl; have y1_1 := (blk_cell ha1.box 0).trans rfl; have v1_0 := fun o => pw_cell_below (below_alloc (Below.refl wa1.heap.size wa1) o) y1_0; have v1_1 := fun o => pw_cell_below (below_alloc (Below.refl wa1.heap.size wa1) o) y1_1) | (go_at_call 17; refine (ha1.line_step [⟨#[110, 101, 116]⟩, textB a0_0] (by simp) (by omega) (by simp)).mono ?_; rintro e w1 ⟨rfl, hst1⟩; have x1_0 := (blk_cell hst1.line 0).trans rfl; have x1_1 := (blk_cell hst1.box 0).trans rfl))
    clear hd1 ha1 hst0
    go_wp2
    have hd2 := hst1.later (below_drew (Below.refl w1.heap.size w1))
    have z2_0 := (blk_cell hst1.line 0).trans rfl
    have z2_1 := (blk_cell hst1.box 1).trans rfl
    go_region_held3 (fun w' => w'.cell? ⟨nl, 0, none⟩ = some (.func (.func 17) #[] #[.pointer (some ⟨b, 0, none⟩)]) ∧ w'.cell? ⟨w.heap.size, 1, none⟩ = some (.slice A0_1 l0_1.length c0_1)) (first | exact ⟨z2_0, z2_1⟩ | exact ⟨y2_0, y2_1⟩ | exact ⟨v2_0 _, v2_1 _⟩ | exact ⟨x2_0, x2_1⟩ | go_keep) (first | (go_at_call 21; refine (HT.out hd2 (l0_1.length : Int) (by omega) (by omega)).mono ?_; rintro e wa2 ⟨rfl, ha2⟩; have y2_0 := (blk_cell ha2.line 0).trans rfl; have y2_1 := (blk_cell ha2.box 1).trans rfl; have v2_0 := fun o => pw_cell_below (below_alloc (Below.refl wa2.heap.size wa2) o) y2_0; have v2_1 := fun o => pw_cell_below (below_alloc (Below.refl wa2.heap.size wa2) o) y2_1) | (go_at_call 17; refine (ha2.line_step [⟨#[112, 111, 111, 108]⟩, textB l0_1.length] (by simp) (by omega) (by simp only [List.length_append, List.length_nil]; omega)).mono ?_; rintro e w2 ⟨rfl, hst2⟩; have x2_0 := (blk_cell hst2.line 0).trans rfl; have x2_1 := (blk_cell hst2.box 1).trans rfl))
    clear hd2 ha2 hst1
    have q1 := (blk_cell hst2.box 1).trans rfl
    go_wp2_with (go_at_call 20; refine (hst2.each_step A0_1 c0_1 l0_1 HR1.out (fun x hx => by have := H64.out x hx; omega) (by omega) (by simp only [List.length_append, List.length_nil]; omega)).mono ?_; rintro e w3 ⟨rfl, hst3⟩)
    clear hst2 q1
    have hd4 := hst3.later (below_drew (Below.refl w3.heap.size w3))
    have z4_0 := (blk_cell hst3.line 0).trans rfl
    have z4_1 := (blk_cell hst3.box 2).trans rfl
    go_region_held3 (fun w' => w'.cell? ⟨nl, 0, none⟩ = some (.func (.func 17) #[] #[.pointer (some ⟨b, 0, none⟩)]) ∧ w'.cell? ⟨w.heap.size, 2, none⟩ = some (.slice A0_2 l0_2.length c0_2)) (first | exact ⟨z4_0, z4_1⟩ | exact ⟨y4_0, y4_1⟩ | exact ⟨v4_0 _, v4_1 _⟩ | exact ⟨x4_0, x4_1⟩ | go_keep) (first | (go_at_call 21; refine (HT.out hd4 (l0_2.length : Int) (by omega) (by omega)).mono ?_; rintro e wa4 ⟨rfl, ha4⟩; have y4_0 := (blk_cell ha4.line 0).trans rfl; have y4_1 := (blk_cell ha4.box 2).trans rfl; have v4_0 := fun o => pw_cell_below (below_alloc (Below.refl wa4.heap.size wa4) o) y4_0; have v4_1 := fun o => pw_cell_below (below_alloc (Below.refl wa4.heap.size wa4) o) y4_1) | (go_at_call 17; refine (ha4.line_step [⟨#[102, 111, 114, 107, 115]⟩, textB l0_2.length] (by simp) (by omega) (by simp only [List.length_append, List.length_nil]; omega)).mono ?_; rintro e w4 ⟨rfl, hst4⟩; have x4_0 := (blk_cell hst4.line 0).trans rfl; have x4_1 := (blk_cell hst4.box 2).trans rfl))
    clear hd4 ha4 hst3
    have hst5 : St b nl w.heap.size (rootObj a0_0 A0_1 l0_1.length c0_1 A0_2 l0_2.length c0_2) w.heap.size (rootObj a0_0 A0_1 l0_1.length c0_1 A0_2 l0_2.length c0_2) w (rootHead a0_0 l0_1 l0_2.length) w4 := hst4
    clear hst4
    have hhl : (rootHead a0_0 l0_1 l0_2.length).length ≤ 20000 := by simp only [rootHead, List.length_append]; omega
    clear e0' e1' e2' e3'
    have q2 := (blk_cell hst5.box 2).trans rfl
    go_wp2
    clear q2
    go_loopw [44] (fun i wr => ∃ k : Nat, k ≤ l0_2.length ∧ i = .int .i64 k ∧ St b nl w.heap.size (rootObj a0_0 A0_1 l0_1.length c0_1 A0_2 l0_2.length c0_2) w.heap.size (rootObj a0_0 A0_1 l0_1.length c0_1 A0_2 l0_2.length c0_2) w (rootHead a0_0 l0_1 l0_2.length ++ (l0_2.take k).flatMap forkText) wr) (fun i _ => l0_2.length - (intOf i).toNat)
    case atStart => exact ⟨0, Nat.zero_le _, rfl, by simpa using hst5⟩
    case round =>
      obtain ⟨k, hk, rfl, hst⟩ := hrel
      clear hst5
      by_cases hlt : k < l0_2.length
      · obtain ⟨ad, A3, c3, A4, c4, e, hx0, hx1, hx2, hx3, hx4, hl3, hi3, hl4, hi4⟩ := at_T40 HR2.out (k : Int) (by omega) (by omega)
        cases e
        have hrd : rd_T40 l0_2 (k : Int) = l0_2[k] := by simp [rd_T40, List.getD, hlt]
        simp only [hrd, Int.toNat_natCast] at hx0 hx1 hx2 hx3 hx4 hl3 hi3 hl4 hi4
        have hpx := forkB_parts (HP4.out _ (List.getElem_mem hlt))
        have hokx : okFork l0_2[k] = true := List.all_eq_true.1 HOK.out _ (List.getElem_mem hlt)
        have htx : (l0_2.take (k + 1)).flatMap forkText = (l0_2.take k).flatMap forkText ++ forkText l0_2[k] := by rw [List.take_succ_eq_append_getElem hlt, List.flatMap_append]; simp
        have hlen : ((l0_2.take k).flatMap forkText).length ≤ 20000 * 16 := by
          have h1 := forksText_length (l0_2.take k) (fun x hx => HP4.out x (List.mem_of_mem_take hx))
          rw [List.length_take] at h1
          have h2 : 20000 * min k l0_2.length ≤ 20000 * 16 := Nat.mul_le_mul_left _ (by omega)
          omega
        have HTX := Aside0.mk htx
        clear htx hrd
        generalize l0_2[k] = x at hx0 hx1 hx2 hx3 hx4 hl3 hi3 hl4 hi4 HTX hpx hokx
        obtain ⟨s0, s2, hrf, hpk⟩ := hpx
        obtain ⟨h24x, h64x⟩ := hexName_all hpk
        obtain ⟨h64r, hszr⟩ := refsB_sizes hrf
        have hrl := refsText_length x.f3 hszr
        have hx0 := pw_cell_below hst.below hx0
        have hx1 := pw_cell_below hst.below hx1
        have hx2 := pw_cell_below hst.below hx2
        have hx3 := pw_cell_below hst.below hx3
        have hx4 := pw_cell_below hst.below hx4
        have hpre : (rootHead a0_0 l0_1 l0_2.length ++ (l0_2.take k).flatMap forkText).length ≤ 400000 := by rw [List.length_append]; omega
        have u3 := textB_size (x.f3.length : Int) (by omega) (by omega)
        have u4 := textB_size (x.f4.length : Int) (by omega) (by omega)
        have ehd := lineL_length [⟨#[102, 111, 114, 107]⟩, x.f0, linkS x.f1, x.f2, textB x.f3.length, textB x.f4.length]
        have els : (linkS x.f1).size ≤ 6 := by cases x.f1 <;> decide
        simp only [List.map_cons, List.map_nil, List.sum_cons, List.sum_nil, List.length_cons, List.length_nil, show (⟨#[102, 111, 114, 107]⟩ : ByteArray).size = 4 from rfl] at ehd
        have ehd' : (lineL [⟨#[102, 111, 114, 107]⟩, x.f0, linkS x.f1, x.f2, textB x.f3.length, textB x.f4.length]).length ≤ 1000 := by omega
        clear u3 u4 ehd els hlen
        have hallr : x.f3.all okRef = true := by
          simp only [okFork, Bool.and_eq_true, decide_eq_true_eq] at hokx
          exact hokx.1.1.2
        have hrput : ∀ {W : World}, Below w.heap.size w W → Calls Tryd.prog 22 #[.slice A3 x.f3.length c3] W fun e w' => e = .returned (.tuple #[.string (ofL (refsText x.f3)), .bool true]) ∧ Below W.heap.size W w' :=
          fun hb => refs_Put.calls A3 c3 x.f3 _ _ _ (Gl_below HG.out hb) (Kd.C_below hi3 hb) hl3 (by rw [refs_Put.f, if_pos hallr, if_pos hrf])
        have HRP := Aside0.mk @hrput
        have HI4 := Aside0.mk hi4
        have H64X := Aside0.mk h64x
        have hszt : (ofL (refsText x.f3)).size ≤ 10000 := by rw [size_ofL]; omega
        clear hrput hallr hokx hrf hpk hszr h64x hrl hi3 hl3 hi4 hl4
        have hsw := hst.swap (.cells #[.string x.f0, .bool x.f1, .string x.f2, .slice A3 x.f3.length c3, .slice A4 x.f4.length c4] 40) (by intro c fz h; simp at h)
        have HSW := Aside0.mk hsw
        clear hsw hst
        cases hlk : x.f1 with
        | true =>
          rw [hlk] at hx1 HSW ehd'
          have htx : forkText x = lineL [⟨#[102, 111, 114, 107]⟩, x.f0, ⟨#[108, 105, 110, 107, 101, 100]⟩, x.f2, textB x.f3.length, textB x.f4.length] ++ refsText x.f3 ++ rowsL x.f4 := by rw [forkText, forkHead, hlk]; rfl
          have ehd2 : (lineL [⟨#[102, 111, 114, 107]⟩, x.f0, ⟨#[108, 105, 110, 107, 101, 100]⟩, x.f2, textB x.f3.length, textB x.f4.length]).length ≤ 1000 := ehd'
          rw [htx] at HTX
          clear htx ehd' hlk
          go_wp2
          have hsw := HSW.out
          have hk0 := (blk_cell hsw.box2 0).trans rfl
          have hk1 := (blk_cell hsw.box2 1).trans rfl
          have hk2 := (blk_cell hsw.box2 2).trans rfl
          have hk3 := (blk_cell hsw.box2 3).trans rfl
          have hk4 := (blk_cell hsw.box2 4).trans rfl
          generalize wr.alloc (.cells #[.string x.f0, .bool true, .string x.f2, .slice A3 x.f3.length c3, .slice A4 x.f4.length c4] 40) = W5 at hsw hk0 hk1 hk2 hk3 hk4 ⊢
          clear hx0 hx1 hx2 hx3 hx4 HSW
          have hd6 := hsw.later (below_drew (Below.refl W5.heap.size W5))
          have z6_0 := (blk_cell hsw.line 0).trans rfl
          have z6_1 := (blk_cell hsw.box2 0).trans rfl
          have z6_2 := (blk_cell hsw.box2 2).trans rfl
          have z6_3 := (blk_cell hsw.box2 3).trans rfl
          have z6_4 := (blk_cell hsw.box2 4).trans rfl
          go_region_held3 (fun w' => w'.cell? ⟨nl, 0, none⟩ = some (.func (.func 17) #[] #[.pointer (some ⟨b, 0, none⟩)]) ∧ w'.cell? ⟨wr.heap.size, 0, none⟩ = some (.string x.f0) ∧ w'.cell? ⟨wr.heap.size, 2, none⟩ = some (.string x.f2) ∧ w'.cell? ⟨wr.heap.size, 3, none⟩ = some (.slice A3 x.f3.length c3) ∧ w'.cell? ⟨wr.heap.size, 4, none⟩ = some (.slice A4 x.f4.length c4)) (first | exact ⟨z6_0, z6_1, z6_2, z6_3, z6_4⟩ | exact ⟨u0_6_0, u0_6_1, u0_6_2, u0_6_3, u0_6_4⟩ | exact ⟨v0_6_0 _, v0_6_1 _, v0_6_2 _, v0_6_3 _, v0_6_4 _⟩ | exact ⟨u1_6_0, u1_6_1, u1_6_2, u1_6_3, u1_6_4⟩ | exact ⟨v1_6_0 _, v1_6_1 _, v1_6_2 _, v1_6_3 _, v1_6_4 _⟩ | exact ⟨y0_6_0, y0_6_1, y0_6_2, y0_6_3, y0_6_4⟩ | exact ⟨y1_6_0, y1_6_1, y1_6_2, y1_6_3, y1_6_4⟩ | exact ⟨x6_0, x6_1, x6_2, x6_3, x6_4⟩ | go_keep) (first | (go_at_call 21; refine (HT.out ha6 (x.f3.length : Int) (by omega) (by omega)).mono ?_; rintro e wb6 ⟨rfl, hb6⟩; have u0_6_0 := (blk_cell hb6.line 0).trans rfl; have u0_6_1 := (blk_cell hb6.box2 0).trans rfl; have u0_6_2 := (blk_cell hb6.box2 2).trans rfl; have u0_6_3 := (blk_cell hb6.box2 3).trans rfl; have u0_6_4 := (blk_cell hb6.box2 4).trans rfl; have v0_6_0 := fun o => pw_cell_below (below_alloc (Below.refl wb6.heap.size wb6) o) u0_6_0; have v0_6_1 := fun o => pw_cell_below (below_alloc (Below.refl wb6.heap.size wb6) o) u0_6_1; have v0_6_2 := fun o => pw_cell_below (below_alloc (Below.refl wb6.heap.size wb6) o) u0_6_2; have v0_6_3 := fun o => pw_cell_below (below_alloc (Below.refl wb6.heap.size wb6) o) u0_6_3; have v0_6_4 := fun o => pw_cell_below (below_alloc (Below.refl wb6.heap.size wb6) o) u0_6_4) | (go_at_call 21; refine (HT.out ha6 (x.f4.length : Int) (by omega) (by omega)).mono ?_; rintro e wb6 ⟨rfl, hb6⟩; have u1_6_0 := (blk_cell hb6.line 0).trans rfl; have u1_6_1 := (blk_cell hb6.box2 0).trans rfl; have u1_6_2 := (blk_cell hb6.box2 2).trans rfl; have u1_6_3 := (blk_cell hb6.box2 3).trans rfl; have u1_6_4 := (blk_cell hb6.box2 4).trans rfl; have v1_6_0 := fun o => pw_cell_below (below_alloc (Below.refl wb6.heap.size wb6) o) u1_6_0; have v1_6_1 := fun o => pw_cell_below (below_alloc (Below.refl wb6.heap.size wb6) o) u1_6_1; have v1_6_2 := fun o => pw_cell_below (below_alloc (Below.refl wb6.heap.size wb6) o) u1_6_2; have v1_6_3 := fun o => pw_cell_below (below_alloc (Below.refl wb6.heap.size wb6) o) u1_6_3; have v1_6_4 := fun o => pw_cell_below (below_alloc (Below.refl wb6.heap.size wb6) o) u1_6_4) | (go_at_call 21; refine (HT.out hd6 (x.f3.length : Int) (by omega) (by omega)).mono ?_; rintro e wa6 ⟨rfl, ha6⟩; have y0_6_0 := (blk_cell ha6.line 0).trans rfl; have y0_6_1 := (blk_cell ha6.box2 0).trans rfl; have y0_6_2 := (blk_cell ha6.box2 2).trans rfl; have y0_6_3 := (blk_cell ha6.box2 3).trans rfl; have y0_6_4 := (blk_cell ha6.box2 4).trans rfl) | (go_at_call 21; refine (HT.out hd6 (x.f4.length : Int) (by omega) (by omega)).mono ?_; rintro e wa6 ⟨rfl, ha6⟩; have y1_6_0 := (blk_cell ha6.line 0).trans rfl; have y1_6_1 := (blk_cell ha6.box2 0).trans rfl; have y1_6_2 := (blk_cell ha6.box2 2).trans rfl; have y1_6_3 := (blk_cell ha6.box2 3).trans rfl; have y1_6_4 := (blk_cell ha6.box2 4).trans rfl) | (go_at_call 17; refine (hb6.line_step [⟨#[102, 111, 114, 107]⟩, x.f0, ⟨#[108, 105, 110, 107, 101, 100]⟩, x.f2, textB x.f3.length, textB x.f4.length] (by simp) (by omega) (by omega)).mono ?_; rintro e w6 ⟨rfl, hst6⟩; have x6_0 := (blk_cell hst6.line 0).trans rfl; have x6_1 := (blk_cell hst6.box2 0).trans rfl; have x6_2 := (blk_cell hst6.box2 2).trans rfl; have x6_3 := (blk_cell hst6.box2 3).trans rfl; have x6_4 := (blk_cell hst6.box2 4).trans rfl))
          all_goals
            clear hd6 hsw hk0 hk1 hk2 hk3 hk4
            have q3 := (blk_cell hst6.box2 3).trans rfl
            go_wp2_with (first | (go_at_call 22; refine (HRP.out hst6.below).mono ?_; rintro e w7 ⟨rfl, hb7⟩; have hst7 := hst6.later hb7) | (go_at_call 18; refine (hst7.write_step (ofL (refsText x.f3)) (by omega) (by rw [List.length_append]; omega)).mono ?_; rintro e w8 ⟨rfl, hst8⟩; have q4 := (blk_cell hst8.box2 4).trans rfl) | (go_at_call 20; refine (hst8.each_step A4 c4 x.f4 HI4.out (fun y hy => by have := H64X.out y hy; omega) (by omega) (by rw [data_ofL, List.length_append, List.length_append]; rw [size_ofL] at hszt; omega)).mono ?_; rintro e w9 ⟨rfl, hst9⟩))
            go_roundw
            case rel => exact ⟨k + 1, by omega, by go_num, by rw [HTX.out]; have := hst9.back; rw [data_ofL] at this; simpa only [List.append_assoc] using this⟩
            case measure => simp [intOf]; omega
        | false =>
          rw [hlk] at hx1 HSW ehd'
          have htx : forkText x = lineL [⟨#[102, 111, 114, 107]⟩, x.f0, ⟨#[97, 108, 111, 110, 101]⟩, x.f2, textB x.f3.length, textB x.f4.length] ++ refsText x.f3 ++ rowsL x.f4 := by rw [forkText, forkHead, hlk]; rfl
          have ehd2 : (lineL [⟨#[102, 111, 114, 107]⟩, x.f0, ⟨#[97, 108, 111, 110, 101]⟩, x.f2, textB x.f3.length, textB x.f4.length]).length ≤ 1000 := ehd'
          rw [htx] at HTX
          clear htx ehd' hlk
          go_wp2
          have hsw := HSW.out
          have hk0 := (blk_cell hsw.box2 0).trans rfl
          have hk1 := (blk_cell hsw.box2 1).trans rfl
          have hk2 := (blk_cell hsw.box2 2).trans rfl
          have hk3 := (blk_cell hsw.box2 3).trans rfl
          have hk4 := (blk_cell hsw.box2 4).trans rfl
          generalize wr.alloc (.cells #[.string x.f0, .bool false, .string x.f2, .slice A3 x.f3.length c3, .slice A4 x.f4.length c4] 40) = W5 at hsw hk0 hk1 hk2 hk3 hk4 ⊢
          clear hx0 hx1 hx2 hx3 hx4 HSW
          have hd6 := hsw.later (below_drew (Below.refl W5.heap.size W5))
          have z6_0 := (blk_cell hsw.line 0).trans rfl
          have z6_1 := (blk_cell hsw.box2 0).trans rfl
          have z6_2 := (blk_cell hsw.box2 2).trans rfl
          have z6_3 := (blk_cell hsw.box2 3).trans rfl
          have z6_4 := (blk_cell hsw.box2 4).trans rfl
          go_region_held3 (fun w' => w'.cell? ⟨nl, 0, none⟩ = some (.func (.func 17) #[] #[.pointer (some ⟨b, 0, none⟩)]) ∧ w'.cell? ⟨wr.heap.size, 0, none⟩ = some (.string x.f0) ∧ w'.cell? ⟨wr.heap.size, 2, none⟩ = some (.string x.f2) ∧ w'.cell? ⟨wr.heap.size, 3, none⟩ = some (.slice A3 x.f3.length c3) ∧ w'.cell? ⟨wr.heap.size, 4, none⟩ = some (.slice A4 x.f4.length c4)) (first | exact ⟨z6_0, z6_1, z6_2, z6_3, z6_4⟩ | exact ⟨u0_6_0, u0_6_1, u0_6_2, u0_6_3, u0_6_4⟩ | exact ⟨v0_6_0 _, v0_6_1 _, v0_6_2 _, v0_6_3 _, v0_6_4 _⟩ | exact ⟨u1_6_0, u1_6_1, u1_6_2, u1_6_3, u1_6_4⟩ | exact ⟨v1_6_0 _, v1_6_1 _, v1_6_2 _, v1_6_3 _, v1_6_4 _⟩ | exact ⟨y0_6_0, y0_6_1, y0_6_2, y0_6_3, y0_6_4⟩ | exact ⟨y1_6_0, y1_6_1, y1_6_2, y1_6_3, y1_6_4⟩ | exact ⟨x6_0, x6_1, x6_2, x6_3, x6_4⟩ | go_keep) (first | (go_at_call 21; refine (HT.out ha6 (x.f3.length : Int) (by omega) (by omega)).mono ?_; rintro e wb6 ⟨rfl, hb6⟩; have u0_6_0 := (blk_cell hb6.line 0).trans rfl; have u0_6_1 := (blk_cell hb6.box2 0).trans rfl; have u0_6_2 := (blk_cell hb6.box2 2).trans rfl; have u0_6_3 := (blk_cell hb6.box2 3).trans rfl; have u0_6_4 := (blk_cell hb6.box2 4).trans rfl; have v0_6_0 := fun o => pw_cell_below (below_alloc (Below.refl wb6.heap.size wb6) o) u0_6_0; have v0_6_1 := fun o => pw_cell_below (below_alloc (Below.refl wb6.heap.size wb6) o) u0_6_1; have v0_6_2 := fun o => pw_cell_below (below_alloc (Below.refl wb6.heap.size wb6) o) u0_6_2; have v0_6_3 := fun o => pw_cell_below (below_alloc (Below.refl wb6.heap.size wb6) o) u0_6_3; have v0_6_4 := fun o => pw_cell_below (below_alloc (Below.refl wb6.heap.size wb6) o) u0_6_4) | (go_at_call 21; refine (HT.out ha6 (x.f4.length : Int) (by omega) (by omega)).mono ?_; rintro e wb6 ⟨rfl, hb6⟩; have u1_6_0 := (blk_cell hb6.line 0).trans rfl; have u1_6_1 := (blk_cell hb6.box2 0).trans rfl; have u1_6_2 := (blk_cell hb6.box2 2).trans rfl; have u1_6_3 := (blk_cell hb6.box2 3).trans rfl; have u1_6_4 := (blk_cell hb6.box2 4).trans rfl; have v1_6_0 := fun o => pw_cell_below (below_alloc (Below.refl wb6.heap.size wb6) o) u1_6_0; have v1_6_1 := fun o => pw_cell_below (below_alloc (Below.refl wb6.heap.size wb6) o) u1_6_1; have v1_6_2 := fun o => pw_cell_below (below_alloc (Below.refl wb6.heap.size wb6) o) u1_6_2; have v1_6_3 := fun o => pw_cell_below (below_alloc (Below.refl wb6.heap.size wb6) o) u1_6_3; have v1_6_4 := fun o => pw_cell_below (below_alloc (Below.refl wb6.heap.size wb6) o) u1_6_4) | (go_at_call 21; refine (HT.out hd6 (x.f3.length : Int) (by omega) (by omega)).mono ?_; rintro e wa6 ⟨rfl, ha6⟩; have y0_6_0 := (blk_cell ha6.line 0).trans rfl; have y0_6_1 := (blk_cell ha6.box2 0).trans rfl; have y0_6_2 := (blk_cell ha6.box2 2).trans rfl; have y0_6_3 := (blk_cell ha6.box2 3).trans rfl; have y0_6_4 := (blk_cell ha6.box2 4).trans rfl) | (go_at_call 21; refine (HT.out hd6 (x.f4.length : Int) (by omega) (by omega)).mono ?_; rintro e wa6 ⟨rfl, ha6⟩; have y1_6_0 := (blk_cell ha6.line 0).trans rfl; have y1_6_1 := (blk_cell ha6.box2 0).trans rfl; have y1_6_2 := (blk_cell ha6.box2 2).trans rfl; have y1_6_3 := (blk_cell ha6.box2 3).trans rfl; have y1_6_4 := (blk_cell ha6.box2 4).trans rfl) | (go_at_call 17; refine (hb6.line_step [⟨#[102, 111, 114, 107]⟩, x.f0, ⟨#[97, 108, 111, 110, 101]⟩, x.f2, textB x.f3.length, textB x.f4.length] (by simp) (by omega) (by omega)).mono ?_; rintro e w6 ⟨rfl, hst6⟩; have x6_0 := (blk_cell hst6.line 0).trans rfl; have x6_1 := (blk_cell hst6.box2 0).trans rfl; have x6_2 := (blk_cell hst6.box2 2).trans rfl; have x6_3 := (blk_cell hst6.box2 3).trans rfl; have x6_4 := (blk_cell hst6.box2 4).trans rfl))
          all_goals
            clear hd6 hsw hk0 hk1 hk2 hk3 hk4
            have q3 := (blk_cell hst6.box2 3).trans rfl
            go_wp2_with (first | (go_at_call 22; refine (HRP.out hst6.below).mono ?_; rintro e w7 ⟨rfl, hb7⟩; have hst7 := hst6.later hb7) | (go_at_call 18; refine (hst7.write_step (ofL (refsText x.f3)) (by omega) (by rw [List.length_append]; omega)).mono ?_; rintro e w8 ⟨rfl, hst8⟩; have q4 := (blk_cell hst8.box2 4).trans rfl) | (go_at_call 20; refine (hst8.each_step A4 c4 x.f4 HI4.out (fun y hy => by have := H64X.out y hy; omega) (by omega) (by rw [data_ofL, List.length_append, List.length_append]; rw [size_ofL] at hszt; omega)).mono ?_; rintro e w9 ⟨rfl, hst9⟩))
            go_roundw
            case rel => exact ⟨k + 1, by omega, by go_num, by rw [HTX.out]; have := hst9.back; rw [data_ofL] at this; simpa only [List.append_assoc] using this⟩
            case measure => simp [intOf]; omega
      · have hkl : k = l0_2.length := by omega
        subst hkl
        rw [List.take_length] at hst
        clear hlt
        have hTl : (rootHead a0_0 l0_1 l0_2.length ++ l0_2.flatMap forkText).length ≤ 400000 := by rw [List.length_append]; have := forksText_length l0_2 HP4.out; omega
        have HR2 := Aside0.mk (show r1 = intsOf (rootHead a0_0 l0_1 l0_2.length ++ l0_2.flatMap forkText) ∧ r2 = true from HR.out)
        generalize rootHead a0_0 l0_1 l0_2.length ++ l0_2.flatMap forkText = T at hst hTl HR2
        have hbs := Tryd.Builder_String_any_k b b _ wr hst.holds (Nat.le_of_lt hst.holds.lt)
        have hbe := hst.below
        have hba := hst.base
        have kb := fun W => print_bytes (P := Tryd.prog) 9 26 5 Tryd.underlying9 Tryd.underlying26 Tryd.underlying5 (⟨T.toArray⟩ : ByteArray) W
        have HBE := Aside0.mk hbe
        have HBA := Aside0.mk hba
        clear hst hbe hba
        go_wp2_with (go_at_call 23; refine hbs.mono ?_; rintro e w9 ⟨rfl, _, hb9, _⟩)
        obtain ⟨rfl, rfl⟩ := HR2.out
        have hbw : Below w.heap.size w w9 := HBE.out.trans (Below.mono hb9 HBA.out)
        go_ret2
        refine ⟨_, rfl, V_bytes w9 w.heap.size T hbw.size (by omega), bytes_below hbw hbw.size _ _⟩
end Go.Proofs.YtgmddlbbmlneaaaDoor.PR

/- root.Get: the root that lines are. -/
namespace Go.Proofs.YtgmddlbbmlneaaaDoor.PR
open Go.RowKit Go.Shelf Go.Proofs.YtgmddlbbmlneaaaDoorW.PrintWords Go.Proofs.YtgmddlbbmlneaaaDoorW.PrintLast Go.Proofs.YtgmddlbbmlneaaaDoorW.PrintMore
set_option linter.unusedVariables false

def root_Get.f (l0 : List Int) : Option (Int × List ByteArray × (List (S40)) × Bool) := if l0.length ≤ 1000000 then some (getP (strOfNums l0)) else none

theorem rows_splitL (c : UInt8) : ∀ l : List UInt8, ((splitL c l).map (fun p => p.length + 1)).sum = l.length + 1
  | [] => by simp [splitL]
  | x :: xs => by
    have ih := rows_splitL c xs
    unfold splitL
    split
    · simp only [List.map_cons, List.sum_cons, ih, List.length_nil, List.length_cons]; omega
    · split
      · rename_i h; exact absurd h (splitL_ne c xs)
      · rename_i p ps h
        rw [h] at ih
        simp only [List.map_cons, List.sum_cons, List.length_cons] at ih ⊢
        omega
theorem rows_split (c : UInt8) (s : ByteArray) : (rowsL (splitS c s)).length = s.size + 1 := by
  have : ∀ L : List (List UInt8), (rowsL (L.map ofL)).length = (L.map (fun p => p.length + 1)).sum := by
    intro L
    induction L with
    | nil => rfl
    | cons p ps ih => rw [List.map_cons, tot_cons, ih, List.map_cons, List.sum_cons, size_ofL]
  rw [splitS, this, rows_splitL, data_length]

theorem forkP_tot (l : List ByteArray) (e : Bool) : (rowsL (forkP l e).2.1).length ≤ (rowsL l).length := by
  rw [forkP]
  dsimp only
  exact Nat.le_trans (someP_tot _ _ _).2 (Nat.le_trans (someP_tot _ _ _).2 (wordsP_tot _ _ _ _))
theorem someP_less (n : Int) (l : List ByteArray) (e : Bool) : (someP n l e).2.1.length ≤ l.length ∧ ((someP n l e).2.2 = false → e = false) := by
  unfold someP
  split
  · exact ⟨Nat.le_refl _, fun h => by simp at h⟩
  · rename_i h
    refine ⟨by simp, fun _ => ?_⟩
    cases e with
    | false => rfl
    | true => exact absurd (Or.inr rfl) h
theorem wordsP_less (first : ByteArray) (many : Nat) (l : List ByteArray) (e : Bool) (h : (wordsP first many l e).2.2 = false) : (wordsP first many l e).2.1.length + 1 ≤ l.length := by
  unfold wordsP at h ⊢
  split at h
  · split at h
    · simp at h
    · rename_i hk
      rw [if_neg hk]; simp
  · simp at h
theorem forkP_less (l : List ByteArray) (e : Bool) (h : (forkP l e).2.2 = false) : (forkP l e).2.1.length + 1 ≤ l.length := by
  rw [forkP] at h ⊢
  dsimp only at h ⊢
  have h1 := (someP_less _ _ _).2 h
  rw [Bool.or_eq_false_iff] at h1
  have h2 := (someP_less _ _ _).2 h1.1
  simp only [numberP, Bool.or_eq_false_iff] at h2
  have h3 := wordsP_less _ _ _ _ h2.1.1
  refine Nat.le_trans ?_ h3
  exact Nat.succ_le_succ (Nat.le_trans (someP_less _ _ _).1 (someP_less _ _ _).1)
theorem three_sets (w8 : World) (b t : Nat) (a0 a1 a2 z0 z1 z2 : Value) (hb : w8.heap[b]? = some (.cells #[z0, z1, z2] t (0, 0))) :
    (((w8.setCell ⟨b, 0, none⟩ a0).setCell ⟨b, 1, none⟩ a1).setCell ⟨b, 2, none⟩ a2).heap[b]? = some (.cells #[a0, a1, a2] t (0, 0)) ∧
    (∀ k, k ≠ b → (((w8.setCell ⟨b, 0, none⟩ a0).setCell ⟨b, 1, none⟩ a1).setCell ⟨b, 2, none⟩ a2).heap[k]? = w8.heap[k]?) ∧
    Below b w8 (((w8.setCell ⟨b, 0, none⟩ a0).setCell ⟨b, 1, none⟩ a1).setCell ⟨b, 2, none⟩ a2) := by
  refine ⟨blk_put (blk_put (blk_put hb 0 a0 rfl) 1 a1 rfl) 2 a2 rfl, fun k h2 => ?_, ?_⟩
  · rw [Below.heap_setCell _ _ _ _ h2, Below.heap_setCell _ _ _ _ h2, Below.heap_setCell _ _ _ _ h2]
  · exact (((Below.refl _ _).setCell (p := ⟨b, 0, none⟩) (Nat.le_refl _) a0).setCell (p := ⟨b, 1, none⟩) (Nat.le_refl _) a1).setCell (p := ⟨b, 2, none⟩) (Nat.le_refl _) a2
theorem getP_no {s : ByteArray} {c : Int} {pool : List ByteArray} {acc : List S40} {e : Bool} (h : linesP s = (c, pool, acc, e)) (hn : ¬ (e = false ∧ rootB c pool acc = true ∧ rootText c pool acc = s.data.toList)) : getP s = (0, [], [], false) := by
  rw [getP, h]
  exact if_neg hn
theorem getP_yes {s : ByteArray} {c : Int} {pool : List ByteArray} {acc : List S40} {e : Bool} (h : linesP s = (c, pool, acc, e)) (hn : e = false ∧ rootB c pool acc = true ∧ rootText c pool acc = s.data.toList) : getP s = (c, pool, acc, true) := by
  rw [getP, h]
  exact if_pos hn
theorem wordsP_sizes (first : ByteArray) (many : Nat) (l : List ByteArray) (e : Bool) : ∀ x ∈ (wordsP first many l e).1, x.size ≤ (rowsL l).length := by
  unfold wordsP
  split
  · split
    · intro x hx
      rw [List.eq_of_mem_replicate hx]
      exact Nat.zero_le _
    · intro x hx
      have := splitS_sizes 32 _ x hx
      rw [tot_cons]; omega
  · intro x hx
    rw [List.eq_of_mem_replicate hx]
    exact Nat.zero_le _
theorem wordAt_size (l : List ByteArray) (j n : Nat) (h : ∀ x ∈ l, x.size ≤ n) : (wordAt l j).size ≤ n := by
  rw [wordAt, List.getD_eq_getElem?_getD]
  cases hj : l[j]? with
  | none => exact Nat.zero_le _
  | some x => exact h x (List.mem_of_getElem? hj)
theorem okS_rows (l : List ByteArray) (h : (rowsL l).length ≤ 2000000) : l.all okS = true ∧ l.length ≤ 2000000 := by
  refine ⟨List.all_eq_true.2 (fun x hx => ?_), Nat.le_trans (tot_len l) h⟩
  have := tot_mem l x hx
  simp only [okS, decide_eq_true_eq]; omega
theorem forkP_ok (l : List ByteArray) (e : Bool) (h : (rowsL l).length ≤ 2000000) : okFork (forkP l e).1 = true := by
  have hw := wordsP_sizes ⟨#[102, 111, 114, 107]⟩ 6 l e
  have ht := wordsP_tot ⟨#[102, 111, 114, 107]⟩ 6 l e
  rw [forkP]
  generalize wordsP ⟨#[102, 111, 114, 107]⟩ 6 l e = R at hw ht
  obtain ⟨ws, l1, e1⟩ := R
  dsimp only at hw ht ⊢
  have h1 := wordAt_size ws 1 _ hw
  have h3 := wordAt_size ws 3 _ hw
  have hs := someP_tot (numberP (wordAt ws 4) e1).1 l1 (numberP (wordAt ws 5) (numberP (wordAt ws 4) e1).2).2
  generalize someP (numberP (wordAt ws 4) e1).1 l1 (numberP (wordAt ws 5) (numberP (wordAt ws 4) e1).2).2 = R2 at hs
  obtain ⟨rows, l4, e4⟩ := R2
  dsimp only at hs ⊢
  have hg := refsGet_small (ofL (rowsL rows)) (by rw [size_ofL]; omega)
  have hp := (someP_tot (numberP (wordAt ws 5) (numberP (wordAt ws 4) e1).2).1 l4 (e4 || !(refsGetB (ofL (rowsL rows))).2)).1
  have hp2 := okS_rows _ (Nat.le_trans hp (by omega))
  simp only [okFork, Bool.and_eq_true, decide_eq_true_eq]
  refine ⟨⟨⟨⟨by simp only [okS, decide_eq_true_eq]; omega, by omega⟩, ?_⟩, hp2.1⟩, by omega⟩
  rw [List.all_eq_true] at hg ⊢
  intro x hx
  have := hg x hx
  simp only [smallRef, okRef, Bool.and_eq_true, decide_eq_true_eq] at this ⊢
  omega
theorem forksP_ok : ∀ (n : Nat) (l : List ByteArray) (e : Bool) (acc : List S40), (rowsL l).length ≤ 2000000 → acc.all okFork = true → (forksP n l e acc).1.all okFork = true
  | 0, _, _, _, _, h => h
  | n + 1, l, e, acc, ht, h => by
    rw [forksP]
    split
    · exact h
    · exact forksP_ok n _ _ _ (Nat.le_trans (forkP_tot l e) ht) (by rw [List.all_append, h]; simp [forkP_ok l e ht])
theorem okRoot_lines (s : ByteArray) (h : s.size ≤ 1000000) : okRoot (linesP s).2.1 (linesP s).2.2.1 = true := by
  have h0 := rows_split 10 s
  rw [linesP]
  dsimp only
  have t1 := wordsP_tot ⟨#[110, 101, 116]⟩ 2 (splitS 10 s) false
  have t2 := wordsP_tot ⟨#[112, 111, 111, 108]⟩ 2 (wordsP ⟨#[110, 101, 116]⟩ 2 (splitS 10 s) false).2.1 (numberP (wordAt (wordsP ⟨#[110, 101, 116]⟩ 2 (splitS 10 s) false).1 1) (wordsP ⟨#[110, 101, 116]⟩ 2 (splitS 10 s) false).2.2).2
  generalize wordsP ⟨#[112, 111, 111, 108]⟩ 2 (wordsP ⟨#[110, 101, 116]⟩ 2 (splitS 10 s) false).2.1 (numberP (wordAt (wordsP ⟨#[110, 101, 116]⟩ 2 (splitS 10 s) false).1 1) (wordsP ⟨#[110, 101, 116]⟩ 2 (splitS 10 s) false).2.2).2 = R2 at t2
  have t3 := someP_tot (numberP (wordAt R2.1 1) R2.2.2).1 R2.2.1 (numberP (wordAt R2.1 1) R2.2.2).2
  generalize someP (numberP (wordAt R2.1 1) R2.2.2).1 R2.2.1 (numberP (wordAt R2.1 1) R2.2.2).2 = R3 at t3
  have t4 := wordsP_tot ⟨#[102, 111, 114, 107, 115]⟩ 2 R3.2.1 R3.2.2
  have hp := okS_rows R3.1 (by omega)
  simp only [okRoot, Bool.and_eq_true, decide_eq_true_eq]
  exact ⟨⟨hp.1, by omega⟩, forksP_ok _ _ _ _ (by omega) rfl⟩
theorem strOfNums_ints (T : List UInt8) : strOfNums (intsOf T) = ⟨T.toArray⟩ := by
  simp only [strOfNums, intsOf, List.map_map]
  congr 2
  conv => rhs; rw [← List.map_id T]
  apply List.map_congr_left
  intro x _
  simp
structure LI (w : World) (rb sb bx N : Nat) (w6 : World) (c : Int) (v1 : Value) (FS : List S40 × Bool) (n : Nat) (l : List ByteArray) (e : Bool) (acc : List S40) (vf : Value) (wr : World) : Prop where
  rd : RD w rb sb l e wr
  tot : (rowsL l).length ≤ 2000000
  cnt0 : e = false → acc.length + l.length ≤ 2000000
  cnt1 : acc.length ≤ 2000001
  run : forksP n l e acc = FS
  box : wr.heap[bx]? = some (.cells #[.int .i64 c, v1, vf] 25 (0, 0))
  row : Kd.N k40 40 wr N (fun k => N ≤ k) vf acc
  kept : ∀ k, k < N → k ≠ rb → k ≠ bx → wr.heap[k]? = w6.heap[k]?
  size : N ≤ wr.heap.size
  big : n ≤ 1099511627776
theorem rd_first {w w1 : World} {o : Obj} {S0 : ByteArray} {L : List ByteArray} (hL : L = splitS 10 S0) (hblk : w1.heap[w.heap.size + 1]? = some (.cells (L.map Value.string).toArray 9 (0, 0))) (hb : Below (w.alloc o).heap.size (w.alloc o) w1) :
    RD w w1.heap.size (w.heap.size + 1) L false (w1.alloc (.cells #[.slice (some ⟨w.heap.size + 1, 0, none⟩) L.length L.length, .nilIface] 65)) := by
  have hlt := blk_lt hblk
  have hb2 : Below w.heap.size w w1 := below_step (below_alloc (Below.refl _ _) o) hb
  refine ⟨⟨0, .nilIface, blk_new _ _, rfl, fun j x hx => ?_⟩, by omega, by simp; omega, below_step hb2 (below_alloc (Below.refl _ _) _), by omega⟩
  rw [Nat.zero_add, blk_cell (blk_alloc hblk _) j]
  simp [hx]

set_option maxHeartbeats 4000000 in
set_option maxRecDepth 100000 in
theorem root_Get.calls (A0 : Option Addr) (c0 : Nat) (l0 : List Int) (r1 : Int) (r2 : List ByteArray) (r3 : List (S40)) (r4 : Bool) (w : World) (hG : Gl w) (hr0 : Kd.C (Kd.int .u8) w A0 l0.length l0) (hc0 : l0.length ≤ c0) (h : root_Get.f l0 = some (r1, r2, r3, r4)) :
    Calls Tryd.prog 12 #[.slice A0 l0.length c0] w fun e w' => ∃ v1_ v2_ : Value, e = .returned (.tuple #[.agg #[.int .i64 r1, v1_, v2_], .bool r4]) ∧ Kd.V Kd.string 9 w' w.heap.size (fun k_ => (w.heap.size ≤ k_)) v1_ r2 ∧ Kd.V k40 40 w' w.heap.size (fun k_ => (w.heap.size ≤ k_) ∧ some k_ ≠ (v1_ : Value).ownBlock) v2_ r3 ∧ Below w.heap.size w w' := by
  unfold root_Get.f at h
  split at h
  case isFalse => exact absurd h (by simp)
  rename_i hlen
  have HRES := Aside0.mk (Option.some.inj h)
  clear h
  obtain ⟨m, hm⟩ := hG.1
  have hsz : (strOfNums l0).size = l0.length := by simp [strOfNums, ByteArray.size]
  have hconv : ∀ W : World, Below w.heap.size w W → (convert 26 9 (.slice A0 l0.length c0)).run Tryd.prog W = .ok (.string (strOfNums l0)) W := fun W hb => Kd.C_string Tryd.underlying26 Tryd.underlying5 Tryd.underlying9 (Kd.C_below hr0 hb)
  have htot := rows_split 10 (strOfNums l0)
  rw [hsz] at htot
  have hc1 := fun o : Obj => hconv (w.alloc o) (below_alloc (Below.refl _ _) o)
  have hsplit : ∀ W : World, Below w.heap.size w W → Calls Tryd.prog 26 #[.string (strOfNums l0), .string ⟨#[10]⟩] W fun e w' => e = .returned (.slice (some ⟨W.heap.size, 0, none⟩) (splitS 10 (strOfNums l0)).length (splitS 10 (strOfNums l0)).length) ∧ Below W.heap.size W w' ∧ w'.heap[W.heap.size]? = some (.cells ((splitS 10 (strOfNums l0)).map Value.string).toArray 9 (0, 0)) := by
    intro W hb
    have := Tryd.strings_Split (strOfNums l0) ⟨#[10]⟩ m W (by omega) ((hb.cell (World.block_lt_of_cell? _ _ hm)).trans hm) (Nat.le_refl 1)
    rw [splitB_one, ← splitS_length] at this
    exact this.mono fun e w' ⟨h1, h2⟩ => by subst h2; exact ⟨h1, below_alloc (Below.refl _ _) _, blk_new _ _⟩
  obtain ⟨S0, hS0⟩ : ∃ S0, strOfNums l0 = S0 := ⟨_, rfl⟩
  obtain ⟨L, hL⟩ : ∃ L, splitS 10 S0 = L := ⟨_, rfl⟩
  rw [hS0] at hsplit htot hc1 HRES
  rw [hL] at hsplit htot
  have hword : ∀ {rb sb : Nat} {l : List ByteArray} {e : Bool} {W : World}, RD w rb sb l e W → ∀ {first : ByteArray} {ws l' : List ByteArray} {e' : Bool}, wordsP first 2 l e = (ws, l', e') → (rowsL l).length ≤ 2000000 → Calls Tryd.prog 28 #[.pointer (some ⟨rb, 0, none⟩), .string first, .int .i64 2] W fun e_ w' => ∃ ob : Nat, e_ = .returned (.slice (some ⟨ob, 0, none⟩) 2 2) ∧ W.heap.size ≤ ob ∧
      w'.heap[ob]? = some (.cells (ws.map Value.string).toArray 9 (0, 0)) ∧ RD w rb sb l' e' w' ∧ KR rb W w' := fun {rb sb l e W} hW {first ws l' e'} hq ht => by
    have := words_calls w rb sb l e first 2 (by omega) (Nat.le_trans (tot_len l) ht) (fun x hx => by have := tot_mem l x hx; omega) W hG hW
    rw [hq] at this
    exact this
  have hnum : ∀ {rb sb : Nat} {l : List ByteArray} {e : Bool} {W : World}, RD w rb sb l e W → ∀ {a : ByteArray} {n : Int} {e' : Bool}, numberP a e = (n, e') → Calls Tryd.prog 27 #[.pointer (some ⟨rb, 0, none⟩), .string a] W fun e_ w' => e_ = .returned (.int .i64 n) ∧ RD w rb sb l e' w' ∧ KR rb W w' := fun {rb sb l e W} hW {a n e'} hq => by
    have := number_calls w rb sb l e a W hG hW
    rw [hq] at this
    exact this
  have hsome : ∀ {rb sb : Nat} {l : List ByteArray} {e : Bool} {W : World}, RD w rb sb l e W → ∀ {n : Int} {rows l' : List ByteArray} {e' : Bool}, someP n l e = (rows, l', e') → 0 ≤ n → (rowsL l).length ≤ 2000000 → Calls Tryd.prog 29 #[.pointer (some ⟨rb, 0, none⟩), .int .i64 n] W fun e_ w' => ∃ v, e_ = .returned v ∧ (Kd.V Kd.string 9 w' W.heap.size (fun k_ => W.heap.size ≤ k_) v rows ∧ ∀ k, v.ownBlock = some k → k < w'.heap.size) ∧ RD w rb sb l' e' w' ∧ KR rb W w' := fun {rb sb l e W} hW {n rows l' e'} hq h0 hl => by
    have := some_calls2 w rb sb l e n h0 (Nat.le_trans (tot_len _) hl) W hW
    rw [hq] at this
    exact this
  obtain ⟨⟨ws1, l1, e1⟩, hE1⟩ : ∃ R, wordsP ⟨#[110, 101, 116]⟩ 2 L false = R := ⟨_, rfl⟩
  obtain ⟨⟨c, e2⟩, hN1⟩ : ∃ R, numberP (wordAt ws1 1) e1 = R := ⟨_, rfl⟩
  obtain ⟨⟨ws2, l2, e3⟩, hE2⟩ : ∃ R, wordsP ⟨#[112, 111, 111, 108]⟩ 2 l1 e2 = R := ⟨_, rfl⟩
  obtain ⟨⟨n2, e4⟩, hN2⟩ : ∃ R, numberP (wordAt ws2 1) e3 = R := ⟨_, rfl⟩
  obtain ⟨⟨pool, l3, e5⟩, hP2⟩ : ∃ R, someP n2 l2 e4 = R := ⟨_, rfl⟩
  obtain ⟨⟨ws3, l4, e6⟩, hE3⟩ : ∃ R, wordsP ⟨#[102, 111, 114, 107, 115]⟩ 2 l3 e5 = R := ⟨_, rfl⟩
  obtain ⟨⟨n3, e7⟩, hN3⟩ : ∃ R, numberP (wordAt ws3 1) e6 = R := ⟨_, rfl⟩
  obtain ⟨m3, rfl⟩ : ∃ m3 : Nat, n3 = (m3 : Int) := ⟨n3.toNat, by have := (decB_range (wordAt ws3 1)).1; rw [numberP] at hN3; injection hN3 with h1 h2; omega⟩
  have hn2 : 0 ≤ n2 := by have := (decB_range (wordAt ws2 1)).1; rw [numberP] at hN2; injection hN2 with h1 h2; omega
  obtain ⟨FS, hFS⟩ : ∃ R, forksP m3 l4 e7 [] = R := ⟨_, rfl⟩
  have hlin : linesP S0 = (c, pool, FS.1, FS.2) := by simp only [linesP, hL, hE1, hN1, hE2, hN2, hP2, hE3, hN3, Int.toNat_natCast, hFS]
  have hw1 : ws1.length = 2 := by have := wordsP_length ⟨#[110, 101, 116]⟩ 2 L false; rw [hE1] at this; exact this
  have hw2 : ws2.length = 2 := by have := wordsP_length ⟨#[112, 111, 111, 108]⟩ 2 l1 e2; rw [hE2] at this; exact this
  have hw3 : ws3.length = 2 := by have := wordsP_length ⟨#[102, 111, 114, 107, 115]⟩ 2 l3 e5; rw [hE3] at this; exact this
  have ht1 : (rowsL l1).length ≤ 2000000 := by have := wordsP_tot ⟨#[110, 101, 116]⟩ 2 L false; rw [hE1] at this; dsimp only at this; omega
  have ht2 : (rowsL l2).length ≤ 2000000 := by have := wordsP_tot ⟨#[112, 111, 111, 108]⟩ 2 l1 e2; rw [hE2] at this; dsimp only at this; omega
  have ht3 : (rowsL l3).length ≤ 2000000 := by have := (someP_tot n2 l2 e4).2; rw [hP2] at this; dsimp only at this; omega
  have ht4 : (rowsL l4).length ≤ 2000000 := by have := wordsP_tot ⟨#[102, 111, 114, 107, 115]⟩ 2 l3 e5; rw [hE3] at this; dsimp only at this; omega
  have htp : (rowsL pool).length ≤ 2000000 := by have := (someP_tot n2 l2 e4).1; rw [hP2] at this; dsimp only at this; omega
  have HE1 := Aside0.mk hE1
  have HN1 := Aside0.mk hN1
  have HE2 := Aside0.mk hE2
  have HN2 := Aside0.mk hN2
  have HP2 := Aside0.mk hP2
  have HE3 := Aside0.mk hE3
  have HN3 := Aside0.mk hN3
  have HFS := Aside0.mk hFS
  have HLIN := Aside0.mk hlin
  have HWL := Aside0.mk (And.intro hw1 (And.intro hw2 hw3))
  have HT := Aside0.mk (And.intro ht1 (And.intro ht2 (And.intro ht3 (And.intro ht4 htp))))
  have HNN := Aside0.mk hn2
  have HM3 := Aside0.mk (show m3 ≤ 1099511627776 by have := (decB_range (wordAt ws3 1)).2; have h3 := HN3.out; rw [numberP] at h3; injection h3 with h1 h2; omega)
  clear hE1 hN1 hE2 hN2 hP2 hE3 hN3 hFS hlin hw1 hw2 hw3 ht1 ht2 ht3 ht4 htp hn2
  have hfork : ∀ {rb sb : Nat} {l : List ByteArray} {e : Bool} {W : World}, RD w rb sb l e W → ∀ {f : S40} {l' : List ByteArray} {e' : Bool}, forkP l e = (f, l', e') → (rowsL l).length ≤ 2000000 → Calls Tryd.prog 30 #[.pointer (some ⟨rb, 0, none⟩)] W fun e_ w' => ∃ v3 v4 : Value, e_ = .returned (.agg #[.string f.f0, .bool f.f1, .string f.f2, v3, v4]) ∧
      Kd.V k76 76 w' W.heap.size (fun k_ => W.heap.size ≤ k_) v3 f.f3 ∧ Kd.V Kd.string 9 w' W.heap.size (fun k_ => W.heap.size ≤ k_) v4 f.f4 ∧ RD w rb sb l' e' w' ∧ KR rb W w' := fun {rb sb l e W} hW {f l' e'} hq ht => by
    have := fork_calls w rb sb l e ht W hG hW
    rw [hq] at this
    exact this
  have HFORK := Aside0.mk @hfork
  clear hfork
  have HW := Aside0.mk @hword
  have HN := Aside0.mk @hnum
  have HS := Aside0.mk @hsome
  have HSP := Aside0.mk hsplit
  have HG := Aside0.mk hG
  have HR0 := Aside0.mk hr0
  have HTOT := Aside0.mk (show (rowsL L).length ≤ 2000000 by omega)
  have HLEN := Aside0.mk hlen
  have HCONV := Aside0.mk hconv
  have HS0 := Aside0.mk hS0
  have HL := Aside0.mk hL
  clear hword hnum hsome hsplit hG hr0 htot hm hsz hlen hconv hS0 hL
  go_enter Tryd.func12, Tryd.ntmps12
  go_wp2_with (first
    | (go_at_call 27; refine (HN.out HRD7.out HN3.out).mono ?_; rintro e w8 ⟨rfl, hrd, hkr⟩; have HX8 := Aside0.mk (hkr.blk HX7.out HBR.out); have HRD8 := Aside0.mk hrd; have HKR8 := Aside0.mk hkr; clear hrd hkr c1)
    | (go_at_call 28; refine (HW.out (HRD6.out.under (B := w3.heap.size) (Below.setCell (Below.refl _ _) (p := ⟨w3.heap.size, 1, none⟩) (Nat.le_refl _) _) HRD3.out.at_lt (Nat.lt_trans HSBL.out HRD3.out.at_lt)) HE3.out HT.out.2.2.1).mono ?_; rintro e w7 ⟨obw7, rfl, hob, hbk, hrd, hkr⟩; have c1 := word_cell hbk 1 (by have := HWL.out; omega); have HX7 := Aside0.mk (hkr.blk (blk_put HX6.out 1 _ rfl) HBR.out); clear qx qxz; have HRD7 := Aside0.mk hrd; have HKR7 := Aside0.mk hkr; clear hbk hob hrd hkr)
    | (go_at_call 29; refine (HS.out HRD5.out HP2.out HNN.out HT.out.2.1).mono ?_; rintro e w6 ⟨v1, rfl, ⟨hv, hvo⟩, hrd, hkr⟩; obtain ⟨A1, c1p, rfl⟩ := Kd.V_slice hv; have hx6 := hkr.blk HX5.out HBR.out; have qx := blk_cell hx6 1; have qxz := blk_frozen hx6 1; have HX6 := Aside0.mk hx6; have HV1 := Aside0.mk hv; have HVO := Aside0.mk hvo; have HRD6 := Aside0.mk hrd; have HKR6 := Aside0.mk hkr; clear hx6 hv hvo hrd hkr)
    | (go_at_call 27; refine (HN.out HRD4.out HN2.out).mono ?_; rintro e w5 ⟨rfl, hrd, hkr⟩; have HX5 := Aside0.mk (hkr.blk HX4.out HBR.out); have HRD5 := Aside0.mk hrd; have HKR5 := Aside0.mk hkr; clear hrd hkr c1)
    | (go_at_call 28; refine (HW.out (HRD3.out.later (below_alloc (Below.refl _ _) _)) HE2.out HT.out.1).mono ?_; rintro e w4 ⟨obw4, rfl, hob, hbk, hrd, hkr⟩; have c1 := word_cell hbk 1 (by have := HWL.out; omega); have HBR := Aside0.mk (Nat.ne_of_gt HRD3.out.at_lt); have HX4 := Aside0.mk (hkr.blk (blk_new w3 _) HBR.out); have HRD4 := Aside0.mk hrd; have HKR4 := Aside0.mk hkr; clear hbk hob hrd hkr)
    | (go_at_call 27; refine (HN.out HRD2.out HN1.out).mono ?_; rintro e w3 ⟨rfl, hrd, hkr⟩;  have HRD3 := Aside0.mk hrd; have HKR3 := Aside0.mk hkr; clear hrd hkr c1)
    | (go_at_call 28; refine (HW.out HRD1.out HE1.out HTOT.out).mono ?_; rintro e w2 ⟨obw2, rfl, hob, hbk, hrd, hkr⟩; have c1 := word_cell hbk 1 (by have := HWL.out; omega);  have HRD2 := Aside0.mk hrd; have HKR2 := Aside0.mk hkr; clear hbk hob hrd hkr)
    | (go_at_call 26; refine (HSP.out _ (below_alloc (Below.refl _ _) _)).mono ?_; rintro e w1 ⟨rfl, hb1, hblk⟩; have HSBL := Aside0.mk (show w.heap.size + 1 < w1.heap.size from blk_lt (by simpa using hblk)); have HRD1 := Aside0.mk (rd_first HL.out.symm (by simpa using hblk) hb1); have HB1 := Aside0.mk hb1; clear hb1 hblk))
  have hLI : LI w w1.heap.size (w.heap.size + 1) w3.heap.size w6.heap.size w6 c (.slice A1 pool.length c1p) FS m3 l4 e7 [] (.slice none 0 0) w8 := by
    refine ⟨HRD8.out, HT.out.2.2.2.1, fun _ => by have := tot_len l4; have := HT.out.2.2.2.1; simp; omega, by simp, HFS.out, HX8.out, Kd.N_nil _ _ _ _ _, fun k hk h1 h2 => ?_, ?_, HM3.out⟩
    · refine (HKR8.out.keep k ?_ h1).trans ((HKR7.out.keep k ?_ h1).trans (Below.heap_setCell _ _ _ _ h2))
      · have := HKR7.out.below.size; simp [World.setCell] at this; omega
      · simpa [World.setCell] using hk
    · have := HKR7.out.below.size; have := HKR8.out.below.size; simp [World.setCell] at *; omega
  have hbx5 : w3.heap.size < w5.heap.size := blk_lt HX5.out
  have hbr5 : w1.heap.size < w3.heap.size := HRD3.out.at_lt
  have h56 : w5.heap.size ≤ w6.heap.size := HKR6.out.below.size
  have hsb1 := HSBL.out
  have hbase6 := HRD6.out.base
  have hr1 : w1.heap[w.heap.size]? = some (.cells #[.int .i64 0, .slice none 0 0, .slice none 0 0] 25 (0, 0)) := (HB1.out.block _ (by simp)).trans (blk_new _ _)
  have hnr : w.heap.size ≠ w1.heap.size := by omega
  have hres6 := HKR6.out.blk (HKR5.out.blk (HKR4.out.blk (blk_alloc (HKR3.out.blk (HKR2.out.blk (blk_alloc hr1 _) hnr) hnr) _) hnr) hnr) hnr
  have HRES6 := Aside0.mk hres6
  clear hr1 hnr hres6
  clear HX4 HX5 HX6 HX7 HX8 HRD1 HRD2 HRD3 HRD4 HRD5 HRD6 HRD7 HRD8 HKR2 HKR4 HKR5 HKR6 HKR7 HKR8 HTOT HB1 HW HN HS HSP HE1 HN1 HE2 HN2 HP2 HE3 HN3 HFS HWL HNN HL
  try clear HKR3
  have HSZ := Aside0.mk (And.intro hbx5 (And.intro hbr5 (And.intro h56 hsb1)))
  have HB6 := Aside0.mk hbase6
  have HLI0 := Aside0.mk hLI
  clear hLI hbx5 hbr5 h56 hsb1 hbase6 hc1
  go_loopw [6] (fun i wr => ∃ (n : Nat) (l : List ByteArray) (e : Bool) (acc : List S40) (vf : Value), i = .int .i64 n ∧ LI w w1.heap.size (w.heap.size + 1) w3.heap.size w6.heap.size w6 c (.slice A1 pool.length c1p) FS n l e acc vf wr) (fun i _ => (intOf i).toNat)
  case atStart => exact ⟨m3, l4, e7, [], .slice none 0 0, rfl, HLI0.out⟩
  case round =>
    obtain ⟨n, l, e, acc, vf, rfl, hli⟩ := hrel
    clear HLI0
    obtain ⟨offr, ve, hve, y0, y1, y2, y3, y4, y5⟩ := hli.rd.facts
    clear y0 y2 y3 y4 y5
    cases n with
    | zero =>
      cases e with
      | true =>
        obtain ⟨Af, cf, rfl⟩ := Kd.N_slice hli.row
        have hFSe : FS = (acc, true) := by have := hli.run; rw [forksP] at this; exact this.symm
        have hsz5 := HSZ.out
        have hVp : Kd.V Kd.string 9 wr w5.heap.size (fun k_ => w5.heap.size ≤ k_ ∧ k_ < w6.heap.size) (.slice A1 pool.length c1p) pool := Kd.V_step (Kd.V_bound HV1.out) (fun k hk _ => hli.kept k hk.2 (by omega) (by omega))
        have hokr := okRoot_lines S0 (by have := HS0.out; have := HLEN.out; rw [← HS0.out, show (strOfNums l0).size = l0.length by simp [strOfNums, ByteArray.size]]; omega)
        rw [HLIN.out] at hokr
        dsimp only at hokr
        rw [hFSe] at hokr
        dsimp only at hokr
        obtain ⟨⟨again, is2⟩, hPR⟩ : ∃ R, (if rootB c pool acc = true then (intsOf (rootText c pool acc), true) else ([], false)) = R := ⟨_, rfl⟩
        have hput := root_Put.calls c A1 c1p pool Af cf acc again is2 wr (Gl_below HG.out hli.rd.base) (Kd.V_reads' hVp).2.2 (Kd.V_reads' hVp).2.1 (Kd.N_reads' hli.row).2.2 (Kd.N_reads' hli.row).2.1 (by rw [root_Put.f, if_pos hokr, hPR])
        have z0 := blk_cell hli.box 0
        have z1 := blk_cell hli.box 1
        have z2 := blk_cell hli.box 2
        have HPUT := Aside0.mk hput
        have HPR := Aside0.mk hPR
        have HVP := Aside0.mk hVp
        have HLI := Aside0.mk hli
        have HFSE := Aside0.mk hFSe
        clear hput hVp hli hFSe hokr hsz5 hPR
        have HRESR := Aside0.mk (show wr.heap[w.heap.size]? = some (.cells #[.int .i64 0, .slice none 0 0, .slice none 0 0] 25 (0, 0)) from (HLI.out.kept _ (by have := HSZ.out; omega) (by have := HSZ.out; omega) (by have := HSZ.out; omega)).trans HRES6.out)
        go_wp2_with (first | (go_at_call 31; refine HIS.out.mono ?_; rintro e_ w10 ⟨rfl, rfl⟩) | (go_at_call 10; refine HPUT.out.mono ?_; rintro e_ w9 ⟨v9, rfl, hv9, hb9⟩; obtain ⟨A9, c9, rfl⟩ := Kd.V_slice hv9; obtain ⟨off9, ve9, hve9, y0, y1, y2, y3, y4, y5⟩ := (HLI.out.rd.later hb9).facts; have HIS := Aside0.mk (errorsIs_calls true ve9 hve9 w9); have hcv9 := Kd.C_string (c := c9) Tryd.underlying26 Tryd.underlying5 Tryd.underlying9 (Kd.V_reads' hv9).2.2; have hcv0 := HCONV.out w9 (below_step HLI.out.rd.base hb9); (rw [HS0.out] at hcv0); have hre9 := blk_below HRESR.out hb9; have k0 := blk_cell hre9 0; have k1 := blk_cell hre9 1; have k2 := blk_cell hre9 2; have kz0 := blk_frozen hre9 0; have kz1 := blk_frozen hre9 1; have kz2 := blk_frozen hre9 2; have HB9 := Aside0.mk hb9; have HRE9 := Aside0.mk hre9; clear hv9 hb9 y0 y2 y3 y4 y5 hre9 hve9))
        have hthree := three_sets w10 w.heap.size 25 (.int .i64 0) (.slice none 0 0) (.slice none 0 0) _ _ _ HRE9.out
        clear k0 k1 k2 kz0 kz1 kz2
        generalize (((w10.setCell _ _).setCell _ _).setCell _ _) = Wf at hthree ⊢
        obtain ⟨hbl, hrest, hbw⟩ := hthree
        have q0 := (blk_cell hbl 0).trans rfl
        have q1 := (blk_cell hbl 1).trans rfl
        have q2 := (blk_cell hbl 2).trans rfl
        have hfse := HFSE.out
        have hlin := HLIN.out
        rw [hfse] at hlin
        have hgp := HRES.out
        have hbase := (below_step HLI.out.rd.base HB9.out).trans hbw
        rw [getP_no hlin (by rintro ⟨h, _⟩; cases h)] at hgp
        simp only [Prod.mk.injEq] at hgp
        obtain ⟨rfl, rfl, rfl, rfl⟩ := hgp
        refine bodyPost_ret (v := .tuple #[.agg #[.int .i64 0, .slice none 0 0, .slice none 0 0], .bool false]) (by simp [results, Tryd.results12, go_sem, q0, q1, q2]) rfl ⟨_, _, rfl, Kd.V_nil _ _ _ _ _, Kd.V_nil _ _ _ _ _, hbase⟩
      | false =>
        obtain ⟨Af, cf, rfl⟩ := Kd.N_slice hli.row
        have hFSe : FS = (acc, false) := by have := hli.run; rw [forksP] at this; exact this.symm
        have hsz5 := HSZ.out
        have hVp : Kd.V Kd.string 9 wr w5.heap.size (fun k_ => w5.heap.size ≤ k_ ∧ k_ < w6.heap.size) (.slice A1 pool.length c1p) pool := Kd.V_step (Kd.V_bound HV1.out) (fun k hk _ => hli.kept k hk.2 (by omega) (by omega))
        have hokr := okRoot_lines S0 (by have := HS0.out; have := HLEN.out; rw [← HS0.out, show (strOfNums l0).size = l0.length by simp [strOfNums, ByteArray.size]]; omega)
        rw [HLIN.out] at hokr
        dsimp only at hokr
        rw [hFSe] at hokr
        dsimp only at hokr
        obtain ⟨⟨again, is2⟩, hPR⟩ : ∃ R, (if rootB c pool acc = true then (intsOf (rootText c pool acc), true) else ([], false)) = R := ⟨_, rfl⟩
        have hput := root_Put.calls c A1 c1p pool Af cf acc again is2 wr (Gl_below HG.out hli.rd.base) (Kd.V_reads' hVp).2.2 (Kd.V_reads' hVp).2.1 (Kd.N_reads' hli.row).2.2 (Kd.N_reads' hli.row).2.1 (by rw [root_Put.f, if_pos hokr, hPR])
        have z0 := blk_cell hli.box 0
        have z1 := blk_cell hli.box 1
        have z2 := blk_cell hli.box 2
        have HPUT := Aside0.mk hput
        have HPR := Aside0.mk hPR
        have HVP := Aside0.mk hVp
        have HLI := Aside0.mk hli
        have HFSE := Aside0.mk hFSe
        clear hput hVp hli hFSe hokr hsz5 hPR
        have HRESR := Aside0.mk (show wr.heap[w.heap.size]? = some (.cells #[.int .i64 0, .slice none 0 0, .slice none 0 0] 25 (0, 0)) from (HLI.out.kept _ (by have := HSZ.out; omega) (by have := HSZ.out; omega) (by have := HSZ.out; omega)).trans HRES6.out)
        cases is2 with
        | false =>
          go_wp2_with (first | (go_at_call 31; refine HIS.out.mono ?_; rintro e_ w10 ⟨rfl, rfl⟩) | (go_at_call 10; refine HPUT.out.mono ?_; rintro e_ w9 ⟨v9, rfl, hv9, hb9⟩; obtain ⟨A9, c9, rfl⟩ := Kd.V_slice hv9; obtain ⟨off9, ve9, hve9, y0, y1, y2, y3, y4, y5⟩ := (HLI.out.rd.later hb9).facts; have HIS := Aside0.mk (errorsIs_calls false ve9 hve9 w9); have hcv9 := Kd.C_string (c := c9) Tryd.underlying26 Tryd.underlying5 Tryd.underlying9 (Kd.V_reads' hv9).2.2; have hcv0 := HCONV.out w9 (below_step HLI.out.rd.base hb9); (rw [HS0.out] at hcv0); have hre9 := blk_below HRESR.out hb9; have k0 := blk_cell hre9 0; have k1 := blk_cell hre9 1; have k2 := blk_cell hre9 2; have kz0 := blk_frozen hre9 0; have kz1 := blk_frozen hre9 1; have kz2 := blk_frozen hre9 2; have HB9 := Aside0.mk hb9; have HRE9 := Aside0.mk hre9; clear hv9 hb9 y0 y2 y3 y4 y5 hre9 hve9))
          have hthree := three_sets w10 w.heap.size 25 (.int .i64 0) (.slice none 0 0) (.slice none 0 0) _ _ _ HRE9.out
          clear k0 k1 k2 kz0 kz1 kz2
          generalize (((w10.setCell _ _).setCell _ _).setCell _ _) = Wf at hthree ⊢
          obtain ⟨hbl, hrest, hbw⟩ := hthree
          have q0 := (blk_cell hbl 0).trans rfl
          have q1 := (blk_cell hbl 1).trans rfl
          have q2 := (blk_cell hbl 2).trans rfl
          have hfse := HFSE.out
          have hlin := HLIN.out
          rw [hfse] at hlin
          have hgp := HRES.out
          have hbase := (below_step HLI.out.rd.base HB9.out).trans hbw
          rw [getP_no hlin (by rintro ⟨_, h, _⟩; have := HPR.out; rw [if_pos h] at this; simp at this)] at hgp
          simp only [Prod.mk.injEq] at hgp
          obtain ⟨rfl, rfl, rfl, rfl⟩ := hgp
          refine bodyPost_ret (v := .tuple #[.agg #[.int .i64 0, .slice none 0 0, .slice none 0 0], .bool false]) (by simp [results, Tryd.results12, go_sem, q0, q1, q2]) rfl ⟨_, _, rfl, Kd.V_nil _ _ _ _ _, Kd.V_nil _ _ _ _ _, hbase⟩
        | true =>
          have h1 : rootB c pool acc = true := by have := HPR.out; by_cases h : rootB c pool acc = true; exact h; rw [if_neg h] at this; simp at this
          by_cases heq : (strOfNums again).toList = S0.toList
          · have hq1 : ((strOfNums again).toList == S0.toList) = true := beq_iff_eq.mpr heq
            have hq2 : ((strOfNums again).toList != S0.toList) = false := by rw [bne, hq1]; rfl
            have HEQ := Aside0.mk heq
            clear heq
            go_wp2_with (first | (go_at_call 31; refine HIS.out.mono ?_; rintro e_ w10 ⟨rfl, rfl⟩) | (go_at_call 10; refine HPUT.out.mono ?_; rintro e_ w9 ⟨v9, rfl, hv9, hb9⟩; obtain ⟨A9, c9, rfl⟩ := Kd.V_slice hv9; obtain ⟨off9, ve9, hve9, y0, y1, y2, y3, y4, y5⟩ := (HLI.out.rd.later hb9).facts; have HIS := Aside0.mk (errorsIs_calls false ve9 hve9 w9); have hcv9 := Kd.C_string (c := c9) Tryd.underlying26 Tryd.underlying5 Tryd.underlying9 (Kd.V_reads' hv9).2.2; have hcv0 := HCONV.out w9 (below_step HLI.out.rd.base hb9); (rw [HS0.out] at hcv0); have hre9 := blk_below HRESR.out hb9; have k0 := blk_cell hre9 0; have k1 := blk_cell hre9 1; have k2 := blk_cell hre9 2; have kz0 := blk_frozen hre9 0; have kz1 := blk_frozen hre9 1; have kz2 := blk_frozen hre9 2; have hbx9 := blk_below HLI.out.box hb9; have x0 := blk_cell hbx9 0; have x1 := blk_cell hbx9 1; have x2 := blk_cell hbx9 2; clear hbx9; have HB9 := Aside0.mk hb9; have HRE9 := Aside0.mk hre9; clear hv9 hb9 y0 y2 y3 y4 y5 hre9 hve9))
            have hthree := three_sets w10 w.heap.size 25 (.int .i64 c) (.slice A1 pool.length c1p) (.slice Af acc.length cf) _ _ _ HRE9.out
            clear k0 k1 k2 kz0 kz1 kz2
            generalize (((w10.setCell _ _).setCell _ _).setCell _ _) = Wf at hthree ⊢
            obtain ⟨hbl, hrest, hbw⟩ := hthree
            have q0 := (blk_cell hbl 0).trans rfl
            have q1 := (blk_cell hbl 1).trans rfl
            have q2 := (blk_cell hbl 2).trans rfl
            have hfse := HFSE.out
            have hlin := HLIN.out
            rw [hfse] at hlin
            have hgp := HRES.out
            have hbase := (below_step HLI.out.rd.base HB9.out).trans hbw
            have htx : again = intsOf (rootText c pool acc) := by have := HPR.out; rw [if_pos h1] at this; injection this with h2 _; exact h2.symm
            have heq := HEQ.out
            rw [htx, strOfNums_ints, toList_data, toList_data] at heq
            rw [getP_yes hlin ⟨rfl, h1, heq⟩] at hgp
            simp only [Prod.mk.injEq] at hgp
            obtain ⟨rfl, rfl, rfl, rfl⟩ := hgp
            refine bodyPost_ret (v := .tuple #[.agg #[.int .i64 c, .slice A1 pool.length c1p, .slice Af acc.length cf], .bool true]) (by simp [results, Tryd.results12, go_sem, q0, q1, q2]) rfl ⟨_, _, rfl, ?_, ?_, hbase⟩
            · exact Kd.V_mono (Kd.V_step (Kd.V_below HVP.out HB9.out) (fun k hk _ => hrest k (by have := HSZ.out; omega))) (fun k hk => by have := HSZ.out; omega)
            · exact Kd.V_mono (Kd.V_step (Kd.V_below (Kd.N_V (base' := w.heap.size) HLI.out.row) HB9.out) (fun k hk _ => hrest k (by have := HSZ.out; omega))) (fun k hk => ⟨by have := HSZ.out; omega, fun e => by have := HVO.out k e.symm; omega⟩)
          · have hq1 : ((strOfNums again).toList == S0.toList) = false := beq_eq_false_iff_ne.mpr heq
            have hq2 : ((strOfNums again).toList != S0.toList) = true := by rw [bne, hq1]; rfl
            have HEQ := Aside0.mk heq
            clear heq
            go_wp2_with (first | (go_at_call 31; refine HIS.out.mono ?_; rintro e_ w10 ⟨rfl, rfl⟩) | (go_at_call 10; refine HPUT.out.mono ?_; rintro e_ w9 ⟨v9, rfl, hv9, hb9⟩; obtain ⟨A9, c9, rfl⟩ := Kd.V_slice hv9; obtain ⟨off9, ve9, hve9, y0, y1, y2, y3, y4, y5⟩ := (HLI.out.rd.later hb9).facts; have HIS := Aside0.mk (errorsIs_calls false ve9 hve9 w9); have hcv9 := Kd.C_string (c := c9) Tryd.underlying26 Tryd.underlying5 Tryd.underlying9 (Kd.V_reads' hv9).2.2; have hcv0 := HCONV.out w9 (below_step HLI.out.rd.base hb9); (rw [HS0.out] at hcv0); have hre9 := blk_below HRESR.out hb9; have k0 := blk_cell hre9 0; have k1 := blk_cell hre9 1; have k2 := blk_cell hre9 2; have kz0 := blk_frozen hre9 0; have kz1 := blk_frozen hre9 1; have kz2 := blk_frozen hre9 2; have HB9 := Aside0.mk hb9; have HRE9 := Aside0.mk hre9; clear hv9 hb9 y0 y2 y3 y4 y5 hre9 hve9))
            have hthree := three_sets w10 w.heap.size 25 (.int .i64 0) (.slice none 0 0) (.slice none 0 0) _ _ _ HRE9.out
            clear k0 k1 k2 kz0 kz1 kz2
            generalize (((w10.setCell _ _).setCell _ _).setCell _ _) = Wf at hthree ⊢
            obtain ⟨hbl, hrest, hbw⟩ := hthree
            have q0 := (blk_cell hbl 0).trans rfl
            have q1 := (blk_cell hbl 1).trans rfl
            have q2 := (blk_cell hbl 2).trans rfl
            have hfse := HFSE.out
            have hlin := HLIN.out
            rw [hfse] at hlin
            have hgp := HRES.out
            have hbase := (below_step HLI.out.rd.base HB9.out).trans hbw
            rw [getP_no hlin (by rintro ⟨_, _, h⟩; apply HEQ.out; have htx : again = intsOf (rootText c pool acc) := (by have := HPR.out; rw [if_pos h1] at this; injection this with h2 _; exact h2.symm); rw [htx, strOfNums_ints, toList_data, toList_data]; exact h)] at hgp
            simp only [Prod.mk.injEq] at hgp
            obtain ⟨rfl, rfl, rfl, rfl⟩ := hgp
            refine bodyPost_ret (v := .tuple #[.agg #[.int .i64 0, .slice none 0 0, .slice none 0 0], .bool false]) (by simp [results, Tryd.results12, go_sem, q0, q1, q2]) rfl ⟨_, _, rfl, Kd.V_nil _ _ _ _ _, Kd.V_nil _ _ _ _ _, hbase⟩
    | succ n =>
      cases e with
      | true =>
        have hd : decide ((0 : Int) < (n : Int) + 1) = true := decide_eq_true (by omega)
        obtain ⟨ae, rfl⟩ : ∃ a : Addr, ve = .iface 84 (.pointer (some a)) := hve
        obtain ⟨Af, cf, rfl⟩ := Kd.N_slice hli.row
        have hFSe : FS = (acc, true) := by have := hli.run; rw [forksP, if_pos rfl] at this; exact this.symm
        have hsz5 := HSZ.out
        have hVp : Kd.V Kd.string 9 wr w5.heap.size (fun k_ => w5.heap.size ≤ k_ ∧ k_ < w6.heap.size) (.slice A1 pool.length c1p) pool := Kd.V_step (Kd.V_bound HV1.out) (fun k hk _ => hli.kept k hk.2 (by omega) (by omega))
        have hokr := okRoot_lines S0 (by have := HS0.out; have := HLEN.out; rw [← HS0.out, show (strOfNums l0).size = l0.length by simp [strOfNums, ByteArray.size]]; omega)
        rw [HLIN.out] at hokr
        dsimp only at hokr
        rw [hFSe] at hokr
        dsimp only at hokr
        obtain ⟨⟨again, is2⟩, hPR⟩ : ∃ R, (if rootB c pool acc = true then (intsOf (rootText c pool acc), true) else ([], false)) = R := ⟨_, rfl⟩
        have hput := root_Put.calls c A1 c1p pool Af cf acc again is2 wr (Gl_below HG.out hli.rd.base) (Kd.V_reads' hVp).2.2 (Kd.V_reads' hVp).2.1 (Kd.N_reads' hli.row).2.2 (Kd.N_reads' hli.row).2.1 (by rw [root_Put.f, if_pos hokr, hPR])
        have z0 := blk_cell hli.box 0
        have z1 := blk_cell hli.box 1
        have z2 := blk_cell hli.box 2
        have HPUT := Aside0.mk hput
        have HPR := Aside0.mk hPR
        have HVP := Aside0.mk hVp
        have HLI := Aside0.mk hli
        have HFSE := Aside0.mk hFSe
        clear hput hVp hli hFSe hokr hsz5 hPR
        have HRESR := Aside0.mk (show wr.heap[w.heap.size]? = some (.cells #[.int .i64 0, .slice none 0 0, .slice none 0 0] 25 (0, 0)) from (HLI.out.kept _ (by have := HSZ.out; omega) (by have := HSZ.out; omega) (by have := HSZ.out; omega)).trans HRES6.out)
        go_wp2_with (first | (go_at_call 31; refine HIS.out.mono ?_; rintro e_ w10 ⟨rfl, rfl⟩) | (go_at_call 10; refine HPUT.out.mono ?_; rintro e_ w9 ⟨v9, rfl, hv9, hb9⟩; obtain ⟨A9, c9, rfl⟩ := Kd.V_slice hv9; obtain ⟨off9, ve9, hve9, y0, y1, y2, y3, y4, y5⟩ := (HLI.out.rd.later hb9).facts; have HIS := Aside0.mk (errorsIs_calls true ve9 hve9 w9); have hcv9 := Kd.C_string (c := c9) Tryd.underlying26 Tryd.underlying5 Tryd.underlying9 (Kd.V_reads' hv9).2.2; have hcv0 := HCONV.out w9 (below_step HLI.out.rd.base hb9); (rw [HS0.out] at hcv0); have hre9 := blk_below HRESR.out hb9; have k0 := blk_cell hre9 0; have k1 := blk_cell hre9 1; have k2 := blk_cell hre9 2; have kz0 := blk_frozen hre9 0; have kz1 := blk_frozen hre9 1; have kz2 := blk_frozen hre9 2; have HB9 := Aside0.mk hb9; have HRE9 := Aside0.mk hre9; clear hv9 hb9 y0 y2 y3 y4 y5 hre9 hve9))
        have hthree := three_sets w10 w.heap.size 25 (.int .i64 0) (.slice none 0 0) (.slice none 0 0) _ _ _ HRE9.out
        clear k0 k1 k2 kz0 kz1 kz2
        generalize (((w10.setCell _ _).setCell _ _).setCell _ _) = Wf at hthree ⊢
        obtain ⟨hbl, hrest, hbw⟩ := hthree
        have q0 := (blk_cell hbl 0).trans rfl
        have q1 := (blk_cell hbl 1).trans rfl
        have q2 := (blk_cell hbl 2).trans rfl
        have hfse := HFSE.out
        have hlin := HLIN.out
        rw [hfse] at hlin
        have hgp := HRES.out
        have hbase := (below_step HLI.out.rd.base HB9.out).trans hbw
        rw [getP_no hlin (by rintro ⟨h, _⟩; cases h)] at hgp
        simp only [Prod.mk.injEq] at hgp
        obtain ⟨rfl, rfl, rfl, rfl⟩ := hgp
        refine bodyPost_ret (v := .tuple #[.agg #[.int .i64 0, .slice none 0 0, .slice none 0 0], .bool false]) (by simp [results, Tryd.results12, go_sem, q0, q1, q2]) rfl ⟨_, _, rfl, Kd.V_nil _ _ _ _ _, Kd.V_nil _ _ _ _ _, hbase⟩
      | false =>
        obtain rfl : ve = .nilIface := hve
        obtain ⟨Af, cf, rfl⟩ := Kd.N_slice hli.row
        obtain ⟨⟨f, l', e'⟩, hfp⟩ : ∃ R, forkP l false = R := ⟨_, rfl⟩
        have hrun := hli.run
        rw [forksP, if_neg (by simp), hfp] at hrun
        dsimp only at hrun
        have hcnt := hli.cnt0 rfl
        have hbig : n ≤ 1099511627776 := by have := hli.big; omega
        have z2 := blk_cell hli.box 2
        have hd : decide ((0 : Int) < (n : Int) + 1) = true := decide_eq_true (by omega)
        have HLI := Aside0.mk hli
        have HFP := Aside0.mk hfp
        have HRUN := Aside0.mk hrun
        have HCNT := Aside0.mk hcnt
        clear hli hfp hrun hcnt
        have hbrn : w3.heap.size ≠ w1.heap.size := by have := HSZ.out; omega
        have HBRN := Aside0.mk hbrn
        have HRN := Aside0.mk (show w1.heap.size < w6.heap.size by have := HSZ.out; omega)
        have HBXN := Aside0.mk (show w3.heap.size < w6.heap.size by have := HSZ.out; omega)
        have HOKP := Aside0.mk (show ∀ k, wr.heap.size ≤ k → w6.heap.size ≤ k ∧ some k ≠ (Value.slice Af acc.length cf).ownBlock from fun k hk => ⟨Nat.le_trans HLI.out.size hk, fun e => by have := Kd.N_lt HLI.out.row k e.symm; omega⟩)
        have HBIG := Aside0.mk (show (acc.length + 1) * 88 ≤ 140737488355328 by have := HCNT.out; omega)
        clear hbrn
        go_wp2
        refine start_ (n := 8) (S := fun w' => w'.cell? ⟨w3.heap.size, 2, none⟩ = some (.slice Af acc.length cf)) (ds := [7]) #[false, false, false, false, false, false, false, false] (by kernel_rfl) rfl rfl (z2) (fun hHeld => ?_)
        refine pure_ (i := 0) (N := some 47) (v := ?_) (a' := ?_) #[true, false, false, false, false, false, false, false] rfl rfl (by kernel_rfl) (fun _ _ _ h => h) (Or.inl ⟨by rfl, ?_⟩) ?_ ?_
        rotate_left
        · intro w'
          go_simp
          with_reducible rfl
        rotate_left
        · simp only [Act.put, List.setIfInBounds_toArray, List.set_cons_zero, List.set_cons_succ, i64_w, i32_w]
          rfl
        refine pure_ (i := 2) (N := some 49) (v := ?_) (a' := ?_) #[true, false, true, false, false, false, false, false] rfl rfl (by kernel_rfl) (fun _ _ _ h => h) (Or.inl ⟨by rfl, ?_⟩) ?_ ?_
        rotate_left
        · intro w'
          go_simp
          with_reducible rfl
        rotate_left
        · simp only [Act.put, List.setIfInBounds_toArray, List.set_cons_zero, List.set_cons_succ, i64_w, i32_w]
          rfl
        refine take_ (i := 1) (N := some 48) (v := ?_) (a' := ?_) #[true, true, true, false, false, false, false, false] rfl rfl (by kernel_rfl) (fun _ _ _ h => h) (Or.inl ⟨by rfl, ?_⟩) hHeld ?_ ?_
        rotate_left
        · intro w' s0
          go_simp
          with_reducible rfl
        rotate_left
        · simp only [Act.put, List.setIfInBounds_toArray, List.set_cons_zero, List.set_cons_succ, i64_w, i32_w]
          rfl
        refine one_ (i := 3) (N := some 50) #[true, true, true, true, false, false, false, false] rfl rfl (by kernel_rfl) (by decide) (fun K hK => ?_)
        refine goes_ Tryd.func30 (by kernel_rfl) rfl #[.pointer (some ⟨w1.heap.size, 0, none⟩)] (by rfl) rfl rfl (by simp only [List.map_toArray, List.map_cons, List.map_nil]; rfl) ?_
        with_reducible refine (HFORK.out (HLI.out.rd.later (below_drew (Below.refl _ _))) HFP.out HLI.out.tot).mono ?_
        rintro e wf ⟨v3, v4, rfl, hv3, hv4, hrdf, hkrf⟩
        refine ⟨_, rfl, ?_⟩
        obtain ⟨A3, c3, rfl⟩ := Kd.V_slice hv3
        obtain ⟨A4, c4, rfl⟩ := Kd.V_slice hv4
        have hbf := hkrf.blk (show wr.drew.heap[w3.heap.size]? = _ from HLI.out.box) HBRN.out
        have z2f := blk_cell hbf 2
        have za := fun o => blk_cell (blk_alloc hbf o) 2
        have HFK := Aside0.mk (k40_mkF wf (fun k => wr.heap.size ≤ k) f (Kd.V_at hv3).2.1 (Kd.V_at hv3).2.2 (Kd.V_at hv4).2.1 (Kd.V_at hv4).2.2)
        have HROW := Aside0.mk (Kd.N_step HLI.out.row (fun k hk hlt => hkrf.keep k hlt (by have := HRN.out; omega)))
        have HSF := Aside0.mk (Nat.le_trans HLI.out.size hkrf.below.size)
        have HFR := Aside0.mk (fun (k : Nat) (hk : wf.heap.size ≤ k) => Nat.le_trans HSF.out hk)
        have HBF := Aside0.mk hbf
        have HRDF := Aside0.mk hrdf
        have HKRF := Aside0.mk hkrf
        clear hbf hv3 hv4 hrdf hkrf
        refine hK.out _ _ (z2f) (fun hHeld => ?_)
        clear hK K
        refine norm_ (a' := ?_) ?_ ?_
        rotate_left
        · show Act.put _ (some 50) _ = _
          simp only [Act.put, List.setIfInBounds_toArray, List.set_cons_zero, List.set_cons_succ, i64_w, i32_w]
          rfl
        refine one_ (i := 4) (N := some 51) #[true, true, true, true, true, false, false, false] rfl rfl (by kernel_rfl) (by decide) (fun K hK => ?_)
        refine value_ (w1 := ?_) (v := ?_) (by rfl) rfl ?_ ?_
        rotate_left 2
        · go_simp
          constructor
          · rfl
          · rfl
        refine hK.out _ _ (za _) (fun hHeld => ?_)
        clear hK K
        refine norm_ (a' := ?_) ?_ ?_
        rotate_left
        · show Act.put _ (some 51) _ = _
          simp only [Act.put, List.setIfInBounds_toArray, List.set_cons_zero, List.set_cons_succ, i64_w, i32_w]
          rfl
        refine one_ (i := 5) (N := some 52) #[true, true, true, true, true, true, false, false] rfl rfl (by kernel_rfl) (by decide) (fun K hK => ?_)
        refine Kd.N_append_step k40 (W := wf) (w0 := wf) w6.heap.size (by rfl) (.tmp 48) (.tmp 51) 23 40 _ 88 rfl Tryd.underlying23 info40 rfl (by decide) (by decide) (.slice Af acc.length cf) acc f [.string f.f0, .bool f.f1, .string f.f2, .slice A3 f.f3.length c3, .slice A4 f.f4.length c4] (fun k => w6.heap.size ≤ k) (fun k => wr.heap.size ≤ k) (by rfl) (by rfl) HFK.out HOKP.out HFR.out HROW.out (Below.refl _ _) HSF.out HBIG.out ?_
        intro vn wn hNn hbn hgn hatn
        obtain ⟨An, cn, rfl⟩ := Kd.N_slice hNn
        have hbxn := (hbn.block _ HBXN.out).trans HBF.out
        have qs := blk_cell hbxn 2
        have qsz := blk_frozen hbxn 2
        have HBXNN := Aside0.mk hbxn
        have HNN2 := Aside0.mk hNn
        have HBN := Aside0.mk hbn
        have HGN := Aside0.mk hgn
        clear hbxn hNn hbn hgn hatn
        refine hK.out _ _ (qs) (fun hHeld => ?_)
        clear hK K
        refine norm_ (a' := ?_) ?_ ?_
        rotate_left
        · show Act.put _ (some 52) _ = _
          simp only [Act.put, List.setIfInBounds_toArray, List.set_cons_zero, List.set_cons_succ, i64_w, i32_w]
          rfl
        refine pure_ (i := 6) (N := some 53) (v := ?_) (a' := ?_) #[true, true, true, true, true, true, true, false] rfl rfl (by kernel_rfl) (fun _ _ _ h => h) (Or.inl ⟨by rfl, ?_⟩) ?_ ?_
        rotate_left
        · intro w'
          go_simp
          with_reducible rfl
        rotate_left
        · simp only [Act.put, List.setIfInBounds_toArray, List.set_cons_zero, List.set_cons_succ, i64_w, i32_w]
          rfl
        refine last_ (i := 7) (N := none) #[true, true, true, true, true, true, true, true] rfl rfl (by kernel_rfl) (by decide) (fun K hK => ?_)
        refine skip_ (w1 := ?_) (by rfl) rfl ?_ ?_
        rotate_left
        · go_simp
          rfl
        refine hK.out _ _ ?_
        clear hK K
        refine done_ (by kernel_rfl) ?_
        all_goals
          have hrx := HSZ.out
          have hfp2 := HFP.out
          go_wp2
          go_roundw
          case rel =>
            have hNN3 : Kd.N k40 40 wn w6.heap.size (fun k => w6.heap.size ≤ k) (.slice An (acc.length + 1) cn) (acc ++ [f]) := by have h3 := HNN2.out; rw [List.length_append] at h3; exact h3
            refine ⟨n, l', e', acc ++ [f], .slice An (acc.length + 1) cn, by go_num, ?_⟩
            have hft := forkP_tot l false
            rw [hfp2] at hft
            refine ⟨(HRDF.out.under HBN.out HRN.out (by omega)).under (B := w3.heap.size) (Below.setCell (Below.refl _ _) (p := ⟨w3.heap.size, 2, none⟩) (Nat.le_refl _) _) (by omega) (by omega), Nat.le_trans hft HLI.out.tot, fun he => ?_, ?_, HRUN.out, blk_put HBXNN.out 2 _ rfl, Kd.N_far hNN3 (fun k hk => by show k ≠ w3.heap.size; have := HBXN.out; omega) _, fun k hk h1 h2 => ?_, ?_, by omega⟩
            · have hfl := forkP_less l false (by rw [hfp2]; exact he)
              rw [hfp2] at hfl
              have := HCNT.out
              simp only [List.length_append, List.length_cons, List.length_nil]
              dsimp only at hfl
              omega
            · have := HCNT.out
              simp only [List.length_append, List.length_cons, List.length_nil]
              omega
            · exact (Below.heap_setCell _ _ _ _ h2).trans ((HBN.out.block k hk).trans ((HKRF.out.keep k (Nat.lt_of_lt_of_le hk HLI.out.size) h1).trans (HLI.out.kept k hk h1 h2)))
            · have h1 := HBN.out.size
              have h2 := HSF.out
              simp only [World.setCell, Array.size_modify]
              omega
          case measure => simp [intOf]; try omega
end Go.Proofs.YtgmddlbbmlneaaaDoor.PR

/- root.Find: a fork's place by its name. -/
namespace Go.Proofs.YtgmddlbbmlneaaaDoor.PR
open Go.RowKit Go.Shelf Go.Proofs.YtgmddlbbmlneaaaDoorW.PrintWords Go.Proofs.YtgmddlbbmlneaaaDoorW.PrintLast Go.Proofs.YtgmddlbbmlneaaaDoorW.PrintMore
set_option linter.unusedVariables false

def findB (l : List S40) (name : ByteArray) : Int := idxP (fun x => x.f0.toList == name.toList) l 0
def root_Find.f (a0_0 : Int) (l0_1 : List ByteArray) (l0_2 : List (S40)) (a1 : ByteArray) : Option (Int) := some (findB l0_2 a1)

theorem find_closure (name : ByteArray) (g : Nat) (l : List S40) (w : World) (hg : w.cell? ⟨g, 0, none⟩ = some (.string name)) :
    PredT40 35 #[.pointer (some ⟨g, 0, none⟩)] (fun x => x.f0.toList == name.toList) l w := by
  intro W y A3 c3 A4 c4 hy hb
  have hgW := pw_cell_below hb hg
  clear hy hb hg
  show Calls Tryd.prog 35 #[.agg #[.string y.f0, .bool y.f1, .string y.f2, .slice A3 y.f3.length c3, .slice A4 y.f4.length c4], .pointer (some ⟨g, 0, none⟩)] W _
  have hgA : ∀ o, (W.alloc o).cell? ⟨g, 0, none⟩ = some (.string name) := fun o => pw_cell_below (below_alloc (Below.refl _ _) o) hgW
  go_enter Tryd.func35, Tryd.ntmps35
  go_wp2
  go_ret
  exact ⟨rfl, below_alloc (Below.refl _ _) _⟩

set_option maxRecDepth 100000 in
theorem root_Find.calls (a0_0 : Int) (A0_1 : Option Addr) (c0_1 : Nat) (l0_1 : List ByteArray) (A0_2 : Option Addr) (c0_2 : Nat) (l0_2 : List (S40)) (a1 : ByteArray) (r : Int) (w : World) (hr0_1 : Kd.C Kd.string w A0_1 l0_1.length l0_1) (hc0_1 : l0_1.length ≤ c0_1) (hr0_2 : Kd.C k40 w A0_2 l0_2.length l0_2) (hc0_2 : l0_2.length ≤ c0_2) (h : root_Find.f a0_0 l0_1 l0_2 a1 = some r) :
    Calls Tryd.prog 14 #[.agg #[.int .i64 a0_0, .slice A0_1 l0_1.length c0_1, .slice A0_2 l0_2.length c0_2], .string a1] w fun e w' => e = .returned (.int .i64 r) ∧ Below w.heap.size w w' := by
  have HR2 := Aside0.mk hr0_2
  have hbig : l0_2.length ≤ 9223372036854775807 := hr0_2.2.1
  clear hr0_1 hc0_1 hr0_2 hc0_2
  have HRES := Aside0.mk (Option.some.inj h)
  clear h
  go_enter Tryd.func14, Tryd.ntmps14
  have hb1 : Below w.heap.size w ((w.alloc (.cells #[.int .i64 a0_0, .slice A0_1 l0_1.length c0_1, .slice A0_2 l0_2.length c0_2] 25)).alloc (.cells #[.string a1] 9)) := below_alloc (below_alloc (Below.refl _ _) _) _
  have hcell : ((w.alloc (.cells #[.int .i64 a0_0, .slice A0_1 l0_1.length c0_1, .slice A0_2 l0_2.length c0_2] 25)).alloc (.cells #[.string a1] 9)).cell? ⟨w.heap.size + 1, 0, none⟩ = some (.string a1) := by
    have h := blk_cell (heap_alloc_new (w.alloc (.cells #[.int .i64 a0_0, .slice A0_1 l0_1.length c0_1, .slice A0_2 l0_2.length c0_2] 25)) (.cells #[.string a1] 9)) 0
    rw [World.size_alloc] at h
    rw [h]; rfl
  have hix := indexFunc_T40 (fun x => x.f0.toList == a1.toList) 35 #[.pointer (some ⟨w.heap.size + 1, 0, none⟩)] (enters_of Tryd.func35 (by kernel_rfl) rfl) A0_2 c0_2 l0_2 _ (find_closure a1 _ l0_2 _ hcell) (Kd.C_below HR2.out hb1) hbig
  have HIX := Aside0.mk hix
  have HB1 := Aside0.mk hb1
  clear hix hb1 hcell
  go_wp2_with (go_at_call 34; refine HIX.out.mono ?_; rintro e w' ⟨rfl, hb'⟩)
  go_ret
  exact ⟨by rw [← HRES.out]; rfl, below_step HB1.out hb'⟩
end Go.Proofs.YtgmddlbbmlneaaaDoor.PR

/- What the live question's own inputs give, reckoned. -/
namespace Go.Proofs.YtgmddlbbmlneaaaDoor.PR
open Go.RowKit Go.Proofs.YtgmddlbbmlneaaaDoorW.PrintWords Go.Proofs.YtgmddlbbmlneaaaDoorW.PrintLast Go.Proofs.YtgmddlbbmlneaaaDoorW.PrintMore
set_option linter.unusedVariables false
def headB1 : List UInt8 := [110, 101, 116, 32, 51, 10, 112, 111, 111, 108, 32, 48, 10, 102, 111, 114, 107, 115, 32, 49, 10, 102, 111, 114, 107, 32, 97, 32, 108, 105, 110, 107, 101, 100, 32, 104, 101, 97, 100, 115, 47, 109, 32, 48, 32, 48, 10]
def headB2 : List UInt8 := [110, 101, 116, 32, 51, 10, 112, 111, 111, 108, 32, 48, 10, 102, 111, 114, 107, 115, 32, 49, 10]
def headF : S40 := ⟨⟨#[97]⟩, true, ⟨#[104, 101, 97, 100, 115, 47, 109]⟩, [], []⟩
theorem head_put : rootB 0 [] [] = true ∧ rootText 0 [] [] = [110, 101, 116, 32, 48, 10, 112, 111, 111, 108, 32, 48, 10, 102, 111, 114, 107, 115, 32, 48, 10] := ⟨by kernel_rfl, by kernel_rfl⟩
theorem head_lines : linesP ⟨headB1.toArray⟩ = (3, [], [headF], false) := by kernel_rfl
theorem head_lines2 : (linesP ⟨headB2.toArray⟩).2.2.2 = true := by kernel_rfl
theorem head_right : rootB 3 [] [headF] = true := by kernel_rfl
theorem head_text : rootText 3 [] [headF] = headB1 := by kernel_rfl
theorem head_wrong : rootB 0 [] [⟨⟨#[97]⟩, false, ⟨#[116, 97, 103, 115, 47, 109]⟩, [], []⟩] = false := by kernel_rfl
end Go.Proofs.YtgmddlbbmlneaaaDoor.PR
