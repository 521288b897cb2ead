/- sacristylaw10.RootBack: for every root and all bytes the call returns true and leaves its arguments as they were; the listed variables hold what the card ties to the program's text. -/
import Derived.Test.YtgmddlbbmlneaaaDoorBk1
import Derived.Test.YtgmddlbbmlneaaaDoorBk4
import Derived.Test.YtgmddlbbmlneaaaDoorBk3
import Derived.Deep.Slices
import Derived.Deep.Fields
import Derived.ChangeSame
import Derived.ChangeSlices
import Derived.Lib.SmallJoins
import Derived.Test.YtgmddlbbmlneaaaDoorWSized
set_option linter.all false
namespace Go.Proofs.YtgmddlbbmlneaaaDoor.PR
open Go.RowKit Go.Proofs.YtgmddlbbmlneaaaDoorW.PrintWords Go.Proofs.YtgmddlbbmlneaaaDoorW.PrintLast Go.Proofs.YtgmddlbbmlneaaaDoorW.PrintMore
attribute [local go_sem] max2_int min2_int max_two min_two max_three min_three max_four min_four   -- for this text's walks alone
set_option linter.unusedVariables false
set_option linter.unusedSimpArgs false

/-! ### sacristylaw10_Great: function 9 -/
mutual
def sacristylaw10_Great.j1 : Nat → Int → Int → List ByteArray → List (S40) → Option (Bool)
  | 0, _, _, _, _ => none
  | k + 1, x3, x124000, x124001, x124002 => sacristylaw10_Great.l1 k x3 0 x124000 x124001 x124002
def sacristylaw10_Great.l1 : Nat → Int → Int → Int → List ByteArray → List (S40) → Option (Bool)
  | 0, _, _, _, _, _ => none
  | k + 1, x3, x5, x124000, x124001, x124002 => if x5 < (x124002.length : Int) then (sacristylaw10_Great.j3 k x3 x5 (decide (x3 < 20000)) x124000 x124001 x124002) else (sacristylaw10_Great.j3 k x3 x5 false x124000 x124001 x124002)
def sacristylaw10_Great.j3 : Nat → Int → Int → Bool → Int → List ByteArray → List (S40) → Option (Bool)
  | 0, _, _, _, _, _, _ => none
  | k + 1, x3, x5, x43, x124000, x124001, x124002 => if x43 = true then (if 0 ≤ x5 then (if x5 < (x124002.length : Int) then (sacristylaw10_Great.l2 k (wrap64 ((wrap64 ((wrap64 ((wrap64 (x3 + 1)) + (mn (((rd_T40 x124002 x5).f0).size : Int) 20000))) + (mn (((rd_T40 x124002 x5).f2).size : Int) 20000))) + (((rd_T40 x124002 x5).f4).length : Int))) x5 0 x124000 x124001 x124002 ((rd_T40 x124002 x5).f0) ((rd_T40 x124002 x5).f1) ((rd_T40 x124002 x5).f2) ((rd_T40 x124002 x5).f3) ((rd_T40 x124002 x5).f4)) else (none)) else (none)) else (if x3 ≥ 20000 then (some true) else (some (decide ((x124002.length : Int) > 40))))
def sacristylaw10_Great.l2 : Nat → Int → Int → Int → Int → List ByteArray → List (S40) → ByteArray → Bool → ByteArray → List (S76) → List ByteArray → Option (Bool)
  | 0, _, _, _, _, _, _, _, _, _, _, _ => none
  | k + 1, x3, x5, x7, x124000, x124001, x124002, x127000, x127001, x127002, x127003, x127004 => if x7 < (x127004.length : Int) then (if x3 < 20000 then (if 0 ≤ x7 then (sacristylaw10_Great.l2 k (wrap64 (x3 + (mn ((rdOf ByteArray.empty x127004 x7).size : Int) 20000))) x5 (wrap64 (x7 + 1)) x124000 x124001 x124002 x127000 x127001 x127002 x127003 x127004) else (none)) else ((sacristylaw09_Great.f k x127003).bind fun t128 => (if t128 = true then (some true) else (sacristylaw10_Great.l1 k x3 (wrap64 (x5 + 1)) x124000 x124001 x124002)))) else ((sacristylaw09_Great.f k x127003).bind fun t129 => (if t129 = true then (some true) else (sacristylaw10_Great.l1 k x3 (wrap64 (x5 + 1)) x124000 x124001 x124002)))
def sacristylaw10_Great.l0 : Nat → Int → Int → Int → List ByteArray → List (S40) → Option (Bool)
  | 0, _, _, _, _, _ => none
  | k + 1, x3, x4, x124000, x124001, x124002 => if x4 < (x124001.length : Int) then (if x3 < 20000 then (if 0 ≤ x4 then (sacristylaw10_Great.l0 k (wrap64 (x3 + (mn ((rdOf ByteArray.empty x124001 x4).size : Int) 20000))) (wrap64 (x4 + 1)) x124000 x124001 x124002) else (none)) else (sacristylaw10_Great.j1 k x3 x124000 x124001 x124002)) else (sacristylaw10_Great.j1 k x3 x124000 x124001 x124002)
end
def sacristylaw10_Great.f (k : Nat) (a0_0 : Int) (l0_1 : List ByteArray) (l0_2 : List (S40)) : Option (Bool) := sacristylaw10_Great.l0 k (wrap64 ((l0_1.length : Int) + (l0_2.length : Int))) 0 a0_0 l0_1 l0_2
theorem sacristylaw10_Great.mono_l : ∀ k, (∀ y0 y1 y2 y3, LeO (sacristylaw10_Great.j1 k y0 y1 y2 y3) (sacristylaw10_Great.j1 (k + 1) y0 y1 y2 y3)) ∧ (∀ y0 y1 y2 y3 y4, LeO (sacristylaw10_Great.l1 k y0 y1 y2 y3 y4) (sacristylaw10_Great.l1 (k + 1) y0 y1 y2 y3 y4)) ∧ (∀ y0 y1 y2 y3 y4 y5, LeO (sacristylaw10_Great.j3 k y0 y1 y2 y3 y4 y5) (sacristylaw10_Great.j3 (k + 1) y0 y1 y2 y3 y4 y5)) ∧ (∀ y0 y1 y2 y3 y4 y5 y6 y7 y8 y9 y10, LeO (sacristylaw10_Great.l2 k y0 y1 y2 y3 y4 y5 y6 y7 y8 y9 y10) (sacristylaw10_Great.l2 (k + 1) y0 y1 y2 y3 y4 y5 y6 y7 y8 y9 y10)) ∧ (∀ y0 y1 y2 y3 y4, LeO (sacristylaw10_Great.l0 k y0 y1 y2 y3 y4) (sacristylaw10_Great.l0 (k + 1) y0 y1 y2 y3 y4))
  | 0 => ⟨fun _ _ _ _ r h => by simp [sacristylaw10_Great.j1] at h, fun _ _ _ _ _ r h => by simp [sacristylaw10_Great.l1] at h, fun _ _ _ _ _ _ r h => by simp [sacristylaw10_Great.j3] at h, fun _ _ _ _ _ _ _ _ _ _ _ r h => by simp [sacristylaw10_Great.l2] at h, fun _ _ _ _ _ r h => by simp [sacristylaw10_Great.l0] at h⟩
  | k + 1 => by
    obtain ⟨ih0, ih1, ih2, ih3, ih4⟩ := sacristylaw10_Great.mono_l k
    refine ⟨?_, ?_, ?_, ?_, ?_⟩
    · intro y0 y1 y2 y3
      unfold sacristylaw10_Great.j1
      repeat' first
      | (with_reducible exact ih0 _ _ _ _)
      | (with_reducible exact ih1 _ _ _ _ _)
      | (with_reducible exact ih2 _ _ _ _ _ _)
      | (with_reducible exact ih3 _ _ _ _ _ _ _ _ _ _ _)
      | (with_reducible exact ih4 _ _ _ _ _)
      | (with_reducible exact sacristylaw09_Great.mono _ _)
      | (with_reducible exact LeO.refl _)
      | (with_reducible exact LeO.none _)
      | (with_reducible refine LeO.ite ?_ ?_)
      | (with_reducible refine LeO.bind ?_ (fun _ => ?_))
      | exact ih0 _ _ _ _
      | exact ih1 _ _ _ _ _
      | exact ih2 _ _ _ _ _ _
      | exact ih3 _ _ _ _ _ _ _ _ _ _ _
      | exact ih4 _ _ _ _ _
      | exact sacristylaw09_Great.mono _ _
      | exact LeO.none _
      | refine LeO.ite ?_ ?_
      | refine LeO.bind ?_ (fun _ => ?_)
    · intro y0 y1 y2 y3 y4
      unfold sacristylaw10_Great.l1
      repeat' first
      | (with_reducible exact ih0 _ _ _ _)
      | (with_reducible exact ih1 _ _ _ _ _)
      | (with_reducible exact ih2 _ _ _ _ _ _)
      | (with_reducible exact ih3 _ _ _ _ _ _ _ _ _ _ _)
      | (with_reducible exact ih4 _ _ _ _ _)
      | (with_reducible exact sacristylaw09_Great.mono _ _)
      | (with_reducible exact LeO.refl _)
      | (with_reducible exact LeO.none _)
      | (with_reducible refine LeO.ite ?_ ?_)
      | (with_reducible refine LeO.bind ?_ (fun _ => ?_))
      | exact ih0 _ _ _ _
      | exact ih1 _ _ _ _ _
      | exact ih2 _ _ _ _ _ _
      | exact ih3 _ _ _ _ _ _ _ _ _ _ _
      | exact ih4 _ _ _ _ _
      | exact sacristylaw09_Great.mono _ _
      | exact LeO.none _
      | refine LeO.ite ?_ ?_
      | refine LeO.bind ?_ (fun _ => ?_)
    · intro y0 y1 y2 y3 y4 y5
      unfold sacristylaw10_Great.j3
      repeat' first
      | (with_reducible exact ih0 _ _ _ _)
      | (with_reducible exact ih1 _ _ _ _ _)
      | (with_reducible exact ih2 _ _ _ _ _ _)
      | (with_reducible exact ih3 _ _ _ _ _ _ _ _ _ _ _)
      | (with_reducible exact ih4 _ _ _ _ _)
      | (with_reducible exact sacristylaw09_Great.mono _ _)
      | (with_reducible exact LeO.refl _)
      | (with_reducible exact LeO.none _)
      | (with_reducible refine LeO.ite ?_ ?_)
      | (with_reducible refine LeO.bind ?_ (fun _ => ?_))
      | exact ih0 _ _ _ _
      | exact ih1 _ _ _ _ _
      | exact ih2 _ _ _ _ _ _
      | exact ih3 _ _ _ _ _ _ _ _ _ _ _
      | exact ih4 _ _ _ _ _
      | exact sacristylaw09_Great.mono _ _
      | exact LeO.none _
      | refine LeO.ite ?_ ?_
      | refine LeO.bind ?_ (fun _ => ?_)
    · intro y0 y1 y2 y3 y4 y5 y6 y7 y8 y9 y10
      unfold sacristylaw10_Great.l2
      repeat' first
      | (with_reducible exact ih0 _ _ _ _)
      | (with_reducible exact ih1 _ _ _ _ _)
      | (with_reducible exact ih2 _ _ _ _ _ _)
      | (with_reducible exact ih3 _ _ _ _ _ _ _ _ _ _ _)
      | (with_reducible exact ih4 _ _ _ _ _)
      | (with_reducible exact sacristylaw09_Great.mono _ _)
      | (with_reducible exact LeO.refl _)
      | (with_reducible exact LeO.none _)
      | (with_reducible refine LeO.ite ?_ ?_)
      | (with_reducible refine LeO.bind ?_ (fun _ => ?_))
      | exact ih0 _ _ _ _
      | exact ih1 _ _ _ _ _
      | exact ih2 _ _ _ _ _ _
      | exact ih3 _ _ _ _ _ _ _ _ _ _ _
      | exact ih4 _ _ _ _ _
      | exact sacristylaw09_Great.mono _ _
      | exact LeO.none _
      | refine LeO.ite ?_ ?_
      | refine LeO.bind ?_ (fun _ => ?_)
    · intro y0 y1 y2 y3 y4
      unfold sacristylaw10_Great.l0
      repeat' first
      | (with_reducible exact ih0 _ _ _ _)
      | (with_reducible exact ih1 _ _ _ _ _)
      | (with_reducible exact ih2 _ _ _ _ _ _)
      | (with_reducible exact ih3 _ _ _ _ _ _ _ _ _ _ _)
      | (with_reducible exact ih4 _ _ _ _ _)
      | (with_reducible exact sacristylaw09_Great.mono _ _)
      | (with_reducible exact LeO.refl _)
      | (with_reducible exact LeO.none _)
      | (with_reducible refine LeO.ite ?_ ?_)
      | (with_reducible refine LeO.bind ?_ (fun _ => ?_))
      | exact ih0 _ _ _ _
      | exact ih1 _ _ _ _ _
      | exact ih2 _ _ _ _ _ _
      | exact ih3 _ _ _ _ _ _ _ _ _ _ _
      | exact ih4 _ _ _ _ _
      | exact sacristylaw09_Great.mono _ _
      | exact LeO.none _
      | refine LeO.ite ?_ ?_
      | refine LeO.bind ?_ (fun _ => ?_)
theorem sacristylaw10_Great.mono : ∀ a0 a1 a2 k, LeO (sacristylaw10_Great.f k a0 a1 a2) (sacristylaw10_Great.f (k + 1) a0 a1 a2) := by
  intro a0 a1 a2 k
  obtain ⟨ih0, ih1, ih2, ih3, ih4⟩ := sacristylaw10_Great.mono_l k
  unfold sacristylaw10_Great.f
  repeat' first
      | (with_reducible exact ih0 _ _ _ _)
      | (with_reducible exact ih1 _ _ _ _ _)
      | (with_reducible exact ih2 _ _ _ _ _ _)
      | (with_reducible exact ih3 _ _ _ _ _ _ _ _ _ _ _)
      | (with_reducible exact ih4 _ _ _ _ _)
      | (with_reducible exact sacristylaw09_Great.mono _ _)
      | (with_reducible exact LeO.refl _)
      | (with_reducible exact LeO.none _)
      | (with_reducible refine LeO.ite ?_ ?_)
      | (with_reducible refine LeO.bind ?_ (fun _ => ?_))
      | exact ih0 _ _ _ _
      | exact ih1 _ _ _ _ _
      | exact ih2 _ _ _ _ _ _
      | exact ih3 _ _ _ _ _ _ _ _ _ _ _
      | exact ih4 _ _ _ _ _
      | exact sacristylaw09_Great.mono _ _
      | exact LeO.none _
      | refine LeO.ite ?_ ?_
      | refine LeO.bind ?_ (fun _ => ?_)
set_option maxHeartbeats 8000000 in
set_option maxRecDepth 100000 in
theorem sacristylaw10_Great.calls (k : Nat) (a0_0 : Int) (A0_1 : Option Addr) (c0_1 : Nat) (l0_1 : List ByteArray) (A0_2 : Option Addr) (c0_2 : Nat) (l0_2 : List (S40)) (r : Bool) (w : World) (hr0_1 : Kd.C Kd.string w A0_1 l0_1.length l0_1) (hc0_1 : l0_1.length ≤ c0_1) (hr0_2 : Kd.C k40 w A0_2 l0_2.length l0_2) (hc0_2 : l0_2.length ≤ c0_2) (h : sacristylaw10_Great.f k a0_0 l0_1 l0_2 = some r) :
    Calls Tryd.prog 9 #[.agg #[.int .i64 a0_0, .slice A0_1 l0_1.length c0_1, .slice A0_2 l0_2.length c0_2]] w fun e w' => e = .returned (.bool r) ∧ Below w.heap.size w w' := by
  have hu25 := Tryd.underlying25
  have hu40 := Tryd.underlying40
  have HR0_1 := Aside0.mk hr0_1
  have HC0_1 := Aside0.mk hc0_1
  clear hr0_1 hc0_1
  have HR0_2 := Aside0.mk hr0_2
  have HC0_2 := Aside0.mk hc0_2
  clear hr0_2 hc0_2
  have HB := Aside0.mk (Below.refl w.heap.size w)
  have H : (sacristylaw10_Great.l0 k (wrap64 ((l0_1.length : Int) + (l0_2.length : Int))) 0 a0_0 l0_1 l0_2) = some r := h
  clear h
  have HC2 := Aside0.mk H
  clear H
  go_enter Tryd.func9, Tryd.ntmps9
  go_upto_block 0 with (first | ((with_reducible refine gate_dst (N := 1) rfl ?_); (try (refine gate_guard (by rfl) ?_; dsimp only)); refine box_event ?hg (N := 1) ?hd (cs := #[.int .i64 a0_0, .slice A0_1 l0_1.length c0_1, .slice A0_2 l0_2.length c0_2]) (t := 25) ?hr ?_; (case hd => rfl); (case hg => rfl); (case hr => first | (go_simp; done) | (go_simp; rfl)); intro gb123 hg w3 hbox hb; have n0_ := Aside0.mk (below_step (by repeat (first | (with_reducible first | exact HB.out | apply below_alloc | apply pw_below_drewN | apply below_drew1) | exact HB.out)) hb); have n1_ := Aside0.mk (hbox); have n2_ := Aside0.mk ((by rw [hg]; exact (below_size (by repeat (first | (with_reducible first | exact HB.out | apply below_alloc | apply pw_below_drewN | apply below_drew1) | exact HB.out))) : w.heap.size ≤ gb123)); have n3_ := Aside0.mk ((by rw [hg]; exact (below_size (by repeat (first | (with_reducible first | exact HB.out | apply below_alloc | apply pw_below_drewN | apply below_drew1) | exact HB.out))) : w.heap.size ≤ gb123)); clear HB; have HB := n0_; have BK123 := n1_; have GW123 := n2_; have GE123 := n3_; clear n0_ n1_ n2_ n3_; clear hb hbox hg; have hcz4_0 : w3.cell? ⟨gb123, 0, none⟩ = some (.int .i64 a0_0) := (blk_cell BK123.out 0).trans rfl; have hcz4_1 : w3.cell? ⟨gb123, 1, none⟩ = some (.slice A0_1 l0_1.length c0_1) := (blk_cell BK123.out 1).trans rfl; have hcz4_2 : w3.cell? ⟨gb123, 2, none⟩ = some (.slice A0_2 l0_2.length c0_2) := (blk_cell BK123.out 2).trans rfl; have hfz4_0 := blk_frozen BK123.out 0; have hfz4_1 := blk_frozen BK123.out 1; have hfz4_2 := blk_frozen BK123.out 2))
  (try simp only [Act.put, List.setIfInBounds_toArray, List.set_cons_zero, List.set_cons_succ])
  go_cut [3] (fun v3 wc => ∃ (kq : Nat) (x3_1 : Int), v3 = .int .i64 x3_1 ∧ Aside0 (sacristylaw10_Great.j1 kq x3_1 a0_0 l0_1 l0_2 = some r) ∧ Aside0 (kq ≤ k) ∧ Aside0 (wc.heap[gb123]? = some (.cells #[.int .i64 a0_0, (.slice A0_1 l0_1.length c0_1), (.slice A0_2 l0_2.length c0_2)] 25 (0, 0))) ∧ Aside0 (Below w.heap.size w wc))
  case first =>
    have H := HC2.out
    clear HC2
    have H' := Aside0.mk H
    clear H
    go_wp2
    go_loopg [3, 4] k (fun kq v3 v4 w' => ∃ (x3_1 : Int) (x4_1 : Int), v3 = .int .i64 x3_1 ∧ v4 = .int .i64 x4_1 ∧ Aside0 (sacristylaw10_Great.l0 kq x3_1 x4_1 a0_0 l0_1 l0_2 = some r) ∧ Aside0 (kq ≤ k) ∧ Aside0 (w'.heap[gb123]? = some (.cells #[.int .i64 a0_0, (.slice A0_1 l0_1.length c0_1), (.slice A0_2 l0_2.length c0_2)] 25 (0, 0))) ∧ Aside0 (Below w.heap.size w w'))
    case atStart => exact ⟨(wrap64 ((l0_1.length : Int) + (l0_2.length : Int))), (0), (by first | rfl | (simp; done) | (simp [*]; done)), (by first | rfl | (simp; done) | (simp [*]; done)), H', ⟨Nat.le_refl _⟩, ⟨by (with_reducible repeat (first | refine blk_drewN ?_ _ | refine blk_drew ?_ | refine blk_alloc ?_ _)); exact BK123.out⟩, ⟨by repeat (first | (with_reducible first | exact HB.out | apply below_alloc | apply pw_below_drewN | apply below_drew1 | refine below_set ?_ GE123.out) | exact HB.out)⟩⟩
    case round =>
      clear H'
      try clear p2
      try clear hcz4_0
      try clear hcz4_1
      try clear hcz4_2
      try clear hfz4_0
      try clear hfz4_1
      try clear hfz4_2
      obtain ⟨x3_1, x4_1, rfl, rfl, HA, HK1, BK123, HB⟩ := hrel
      cases gk with
      | zero => exact absurd HA.out (by simp [sacristylaw10_Great.l0])
      | succ k1 =>
        have H := HA.out
        clear HA
        simp only [sacristylaw10_Great.l0] at H
        by_cases c5 : x4_1 < (l0_1.length : Int)
        · rw [if_pos c5] at H
          have c5b0 : decide (x4_1 < (l0_1.length : Int)) = true := decide_eq_true c5
          clear c5
          (first | rw [c5b0] | (simp only [i64_w, i32_w]; rw [c5b0]) | skip)
          by_cases c6 : x3_1 < 20000
          · rw [if_pos c6] at H
            have c6b0 : decide (x3_1 < 20000) = true := decide_eq_true c6
            clear c6
            by_cases c7 : 0 ≤ x4_1
            · rw [if_pos c7] at H
              have c7b0 : decide (0 ≤ x4_1) = true := decide_eq_true c7
              clear c7
              obtain ⟨ji8, hji8⟩ : ∃ j_ : Int, (mn ((rdOf ByteArray.empty l0_1 x4_1).size : Int) 20000) = j_ := ⟨_, rfl⟩
              replace H : (sacristylaw10_Great.l0 k1 (wrap64 (x3_1 + (ji8))) (wrap64 (x4_1 + 1)) a0_0 l0_1 l0_2) = some r := by first | (rw [hji8] at H; exact H) | (simp only [hji8] at H ⊢; exact H)
              have hji8_ : (if 20000 < ((rdOf ByteArray.empty l0_1 x4_1).size : Int) then 20000 else ((rdOf ByteArray.empty l0_1 x4_1).size : Int)) = ji8 := hji8
              have H' := Aside0.mk H
              clear H
              have hcz9_0 : wr.cell? ⟨gb123, 0, none⟩ = some (.int .i64 a0_0) := (blk_cell BK123.out 0).trans rfl
              have hcz9_1 : wr.cell? ⟨gb123, 1, none⟩ = some (.slice A0_1 l0_1.length c0_1) := (blk_cell BK123.out 1).trans rfl
              have hcz9_2 : wr.cell? ⟨gb123, 2, none⟩ = some (.slice A0_2 l0_2.length c0_2) := (blk_cell BK123.out 2).trans rfl
              have hfz9_0 := blk_frozen BK123.out 0
              have hfz9_1 := blk_frozen BK123.out 1
              have hfz9_2 := blk_frozen BK123.out 2
              have p124 : 0 ≤ (x4_1 : Int) := of_decide_eq_true (by first | (with_reducible assumption) | assumption)
              have q124 : x4_1 < (l0_1.length : Int) := of_decide_eq_true (by first | (with_reducible assumption) | assumption)
              obtain ⟨ad124, e124, hx124_0⟩ := Kd.at_string HR0_1.out x4_1 p124 q124
              cases e124
              replace hx124_0 := (HB.out.cell (World.block_lt_of_cell? w _ hx124_0)).trans hx124_0
              replace p124 := eq_true p124
              replace q124 := eq_true q124
              go_wp2
              go_roundg k1
              case measure => have := HK1.out; omega
              case rel => exact ⟨(wrap64 (x3_1 + (ji8))), (wrap64 (x4_1 + 1)), (by first | rfl | (simp; done) | (simp only [← hji8] <;> (first | rfl | simp)) | (simp [*]; done)), (by first | rfl | (simp; done) | (simp [*]; done)), H', ⟨by have := HK1.out; omega⟩, ⟨by (with_reducible repeat (first | refine blk_drewN ?_ _ | refine blk_drew ?_ | refine blk_alloc ?_ _)); exact BK123.out⟩, ⟨by repeat (first | (with_reducible first | exact HB.out | apply below_alloc | apply pw_below_drewN | apply below_drew1 | refine below_set ?_ GE123.out) | exact HB.out)⟩⟩
            · rw [if_neg c7] at H
              exact absurd H (by simp)
          · rw [if_neg c6] at H
            have c6b0 : decide (x3_1 < 20000) = false := decide_eq_false c6
            clear c6
            have H' := Aside0.mk H
            clear H
            have hcz10_0 : wr.cell? ⟨gb123, 0, none⟩ = some (.int .i64 a0_0) := (blk_cell BK123.out 0).trans rfl
            have hcz10_1 : wr.cell? ⟨gb123, 1, none⟩ = some (.slice A0_1 l0_1.length c0_1) := (blk_cell BK123.out 1).trans rfl
            have hcz10_2 : wr.cell? ⟨gb123, 2, none⟩ = some (.slice A0_2 l0_2.length c0_2) := (blk_cell BK123.out 2).trans rfl
            have hfz10_0 := blk_frozen BK123.out 0
            have hfz10_1 := blk_frozen BK123.out 1
            have hfz10_2 := blk_frozen BK123.out 2
            go_wp2
            go_meet
            case rel => exact ⟨_, (x3_1), (by first | rfl | (simp; done) | (simp [*]; done)), H', ⟨by have := HK1.out; first | omega | exact Nat.le_refl _⟩, ⟨by (with_reducible repeat (first | refine blk_drewN ?_ _ | refine blk_drew ?_ | refine blk_alloc ?_ _)); exact BK123.out⟩, ⟨by repeat (first | (with_reducible first | exact HB.out | apply below_alloc | apply pw_below_drewN | apply below_drew1 | refine below_set ?_ GE123.out) | exact HB.out)⟩⟩
        · rw [if_neg c5] at H
          have c5b0 : decide (x4_1 < (l0_1.length : Int)) = false := decide_eq_false c5
          clear c5
          (first | rw [c5b0] | (simp only [i64_w, i32_w]; rw [c5b0]) | skip)
          have H' := Aside0.mk H
          clear H
          have hcz11_0 : wr.cell? ⟨gb123, 0, none⟩ = some (.int .i64 a0_0) := (blk_cell BK123.out 0).trans rfl
          have hcz11_1 : wr.cell? ⟨gb123, 1, none⟩ = some (.slice A0_1 l0_1.length c0_1) := (blk_cell BK123.out 1).trans rfl
          have hcz11_2 : wr.cell? ⟨gb123, 2, none⟩ = some (.slice A0_2 l0_2.length c0_2) := (blk_cell BK123.out 2).trans rfl
          have hfz11_0 := blk_frozen BK123.out 0
          have hfz11_1 := blk_frozen BK123.out 1
          have hfz11_2 := blk_frozen BK123.out 2
          go_wp2
          go_meet
          case rel => exact ⟨_, (x3_1), (by first | rfl | (simp; done) | (simp [*]; done)), H', ⟨by have := HK1.out; first | omega | exact Nat.le_refl _⟩, ⟨by (with_reducible repeat (first | refine blk_drewN ?_ _ | refine blk_drew ?_ | refine blk_alloc ?_ _)); exact BK123.out⟩, ⟨by repeat (first | (with_reducible first | exact HB.out | apply below_alloc | apply pw_below_drewN | apply below_drew1 | refine below_set ?_ GE123.out) | exact HB.out)⟩⟩
  case rest =>
    clear HC2
    try clear p1
    try clear q1
    try clear hx1
    try clear p2
    try clear c5
    try clear c5b0
    try clear c6
    try clear c6b0
    try clear p6
    try clear c7
    try clear c7b0
    try clear c9
    try clear hcz10_0
    try clear hcz10_1
    try clear hcz10_2
    try clear hcz11_0
    try clear hcz11_1
    try clear hcz11_2
    try clear hcz4_0
    try clear hcz4_1
    try clear hcz4_2
    try clear hcz9_0
    try clear hcz9_1
    try clear hcz9_2
    try clear hfz10_0
    try clear hfz10_1
    try clear hfz10_2
    try clear hfz11_0
    try clear hfz11_1
    try clear hfz11_2
    try clear hfz4_0
    try clear hfz4_1
    try clear hfz4_2
    try clear hfz9_0
    try clear hfz9_1
    try clear hfz9_2
    try clear hx124_0
    try clear p124
    try clear p2
    try clear q124
    obtain ⟨kq, x3_1, rfl, HA, HJ1, BK123, HB⟩ := hcut
    cases kq with
    | zero => exact absurd HA.out (by simp [sacristylaw10_Great.j1])
    | succ kj1 =>
      have H := HA.out
      clear HA
      simp only [sacristylaw10_Great.j1] at H
      have H' := Aside0.mk H
      clear H
      go_wp2
      go_loopg [3, 5] kj1 (fun kq v3 v5 w' => ∃ (x3_2 : Int) (x5_2 : Int), v3 = .int .i64 x3_2 ∧ v5 = .int .i64 x5_2 ∧ Aside0 (sacristylaw10_Great.l1 kq x3_2 x5_2 a0_0 l0_1 l0_2 = some r) ∧ Aside0 (kq ≤ kj1) ∧ Aside0 (w'.heap[gb123]? = some (.cells #[.int .i64 a0_0, (.slice A0_1 l0_1.length c0_1), (.slice A0_2 l0_2.length c0_2)] 25 (0, 0))) ∧ Aside0 (Below w.heap.size w w'))
      case atStart => exact ⟨(x3_1), (0), (by first | rfl | (simp; done) | (simp [*]; done)), (by first | rfl | (simp; done) | (simp [*]; done)), H', ⟨Nat.le_refl _⟩, ⟨by (with_reducible repeat (first | refine blk_drewN ?_ _ | refine blk_drew ?_ | refine blk_alloc ?_ _)); exact BK123.out⟩, ⟨by repeat (first | (with_reducible first | exact HB.out | apply below_alloc | apply pw_below_drewN | apply below_drew1 | refine below_set ?_ GE123.out) | exact HB.out)⟩⟩
      case round =>
        clear H'
        try clear p1
        try clear q1
        try clear hx1
        try clear p2
        try clear c5
        try clear c5b0
        try clear c6
        try clear c6b0
        try clear p6
        try clear c7
        try clear c7b0
        try clear c9
        try clear hcz10_0
        try clear hcz10_1
        try clear hcz10_2
        try clear hcz11_0
        try clear hcz11_1
        try clear hcz11_2
        try clear hcz4_0
        try clear hcz4_1
        try clear hcz4_2
        try clear hcz9_0
        try clear hcz9_1
        try clear hcz9_2
        try clear hfz10_0
        try clear hfz10_1
        try clear hfz10_2
        try clear hfz11_0
        try clear hfz11_1
        try clear hfz11_2
        try clear hfz4_0
        try clear hfz4_1
        try clear hfz4_2
        try clear hfz9_0
        try clear hfz9_1
        try clear hfz9_2
        try clear hx124_0
        try clear p1
        try clear p124
        try clear p2
        try clear p6
        try clear q1
        try clear q124
        obtain ⟨x3_2, x5_2, rfl, rfl, HA, HK2, BK123, HB⟩ := hrel
        cases gk with
        | zero => exact absurd HA.out (by simp [sacristylaw10_Great.l1])
        | succ k2 =>
          have H := HA.out
          clear HA
          simp only [sacristylaw10_Great.l1] at H
          have HC12 := Aside0.mk H
          clear H
          go_upto_region 7 with (fail)
          go_cut [43] (fun v43 wc => ∃ (kq : Nat) (x43_11 : Bool), v43 = .bool x43_11 ∧ Aside0 (sacristylaw10_Great.j3 kq x3_2 x5_2 x43_11 a0_0 l0_1 l0_2 = some r) ∧ Aside0 (kq ≤ k2) ∧ Aside0 (wc.heap[gb123]? = some (.cells #[.int .i64 a0_0, (.slice A0_1 l0_1.length c0_1), (.slice A0_2 l0_2.length c0_2)] 25 (0, 0))) ∧ Aside0 (Below w.heap.size w wc))
          case first =>
            have H := HC12.out
            clear HC12
            by_cases c13 : x5_2 < (l0_2.length : Int)
            · rw [if_pos c13] at H
              have c13b0 : decide (x5_2 < (l0_2.length : Int)) = true := decide_eq_true c13
              clear c13
              (first | rw [c13b0] | (simp only [i64_w, i32_w]; rw [c13b0]) | skip)
              have H' := Aside0.mk H
              clear H
              have hcz14_0 : wr.cell? ⟨gb123, 0, none⟩ = some (.int .i64 a0_0) := (blk_cell BK123.out 0).trans rfl
              have hcz14_1 : wr.cell? ⟨gb123, 1, none⟩ = some (.slice A0_1 l0_1.length c0_1) := (blk_cell BK123.out 1).trans rfl
              have hcz14_2 : wr.cell? ⟨gb123, 2, none⟩ = some (.slice A0_2 l0_2.length c0_2) := (blk_cell BK123.out 2).trans rfl
              have hfz14_0 := blk_frozen BK123.out 0
              have hfz14_1 := blk_frozen BK123.out 1
              have hfz14_2 := blk_frozen BK123.out 2
              go_wp2
              go_meet
              case rel => exact ⟨_, (decide (x3_2 < 20000)), (by first | rfl | (simp; done) | (simp [*]; done)), H', ⟨by have := HJ1.out; have := HK2.out; first | omega | exact Nat.le_refl _⟩, ⟨by (with_reducible repeat (first | refine blk_drewN ?_ _ | refine blk_drew ?_ | refine blk_alloc ?_ _)); exact BK123.out⟩, ⟨by repeat (first | (with_reducible first | exact HB.out | apply below_alloc | apply pw_below_drewN | apply below_drew1 | refine below_set ?_ GE123.out) | exact HB.out)⟩⟩
            · rw [if_neg c13] at H
              have c13b0 : decide (x5_2 < (l0_2.length : Int)) = false := decide_eq_false c13
              clear c13
              (first | rw [c13b0] | (simp only [i64_w, i32_w]; rw [c13b0]) | skip)
              have H' := Aside0.mk H
              clear H
              have hcz15_0 : wr.cell? ⟨gb123, 0, none⟩ = some (.int .i64 a0_0) := (blk_cell BK123.out 0).trans rfl
              have hcz15_1 : wr.cell? ⟨gb123, 1, none⟩ = some (.slice A0_1 l0_1.length c0_1) := (blk_cell BK123.out 1).trans rfl
              have hcz15_2 : wr.cell? ⟨gb123, 2, none⟩ = some (.slice A0_2 l0_2.length c0_2) := (blk_cell BK123.out 2).trans rfl
              have hfz15_0 := blk_frozen BK123.out 0
              have hfz15_1 := blk_frozen BK123.out 1
              have hfz15_2 := blk_frozen BK123.out 2
              go_wp2
              go_meet
              case rel => exact ⟨_, (false), (by first | rfl | (simp; done) | (simp [*]; done)), H', ⟨by have := HJ1.out; have := HK2.out; first | omega | exact Nat.le_refl _⟩, ⟨by (with_reducible repeat (first | refine blk_drewN ?_ _ | refine blk_drew ?_ | refine blk_alloc ?_ _)); exact BK123.out⟩, ⟨by repeat (first | (with_reducible first | exact HB.out | apply below_alloc | apply pw_below_drewN | apply below_drew1 | refine below_set ?_ GE123.out) | exact HB.out)⟩⟩
          case rest =>
            clear HC12
            try clear c1
            try clear p1
            try clear q1
            try clear hx1
            try clear p2
            try clear c5
            try clear c5b0
            try clear c6
            try clear c6b0
            try clear p6
            try clear c7
            try clear c7b0
            try clear c9
            try clear p12
            try clear q12
            try clear hx12
            try clear c13
            try clear c13b0
            try clear hcz10_0
            try clear hcz10_1
            try clear hcz10_2
            try clear hcz11_0
            try clear hcz11_1
            try clear hcz11_2
            try clear hcz14_0
            try clear hcz14_1
            try clear hcz14_2
            try clear hcz15_0
            try clear hcz15_1
            try clear hcz15_2
            try clear hcz4_0
            try clear hcz4_1
            try clear hcz4_2
            try clear hcz9_0
            try clear hcz9_1
            try clear hcz9_2
            try clear hfz10_0
            try clear hfz10_1
            try clear hfz10_2
            try clear hfz11_0
            try clear hfz11_1
            try clear hfz11_2
            try clear hfz14_0
            try clear hfz14_1
            try clear hfz14_2
            try clear hfz15_0
            try clear hfz15_1
            try clear hfz15_2
            try clear hfz4_0
            try clear hfz4_1
            try clear hfz4_2
            try clear hfz9_0
            try clear hfz9_1
            try clear hfz9_2
            try clear hx124_0
            try clear p1
            try clear p124
            try clear p2
            try clear p6
            try clear q1
            try clear q124
            obtain ⟨kq, x43_11, rfl, HA, HJ11, BK123, HB⟩ := hcut
            cases kq with
            | zero => exact absurd HA.out (by simp [sacristylaw10_Great.j3])
            | succ kj11 =>
              have H := HA.out
              clear HA
              simp only [sacristylaw10_Great.j3] at H
              by_cases c16 : x43_11 = true
              · subst c16
                have H1 : (if 0 ≤ x5_2 then (if x5_2 < (l0_2.length : Int) then (sacristylaw10_Great.l2 kj11 (wrap64 ((wrap64 ((wrap64 ((wrap64 (x3_2 + 1)) + (mn (((rd_T40 l0_2 x5_2).f0).size : Int) 20000))) + (mn (((rd_T40 l0_2 x5_2).f2).size : Int) 20000))) + (((rd_T40 l0_2 x5_2).f4).length : Int))) x5_2 0 a0_0 l0_1 l0_2 ((rd_T40 l0_2 x5_2).f0) ((rd_T40 l0_2 x5_2).f1) ((rd_T40 l0_2 x5_2).f2) ((rd_T40 l0_2 x5_2).f3) ((rd_T40 l0_2 x5_2).f4)) else (none)) else (none)) = some r := by rw [if_pos rfl] at H; exact H
                clear H
                have H := H1
                clear H1
                by_cases c17 : 0 ≤ x5_2
                · rw [if_pos c17] at H
                  have c17b0 : decide (0 ≤ x5_2) = true := decide_eq_true c17
                  clear c17
                  by_cases c18 : x5_2 < (l0_2.length : Int)
                  · rw [if_pos c18] at H
                    have c18b0 : decide (x5_2 < (l0_2.length : Int)) = true := decide_eq_true c18
                    clear c18
                    obtain ⟨ji19, hji19⟩ : ∃ j_ : Int, (mn (((rd_T40 l0_2 x5_2).f0).size : Int) 20000) = j_ := ⟨_, rfl⟩
                    replace H : (sacristylaw10_Great.l2 kj11 (wrap64 ((wrap64 ((wrap64 ((wrap64 (x3_2 + 1)) + (ji19))) + (mn (((rd_T40 l0_2 x5_2).f2).size : Int) 20000))) + (((rd_T40 l0_2 x5_2).f4).length : Int))) x5_2 0 a0_0 l0_1 l0_2 ((rd_T40 l0_2 x5_2).f0) ((rd_T40 l0_2 x5_2).f1) ((rd_T40 l0_2 x5_2).f2) ((rd_T40 l0_2 x5_2).f3) ((rd_T40 l0_2 x5_2).f4)) = some r := by first | (rw [hji19] at H; exact H) | (simp only [hji19] at H ⊢; exact H)
                    have hji19_ : (if 20000 < (((rd_T40 l0_2 x5_2).f0).size : Int) then 20000 else (((rd_T40 l0_2 x5_2).f0).size : Int)) = ji19 := hji19
                    obtain ⟨ji20, hji20⟩ : ∃ j_ : Int, (mn (((rd_T40 l0_2 x5_2).f2).size : Int) 20000) = j_ := ⟨_, rfl⟩
                    replace H : (sacristylaw10_Great.l2 kj11 (wrap64 ((wrap64 ((wrap64 ((wrap64 (x3_2 + 1)) + (ji19))) + (ji20))) + (((rd_T40 l0_2 x5_2).f4).length : Int))) x5_2 0 a0_0 l0_1 l0_2 ((rd_T40 l0_2 x5_2).f0) ((rd_T40 l0_2 x5_2).f1) ((rd_T40 l0_2 x5_2).f2) ((rd_T40 l0_2 x5_2).f3) ((rd_T40 l0_2 x5_2).f4)) = some r := by first | (rw [hji20] at H; exact H) | (simp only [hji20] at H ⊢; exact H)
                    have hji20_ : (if 20000 < (((rd_T40 l0_2 x5_2).f2).size : Int) then 20000 else (((rd_T40 l0_2 x5_2).f2).size : Int)) = ji20 := hji20
                    have H' := Aside0.mk H
                    clear H
                    have hcz21_0 : wc.cell? ⟨gb123, 0, none⟩ = some (.int .i64 a0_0) := (blk_cell BK123.out 0).trans rfl
                    have hcz21_1 : wc.cell? ⟨gb123, 1, none⟩ = some (.slice A0_1 l0_1.length c0_1) := (blk_cell BK123.out 1).trans rfl
                    have hcz21_2 : wc.cell? ⟨gb123, 2, none⟩ = some (.slice A0_2 l0_2.length c0_2) := (blk_cell BK123.out 2).trans rfl
                    have hfz21_0 := blk_frozen BK123.out 0
                    have hfz21_1 := blk_frozen BK123.out 1
                    have hfz21_2 := blk_frozen BK123.out 2
                    have p125 : 0 ≤ (x5_2 : Int) := of_decide_eq_true (by first | (with_reducible assumption) | assumption)
                    have q125 : x5_2 < (l0_2.length : Int) := of_decide_eq_true (by first | (with_reducible assumption) | assumption)
                    obtain ⟨ad125, A125_3, c125_3, A125_4, c125_4, e125, hx125_0, hx125_1, hx125_2, hx125_3, hx125_4, hl125_3, hi125_3, hl125_4, hi125_4⟩ := at_T40 HR0_2.out x5_2 p125 q125
                    cases e125
                    replace hx125_0 := (HB.out.cell (World.block_lt_of_cell? w _ hx125_0)).trans hx125_0
                    replace hx125_1 := (HB.out.cell (World.block_lt_of_cell? w _ hx125_1)).trans hx125_1
                    replace hx125_2 := (HB.out.cell (World.block_lt_of_cell? w _ hx125_2)).trans hx125_2
                    replace hx125_3 := (HB.out.cell (World.block_lt_of_cell? w _ hx125_3)).trans hx125_3
                    replace hx125_4 := (HB.out.cell (World.block_lt_of_cell? w _ hx125_4)).trans hx125_4
                    have HR125_3 := Aside0.mk hi125_3
                    have HC125_3 := Aside0.mk hl125_3
                    clear hi125_3 hl125_3
                    have HR125_4 := Aside0.mk hi125_4
                    have HC125_4 := Aside0.mk hl125_4
                    clear hi125_4 hl125_4
                    replace p125 := eq_true p125
                    replace q125 := eq_true q125
                    go_wp2_with (first | ((with_reducible refine gate_dst (N := 6) rfl ?_); (try (refine gate_guard (by rfl) ?_; dsimp only)); refine box_event ?hg (N := 6) ?hd (cs := #[.string (⟨#[]⟩ : ByteArray), .bool false, .string (⟨#[]⟩ : ByteArray), .slice none 0 0, .slice none 0 0]) (t := 40) ?hr ?_; (case hd => rfl); (case hg => rfl); (case hr => first | (go_simp; done) | (go_simp; rfl)); intro gb126 hg w22 hbox hb; have n0_ := Aside0.mk (blk_below (g := gb123) (o := .cells #[.int .i64 a0_0, .slice A0_1 l0_1.length c0_1, .slice (some ad125) l0_2.length c0_2] 25 (0, 0)) (by (with_reducible repeat (first | refine blk_drewN ?_ _ | refine blk_drew ?_ | refine blk_alloc ?_ _)); exact BK123.out) hb); have n1_ := Aside0.mk (below_step (by repeat (first | (with_reducible first | exact HB.out | apply below_alloc | apply pw_below_drewN | apply below_drew1 | refine below_set ?_ GE123.out) | exact HB.out)) hb); have n2_ := Aside0.mk (hbox); have n3_ := Aside0.mk ((by rw [hg]; exact (below_size (by repeat (first | (with_reducible first | exact HB.out | apply below_alloc | apply pw_below_drewN | apply below_drew1 | refine below_set ?_ GE123.out) | exact HB.out))) : w.heap.size ≤ gb126)); have n4_ := Aside0.mk ((by rw [hg]; exact (below_size (by repeat (first | (with_reducible first | exact HB.out | apply below_alloc | apply pw_below_drewN | apply below_drew1 | refine below_set ?_ GE123.out) | exact HB.out))) : w.heap.size ≤ gb126)); have n5_ := Aside0.mk ((by rw [hg]; exact Nat.ne_of_lt (blk_lt (g := gb123) (o := .cells #[.int .i64 a0_0, .slice A0_1 l0_1.length c0_1, .slice (some ad125) l0_2.length c0_2] 25 (0, 0)) (by (with_reducible repeat (first | refine blk_drewN ?_ _ | refine blk_drew ?_ | refine blk_alloc ?_ _)); exact BK123.out)) : gb123 ≠ gb126)); have n6_ := Aside0.mk ((by rw [hg]; exact Nat.ne_of_gt (blk_lt (g := gb123) (o := .cells #[.int .i64 a0_0, .slice A0_1 l0_1.length c0_1, .slice (some ad125) l0_2.length c0_2] 25 (0, 0)) (by (with_reducible repeat (first | refine blk_drewN ?_ _ | refine blk_drew ?_ | refine blk_alloc ?_ _)); exact BK123.out)) : gb126 ≠ gb123)); clear BK123; clear HB; have BK123 := n0_; have HB := n1_; have BK126 := n2_; have GW126 := n3_; have GE126 := n4_; have NB123_126 := n5_; have NB126_123 := n6_; clear n0_ n1_ n2_ n3_ n4_ n5_ n6_; clear hb hbox hg; have hnb23 := NB126_123.out; have hnc23 := NB123_126.out; have hcz24_0 : w22.cell? ⟨gb126, 0, none⟩ = some (.string (⟨#[]⟩ : ByteArray)) := (blk_cell BK126.out 0).trans rfl; have hcz24_1 : w22.cell? ⟨gb126, 1, none⟩ = some (.bool false) := (blk_cell BK126.out 1).trans rfl; have hcz24_2 : w22.cell? ⟨gb126, 2, none⟩ = some (.string (⟨#[]⟩ : ByteArray)) := (blk_cell BK126.out 2).trans rfl; have hcz24_3 : w22.cell? ⟨gb126, 3, none⟩ = some (.slice none 0 0) := (blk_cell BK126.out 3).trans rfl; have hcz24_4 : w22.cell? ⟨gb126, 4, none⟩ = some (.slice none 0 0) := (blk_cell BK126.out 4).trans rfl; have hfz24_0 := blk_frozen BK126.out 0; have hfz24_1 := blk_frozen BK126.out 1; have hfz24_2 := blk_frozen BK126.out 2; have hfz24_3 := blk_frozen BK126.out 3; have hfz24_4 := blk_frozen BK126.out 4))
                    go_loopg [3, 7] kj11 (fun kq v3 v7 w' => ∃ (x3_4 : Int) (x7_4 : Int), v3 = .int .i64 x3_4 ∧ v7 = .int .i64 x7_4 ∧ Aside0 (sacristylaw10_Great.l2 kq x3_4 x5_2 x7_4 a0_0 l0_1 l0_2 ((rd_T40 l0_2 x5_2).f0) ((rd_T40 l0_2 x5_2).f1) ((rd_T40 l0_2 x5_2).f2) ((rd_T40 l0_2 x5_2).f3) ((rd_T40 l0_2 x5_2).f4) = some r) ∧ Aside0 (kq ≤ kj11) ∧ Aside0 (w'.heap[gb123]? = some (.cells #[.int .i64 a0_0, (.slice A0_1 l0_1.length c0_1), (.slice (some ad125) l0_2.length c0_2)] 25 (0, 0))) ∧ Aside0 (w'.heap[gb126]? = some (.cells #[.string ((rd_T40 l0_2 x5_2).f0), .bool ((rd_T40 l0_2 x5_2).f1), .string ((rd_T40 l0_2 x5_2).f2), (.slice A125_3 ((rd_T40 l0_2 x5_2).f3).length c125_3), (.slice A125_4 ((rd_T40 l0_2 x5_2).f4).length c125_4)] 40 (0, 0))) ∧ Aside0 (Below w.heap.size w w'))
                    case atStart => exact ⟨(wrap64 ((wrap64 ((wrap64 ((wrap64 (x3_2 + 1)) + (ji19))) + (ji20))) + (((rd_T40 l0_2 x5_2).f4).length : Int))), (0), (by first | rfl | (simp; done) | (simp only [← hji19, ← hji20] <;> (first | rfl | simp)) | (simp [*]; done)), (by first | rfl | (simp; done) | (simp [*]; done)), H', ⟨Nat.le_refl _⟩, ⟨by (with_reducible repeat (first | refine blk_drewN ?_ _ | refine blk_drew ?_ | refine blk_alloc ?_ _)); refine blk_far ?_ NB123_126.out _; (with_reducible repeat (first | refine blk_drewN ?_ _ | refine blk_drew ?_ | refine blk_alloc ?_ _)); refine blk_far ?_ NB123_126.out _; (with_reducible repeat (first | refine blk_drewN ?_ _ | refine blk_drew ?_ | refine blk_alloc ?_ _)); refine blk_far ?_ NB123_126.out _; (with_reducible repeat (first | refine blk_drewN ?_ _ | refine blk_drew ?_ | refine blk_alloc ?_ _)); refine blk_far ?_ NB123_126.out _; (with_reducible repeat (first | refine blk_drewN ?_ _ | refine blk_drew ?_ | refine blk_alloc ?_ _)); refine blk_far ?_ NB123_126.out _; (with_reducible repeat (first | refine blk_drewN ?_ _ | refine blk_drew ?_ | refine blk_alloc ?_ _)); exact BK123.out⟩, ⟨by (with_reducible repeat (first | refine blk_drewN ?_ _ | refine blk_drew ?_ | refine blk_alloc ?_ _)); refine blk_put (cs := #[.string ((rd_T40 l0_2 x5_2).f0), .bool ((rd_T40 l0_2 x5_2).f1), .string ((rd_T40 l0_2 x5_2).f2), .slice A125_3 ((rd_T40 l0_2 x5_2).f3).length c125_3, .slice none 0 0]) ?_ 4 _ rfl; (with_reducible repeat (first | refine blk_drewN ?_ _ | refine blk_drew ?_ | refine blk_alloc ?_ _)); refine blk_put (cs := #[.string ((rd_T40 l0_2 x5_2).f0), .bool ((rd_T40 l0_2 x5_2).f1), .string ((rd_T40 l0_2 x5_2).f2), .slice none 0 0, .slice none 0 0]) ?_ 3 _ rfl; (with_reducible repeat (first | refine blk_drewN ?_ _ | refine blk_drew ?_ | refine blk_alloc ?_ _)); refine blk_put (cs := #[.string ((rd_T40 l0_2 x5_2).f0), .bool ((rd_T40 l0_2 x5_2).f1), .string (⟨#[]⟩ : ByteArray), .slice none 0 0, .slice none 0 0]) ?_ 2 _ rfl; (with_reducible repeat (first | refine blk_drewN ?_ _ | refine blk_drew ?_ | refine blk_alloc ?_ _)); refine blk_put (cs := #[.string ((rd_T40 l0_2 x5_2).f0), .bool false, .string (⟨#[]⟩ : ByteArray), .slice none 0 0, .slice none 0 0]) ?_ 1 _ rfl; (with_reducible repeat (first | refine blk_drewN ?_ _ | refine blk_drew ?_ | refine blk_alloc ?_ _)); refine blk_put (cs := #[.string (⟨#[]⟩ : ByteArray), .bool false, .string (⟨#[]⟩ : ByteArray), .slice none 0 0, .slice none 0 0]) ?_ 0 _ rfl; (with_reducible repeat (first | refine blk_drewN ?_ _ | refine blk_drew ?_ | refine blk_alloc ?_ _)); exact BK126.out⟩, ⟨by repeat (first | (with_reducible first | exact HB.out | apply below_alloc | apply pw_below_drewN | apply below_drew1 | refine below_set ?_ GE123.out | refine below_set ?_ GE126.out) | exact HB.out)⟩⟩
                    case round =>
                      clear H'
                      try clear c1
                      try clear p1
                      try clear q1
                      try clear hx1
                      try clear c2
                      try clear p2
                      try clear c5
                      try clear c5b0
                      try clear c6
                      try clear c6b0
                      try clear p6
                      try clear c7
                      try clear c7b0
                      try clear c9
                      try clear c12
                      try clear p12
                      try clear q12
                      try clear hx12
                      try clear c13
                      try clear c13b0
                      try clear c16
                      try clear c17
                      try clear c17b0
                      try clear c18
                      try clear c18b0
                      try clear c23
                      try clear hcz10_0
                      try clear hcz10_1
                      try clear hcz10_2
                      try clear hcz11_0
                      try clear hcz11_1
                      try clear hcz11_2
                      try clear hcz14_0
                      try clear hcz14_1
                      try clear hcz14_2
                      try clear hcz15_0
                      try clear hcz15_1
                      try clear hcz15_2
                      try clear hcz21_0
                      try clear hcz21_1
                      try clear hcz21_2
                      try clear hcz24_0
                      try clear hcz24_1
                      try clear hcz24_2
                      try clear hcz24_3
                      try clear hcz24_4
                      try clear hcz4_0
                      try clear hcz4_1
                      try clear hcz4_2
                      try clear hcz9_0
                      try clear hcz9_1
                      try clear hcz9_2
                      try clear hfz10_0
                      try clear hfz10_1
                      try clear hfz10_2
                      try clear hfz11_0
                      try clear hfz11_1
                      try clear hfz11_2
                      try clear hfz14_0
                      try clear hfz14_1
                      try clear hfz14_2
                      try clear hfz15_0
                      try clear hfz15_1
                      try clear hfz15_2
                      try clear hfz21_0
                      try clear hfz21_1
                      try clear hfz21_2
                      try clear hfz24_0
                      try clear hfz24_1
                      try clear hfz24_2
                      try clear hfz24_3
                      try clear hfz24_4
                      try clear hfz4_0
                      try clear hfz4_1
                      try clear hfz4_2
                      try clear hfz9_0
                      try clear hfz9_1
                      try clear hfz9_2
                      try clear hx124_0
                      try clear hx125_0
                      try clear hx125_1
                      try clear hx125_2
                      try clear hx125_3
                      try clear hx125_4
                      try clear p1
                      try clear p12
                      try clear p124
                      try clear p125
                      try clear p2
                      try clear p6
                      try clear q1
                      try clear q12
                      try clear q124
                      try clear q125
                      obtain ⟨x3_4, x7_4, rfl, rfl, HA, HK4, BK123, BK126, HB⟩ := hrel
                      cases gk with
                      | zero => exact absurd HA.out (by simp [sacristylaw10_Great.l2])
                      | succ k4 =>
                        have H := HA.out
                        clear HA
                        simp only [sacristylaw10_Great.l2] at H
                        by_cases c25 : x7_4 < (((rd_T40 l0_2 x5_2).f4).length : Int)
                        · rw [if_pos c25] at H
                          have c25b0 : decide (x7_4 < (((rd_T40 l0_2 x5_2).f4).length : Int)) = true := decide_eq_true c25
                          clear c25
                          by_cases c26 : x3_4 < 20000
                          · rw [if_pos c26] at H
                            have c26b0 : decide (x3_4 < 20000) = true := decide_eq_true c26
                            clear c26
                            by_cases c27 : 0 ≤ x7_4
                            · rw [if_pos c27] at H
                              have c27b0 : decide (0 ≤ x7_4) = true := decide_eq_true c27
                              clear c27
                              obtain ⟨ji28, hji28⟩ : ∃ j_ : Int, (mn ((rdOf ByteArray.empty ((rd_T40 l0_2 x5_2).f4) x7_4).size : Int) 20000) = j_ := ⟨_, rfl⟩
                              replace H : (sacristylaw10_Great.l2 k4 (wrap64 (x3_4 + (ji28))) x5_2 (wrap64 (x7_4 + 1)) a0_0 l0_1 l0_2 ((rd_T40 l0_2 x5_2).f0) ((rd_T40 l0_2 x5_2).f1) ((rd_T40 l0_2 x5_2).f2) ((rd_T40 l0_2 x5_2).f3) ((rd_T40 l0_2 x5_2).f4)) = some r := by first | (rw [hji28] at H; exact H) | (simp only [hji28] at H ⊢; exact H)
                              have hji28_ : (if 20000 < ((rdOf ByteArray.empty ((rd_T40 l0_2 x5_2).f4) x7_4).size : Int) then 20000 else ((rdOf ByteArray.empty ((rd_T40 l0_2 x5_2).f4) x7_4).size : Int)) = ji28 := hji28
                              have H' := Aside0.mk H
                              clear H
                              have hnb29 := NB126_123.out
                              have hnc29 := NB123_126.out
                              have hcz30_0 : wr.cell? ⟨gb126, 0, none⟩ = some (.string ((rd_T40 l0_2 x5_2).f0)) := (blk_cell BK126.out 0).trans rfl
                              have hcz30_1 : wr.cell? ⟨gb126, 1, none⟩ = some (.bool ((rd_T40 l0_2 x5_2).f1)) := (blk_cell BK126.out 1).trans rfl
                              have hcz30_2 : wr.cell? ⟨gb126, 2, none⟩ = some (.string ((rd_T40 l0_2 x5_2).f2)) := (blk_cell BK126.out 2).trans rfl
                              have hcz30_3 : wr.cell? ⟨gb126, 3, none⟩ = some (.slice A125_3 ((rd_T40 l0_2 x5_2).f3).length c125_3) := (blk_cell BK126.out 3).trans rfl
                              have hcz30_4 : wr.cell? ⟨gb126, 4, none⟩ = some (.slice A125_4 ((rd_T40 l0_2 x5_2).f4).length c125_4) := (blk_cell BK126.out 4).trans rfl
                              have hfz30_0 := blk_frozen BK126.out 0
                              have hfz30_1 := blk_frozen BK126.out 1
                              have hfz30_2 := blk_frozen BK126.out 2
                              have hfz30_3 := blk_frozen BK126.out 3
                              have hfz30_4 := blk_frozen BK126.out 4
                              have p127 : 0 ≤ (x7_4 : Int) := of_decide_eq_true (by first | (with_reducible assumption) | assumption)
                              have q127 : x7_4 < (((rd_T40 l0_2 x5_2).f4).length : Int) := of_decide_eq_true (by first | (with_reducible assumption) | assumption)
                              obtain ⟨ad127, e127, hx127_0⟩ := Kd.at_string HR125_4.out x7_4 p127 q127
                              cases e127
                              replace hx127_0 := (HB.out.cell (World.block_lt_of_cell? w _ hx127_0)).trans hx127_0
                              replace p127 := eq_true p127
                              replace q127 := eq_true q127
                              go_wp2
                              go_roundg k4
                              case measure => have := HJ1.out; have := HK2.out; have := HJ11.out; have := HK4.out; omega
                              case rel => exact ⟨(wrap64 (x3_4 + (ji28))), (wrap64 (x7_4 + 1)), (by first | rfl | (simp; done) | (simp only [← hji28] <;> (first | rfl | simp)) | (simp [*]; done)), (by first | rfl | (simp; done) | (simp [*]; done)), H', ⟨by have := HJ1.out; have := HK2.out; have := HJ11.out; have := HK4.out; omega⟩, ⟨by (with_reducible repeat (first | refine blk_drewN ?_ _ | refine blk_drew ?_ | refine blk_alloc ?_ _)); exact BK123.out⟩, ⟨by (with_reducible repeat (first | refine blk_drewN ?_ _ | refine blk_drew ?_ | refine blk_alloc ?_ _)); exact BK126.out⟩, ⟨by repeat (first | (with_reducible first | exact HB.out | apply below_alloc | apply pw_below_drewN | apply below_drew1 | refine below_set ?_ GE123.out | refine below_set ?_ GE126.out) | exact HB.out)⟩⟩
                            · rw [if_neg c27] at H
                              exact absurd H (by simp)
                          · rw [if_neg c26] at H
                            have c26b0 : decide (x3_4 < 20000) = false := decide_eq_false c26
                            clear c26
                            replace H := Option.bind_eq_some_iff.mp H
                            obtain ⟨t128, A310, H⟩ := H
                            replace H : (if t128 = true then (some true) else (sacristylaw10_Great.l1 k4 x3_4 (wrap64 (x5_2 + 1)) a0_0 l0_1 l0_2)) = some r := H
                            have A31 := Aside0.mk A310
                            clear A310
                            by_cases c32 : t128 = true
                            · subst c32
                              have H1 : (some true) = some r := by rw [if_pos rfl] at H; exact H
                              clear H
                              have H := H1
                              clear H1
                              obtain rfl := Option.some.inj H
                              have hnb33 := NB126_123.out
                              have hnc33 := NB123_126.out
                              have hcz34_0 : wr.cell? ⟨gb126, 0, none⟩ = some (.string ((rd_T40 l0_2 x5_2).f0)) := (blk_cell BK126.out 0).trans rfl
                              have hcz34_1 : wr.cell? ⟨gb126, 1, none⟩ = some (.bool ((rd_T40 l0_2 x5_2).f1)) := (blk_cell BK126.out 1).trans rfl
                              have hcz34_2 : wr.cell? ⟨gb126, 2, none⟩ = some (.string ((rd_T40 l0_2 x5_2).f2)) := (blk_cell BK126.out 2).trans rfl
                              have hcz34_3 : wr.cell? ⟨gb126, 3, none⟩ = some (.slice A125_3 ((rd_T40 l0_2 x5_2).f3).length c125_3) := (blk_cell BK126.out 3).trans rfl
                              have hcz34_4 : wr.cell? ⟨gb126, 4, none⟩ = some (.slice A125_4 ((rd_T40 l0_2 x5_2).f4).length c125_4) := (blk_cell BK126.out 4).trans rfl
                              have hfz34_0 := blk_frozen BK126.out 0
                              have hfz34_1 := blk_frozen BK126.out 1
                              have hfz34_2 := blk_frozen BK126.out 2
                              have hfz34_3 := blk_frozen BK126.out 3
                              have hfz34_4 := blk_frozen BK126.out 4
                              go_wp2_with (first | ((with_reducible refine gate_callee (f := 16) rfl ?_); refine goesL_ (some 89) rfl rfl Tryd.func16 (by kernel_rfl) rfl #[.slice A125_3 ((rd_T40 l0_2 x5_2).f3).length c125_3] rfl (by (try simp only [List.map_toArray, List.map_cons, List.map_nil]); first | done | rfl | (simp only [List.length_drop, List.length_take]; rfl)) ?_; (with_reducible refine (sacristylaw09_Great.calls k4 _ _ ((rd_T40 l0_2 x5_2).f3) true _ ?side1 ?side2 A31.out).mono ?_); (case side1 => repeat (first | exact (Kd.C_below HR125_3.out HB.out) | (with_reducible refine Kd.C_alloc ?_ _) | (with_reducible refine Kd.C_drewN ?_ _) | (with_reducible refine Kd.C_drew ?_))); (case side2 => exact HC125_3.out); rintro e w35 ⟨rfl, hb⟩; refine ⟨_, rfl, ?_⟩; have n0_ := Aside0.mk (blk_below (g := gb123) (o := .cells #[.int .i64 a0_0, .slice A0_1 l0_1.length c0_1, .slice (some ad125) l0_2.length c0_2] 25 (0, 0)) (by (with_reducible repeat (first | refine blk_drewN ?_ _ | refine blk_drew ?_ | refine blk_alloc ?_ _)); exact BK123.out) hb); have n1_ := Aside0.mk (blk_below (g := gb126) (o := .cells #[.string ((rd_T40 l0_2 x5_2).f0), .bool ((rd_T40 l0_2 x5_2).f1), .string ((rd_T40 l0_2 x5_2).f2), .slice A125_3 ((rd_T40 l0_2 x5_2).f3).length c125_3, .slice A125_4 ((rd_T40 l0_2 x5_2).f4).length c125_4] 40 (0, 0)) (by (with_reducible repeat (first | refine blk_drewN ?_ _ | refine blk_drew ?_ | refine blk_alloc ?_ _)); exact BK126.out) hb); have n2_ := Aside0.mk (below_step (by repeat (first | (with_reducible first | exact HB.out | apply below_alloc | apply pw_below_drewN | apply below_drew1 | refine below_set ?_ GE123.out | refine below_set ?_ GE126.out) | exact HB.out)) hb); clear BK123; clear BK126; clear HB; have BK123 := n0_; have BK126 := n1_; have HB := n2_; clear n0_ n1_ n2_; (try clear hb); (try clear hb2); (try clear hk); (try clear hi)))
                              go_ret
                              exact ⟨by first | rfl | (simp [errW_none, errW_some] <;> rfl) | (simp only [← hji19, ← hji20]; first | rfl | (simp [errW_none, errW_some] <;> rfl)) | (simp [*, errW_none, errW_some] <;> rfl), by repeat (first | (with_reducible first | exact HB.out | apply below_alloc | apply pw_below_drewN | apply below_drew1 | refine below_set ?_ GE123.out | refine below_set ?_ GE126.out) | exact HB.out)⟩
                            · replace c32 := Bool.eq_false_iff.mpr c32
                              subst c32
                              have H1 : (sacristylaw10_Great.l1 k4 x3_4 (wrap64 (x5_2 + 1)) a0_0 l0_1 l0_2) = some r := by rw [if_neg (show ¬ (false = true) by decide)] at H; exact H
                              clear H
                              have H := H1
                              clear H1
                              have H' := Aside0.mk H
                              clear H
                              have hnb36 := NB126_123.out
                              have hnc36 := NB123_126.out
                              have hcz37_0 : wr.cell? ⟨gb126, 0, none⟩ = some (.string ((rd_T40 l0_2 x5_2).f0)) := (blk_cell BK126.out 0).trans rfl
                              have hcz37_1 : wr.cell? ⟨gb126, 1, none⟩ = some (.bool ((rd_T40 l0_2 x5_2).f1)) := (blk_cell BK126.out 1).trans rfl
                              have hcz37_2 : wr.cell? ⟨gb126, 2, none⟩ = some (.string ((rd_T40 l0_2 x5_2).f2)) := (blk_cell BK126.out 2).trans rfl
                              have hcz37_3 : wr.cell? ⟨gb126, 3, none⟩ = some (.slice A125_3 ((rd_T40 l0_2 x5_2).f3).length c125_3) := (blk_cell BK126.out 3).trans rfl
                              have hcz37_4 : wr.cell? ⟨gb126, 4, none⟩ = some (.slice A125_4 ((rd_T40 l0_2 x5_2).f4).length c125_4) := (blk_cell BK126.out 4).trans rfl
                              have hfz37_0 := blk_frozen BK126.out 0
                              have hfz37_1 := blk_frozen BK126.out 1
                              have hfz37_2 := blk_frozen BK126.out 2
                              have hfz37_3 := blk_frozen BK126.out 3
                              have hfz37_4 := blk_frozen BK126.out 4
                              go_wp2_with (first | ((with_reducible refine gate_callee (f := 16) rfl ?_); refine goesL_ (some 89) rfl rfl Tryd.func16 (by kernel_rfl) rfl #[.slice A125_3 ((rd_T40 l0_2 x5_2).f3).length c125_3] rfl (by (try simp only [List.map_toArray, List.map_cons, List.map_nil]); first | done | rfl | (simp only [List.length_drop, List.length_take]; rfl)) ?_; (with_reducible refine (sacristylaw09_Great.calls k4 _ _ ((rd_T40 l0_2 x5_2).f3) false _ ?side1 ?side2 A31.out).mono ?_); (case side1 => repeat (first | exact (Kd.C_below HR125_3.out HB.out) | (with_reducible refine Kd.C_alloc ?_ _) | (with_reducible refine Kd.C_drewN ?_ _) | (with_reducible refine Kd.C_drew ?_))); (case side2 => exact HC125_3.out); rintro e w38 ⟨rfl, hb⟩; refine ⟨_, rfl, ?_⟩; have n0_ := Aside0.mk (blk_below (g := gb123) (o := .cells #[.int .i64 a0_0, .slice A0_1 l0_1.length c0_1, .slice (some ad125) l0_2.length c0_2] 25 (0, 0)) (by (with_reducible repeat (first | refine blk_drewN ?_ _ | refine blk_drew ?_ | refine blk_alloc ?_ _)); exact BK123.out) hb); have n1_ := Aside0.mk (blk_below (g := gb126) (o := .cells #[.string ((rd_T40 l0_2 x5_2).f0), .bool ((rd_T40 l0_2 x5_2).f1), .string ((rd_T40 l0_2 x5_2).f2), .slice A125_3 ((rd_T40 l0_2 x5_2).f3).length c125_3, .slice A125_4 ((rd_T40 l0_2 x5_2).f4).length c125_4] 40 (0, 0)) (by (with_reducible repeat (first | refine blk_drewN ?_ _ | refine blk_drew ?_ | refine blk_alloc ?_ _)); exact BK126.out) hb); have n2_ := Aside0.mk (below_step (by repeat (first | (with_reducible first | exact HB.out | apply below_alloc | apply pw_below_drewN | apply below_drew1 | refine below_set ?_ GE123.out | refine below_set ?_ GE126.out) | exact HB.out)) hb); clear BK123; clear BK126; clear HB; have BK123 := n0_; have BK126 := n1_; have HB := n2_; clear n0_ n1_ n2_; (try clear hb); (try clear hb2); (try clear hk); (try clear hi)))
                              go_roundg k4
                              case measure => have := HJ1.out; have := HK2.out; have := HJ11.out; have := HK4.out; omega
                              case rel => exact ⟨(x3_4), (wrap64 (x5_2 + 1)), (by first | rfl | (simp; done) | (simp [*]; done)), (by first | rfl | (simp; done) | (simp [*]; done)), H', ⟨by have := HJ1.out; have := HK2.out; have := HJ11.out; have := HK4.out; omega⟩, ⟨by (with_reducible repeat (first | refine blk_drewN ?_ _ | refine blk_drew ?_ | refine blk_alloc ?_ _)); exact BK123.out⟩, ⟨by repeat (first | (with_reducible first | exact HB.out | apply below_alloc | apply pw_below_drewN | apply below_drew1 | refine below_set ?_ GE123.out | refine below_set ?_ GE126.out) | exact HB.out)⟩⟩
                        · rw [if_neg c25] at H
                          have c25b0 : decide (x7_4 < (((rd_T40 l0_2 x5_2).f4).length : Int)) = false := decide_eq_false c25
                          clear c25
                          replace H := Option.bind_eq_some_iff.mp H
                          obtain ⟨t129, A390, H⟩ := H
                          replace H : (if t129 = true then (some true) else (sacristylaw10_Great.l1 k4 x3_4 (wrap64 (x5_2 + 1)) a0_0 l0_1 l0_2)) = some r := H
                          have A39 := Aside0.mk A390
                          clear A390
                          by_cases c40 : t129 = true
                          · subst c40
                            have H1 : (some true) = some r := by rw [if_pos rfl] at H; exact H
                            clear H
                            have H := H1
                            clear H1
                            obtain rfl := Option.some.inj H
                            have hnb41 := NB126_123.out
                            have hnc41 := NB123_126.out
                            have hcz42_0 : wr.cell? ⟨gb126, 0, none⟩ = some (.string ((rd_T40 l0_2 x5_2).f0)) := (blk_cell BK126.out 0).trans rfl
                            have hcz42_1 : wr.cell? ⟨gb126, 1, none⟩ = some (.bool ((rd_T40 l0_2 x5_2).f1)) := (blk_cell BK126.out 1).trans rfl
                            have hcz42_2 : wr.cell? ⟨gb126, 2, none⟩ = some (.string ((rd_T40 l0_2 x5_2).f2)) := (blk_cell BK126.out 2).trans rfl
                            have hcz42_3 : wr.cell? ⟨gb126, 3, none⟩ = some (.slice A125_3 ((rd_T40 l0_2 x5_2).f3).length c125_3) := (blk_cell BK126.out 3).trans rfl
                            have hcz42_4 : wr.cell? ⟨gb126, 4, none⟩ = some (.slice A125_4 ((rd_T40 l0_2 x5_2).f4).length c125_4) := (blk_cell BK126.out 4).trans rfl
                            have hfz42_0 := blk_frozen BK126.out 0
                            have hfz42_1 := blk_frozen BK126.out 1
                            have hfz42_2 := blk_frozen BK126.out 2
                            have hfz42_3 := blk_frozen BK126.out 3
                            have hfz42_4 := blk_frozen BK126.out 4
                            go_wp2_with (first | ((with_reducible refine gate_callee (f := 16) rfl ?_); refine goesL_ (some 89) rfl rfl Tryd.func16 (by kernel_rfl) rfl #[.slice A125_3 ((rd_T40 l0_2 x5_2).f3).length c125_3] rfl (by (try simp only [List.map_toArray, List.map_cons, List.map_nil]); first | done | rfl | (simp only [List.length_drop, List.length_take]; rfl)) ?_; (with_reducible refine (sacristylaw09_Great.calls k4 _ _ ((rd_T40 l0_2 x5_2).f3) true _ ?side1 ?side2 A39.out).mono ?_); (case side1 => repeat (first | exact (Kd.C_below HR125_3.out HB.out) | (with_reducible refine Kd.C_alloc ?_ _) | (with_reducible refine Kd.C_drewN ?_ _) | (with_reducible refine Kd.C_drew ?_))); (case side2 => exact HC125_3.out); rintro e w43 ⟨rfl, hb⟩; refine ⟨_, rfl, ?_⟩; have n0_ := Aside0.mk (blk_below (g := gb123) (o := .cells #[.int .i64 a0_0, .slice A0_1 l0_1.length c0_1, .slice (some ad125) l0_2.length c0_2] 25 (0, 0)) (by (with_reducible repeat (first | refine blk_drewN ?_ _ | refine blk_drew ?_ | refine blk_alloc ?_ _)); exact BK123.out) hb); have n1_ := Aside0.mk (blk_below (g := gb126) (o := .cells #[.string ((rd_T40 l0_2 x5_2).f0), .bool ((rd_T40 l0_2 x5_2).f1), .string ((rd_T40 l0_2 x5_2).f2), .slice A125_3 ((rd_T40 l0_2 x5_2).f3).length c125_3, .slice A125_4 ((rd_T40 l0_2 x5_2).f4).length c125_4] 40 (0, 0)) (by (with_reducible repeat (first | refine blk_drewN ?_ _ | refine blk_drew ?_ | refine blk_alloc ?_ _)); exact BK126.out) hb); have n2_ := Aside0.mk (below_step (by repeat (first | (with_reducible first | exact HB.out | apply below_alloc | apply pw_below_drewN | apply below_drew1 | refine below_set ?_ GE123.out | refine below_set ?_ GE126.out) | exact HB.out)) hb); clear BK123; clear BK126; clear HB; have BK123 := n0_; have BK126 := n1_; have HB := n2_; clear n0_ n1_ n2_; (try clear hb); (try clear hb2); (try clear hk); (try clear hi)))
                            go_ret
                            exact ⟨by first | rfl | (simp [errW_none, errW_some] <;> rfl) | (simp only [← hji19, ← hji20]; first | rfl | (simp [errW_none, errW_some] <;> rfl)) | (simp [*, errW_none, errW_some] <;> rfl), by repeat (first | (with_reducible first | exact HB.out | apply below_alloc | apply pw_below_drewN | apply below_drew1 | refine below_set ?_ GE123.out | refine below_set ?_ GE126.out) | exact HB.out)⟩
                          · replace c40 := Bool.eq_false_iff.mpr c40
                            subst c40
                            have H1 : (sacristylaw10_Great.l1 k4 x3_4 (wrap64 (x5_2 + 1)) a0_0 l0_1 l0_2) = some r := by rw [if_neg (show ¬ (false = true) by decide)] at H; exact H
                            clear H
                            have H := H1
                            clear H1
                            have H' := Aside0.mk H
                            clear H
                            have hnb44 := NB126_123.out
                            have hnc44 := NB123_126.out
                            have hcz45_0 : wr.cell? ⟨gb126, 0, none⟩ = some (.string ((rd_T40 l0_2 x5_2).f0)) := (blk_cell BK126.out 0).trans rfl
                            have hcz45_1 : wr.cell? ⟨gb126, 1, none⟩ = some (.bool ((rd_T40 l0_2 x5_2).f1)) := (blk_cell BK126.out 1).trans rfl
                            have hcz45_2 : wr.cell? ⟨gb126, 2, none⟩ = some (.string ((rd_T40 l0_2 x5_2).f2)) := (blk_cell BK126.out 2).trans rfl
                            have hcz45_3 : wr.cell? ⟨gb126, 3, none⟩ = some (.slice A125_3 ((rd_T40 l0_2 x5_2).f3).length c125_3) := (blk_cell BK126.out 3).trans rfl
                            have hcz45_4 : wr.cell? ⟨gb126, 4, none⟩ = some (.slice A125_4 ((rd_T40 l0_2 x5_2).f4).length c125_4) := (blk_cell BK126.out 4).trans rfl
                            have hfz45_0 := blk_frozen BK126.out 0
                            have hfz45_1 := blk_frozen BK126.out 1
                            have hfz45_2 := blk_frozen BK126.out 2
                            have hfz45_3 := blk_frozen BK126.out 3
                            have hfz45_4 := blk_frozen BK126.out 4
                            go_wp2_with (first | ((with_reducible refine gate_callee (f := 16) rfl ?_); refine goesL_ (some 89) rfl rfl Tryd.func16 (by kernel_rfl) rfl #[.slice A125_3 ((rd_T40 l0_2 x5_2).f3).length c125_3] rfl (by (try simp only [List.map_toArray, List.map_cons, List.map_nil]); first | done | rfl | (simp only [List.length_drop, List.length_take]; rfl)) ?_; (with_reducible refine (sacristylaw09_Great.calls k4 _ _ ((rd_T40 l0_2 x5_2).f3) false _ ?side1 ?side2 A39.out).mono ?_); (case side1 => repeat (first | exact (Kd.C_below HR125_3.out HB.out) | (with_reducible refine Kd.C_alloc ?_ _) | (with_reducible refine Kd.C_drewN ?_ _) | (with_reducible refine Kd.C_drew ?_))); (case side2 => exact HC125_3.out); rintro e w46 ⟨rfl, hb⟩; refine ⟨_, rfl, ?_⟩; have n0_ := Aside0.mk (blk_below (g := gb123) (o := .cells #[.int .i64 a0_0, .slice A0_1 l0_1.length c0_1, .slice (some ad125) l0_2.length c0_2] 25 (0, 0)) (by (with_reducible repeat (first | refine blk_drewN ?_ _ | refine blk_drew ?_ | refine blk_alloc ?_ _)); exact BK123.out) hb); have n1_ := Aside0.mk (blk_below (g := gb126) (o := .cells #[.string ((rd_T40 l0_2 x5_2).f0), .bool ((rd_T40 l0_2 x5_2).f1), .string ((rd_T40 l0_2 x5_2).f2), .slice A125_3 ((rd_T40 l0_2 x5_2).f3).length c125_3, .slice A125_4 ((rd_T40 l0_2 x5_2).f4).length c125_4] 40 (0, 0)) (by (with_reducible repeat (first | refine blk_drewN ?_ _ | refine blk_drew ?_ | refine blk_alloc ?_ _)); exact BK126.out) hb); have n2_ := Aside0.mk (below_step (by repeat (first | (with_reducible first | exact HB.out | apply below_alloc | apply pw_below_drewN | apply below_drew1 | refine below_set ?_ GE123.out | refine below_set ?_ GE126.out) | exact HB.out)) hb); clear BK123; clear BK126; clear HB; have BK123 := n0_; have BK126 := n1_; have HB := n2_; clear n0_ n1_ n2_; (try clear hb); (try clear hb2); (try clear hk); (try clear hi)))
                            go_roundg k4
                            case measure => have := HJ1.out; have := HK2.out; have := HJ11.out; have := HK4.out; omega
                            case rel => exact ⟨(x3_4), (wrap64 (x5_2 + 1)), (by first | rfl | (simp; done) | (simp [*]; done)), (by first | rfl | (simp; done) | (simp [*]; done)), H', ⟨by have := HJ1.out; have := HK2.out; have := HJ11.out; have := HK4.out; omega⟩, ⟨by (with_reducible repeat (first | refine blk_drewN ?_ _ | refine blk_drew ?_ | refine blk_alloc ?_ _)); exact BK123.out⟩, ⟨by repeat (first | (with_reducible first | exact HB.out | apply below_alloc | apply pw_below_drewN | apply below_drew1 | refine below_set ?_ GE123.out | refine below_set ?_ GE126.out) | exact HB.out)⟩⟩
                  · rw [if_neg c18] at H
                    exact absurd H (by simp)
                · rw [if_neg c17] at H
                  exact absurd H (by simp)
              · replace c16 := Bool.eq_false_iff.mpr c16
                subst c16
                have H1 : (if x3_2 ≥ 20000 then (some true) else (some (decide ((l0_2.length : Int) > 40)))) = some r := by rw [if_neg (show ¬ (false = true) by decide)] at H; exact H
                clear H
                have H := H1
                clear H1
                by_cases c47 : x3_2 ≥ 20000
                · rw [if_pos c47] at H
                  have c47b0 : decide (20000 ≤ x3_2) = true := decide_eq_true c47
                  clear c47
                  obtain rfl := Option.some.inj H
                  go_wp2
                  go_ret
                  exact ⟨by first | rfl | (simp [errW_none, errW_some] <;> rfl) | (simp [*, errW_none, errW_some] <;> rfl), by repeat (first | (with_reducible first | exact HB.out | apply below_alloc | apply pw_below_drewN | apply below_drew1 | refine below_set ?_ GE123.out) | exact HB.out)⟩
                · rw [if_neg c47] at H
                  have c47b0 : decide (20000 ≤ x3_2) = false := decide_eq_false c47
                  clear c47
                  obtain rfl := Option.some.inj H
                  have hcz48_0 : wc.cell? ⟨gb123, 0, none⟩ = some (.int .i64 a0_0) := (blk_cell BK123.out 0).trans rfl
                  have hcz48_1 : wc.cell? ⟨gb123, 1, none⟩ = some (.slice A0_1 l0_1.length c0_1) := (blk_cell BK123.out 1).trans rfl
                  have hcz48_2 : wc.cell? ⟨gb123, 2, none⟩ = some (.slice A0_2 l0_2.length c0_2) := (blk_cell BK123.out 2).trans rfl
                  have hfz48_0 := blk_frozen BK123.out 0
                  have hfz48_1 := blk_frozen BK123.out 1
                  have hfz48_2 := blk_frozen BK123.out 2
                  go_wp2
                  go_ret
                  exact ⟨by first | rfl | (simp [errW_none, errW_some] <;> rfl) | (simp [*, errW_none, errW_some] <;> rfl), by repeat (first | (with_reducible first | exact HB.out | apply below_alloc | apply pw_below_drewN | apply below_drew1 | refine below_set ?_ GE123.out) | exact HB.out)⟩

end Go.Proofs.YtgmddlbbmlneaaaDoor.PR

/- What the measure of a root answers: it always does, and where it says no the root is small. -/
namespace Go.Proofs.YtgmddlbbmlneaaaDoor.PR
open Go.RowKit Go.Proofs.YtgmddlbbmlneaaaDoorW.PrintWords Go.Proofs.YtgmddlbbmlneaaaDoorW.PrintLast Go.Proofs.YtgmddlbbmlneaaaDoorW.PrintMore
set_option linter.unusedVariables false

theorem up_mono {α : Type} {g : Nat → Option α} (h : ∀ k, LeO (g k) (g (k + 1))) {k m : Nat} (hk : k ≤ m) {r : α} (hr : g k = some r) : g m = some r := by
  induction m with
  | zero => obtain rfl : k = 0 := by omega
            exact hr
  | succ m ih =>
    by_cases e : k = m + 1
    · subst e; exact hr
    · exact h m r (ih (by omega))
def smallRefG (x : S76) : Prop := x.f0.size < 20000 ∧ x.f1.size < 20000
def smallForkG (x : S40) : Prop := x.f0.size < 20000 ∧ x.f2.size < 20000 ∧ x.f4.length < 20000 ∧ (∀ y ∈ x.f4, y.size < 20000) ∧ x.f3.length ≤ 100 ∧ ∀ y ∈ x.f3, smallRefG y
def smallRoot (l1 : List ByteArray) (l2 : List S40) : Prop := l1.length < 20000 ∧ (∀ y ∈ l1, y.size < 20000) ∧ l2.length ≤ 40 ∧ ∀ x ∈ l2, smallForkG x

theorem mn_range (n : Nat) : 0 ≤ mn (n : Int) 20000 ∧ mn (n : Int) 20000 ≤ 20000 ∧ (mn (n : Int) 20000 < 20000 → n < 20000) := by
  unfold mn; split <;> omega
theorem wrap_in (x : Int) (h0 : -9223372036854775808 ≤ x) (h1 : x ≤ 9223372036854775807) : wrap64 x = x := IntWalk.wrap64_in x ⟨h0, h1⟩
theorem drop_get {α : Type} (l : List α) (i : Nat) (h : i < l.length) (z : α) : l.drop i = l.getD i z :: l.drop (i + 1) := by
  rw [List.drop_eq_getElem_cons h]
  simp [h]
theorem great9_go (l : List S76) (hl : l.length ≤ 140737488351232) : ∀ (d i : Nat) (x3 : Int), i + d = l.length → 0 ≤ x3 → x3 ≤ 140737488351232 + 20000 →
    ∃ k r, sacristylaw09_Great.l0 k l x3 (i : Int) = some r ∧ (r = false → x3 < 20000 ∧ l.length ≤ 100 ∧ ∀ y ∈ l.drop i, smallRefG y) := by
  intro d
  induction d with
  | zero =>
    intro i x3 hi h0 h1
    refine ⟨1, ?_⟩
    rw [sacristylaw09_Great.l0, if_neg (by omega)]
    by_cases c : x3 ≥ 20000
    · rw [if_pos c]; exact ⟨true, rfl, fun h => by cases h⟩
    · rw [if_neg c]
      refine ⟨_, rfl, fun h => ?_⟩
      rw [decide_eq_false_iff_not] at h
      exact ⟨by omega, by omega, fun y hy => by rw [List.drop_of_length_le (by omega)] at hy; cases hy⟩
  | succ d ih =>
    intro i x3 hi h0 h1
    by_cases c : x3 < 20000
    · have m0 := mn_range (rd_T76 l (i : Int)).f0.size
      have m1 := mn_range (rd_T76 l (i : Int)).f1.size
      obtain ⟨k, r, hr, hq⟩ := ih (i + 1) (x3 + mn ((rd_T76 l (i : Int)).f0.size : Int) 20000 + mn ((rd_T76 l (i : Int)).f1.size : Int) 20000) (by omega) (by omega) (by omega)
      refine ⟨k + 1, r, ?_, fun h => ?_⟩
      · have w1 : wrap64 (x3 + mn ((rd_T76 l (i : Int)).f0.size : Int) 20000) = x3 + mn ((rd_T76 l (i : Int)).f0.size : Int) 20000 := wrap_in _ (by omega) (by omega)
        have w2 : wrap64 (x3 + mn ((rd_T76 l (i : Int)).f0.size : Int) 20000 + mn ((rd_T76 l (i : Int)).f1.size : Int) 20000) = x3 + mn ((rd_T76 l (i : Int)).f0.size : Int) 20000 + mn ((rd_T76 l (i : Int)).f1.size : Int) 20000 := wrap_in _ (by omega) (by omega)
        rw [sacristylaw09_Great.l0, if_pos (by omega), if_pos c, if_pos (by omega), w1, w2, wrap_in ((i : Int) + 1) (by omega) (by omega)]
        exact hr
      · obtain ⟨q1, q2, q3⟩ := hq h
        refine ⟨c, q2, fun y hy => ?_⟩
        rw [drop_get l i (by omega) z76] at hy
        rcases List.mem_cons.1 hy with rfl | hy
        · have e : l.getD i z76 = rd_T76 l (i : Int) := by rw [rd_T76, Int.toNat_natCast]
          rw [e]
          exact ⟨m0.2.2 (by omega), m1.2.2 (by omega)⟩
        · exact q3 y hy
    · refine ⟨1, true, ?_, fun h => by cases h⟩
      rw [sacristylaw09_Great.l0, if_pos (by omega), if_neg c, if_pos (by omega)]
theorem great9_ok (l : List S76) (hl : l.length ≤ 140737488351232) : ∃ k r, sacristylaw09_Great.f k l = some r ∧ (r = false → l.length ≤ 100 ∧ ∀ y ∈ l, smallRefG y) := by
  obtain ⟨k, r, h, hq⟩ := great9_go l hl l.length 0 (l.length : Int) (by omega) (by omega) (by omega)
  exact ⟨k, r, h, fun e => ⟨(hq e).2.1, by have := (hq e).2.2; rwa [List.drop_zero] at this⟩⟩

theorem great10_mono_l1 (x3 x5 a : Int) (l1 : List ByteArray) (l2 : List S40) (k : Nat) : LeO (sacristylaw10_Great.l1 k x3 x5 a l1 l2) (sacristylaw10_Great.l1 (k + 1) x3 x5 a l1 l2) := (sacristylaw10_Great.mono_l k).2.1 _ _ _ _ _
/-- The packs of a fork, then the rest of the forks. -/
theorem great10_packs (a : Int) (l1 : List ByteArray) (l2 : List S40) (f0 : ByteArray) (f1 : Bool) (f2 : ByteArray) (f3 : List S76) (f4 : List ByteArray) (h3 : f3.length ≤ 140737488351232) (h4 : f4.length ≤ 140737488351232) (i : Nat) (hi : (i : Int) ≤ 140737488351232)
    (Q : Int → Prop) (hQ : ∀ x y : Int, 0 ≤ x → x ≤ y → Q y → Q x)
    (next : ∀ x3 : Int, 0 ≤ x3 → x3 ≤ 140737488351232 + 200000 → ∃ k r, sacristylaw10_Great.l1 k x3 ((i : Int) + 1) a l1 l2 = some r ∧ (r = false → x3 < 20000 ∧ Q x3)) :
    ∀ (d j : Nat) (x3 : Int), j + d = f4.length → 0 ≤ x3 → x3 ≤ 140737488351232 + 100000 →
    ∃ k r, sacristylaw10_Great.l2 k x3 (i : Int) (j : Int) a l1 l2 f0 f1 f2 f3 f4 = some r ∧ (r = false → x3 < 20000 ∧ Q x3 ∧ (∀ y ∈ f4.drop j, y.size < 20000) ∧ f3.length ≤ 100 ∧ ∀ y ∈ f3, smallRefG y) := by
  have fin : ∀ (j : Nat) (x3 : Int), 0 ≤ x3 → x3 ≤ 140737488351232 + 100000 → (j = f4.length ∨ ¬ x3 < 20000) → j ≤ f4.length →
      ∃ k r, sacristylaw10_Great.l2 k x3 (i : Int) (j : Int) a l1 l2 f0 f1 f2 f3 f4 = some r ∧ (r = false → x3 < 20000 ∧ Q x3 ∧ (∀ y ∈ f4.drop j, y.size < 20000) ∧ f3.length ≤ 100 ∧ ∀ y ∈ f3, smallRefG y) := by
    intro j x3 h0 h1 hj hjl
    obtain ⟨k1, r1, e1, q1⟩ := great9_ok f3 h3
    obtain ⟨k2, r2, e2, q2⟩ := next x3 h0 (by omega)
    have u1 : sacristylaw09_Great.f (max k1 k2) f3 = some r1 := up_mono (fun k => sacristylaw09_Great.mono f3 k) (Nat.le_max_left _ _) e1
    have u2 : sacristylaw10_Great.l1 (max k1 k2) x3 ((i : Int) + 1) a l1 l2 = some r2 := up_mono (fun k => great10_mono_l1 _ _ _ _ _ k) (Nat.le_max_right _ _) e2
    have key : ∃ r, ((sacristylaw09_Great.f (max k1 k2) f3).bind fun t128 => (if t128 = true then (some true) else (sacristylaw10_Great.l1 (max k1 k2) x3 (wrap64 ((i : Int) + 1)) a l1 l2))) = some r ∧ (r = false → r1 = false ∧ r2 = false) := by
      rw [wrap_in _ (by omega) (by omega), u1, u2]
      cases r1 with
      | true => exact ⟨true, rfl, fun h => by cases h⟩
      | false => exact ⟨r2, rfl, fun h => ⟨rfl, h⟩⟩
    obtain ⟨r, hr, hrq⟩ := key
    refine ⟨max k1 k2 + 1, r, ?_, fun h => ?_⟩
    · rw [sacristylaw10_Great.l2]
      by_cases c : (j : Int) < (f4.length : Int)
      · rw [if_pos c, if_neg (by omega)]; exact hr
      · rw [if_neg c]; exact hr
    · obtain ⟨b1, b2⟩ := hrq h
      obtain ⟨z1, z2⟩ := q2 b2
      refine ⟨z1, z2, fun y hy => ?_, (q1 b1).1, (q1 b1).2⟩
      rw [List.drop_of_length_le (by omega)] at hy; cases hy
  intro d
  induction d with
  | zero => intro j x3 hj h0 h1; exact fin j x3 h0 h1 (.inl (by omega)) (by omega)
  | succ d ih =>
    intro j x3 hj h0 h1
    by_cases c : x3 < 20000
    · have m0 := mn_range (rdOf ByteArray.empty f4 (j : Int)).size
      obtain ⟨k, r, hr, hq⟩ := ih (j + 1) (x3 + mn ((rdOf ByteArray.empty f4 (j : Int)).size : Int) 20000) (by omega) (by omega) (by omega)
      refine ⟨k + 1, r, ?_, fun h => ?_⟩
      · rw [sacristylaw10_Great.l2, if_pos (by omega), if_pos c, if_pos (by omega), wrap_in _ (by omega) (by omega), wrap_in _ (by omega) (by omega)]
        exact hr
      · obtain ⟨q1, q2, q3, q4⟩ := hq h
        refine ⟨c, hQ _ _ h0 (by omega) q2, fun y hy => ?_, q4⟩
        rw [drop_get f4 j (by omega) ByteArray.empty] at hy
        rcases List.mem_cons.1 hy with rfl | hy
        · have e : f4.getD j ByteArray.empty = rdOf ByteArray.empty f4 (j : Int) := by rw [rdOf, Int.toNat_natCast]
          rw [e]
          exact m0.2.2 (by omega)
        · exact q3 y hy
    · exact fin j x3 h0 h1 (.inr c) (by omega)
def okFkG (x : S40) : Prop := x.f3.length ≤ 140737488351232 ∧ x.f4.length ≤ 140737488351232
theorem great10_forks (a : Int) (l1 : List ByteArray) (l2 : List S40) (hl : l2.length ≤ 140737488351232) (hf : ∀ x ∈ l2, okFkG x) : ∀ (d i : Nat) (x3 : Int), i + d = l2.length → 0 ≤ x3 → x3 ≤ 140737488351232 + 200000 →
    ∃ k r, sacristylaw10_Great.l1 k x3 (i : Int) a l1 l2 = some r ∧ (r = false → x3 < 20000 ∧ l2.length ≤ 40 ∧ ∀ x ∈ l2.drop i, smallForkG x) := by
  intro d
  induction d with
  | zero =>
    intro i x3 hi h0 h1
    refine ⟨2, ?_⟩
    rw [sacristylaw10_Great.l1, if_neg (by omega), sacristylaw10_Great.j3, if_neg (by simp)]
    by_cases c : x3 ≥ 20000
    · rw [if_pos c]; exact ⟨true, rfl, fun h => by cases h⟩
    · rw [if_neg c]
      refine ⟨_, rfl, fun h => ?_⟩
      rw [decide_eq_false_iff_not] at h
      exact ⟨by omega, by omega, fun y hy => by rw [List.drop_of_length_le (by omega)] at hy; cases hy⟩
  | succ d ih =>
    intro i x3 hi h0 h1
    by_cases c : x3 < 20000
    · have hx : rd_T40 l2 (i : Int) ∈ l2 := by
        rw [rd_T40, Int.toNat_natCast]
        have : i < l2.length := by omega
        simp [this]
      obtain ⟨o3, o4⟩ := hf _ hx
      have m0 := mn_range (rd_T40 l2 (i : Int)).f0.size
      have m2 := mn_range (rd_T40 l2 (i : Int)).f2.size
      obtain ⟨k, r, hr, hq⟩ := great10_packs a l1 l2 (rd_T40 l2 (i : Int)).f0 (rd_T40 l2 (i : Int)).f1 (rd_T40 l2 (i : Int)).f2 (rd_T40 l2 (i : Int)).f3 (rd_T40 l2 (i : Int)).f4 o3 o4 i (by omega)
        (fun _ => l2.length ≤ 40 ∧ ∀ x ∈ l2.drop (i + 1), smallForkG x) (fun _ _ _ _ h => h)
        (fun y h0 h1 => ih (i + 1) y (by omega) h0 h1) (rd_T40 l2 (i : Int)).f4.length 0
        (x3 + 1 + mn ((rd_T40 l2 (i : Int)).f0.size : Int) 20000 + mn ((rd_T40 l2 (i : Int)).f2.size : Int) 20000 + ((rd_T40 l2 (i : Int)).f4.length : Int)) (by omega) (by omega) (by omega)
      refine ⟨k + 2, r, ?_, fun h => ?_⟩
      · have w1 : wrap64 (x3 + 1) = x3 + 1 := wrap_in _ (by omega) (by omega)
        have w2 : wrap64 (x3 + 1 + mn ((rd_T40 l2 (i : Int)).f0.size : Int) 20000) = x3 + 1 + mn ((rd_T40 l2 (i : Int)).f0.size : Int) 20000 := wrap_in _ (by omega) (by omega)
        have w3 : wrap64 (x3 + 1 + mn ((rd_T40 l2 (i : Int)).f0.size : Int) 20000 + mn ((rd_T40 l2 (i : Int)).f2.size : Int) 20000) = x3 + 1 + mn ((rd_T40 l2 (i : Int)).f0.size : Int) 20000 + mn ((rd_T40 l2 (i : Int)).f2.size : Int) 20000 := wrap_in _ (by omega) (by omega)
        have w4 : wrap64 (x3 + 1 + mn ((rd_T40 l2 (i : Int)).f0.size : Int) 20000 + mn ((rd_T40 l2 (i : Int)).f2.size : Int) 20000 + ((rd_T40 l2 (i : Int)).f4.length : Int)) = x3 + 1 + mn ((rd_T40 l2 (i : Int)).f0.size : Int) 20000 + mn ((rd_T40 l2 (i : Int)).f2.size : Int) 20000 + ((rd_T40 l2 (i : Int)).f4.length : Int) := wrap_in _ (by omega) (by omega)
        rw [sacristylaw10_Great.l1, if_pos (by omega), sacristylaw10_Great.j3, if_pos (by simpa using c), if_pos (by omega), if_pos (by omega), w1, w2, w3, w4]
        exact hr
      · obtain ⟨q1, ⟨q2, q3⟩, q4, q5, q6⟩ := hq h
        refine ⟨c, q2, fun y hy => ?_⟩
        rw [drop_get l2 i (by omega) z40] at hy
        rcases List.mem_cons.1 hy with rfl | hy
        · have e : l2.getD i z40 = rd_T40 l2 (i : Int) := by rw [rd_T40, Int.toNat_natCast]
          rw [e]
          rw [List.drop_zero] at q4
          exact ⟨m0.2.2 (by omega), m2.2.2 (by omega), by omega, q4, q5, q6⟩
        · exact q3 y hy
    · refine ⟨2, true, ?_, fun h => by cases h⟩
      rw [sacristylaw10_Great.l1, if_pos (by omega), sacristylaw10_Great.j3, if_neg (by simpa using c), if_pos (by omega)]
theorem great10_pool (a : Int) (l1 : List ByteArray) (l2 : List S40) (h1l : l1.length ≤ 140737488351232) (hl : l2.length ≤ 140737488351232) (hf : ∀ x ∈ l2, okFkG x) : ∀ (d i : Nat) (x3 : Int), i + d = l1.length → 0 ≤ x3 → x3 ≤ 281474976710656 →
    ∃ k r, sacristylaw10_Great.l0 k x3 (i : Int) a l1 l2 = some r ∧ (r = false → x3 < 20000 ∧ (∀ y ∈ l1.drop i, y.size < 20000) ∧ l2.length ≤ 40 ∧ ∀ x ∈ l2, smallForkG x) := by
  have fin : ∀ (i : Nat) (x3 : Int), 0 ≤ x3 → x3 ≤ 281474976710656 → (i = l1.length ∨ ¬ x3 < 20000) →
      ∃ k r, sacristylaw10_Great.l0 k x3 (i : Int) a l1 l2 = some r ∧ (r = false → x3 < 20000 ∧ (∀ y ∈ l1.drop i, y.size < 20000) ∧ l2.length ≤ 40 ∧ ∀ x ∈ l2, smallForkG x) := by
    intro i x3 h0 h1 hi
    have main : ∃ k r, sacristylaw10_Great.j1 k x3 a l1 l2 = some r ∧ (r = false → x3 < 20000 ∧ l2.length ≤ 40 ∧ ∀ x ∈ l2, smallForkG x) := by
      by_cases c : x3 < 20000
      · obtain ⟨k, r, hr, hq⟩ := great10_forks a l1 l2 hl hf l2.length 0 x3 (by omega) h0 (by omega)
        refine ⟨k + 1, r, ?_, fun h => ?_⟩
        · rw [sacristylaw10_Great.j1]; exact hr
        · have := hq h; rw [List.drop_zero] at this; exact this
      · refine ⟨3, true, ?_, fun h => by cases h⟩
        rw [sacristylaw10_Great.j1, sacristylaw10_Great.l1]
        split
        · rw [sacristylaw10_Great.j3, if_neg (by simpa using c), if_pos (by omega)]
        · rw [sacristylaw10_Great.j3, if_neg (by simp), if_pos (by omega)]
    obtain ⟨k, r, hr, hq⟩ := main
    refine ⟨k + 1, r, ?_, fun h => ?_⟩
    · rw [sacristylaw10_Great.l0]
      by_cases c : (i : Int) < (l1.length : Int)
      · rw [if_pos c, if_neg (by omega)]; exact hr
      · rw [if_neg c]; exact hr
    · obtain ⟨q1, q2, q3⟩ := hq h
      refine ⟨q1, fun y hy => ?_, q2, q3⟩
      rw [List.drop_of_length_le (by omega)] at hy; cases hy
  intro d
  induction d with
  | zero => intro i x3 hi h0 h1; exact fin i x3 h0 h1 (.inl (by omega))
  | succ d ih =>
    intro i x3 hi h0 h1
    by_cases c : x3 < 20000
    · have m0 := mn_range (rdOf ByteArray.empty l1 (i : Int)).size
      obtain ⟨k, r, hr, hq⟩ := ih (i + 1) (x3 + mn ((rdOf ByteArray.empty l1 (i : Int)).size : Int) 20000) (by omega) (by omega) (by omega)
      refine ⟨k + 1, r, ?_, fun h => ?_⟩
      · rw [sacristylaw10_Great.l0, if_pos (by omega), if_pos c, if_pos (by omega), wrap_in _ (by omega) (by omega), wrap_in _ (by omega) (by omega)]
        exact hr
      · obtain ⟨q1, q2, q3⟩ := hq h
        refine ⟨c, fun y hy => ?_, q3⟩
        rw [drop_get l1 i (by omega) ByteArray.empty] at hy
        rcases List.mem_cons.1 hy with rfl | hy
        · have e : l1.getD i ByteArray.empty = rdOf ByteArray.empty l1 (i : Int) := by rw [rdOf, Int.toNat_natCast]
          rw [e]
          exact m0.2.2 (by omega)
        · exact q2 y hy
    · exact fin i x3 h0 h1 (.inr c)
/-- The measure of a root answers; where it says no, the root is small. -/
theorem great10_ok (a : Int) (l1 : List ByteArray) (l2 : List S40) (h1l : l1.length ≤ 140737488351232) (hl : l2.length ≤ 140737488351232) (hf : ∀ x ∈ l2, okFkG x) :
    ∃ k r, sacristylaw10_Great.f k a l1 l2 = some r ∧ (r = false → smallRoot l1 l2) := by
  obtain ⟨k, r, hr, hq⟩ := great10_pool a l1 l2 h1l hl hf l1.length 0 ((l1.length : Int) + (l2.length : Int)) (by omega) (by omega) (by omega)
  refine ⟨k, r, ?_, fun h => ?_⟩
  · rw [sacristylaw10_Great.f, wrap_in _ (by omega) (by omega)]; exact hr
  · obtain ⟨q1, q2, q3, q4⟩ := hq h
    rw [List.drop_zero] at q2
    exact ⟨by omega, q2, q3, q4⟩
theorem small_ok {l1 : List ByteArray} {l2 : List S40} (h : smallRoot l1 l2) : okRoot l1 l2 = true := by
  obtain ⟨h1, h2, h3, h4⟩ := h
  simp only [okRoot, Bool.and_eq_true, List.all_eq_true, decide_eq_true_eq]
  refine ⟨⟨fun y hy => ?_, by omega⟩, fun x hx => ?_⟩
  · have := h2 y hy; simp only [okS, decide_eq_true_eq]; omega
  · obtain ⟨a1, a2, a3, a4, a5, a6⟩ := h4 x hx
    simp only [okFork, okS, Bool.and_eq_true, List.all_eq_true, decide_eq_true_eq]
    refine ⟨⟨⟨⟨by omega, by omega⟩, fun y hy => ?_⟩, fun y hy => ?_⟩, by omega⟩
    · obtain ⟨b1, b2⟩ := a6 y hy
      simp only [okRef, Bool.and_eq_true, decide_eq_true_eq]; omega
    · have := a4 y hy; omega
end Go.Proofs.YtgmddlbbmlneaaaDoor.PR

/- Two roots are the same to the law's own measure just if they are one. -/
namespace Go.Proofs.YtgmddlbbmlneaaaDoor.PR
open Go.RowKit Go.Proofs.YtgmddlbbmlneaaaDoorW.PrintWords Go.Proofs.YtgmddlbbmlneaaaDoorW.PrintLast Go.Proofs.YtgmddlbbmlneaaaDoorW.PrintMore
set_option linter.unusedVariables false

theorem ba_toList {a b : ByteArray} : a.toList = b.toList ↔ a = b := by
  rw [Lib.toList_data, Lib.toList_data]
  exact ⟨fun h => by cases a; cases b; simpa using congrArg (fun l => (⟨l.toArray⟩ : ByteArray)) h, fun h => by rw [h]⟩
theorem drop_zero_eq {α : Type} {l m : List α} : l.drop 0 = m.drop 0 ↔ l = m := by rw [List.drop_zero, List.drop_zero]
theorem texts_go (l m : List ByteArray) (hl : l.length ≤ 140737488351232) (hlm : l.length = m.length) : ∀ (d i : Nat), i + d = l.length →
    ∃ k r, sacristyref04_SameTexts.l0 k l m (i : Int) = some r ∧ (r = true ↔ l.drop i = m.drop i) := by
  intro d
  induction d with
  | zero =>
    intro i hi
    refine ⟨1, true, ?_, ?_⟩
    · rw [sacristyref04_SameTexts.l0, if_neg (by omega)]
    · rw [List.drop_of_length_le (by omega), List.drop_of_length_le (by omega)]; simp
  | succ d ih =>
    intro i hi
    have e1 : rdOf ByteArray.empty l (i : Int) = l.getD i ByteArray.empty := by rw [rdOf, Int.toNat_natCast]
    have e2 : rdOf ByteArray.empty m (i : Int) = m.getD i ByteArray.empty := by rw [rdOf, Int.toNat_natCast]
    rw [drop_get l i (by omega) ByteArray.empty, drop_get m i (by omega) ByteArray.empty]
    by_cases c : (l.getD i ByteArray.empty).toList = (m.getD i ByteArray.empty).toList
    · obtain ⟨k, r, hr, hq⟩ := ih (i + 1) (by omega)
      refine ⟨k + 1, r, ?_, ?_⟩
      · rw [sacristyref04_SameTexts.l0, if_pos (by omega), if_pos (by omega), if_pos (by omega), e1, e2, if_pos c, wrap_in _ (by omega) (by omega)]; exact hr
      · rw [hq, List.cons.injEq, ba_toList.1 c]; simp
    · refine ⟨1, false, ?_, ?_⟩
      · rw [sacristyref04_SameTexts.l0, if_pos (by omega), if_pos (by omega), if_pos (by omega), e1, e2, if_neg c]
      · rw [List.cons.injEq]
        exact ⟨fun h => (by cases h), fun h => absurd (ba_toList.2 h.1) c⟩
theorem texts_ok (l m : List ByteArray) (hl : l.length ≤ 140737488351232) : ∃ k r, sacristyref04_SameTexts.f k l m = some r ∧ (r = true ↔ l = m) := by
  by_cases c : l.length = m.length
  · obtain ⟨k, r, hr, hq⟩ := texts_go l m hl c l.length 0 (by omega)
    rw [drop_zero_eq] at hq
    exact ⟨k, r, by rw [sacristyref04_SameTexts.f, if_pos (by omega)]; exact hr, hq⟩
  · exact ⟨0, false, by rw [sacristyref04_SameTexts.f, if_neg (by omega)], fun h => (by cases h), fun h => absurd (congrArg List.length h) c⟩
theorem ref_eq {x y : S76} : x = y ↔ x.f0 = y.f0 ∧ x.f1 = y.f1 := by cases x; cases y; simp
theorem refs_go (l m : List S76) (hl : l.length ≤ 140737488351232) (hlm : l.length = m.length) : ∀ (d i : Nat), i + d = l.length →
    ∃ k r, sacristyref09_Same.l0 k l m (i : Int) = some r ∧ (r = true ↔ l.drop i = m.drop i) := by
  intro d
  induction d with
  | zero =>
    intro i hi
    refine ⟨1, true, ?_, ?_⟩
    · rw [sacristyref09_Same.l0, if_neg (by omega)]
    · rw [List.drop_of_length_le (by omega), List.drop_of_length_le (by omega)]; simp
  | succ d ih =>
    intro i hi
    have e1 : rd_T76 l (i : Int) = l.getD i z76 := by rw [rd_T76, Int.toNat_natCast]
    have e2 : rd_T76 m (i : Int) = m.getD i z76 := by rw [rd_T76, Int.toNat_natCast]
    rw [drop_get l i (by omega) z76, drop_get m i (by omega) z76]
    by_cases c : l.getD i z76 = m.getD i z76
    · obtain ⟨k, r, hr, hq⟩ := ih (i + 1) (by omega)
      refine ⟨k + 1, r, ?_, ?_⟩
      · rw [sacristyref09_Same.l0, if_pos (by omega), if_pos (by omega), if_pos (by omega), e1, e2, c, if_neg (by simp), wrap_in _ (by omega) (by omega)]; exact hr
      · rw [hq, List.cons.injEq, c]; simp
    · refine ⟨1, false, ?_, ?_⟩
      · have hne : ¬ ((l.getD i z76).f0.toList = (m.getD i z76).f0.toList ∧ (l.getD i z76).f1.toList = (m.getD i z76).f1.toList) := fun h => c (ref_eq.2 ⟨ba_toList.1 h.1, ba_toList.1 h.2⟩)
        rw [sacristyref09_Same.l0, if_pos (by omega), if_pos (by omega), if_pos (by omega), e1, e2, if_pos]
        rw [Bool.or_eq_true]
        by_cases z : (l.getD i z76).f0.toList = (m.getD i z76).f0.toList
        · right
          have : ¬ (l.getD i z76).f1.toList = (m.getD i z76).f1.toList := fun h => hne ⟨z, h⟩
          simpa using this
        · left; simpa using z
      · rw [List.cons.injEq]
        exact ⟨fun h => (by cases h), fun h => absurd h.1 c⟩
theorem refs_ok (l m : List S76) (hl : l.length ≤ 140737488351232) : ∃ k r, sacristyref09_Same.f k l m = some r ∧ (r = true ↔ l = m) := by
  by_cases c : l.length = m.length
  · obtain ⟨k, r, hr, hq⟩ := refs_go l m hl c l.length 0 (by omega)
    rw [drop_zero_eq] at hq
    exact ⟨k, r, by rw [sacristyref09_Same.f, if_pos (by omega)]; exact hr, hq⟩
  · exact ⟨0, false, by rw [sacristyref09_Same.f, if_neg (by omega)], fun h => (by cases h), fun h => absurd (congrArg List.length h) c⟩
theorem fork_eq {x y : S40} : x = y ↔ x.f0 = y.f0 ∧ x.f1 = y.f1 ∧ x.f2 = y.f2 ∧ x.f3 = y.f3 ∧ x.f4 = y.f4 := by cases x; cases y; simp
theorem same_go (a b : Int) (l1 m1 : List ByteArray) (l m : List S40) (hl : l.length ≤ 140737488351232) (hf : ∀ x ∈ l, okFkG x) (hlm : l.length = m.length) : ∀ (d i : Nat), i + d = l.length →
    ∃ k r, sacristyref10_Same.l0 k (i : Int) a l1 l b m1 m = some r ∧ (r = true ↔ l.drop i = m.drop i) := by
  intro d
  induction d with
  | zero =>
    intro i hi
    refine ⟨1, true, ?_, ?_⟩
    · rw [sacristyref10_Same.l0, if_neg (by omega)]
    · rw [List.drop_of_length_le (by omega), List.drop_of_length_le (by omega)]; simp
  | succ d ih =>
    intro i hi
    have e1 : rd_T40 l (i : Int) = l.getD i z40 := by rw [rd_T40, Int.toNat_natCast]
    have e2 : rd_T40 m (i : Int) = m.getD i z40 := by rw [rd_T40, Int.toNat_natCast]
    have hx : l.getD i z40 ∈ l := by
      have : i < l.length := by omega
      simp [this]
    rw [drop_get l i (by omega) z40, drop_get m i (by omega) z40]
    obtain ⟨o3, o4⟩ := hf _ hx
    generalize hX : l.getD i z40 = X at e1 hx o3 o4
    generalize hY : m.getD i z40 = Y at e2
    obtain ⟨k, r, hr, hq⟩ := ih (i + 1) (by omega)
    obtain ⟨k3, r3, hr3, hq3⟩ := refs_ok X.f3 Y.f3 o3
    obtain ⟨k4, r4, hr4, hq4⟩ := texts_ok X.f4 Y.f4 o4
    have u : sacristyref10_Same.l0 (max k (max k3 k4)) ((i : Int) + 1) a l1 l b m1 m = some r := up_mono (fun k => (sacristyref10_Same.mono_l k).2 _ _ _ _ _ _ _) (Nat.le_max_left _ _) hr
    have u3 : sacristyref09_Same.f (max k (max k3 k4)) X.f3 Y.f3 = some r3 := up_mono (fun k => sacristyref09_Same.mono _ _ k) (Nat.le_trans (Nat.le_max_left _ _) (Nat.le_max_right _ _)) hr3
    have u4 : sacristyref04_SameTexts.f (max k (max k3 k4)) X.f4 Y.f4 = some r4 := up_mono (fun k => sacristyref04_SameTexts.mono _ _ k) (Nat.le_trans (Nat.le_max_right _ _) (Nat.le_max_right _ _)) hr4
    generalize max k (max k3 k4) = K at u u3 u4
    have hhead : ∃ r', sacristyref10_Same.l0 (K + 1) (i : Int) a l1 l b m1 m = some r' ∧ (r' = true ↔ X = Y ∧ r = true) := by
      rw [sacristyref10_Same.l0, if_pos (by omega), if_pos (by omega), if_pos (by omega), e1, e2]
      by_cases c0 : X.f0.toList = Y.f0.toList
      · rw [if_pos c0]
        by_cases c1 : X.f1 = Y.f1
        · rw [if_neg (by simp [c1])]
          by_cases c2 : X.f2.toList = Y.f2.toList
          · rw [if_pos c2, u3]
            simp only [Option.bind_some]
            cases r3 with
            | false => exact ⟨false, by simp, fun h => (by cases h), fun h => by have := hq3.2 (by rw [h.1]); cases this⟩
            | true =>
              rw [if_pos rfl, u4]
              simp only [Option.bind_some]
              cases r4 with
              | false => exact ⟨false, by simp, fun h => (by cases h), fun h => by have := hq4.2 (by rw [h.1]); cases this⟩
              | true =>
                rw [if_pos rfl, wrap_in _ (by omega) (by omega), u]
                exact ⟨r, rfl, fun h => ⟨fork_eq.2 ⟨ba_toList.1 c0, c1, ba_toList.1 c2, hq3.1 rfl, hq4.1 rfl⟩, h⟩, fun h => h.2⟩
          · rw [if_neg c2]
            exact ⟨false, rfl, fun h => (by cases h), fun h => absurd (by rw [h.1]) c2⟩
        · rw [if_pos (by simpa using c1)]
          exact ⟨false, rfl, fun h => (by cases h), fun h => absurd (by rw [h.1]) c1⟩
      · rw [if_neg c0]
        exact ⟨false, rfl, fun h => (by cases h), fun h => absurd (by rw [h.1]) c0⟩
    obtain ⟨r', hr', hq'⟩ := hhead
    refine ⟨K + 1, r', hr', ?_⟩
    rw [hq', List.cons.injEq, hq]
/-- The law's own 'same' answers, and says yes just if the two roots are one. -/
theorem same_ok (a b : Int) (l1 m1 : List ByteArray) (l m : List S40) (h1 : l1.length ≤ 140737488351232) (hl : l.length ≤ 140737488351232) (hf : ∀ x ∈ l, okFkG x) :
    ∃ k r, sacristyref10_Same.f k a l1 l b m1 m = some r ∧ (r = true ↔ a = b ∧ l1 = m1 ∧ l = m) := by
  by_cases c : a = b
  · obtain ⟨k1, r1, hr1, hq1⟩ := texts_ok l1 m1 h1
    by_cases c2 : l.length = m.length
    · obtain ⟨k, r, hr, hq⟩ := same_go a b l1 m1 l m hl hf c2 l.length 0 (by omega)
      rw [drop_zero_eq] at hq
      have u : sacristyref10_Same.l0 (max k k1) ((0 : Nat) : Int) a l1 l b m1 m = some r := up_mono (fun k => (sacristyref10_Same.mono_l k).2 _ _ _ _ _ _ _) (Nat.le_max_left _ _) hr
      have u1 : sacristyref04_SameTexts.f (max k k1 + 1) l1 m1 = some r1 := up_mono (fun k => sacristyref04_SameTexts.mono _ _ k) (by omega) hr1
      cases r1 with
      | true =>
        refine ⟨max k k1 + 1, r, ?_, ?_⟩
        · rw [sacristyref10_Same.f, if_pos c, u1]
          simp only [Option.bind_some, if_true]
          rw [sacristyref10_Same.j0, if_neg (by simp [c2])]
          exact u
        · rw [hq]; exact ⟨fun h => ⟨c, hq1.1 rfl, h⟩, fun h => h.2.2⟩
      | false =>
        refine ⟨max k k1 + 1, false, ?_, fun h => (by cases h), fun h => by have := hq1.2 h.2.1; cases this⟩
        rw [sacristyref10_Same.f, if_pos c, u1]
        simp only [Option.bind_some]
        rw [if_neg (by simp), sacristyref10_Same.j0, if_pos rfl]
    · have u1 : sacristyref04_SameTexts.f (k1 + 1) l1 m1 = some r1 := up_mono (fun k => sacristyref04_SameTexts.mono _ _ k) (by omega) hr1
      refine ⟨k1 + 1, false, ?_, fun h => (by cases h), fun h => absurd (by rw [h.2.2]) c2⟩
      rw [sacristyref10_Same.f, if_pos c, u1]
      simp only [Option.bind_some]
      cases r1 with
      | true => rw [if_pos rfl, sacristyref10_Same.j0, if_pos (by simpa using (show ¬ (l.length : Int) = (m.length : Int) by omega))]
      | false => rw [if_neg (by simp), sacristyref10_Same.j0, if_pos rfl]
  · refine ⟨1, false, ?_, fun h => (by cases h), fun h => absurd h.1 c⟩
    rw [sacristyref10_Same.f, if_neg c, sacristyref10_Same.j0, if_pos rfl]
end Go.Proofs.YtgmddlbbmlneaaaDoor.PR

/- sacristylaw10.RootBack: it answers true. -/
namespace Go.Proofs.YtgmddlbbmlneaaaDoor.PR
open Go.RowKit Go.Shelf Go.Proofs.YtgmddlbbmlneaaaDoorW.PrintWords Go.Proofs.YtgmddlbbmlneaaaDoorW.PrintLast Go.Proofs.YtgmddlbbmlneaaaDoorW.PrintMore
set_option linter.unusedVariables false

/-- What is asked of a root that comes in. -/
structure RootIn (w : World) (a : Int) (A1 : Option Addr) (c1 : Nat) (l1 : List ByteArray) (A2 : Option Addr) (c2 : Nat) (l2 : List S40) : Prop where
  r1 : Kd.C Kd.string w A1 l1.length l1
  h1 : l1.length ≤ c1
  r2 : Kd.C k40 w A2 l2.length l2
  h2 : l2.length ≤ c2
  n1 : l1.length ≤ 140737488351232
  n2 : l2.length ≤ 140737488351232
  nf : ∀ x ∈ l2, okFkG x
theorem RootIn.below {w W : World} {a : Int} {A1 : Option Addr} {c1 : Nat} {l1 : List ByteArray} {A2 : Option Addr} {c2 : Nat} {l2 : List S40} (h : RootIn w a A1 c1 l1 A2 c2 l2) (hb : Below w.heap.size w W) : RootIn W a A1 c1 l1 A2 c2 l2 :=
  ⟨Kd.C_below h.r1 hb, h.h1, Kd.C_below h.r2 hb, h.h2, h.n1, h.n2, h.nf⟩
theorem not_t {b : Bool} (h : (!b) = true) : b = false := by simpa using h
theorem not_f {b : Bool} (h : (!b) = false) : b = true := by simpa using h
abbrev rootV (a : Int) (A1 : Option Addr) (n1 c1 : Nat) (A2 : Option Addr) (n2 c2 : Nat) : Value := .agg #[.int .i64 a, .slice A1 n1 c1, .slice A2 n2 c2]

set_option maxHeartbeats 8000000 in
set_option maxRecDepth 100000 in
theorem back_small (a : Int) (A1 : Option Addr) (c1 : Nat) (l1 : List ByteArray) (A2 : Option Addr) (c2 : Nat) (l2 : List S40) (Ab : Option Addr) (cb : Nat) (lb : List Int) (w : World) (hG : Gl w)
    (hR : RootIn w a A1 c1 l1 A2 c2 l2) (hrb : Kd.C (Kd.int .u8) w Ab lb.length lb) (hcb : lb.length ≤ cb) (kg : Nat) (hg : sacristylaw10_Great.f kg a l1 l2 = some false) (hlb : lb.length ≤ 20000) (is on : Bool) (his : rootB a l1 l2 = is)
    (cn : Int) (p : List ByteArray) (f : List S40) (hon : getP (strOfNums lb) = (cn, p, f, on)) (hok : okRoot l1 l2 = true) :
    Calls Tryd.prog 3 #[rootV a A1 l1.length c1 A2 l2.length c2, .slice Ab lb.length cb] w fun e w' => e = .returned (.bool true) ∧ Below w.heap.size w w' := by
  have hhead : ∀ W, Below w.heap.size w W → Calls Tryd.prog 8 #[] W fun e w' => e = .returned (.bool true) ∧ Below W.heap.size W w' := fun W hb => sacristylaw10_head.calls true W (Gl_below hG hb) rfl
  have hgreat : ∀ W, Below w.heap.size w W → Calls Tryd.prog 9 #[.agg #[.int .i64 a, .slice A1 l1.length c1, .slice A2 l2.length c2]] W fun e w' => e = .returned (.bool false) ∧ Below W.heap.size W w' := fun W hb =>
    sacristylaw10_Great.calls kg a A1 c1 l1 A2 c2 l2 false W (hR.below hb).r1 hR.h1 (hR.below hb).r2 hR.h2 hg
  obtain ⟨X, hX⟩ : ∃ X, (if rootB a l1 l2 = true then (intsOf (rootText a l1 l2), true) else ([], false)) = (X, is) := by
    cases is with
    | true => exact ⟨_, by rw [if_pos his]⟩
    | false => exact ⟨_, by rw [if_neg (by rw [his]; simp)]⟩
  have hput : ∀ W, Below w.heap.size w W → Calls Tryd.prog 10 #[.agg #[.int .i64 a, .slice A1 l1.length c1, .slice A2 l2.length c2]] W fun e w' => ∃ v0_ : Value, e = .returned (.tuple #[v0_, .bool is]) ∧ Kd.V (Kd.int .u8) 5 w' W.heap.size (fun k_ => (W.heap.size ≤ k_)) v0_ X ∧ Below W.heap.size W w' :=
    fun W hb => root_Put.calls a A1 c1 l1 A2 c2 l2 X is W (Gl_below hG hb) (hR.below hb).r1 hR.h1 (hR.below hb).r2 hR.h2 (by rw [root_Put.f, if_pos hok, hX])
  have hright : ∀ W, Below w.heap.size w W → Calls Tryd.prog 11 #[.agg #[.int .i64 a, .slice A1 l1.length c1, .slice A2 l2.length c2]] W fun e w' => e = .returned (.bool is) ∧ Below W.heap.size W w' :=
    fun W hb => root_Right.calls a A1 c1 l1 A2 c2 l2 is W (Gl_below hG hb) (hR.below hb).r1 hR.h1 (hR.below hb).r2 hR.h2 (by rw [root_Right.f, if_pos hok, his])
  have hgb : ∀ W, Below w.heap.size w W → Calls Tryd.prog 12 #[.slice Ab lb.length cb] W fun e w' => ∃ v1_ v2_ : Value, e = .returned (.tuple #[.agg #[.int .i64 cn, v1_, v2_], .bool on]) ∧ Kd.V Kd.string 9 w' W.heap.size (fun k_ => W.heap.size ≤ k_) v1_ p ∧ Kd.V k40 40 w' W.heap.size (fun k_ => W.heap.size ≤ k_ ∧ some k_ ≠ (v1_ : Value).ownBlock) v2_ f ∧ Below W.heap.size W w' :=
    fun W hb => root_Get.calls Ab cb lb cn p f on W (Gl_below hG hb) (Kd.C_below hrb hb) hcb (by rw [root_Get.f, if_pos (by omega), hon])
  have hget : is = true → ∀ W Ax cx, Below w.heap.size w W → X.length ≤ cx → Kd.C (Kd.int .u8) W Ax X.length X → Calls Tryd.prog 12 #[.slice Ax X.length cx] W fun e w' => ∃ v1_ v2_ : Value, e = .returned (.tuple #[.agg #[.int .i64 a, v1_, v2_], .bool true]) ∧ Kd.V Kd.string 9 w' W.heap.size (fun k_ => W.heap.size ≤ k_) v1_ l1 ∧ Kd.V k40 40 w' W.heap.size (fun k_ => W.heap.size ≤ k_ ∧ some k_ ≠ (v1_ : Value).ownBlock) v2_ l2 ∧ Below W.heap.size W w' := by
    intro hi W Ax cx hb hcx hrx
    subst hi
    rw [if_pos his, Prod.mk.injEq] at hX
    exact root_Get.calls Ax cx X a l1 l2 true W (Gl_below hG hb) hrx hcx (by rw [← hX.1]; exact get_text his)
  have hsame : ∀ (W : World) (b : Int) (B1 : Option Addr) (d1 : Nat) (m1 : List ByteArray) (B2 : Option Addr) (d2 : Nat) (m2 : List S40) (E1 : Option Addr) (e1 : Nat) (E2 : Option Addr) (e2 : Nat), RootIn W b B1 d1 m1 B2 d2 m2 → RootIn W b E1 e1 m1 E2 e2 m2 →
      Calls Tryd.prog 13 #[.agg #[.int .i64 b, .slice B1 m1.length d1, .slice B2 m2.length d2], .agg #[.int .i64 b, .slice E1 m1.length e1, .slice E2 m2.length e2]] W fun e w' => e = .returned (.bool true) ∧ Below W.heap.size W w' := by
    intro W b B1 d1 m1 B2 d2 m2 E1 e1 E2 e2 h k
    obtain ⟨q, r, hr, hq⟩ := same_ok b b m1 m1 m2 m2 h.n1 h.n2 h.nf
    obtain rfl : r = true := hq.2 ⟨rfl, rfl, rfl⟩
    exact sacristyref10_Same.calls q b B1 d1 m1 B2 d2 m2 b E1 e1 m1 E2 e2 m2 true W h.r1 h.h1 h.r2 h.h2 k.r1 k.h1 k.r2 k.h2 hr
  have hcy : ∀ (W : World) (Ay : Option Addr) (cy : Nat), Kd.C (Kd.int .u8) W Ay (intsOf (rootText cn p f)).length (intsOf (rootText cn p f)) → on = true → (convert 26 9 (.slice Ay (intsOf (rootText cn p f)).length cy)).run Tryd.prog W = .ok (.string (strOfNums lb)) W := by
    intro W Ay cy h ho
    subst ho
    have e := Kd.C_string (c := cy) Tryd.underlying26 Tryd.underlying5 Tryd.underlying9 h
    rw [strOfNums_ints, show (⟨(rootText cn p f).toArray⟩ : ByteArray) = strOfNums lb by rw [(getP_inv hon).2]] at e
    exact e
  have hcb2 : ∀ (W : World), Below w.heap.size w W → (convert 26 9 (.slice Ab lb.length cb)).run Tryd.prog W = .ok (.string (strOfNums lb)) W := fun W hb =>
    Kd.C_string (c := cb) Tryd.underlying26 Tryd.underlying5 Tryd.underlying9 (Kd.C_below hrb hb)
  have hzero : on = false → ∀ (W : World) (B1 : Option Addr) (d1 : Nat) (B2 : Option Addr) (d2 : Nat), Kd.C Kd.string W B1 p.length p → p.length ≤ d1 → Kd.C k40 W B2 f.length f → f.length ≤ d2 →
      Calls Tryd.prog 13 #[.agg #[.int .i64 cn, .slice B1 p.length d1, .slice B2 f.length d2], .agg #[.int .i64 0, .slice none 0 0, .slice none 0 0]] W fun e w' => e = .returned (.bool true) ∧ Below W.heap.size W w' := by
    intro ho W B1 d1 B2 d2 q1 q2 q3 q4
    subst ho
    obtain ⟨rfl, rfl, rfl⟩ := getP_inv0 hon
    exact hsame W 0 B1 d1 [] B2 d2 [] none 0 none 0 ⟨q1, q2, q3, q4, by simp, by simp, fun _ h => by cases h⟩ ⟨Kd.C_nil _ _, Nat.le_refl _, Kd.C_nil _ _, Nat.le_refl _, by simp, by simp, fun _ h => by cases h⟩
  have hputu : on = true → ∀ (W : World) (B1 : Option Addr) (d1 : Nat) (B2 : Option Addr) (d2 : Nat), Below w.heap.size w W → Kd.C Kd.string W B1 p.length p → p.length ≤ d1 → Kd.C k40 W B2 f.length f → f.length ≤ d2 →
      Calls Tryd.prog 10 #[.agg #[.int .i64 cn, .slice B1 p.length d1, .slice B2 f.length d2]] W fun e w' => ∃ v0_ : Value, e = .returned (.tuple #[v0_, .bool true]) ∧ Kd.V (Kd.int .u8) 5 w' W.heap.size (fun k_ => (W.heap.size ≤ k_)) v0_ (intsOf (rootText cn p f)) ∧ Below W.heap.size W w' := by
    intro ho W B1 d1 B2 d2 hb q1 q2 q3 q4
    subst ho
    have hi := (getP_inv hon).1
    exact root_Put.calls cn B1 d1 p B2 d2 f _ true W (Gl_below hG hb) q1 q2 q3 q4 (by rw [root_Put.f, if_pos (rootB_ok hi), if_pos hi])
  have HZERO := Aside0.mk hzero
  have HPUTU := Aside0.mk hputu
  have HON := Aside0.mk hon
  have HCY := Aside0.mk hcy
  have HCB2 := Aside0.mk hcb2
  have HHEAD := Aside0.mk hhead
  have HGREAT := Aside0.mk hgreat
  have HPUT := Aside0.mk hput
  have HRIGHT := Aside0.mk hright
  have HGB := Aside0.mk hgb
  have HGET := Aside0.mk hget
  have HSAME := Aside0.mk hsame
  have HR := Aside0.mk hR
  have HG := Aside0.mk hG
  have HIS := Aside0.mk his
  have hlb2 : (lb.length : Int) ≤ 20000 := by omega
  clear hzero hputu hhead hgreat hput hright hgb hget hsame hcy hcb2 hX hR hG hrb hon his hg hok
  go_enter Tryd.func3, Tryd.ntmps3
  go_wp2_with (go_at_call 8; ((with_reducible refine (HHEAD.out _ (below_alloc (Below.refl _ _) _)).mono ?_); rintro e w1 ⟨rfl, hb1⟩; have hbx := blk_below (blk_new w _) hb1; have x0 := blk_cell hbx 0; have x1 := blk_cell hbx 1; have x2 := blk_cell hbx 2; have HBX1 := Aside0.mk hbx; have HB1 := Aside0.mk (below_step (below_alloc (Below.refl _ _) _) hb1); clear hbx hb1))
  go_wp2_with (go_at_call 9; ((with_reducible refine (HGREAT.out _ HB1.out).mono ?_); rintro e w2 ⟨rfl, hb2⟩; clear x0 x1 x2; have hbx := blk_below HBX1.out hb2; have x0 := blk_cell hbx 0; have x1 := blk_cell hbx 1; have x2 := blk_cell hbx 2; have HBX2 := Aside0.mk hbx; have HB2 := Aside0.mk (below_step HB1.out hb2); clear hbx hb2))
  go_wp2_with (go_at_call 10; ((with_reducible refine (HPUT.out _ HB2.out).mono ?_); rintro e w3 ⟨v3, rfl, hv3, hb3⟩; obtain ⟨A3, c3, rfl⟩ := Kd.V_slice hv3; clear x0 x1 x2; have hbx := blk_below HBX2.out hb3; have x0 := blk_cell hbx 0; have x1 := blk_cell hbx 1; have x2 := blk_cell hbx 2; have HBX3 := Aside0.mk hbx; have HB3 := Aside0.mk (below_step HB2.out hb3); have HV3 := Aside0.mk (Kd.V_reads' hv3); clear hbx hb3 hv3))
  go_wp2_with (go_at_call 11; ((with_reducible refine (HRIGHT.out _ HB3.out).mono ?_); rintro e w4 ⟨rfl, hb4⟩; clear x0 x1 x2; have hbx := blk_below HBX3.out hb4; have x0 := blk_cell hbx 0; have x1 := blk_cell hbx 1; have x2 := blk_cell hbx 2; have HBX4 := Aside0.mk hbx; have HB4 := Aside0.mk (below_step HB3.out hb4); have HV4 := Aside0.mk (Kd.C_below HV3.out.2.2 hb4); clear hbx hb4))
  · have hi : is = true := by assumption
    have HI := Aside0.mk hi
    clear hi
    refine (HGET.out HI.out w4 A3 c3 HB4.out HV3.out.2.1 HV4.out).mono ?_
    rintro e w5 ⟨v5, u5, rfl, hv5, hu5, hb5⟩
    obtain ⟨A5, c5, rfl⟩ := Kd.V_slice hv5
    obtain ⟨A6, c6, rfl⟩ := Kd.V_slice hu5
    clear x0 x1 x2
    have hbx := blk_below HBX4.out hb5
    have x0 := fun o => blk_cell (blk_alloc hbx o) 0
    have x1 := fun o => blk_cell (blk_alloc hbx o) 1
    have x2 := fun o => blk_cell (blk_alloc hbx o) 2
    have HBX5 := Aside0.mk hbx
    have HB5 := Aside0.mk (below_step HB4.out hb5)
    have HV5 := Aside0.mk (Kd.V_reads' hv5)
    have HU5 := Aside0.mk (Kd.V_reads' hu5)
    have HSM := Aside0.mk (fun o : Obj => HSAME.out (w5.alloc o) a A5 c5 l1 A6 c6 l2 A1 c1 A2 c2 ⟨Kd.C_alloc HV5.out.2.2 o, HV5.out.2.1, Kd.C_alloc HU5.out.2.2 o, HU5.out.2.1, HR.out.n1, HR.out.n2, HR.out.nf⟩ (HR.out.below (below_alloc HB5.out o)))
    clear hbx hb5 hv5 hu5
    go_wp2_with (go_at_call 13; ((with_reducible refine (HSM.out _).mono ?_); rintro e w6 ⟨rfl, hb6⟩; have HB6 := Aside0.mk (below_step (below_alloc HB5.out _) hb6); clear hb6))
    refine (HGB.out _ HB6.out).mono ?_
    rintro e w7 ⟨v7, u7, rfl, hv7, hu7, hb7⟩
    obtain ⟨A7, c7, rfl⟩ := Kd.V_slice hv7
    obtain ⟨A8, c8, rfl⟩ := Kd.V_slice hu7
    clear x0 x1 x2
    have HB7 := Aside0.mk (below_step HB6.out hb7)
    have HV7 := Aside0.mk (Kd.V_reads' hv7)
    have HU7 := Aside0.mk (Kd.V_reads' hu7)
    have HSZ := Aside0.mk (fun (ho : on = false) (o : Obj) => HZERO.out ho (w7.alloc o) A7 c7 A8 c8 (Kd.C_alloc HV7.out.2.2 o) HV7.out.2.1 (Kd.C_alloc HU7.out.2.2 o) HU7.out.2.1)
    have HPU := Aside0.mk (fun (ho : on = true) (o : Obj) => HPUTU.out ho (w7.alloc o) A7 c7 A8 c8 (below_alloc HB7.out o) (Kd.C_alloc HV7.out.2.2 o) HV7.out.2.1 (Kd.C_alloc HU7.out.2.2 o) HU7.out.2.1)
    clear hb7 hv7 hu7
    go_wp2_with (first
      | (go_at_call 13; ((with_reducible refine (HSZ.out (not_t (by assumption)) _).mono ?_); rintro e w8 ⟨rfl, hb8⟩; have HB8 := Aside0.mk (below_step (below_alloc HB7.out _) hb8); clear hb8))
      | (go_at_call 10; ((with_reducible refine (HPU.out (not_f (by assumption)) _).mono ?_); rintro e w8 ⟨v8, rfl, hv8, hb8⟩; obtain ⟨A9, c9, rfl⟩ := Kd.V_slice hv8; have HB8 := Aside0.mk (below_step (below_alloc HB7.out _) hb8); have q1 := HCY.out w8 A9 c9 (Kd.V_reads' hv8).2.2 (not_f (by assumption)); have q2 := HCB2.out w8 HB8.out; clear hv8 hb8)))
    all_goals (go_ret; exact ⟨rfl, HB8.out⟩)
  · refine (HGB.out _ HB4.out).mono ?_
    rintro e w7 ⟨v7, u7, rfl, hv7, hu7, hb7⟩
    obtain ⟨A7, c7, rfl⟩ := Kd.V_slice hv7
    obtain ⟨A8, c8, rfl⟩ := Kd.V_slice hu7
    clear x0 x1 x2
    have HB7 := Aside0.mk (below_step HB4.out hb7)
    have HV7 := Aside0.mk (Kd.V_reads' hv7)
    have HU7 := Aside0.mk (Kd.V_reads' hu7)
    have HSZ := Aside0.mk (fun (ho : on = false) (o : Obj) => HZERO.out ho (w7.alloc o) A7 c7 A8 c8 (Kd.C_alloc HV7.out.2.2 o) HV7.out.2.1 (Kd.C_alloc HU7.out.2.2 o) HU7.out.2.1)
    have HPU := Aside0.mk (fun (ho : on = true) (o : Obj) => HPUTU.out ho (w7.alloc o) A7 c7 A8 c8 (below_alloc HB7.out o) (Kd.C_alloc HV7.out.2.2 o) HV7.out.2.1 (Kd.C_alloc HU7.out.2.2 o) HU7.out.2.1)
    clear hb7 hv7 hu7
    go_wp2_with (first
      | (go_at_call 13; ((with_reducible refine (HSZ.out (not_t (by assumption)) _).mono ?_); rintro e w8 ⟨rfl, hb8⟩; have HB8 := Aside0.mk (below_step (below_alloc HB7.out _) hb8); clear hb8))
      | (go_at_call 10; ((with_reducible refine (HPU.out (not_f (by assumption)) _).mono ?_); rintro e w8 ⟨v8, rfl, hv8, hb8⟩; obtain ⟨A9, c9, rfl⟩ := Kd.V_slice hv8; have HB8 := Aside0.mk (below_step (below_alloc HB7.out _) hb8); have q1 := HCY.out w8 A9 c9 (Kd.V_reads' hv8).2.2 (not_f (by assumption)); have q2 := HCB2.out w8 HB8.out; clear hv8 hb8)))
    all_goals (go_ret; exact ⟨rfl, HB8.out⟩)

set_option maxHeartbeats 8000000 in
set_option maxRecDepth 100000 in
/-- sacristylaw10.RootBack answers true. -/
theorem back_calls (a : Int) (A1 : Option Addr) (c1 : Nat) (l1 : List ByteArray) (A2 : Option Addr) (c2 : Nat) (l2 : List S40) (Ab : Option Addr) (cb : Nat) (lb : List Int) (w : World) (hG : Gl w)
    (hR : RootIn w a A1 c1 l1 A2 c2 l2) (hrb : Kd.C (Kd.int .u8) w Ab lb.length lb) (hcb : lb.length ≤ cb) (_hby : ∀ y ∈ lb, 0 ≤ y ∧ y ≤ 255) :
    Calls Tryd.prog 3 #[rootV a A1 l1.length c1 A2 l2.length c2, .slice Ab lb.length cb] w fun e w' => e = .returned (.bool true) ∧ Below w.heap.size w w' := by
  obtain ⟨kg, g, hg, hsm⟩ := great10_ok a l1 l2 hR.n1 hR.n2 hR.nf
  by_cases hgo : g = false ∧ lb.length ≤ 20000
  · obtain ⟨rfl, hlb⟩ := hgo
    obtain ⟨⟨cn, p, f, on⟩, hon⟩ : ∃ R, getP (strOfNums lb) = R := ⟨_, rfl⟩
    exact back_small a A1 c1 l1 A2 c2 l2 Ab cb lb w hG hR hrb hcb kg hg hlb _ on rfl cn p f hon (small_ok (hsm rfl))
  · have hhead : ∀ W, Below w.heap.size w W → Calls Tryd.prog 8 #[] W fun e w' => e = .returned (.bool true) ∧ Below W.heap.size W w' := fun W hb => sacristylaw10_head.calls true W (Gl_below hG hb) rfl
    have hgreat : ∀ W, Below w.heap.size w W → Calls Tryd.prog 9 #[.agg #[.int .i64 a, .slice A1 l1.length c1, .slice A2 l2.length c2]] W fun e w' => e = .returned (.bool g) ∧ Below W.heap.size W w' := fun W hb =>
      sacristylaw10_Great.calls kg a A1 c1 l1 A2 c2 l2 g W (hR.below hb).r1 hR.h1 (hR.below hb).r2 hR.h2 hg
    have hbl : lb.length ≤ 9223372036854775807 := hrb.2.1
    have HHEAD := Aside0.mk hhead
    have HGREAT := Aside0.mk hgreat
    have HGO := Aside0.mk hgo
    clear hhead hgreat hgo hg hsm hG hR hrb
    go_enter Tryd.func3, Tryd.ntmps3
    go_wp2_with (go_at_call 8; ((with_reducible refine (HHEAD.out _ (below_alloc (Below.refl _ _) _)).mono ?_); rintro e w1 ⟨rfl, hb1⟩; have hbx := blk_below (blk_new w _) hb1; have x0 := blk_cell hbx 0; have x1 := blk_cell hbx 1; have x2 := blk_cell hbx 2; have HB1 := Aside0.mk (below_step (below_alloc (Below.refl _ _) _) hb1); clear hbx hb1))
    cases g with
    | true =>
      go_wp2_with (go_at_call 9; ((with_reducible refine (HGREAT.out _ HB1.out).mono ?_); rintro e w2 ⟨rfl, hb2⟩; have HB2 := Aside0.mk (below_step HB1.out hb2); clear hb2))
      go_ret
      exact ⟨rfl, HB2.out⟩
    | false =>
      have hlb2 : (20000 : Int) < (lb.length : Int) := by
        have := HGO.out
        simp only [true_and] at this
        omega
      go_wp2_with (go_at_call 9; ((with_reducible refine (HGREAT.out _ HB1.out).mono ?_); rintro e w2 ⟨rfl, hb2⟩; have HB2 := Aside0.mk (below_step HB1.out hb2); clear hb2))
      go_ret
      exact ⟨rfl, HB2.out⟩
end Go.Proofs.YtgmddlbbmlneaaaDoor.PR

/- An argument that is a root, or a row of texts, opened: what it reads as, in the words of the walks. -/
namespace Go.Proofs.YtgmddlbbmlneaaaDoor.PR
open Go.RowKit Go.ChangeShapes Go.WideShapes Go.Deep Go.Joins Go.Proofs.YtgmddlbbmlneaaaDoorW.PrintWords
set_option linter.unusedVariables false
section
variable {H : Type} {enc : TypeId × Value → H} {P : Program} {w : World} {base : Nat} {held : Bool}

theorem weightsAll_mem {e : TypeId} : ∀ {l : List (DataW H)} {d : DataW H}, d ∈ l → ∀ n ∈ d.weights P e, n ∈ DataW.weightsAll P e l
  | x :: l, d, h, n, hn => by
    rw [DataW.weightsAll]
    rcases List.mem_cons.1 h with rfl | h
    · exact List.mem_append_left _ hn
    · exact List.mem_append_right _ (weightsAll_mem h n hn)
/-- No part of a datum is too heavy. -/
def Light (P : Program) (t : TypeId) (d : DataW H) : Prop := ∀ n ∈ d.weights P t, n ≤ 140737488351232
/-- A slice whose elements read as d's do. -/
theorem slice_open {α : Type} {d : Kd α} {good : α → Prop} {t e : TypeId} {B : Nat} (ht : P.underlying t = some (.slice e)) (hC : P.cellsOf e = d.sz) (hB : P.bytesOf e = B)
    (hE : ∀ (n : Nat) (cs : List Value) (x : DataW H × List MemPlace), cs.length = d.sz → DataW.trod enc P w base (fun _ => true) held n e cs = some x → Light P e x.1 → ∃ y : α, d.K w y cs ∧ good y)
    {fuel : Nat} {cs : List Value} {x : DataW H × List MemPlace} (h : DataW.trod enc P w base (fun _ => true) held fuel t cs = some x) (hw : Light P t x.1) :
    ∃ (A : Option Addr) (l : List α) (c : Nat), cs = [.slice A l.length c] ∧ l.length ≤ c ∧ d.C w A l.length l ∧ (∀ y ∈ l, good y) ∧ l.length * B ≤ 140737488351232 := by
  rcases open_slice ht h with ⟨rfl, rfl⟩ | ⟨a, len, cap, m, n, D, Pl, rfl, hb, hl, hm, hmm, rfl, hi⟩
  · exact ⟨none, [], 0, rfl, Nat.le_refl _, Kd.C_nil _ _, fun _ h => (by cases h), by simp⟩
  · simp only [if_true] at hmm
    subst hmm
    have hlight : ∀ i, i < len → Light P e (D i) := by
      intro i hi' k hk
      apply hw
      rw [DataW.weights, ht]
      refine List.mem_cons_of_mem _ (List.mem_append_left _ (weightsAll_mem (d := D i) ?_ k hk))
      exact List.mem_map.2 ⟨i, List.mem_range.2 hi', rfl⟩
    have hlen : m * B ≤ 140737488351232 := by
      apply hw
      rw [DataW.weights, ht]
      dsimp only
      rw [hB]
      refine List.mem_cons.2 (.inl ?_)
      simp only [List.length_map, List.length_range]
      try rw [show len + (m - len) = m by omega]
    have key : ∀ i, i < len → ∃ y : α, good y ∧ ∃ c, c.length = d.sz ∧ d.K w y c ∧ ∀ j u, c[j]? = some u → w.cell? (a.add (i * d.sz + j)) = some u := by
      intro i hi'
      obtain ⟨cs', h1, h2⟩ := hi i (by omega)
      rw [hC] at h1
      obtain ⟨_, hcl, hat⟩ := World.cells?_some h1
      obtain ⟨y, hy, hg⟩ := hE n cs' _ hcl h2 (hlight i hi')
      refine ⟨y, hg, cs', hcl, hy, fun j u hu => ?_⟩
      have hj : j < d.sz := by rw [← hcl]; exact (List.getElem?_eq_some_iff.1 hu).1
      rw [← Go.Deep.add_add, hat j hj, hu]
    have pick : ∀ k, k ≤ len → ∃ l : List α, l.length = k ∧ (∀ y ∈ l, good y) ∧ ∀ (i : Nat) (y : α), l[i]? = some y → ∃ c, c.length = d.sz ∧ d.K w y c ∧ ∀ j u, c[j]? = some u → w.cell? (a.add (i * d.sz + j)) = some u := by
      intro k
      induction k with
      | zero => intro _; exact ⟨[], rfl, fun _ h => (by cases h), fun i y hy => (by simp at hy)⟩
      | succ k ih =>
        intro hk
        obtain ⟨l, hll, hg, hr⟩ := ih (by omega)
        obtain ⟨y, hy, hc⟩ := key k (by omega)
        refine ⟨l ++ [y], by simp [hll], fun z hz => ?_, fun i z hz => ?_⟩
        · rcases List.mem_append.1 hz with hz | hz
          · exact hg z hz
          · obtain rfl := List.mem_singleton.1 hz; exact hy
        · by_cases hik : i < l.length
          · rw [List.getElem?_append_left hik] at hz; exact hr i z hz
          · rw [List.getElem?_append_right (by omega)] at hz
            have h0 : i - l.length = 0 := by
              have := (List.getElem?_eq_some_iff.1 hz).1
              simp at this; omega
            rw [h0] at hz
            simp only [List.getElem?_cons_zero, Option.some.injEq] at hz
            subst hz
            obtain rfl : i = k := by omega
            exact hc
    obtain ⟨l, hll, hg, hr⟩ := pick len (Nat.le_refl _)
    subst hll
    refine ⟨some a, l, m, rfl, hl, ⟨rfl, by unfold maxLen at hm; omega, fun _ => ⟨a, rfl, hr⟩⟩, hg, ?_⟩
    exact Nat.le_trans (Nat.mul_le_mul_right B hl) hlen
theorem text_elem {e : TypeId} (he : P.underlying e = some .string) (n : Nat) (cs : List Value) (x : DataW H × List MemPlace) (h : DataW.trod enc P w base (fun _ => true) held n e cs = some x) : ∃ y : ByteArray, Kd.string.K w y cs ∧ True := by
  obtain ⟨s, rfl, _⟩ := DataW.trod_string he h
  exact ⟨s, rfl, trivial⟩
theorem struct_cells {t : TypeId} {fs : Array Field} (hs : P.underlying t = some (.struct fs)) (hone : oneCellFields P fs = true) {fuel : Nat} {cs : List Value} {x : DataW H × List MemPlace} (h : DataW.trod enc P w base (fun _ => true) held fuel t cs = some x) (hw : Light P t x.1) :
    ∃ (ys : List (DataW H × List MemPlace)) (n : Nat), ys.length = fs.size ∧ x.1 = .agg (ys.map (·.1)) ∧ ∀ (j : Nat) (f : Field) (u : Value), fs[j]? = some f → cs[j]? = some u → ∃ y, ys[j]? = some y ∧ DataW.trod enc P w base (fun _ => true) held n f.type [u] = some y ∧ Light P f.type y.1 := by
  obtain ⟨ys, n, _, hx, hcl, hyl, hf⟩ := DataW.trod_struct hs h
  refine ⟨ys, n, hyl, by rw [hx], fun j f u hj hu => ?_⟩
  obtain ⟨ho, hk⟩ := hone_of hone j f hj
  have hlt : j < fs.size := (Array.getElem?_eq_some_iff.1 hj).1
  have h1 := hf j f hj
  rw [ho, hk] at h1
  have hone' : (cs.drop j).take 1 = [u] := by
    obtain ⟨hl, hu'⟩ := List.getElem?_eq_some_iff.1 hu
    rw [List.drop_eq_getElem_cons hl, hu']
    rfl
  rw [hone'] at h1
  have hys : ys[j]? = some (ys[j]'(by omega)) := List.getElem?_eq_getElem (by omega)
  refine ⟨_, hys, h1.trans hys, fun k hk => ?_⟩
  apply hw
  rw [hx, DataW.weights, hs]
  refine DataW.weights_mem_each (j := j) (t := f.type) (d := (ys[j]'(by omega)).1) ?_ ?_ k hk
  · rw [List.getElem?_map, Array.getElem?_toList, hj]; rfl
  · rw [List.getElem?_map, hys]; rfl
end
section
variable {H : Type} {enc : TypeId × Value → H} {w : World} {base : Nat} {held : Bool}
theorem ref_elem (n : Nat) (cs : List Value) (x : DataW H × List MemPlace) (hl : cs.length = 2) (h : DataW.trod enc Tryd.prog w base (fun _ => true) held n 76 cs = some x) (hw : Light Tryd.prog 76 x.1) :
    ∃ y : S76, k76.K w y cs ∧ True := by
  match cs, hl with
  | [c0, c1], _ =>
    obtain ⟨ys, m, _, _, hf⟩ := struct_cells Tryd.underlying76 (by kernel_rfl) h hw
    obtain ⟨y0, _, h0, _⟩ := hf 0 _ c0 rfl rfl
    obtain ⟨y1, _, h1, _⟩ := hf 1 _ c1 rfl rfl
    obtain ⟨s0, e0, _⟩ := DataW.trod_string Tryd.underlying9 h0
    obtain ⟨s1, e1, _⟩ := DataW.trod_string Tryd.underlying9 h1
    simp only [List.cons.injEq, and_true] at e0 e1
    subst e0; subst e1
    exact ⟨⟨s0, s1⟩, k76_mk w ⟨s0, s1⟩, trivial⟩
theorem fork_elem (n : Nat) (cs : List Value) (x : DataW H × List MemPlace) (hl : cs.length = 5) (h : DataW.trod enc Tryd.prog w base (fun _ => true) held n 40 cs = some x) (hw : Light Tryd.prog 40 x.1) :
    ∃ y : S40, k40.K w y cs ∧ okFkG y := by
  match cs, hl with
  | [c0, c1, c2, c3, c4], _ =>
    obtain ⟨ys, m, _, _, hf⟩ := struct_cells Tryd.underlying40 (by kernel_rfl) h hw
    obtain ⟨y0, _, h0, _⟩ := hf 0 _ c0 rfl rfl
    obtain ⟨y1, _, h1, _⟩ := hf 1 _ c1 rfl rfl
    obtain ⟨y2, _, h2, _⟩ := hf 2 _ c2 rfl rfl
    obtain ⟨y3, _, h3, g3⟩ := hf 3 _ c3 rfl rfl
    obtain ⟨y4, _, h4, g4⟩ := hf 4 _ c4 rfl rfl
    obtain ⟨s0, e0, _⟩ := DataW.trod_string Tryd.underlying9 h0
    obtain ⟨s1, e1, _⟩ := DataW.trod_bool Tryd.underlying4 h1
    obtain ⟨s2, e2, _⟩ := DataW.trod_string Tryd.underlying9 h2
    obtain ⟨A3, l3, q3, e3, m3, r3, _, b3⟩ := slice_open (d := k76) (good := fun _ => True) (B := 32) Tryd.underlying38 (by kernel_rfl) (by kernel_rfl) (fun n cs x hl h hw => ref_elem n cs x hl h hw) h3 g3
    obtain ⟨A4, l4, q4, e4, m4, r4, _, b4⟩ := slice_open (d := Kd.string) (good := fun _ => True) (B := 16) Tryd.underlying22 (by kernel_rfl) (by kernel_rfl) (fun n cs x _ h _ => text_elem Tryd.underlying9 n cs x h) h4 g4
    simp only [List.cons.injEq, and_true] at e0 e1 e2 e3 e4
    subst e0; subst e1; subst e2; subst e3; subst e4
    exact ⟨⟨s0, s1, s2, l3, l4⟩, k40_mk w ⟨s0, s1, s2, l3, l4⟩ m3 r3 m4 r4, by constructor <;> (simp only; omega)⟩
set_option maxRecDepth 100000 in
/-- An argument that is a root. -/
theorem open_root {r : Reach} {b0 : Nat} {v : Value} {d : DataW H} {p : List MemPlace} (hv : Value.okWide Tryd.prog w r b0 25 v) (h : DataW.Trod enc Tryd.prog w base (fun _ => true) held 25 v d p) (hw : Light Tryd.prog 25 d) :
    ∃ (a : Int) (A1 : Option Addr) (c1 : Nat) (l1 : List ByteArray) (A2 : Option Addr) (c2 : Nat) (l2 : List S40), v = rootV a A1 l1.length c1 A2 l2.length c2 ∧ RootIn w a A1 c1 l1 A2 c2 l2 := by
  obtain ⟨cs, rfl, hsz⟩ := okWide_struct Tryd.underlying25 hv
  obtain ⟨fuel, hf⟩ := h
  obtain ⟨l⟩ := cs
  match l, hsz.trans (show Tryd.prog.cellsOf 25 = 3 by kernel_rfl) with
  | [c0, c1, c2], _ =>
    obtain ⟨ys, m, _, _, hfs⟩ := struct_cells (cs := [c0, c1, c2]) Tryd.underlying25 (by kernel_rfl) (x := (d, p)) hf hw
    obtain ⟨y0, _, h0, _⟩ := hfs 0 _ c0 rfl rfl
    obtain ⟨y1, _, h1, g1⟩ := hfs 1 _ c1 rfl rfl
    obtain ⟨y2, _, h2, g2⟩ := hfs 2 _ c2 rfl rfl
    obtain ⟨a, e0, _, _⟩ := DataW.trod_int Tryd.underlying3 h0
    obtain ⟨A1, l1, q1, e1, m1, r1, _, b1⟩ := slice_open (d := Kd.string) (good := fun _ => True) (B := 16) Tryd.underlying22 (by kernel_rfl) (by kernel_rfl) (fun n cs x _ h _ => text_elem Tryd.underlying9 n cs x h) h1 g1
    obtain ⟨A2, l2, q2, e2, m2, r2, f2, b2⟩ := slice_open (d := k40) (good := okFkG) (B := 88) Tryd.underlying23 (by kernel_rfl) (by kernel_rfl) (fun n cs x hl h hw => fork_elem n cs x hl h hw) h2 g2
    simp only [List.cons.injEq, and_true] at e0 e1 e2
    subst e0; subst e1; subst e2
    exact ⟨a, A1, q1, l1, A2, q2, l2, rfl, r1, m1, r2, m2, by omega, by omega, f2⟩
theorem wf_byte {y : Int} (h : (Lit.int .u8 y).wf = true) : 0 ≤ y ∧ y ≤ 255 := by simpa [Lit.wf, IntKind.min, IntKind.max, IntKind.signed, IntKind.bits] using h
theorem byte_elem (n : Nat) (cs : List Value) (x : DataW H × List MemPlace) (h : DataW.trod enc Tryd.prog w base (fun _ => true) held n 5 cs = some x) : ∃ y : Int, (Kd.int .u8).K w y cs ∧ (0 ≤ y ∧ y ≤ 255) := by
  obtain ⟨k, rfl, _, hk⟩ := DataW.trod_int Tryd.underlying5 h
  exact ⟨k, rfl, wf_byte hk⟩
set_option maxRecDepth 100000 in
/-- An argument that is bytes. -/
theorem open_bytes {r : Reach} {b0 : Nat} {v : Value} {d : DataW H} {p : List MemPlace} (hv : Value.okWide Tryd.prog w r b0 26 v) (h : DataW.Trod enc Tryd.prog w base (fun _ => true) held 26 v d p) (hw : Light Tryd.prog 26 d) :
    ∃ (A : Option Addr) (c : Nat) (l : List Int), v = .slice A l.length c ∧ l.length ≤ c ∧ Kd.C (Kd.int .u8) w A l.length l ∧ (∀ y ∈ l, 0 ≤ y ∧ y ≤ 255) := by
  obtain ⟨A, n, c, rfl⟩ := okWide_slice Tryd.underlying26 hv
  obtain ⟨fuel, hf⟩ := h
  obtain ⟨A', l, c', e, m, r, g, b⟩ := slice_open (d := Kd.int .u8) (good := fun y => 0 ≤ y ∧ y ≤ 255) (B := 1) Tryd.underlying26 (by kernel_rfl) (by kernel_rfl) (fun n cs x _ h _ => byte_elem n cs x h) hf hw
  simp only [Value.cells, List.cons.injEq, and_true] at e
  have e' : Value.slice A n c = .slice A' l.length c' := by simpa [Value.cells] using e
  injection e' with h1 h2 h3
  subst h1; subst h2; subst h3
  exact ⟨_, _, l, rfl, m, r, g⟩
theorem light_of {P : Program} {ts : List TypeId} {ds : List (DataW H)} (hsz : (DataW.weightsEach P ts ds).all (· ≤ reachBytes) = true) {j : Nat} {t : TypeId} {d : DataW H} (ht : ts[j]? = some t) (hd : ds[j]? = some d) : Light P t d := by
  intro n hn
  have := List.all_eq_true.1 hsz n (DataW.weights_mem_each ht hd n hn)
  exact Nat.le_trans (of_decide_eq_true this) (by decide)
end
end Go.Proofs.YtgmddlbbmlneaaaDoor.PR

namespace Go.Proofs.YtgmddlbbmlneaaaDoor
open Go.ChangeShapes Go.WideShapes Go.ChangeAt Go.RowKit
open Go.ChangeMaps (open_string shut_string)
set_option linter.unusedVariables false
set_option maxRecDepth 100000 in
theorem back_lifted (os : Os) (started : os.Started) (H : Type) (enc : TypeId × Value → H) :
    ReturnsInHanded {} Tryd.checked os 3 .any (fun w args => (Rows.rootBackSpec.pre enc Tryd.prog Tryd.f3 [] false w args ∧ laidMetH Tryd.prog laidAll w) ∧ sizedMet enc Tryd.prog Tryd.f3 (OpenSpec.ofChange Rows.rootBackSpec) false w args)
      (Rows.rootBackSpec.post enc Tryd.prog Tryd.f3 false true false false) := by
  refine returns_of_laid_shaped (C := Tryd.checked) (X := fun w _ => laidMetH Tryd.prog laidAll w) (fun _ _ _ hh h => h.of_heap hh) own started (by kernel_rfl) Tryd.func3
    (ChangeSpec.witness_shaped (enc := enc) (C := Tryd.checked) (os := os) (X := fun w _ => laidMetH Tryd.prog laidAll w) false (World.laidAll Tryd.prog os laidAll) #[.agg #[.int .i64 0, .slice none 0 0, .slice none 0 0], .slice none 0 0] 8 (World.laidAll_os _ _ _)
      (world_shaped os _) (by kernel_rfl) (by kernel_rfl) (by kernel_rfl) (world_laid os _)) ?_
  intro W base args ds gs before hval0 hW hsz0 hL hshape
  have hsz : (DataW.weightsEach Tryd.prog (Tryd.f3.params.toList ++ Rows.rootBackSpec.plain.varTypes Tryd.prog) (ds ++ gs)).all (· ≤ reachBytes) = true := hsz0
  have hval : ∀ (j : Nat) t v, Tryd.f3.params[j]? = some t → args[j]? = some v → Value.okWide Tryd.prog W .any base t v := hval0
  have hW' := hW
  obtain ⟨p, q, hA0, hV, rfl, _, _⟩ := hW
  have hA : DataW.TrodAll enc Tryd.prog W 0 (fun _ => true) true Tryd.f3.params.toList args.toList ds p := hA0
  rw [Tryd.params3] at hA hval hsz
  obtain ⟨v0, vs0, d0, ds0, p0, q0, hargs, rfl, rfl, h0, r0⟩ := trodAll_cons hA
  obtain ⟨v1, vs1, d1, ds1, p1, q1, rfl, rfl, rfl, h1, r1⟩ := trodAll_cons r0
  obtain ⟨rfl, rfl, rfl⟩ := trodAll_nil r1
  obtain rfl : args = #[v0, v1] := by cases args; simp_all
  obtain ⟨rfl, rfl⟩ := trodVars_none hV
  have k0 := h0
  have lt0 : ∀ x ∈ p0, x.block < W.heap.size := by obtain ⟨m, hm⟩ := k0; exact DataW.trod_lt m _ _ _ hm
  obtain ⟨a0, A0, c0, l0, B0, e0, f0, rfl, g0⟩ := PR.open_root (hval 0 25 v0 rfl rfl) h0 (PR.light_of hsz (j := 0) rfl rfl)
  have k1 := h1
  have lt1 : ∀ x ∈ p1, x.block < W.heap.size := by obtain ⟨m, hm⟩ := k1; exact DataW.trod_lt m _ _ _ hm
  obtain ⟨A1, c1, l1, rfl, m1, g1, b1⟩ := PR.open_bytes (hval 1 26 v1 rfl rfl) h1 (PR.light_of hsz (j := 1) rfl rfl)
  clear hA0 hval0 hsz0 hsz
  refine (PR.back_calls a0 A0 c0 l0 B0 e0 f0 A1 c1 l1 W (gl_of hL hshape) g0 g1 m1 b1).mono fun e W' ⟨he, bel⟩ => ?_
  subst he
  exact ⟨_, rfl, _, _, _, [], _, [], hW', trodAll_mk1 (shut_bool Tryd.underlying4 _), (trodAll_cons_mk (Below.trod laidOut (by kernel_rfl) (of_decide_eq_true (by kernel_rfl)) k0 bel lt0) (trodAll_cons_mk (Below.trod laidOut (by kernel_rfl) (of_decide_eq_true (by kernel_rfl)) k1 bel lt1) trodAll_mk0)), rfl, bel.frame _, fun h => by cases h⟩
theorem back_row : Rows.RootBackSaid :=
  OpenClaim.holds_of_wide 3 Tryd.f3 rfl rfl rfl rfl rfl rfl rfl ⟨rfl, rfl, rfl, rfl, rfl⟩ rfl rfl rfl rfl rfl (by kernel_rfl) Tryd.func3 (by kernel_rfl)
    (of_decide_eq_true (by kernel_rfl)) (by unfold Func.isWrapper; first | (rw [if_pos (by decide +kernel)]; kernel_rfl) | (rw [if_neg (by decide +kernel)]; exact ⟨rfl, rfl⟩))
    (fun os started H enc _ => back_lifted os started H enc)
/-- The card of RootBack. -/
theorem rootBack_card : Rows.RootBackCardSaid :=
  Claim7.holds_tied_plain_at .later [] [.data, .data, .data, .data, .pinned] true (true, "d4d9c08d40b983332ad15210d3b8e1aadaf604dc8762445fc9ba714d1cfdd239") true back_row (fun _ h => by cases h) (by kernel_rfl) (fun _ h => by cases h) rootBack_row_tie rfl ⟨rfl, rfl⟩ (by kernel_rfl) rfl
    (fun f fn hf hfn => by
      obtain rfl : f = 3 := Option.some.inj ((show Tryd.prog.funcNamed "sacristy/sacristylaw10.RootBack" = some 3 by kernel_rfl).symm.trans hf) |>.symm
      obtain rfl : fn = Tryd.f3 := (Option.some.inj (Tryd.func3.symm.trans hfn)).symm
      exact ⟨by kernel_rfl, fun j t ht => by
        rw [Tryd.params3] at ht
        have hm : t ∈ [25, 26] := by simpa using Array.mem_of_getElem? ht
        have hall : ([25, 26].all fun u => !Tryd.prog.wantsStandIn u) = true := by kernel_rfl
        exact (show Tryd.prog.wantsStandIn t = false by simpa using List.all_eq_true.1 hall t hm)⟩)
    (by kernel_rfl)
#print axioms rootBack_card
end Go.Proofs.YtgmddlbbmlneaaaDoor
