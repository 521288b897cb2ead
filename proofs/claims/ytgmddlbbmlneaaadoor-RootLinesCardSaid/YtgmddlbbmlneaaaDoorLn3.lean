/- Part 3 of 5 of the texts on which the proof leans: plain words, and contracts of the functions that it reaches. -/
import Derived.Test.YtgmddlbbmlneaaaDoorLn2
import Derived.WalkKit
import Derived.Lib.SlBytesConst
import Derived.Lib.SmallJoins
import Derived.Test.YtgmddlbbmlneaaaDoorLn1
import Derived.Deep.Slices
import Derived.Deep.Fields
import Derived.ChangeSame
import Derived.ChangeSlices
import Derived.Test.YtgmddlbbmlneaaaDoorWSized
set_option linter.all false
/- sacristylaw10.head: the live question's answer is fixed. -/
namespace Go.Proofs.YtgmddlbbmlneaaaDoor.PR
open Go.RowKit Go.Shelf Go.Proofs.YtgmddlbbmlneaaaDoorW.PrintWords Go.Proofs.YtgmddlbbmlneaaaDoorW.PrintLast Go.Proofs.YtgmddlbbmlneaaaDoorW.PrintMore
set_option linter.unusedVariables false

def headF2 : S40 := ⟨⟨#[97]⟩, false, ⟨#[116, 97, 103, 115, 47, 109]⟩, [], []⟩
theorem ints_at {W : World} {t : TypeId} {fr : Nat × Nat} {L : List Int} (hL : L.length ≤ 9223372036854775807) : Kd.C (Kd.int .u8) (W.alloc (.cells (L.map (Value.int .u8)).toArray t fr)) (some ⟨W.heap.size, 0, none⟩) L.length L :=
  Kd.C_of_reads (d := (0 : Int)) (h1 := fun _ => rfl) ⟨rfl, hL, fun _ => ⟨_, rfl, fun j hj => by
    rw [show Addr.add ⟨W.heap.size, 0, none⟩ j = ⟨W.heap.size, j, none⟩ by simp [Addr.add]; exact fun h => h.symm, World.cell?_alloc_mark]
    simp [hj]⟩⟩
theorem fork_at {W : World} {b : Nat} {x : S40} {A3 A4 : Option Addr} {c3 c4 : Nat} (h : W.heap[b]? = some (.cells #[.string x.f0, .bool x.f1, .string x.f2, .slice A3 x.f3.length c3, .slice A4 x.f4.length c4] 40 (0, 0)))
    (l3 : x.f3.length ≤ c3) (g3 : k76.C W A3 x.f3.length x.f3) (l4 : x.f4.length ≤ c4) (g4 : Kd.string.C W A4 x.f4.length x.f4) : Kd.C k40 W (some ⟨b, 0, none⟩) 1 [x] :=
  ⟨rfl, by decide, fun _ => ⟨_, rfl, fun j p hj => by
    cases j with
    | succ j => simp at hj
    | zero =>
      simp only [List.getElem?_cons_zero, Option.some.injEq] at hj
      subst hj
      refine ⟨[.string x.f0, .bool x.f1, .string x.f2, .slice A3 x.f3.length c3, .slice A4 x.f4.length c4], rfl, k40_mk W x l3 g3 l4 g4, fun i u hu => ?_⟩
      rw [show Addr.add ⟨b, 0, none⟩ (0 * k40.sz + i) = ⟨b, i, none⟩ by simp [Addr.add]; exact fun h => h.symm, blk_cell h]
      simpa using hu⟩⟩

theorem head_cells1 : ((intsOf headB1).map (Value.int .u8)).toArray = #[.int .u8 110, .int .u8 101, .int .u8 116, .int .u8 32, .int .u8 51, .int .u8 10, .int .u8 112, .int .u8 111, .int .u8 111, .int .u8 108, .int .u8 32, .int .u8 48, .int .u8 10, .int .u8 102, .int .u8 111, .int .u8 114, .int .u8 107, .int .u8 115, .int .u8 32, .int .u8 49, .int .u8 10, .int .u8 102, .int .u8 111, .int .u8 114, .int .u8 107, .int .u8 32, .int .u8 97, .int .u8 32, .int .u8 108, .int .u8 105, .int .u8 110, .int .u8 107, .int .u8 101, .int .u8 100, .int .u8 32, .int .u8 104, .int .u8 101, .int .u8 97, .int .u8 100, .int .u8 115, .int .u8 47, .int .u8 109, .int .u8 32, .int .u8 48, .int .u8 32, .int .u8 48, .int .u8 10] := by kernel_rfl
theorem head_cells2 : ((intsOf headB2).map (Value.int .u8)).toArray = #[.int .u8 110, .int .u8 101, .int .u8 116, .int .u8 32, .int .u8 51, .int .u8 10, .int .u8 112, .int .u8 111, .int .u8 111, .int .u8 108, .int .u8 32, .int .u8 48, .int .u8 10, .int .u8 102, .int .u8 111, .int .u8 114, .int .u8 107, .int .u8 115, .int .u8 32, .int .u8 49, .int .u8 10] := by kernel_rfl
def headB0 : List UInt8 := [110, 101, 116, 32, 48, 10, 112, 111, 111, 108, 32, 48, 10, 102, 111, 114, 107, 115, 32, 48, 10]
theorem head_put0 : rootText 0 [] [] = headB0 := head_put.2
theorem head_str : (⟨headB0.toArray⟩ : ByteArray) = ⟨#[110, 101, 116, 32, 48, 10, 112, 111, 111, 108, 32, 48, 10, 102, 111, 114, 107, 115, 32, 48, 10]⟩ := rfl
theorem head_findA (A2 : Option Addr) (c2 : Nat) (adf : Addr) (c3 : Nat) (W : World) (hp : Kd.C Kd.string W A2 0 []) (hf : Kd.C k40 W (some adf) 1 [headF]) (h3 : 1 ≤ c3) :
    Calls Tryd.prog 14 #[.agg #[.int .i64 3, .slice A2 0 c2, .slice (some adf) 1 c3], .string ⟨#[97]⟩] W fun e w' => e = .returned (.int .i64 0) ∧ Below W.heap.size W w' :=
  root_Find.calls 3 A2 c2 [] (some adf) c3 [headF] ⟨#[97]⟩ 0 W hp (Nat.zero_le _) hf h3 (by kernel_rfl)
theorem head_findB (A2 : Option Addr) (c2 : Nat) (adf : Addr) (c3 : Nat) (W : World) (hp : Kd.C Kd.string W A2 0 []) (hf : Kd.C k40 W (some adf) 1 [headF]) (h3 : 1 ≤ c3) :
    Calls Tryd.prog 14 #[.agg #[.int .i64 3, .slice A2 0 c2, .slice (some adf) 1 c3], .string ⟨#[98]⟩] W fun e w' => e = .returned (.int .i64 (-1)) ∧ Below W.heap.size W w' :=
  root_Find.calls 3 A2 c2 [] (some adf) c3 [headF] ⟨#[98]⟩ (-1) W hp (Nat.zero_le _) hf h3 (by kernel_rfl)
theorem head_right1 (A2 : Option Addr) (c2 : Nat) (adf : Addr) (c3 : Nat) (W : World) (hG : Gl W) (hp : Kd.C Kd.string W A2 0 []) (hf : Kd.C k40 W (some adf) 1 [headF]) (h3 : 1 ≤ c3) :
    Calls Tryd.prog 11 #[.agg #[.int .i64 3, .slice A2 0 c2, .slice (some adf) 1 c3]] W fun e w' => e = .returned (.bool true) ∧ Below W.heap.size W w' :=
  root_Right.calls 3 A2 c2 [] (some adf) c3 [headF] true W hG hp (Nat.zero_le _) hf h3 (by kernel_rfl)
theorem head_named1 (W : World) : Calls Tryd.prog 15 #[.string ⟨#[97, 45, 49]⟩] W fun e w' => e = .returned (.bool true) ∧ Drawn0 W w' := forkName_calls ⟨#[97, 45, 49]⟩ W (by decide)
theorem head_named2 (W : World) : Calls Tryd.prog 15 #[.string ⟨#[]⟩] W fun e w' => e = .returned (.bool false) ∧ Drawn0 W w' := forkName_calls ⟨#[]⟩ W (by decide)

def sacristylaw10_head.f : Option Bool := some true
set_option maxHeartbeats 4000000 in
set_option maxRecDepth 100000 in
theorem sacristylaw10_head.calls (r : Bool) (w : World) (hG : Gl w) (h : sacristylaw10_head.f = some r) :
    Calls Tryd.prog 8 #[] w fun e w' => e = .returned (.bool r) ∧ Below w.heap.size w w' := by
  obtain rfl : true = r := Option.some.inj h
  clear h
  have hP1 : ∀ W, Below w.heap.size w W → Calls Tryd.prog 10 #[.agg #[.int .i64 0, .slice none 0 0, .slice none 0 0]] W fun e w' => ∃ v0_ : Value, e = .returned (.tuple #[v0_, .bool true]) ∧ Kd.V (Kd.int .u8) 5 w' W.heap.size (fun k_ => (W.heap.size ≤ k_)) v0_ (intsOf headB0) ∧ Below W.heap.size W w' :=
    fun W hb => root_Put.calls 0 none 0 [] none 0 [] _ _ W (Gl_below hG hb) (Kd.C_nil _ _) (Nat.le_refl _) (Kd.C_nil _ _) (Nat.le_refl _) (by rw [root_Put.f, if_pos (show okRoot [] [] = true from rfl), if_pos head_put.1, head_put0])
  have hP2 : ∀ (W : World) (g : Nat), g = W.heap.size → Below w.heap.size w W → Calls Tryd.prog 10 #[.agg #[.int .i64 0, .slice none 0 0, .slice (some ⟨g, 0, none⟩) 1 1]] (W.alloc (.cells #[.string ⟨#[97]⟩, .bool false, .string ⟨#[116, 97, 103, 115, 47, 109]⟩, .slice none 0 0, .slice none 0 0] 40)) fun e w' => ∃ v0_ : Value, e = .returned (.tuple #[v0_, .bool false]) ∧ Below W.heap.size W w' :=
    fun W g hg hb => by
    subst hg
    exact (root_Put.calls 0 none 0 [] (some ⟨W.heap.size, 0, none⟩) 1 [headF2] [] false _ (Gl_below hG (below_step hb (below_alloc (Below.refl _ _) _))) (Kd.C_nil _ _) (Nat.le_refl _) (fork_at (x := headF2) (blk_new _ _) (Nat.le_refl _) (Kd.C_nil _ _) (Nat.le_refl _) (Kd.C_nil _ _)) (Nat.le_refl _) (by rw [root_Put.f, if_pos (by kernel_rfl), if_neg (by rw [show rootB 0 [] [headF2] = false from head_wrong]; simp)])).mono
      fun e w' ⟨v, h1, _, h2⟩ => ⟨v, h1, below_step (below_alloc (Below.refl _ _) _) h2⟩
  have hg1 : root_Get.f (intsOf headB1) = some (3, [], [headF], true) := by
    rw [root_Get.f, if_pos (by decide), strOfNums_ints, getP_yes head_lines ⟨rfl, head_right, head_text⟩]
  have hg2 : root_Get.f (intsOf headB2) = some (0, [], [], false) := by
    rw [root_Get.f, if_pos (by decide), strOfNums_ints, getP_no (c := (linesP ⟨headB2.toArray⟩).1) (pool := (linesP ⟨headB2.toArray⟩).2.1) (acc := (linesP ⟨headB2.toArray⟩).2.2.1) (e := (linesP ⟨headB2.toArray⟩).2.2.2) rfl (by rw [head_lines2]; simp)]
  have hG1 : ∀ W, Below w.heap.size w W → Calls Tryd.prog 12 #[.slice (some ⟨W.heap.size, 0, none⟩) 47 47] (W.alloc (.cells ((intsOf headB1).map (Value.int .u8)).toArray 5 (47, 48))) fun e w' => ∃ v1_ v2_ : Value, e = .returned (.tuple #[.agg #[.int .i64 3, v1_, v2_], .bool true]) ∧ Kd.V Kd.string 9 w' (W.heap.size + 1) (fun k_ => W.heap.size + 1 ≤ k_) v1_ [] ∧ Kd.V k40 40 w' (W.heap.size + 1) (fun k_ => W.heap.size + 1 ≤ k_ ∧ some k_ ≠ (v1_ : Value).ownBlock) v2_ [headF] ∧ Below W.heap.size W w' :=
    fun W hb => (root_Get.calls (some ⟨W.heap.size, 0, none⟩) 47 (intsOf headB1) 3 [] [headF] true _ (Gl_below hG (below_step hb (below_alloc (Below.refl _ _) _))) (ints_at (by decide)) (by decide) hg1).mono
      fun e w' ⟨v1, v2, h1, h2, h3, h4⟩ => ⟨v1, v2, h1, by simpa using h2, by simpa using h3, below_step (below_alloc (Below.refl _ _) _) h4⟩
  have hG2 : ∀ (W : World) (g : Nat), g = W.heap.size → Below w.heap.size w W → Calls Tryd.prog 12 #[.slice (some ⟨g, 0, none⟩) 21 21] (W.alloc (.cells ((intsOf headB2).map (Value.int .u8)).toArray 5 (21, 22))) fun e w' => ∃ v1_ v2_ : Value, e = .returned (.tuple #[.agg #[.int .i64 0, v1_, v2_], .bool false]) ∧ Kd.V Kd.string 9 w' (W.heap.size + 1) (fun k_ => W.heap.size + 1 ≤ k_) v1_ [] ∧ Kd.V k40 40 w' (W.heap.size + 1) (fun k_ => W.heap.size + 1 ≤ k_ ∧ some k_ ≠ (v1_ : Value).ownBlock) v2_ [] ∧ Below W.heap.size W w' :=
    fun W g hg hb => by
    subst hg
    exact (root_Get.calls (some ⟨W.heap.size, 0, none⟩) 21 (intsOf headB2) 0 [] [] false _ (Gl_below hG (below_step hb (below_alloc (Below.refl _ _) _))) (ints_at (by decide)) (by decide) hg2).mono
      fun e w' ⟨v1, v2, h1, h2, h3, h4⟩ => ⟨v1, v2, h1, by simpa using h2, by simpa using h3, below_step (below_alloc (Below.refl _ _) _) h4⟩
  rw [head_cells1] at hG1
  rw [head_cells2] at hG2
  have HP1 := Aside0.mk hP1
  have HP2 := Aside0.mk hP2
  have HG1 := Aside0.mk hG1
  have HG2 := Aside0.mk hG2
  have HG := Aside0.mk hG
  have hid1 : ∀ W : World, (convert 26 26 (.slice (some ⟨W.heap.size, 0, none⟩) 47 47)).run Tryd.prog (W.alloc (.cells #[.int .u8 110, .int .u8 101, .int .u8 116, .int .u8 32, .int .u8 51, .int .u8 10, .int .u8 112, .int .u8 111, .int .u8 111, .int .u8 108, .int .u8 32, .int .u8 48, .int .u8 10, .int .u8 102, .int .u8 111, .int .u8 114, .int .u8 107, .int .u8 115, .int .u8 32, .int .u8 49, .int .u8 10, .int .u8 102, .int .u8 111, .int .u8 114, .int .u8 107, .int .u8 32, .int .u8 97, .int .u8 32, .int .u8 108, .int .u8 105, .int .u8 110, .int .u8 107, .int .u8 101, .int .u8 100, .int .u8 32, .int .u8 104, .int .u8 101, .int .u8 97, .int .u8 100, .int .u8 115, .int .u8 47, .int .u8 109, .int .u8 32, .int .u8 48, .int .u8 32, .int .u8 48, .int .u8 10] 5)) = .ok (.slice (some ⟨W.heap.size, 0, none⟩) 47 47) (W.alloc (.cells #[.int .u8 110, .int .u8 101, .int .u8 116, .int .u8 32, .int .u8 51, .int .u8 10, .int .u8 112, .int .u8 111, .int .u8 111, .int .u8 108, .int .u8 32, .int .u8 48, .int .u8 10, .int .u8 102, .int .u8 111, .int .u8 114, .int .u8 107, .int .u8 115, .int .u8 32, .int .u8 49, .int .u8 10, .int .u8 102, .int .u8 111, .int .u8 114, .int .u8 107, .int .u8 32, .int .u8 97, .int .u8 32, .int .u8 108, .int .u8 105, .int .u8 110, .int .u8 107, .int .u8 101, .int .u8 100, .int .u8 32, .int .u8 104, .int .u8 101, .int .u8 97, .int .u8 100, .int .u8 115, .int .u8 47, .int .u8 109, .int .u8 32, .int .u8 48, .int .u8 32, .int .u8 48, .int .u8 10] 5 (47, 48))) := fun W => Lib.run_convert_bytes_const W 26 5 _ _ _ Tryd.underlying26 Tryd.underlying5
  have hid2 : ∀ W : World, (convert 26 26 (.slice (some ⟨W.heap.size, 0, none⟩) 21 21)).run Tryd.prog (W.alloc (.cells #[.int .u8 110, .int .u8 101, .int .u8 116, .int .u8 32, .int .u8 51, .int .u8 10, .int .u8 112, .int .u8 111, .int .u8 111, .int .u8 108, .int .u8 32, .int .u8 48, .int .u8 10, .int .u8 102, .int .u8 111, .int .u8 114, .int .u8 107, .int .u8 115, .int .u8 32, .int .u8 49, .int .u8 10] 5)) = .ok (.slice (some ⟨W.heap.size, 0, none⟩) 21 21) (W.alloc (.cells #[.int .u8 110, .int .u8 101, .int .u8 116, .int .u8 32, .int .u8 51, .int .u8 10, .int .u8 112, .int .u8 111, .int .u8 111, .int .u8 108, .int .u8 32, .int .u8 48, .int .u8 10, .int .u8 102, .int .u8 111, .int .u8 114, .int .u8 107, .int .u8 115, .int .u8 32, .int .u8 49, .int .u8 10] 5 (21, 22))) := fun W => Lib.run_convert_bytes_const W 26 5 _ _ _ Tryd.underlying26 Tryd.underlying5
  clear hP1 hP2 hG1 hG2 hG hg1 hg2
  go_enter Tryd.func8, Tryd.ntmps8
  have hn2 := head_named2
  have hn1 := head_named1
  have HN2 := Aside0.mk hn2
  have HN1 := Aside0.mk hn1
  clear hn1 hn2
  go_wp2_with (go_at_call 10; ((with_reducible refine (HP1.out _ (Below.refl _ _)).mono ?_); rintro e w1 ⟨v1, rfl, hv1, hb1⟩; obtain ⟨A1, c1, rfl⟩ := Kd.V_slice hv1; have HB1 := Aside0.mk hb1; have HV1 := Aside0.mk hv1; clear hb1 hv1))
  go_wp2_with (go_at_call 12; ((with_reducible refine (HG1.out _ HB1.out).mono ?_); rintro e w2 ⟨va2, vb2, rfl, hp2, hf2, hb2⟩; obtain ⟨A2, c2, rfl⟩ := Kd.V_slice hp2; obtain ⟨A3, c3, rfl⟩ := Kd.V_slice hf2; have HB2 := Aside0.mk (below_step HB1.out hb2); have HP2_ := Aside0.mk hp2; have HF2 := Aside0.mk hf2; have HB12 := Aside0.mk hb2; have hidb := fun o : Obj => Joins.run_convert_bytes_const_at (P := Tryd.prog) (w2.alloc o) 26 5 #[.int .u8 110, .int .u8 101, .int .u8 116, .int .u8 32, .int .u8 51, .int .u8 10, .int .u8 112, .int .u8 111, .int .u8 111, .int .u8 108, .int .u8 32, .int .u8 48, .int .u8 10, .int .u8 102, .int .u8 111, .int .u8 114, .int .u8 107, .int .u8 115, .int .u8 32, .int .u8 49, .int .u8 10] 21 21 (w2.heap.size + 1) (by simp) Tryd.underlying26 Tryd.underlying5; clear hp2 hf2 hb2))
  go_wp2_with (go_at_call 12; (refine (HG2.out _ _ (by simp) (below_step HB2.out (below_alloc (Below.refl _ _) _))).mono ?_; rintro e w3 ⟨va3, vb3, rfl, hp3, hf3, hb3⟩; obtain ⟨A4, c4, rfl⟩ := Kd.V_slice hp3; obtain ⟨A5, c5, rfl⟩ := Kd.V_slice hf3; have HBX3 := Aside0.mk (blk_below (blk_new w2 _) hb3); have HB23 := Aside0.mk (below_step (below_alloc (Below.refl w2.heap.size w2) _) hb3); have HB3 := Aside0.mk (below_step HB2.out HB23.out); clear hp3 hf3 hb3 hidb))
  go_wp2_with (go_at_call 10; (refine (HP2.out _ _ (by simp) (below_step HB3.out (below_alloc (Below.refl _ _) _))).mono ?_; rintro e w4 ⟨v4, rfl, hb4⟩; have hb34 := below_step (below_alloc (Below.refl w3.heap.size w3) _) hb4; have hb24 := below_step HB23.out hb34; have hb14 := below_step HB12.out hb24; have hstr := Kd.C_string (c := c1) Tryd.underlying26 Tryd.underlying5 Tryd.underlying9 (Kd.V_reads' (Kd.V_below HV1.out hb14)).2.2; (rw [strOfNums_ints, head_str] at hstr); have HP4 := Aside0.mk (Kd.V_reads' (Kd.V_below HP2_.out hb24)); have HF4 := Aside0.mk (Kd.V_reads' (Kd.V_below HF2.out hb24)); obtain ⟨adf, A3_, c3_, A4_, c4_, rfl, f0, f1, f2, f3, f4, _, _, _, _⟩ := at_T40 HF4.out.2.2 0 (by decide) (by decide); have f1a : w4.cell? ⟨adf.block, adf.off + 1, none⟩ = some (.bool true) := (by simpa [rd_T40, headF, Addr.add] using f1); have hbx4 := blk_below (blk_alloc HBX3.out _) hb4; have x0 := blk_cell hbx4 0; have x1 := blk_cell hbx4 1; have x2 := blk_cell hbx4 2; have HBX4 := Aside0.mk hbx4; have HB4 := Aside0.mk (below_step HB3.out hb34); have HC4 := Aside0.mk (show Kd.C Kd.string w4 A2 0 [] from HP4.out.2.2); have HD4 := Aside0.mk (show Kd.C k40 w4 (some adf) 1 [headF] from HF4.out.2.2); have HL3 := Aside0.mk (show 1 ≤ c3 from HF4.out.2.1); have HFA := Aside0.mk (head_findA A2 c2 adf c3 w4 HC4.out HD4.out HL3.out); clear hb4 hbx4 hb34 hb24 hb14 f0 f1 f2 f3 f4))
  go_wp2_with (go_at_call 14; ((with_reducible refine HFA.out.mono ?_); rintro e w5 ⟨rfl, hb5⟩; clear x0 x1 x2; have hbx := blk_below HBX4.out hb5; have x0 := blk_cell hbx 0; have x1 := blk_cell hbx 1; have x2 := blk_cell hbx 2; have HBX5 := Aside0.mk hbx; have HC5 := Aside0.mk (Kd.C_below HC4.out hb5); have HD5 := Aside0.mk (Kd.C_below HD4.out hb5); have HB5 := Aside0.mk (below_step HB4.out hb5); have HFB := Aside0.mk (head_findB A2 c2 adf c3 w5 HC5.out HD5.out HL3.out); clear hbx hb5))
  go_wp2_with (go_at_call 14; ((with_reducible refine HFB.out.mono ?_); rintro e w6 ⟨rfl, hb6⟩; clear x0 x1 x2; have hbx := blk_below HBX5.out hb6; have x0 := blk_cell hbx 0; have x1 := blk_cell hbx 1; have x2 := blk_cell hbx 2; have HBX6 := Aside0.mk hbx; have HC6 := Aside0.mk (Kd.C_below HC5.out hb6); have HD6 := Aside0.mk (Kd.C_below HD5.out hb6); have HB6 := Aside0.mk (below_step HB5.out hb6); clear hbx hb6))
  go_wp2_with (go_at_call 15; ((with_reducible refine (HN1.out _).mono ?_); rintro e w7 ⟨rfl, ⟨nd1, rfl⟩⟩))
  go_wp2_with (go_at_call 15; ((with_reducible refine (HN2.out _).mono ?_); rintro e w7 ⟨rfl, ⟨nd2, rfl⟩⟩))
  refine (head_right1 A2 c2 adf c3 (w6.drewN (nd1 + nd2)) (Gl_below HG.out (pw_below_drewN HB6.out _)) (Kd.C_below HC6.out (pw_below_drewN (Below.refl _ _) _)) (Kd.C_below HD6.out (pw_below_drewN (Below.refl _ _) _)) HL3.out).mono ?_
  rintro e w8 ⟨rfl, hb8⟩
  have HB8 := Aside0.mk (below_step (pw_below_drewN HB6.out (nd1 + nd2)) hb8)
  clear hb8
  go_wp2_with fail
  go_ret
  exact ⟨rfl, HB8.out⟩
end Go.Proofs.YtgmddlbbmlneaaaDoor.PR

/- The root's lines, read again: they give the root back, whatever stands behind them. -/
namespace Go.Proofs.YtgmddlbbmlneaaaDoor.PR
open Go.RowKit Go.Proofs.YtgmddlbbmlneaaaDoorW.PrintWords Go.Proofs.YtgmddlbbmlneaaaDoorW.PrintLast Go.Proofs.YtgmddlbbmlneaaaDoorW.PrintMore
set_option linter.unusedVariables false

theorem splitL_app (c : UInt8) : ∀ (p rest : List UInt8), c ∉ p → splitL c (p ++ c :: rest) = p :: splitL c rest
  | [], rest, _ => by rw [List.nil_append, splitL, if_pos rfl]
  | x :: p, rest, h => by
    have hx : ¬ x = c := fun e => h (e ▸ List.mem_cons_self)
    have hp : c ∉ p := fun k => h (List.mem_cons_of_mem _ k)
    rw [List.cons_append, splitL, if_neg hx, splitL_app c p rest hp]
theorem splitL_none (c : UInt8) : ∀ (p : List UInt8), c ∉ p → splitL c p = [p]
  | [], _ => rfl
  | x :: p, h => by
    have hx : ¬ x = c := fun e => h (e ▸ List.mem_cons_self)
    have hp : c ∉ p := fun k => h (List.mem_cons_of_mem _ k)
    rw [splitL, if_neg hx, splitL_none c p hp]
theorem splitL_join (c : UInt8) : ∀ (ws : List (List UInt8)), ws ≠ [] → (∀ p ∈ ws, c ∉ p) → splitL c (Lib.join ws [c]) = ws
  | [], h, _ => absurd rfl h
  | [x], _, h => by rw [Lib.join_one]; exact splitL_none c x (h x (by simp))
  | x :: y :: ws, _, h => by
    have e : Lib.join (x :: y :: ws) [c] = x ++ c :: Lib.join (y :: ws) [c] := by
      rw [Lib.join_cons, Lib.join_cons]
      simp [Lib.joinTail]
    rw [e, splitL_app c x _ (h x (by simp)), splitL_join c (y :: ws) (by simp) (fun p hp => h p (List.mem_cons_of_mem _ hp))]
def endsL (ls : List (List UInt8)) : List UInt8 := ls.flatMap (· ++ [10])
theorem endsL_cons (p : List UInt8) (ls : List (List UInt8)) : endsL (p :: ls) = p ++ [10] ++ endsL ls := rfl
theorem endsL_append (l m : List (List UInt8)) : endsL (l ++ m) = endsL l ++ endsL m := List.flatMap_append
theorem splitL_ends : ∀ (ls : List (List UInt8)) (rest : List UInt8), (∀ p ∈ ls, (10 : UInt8) ∉ p) → splitL 10 (endsL ls ++ rest) = ls ++ splitL 10 rest
  | [], _, _ => rfl
  | p :: ls, rest, h => by
    have e : endsL (p :: ls) ++ rest = p ++ 10 :: (endsL ls ++ rest) := by rw [endsL_cons]; simp
    rw [e, splitL_app 10 p _ (h p (by simp)), splitL_ends ls rest (fun q hq => h q (List.mem_cons_of_mem _ hq))]; rfl

theorem index_one (c : UInt8) : ∀ (p rest : List UInt8), c ∉ p → Lib.index (p ++ c :: rest) [c] = p.length
  | [], rest, _ => by rw [List.nil_append, Lib.index]; simp [List.isPrefixOf]
  | x :: p, rest, h => by
    have hx : ¬ c = x := fun e => h (e ▸ List.mem_cons_self)
    have hp : c ∉ p := fun k => h (List.mem_cons_of_mem _ k)
    have ih := index_one c p rest hp
    have hpre : [c].isPrefixOf (x :: (p ++ c :: rest)) = false := by simp [List.isPrefixOf]; exact hx
    have hne : ((p.length : Int) == -1) = false := by
      have : (p.length : Int) ≠ -1 := by omega
      simpa using this
    rw [List.cons_append, Lib.index, hpre, ih, hne]
    simp
theorem cut_one (c : UInt8) (p rest : List UInt8) (h : c ∉ p) : Lib.cut (p ++ c :: rest) [c] = (p, rest, true) := by
  have hi := index_one c p rest h
  unfold Lib.cut
  rw [hi]
  simp

def plainS (l : List UInt8) : Prop := (10 : UInt8) ∉ l ∧ (32 : UInt8) ∉ l
theorem plain_of {l : List UInt8} {f : UInt8 → Bool} (h : l.all f = true) (h10 : f 10 = false) (h32 : f 32 = false) : plainS l := by
  rw [List.all_eq_true] at h
  exact ⟨fun k => (by rw [h _ k] at h10; cases h10), fun k => (by rw [h _ k] at h32; cases h32)⟩
theorem hex_plain {s : ByteArray} (h : hexName s = true) : plainS s.data.toList := by
  simp only [hexName, Bool.and_eq_true] at h
  exact plain_of h.1 (by decide) (by decide)
theorem forkName_plain {s : ByteArray} (h : forkName s = true) : plainS s.data.toList := by
  simp only [forkName, Bool.and_eq_true] at h
  exact plain_of h.1.1 (by decide) (by decide)
theorem mem_splitL (c d : UInt8) : ∀ l : List UInt8, d ∈ l → d = c ∨ ∃ p ∈ splitL c l, d ∈ p
  | x :: xs, h => by
    have ih := mem_splitL c d xs
    by_cases e : x = c
    · rw [splitL, if_pos e]
      rcases List.mem_cons.1 h with rfl | h
      · exact .inl e
      · rcases ih h with k | ⟨p, hp, hd⟩
        · exact .inl k
        · exact .inr ⟨p, List.mem_cons_of_mem _ hp, hd⟩
    · rw [splitL, if_neg e]
      have hne := splitL_ne c xs
      cases hs : splitL c xs with
      | nil => exact absurd hs hne
      | cons q qs =>
        rw [hs] at ih
        rcases List.mem_cons.1 h with rfl | h
        · exact .inr ⟨d :: q, List.mem_cons_self, List.mem_cons_self⟩
        · rcases ih h with k | ⟨p, hp, hd⟩
          · exact .inl k
          · rcases List.mem_cons.1 hp with rfl | hp
            · exact .inr ⟨x :: p, List.mem_cons_self, List.mem_cons_of_mem _ hd⟩
            · exact .inr ⟨p, List.mem_cons_of_mem _ hp, hd⟩
theorem refName_plain {s : ByteArray} (h : refName s = true) : plainS s.data.toList := by
  simp only [refName, refNameL, Bool.and_eq_true, Bool.or_eq_true, beq_iff_eq, List.all_eq_true] at h
  obtain ⟨⟨_, hh⟩, ht⟩ := h
  have key : ∀ d : UInt8, (d = 10 ∨ d = 32) → d ∉ s.data.toList := by
    intro d hd hm
    rcases mem_splitL 47 d _ hm with k | ⟨p, hp, hdp⟩
    · rcases hd with rfl | rfl <;> cases k
    · cases hs : splitL 47 s.data.toList with
      | nil => exact absurd hs (splitL_ne _ _)
      | cons q qs =>
        rw [hs] at hp hh ht
        rcases List.mem_cons.1 hp with rfl | hp
        · rcases hh with hh | hh
          · simp only [List.head?_cons, Option.some.injEq] at hh
            subst hh
            rcases hd with rfl | rfl <;> simp at hdp
          · simp only [List.head?_cons, Option.some.injEq] at hh
            subst hh
            rcases hd with rfl | rfl <;> simp at hdp
        · have := ht p hp
          simp only [lettersL, Bool.and_eq_true, List.all_eq_true] at this
          have := this.1.1.1 d hdp
          rcases hd with rfl | rfl <;> cases this
  exact ⟨key 10 (.inl rfl), key 32 (.inr rfl)⟩

theorem digits_all (u : Nat) : ∀ c ∈ Lib.decDigits u, 48 ≤ c.toNat ∧ c.toNat ≤ 57 := by
  induction u using Nat.strongRecOn with
  | _ u ih =>
    intro c hc
    rw [Lib.decDigits] at hc
    split at hc
    · rename_i h
      obtain rfl := List.mem_singleton.1 hc
      rw [UInt8.toNat_ofNat']; omega
    · rename_i h
      rcases List.mem_append.1 hc with hc | hc
      · exact ih (u / 10) (by omega) c hc
      · obtain rfl := List.mem_singleton.1 hc
        rw [UInt8.toNat_ofNat']; omega
theorem digits_len (k : Nat) : ∀ u : Nat, u < 10 ^ (k + 1) → (Lib.decDigits u).length ≤ k + 1 := by
  induction k with
  | zero => intro u h; rw [Lib.decDigits_length, Lib.nDigits_small (by simpa using h)]; exact Nat.le_refl _
  | succ k ih =>
    intro u h
    by_cases h10 : u < 10
    · rw [Lib.decDigits_length, Lib.nDigits_small h10]; omega
    · have := ih (u / 10) (by rw [Nat.pow_succ] at h; omega)
      rw [Lib.decDigits_length] at this ⊢
      rw [Lib.nDigits_big h10]; omega
theorem text_plain {n : Int} (h : 0 ≤ n) : plainS (textB n).data.toList := by
  obtain ⟨u, rfl⟩ : ∃ u : Nat, n = u := ⟨n.toNat, by omega⟩
  rw [textB, if_neg (by omega), Lib.itoa_nonneg]
  have := digits_all u
  constructor
  · intro k; have := this 10 (by simpa using k); simp at this
  · intro k; have := this 32 (by simpa using k); simp at this
def valL (x : Int) (l : List UInt8) : Int := l.foldl (fun x c => 10 * x + ((c.toNat : Int) - 48)) x
theorem valL_digits (u : Nat) : valL 0 (Lib.decDigits u) = u := by
  induction u using Nat.strongRecOn with
  | _ u ih =>
    rw [Lib.decDigits]
    split
    · rename_i h
      simp only [valL, List.foldl_cons, List.foldl_nil]
      rw [UInt8.toNat_ofNat']; omega
    · rename_i h
      have := ih (u / 10) (by omega)
      simp only [valL] at this
      rw [valL, List.foldl_append, this]
      simp only [List.foldl_cons, List.foldl_nil]
      rw [UInt8.toNat_ofNat']; omega
theorem dec_run (a : ByteArray) (hd : ∀ c ∈ a.data.toList, 48 ≤ c.toNat ∧ c.toNat ≤ 57) (hs : a.size ≤ 13) : ∀ (d j k : Nat) (x : Int), j + d = a.size → d < k → 0 ≤ x → x < 10 ^ j →
    num_Decimal.l0 k a x (a.size : Int) (j : Int) = if valL x (a.data.toList.drop j) > 1099511627776 then some (0, false) else (num_Text.f (valL x (a.data.toList.drop j))).bind fun t => if t.toList = a.toList then some (valL x (a.data.toList.drop j), true) else some (0, false) := by
  intro d
  induction d with
  | zero =>
    intro j k x hj hk h0 hx
    obtain ⟨k, rfl⟩ : ∃ m, k = m + 1 := ⟨k - 1, by omega⟩
    have hl : a.data.toList.drop j = [] := List.drop_of_length_le (by rw [data_length]; omega)
    rw [num_Decimal.l0, if_neg (by omega), hl]
    rfl
  | succ d ih =>
    intro j k x hj hk h0 hx
    obtain ⟨k, rfl⟩ : ∃ m, k = m + 1 := ⟨k - 1, by omega⟩
    obtain ⟨c, hc, hb⟩ := drop_bt a j (by omega)
    have hcd := hd c (by
      have : c ∈ a.data.toList.drop j := by rw [hc]; exact List.mem_cons_self
      exact List.mem_of_mem_drop this)
    have hp : (10 : Int) ^ j ≤ 10000000000000 := by
      have : (10 : Nat) ^ j ≤ 10 ^ 13 := Nat.pow_le_pow_right (by decide) (by omega)
      have h2 : ((10 ^ j : Nat) : Int) ≤ ((10 ^ 13 : Nat) : Int) := Int.ofNat_le.2 this
      rw [Int.natCast_pow] at h2
      exact h2
    have hx2 : x ≤ 10000000000000 := Int.le_trans (Int.le_of_lt hx) hp
    have h6 : 10 * x + ((c.toNat : Int) - 48) < (10 : Int) ^ (j + 1) := by
      rw [Int.pow_succ]
      exact step_pow _ x _ hx (by omega)
    clear hx hp
    rw [num_Decimal.l0, if_pos (by omega), if_pos (by omega), if_pos (by omega), hb, if_neg (by omega), if_neg (by omega), if_neg (by omega), step_num x _ h0 hx2 (by omega) (by omega), step_j j (by omega), hc]
    exact ih (j + 1) k _ (by omega) (by omega) (by omega) h6
theorem decB_text (n : Int) (h0 : 0 ≤ n) (h1 : n ≤ 1099511627776) : decB (textB n) = (n, true) := by
  obtain ⟨u, rfl⟩ : ∃ u : Nat, n = u := ⟨n.toNat, by omega⟩
  have et : textB (u : Int) = ofL (Lib.decDigits u) := by rw [textB, if_neg (by omega), Lib.itoa_nonneg]; rfl
  have hlen : (Lib.decDigits u).length ≤ 13 := digits_len 12 u (by omega)
  have hsz : (textB (u : Int)).size = (Lib.decDigits u).length := by rw [et, size_ofL]
  have hdt : (textB (u : Int)).data.toList = Lib.decDigits u := by rw [et, data_ofL]
  have hr := dec_run (textB (u : Int)) (by rw [hdt]; exact digits_all u) (by omega) (textB (u : Int)).size 0 20 0 (by omega) (by omega) (by omega) (by decide)
  rw [List.drop_zero, hdt, valL_digits, if_neg (by omega), num_Text.f, if_pos (by omega)] at hr
  simp only [Option.bind_some, if_true] at hr
  rw [decB, num_Decimal.f]
  have h2 : num_Decimal.l0 20 (textB (u : Int)) 0 ((textB (u : Int)).size : Int) 0 = some ((u : Int), true) := hr
  rw [h2]; rfl
end Go.Proofs.YtgmddlbbmlneaaaDoor.PR

/- The root's lines, read again: they give the root back, whatever stands behind them (second part). -/
namespace Go.Proofs.YtgmddlbbmlneaaaDoor.PR
open Go.RowKit Go.Proofs.YtgmddlbbmlneaaaDoorW.PrintWords Go.Proofs.YtgmddlbbmlneaaaDoorW.PrintLast Go.Proofs.YtgmddlbbmlneaaaDoorW.PrintMore
set_option linter.unusedVariables false

theorem refsGo_all2 : ∀ (all l : List S76) (prev : Option ByteArray), refsGo all prev l = true → ∀ x ∈ l, refName x.f0 = true ∧ hexName x.f1 = true
  | _, [], _, _, x, hx => by cases hx
  | all, y :: ys, prev, h, x, hx => by
    have hy : (refName y.f0 = true ∧ hexName y.f1 = true) ∧ refsGo all (some y.f0) ys = true := by
      cases prev <;> rw [refsGo] at h
      all_goals
        split at h
        · rename_i h1
          split at h
          · rename_i h2
            split at h
            · split at h
              · cases h
              · exact ⟨⟨h1, h2⟩, h⟩
            · cases h
          · cases h
        · cases h
    rcases List.mem_cons.1 hx with rfl | h'
    · exact hy.1
    · exact refsGo_all2 all ys _ hy.2 x h'
theorem refsB_all {l : List S76} (h : refsB l = true) : ∀ x ∈ l, refName x.f0 = true ∧ hexName x.f1 = true := by
  simp only [refsB, Bool.and_eq_true] at h
  exact refsGo_all2 l l none h.1
def refBare (x : S76) : List UInt8 := x.f1.data.toList ++ 32 :: x.f0.data.toList
theorem refLine_bare (x : S76) : refLine x = refBare x ++ [10] := by simp [refLine, refBare]
theorem refsText_ends (l : List S76) : refsText l = endsL (l.map refBare) := by
  induction l with
  | nil => rfl
  | cons x l ih =>
    rw [List.map_cons, endsL_cons, ← ih, ← refLine_bare]; rfl
theorem refBare_plain {x : S76} (h1 : refName x.f0 = true) (h2 : hexName x.f1 = true) : (10 : UInt8) ∉ refBare x := by
  intro h
  rcases List.mem_append.1 h with h | h
  · exact (hex_plain h2).1 h
  · rcases List.mem_cons.1 h with h | h
    · cases h
    · exact (refName_plain h1).1 h
theorem refName_small {s : ByteArray} (h : refName s = true) : s.size ≤ 80 := refName_size h
theorem refs_get_go (s : ByteArray) (l : List S76) (hl : refsB l = true) (hs : s.data.toList = refsText l) : ∀ (rest acc : List S76) (k : Nat), acc ++ rest = l → rest.length < k →
    refs_Get.l0 k s acc (ofL (refsText rest)) = some (l, true) := by
  have hok : l.all okRef = true := by
    rw [List.all_eq_true]
    intro x hx
    obtain ⟨h1, h2⟩ := refsB_all hl x hx
    have e1 := refName_small h1
    have e2 := hexName_size h2
    simp only [okRef, Bool.and_eq_true, decide_eq_true_eq]
    omega
  have h64 : l.length ≤ 64 := by simp only [refsB, Bool.and_eq_true, decide_eq_true_eq] at hl; exact hl.2
  have hsz : ∀ x ∈ l, x.f0.size ≤ 80 ∧ x.f1.size = 64 := fun x hx => ⟨refName_small (refsB_all hl x hx).1, hexName_size (refsB_all hl x hx).2⟩
  intro rest
  induction rest with
  | nil =>
    intro acc k ha hk
    obtain ⟨k, rfl⟩ : ∃ m, k = m + 1 := ⟨k - 1, by omega⟩
    rw [List.append_nil] at ha
    subst ha
    have e : (ofL (refsText [])).toList = ([] : List UInt8) := by rw [toList_data, data_ofL]; rfl
    rw [refs_Get.l0, if_pos e, refs_Put.f, if_pos hok, if_pos hl]
    simp only [Option.bind_some, if_true]
    rw [if_pos (by rw [toList_data, toList_data, data_ofL, hs])]
  | cons x rest ih =>
    intro acc k ha hk
    obtain ⟨k, rfl⟩ : ∃ m, k = m + 1 := ⟨k - 1, by omega⟩
    have hx : x ∈ l := by rw [← ha]; simp
    obtain ⟨n1, n2⟩ := refsB_all hl x hx
    have e1 : refsText (x :: rest) = refBare x ++ 10 :: refsText rest := by
      show refLine x ++ refsText rest = _
      rw [refLine_bare]; simp
    have hne : ¬ (ofL (refsText (x :: rest))).toList = [] := by
      rw [toList_data, data_ofL, e1]; simp
    have hc1 : Lib.cut (refsText (x :: rest)) [10] = (refBare x, refsText rest, true) := by rw [e1]; exact cut_one 10 _ _ (refBare_plain n1 n2)
    have hc2 : Lib.cut (refBare x) [32] = (x.f1.data.toList, x.f0.data.toList, true) := cut_one 32 _ _ (hex_plain n2).2
    have hal : acc.length + (rest.length + 1) = l.length := by rw [← ha]; simp
    have hszr : (refsText (x :: rest)).length ≤ 1000000 := by
      have := refsText_length (x :: rest) (fun y hy => by
        have := hsz y (by rw [← ha]; exact List.mem_append_right _ hy)
        omega)
      simp only [List.length_cons] at this
      omega
    have hb : (refBare x).length ≤ 1000000 := by
      rw [e1, List.length_append] at hszr; omega
    rw [refs_Get.l0, if_neg hne, strings_Cut.f, if_pos (by rw [size_ofL]; omega)]
    simp only [Option.bind_some, data_ofL]
    rw [hc1]
    simp only []
    rw [strings_Cut.f, if_pos (by show (ofL (refBare x)).size < _; rw [size_ofL]; omega)]
    simp only [Option.bind_some]
    rw [hc2]
    simp only []
    rw [if_pos (by omega)]
    have hr := ih (acc ++ [x]) k (by simp [← ha]) (by simp only [List.length_cons] at hk; omega)
    exact hr
theorem refs_back {l : List S76} (hl : refsB l = true) : refsGetB (ofL (refsText l)) = (l, true) := by
  have h := refs_get_go (ofL (refsText l)) l hl (data_ofL _) l [] ((ofL (refsText l)).size + 1) rfl (by
    rw [size_ofL, refsText_ends]
    have : ∀ m : List (List UInt8), m.length ≤ (endsL m).length := by
      intro m
      induction m with
      | nil => exact Nat.le_refl _
      | cons y m ih => rw [endsL_cons]; simp only [List.length_cons, List.length_append, List.length_nil]; omega
    have := this (l.map refBare)
    rw [List.length_map] at this
    omega)
  have h2 : refs_Get.f ((ofL (refsText l)).size + 1) (ofL (refsText l)) = some (l, true) := h
  rw [refsGetB, h2]; rfl

def wordsL (ws : List ByteArray) : List UInt8 := Lib.join (ws.map (·.data.toList)) [32]
theorem lineL_words (ws : List ByteArray) : lineL ws = wordsL ws ++ [10] := rfl
theorem words_back (ws : List ByteArray) (h0 : ws ≠ []) (h : ∀ x ∈ ws, plainS x.data.toList) : splitS 32 (ofL (wordsL ws)) = ws := by
  rw [splitS, data_ofL, wordsL, splitL_join 32 _ (by simpa using h0) (fun p hp => by
    obtain ⟨x, hx, rfl⟩ := List.mem_map.1 hp
    exact (h x hx).2), map_ofL_data]
theorem words_plain : ∀ (ws : List ByteArray), (∀ x ∈ ws, plainS x.data.toList) → (10 : UInt8) ∉ wordsL ws
  | [], _ => by simp [wordsL, Lib.join_nil]
  | [x], h => by rw [wordsL, List.map_cons, List.map_nil, Lib.join_one]; exact (h x (by simp)).1
  | x :: y :: ws, h => by
    have e : wordsL (x :: y :: ws) = x.data.toList ++ 32 :: wordsL (y :: ws) := by
      rw [wordsL, wordsL, List.map_cons, List.map_cons, Lib.join_cons, Lib.join_cons]
      simp [Lib.joinTail]
    rw [e]
    intro k
    rcases List.mem_append.1 k with k | k
    · exact (h x (by simp)).1 k
    · rcases List.mem_cons.1 k with k | k
      · cases k
      · exact words_plain (y :: ws) (fun z hz => h z (List.mem_cons_of_mem _ hz)) k
theorem wordsP_back (first : ByteArray) (ws : List ByteArray) (t : List ByteArray) (h : ∀ x ∈ first :: ws, plainS x.data.toList) :
    wordsP first (ws.length + 1) (ofL (wordsL (first :: ws)) :: t) false = (first :: ws, t, false) := by
  have hb := words_back (first :: ws) (by simp) h
  unfold wordsP
  simp only [hb]
  rw [if_neg (by simp)]
theorem someP_back (l t : List ByteArray) : someP (l.length : Int) (l ++ t) false = (l, t, false) := by
  unfold someP
  rw [if_neg (by simp; omega), Int.toNat_natCast, List.take_left, List.drop_left]
def forkWords (x : S40) : List ByteArray := [x.f0, linkS x.f1, x.f2, textB x.f3.length, textB x.f4.length]
def forkLines (x : S40) : List (List UInt8) := wordsL (⟨#[102, 111, 114, 107]⟩ :: forkWords x) :: (x.f3.map refBare ++ x.f4.map (·.data.toList))
def rootLines (a : Int) (l1 : List ByteArray) (l2 : List S40) : List (List UInt8) :=
  wordsL [⟨#[110, 101, 116]⟩, textB a] :: wordsL [⟨#[112, 111, 111, 108]⟩, textB l1.length] :: (l1.map (·.data.toList) ++ wordsL [⟨#[102, 111, 114, 107, 115]⟩, textB l2.length] :: l2.flatMap forkLines)
theorem rowsL_ends (l : List ByteArray) : rowsL l = endsL (l.map (·.data.toList)) := by
  induction l with
  | nil => rfl
  | cons x l ih => rw [List.map_cons, endsL_cons, ← ih]; rfl
theorem forkText_ends (x : S40) : forkText x = endsL (forkLines x) := by
  rw [forkText, forkLines, endsL_cons, endsL_append, ← refsText_ends, ← rowsL_ends, forkHead, lineL_words]
  simp [forkWords]
theorem forksText_ends : ∀ l : List S40, l.flatMap forkText = endsL (l.flatMap forkLines)
  | [] => rfl
  | x :: l => by rw [List.flatMap_cons, List.flatMap_cons, endsL_append, forksText_ends l, forkText_ends]
theorem rootText_ends (a : Int) (l1 : List ByteArray) (l2 : List S40) : rootText a l1 l2 = endsL (rootLines a l1 l2) := by
  rw [rootText, rootLines, endsL_cons, endsL_cons, endsL_append, endsL_cons, ← forksText_ends, ← rowsL_ends, rootHead, lineL_words, lineL_words, lineL_words]
  simp

theorem forkB_all {x : S40} (h : forkB x = true) : forkName x.f0 = true ∧ refName x.f2 = true ∧ refsB x.f3 = true ∧ packsB x.f4 = true := by
  unfold forkB at h
  split at h
  · rename_i h0
    split at h
    · rename_i h1
      split at h
      · rename_i h2
        split at h
        · rename_i h3
          exact ⟨h0, h3, h2, h1⟩
        · cases h
      · cases h
    · cases h
  · cases h
theorem packsB_hex {l : List ByteArray} (h : packsB l = true) : ∀ x ∈ l, hexName x = true := by
  simp only [packsB, Bool.and_eq_true, decide_eq_true_eq] at h
  have : ∀ (l seen : List ByteArray), packsGo seen l = true → ∀ x ∈ l, hexName x = true := by
    intro l
    induction l with
    | nil => intro _ _ x hx; cases hx
    | cons y ys ih =>
      intro seen h x hx
      rw [packsGo] at h
      split at h
      · cases h
      · split at h
        · rename_i h2
          rcases List.mem_cons.1 hx with rfl | hx'
          · exact h2
          · exact ih _ h x hx'
        · cases h
  exact this l [] h.1
theorem link_plain (b : Bool) : plainS (linkS b).data.toList := by cases b <;> (unfold plainS linkS; decide)
theorem forkWords_plain {x : S40} (h : forkB x = true) : ∀ y ∈ (⟨#[102, 111, 114, 107]⟩ : ByteArray) :: forkWords x, plainS y.data.toList := by
  obtain ⟨h0, h2, h3, h4⟩ := forkB_all h
  intro y hy
  simp only [forkWords, List.mem_cons, List.not_mem_nil, or_false] at hy
  rcases hy with rfl | rfl | rfl | rfl | rfl | rfl
  · unfold plainS; decide
  · exact forkName_plain h0
  · exact link_plain _
  · exact refName_plain h2
  · exact text_plain (by omega)
  · exact text_plain (by omega)
theorem forkLines_plain {x : S40} (h : forkB x = true) : ∀ p ∈ forkLines x, (10 : UInt8) ∉ p := by
  obtain ⟨h0, h2, h3, h4⟩ := forkB_all h
  intro p hp
  rcases List.mem_cons.1 hp with rfl | hp
  · exact words_plain _ (forkWords_plain h)
  · rcases List.mem_append.1 hp with hp | hp
    · obtain ⟨y, hy, rfl⟩ := List.mem_map.1 hp
      exact refBare_plain (refsB_all h3 y hy).1 (refsB_all h3 y hy).2
    · obtain ⟨y, hy, rfl⟩ := List.mem_map.1 hp
      exact (hex_plain (packsB_hex h4 y hy)).1
theorem word2_plain (f : ByteArray) (n : Int) (hn : 0 ≤ n) (hf : plainS f.data.toList) : ∀ y ∈ [f, textB n], plainS y.data.toList := by
  intro y hy
  simp only [List.mem_cons, List.not_mem_nil, or_false] at hy
  rcases hy with rfl | rfl
  · exact hf
  · exact text_plain hn
theorem rootLines_plain {a : Int} {l1 : List ByteArray} {l2 : List S40} (h : rootB a l1 l2 = true) : ∀ p ∈ rootLines a l1 l2, (10 : UInt8) ∉ p := by
  obtain ⟨h0, h1, h2, h3, h4⟩ := rootB_parts h
  intro p hp
  rcases List.mem_cons.1 hp with rfl | hp
  · exact words_plain _ (word2_plain _ _ h0 (by unfold plainS; decide))
  rcases List.mem_cons.1 hp with rfl | hp
  · exact words_plain _ (word2_plain _ _ (by omega) (by unfold plainS; decide))
  rcases List.mem_append.1 hp with hp | hp
  · obtain ⟨y, hy, rfl⟩ := List.mem_map.1 hp
    exact (hex_plain (packsB_hex h2 y hy)).1
  rcases List.mem_cons.1 hp with rfl | hp
  · exact words_plain _ (word2_plain _ _ (by omega) (by unfold plainS; decide))
  · obtain ⟨x, hx, hp⟩ := List.mem_flatMap.1 hp
    exact forkLines_plain (h4 x hx) p hp

theorem numberP_text (n : Int) (h0 : 0 ≤ n) (h1 : n ≤ 1099511627776) : numberP (textB n) false = (n, false) := by
  rw [numberP, decB_text n h0 h1]; rfl
theorem link_back (b : Bool) : ((linkS b).toList == [108, 105, 110, 107, 101, 100]) = b := by
  rw [toList_data]; cases b <;> decide
theorem forkP_back {x : S40} (h : forkB x = true) (t : List ByteArray) : forkP ((forkLines x).map ofL ++ t) false = (x, t, false) := by
  obtain ⟨h0, h2, h3, h4⟩ := forkB_all h
  have l3 : x.f3.length ≤ 64 := by simp only [refsB, Bool.and_eq_true, decide_eq_true_eq] at h3; exact h3.2
  have l4 : x.f4.length ≤ 24 := by simp only [packsB, Bool.and_eq_true, decide_eq_true_eq] at h4; exact h4.2
  have hw := wordsP_back ⟨#[102, 111, 114, 107]⟩ (forkWords x) ((x.f3.map refBare).map ofL ++ (x.f4 ++ t)) (forkWords_plain h)
  have e : (forkLines x).map ofL ++ t = ofL (wordsL (⟨#[102, 111, 114, 107]⟩ :: forkWords x)) :: ((x.f3.map refBare).map ofL ++ (x.f4 ++ t)) := by
    rw [forkLines, List.map_cons, List.map_append, map_ofL_data]; simp
  have hw' : wordsP ⟨#[102, 111, 114, 107]⟩ 6 ((forkLines x).map ofL ++ t) false = (⟨#[102, 111, 114, 107]⟩ :: forkWords x, (x.f3.map refBare).map ofL ++ (x.f4 ++ t), false) := by rw [e]; exact hw
  have hs1 := someP_back ((x.f3.map refBare).map ofL) (x.f4 ++ t)
  rw [List.length_map, List.length_map] at hs1
  have hs2 := someP_back x.f4 t
  have hrows : rowsL ((x.f3.map refBare).map ofL) = refsText x.f3 := by
    rw [rowsL_ends, refsText_ends]
    congr 1
    rw [List.map_map]
    conv => rhs; rw [← List.map_id (x.f3.map refBare)]
    apply List.map_congr_left
    intro p _
    exact data_ofL p
  have n4 : numberP (textB x.f3.length) false = ((x.f3.length : Int), false) := numberP_text _ (by omega) (by omega)
  have n5 : numberP (textB x.f4.length) false = ((x.f4.length : Int), false) := numberP_text _ (by omega) (by omega)
  have w1 : wordAt (⟨#[102, 111, 114, 107]⟩ :: forkWords x) 1 = x.f0 := rfl
  have w2 : wordAt (⟨#[102, 111, 114, 107]⟩ :: forkWords x) 2 = linkS x.f1 := rfl
  have w3 : wordAt (⟨#[102, 111, 114, 107]⟩ :: forkWords x) 3 = x.f2 := rfl
  have w4 : wordAt (⟨#[102, 111, 114, 107]⟩ :: forkWords x) 4 = textB x.f3.length := rfl
  have w5 : wordAt (⟨#[102, 111, 114, 107]⟩ :: forkWords x) 5 = textB x.f4.length := rfl
  unfold forkP
  rw [hw']
  simp only [w1, w2, w3, w4, w5, n4, n5, hs1, hrows, refs_back h3, hs2, link_back, Bool.not_true, Bool.or_false]
theorem forksP_back : ∀ (l acc : List S40) (t : List ByteArray), (∀ x ∈ l, forkB x = true) → forksP l.length ((l.flatMap forkLines).map ofL ++ t) false acc = (acc ++ l, false)
  | [], acc, t, _ => by rw [List.append_nil]; rfl
  | x :: l, acc, t, h => by
    have e : ((x :: l).flatMap forkLines).map ofL ++ t = (forkLines x).map ofL ++ ((l.flatMap forkLines).map ofL ++ t) := by
      rw [List.flatMap_cons, List.map_append, List.append_assoc]
    have hx := forkP_back (h x (by simp)) ((l.flatMap forkLines).map ofL ++ t)
    rw [List.length_cons, forksP, if_neg (by simp), e, hx]
    simp only []
    rw [forksP_back l (acc ++ [x]) t (fun y hy => h y (List.mem_cons_of_mem _ hy)), List.append_assoc]; rfl
theorem root_back {a : Int} {l1 : List ByteArray} {l2 : List S40} (h : rootB a l1 l2 = true) (rest : List UInt8) : linesP (ofL (rootText a l1 l2 ++ rest)) = (a, l1, l2, false) := by
  obtain ⟨h0, h1, h2, h3, h4⟩ := rootB_parts h
  have l1b : l1.length ≤ 24 := by simp only [packsB, Bool.and_eq_true, decide_eq_true_eq] at h2; exact h2.2
  have hsp : splitS 10 (ofL (rootText a l1 l2 ++ rest)) = ofL (wordsL [⟨#[110, 101, 116]⟩, textB a]) :: ofL (wordsL [⟨#[112, 111, 111, 108]⟩, textB l1.length]) :: (l1 ++ (ofL (wordsL [⟨#[102, 111, 114, 107, 115]⟩, textB l2.length]) :: ((l2.flatMap forkLines).map ofL ++ (splitL 10 rest).map ofL))) := by
    rw [splitS, data_ofL, rootText_ends, splitL_ends _ _ (rootLines_plain h), List.map_append, rootLines]
    simp only [List.map_cons, List.map_append, map_ofL_data, List.cons_append, List.append_assoc]
  have q1 := wordsP_back ⟨#[110, 101, 116]⟩ [textB a] (ofL (wordsL [⟨#[112, 111, 111, 108]⟩, textB l1.length]) :: (l1 ++ (ofL (wordsL [⟨#[102, 111, 114, 107, 115]⟩, textB l2.length]) :: ((l2.flatMap forkLines).map ofL ++ (splitL 10 rest).map ofL)))) (word2_plain _ _ h0 (by unfold plainS; decide))
  have q2 := wordsP_back ⟨#[112, 111, 111, 108]⟩ [textB l1.length] (l1 ++ (ofL (wordsL [⟨#[102, 111, 114, 107, 115]⟩, textB l2.length]) :: ((l2.flatMap forkLines).map ofL ++ (splitL 10 rest).map ofL))) (word2_plain _ _ (by omega) (by unfold plainS; decide))
  have q3 := wordsP_back ⟨#[102, 111, 114, 107, 115]⟩ [textB l2.length] ((l2.flatMap forkLines).map ofL ++ (splitL 10 rest).map ofL) (word2_plain _ _ (by omega) (by unfold plainS; decide))
  have n1 := numberP_text a h0 h1
  have n2 : numberP (textB l1.length) false = ((l1.length : Int), false) := numberP_text _ (by omega) (by omega)
  have n3 : numberP (textB l2.length) false = ((l2.length : Int), false) := numberP_text _ (by omega) (by omega)
  have s1 := someP_back l1 (ofL (wordsL [⟨#[102, 111, 114, 107, 115]⟩, textB l2.length]) :: ((l2.flatMap forkLines).map ofL ++ (splitL 10 rest).map ofL))
  have f1 := forksP_back l2 [] ((splitL 10 rest).map ofL) h4
  have w1 : ∀ (f y : ByteArray), wordAt [f, y] 1 = y := fun _ _ => rfl
  unfold linesP
  rw [hsp]
  simp only [List.length_cons, List.length_nil, Nat.zero_add] at q1 q2 q3
  simp only [q1, q2, q3, w1, n1, n2, n3, s1, Int.toNat_natCast, f1, List.nil_append]
end Go.Proofs.YtgmddlbbmlneaaaDoor.PR

/- What follows of a root's lines, in plain words: there and back, cut lines, lines with more, unlike roots, how many lines. -/
namespace Go.Proofs.YtgmddlbbmlneaaaDoor.PR
open Go.RowKit Go.Proofs.YtgmddlbbmlneaaaDoorW.PrintWords Go.Proofs.YtgmddlbbmlneaaaDoorW.PrintLast Go.Proofs.YtgmddlbbmlneaaaDoorW.PrintMore
set_option linter.unusedVariables false

theorem getP_inv {s : ByteArray} {c : Int} {p : List ByteArray} {f : List S40} (h : getP s = (c, p, f, true)) : rootB c p f = true ∧ rootText c p f = s.data.toList := by
  unfold getP at h
  by_cases k : (linesP s).2.2.2 = false ∧ rootB (linesP s).1 (linesP s).2.1 (linesP s).2.2.1 = true ∧ rootText (linesP s).1 (linesP s).2.1 (linesP s).2.2.1 = s.data.toList
  · simp only [k, and_self, if_true, Prod.mk.injEq, and_true] at h
    obtain ⟨rfl, rfl, rfl⟩ := h
    exact k.2
  · simp only [if_neg k, Prod.mk.injEq] at h
    exact absurd h.2.2.2 (by simp)
theorem getP_inv0 {s : ByteArray} {c : Int} {p : List ByteArray} {f : List S40} (h : getP s = (c, p, f, false)) : c = 0 ∧ p = [] ∧ f = [] := by
  unfold getP at h
  by_cases k : (linesP s).2.2.2 = false ∧ rootB (linesP s).1 (linesP s).2.1 (linesP s).2.2.1 = true ∧ rootText (linesP s).1 (linesP s).2.1 (linesP s).2.2.1 = s.data.toList
  · simp only [k, and_self, if_true, Prod.mk.injEq] at h
    exact absurd h.2.2.2 (by simp)
  · simp only [if_neg k, Prod.mk.injEq] at h
    exact ⟨h.1.symm, h.2.1.symm, h.2.2.1.symm⟩
theorem getP_text {a : Int} {l1 : List ByteArray} {l2 : List S40} (h : rootB a l1 l2 = true) : getP (ofL (rootText a l1 l2)) = (a, l1, l2, true) := by
  have hb := root_back h []
  rw [List.append_nil] at hb
  exact getP_yes hb ⟨rfl, h, (data_ofL _).symm⟩
theorem rootB_ok {a : Int} {l1 : List ByteArray} {l2 : List S40} (h : rootB a l1 l2 = true) : okRoot l1 l2 = true := by
  obtain ⟨h0, h1, h2, h3, h4⟩ := rootB_parts h
  obtain ⟨k1, k2⟩ := hexName_all h2
  simp only [okRoot, Bool.and_eq_true, List.all_eq_true, decide_eq_true_eq]
  refine ⟨⟨fun y hy => ?_, by omega⟩, fun x hx => ?_⟩
  · have := k2 y hy; simp only [okS, decide_eq_true_eq]; omega
  · obtain ⟨s0, s2, s3, s4⟩ := forkB_parts (h4 x hx)
    obtain ⟨m1, m2⟩ := hexName_all s4
    obtain ⟨n1, n2⟩ := refsB_sizes s3
    simp only [okFork, okS, Bool.and_eq_true, List.all_eq_true, decide_eq_true_eq]
    refine ⟨⟨⟨⟨by omega, by omega⟩, fun y hy => ?_⟩, fun y hy => ?_⟩, by omega⟩
    · have := n2 y hy
      simp only [okRef, Bool.and_eq_true, decide_eq_true_eq]; omega
    · have := m2 y hy; omega
theorem rootText_length {a : Int} {l1 : List ByteArray} {l2 : List S40} (h : rootB a l1 l2 = true) : (rootText a l1 l2).length ≤ 400000 := by
  obtain ⟨h0, h1, h2, h3, h4⟩ := rootB_parts h
  obtain ⟨k1, k2⟩ := hexName_all h2
  have e1 := forksText_length l2 h4
  have e2 := rowsL_length (l := l1) (n := 64) (fun y hy => Nat.le_of_eq (k2 y hy))
  have u1 := textB_size a (by omega) (by omega)
  have u2 := textB_size (l1.length : Int) (by omega) (by omega)
  have u3 := textB_size (l2.length : Int) (by omega) (by omega)
  have v1 := lineL_length [⟨#[110, 101, 116]⟩, textB a]
  have v2 := lineL_length [⟨#[112, 111, 111, 108]⟩, textB l1.length]
  have v3 := lineL_length [⟨#[102, 111, 114, 107, 115]⟩, textB l2.length]
  simp only [List.map_cons, List.map_nil, List.sum_cons, List.sum_nil, List.length_cons, List.length_nil, show (⟨#[110, 101, 116]⟩ : ByteArray).size = 3 from rfl, show (⟨#[112, 111, 111, 108]⟩ : ByteArray).size = 4 from rfl, show (⟨#[102, 111, 114, 107, 115]⟩ : ByteArray).size = 5 from rfl] at v1 v2 v3
  simp only [rootText, rootHead, List.length_append]
  omega
theorem text_begin {a b : Int} {l1 m1 : List ByteArray} {l2 m2 : List S40} (h : rootB a l1 l2 = true) (k : rootB b m1 m2 = true) (rest : List UInt8) (e : rootText a l1 l2 ++ rest = rootText b m1 m2) : a = b ∧ l1 = m1 ∧ l2 = m2 := by
  have h1 := root_back h rest
  have h2 := root_back k []
  rw [List.append_nil, ← e, h1] at h2
  simpa using h2
theorem text_inj {a b : Int} {l1 m1 : List ByteArray} {l2 m2 : List S40} (h : rootB a l1 l2 = true) (k : rootB b m1 m2 = true) : rootText a l1 l2 = rootText b m1 m2 ↔ a = b ∧ l1 = m1 ∧ l2 = m2 :=
  ⟨fun e => text_begin h k [] (by rw [List.append_nil]; exact e), fun ⟨e1, e2, e3⟩ => by rw [e1, e2, e3]⟩
theorem cut_no {a : Int} {l1 : List ByteArray} {l2 : List S40} (h : rootB a l1 l2 = true) (n : Nat) (hn : n < (rootText a l1 l2).length) : (getP (ofL ((rootText a l1 l2).take n))).2.2.2 = false := by
  cases hg : (getP (ofL ((rootText a l1 l2).take n))).2.2.2 with
  | false => rfl
  | true =>
    obtain ⟨⟨c, p, f, on⟩, hx⟩ : ∃ R, getP (ofL ((rootText a l1 l2).take n)) = R := ⟨_, rfl⟩
    rw [hx] at hg
    obtain rfl : on = true := hg
    obtain ⟨k1, k2⟩ := getP_inv hx
    rw [data_ofL] at k2
    obtain ⟨rfl, rfl, rfl⟩ := text_begin k1 h ((rootText a l1 l2).drop n) (by rw [k2, List.take_append_drop])
    have := congrArg List.length k2
    rw [List.length_take] at this
    omega
theorem more_no {a : Int} {l1 : List ByteArray} {l2 : List S40} (h : rootB a l1 l2 = true) (c : UInt8) : (getP (ofL (rootText a l1 l2 ++ [c]))).2.2.2 = false := by
  cases hg : (getP (ofL (rootText a l1 l2 ++ [c]))).2.2.2 with
  | false => rfl
  | true =>
    obtain ⟨⟨d, p, f, on⟩, hx⟩ : ∃ R, getP (ofL (rootText a l1 l2 ++ [c])) = R := ⟨_, rfl⟩
    rw [hx] at hg
    obtain rfl : on = true := hg
    obtain ⟨k1, k2⟩ := getP_inv hx
    rw [data_ofL] at k2
    obtain ⟨rfl, rfl, rfl⟩ := text_begin h k1 [c] k2.symm
    have := congrArg List.length k2
    rw [List.length_append, List.length_singleton] at this
    omega
theorem ends_count : ∀ (ls : List (List UInt8)), (∀ p ∈ ls, (10 : UInt8) ∉ p) → (endsL ls).count 10 = ls.length
  | [], _ => rfl
  | p :: ls, h => by
    rw [endsL_cons, List.count_append, List.count_append, ends_count ls (fun q hq => h q (List.mem_cons_of_mem _ hq)), List.count_eq_zero.2 (h p (by simp))]
    simp
    omega
def sumN (l : List S40) : Nat := (l.map fun x => 1 + x.f3.length + x.f4.length).sum
theorem forkLines_count : ∀ l : List S40, (l.flatMap forkLines).length = sumN l
  | [] => rfl
  | x :: l => by
    rw [List.flatMap_cons, List.length_append, forkLines_count l]
    simp only [forkLines, List.length_cons, List.length_append, List.length_map, sumN, List.map_cons, List.sum_cons]
    omega
theorem text_lines {a : Int} {l1 : List ByteArray} {l2 : List S40} (h : rootB a l1 l2 = true) : (rootText a l1 l2).count 10 = 3 + l1.length + sumN l2 := by
  rw [rootText_ends, ends_count _ (rootLines_plain h)]
  simp only [rootLines, List.length_cons, List.length_append, List.length_map, forkLines_count]
  omega
theorem ends_last : ∀ (ls : List (List UInt8)), ls ≠ [] → (endsL ls).getLast? = some 10
  | [], h => absurd rfl h
  | [p], _ => by simp [endsL]
  | p :: q :: ls, _ => by
    rw [endsL_cons, List.getLast?_append, ends_last (q :: ls) (by simp)]; rfl
theorem text_last (a : Int) (l1 : List ByteArray) (l2 : List S40) : (rootText a l1 l2).getLast? = some 10 := by
  rw [rootText_ends]; exact ends_last _ (by simp [rootLines])
theorem text_pos (a : Int) (l1 : List ByteArray) (l2 : List S40) : 0 < (rootText a l1 l2).length := by
  cases h : rootText a l1 l2 with
  | nil => have := text_last a l1 l2; rw [h] at this; cases this
  | cons x l => simp
theorem intsOf_length (l : List UInt8) : (intsOf l).length = l.length := by simp [intsOf]
theorem get_text {a : Int} {l1 : List ByteArray} {l2 : List S40} (h : rootB a l1 l2 = true) : root_Get.f (intsOf (rootText a l1 l2)) = some (a, l1, l2, true) := by
  rw [root_Get.f, if_pos (by rw [intsOf_length]; have := rootText_length h; omega), strOfNums_ints]
  exact congrArg some (getP_text h)
end Go.Proofs.YtgmddlbbmlneaaaDoor.PR

namespace Go.Proofs.YtgmddlbbmlneaaaDoor.PR
open Go.RowKit Go.Proofs.YtgmddlbbmlneaaaDoorW.PrintWords Go.Proofs.YtgmddlbbmlneaaaDoorW.PrintLast Go.Proofs.YtgmddlbbmlneaaaDoorW.PrintMore
attribute [local go_sem] max2_int min2_int max_two min_two max_three min_three max_four min_four   -- for this text's walks alone
set_option linter.unusedVariables false
set_option linter.unusedSimpArgs false

/-! ### sacristylaw09_Great: function 16 -/
def sacristylaw09_Great.l0 : Nat → List (S76) → Int → Int → Option (Bool)
  | 0, _, _, _ => none
  | k + 1, x0, x3, x4 => if x4 < (x0.length : Int) then (if x3 < 20000 then (if 0 ≤ x4 then (sacristylaw09_Great.l0 k x0 (wrap64 ((wrap64 (x3 + (mn (((rd_T76 x0 x4).f0).size : Int) 20000))) + (mn (((rd_T76 x0 x4).f1).size : Int) 20000))) (wrap64 (x4 + 1))) else (none)) else (if x3 ≥ 20000 then (some true) else (some (decide ((x0.length : Int) > 100))))) else (if x3 ≥ 20000 then (some true) else (some (decide ((x0.length : Int) > 100))))
def sacristylaw09_Great.f (k : Nat) (l0 : List (S76)) : Option (Bool) := sacristylaw09_Great.l0 k l0 (l0.length : Int) 0
theorem sacristylaw09_Great.mono_l : ∀ k, (∀ y0 y1 y2, LeO (sacristylaw09_Great.l0 k y0 y1 y2) (sacristylaw09_Great.l0 (k + 1) y0 y1 y2))
  | 0 => fun _ _ _ r h => by simp [sacristylaw09_Great.l0] at h
  | k + 1 => by
    have ih0 := sacristylaw09_Great.mono_l k
    · intro y0 y1 y2
      unfold sacristylaw09_Great.l0
      repeat' first
      | (with_reducible exact ih0 _ _ _)
      | (with_reducible exact LeO.refl _)
      | (with_reducible exact LeO.none _)
      | (with_reducible refine LeO.ite ?_ ?_)
      | (with_reducible refine LeO.bind ?_ (fun _ => ?_))
      | exact ih0 _ _ _
      | exact LeO.none _
      | refine LeO.ite ?_ ?_
      | refine LeO.bind ?_ (fun _ => ?_)
theorem sacristylaw09_Great.mono : ∀ a0 k, LeO (sacristylaw09_Great.f k a0) (sacristylaw09_Great.f (k + 1) a0) := by
  intro a0 k
  have ih0 := sacristylaw09_Great.mono_l k
  unfold sacristylaw09_Great.f
  repeat' first
      | (with_reducible exact ih0 _ _ _)
      | (with_reducible exact LeO.refl _)
      | (with_reducible exact LeO.none _)
      | (with_reducible refine LeO.ite ?_ ?_)
      | (with_reducible refine LeO.bind ?_ (fun _ => ?_))
      | exact ih0 _ _ _
      | exact LeO.none _
      | refine LeO.ite ?_ ?_
      | refine LeO.bind ?_ (fun _ => ?_)
set_option maxHeartbeats 8000000 in
set_option maxRecDepth 100000 in
theorem sacristylaw09_Great.calls (k : Nat) (A0 : Option Addr) (c0 : Nat) (l0 : List (S76)) (r : Bool) (w : World) (hr0 : Kd.C k76 w A0 l0.length l0) (hc0 : l0.length ≤ c0) (h : sacristylaw09_Great.f k l0 = some r) :
    Calls Tryd.prog 16 #[.slice A0 l0.length c0] w fun e w' => e = .returned (.bool r) ∧ Below w.heap.size w w' := by
  have HR0 := Aside0.mk hr0
  have HC0 := Aside0.mk hc0
  clear hr0 hc0
  have HB := Aside0.mk (Below.refl w.heap.size w)
  have H : (sacristylaw09_Great.l0 k l0 (l0.length : Int) 0) = some r := h
  clear h
  have H' := Aside0.mk H
  clear H
  go_enter Tryd.func16, Tryd.ntmps16
  go_wp2
  repeat (go_quiet (fail); try go_wp2)
  go_loopg [3, 4] k (fun kq v3 v4 w' => ∃ (x3_1 : Int) (x4_1 : Int), v3 = .int .i64 x3_1 ∧ v4 = .int .i64 x4_1 ∧ Aside0 (sacristylaw09_Great.l0 kq l0 x3_1 x4_1 = some r) ∧ Aside0 (kq ≤ k) ∧ Aside0 (Below w.heap.size w w'))
  case atStart => exact ⟨((l0.length : Int)), (0), (by first | rfl | (simp; done) | (simp [*]; done)), (by first | rfl | (simp; done) | (simp [*]; done)), H', ⟨Nat.le_refl _⟩, ⟨by repeat (first | (with_reducible first | exact HB.out | apply below_alloc | apply pw_below_drewN | apply below_drew1) | exact HB.out)⟩⟩
  case round =>
    clear H'
    try clear c1
    obtain ⟨x3_1, x4_1, rfl, rfl, HA, HK1, HB⟩ := hrel
    cases gk with
    | zero => exact absurd HA.out (by simp [sacristylaw09_Great.l0])
    | succ k1 =>
      have H := HA.out
      clear HA
      simp only [sacristylaw09_Great.l0] at H
      by_cases c2 : x4_1 < (l0.length : Int)
      · rw [if_pos c2] at H
        have c2b0 : decide (x4_1 < (l0.length : Int)) = true := decide_eq_true c2
        clear c2
        by_cases c3 : x3_1 < 20000
        · rw [if_pos c3] at H
          have c3b0 : decide (x3_1 < 20000) = true := decide_eq_true c3
          clear c3
          by_cases c4 : 0 ≤ x4_1
          · rw [if_pos c4] at H
            have c4b0 : decide (0 ≤ x4_1) = true := decide_eq_true c4
            clear c4
            obtain ⟨ji5, hji5⟩ : ∃ j_ : Int, (mn (((rd_T76 l0 x4_1).f0).size : Int) 20000) = j_ := ⟨_, rfl⟩
            replace H : (sacristylaw09_Great.l0 k1 l0 (wrap64 ((wrap64 (x3_1 + (ji5))) + (mn (((rd_T76 l0 x4_1).f1).size : Int) 20000))) (wrap64 (x4_1 + 1))) = some r := by first | (rw [hji5] at H; exact H) | (simp only [hji5] at H ⊢; exact H)
            have hji5_ : (if 20000 < (((rd_T76 l0 x4_1).f0).size : Int) then 20000 else (((rd_T76 l0 x4_1).f0).size : Int)) = ji5 := hji5
            obtain ⟨ji6, hji6⟩ : ∃ j_ : Int, (mn (((rd_T76 l0 x4_1).f1).size : Int) 20000) = j_ := ⟨_, rfl⟩
            replace H : (sacristylaw09_Great.l0 k1 l0 (wrap64 ((wrap64 (x3_1 + (ji5))) + (ji6))) (wrap64 (x4_1 + 1))) = some r := by first | (rw [hji6] at H; exact H) | (simp only [hji6] at H ⊢; exact H)
            have hji6_ : (if 20000 < (((rd_T76 l0 x4_1).f1).size : Int) then 20000 else (((rd_T76 l0 x4_1).f1).size : Int)) = ji6 := hji6
            have H' := Aside0.mk H
            clear H
            have p121 : 0 ≤ (x4_1 : Int) := of_decide_eq_true (by first | (with_reducible assumption) | assumption)
            have q121 : x4_1 < (l0.length : Int) := of_decide_eq_true (by first | (with_reducible assumption) | assumption)
            obtain ⟨ad121, e121, hx121_0, hx121_1⟩ := at_T76 HR0.out x4_1 p121 q121
            cases e121
            replace hx121_0 := (HB.out.cell (World.block_lt_of_cell? w _ hx121_0)).trans hx121_0
            replace hx121_1 := (HB.out.cell (World.block_lt_of_cell? w _ hx121_1)).trans hx121_1
            replace p121 := eq_true p121
            replace q121 := eq_true q121
            have p122 : 0 ≤ (x4_1 : Int) := of_decide_eq_true (by first | (with_reducible assumption) | assumption)
            have q122 : x4_1 < (l0.length : Int) := of_decide_eq_true (by first | (with_reducible assumption) | assumption)
            obtain ⟨ad122, e122, hx122_0, hx122_1⟩ := at_T76 HR0.out x4_1 p122 q122
            obtain rfl : ad121 = ad122 := (by injection e122)
            replace hx122_0 := (HB.out.cell (World.block_lt_of_cell? w _ hx122_0)).trans hx122_0
            replace hx122_1 := (HB.out.cell (World.block_lt_of_cell? w _ hx122_1)).trans hx122_1
            replace p122 := eq_true p122
            replace q122 := eq_true q122
            go_wp2
            repeat (go_quiet (fail); try go_wp2)
            go_roundg k1
            case measure => have := HK1.out; omega
            case rel => exact ⟨(wrap64 ((wrap64 (x3_1 + (ji5))) + (ji6))), (wrap64 (x4_1 + 1)), (by first | rfl | (simp; done) | (simp only [← hji5, ← hji6] <;> (first | rfl | simp)) | (simp [*]; done)), (by first | rfl | (simp; done) | (simp [*]; done)), H', ⟨by have := HK1.out; omega⟩, ⟨by repeat (first | (with_reducible first | exact HB.out | apply below_alloc | apply pw_below_drewN | apply below_drew1) | exact HB.out)⟩⟩
          · rw [if_neg c4] at H
            exact absurd H (by simp)
        · rw [if_neg c3] at H
          have c3b0 : decide (x3_1 < 20000) = false := decide_eq_false c3
          clear c3
          by_cases c7 : x3_1 ≥ 20000
          · rw [if_pos c7] at H
            have c7b0 : decide (20000 ≤ x3_1) = true := decide_eq_true c7
            clear c7
            obtain rfl := Option.some.inj H
            go_wp2
            repeat (go_quiet (fail); try go_wp2)
            go_ret
            exact ⟨by first | rfl | (simp [errW_none, errW_some] <;> rfl) | (simp [*, errW_none, errW_some] <;> rfl), by repeat (first | (with_reducible first | exact HB.out | apply below_alloc | apply pw_below_drewN | apply below_drew1) | exact HB.out)⟩
          · rw [if_neg c7] at H
            have c7b0 : decide (20000 ≤ x3_1) = false := decide_eq_false c7
            clear c7
            obtain rfl := Option.some.inj H
            go_wp2
            repeat (go_quiet (fail); try go_wp2)
            go_ret
            exact ⟨by first | rfl | (simp [errW_none, errW_some] <;> rfl) | (simp [*, errW_none, errW_some] <;> rfl), by repeat (first | (with_reducible first | exact HB.out | apply below_alloc | apply pw_below_drewN | apply below_drew1) | exact HB.out)⟩
      · rw [if_neg c2] at H
        have c2b0 : decide (x4_1 < (l0.length : Int)) = false := decide_eq_false c2
        clear c2
        by_cases c8 : x3_1 ≥ 20000
        · rw [if_pos c8] at H
          have c8b0 : decide (20000 ≤ x3_1) = true := decide_eq_true c8
          clear c8
          obtain rfl := Option.some.inj H
          go_wp2
          repeat (go_quiet (fail); try go_wp2)
          go_ret
          exact ⟨by first | rfl | (simp [errW_none, errW_some] <;> rfl) | (simp [*, errW_none, errW_some] <;> rfl), by repeat (first | (with_reducible first | exact HB.out | apply below_alloc | apply pw_below_drewN | apply below_drew1) | exact HB.out)⟩
        · rw [if_neg c8] at H
          have c8b0 : decide (20000 ≤ x3_1) = false := decide_eq_false c8
          clear c8
          obtain rfl := Option.some.inj H
          go_wp2
          repeat (go_quiet (fail); try go_wp2)
          go_ret
          exact ⟨by first | rfl | (simp [errW_none, errW_some] <;> rfl) | (simp [*, errW_none, errW_some] <;> rfl), by repeat (first | (with_reducible first | exact HB.out | apply below_alloc | apply pw_below_drewN | apply below_drew1) | exact HB.out)⟩

end Go.Proofs.YtgmddlbbmlneaaaDoor.PR

namespace Go.Proofs.YtgmddlbbmlneaaaDoor.PR
open Go.RowKit Go.Proofs.YtgmddlbbmlneaaaDoorW.PrintWords Go.Proofs.YtgmddlbbmlneaaaDoorW.PrintLast Go.Proofs.YtgmddlbbmlneaaaDoorW.PrintMore
attribute [local go_sem] max2_int min2_int max_two min_two max_three min_three max_four min_four   -- for this text's walks alone
set_option linter.unusedVariables false
set_option linter.unusedSimpArgs false

/-! ### sacristylaw10_Great: function 9 -/
mutual
def sacristylaw10_Great.j1 : Nat → Int → Int → List ByteArray → List (S40) → Option (Bool)
  | 0, _, _, _, _ => none
  | k + 1, x3, x124000, x124001, x124002 => sacristylaw10_Great.l1 k x3 0 x124000 x124001 x124002
def sacristylaw10_Great.l1 : Nat → Int → Int → Int → List ByteArray → List (S40) → Option (Bool)
  | 0, _, _, _, _, _ => none
  | k + 1, x3, x5, x124000, x124001, x124002 => if x5 < (x124002.length : Int) then (sacristylaw10_Great.j3 k x3 x5 (decide (x3 < 20000)) x124000 x124001 x124002) else (sacristylaw10_Great.j3 k x3 x5 false x124000 x124001 x124002)
def sacristylaw10_Great.j3 : Nat → Int → Int → Bool → Int → List ByteArray → List (S40) → Option (Bool)
  | 0, _, _, _, _, _, _ => none
  | k + 1, x3, x5, x43, x124000, x124001, x124002 => if x43 = true then (if 0 ≤ x5 then (if x5 < (x124002.length : Int) then (sacristylaw10_Great.l2 k (wrap64 ((wrap64 ((wrap64 ((wrap64 (x3 + 1)) + (mn (((rd_T40 x124002 x5).f0).size : Int) 20000))) + (mn (((rd_T40 x124002 x5).f2).size : Int) 20000))) + (((rd_T40 x124002 x5).f4).length : Int))) x5 0 x124000 x124001 x124002 ((rd_T40 x124002 x5).f0) ((rd_T40 x124002 x5).f1) ((rd_T40 x124002 x5).f2) ((rd_T40 x124002 x5).f3) ((rd_T40 x124002 x5).f4)) else (none)) else (none)) else (if x3 ≥ 20000 then (some true) else (some (decide ((x124002.length : Int) > 40))))
def sacristylaw10_Great.l2 : Nat → Int → Int → Int → Int → List ByteArray → List (S40) → ByteArray → Bool → ByteArray → List (S76) → List ByteArray → Option (Bool)
  | 0, _, _, _, _, _, _, _, _, _, _, _ => none
  | k + 1, x3, x5, x7, x124000, x124001, x124002, x127000, x127001, x127002, x127003, x127004 => if x7 < (x127004.length : Int) then (if x3 < 20000 then (if 0 ≤ x7 then (sacristylaw10_Great.l2 k (wrap64 (x3 + (mn ((rdOf ByteArray.empty x127004 x7).size : Int) 20000))) x5 (wrap64 (x7 + 1)) x124000 x124001 x124002 x127000 x127001 x127002 x127003 x127004) else (none)) else ((sacristylaw09_Great.f k x127003).bind fun t128 => (if t128 = true then (some true) else (sacristylaw10_Great.l1 k x3 (wrap64 (x5 + 1)) x124000 x124001 x124002)))) else ((sacristylaw09_Great.f k x127003).bind fun t129 => (if t129 = true then (some true) else (sacristylaw10_Great.l1 k x3 (wrap64 (x5 + 1)) x124000 x124001 x124002)))
def sacristylaw10_Great.l0 : Nat → Int → Int → Int → List ByteArray → List (S40) → Option (Bool)
  | 0, _, _, _, _, _ => none
  | k + 1, x3, x4, x124000, x124001, x124002 => if x4 < (x124001.length : Int) then (if x3 < 20000 then (if 0 ≤ x4 then (sacristylaw10_Great.l0 k (wrap64 (x3 + (mn ((rdOf ByteArray.empty x124001 x4).size : Int) 20000))) (wrap64 (x4 + 1)) x124000 x124001 x124002) else (none)) else (sacristylaw10_Great.j1 k x3 x124000 x124001 x124002)) else (sacristylaw10_Great.j1 k x3 x124000 x124001 x124002)
end
def sacristylaw10_Great.f (k : Nat) (a0_0 : Int) (l0_1 : List ByteArray) (l0_2 : List (S40)) : Option (Bool) := sacristylaw10_Great.l0 k (wrap64 ((l0_1.length : Int) + (l0_2.length : Int))) 0 a0_0 l0_1 l0_2
theorem sacristylaw10_Great.mono_l : ∀ k, (∀ y0 y1 y2 y3, LeO (sacristylaw10_Great.j1 k y0 y1 y2 y3) (sacristylaw10_Great.j1 (k + 1) y0 y1 y2 y3)) ∧ (∀ y0 y1 y2 y3 y4, LeO (sacristylaw10_Great.l1 k y0 y1 y2 y3 y4) (sacristylaw10_Great.l1 (k + 1) y0 y1 y2 y3 y4)) ∧ (∀ y0 y1 y2 y3 y4 y5, LeO (sacristylaw10_Great.j3 k y0 y1 y2 y3 y4 y5) (sacristylaw10_Great.j3 (k + 1) y0 y1 y2 y3 y4 y5)) ∧ (∀ y0 y1 y2 y3 y4 y5 y6 y7 y8 y9 y10, LeO (sacristylaw10_Great.l2 k y0 y1 y2 y3 y4 y5 y6 y7 y8 y9 y10) (sacristylaw10_Great.l2 (k + 1) y0 y1 y2 y3 y4 y5 y6 y7 y8 y9 y10)) ∧ (∀ y0 y1 y2 y3 y4, LeO (sacristylaw10_Great.l0 k y0 y1 y2 y3 y4) (sacristylaw10_Great.l0 (k + 1) y0 y1 y2 y3 y4))
  | 0 => ⟨fun _ _ _ _ r h => by simp [sacristylaw10_Great.j1] at h, fun _ _ _ _ _ r h => by simp [sacristylaw10_Great.l1] at h, fun _ _ _ _ _ _ r h => by simp [sacristylaw10_Great.j3] at h, fun _ _ _ _ _ _ _ _ _ _ _ r h => by simp [sacristylaw10_Great.l2] at h, fun _ _ _ _ _ r h => by simp [sacristylaw10_Great.l0] at h⟩
  | k + 1 => by
    obtain ⟨ih0, ih1, ih2, ih3, ih4⟩ := sacristylaw10_Great.mono_l k
    refine ⟨?_, ?_, ?_, ?_, ?_⟩
    · intro y0 y1 y2 y3
      unfold sacristylaw10_Great.j1
      repeat' first
      | (with_reducible exact ih0 _ _ _ _)
      | (with_reducible exact ih1 _ _ _ _ _)
      | (with_reducible exact ih2 _ _ _ _ _ _)
      | (with_reducible exact ih3 _ _ _ _ _ _ _ _ _ _ _)
      | (with_reducible exact ih4 _ _ _ _ _)
      | (with_reducible exact sacristylaw09_Great.mono _ _)
      | (with_reducible exact LeO.refl _)
      | (with_reducible exact LeO.none _)
      | (with_reducible refine LeO.ite ?_ ?_)
      | (with_reducible refine LeO.bind ?_ (fun _ => ?_))
      | exact ih0 _ _ _ _
      | exact ih1 _ _ _ _ _
      | exact ih2 _ _ _ _ _ _
      | exact ih3 _ _ _ _ _ _ _ _ _ _ _
      | exact ih4 _ _ _ _ _
      | exact sacristylaw09_Great.mono _ _
      | exact LeO.none _
      | refine LeO.ite ?_ ?_
      | refine LeO.bind ?_ (fun _ => ?_)
    · intro y0 y1 y2 y3 y4
      unfold sacristylaw10_Great.l1
      repeat' first
      | (with_reducible exact ih0 _ _ _ _)
      | (with_reducible exact ih1 _ _ _ _ _)
      | (with_reducible exact ih2 _ _ _ _ _ _)
      | (with_reducible exact ih3 _ _ _ _ _ _ _ _ _ _ _)
      | (with_reducible exact ih4 _ _ _ _ _)
      | (with_reducible exact sacristylaw09_Great.mono _ _)
      | (with_reducible exact LeO.refl _)
      | (with_reducible exact LeO.none _)
      | (with_reducible refine LeO.ite ?_ ?_)
      | (with_reducible refine LeO.bind ?_ (fun _ => ?_))
      | exact ih0 _ _ _ _
      | exact ih1 _ _ _ _ _
      | exact ih2 _ _ _ _ _ _
      | exact ih3 _ _ _ _ _ _ _ _ _ _ _
      | exact ih4 _ _ _ _ _
      | exact sacristylaw09_Great.mono _ _
      | exact LeO.none _
      | refine LeO.ite ?_ ?_
      | refine LeO.bind ?_ (fun _ => ?_)
    · intro y0 y1 y2 y3 y4 y5
      unfold sacristylaw10_Great.j3
      repeat' first
      | (with_reducible exact ih0 _ _ _ _)
      | (with_reducible exact ih1 _ _ _ _ _)
      | (with_reducible exact ih2 _ _ _ _ _ _)
      | (with_reducible exact ih3 _ _ _ _ _ _ _ _ _ _ _)
      | (with_reducible exact ih4 _ _ _ _ _)
      | (with_reducible exact sacristylaw09_Great.mono _ _)
      | (with_reducible exact LeO.refl _)
      | (with_reducible exact LeO.none _)
      | (with_reducible refine LeO.ite ?_ ?_)
      | (with_reducible refine LeO.bind ?_ (fun _ => ?_))
      | exact ih0 _ _ _ _
      | exact ih1 _ _ _ _ _
      | exact ih2 _ _ _ _ _ _
      | exact ih3 _ _ _ _ _ _ _ _ _ _ _
      | exact ih4 _ _ _ _ _
      | exact sacristylaw09_Great.mono _ _
      | exact LeO.none _
      | refine LeO.ite ?_ ?_
      | refine LeO.bind ?_ (fun _ => ?_)
    · intro y0 y1 y2 y3 y4 y5 y6 y7 y8 y9 y10
      unfold sacristylaw10_Great.l2
      repeat' first
      | (with_reducible exact ih0 _ _ _ _)
      | (with_reducible exact ih1 _ _ _ _ _)
      | (with_reducible exact ih2 _ _ _ _ _ _)
      | (with_reducible exact ih3 _ _ _ _ _ _ _ _ _ _ _)
      | (with_reducible exact ih4 _ _ _ _ _)
      | (with_reducible exact sacristylaw09_Great.mono _ _)
      | (with_reducible exact LeO.refl _)
      | (with_reducible exact LeO.none _)
      | (with_reducible refine LeO.ite ?_ ?_)
      | (with_reducible refine LeO.bind ?_ (fun _ => ?_))
      | exact ih0 _ _ _ _
      | exact ih1 _ _ _ _ _
      | exact ih2 _ _ _ _ _ _
      | exact ih3 _ _ _ _ _ _ _ _ _ _ _
      | exact ih4 _ _ _ _ _
      | exact sacristylaw09_Great.mono _ _
      | exact LeO.none _
      | refine LeO.ite ?_ ?_
      | refine LeO.bind ?_ (fun _ => ?_)
    · intro y0 y1 y2 y3 y4
      unfold sacristylaw10_Great.l0
      repeat' first
      | (with_reducible exact ih0 _ _ _ _)
      | (with_reducible exact ih1 _ _ _ _ _)
      | (with_reducible exact ih2 _ _ _ _ _ _)
      | (with_reducible exact ih3 _ _ _ _ _ _ _ _ _ _ _)
      | (with_reducible exact ih4 _ _ _ _ _)
      | (with_reducible exact sacristylaw09_Great.mono _ _)
      | (with_reducible exact LeO.refl _)
      | (with_reducible exact LeO.none _)
      | (with_reducible refine LeO.ite ?_ ?_)
      | (with_reducible refine LeO.bind ?_ (fun _ => ?_))
      | exact ih0 _ _ _ _
      | exact ih1 _ _ _ _ _
      | exact ih2 _ _ _ _ _ _
      | exact ih3 _ _ _ _ _ _ _ _ _ _ _
      | exact ih4 _ _ _ _ _
      | exact sacristylaw09_Great.mono _ _
      | exact LeO.none _
      | refine LeO.ite ?_ ?_
      | refine LeO.bind ?_ (fun _ => ?_)
theorem sacristylaw10_Great.mono : ∀ a0 a1 a2 k, LeO (sacristylaw10_Great.f k a0 a1 a2) (sacristylaw10_Great.f (k + 1) a0 a1 a2) := by
  intro a0 a1 a2 k
  obtain ⟨ih0, ih1, ih2, ih3, ih4⟩ := sacristylaw10_Great.mono_l k
  unfold sacristylaw10_Great.f
  repeat' first
      | (with_reducible exact ih0 _ _ _ _)
      | (with_reducible exact ih1 _ _ _ _ _)
      | (with_reducible exact ih2 _ _ _ _ _ _)
      | (with_reducible exact ih3 _ _ _ _ _ _ _ _ _ _ _)
      | (with_reducible exact ih4 _ _ _ _ _)
      | (with_reducible exact sacristylaw09_Great.mono _ _)
      | (with_reducible exact LeO.refl _)
      | (with_reducible exact LeO.none _)
      | (with_reducible refine LeO.ite ?_ ?_)
      | (with_reducible refine LeO.bind ?_ (fun _ => ?_))
      | exact ih0 _ _ _ _
      | exact ih1 _ _ _ _ _
      | exact ih2 _ _ _ _ _ _
      | exact ih3 _ _ _ _ _ _ _ _ _ _ _
      | exact ih4 _ _ _ _ _
      | exact sacristylaw09_Great.mono _ _
      | exact LeO.none _
      | refine LeO.ite ?_ ?_
      | refine LeO.bind ?_ (fun _ => ?_)
set_option maxHeartbeats 8000000 in
set_option maxRecDepth 100000 in
theorem sacristylaw10_Great.calls (k : Nat) (a0_0 : Int) (A0_1 : Option Addr) (c0_1 : Nat) (l0_1 : List ByteArray) (A0_2 : Option Addr) (c0_2 : Nat) (l0_2 : List (S40)) (r : Bool) (w : World) (hr0_1 : Kd.C Kd.string w A0_1 l0_1.length l0_1) (hc0_1 : l0_1.length ≤ c0_1) (hr0_2 : Kd.C k40 w A0_2 l0_2.length l0_2) (hc0_2 : l0_2.length ≤ c0_2) (h : sacristylaw10_Great.f k a0_0 l0_1 l0_2 = some r) :
    Calls Tryd.prog 9 #[.agg #[.int .i64 a0_0, .slice A0_1 l0_1.length c0_1, .slice A0_2 l0_2.length c0_2]] w fun e w' => e = .returned (.bool r) ∧ Below w.heap.size w w' := by
  have hu25 := Tryd.underlying25
  have hu40 := Tryd.underlying40
  have HR0_1 := Aside0.mk hr0_1
  have HC0_1 := Aside0.mk hc0_1
  clear hr0_1 hc0_1
  have HR0_2 := Aside0.mk hr0_2
  have HC0_2 := Aside0.mk hc0_2
  clear hr0_2 hc0_2
  have HB := Aside0.mk (Below.refl w.heap.size w)
  have H : (sacristylaw10_Great.l0 k (wrap64 ((l0_1.length : Int) + (l0_2.length : Int))) 0 a0_0 l0_1 l0_2) = some r := h
  clear h
  have HC2 := Aside0.mk H
  clear H
  go_enter Tryd.func9, Tryd.ntmps9
  go_upto_block 0 with (first | ((with_reducible refine gate_dst (N := 1) rfl ?_); (try (refine gate_guard (by rfl) ?_; dsimp only)); refine box_event ?hg (N := 1) ?hd (cs := #[.int .i64 a0_0, .slice A0_1 l0_1.length c0_1, .slice A0_2 l0_2.length c0_2]) (t := 25) ?hr ?_; (case hd => rfl); (case hg => rfl); (case hr => first | (go_simp; done) | (go_simp; rfl)); intro gb123 hg w3 hbox hb; have n0_ := Aside0.mk (below_step (by repeat (first | (with_reducible first | exact HB.out | apply below_alloc | apply pw_below_drewN | apply below_drew1) | exact HB.out)) hb); have n1_ := Aside0.mk (hbox); have n2_ := Aside0.mk ((by rw [hg]; exact (below_size (by repeat (first | (with_reducible first | exact HB.out | apply below_alloc | apply pw_below_drewN | apply below_drew1) | exact HB.out))) : w.heap.size ≤ gb123)); have n3_ := Aside0.mk ((by rw [hg]; exact (below_size (by repeat (first | (with_reducible first | exact HB.out | apply below_alloc | apply pw_below_drewN | apply below_drew1) | exact HB.out))) : w.heap.size ≤ gb123)); clear HB; have HB := n0_; have BK123 := n1_; have GW123 := n2_; have GE123 := n3_; clear n0_ n1_ n2_ n3_; clear hb hbox hg; have hcz4_0 : w3.cell? ⟨gb123, 0, none⟩ = some (.int .i64 a0_0) := (blk_cell BK123.out 0).trans rfl; have hcz4_1 : w3.cell? ⟨gb123, 1, none⟩ = some (.slice A0_1 l0_1.length c0_1) := (blk_cell BK123.out 1).trans rfl; have hcz4_2 : w3.cell? ⟨gb123, 2, none⟩ = some (.slice A0_2 l0_2.length c0_2) := (blk_cell BK123.out 2).trans rfl; have hfz4_0 := blk_frozen BK123.out 0; have hfz4_1 := blk_frozen BK123.out 1; have hfz4_2 := blk_frozen BK123.out 2))
  (try simp only [Act.put, List.setIfInBounds_toArray, List.set_cons_zero, List.set_cons_succ])
  go_cut [3] (fun v3 wc => ∃ (kq : Nat) (x3_1 : Int), v3 = .int .i64 x3_1 ∧ Aside0 (sacristylaw10_Great.j1 kq x3_1 a0_0 l0_1 l0_2 = some r) ∧ Aside0 (kq ≤ k) ∧ Aside0 (wc.heap[gb123]? = some (.cells #[.int .i64 a0_0, (.slice A0_1 l0_1.length c0_1), (.slice A0_2 l0_2.length c0_2)] 25 (0, 0))) ∧ Aside0 (Below w.heap.size w wc))
  case first =>
    have H := HC2.out
    clear HC2
    have H' := Aside0.mk H
    clear H
    go_wp2
    go_loopg [3, 4] k (fun kq v3 v4 w' => ∃ (x3_1 : Int) (x4_1 : Int), v3 = .int .i64 x3_1 ∧ v4 = .int .i64 x4_1 ∧ Aside0 (sacristylaw10_Great.l0 kq x3_1 x4_1 a0_0 l0_1 l0_2 = some r) ∧ Aside0 (kq ≤ k) ∧ Aside0 (w'.heap[gb123]? = some (.cells #[.int .i64 a0_0, (.slice A0_1 l0_1.length c0_1), (.slice A0_2 l0_2.length c0_2)] 25 (0, 0))) ∧ Aside0 (Below w.heap.size w w'))
    case atStart => exact ⟨(wrap64 ((l0_1.length : Int) + (l0_2.length : Int))), (0), (by first | rfl | (simp; done) | (simp [*]; done)), (by first | rfl | (simp; done) | (simp [*]; done)), H', ⟨Nat.le_refl _⟩, ⟨by (with_reducible repeat (first | refine blk_drewN ?_ _ | refine blk_drew ?_ | refine blk_alloc ?_ _)); exact BK123.out⟩, ⟨by repeat (first | (with_reducible first | exact HB.out | apply below_alloc | apply pw_below_drewN | apply below_drew1 | refine below_set ?_ GE123.out) | exact HB.out)⟩⟩
    case round =>
      clear H'
      try clear p2
      try clear hcz4_0
      try clear hcz4_1
      try clear hcz4_2
      try clear hfz4_0
      try clear hfz4_1
      try clear hfz4_2
      obtain ⟨x3_1, x4_1, rfl, rfl, HA, HK1, BK123, HB⟩ := hrel
      cases gk with
      | zero => exact absurd HA.out (by simp [sacristylaw10_Great.l0])
      | succ k1 =>
        have H := HA.out
        clear HA
        simp only [sacristylaw10_Great.l0] at H
        by_cases c5 : x4_1 < (l0_1.length : Int)
        · rw [if_pos c5] at H
          have c5b0 : decide (x4_1 < (l0_1.length : Int)) = true := decide_eq_true c5
          clear c5
          (first | rw [c5b0] | (simp only [i64_w, i32_w]; rw [c5b0]) | skip)
          by_cases c6 : x3_1 < 20000
          · rw [if_pos c6] at H
            have c6b0 : decide (x3_1 < 20000) = true := decide_eq_true c6
            clear c6
            by_cases c7 : 0 ≤ x4_1
            · rw [if_pos c7] at H
              have c7b0 : decide (0 ≤ x4_1) = true := decide_eq_true c7
              clear c7
              obtain ⟨ji8, hji8⟩ : ∃ j_ : Int, (mn ((rdOf ByteArray.empty l0_1 x4_1).size : Int) 20000) = j_ := ⟨_, rfl⟩
              replace H : (sacristylaw10_Great.l0 k1 (wrap64 (x3_1 + (ji8))) (wrap64 (x4_1 + 1)) a0_0 l0_1 l0_2) = some r := by first | (rw [hji8] at H; exact H) | (simp only [hji8] at H ⊢; exact H)
              have hji8_ : (if 20000 < ((rdOf ByteArray.empty l0_1 x4_1).size : Int) then 20000 else ((rdOf ByteArray.empty l0_1 x4_1).size : Int)) = ji8 := hji8
              have H' := Aside0.mk H
              clear H
              have hcz9_0 : wr.cell? ⟨gb123, 0, none⟩ = some (.int .i64 a0_0) := (blk_cell BK123.out 0).trans rfl
              have hcz9_1 : wr.cell? ⟨gb123, 1, none⟩ = some (.slice A0_1 l0_1.length c0_1) := (blk_cell BK123.out 1).trans rfl
              have hcz9_2 : wr.cell? ⟨gb123, 2, none⟩ = some (.slice A0_2 l0_2.length c0_2) := (blk_cell BK123.out 2).trans rfl
              have hfz9_0 := blk_frozen BK123.out 0
              have hfz9_1 := blk_frozen BK123.out 1
              have hfz9_2 := blk_frozen BK123.out 2
              have p124 : 0 ≤ (x4_1 : Int) := of_decide_eq_true (by first | (with_reducible assumption) | assumption)
              have q124 : x4_1 < (l0_1.length : Int) := of_decide_eq_true (by first | (with_reducible assumption) | assumption)
              obtain ⟨ad124, e124, hx124_0⟩ := Kd.at_string HR0_1.out x4_1 p124 q124
              cases e124
              replace hx124_0 := (HB.out.cell (World.block_lt_of_cell? w _ hx124_0)).trans hx124_0
              replace p124 := eq_true p124
              replace q124 := eq_true q124
              go_wp2
              go_roundg k1
              case measure => have := HK1.out; omega
              case rel => exact ⟨(wrap64 (x3_1 + (ji8))), (wrap64 (x4_1 + 1)), (by first | rfl | (simp; done) | (simp only [← hji8] <;> (first | rfl | simp)) | (simp [*]; done)), (by first | rfl | (simp; done) | (simp [*]; done)), H', ⟨by have := HK1.out; omega⟩, ⟨by (with_reducible repeat (first | refine blk_drewN ?_ _ | refine blk_drew ?_ | refine blk_alloc ?_ _)); exact BK123.out⟩, ⟨by repeat (first | (with_reducible first | exact HB.out | apply below_alloc | apply pw_below_drewN | apply below_drew1 | refine below_set ?_ GE123.out) | exact HB.out)⟩⟩
            · rw [if_neg c7] at H
              exact absurd H (by simp)
          · rw [if_neg c6] at H
            have c6b0 : decide (x3_1 < 20000) = false := decide_eq_false c6
            clear c6
            have H' := Aside0.mk H
            clear H
            have hcz10_0 : wr.cell? ⟨gb123, 0, none⟩ = some (.int .i64 a0_0) := (blk_cell BK123.out 0).trans rfl
            have hcz10_1 : wr.cell? ⟨gb123, 1, none⟩ = some (.slice A0_1 l0_1.length c0_1) := (blk_cell BK123.out 1).trans rfl
            have hcz10_2 : wr.cell? ⟨gb123, 2, none⟩ = some (.slice A0_2 l0_2.length c0_2) := (blk_cell BK123.out 2).trans rfl
            have hfz10_0 := blk_frozen BK123.out 0
            have hfz10_1 := blk_frozen BK123.out 1
            have hfz10_2 := blk_frozen BK123.out 2
            go_wp2
            go_meet
            case rel => exact ⟨_, (x3_1), (by first | rfl | (simp; done) | (simp [*]; done)), H', ⟨by have := HK1.out; first | omega | exact Nat.le_refl _⟩, ⟨by (with_reducible repeat (first | refine blk_drewN ?_ _ | refine blk_drew ?_ | refine blk_alloc ?_ _)); exact BK123.out⟩, ⟨by repeat (first | (with_reducible first | exact HB.out | apply below_alloc | apply pw_below_drewN | apply below_drew1 | refine below_set ?_ GE123.out) | exact HB.out)⟩⟩
        · rw [if_neg c5] at H
          have c5b0 : decide (x4_1 < (l0_1.length : Int)) = false := decide_eq_false c5
          clear c5
          (first | rw [c5b0] | (simp only [i64_w, i32_w]; rw [c5b0]) | skip)
          have H' := Aside0.mk H
          clear H
          have hcz11_0 : wr.cell? ⟨gb123, 0, none⟩ = some (.int .i64 a0_0) := (blk_cell BK123.out 0).trans rfl
          have hcz11_1 : wr.cell? ⟨gb123, 1, none⟩ = some (.slice A0_1 l0_1.length c0_1) := (blk_cell BK123.out 1).trans rfl
          have hcz11_2 : wr.cell? ⟨gb123, 2, none⟩ = some (.slice A0_2 l0_2.length c0_2) := (blk_cell BK123.out 2).trans rfl
          have hfz11_0 := blk_frozen BK123.out 0
          have hfz11_1 := blk_frozen BK123.out 1
          have hfz11_2 := blk_frozen BK123.out 2
          go_wp2
          go_meet
          case rel => exact ⟨_, (x3_1), (by first | rfl | (simp; done) | (simp [*]; done)), H', ⟨by have := HK1.out; first | omega | exact Nat.le_refl _⟩, ⟨by (with_reducible repeat (first | refine blk_drewN ?_ _ | refine blk_drew ?_ | refine blk_alloc ?_ _)); exact BK123.out⟩, ⟨by repeat (first | (with_reducible first | exact HB.out | apply below_alloc | apply pw_below_drewN | apply below_drew1 | refine below_set ?_ GE123.out) | exact HB.out)⟩⟩
  case rest =>
    clear HC2
    try clear p1
    try clear q1
    try clear hx1
    try clear p2
    try clear c5
    try clear c5b0
    try clear c6
    try clear c6b0
    try clear p6
    try clear c7
    try clear c7b0
    try clear c9
    try clear hcz10_0
    try clear hcz10_1
    try clear hcz10_2
    try clear hcz11_0
    try clear hcz11_1
    try clear hcz11_2
    try clear hcz4_0
    try clear hcz4_1
    try clear hcz4_2
    try clear hcz9_0
    try clear hcz9_1
    try clear hcz9_2
    try clear hfz10_0
    try clear hfz10_1
    try clear hfz10_2
    try clear hfz11_0
    try clear hfz11_1
    try clear hfz11_2
    try clear hfz4_0
    try clear hfz4_1
    try clear hfz4_2
    try clear hfz9_0
    try clear hfz9_1
    try clear hfz9_2
    try clear hx124_0
    try clear p124
    try clear p2
    try clear q124
    obtain ⟨kq, x3_1, rfl, HA, HJ1, BK123, HB⟩ := hcut
    cases kq with
    | zero => exact absurd HA.out (by simp [sacristylaw10_Great.j1])
    | succ kj1 =>
      have H := HA.out
      clear HA
      simp only [sacristylaw10_Great.j1] at H
      have H' := Aside0.mk H
      clear H
      go_wp2
      go_loopg [3, 5] kj1 (fun kq v3 v5 w' => ∃ (x3_2 : Int) (x5_2 : Int), v3 = .int .i64 x3_2 ∧ v5 = .int .i64 x5_2 ∧ Aside0 (sacristylaw10_Great.l1 kq x3_2 x5_2 a0_0 l0_1 l0_2 = some r) ∧ Aside0 (kq ≤ kj1) ∧ Aside0 (w'.heap[gb123]? = some (.cells #[.int .i64 a0_0, (.slice A0_1 l0_1.length c0_1), (.slice A0_2 l0_2.length c0_2)] 25 (0, 0))) ∧ Aside0 (Below w.heap.size w w'))
      case atStart => exact ⟨(x3_1), (0), (by first | rfl | (simp; done) | (simp [*]; done)), (by first | rfl | (simp; done) | (simp [*]; done)), H', ⟨Nat.le_refl _⟩, ⟨by (with_reducible repeat (first | refine blk_drewN ?_ _ | refine blk_drew ?_ | refine blk_alloc ?_ _)); exact BK123.out⟩, ⟨by repeat (first | (with_reducible first | exact HB.out | apply below_alloc | apply pw_below_drewN | apply below_drew1 | refine below_set ?_ GE123.out) | exact HB.out)⟩⟩
      case round =>
        clear H'
        try clear p1
        try clear q1
        try clear hx1
        try clear p2
        try clear c5
        try clear c5b0
        try clear c6
        try clear c6b0
        try clear p6
        try clear c7
        try clear c7b0
        try clear c9
        try clear hcz10_0
        try clear hcz10_1
        try clear hcz10_2
        try clear hcz11_0
        try clear hcz11_1
        try clear hcz11_2
        try clear hcz4_0
        try clear hcz4_1
        try clear hcz4_2
        try clear hcz9_0
        try clear hcz9_1
        try clear hcz9_2
        try clear hfz10_0
        try clear hfz10_1
        try clear hfz10_2
        try clear hfz11_0
        try clear hfz11_1
        try clear hfz11_2
        try clear hfz4_0
        try clear hfz4_1
        try clear hfz4_2
        try clear hfz9_0
        try clear hfz9_1
        try clear hfz9_2
        try clear hx124_0
        try clear p1
        try clear p124
        try clear p2
        try clear p6
        try clear q1
        try clear q124
        obtain ⟨x3_2, x5_2, rfl, rfl, HA, HK2, BK123, HB⟩ := hrel
        cases gk with
        | zero => exact absurd HA.out (by simp [sacristylaw10_Great.l1])
        | succ k2 =>
          have H := HA.out
          clear HA
          simp only [sacristylaw10_Great.l1] at H
          have HC12 := Aside0.mk H
          clear H
          go_upto_region 7 with (fail)
          go_cut [43] (fun v43 wc => ∃ (kq : Nat) (x43_11 : Bool), v43 = .bool x43_11 ∧ Aside0 (sacristylaw10_Great.j3 kq x3_2 x5_2 x43_11 a0_0 l0_1 l0_2 = some r) ∧ Aside0 (kq ≤ k2) ∧ Aside0 (wc.heap[gb123]? = some (.cells #[.int .i64 a0_0, (.slice A0_1 l0_1.length c0_1), (.slice A0_2 l0_2.length c0_2)] 25 (0, 0))) ∧ Aside0 (Below w.heap.size w wc))
          case first =>
            have H := HC12.out
            clear HC12
            by_cases c13 : x5_2 < (l0_2.length : Int)
            · rw [if_pos c13] at H
              have c13b0 : decide (x5_2 < (l0_2.length : Int)) = true := decide_eq_true c13
              clear c13
              (first | rw [c13b0] | (simp only [i64_w, i32_w]; rw [c13b0]) | skip)
              have H' := Aside0.mk H
              clear H
              have hcz14_0 : wr.cell? ⟨gb123, 0, none⟩ = some (.int .i64 a0_0) := (blk_cell BK123.out 0).trans rfl
              have hcz14_1 : wr.cell? ⟨gb123, 1, none⟩ = some (.slice A0_1 l0_1.length c0_1) := (blk_cell BK123.out 1).trans rfl
              have hcz14_2 : wr.cell? ⟨gb123, 2, none⟩ = some (.slice A0_2 l0_2.length c0_2) := (blk_cell BK123.out 2).trans rfl
              have hfz14_0 := blk_frozen BK123.out 0
              have hfz14_1 := blk_frozen BK123.out 1
              have hfz14_2 := blk_frozen BK123.out 2
              go_wp2
              go_meet
              case rel => exact ⟨_, (decide (x3_2 < 20000)), (by first | rfl | (simp; done) | (simp [*]; done)), H', ⟨by have := HJ1.out; have := HK2.out; first | omega | exact Nat.le_refl _⟩, ⟨by (with_reducible repeat (first | refine blk_drewN ?_ _ | refine blk_drew ?_ | refine blk_alloc ?_ _)); exact BK123.out⟩, ⟨by repeat (first | (with_reducible first | exact HB.out | apply below_alloc | apply pw_below_drewN | apply below_drew1 | refine below_set ?_ GE123.out) | exact HB.out)⟩⟩
            · rw [if_neg c13] at H
              have c13b0 : decide (x5_2 < (l0_2.length : Int)) = false := decide_eq_false c13
              clear c13
              (first | rw [c13b0] | (simp only [i64_w, i32_w]; rw [c13b0]) | skip)
              have H' := Aside0.mk H
              clear H
              have hcz15_0 : wr.cell? ⟨gb123, 0, none⟩ = some (.int .i64 a0_0) := (blk_cell BK123.out 0).trans rfl
              have hcz15_1 : wr.cell? ⟨gb123, 1, none⟩ = some (.slice A0_1 l0_1.length c0_1) := (blk_cell BK123.out 1).trans rfl
              have hcz15_2 : wr.cell? ⟨gb123, 2, none⟩ = some (.slice A0_2 l0_2.length c0_2) := (blk_cell BK123.out 2).trans rfl
              have hfz15_0 := blk_frozen BK123.out 0
              have hfz15_1 := blk_frozen BK123.out 1
              have hfz15_2 := blk_frozen BK123.out 2
              go_wp2
              go_meet
              case rel => exact ⟨_, (false), (by first | rfl | (simp; done) | (simp [*]; done)), H', ⟨by have := HJ1.out; have := HK2.out; first | omega | exact Nat.le_refl _⟩, ⟨by (with_reducible repeat (first | refine blk_drewN ?_ _ | refine blk_drew ?_ | refine blk_alloc ?_ _)); exact BK123.out⟩, ⟨by repeat (first | (with_reducible first | exact HB.out | apply below_alloc | apply pw_below_drewN | apply below_drew1 | refine below_set ?_ GE123.out) | exact HB.out)⟩⟩
          case rest =>
            clear HC12
            try clear c1
            try clear p1
            try clear q1
            try clear hx1
            try clear p2
            try clear c5
            try clear c5b0
            try clear c6
            try clear c6b0
            try clear p6
            try clear c7
            try clear c7b0
            try clear c9
            try clear p12
            try clear q12
            try clear hx12
            try clear c13
            try clear c13b0
            try clear hcz10_0
            try clear hcz10_1
            try clear hcz10_2
            try clear hcz11_0
            try clear hcz11_1
            try clear hcz11_2
            try clear hcz14_0
            try clear hcz14_1
            try clear hcz14_2
            try clear hcz15_0
            try clear hcz15_1
            try clear hcz15_2
            try clear hcz4_0
            try clear hcz4_1
            try clear hcz4_2
            try clear hcz9_0
            try clear hcz9_1
            try clear hcz9_2
            try clear hfz10_0
            try clear hfz10_1
            try clear hfz10_2
            try clear hfz11_0
            try clear hfz11_1
            try clear hfz11_2
            try clear hfz14_0
            try clear hfz14_1
            try clear hfz14_2
            try clear hfz15_0
            try clear hfz15_1
            try clear hfz15_2
            try clear hfz4_0
            try clear hfz4_1
            try clear hfz4_2
            try clear hfz9_0
            try clear hfz9_1
            try clear hfz9_2
            try clear hx124_0
            try clear p1
            try clear p124
            try clear p2
            try clear p6
            try clear q1
            try clear q124
            obtain ⟨kq, x43_11, rfl, HA, HJ11, BK123, HB⟩ := hcut
            cases kq with
            | zero => exact absurd HA.out (by simp [sacristylaw10_Great.j3])
            | succ kj11 =>
              have H := HA.out
              clear HA
              simp only [sacristylaw10_Great.j3] at H
              by_cases c16 : x43_11 = true
              · subst c16
                have H1 : (if 0 ≤ x5_2 then (if x5_2 < (l0_2.length : Int) then (sacristylaw10_Great.l2 kj11 (wrap64 ((wrap64 ((wrap64 ((wrap64 (x3_2 + 1)) + (mn (((rd_T40 l0_2 x5_2).f0).size : Int) 20000))) + (mn (((rd_T40 l0_2 x5_2).f2).size : Int) 20000))) + (((rd_T40 l0_2 x5_2).f4).length : Int))) x5_2 0 a0_0 l0_1 l0_2 ((rd_T40 l0_2 x5_2).f0) ((rd_T40 l0_2 x5_2).f1) ((rd_T40 l0_2 x5_2).f2) ((rd_T40 l0_2 x5_2).f3) ((rd_T40 l0_2 x5_2).f4)) else (none)) else (none)) = some r := by rw [if_pos rfl] at H; exact H
                clear H
                have H := H1
                clear H1
                by_cases c17 : 0 ≤ x5_2
                · rw [if_pos c17] at H
                  have c17b0 : decide (0 ≤ x5_2) = true := decide_eq_true c17
                  clear c17
                  by_cases c18 : x5_2 < (l0_2.length : Int)
                  · rw [if_pos c18] at H
                    have c18b0 : decide (x5_2 < (l0_2.length : Int)) = true := decide_eq_true c18
                    clear c18
                    obtain ⟨ji19, hji19⟩ : ∃ j_ : Int, (mn (((rd_T40 l0_2 x5_2).f0).size : Int) 20000) = j_ := ⟨_, rfl⟩
                    replace H : (sacristylaw10_Great.l2 kj11 (wrap64 ((wrap64 ((wrap64 ((wrap64 (x3_2 + 1)) + (ji19))) + (mn (((rd_T40 l0_2 x5_2).f2).size : Int) 20000))) + (((rd_T40 l0_2 x5_2).f4).length : Int))) x5_2 0 a0_0 l0_1 l0_2 ((rd_T40 l0_2 x5_2).f0) ((rd_T40 l0_2 x5_2).f1) ((rd_T40 l0_2 x5_2).f2) ((rd_T40 l0_2 x5_2).f3) ((rd_T40 l0_2 x5_2).f4)) = some r := by first | (rw [hji19] at H; exact H) | (simp only [hji19] at H ⊢; exact H)
                    have hji19_ : (if 20000 < (((rd_T40 l0_2 x5_2).f0).size : Int) then 20000 else (((rd_T40 l0_2 x5_2).f0).size : Int)) = ji19 := hji19
                    obtain ⟨ji20, hji20⟩ : ∃ j_ : Int, (mn (((rd_T40 l0_2 x5_2).f2).size : Int) 20000) = j_ := ⟨_, rfl⟩
                    replace H : (sacristylaw10_Great.l2 kj11 (wrap64 ((wrap64 ((wrap64 ((wrap64 (x3_2 + 1)) + (ji19))) + (ji20))) + (((rd_T40 l0_2 x5_2).f4).length : Int))) x5_2 0 a0_0 l0_1 l0_2 ((rd_T40 l0_2 x5_2).f0) ((rd_T40 l0_2 x5_2).f1) ((rd_T40 l0_2 x5_2).f2) ((rd_T40 l0_2 x5_2).f3) ((rd_T40 l0_2 x5_2).f4)) = some r := by first | (rw [hji20] at H; exact H) | (simp only [hji20] at H ⊢; exact H)
                    have hji20_ : (if 20000 < (((rd_T40 l0_2 x5_2).f2).size : Int) then 20000 else (((rd_T40 l0_2 x5_2).f2).size : Int)) = ji20 := hji20
                    have H' := Aside0.mk H
                    clear H
                    have hcz21_0 : wc.cell? ⟨gb123, 0, none⟩ = some (.int .i64 a0_0) := (blk_cell BK123.out 0).trans rfl
                    have hcz21_1 : wc.cell? ⟨gb123, 1, none⟩ = some (.slice A0_1 l0_1.length c0_1) := (blk_cell BK123.out 1).trans rfl
                    have hcz21_2 : wc.cell? ⟨gb123, 2, none⟩ = some (.slice A0_2 l0_2.length c0_2) := (blk_cell BK123.out 2).trans rfl
                    have hfz21_0 := blk_frozen BK123.out 0
                    have hfz21_1 := blk_frozen BK123.out 1
                    have hfz21_2 := blk_frozen BK123.out 2
                    have p125 : 0 ≤ (x5_2 : Int) := of_decide_eq_true (by first | (with_reducible assumption) | assumption)
                    have q125 : x5_2 < (l0_2.length : Int) := of_decide_eq_true (by first | (with_reducible assumption) | assumption)
                    obtain ⟨ad125, A125_3, c125_3, A125_4, c125_4, e125, hx125_0, hx125_1, hx125_2, hx125_3, hx125_4, hl125_3, hi125_3, hl125_4, hi125_4⟩ := at_T40 HR0_2.out x5_2 p125 q125
                    cases e125
                    replace hx125_0 := (HB.out.cell (World.block_lt_of_cell? w _ hx125_0)).trans hx125_0
                    replace hx125_1 := (HB.out.cell (World.block_lt_of_cell? w _ hx125_1)).trans hx125_1
                    replace hx125_2 := (HB.out.cell (World.block_lt_of_cell? w _ hx125_2)).trans hx125_2
                    replace hx125_3 := (HB.out.cell (World.block_lt_of_cell? w _ hx125_3)).trans hx125_3
                    replace hx125_4 := (HB.out.cell (World.block_lt_of_cell? w _ hx125_4)).trans hx125_4
                    have HR125_3 := Aside0.mk hi125_3
                    have HC125_3 := Aside0.mk hl125_3
                    clear hi125_3 hl125_3
                    have HR125_4 := Aside0.mk hi125_4
                    have HC125_4 := Aside0.mk hl125_4
                    clear hi125_4 hl125_4
                    replace p125 := eq_true p125
                    replace q125 := eq_true q125
                    go_wp2_with (first | ((with_reducible refine gate_dst (N := 6) rfl ?_); (try (refine gate_guard (by rfl) ?_; dsimp only)); refine box_event ?hg (N := 6) ?hd (cs := #[.string (⟨#[]⟩ : ByteArray), .bool false, .string (⟨#[]⟩ : ByteArray), .slice none 0 0, .slice none 0 0]) (t := 40) ?hr ?_; (case hd => rfl); (case hg => rfl); (case hr => first | (go_simp; done) | (go_simp; rfl)); intro gb126 hg w22 hbox hb; have n0_ := Aside0.mk (blk_below (g := gb123) (o := .cells #[.int .i64 a0_0, .slice A0_1 l0_1.length c0_1, .slice (some ad125) l0_2.length c0_2] 25 (0, 0)) (by (with_reducible repeat (first | refine blk_drewN ?_ _ | refine blk_drew ?_ | refine blk_alloc ?_ _)); exact BK123.out) hb); have n1_ := Aside0.mk (below_step (by repeat (first | (with_reducible first | exact HB.out | apply below_alloc | apply pw_below_drewN | apply below_drew1 | refine below_set ?_ GE123.out) | exact HB.out)) hb); have n2_ := Aside0.mk (hbox); have n3_ := Aside0.mk ((by rw [hg]; exact (below_size (by repeat (first | (with_reducible first | exact HB.out | apply below_alloc | apply pw_below_drewN | apply below_drew1 | refine below_set ?_ GE123.out) | exact HB.out))) : w.heap.size ≤ gb126)); have n4_ := Aside0.mk ((by rw [hg]; exact (below_size (by repeat (first | (with_reducible first | exact HB.out | apply below_alloc | apply pw_below_drewN | apply below_drew1 | refine below_set ?_ GE123.out) | exact HB.out))) : w.heap.size ≤ gb126)); have n5_ := Aside0.mk ((by rw [hg]; exact Nat.ne_of_lt (blk_lt (g := gb123) (o := .cells #[.int .i64 a0_0, .slice A0_1 l0_1.length c0_1, .slice (some ad125) l0_2.length c0_2] 25 (0, 0)) (by (with_reducible repeat (first | refine blk_drewN ?_ _ | refine blk_drew ?_ | refine blk_alloc ?_ _)); exact BK123.out)) : gb123 ≠ gb126)); have n6_ := Aside0.mk ((by rw [hg]; exact Nat.ne_of_gt (blk_lt (g := gb123) (o := .cells #[.int .i64 a0_0, .slice A0_1 l0_1.length c0_1, .slice (some ad125) l0_2.length c0_2] 25 (0, 0)) (by (with_reducible repeat (first | refine blk_drewN ?_ _ | refine blk_drew ?_ | refine blk_alloc ?_ _)); exact BK123.out)) : gb126 ≠ gb123)); clear BK123; clear HB; have BK123 := n0_; have HB := n1_; have BK126 := n2_; have GW126 := n3_; have GE126 := n4_; have NB123_126 := n5_; have NB126_123 := n6_; clear n0_ n1_ n2_ n3_ n4_ n5_ n6_; clear hb hbox hg; have hnb23 := NB126_123.out; have hnc23 := NB123_126.out; have hcz24_0 : w22.cell? ⟨gb126, 0, none⟩ = some (.string (⟨#[]⟩ : ByteArray)) := (blk_cell BK126.out 0).trans rfl; have hcz24_1 : w22.cell? ⟨gb126, 1, none⟩ = some (.bool false) := (blk_cell BK126.out 1).trans rfl; have hcz24_2 : w22.cell? ⟨gb126, 2, none⟩ = some (.string (⟨#[]⟩ : ByteArray)) := (blk_cell BK126.out 2).trans rfl; have hcz24_3 : w22.cell? ⟨gb126, 3, none⟩ = some (.slice none 0 0) := (blk_cell BK126.out 3).trans rfl; have hcz24_4 : w22.cell? ⟨gb126, 4, none⟩ = some (.slice none 0 0) := (blk_cell BK126.out 4).trans rfl; have hfz24_0 := blk_frozen BK126.out 0; have hfz24_1 := blk_frozen BK126.out 1; have hfz24_2 := blk_frozen BK126.out 2; have hfz24_3 := blk_frozen BK126.out 3; have hfz24_4 := blk_frozen BK126.out 4))
                    go_loopg [3, 7] kj11 (fun kq v3 v7 w' => ∃ (x3_4 : Int) (x7_4 : Int), v3 = .int .i64 x3_4 ∧ v7 = .int .i64 x7_4 ∧ Aside0 (sacristylaw10_Great.l2 kq x3_4 x5_2 x7_4 a0_0 l0_1 l0_2 ((rd_T40 l0_2 x5_2).f0) ((rd_T40 l0_2 x5_2).f1) ((rd_T40 l0_2 x5_2).f2) ((rd_T40 l0_2 x5_2).f3) ((rd_T40 l0_2 x5_2).f4) = some r) ∧ Aside0 (kq ≤ kj11) ∧ Aside0 (w'.heap[gb123]? = some (.cells #[.int .i64 a0_0, (.slice A0_1 l0_1.length c0_1), (.slice (some ad125) l0_2.length c0_2)] 25 (0, 0))) ∧ Aside0 (w'.heap[gb126]? = some (.cells #[.string ((rd_T40 l0_2 x5_2).f0), .bool ((rd_T40 l0_2 x5_2).f1), .string ((rd_T40 l0_2 x5_2).f2), (.slice A125_3 ((rd_T40 l0_2 x5_2).f3).length c125_3), (.slice A125_4 ((rd_T40 l0_2 x5_2).f4).length c125_4)] 40 (0, 0))) ∧ Aside0 (Below w.heap.size w w'))
                    case atStart => exact ⟨(wrap64 ((wrap64 ((wrap64 ((wrap64 (x3_2 + 1)) + (ji19))) + (ji20))) + (((rd_T40 l0_2 x5_2).f4).length : Int))), (0), (by first | rfl | (simp; done) | (simp only [← hji19, ← hji20] <;> (first | rfl | simp)) | (simp [*]; done)), (by first | rfl | (simp; done) | (simp [*]; done)), H', ⟨Nat.le_refl _⟩, ⟨by (with_reducible repeat (first | refine blk_drewN ?_ _ | refine blk_drew ?_ | refine blk_alloc ?_ _)); refine blk_far ?_ NB123_126.out _; (with_reducible repeat (first | refine blk_drewN ?_ _ | refine blk_drew ?_ | refine blk_alloc ?_ _)); refine blk_far ?_ NB123_126.out _; (with_reducible repeat (first | refine blk_drewN ?_ _ | refine blk_drew ?_ | refine blk_alloc ?_ _)); refine blk_far ?_ NB123_126.out _; (with_reducible repeat (first | refine blk_drewN ?_ _ | refine blk_drew ?_ | refine blk_alloc ?_ _)); refine blk_far ?_ NB123_126.out _; (with_reducible repeat (first | refine blk_drewN ?_ _ | refine blk_drew ?_ | refine blk_alloc ?_ _)); refine blk_far ?_ NB123_126.out _; (with_reducible repeat (first | refine blk_drewN ?_ _ | refine blk_drew ?_ | refine blk_alloc ?_ _)); exact BK123.out⟩, ⟨by (with_reducible repeat (first | refine blk_drewN ?_ _ | refine blk_drew ?_ | refine blk_alloc ?_ _)); refine blk_put (cs := #[.string ((rd_T40 l0_2 x5_2).f0), .bool ((rd_T40 l0_2 x5_2).f1), .string ((rd_T40 l0_2 x5_2).f2), .slice A125_3 ((rd_T40 l0_2 x5_2).f3).length c125_3, .slice none 0 0]) ?_ 4 _ rfl; (with_reducible repeat (first | refine blk_drewN ?_ _ | refine blk_drew ?_ | refine blk_alloc ?_ _)); refine blk_put (cs := #[.string ((rd_T40 l0_2 x5_2).f0), .bool ((rd_T40 l0_2 x5_2).f1), .string ((rd_T40 l0_2 x5_2).f2), .slice none 0 0, .slice none 0 0]) ?_ 3 _ rfl; (with_reducible repeat (first | refine blk_drewN ?_ _ | refine blk_drew ?_ | refine blk_alloc ?_ _)); refine blk_put (cs := #[.string ((rd_T40 l0_2 x5_2).f0), .bool ((rd_T40 l0_2 x5_2).f1), .string (⟨#[]⟩ : ByteArray), .slice none 0 0, .slice none 0 0]) ?_ 2 _ rfl; (with_reducible repeat (first | refine blk_drewN ?_ _ | refine blk_drew ?_ | refine blk_alloc ?_ _)); refine blk_put (cs := #[.string ((rd_T40 l0_2 x5_2).f0), .bool false, .string (⟨#[]⟩ : ByteArray), .slice none 0 0, .slice none 0 0]) ?_ 1 _ rfl; (with_reducible repeat (first | refine blk_drewN ?_ _ | refine blk_drew ?_ | refine blk_alloc ?_ _)); refine blk_put (cs := #[.string (⟨#[]⟩ : ByteArray), .bool false, .string (⟨#[]⟩ : ByteArray), .slice none 0 0, .slice none 0 0]) ?_ 0 _ rfl; (with_reducible repeat (first | refine blk_drewN ?_ _ | refine blk_drew ?_ | refine blk_alloc ?_ _)); exact BK126.out⟩, ⟨by repeat (first | (with_reducible first | exact HB.out | apply below_alloc | apply pw_below_drewN | apply below_drew1 | refine below_set ?_ GE123.out | refine below_set ?_ GE126.out) | exact HB.out)⟩⟩
                    case round =>
                      clear H'
                      try clear c1
                      try clear p1
                      try clear q1
                      try clear hx1
                      try clear c2
                      try clear p2
                      try clear c5
                      try clear c5b0
                      try clear c6
                      try clear c6b0
                      try clear p6
                      try clear c7
                      try clear c7b0
                      try clear c9
                      try clear c12
                      try clear p12
                      try clear q12
                      try clear hx12
                      try clear c13
                      try clear c13b0
                      try clear c16
                      try clear c17
                      try clear c17b0
                      try clear c18
                      try clear c18b0
                      try clear c23
                      try clear hcz10_0
                      try clear hcz10_1
                      try clear hcz10_2
                      try clear hcz11_0
                      try clear hcz11_1
                      try clear hcz11_2
                      try clear hcz14_0
                      try clear hcz14_1
                      try clear hcz14_2
                      try clear hcz15_0
                      try clear hcz15_1
                      try clear hcz15_2
                      try clear hcz21_0
                      try clear hcz21_1
                      try clear hcz21_2
                      try clear hcz24_0
                      try clear hcz24_1
                      try clear hcz24_2
                      try clear hcz24_3
                      try clear hcz24_4
                      try clear hcz4_0
                      try clear hcz4_1
                      try clear hcz4_2
                      try clear hcz9_0
                      try clear hcz9_1
                      try clear hcz9_2
                      try clear hfz10_0
                      try clear hfz10_1
                      try clear hfz10_2
                      try clear hfz11_0
                      try clear hfz11_1
                      try clear hfz11_2
                      try clear hfz14_0
                      try clear hfz14_1
                      try clear hfz14_2
                      try clear hfz15_0
                      try clear hfz15_1
                      try clear hfz15_2
                      try clear hfz21_0
                      try clear hfz21_1
                      try clear hfz21_2
                      try clear hfz24_0
                      try clear hfz24_1
                      try clear hfz24_2
                      try clear hfz24_3
                      try clear hfz24_4
                      try clear hfz4_0
                      try clear hfz4_1
                      try clear hfz4_2
                      try clear hfz9_0
                      try clear hfz9_1
                      try clear hfz9_2
                      try clear hx124_0
                      try clear hx125_0
                      try clear hx125_1
                      try clear hx125_2
                      try clear hx125_3
                      try clear hx125_4
                      try clear p1
                      try clear p12
                      try clear p124
                      try clear p125
                      try clear p2
                      try clear p6
                      try clear q1
                      try clear q12
                      try clear q124
                      try clear q125
                      obtain ⟨x3_4, x7_4, rfl, rfl, HA, HK4, BK123, BK126, HB⟩ := hrel
                      cases gk with
                      | zero => exact absurd HA.out (by simp [sacristylaw10_Great.l2])
                      | succ k4 =>
                        have H := HA.out
                        clear HA
                        simp only [sacristylaw10_Great.l2] at H
                        by_cases c25 : x7_4 < (((rd_T40 l0_2 x5_2).f4).length : Int)
                        · rw [if_pos c25] at H
                          have c25b0 : decide (x7_4 < (((rd_T40 l0_2 x5_2).f4).length : Int)) = true := decide_eq_true c25
                          clear c25
                          by_cases c26 : x3_4 < 20000
                          · rw [if_pos c26] at H
                            have c26b0 : decide (x3_4 < 20000) = true := decide_eq_true c26
                            clear c26
                            by_cases c27 : 0 ≤ x7_4
                            · rw [if_pos c27] at H
                              have c27b0 : decide (0 ≤ x7_4) = true := decide_eq_true c27
                              clear c27
                              obtain ⟨ji28, hji28⟩ : ∃ j_ : Int, (mn ((rdOf ByteArray.empty ((rd_T40 l0_2 x5_2).f4) x7_4).size : Int) 20000) = j_ := ⟨_, rfl⟩
                              replace H : (sacristylaw10_Great.l2 k4 (wrap64 (x3_4 + (ji28))) x5_2 (wrap64 (x7_4 + 1)) a0_0 l0_1 l0_2 ((rd_T40 l0_2 x5_2).f0) ((rd_T40 l0_2 x5_2).f1) ((rd_T40 l0_2 x5_2).f2) ((rd_T40 l0_2 x5_2).f3) ((rd_T40 l0_2 x5_2).f4)) = some r := by first | (rw [hji28] at H; exact H) | (simp only [hji28] at H ⊢; exact H)
                              have hji28_ : (if 20000 < ((rdOf ByteArray.empty ((rd_T40 l0_2 x5_2).f4) x7_4).size : Int) then 20000 else ((rdOf ByteArray.empty ((rd_T40 l0_2 x5_2).f4) x7_4).size : Int)) = ji28 := hji28
                              have H' := Aside0.mk H
                              clear H
                              have hnb29 := NB126_123.out
                              have hnc29 := NB123_126.out
                              have hcz30_0 : wr.cell? ⟨gb126, 0, none⟩ = some (.string ((rd_T40 l0_2 x5_2).f0)) := (blk_cell BK126.out 0).trans rfl
                              have hcz30_1 : wr.cell? ⟨gb126, 1, none⟩ = some (.bool ((rd_T40 l0_2 x5_2).f1)) := (blk_cell BK126.out 1).trans rfl
                              have hcz30_2 : wr.cell? ⟨gb126, 2, none⟩ = some (.string ((rd_T40 l0_2 x5_2).f2)) := (blk_cell BK126.out 2).trans rfl
                              have hcz30_3 : wr.cell? ⟨gb126, 3, none⟩ = some (.slice A125_3 ((rd_T40 l0_2 x5_2).f3).length c125_3) := (blk_cell BK126.out 3).trans rfl
                              have hcz30_4 : wr.cell? ⟨gb126, 4, none⟩ = some (.slice A125_4 ((rd_T40 l0_2 x5_2).f4).length c125_4) := (blk_cell BK126.out 4).trans rfl
                              have hfz30_0 := blk_frozen BK126.out 0
                              have hfz30_1 := blk_frozen BK126.out 1
                              have hfz30_2 := blk_frozen BK126.out 2
                              have hfz30_3 := blk_frozen BK126.out 3
                              have hfz30_4 := blk_frozen BK126.out 4
                              have p127 : 0 ≤ (x7_4 : Int) := of_decide_eq_true (by first | (with_reducible assumption) | assumption)
                              have q127 : x7_4 < (((rd_T40 l0_2 x5_2).f4).length : Int) := of_decide_eq_true (by first | (with_reducible assumption) | assumption)
                              obtain ⟨ad127, e127, hx127_0⟩ := Kd.at_string HR125_4.out x7_4 p127 q127
                              cases e127
                              replace hx127_0 := (HB.out.cell (World.block_lt_of_cell? w _ hx127_0)).trans hx127_0
                              replace p127 := eq_true p127
                              replace q127 := eq_true q127
                              go_wp2
                              go_roundg k4
                              case measure => have := HJ1.out; have := HK2.out; have := HJ11.out; have := HK4.out; omega
                              case rel => exact ⟨(wrap64 (x3_4 + (ji28))), (wrap64 (x7_4 + 1)), (by first | rfl | (simp; done) | (simp only [← hji28] <;> (first | rfl | simp)) | (simp [*]; done)), (by first | rfl | (simp; done) | (simp [*]; done)), H', ⟨by have := HJ1.out; have := HK2.out; have := HJ11.out; have := HK4.out; omega⟩, ⟨by (with_reducible repeat (first | refine blk_drewN ?_ _ | refine blk_drew ?_ | refine blk_alloc ?_ _)); exact BK123.out⟩, ⟨by (with_reducible repeat (first | refine blk_drewN ?_ _ | refine blk_drew ?_ | refine blk_alloc ?_ _)); exact BK126.out⟩, ⟨by repeat (first | (with_reducible first | exact HB.out | apply below_alloc | apply pw_below_drewN | apply below_drew1 | refine below_set ?_ GE123.out | refine below_set ?_ GE126.out) | exact HB.out)⟩⟩
                            · rw [if_neg c27] at H
                              exact absurd H (by simp)
                          · rw [if_neg c26] at H
                            have c26b0 : decide (x3_4 < 20000) = false := decide_eq_false c26
                            clear c26
                            replace H := Option.bind_eq_some_iff.mp H
                            obtain ⟨t128, A310, H⟩ := H
                            replace H : (if t128 = true then (some true) else (sacristylaw10_Great.l1 k4 x3_4 (wrap64 (x5_2 + 1)) a0_0 l0_1 l0_2)) = some r := H
                            have A31 := Aside0.mk A310
                            clear A310
                            by_cases c32 : t128 = true
                            · subst c32
                              have H1 : (some true) = some r := by rw [if_pos rfl] at H; exact H
                              clear H
                              have H := H1
                              clear H1
                              obtain rfl := Option.some.inj H
                              have hnb33 := NB126_123.out
                              have hnc33 := NB123_126.out
                              have hcz34_0 : wr.cell? ⟨gb126, 0, none⟩ = some (.string ((rd_T40 l0_2 x5_2).f0)) := (blk_cell BK126.out 0).trans rfl
                              have hcz34_1 : wr.cell? ⟨gb126, 1, none⟩ = some (.bool ((rd_T40 l0_2 x5_2).f1)) := (blk_cell BK126.out 1).trans rfl
                              have hcz34_2 : wr.cell? ⟨gb126, 2, none⟩ = some (.string ((rd_T40 l0_2 x5_2).f2)) := (blk_cell BK126.out 2).trans rfl
                              have hcz34_3 : wr.cell? ⟨gb126, 3, none⟩ = some (.slice A125_3 ((rd_T40 l0_2 x5_2).f3).length c125_3) := (blk_cell BK126.out 3).trans rfl
                              have hcz34_4 : wr.cell? ⟨gb126, 4, none⟩ = some (.slice A125_4 ((rd_T40 l0_2 x5_2).f4).length c125_4) := (blk_cell BK126.out 4).trans rfl
                              have hfz34_0 := blk_frozen BK126.out 0
                              have hfz34_1 := blk_frozen BK126.out 1
                              have hfz34_2 := blk_frozen BK126.out 2
                              have hfz34_3 := blk_frozen BK126.out 3
                              have hfz34_4 := blk_frozen BK126.out 4
                              go_wp2_with (first | ((with_reducible refine gate_callee (f := 16) rfl ?_); refine goesL_ (some 89) rfl rfl Tryd.func16 (by kernel_rfl) rfl #[.slice A125_3 ((rd_T40 l0_2 x5_2).f3).length c125_3] rfl (by (try simp only [List.map_toArray, List.map_cons, List.map_nil]); first | done | rfl | (simp only [List.length_drop, List.length_take]; rfl)) ?_; (with_reducible refine (sacristylaw09_Great.calls k4 _ _ ((rd_T40 l0_2 x5_2).f3) true _ ?side1 ?side2 A31.out).mono ?_); (case side1 => repeat (first | exact (Kd.C_below HR125_3.out HB.out) | (with_reducible refine Kd.C_alloc ?_ _) | (with_reducible refine Kd.C_drewN ?_ _) | (with_reducible refine Kd.C_drew ?_))); (case side2 => exact HC125_3.out); rintro e w35 ⟨rfl, hb⟩; refine ⟨_, rfl, ?_⟩; have n0_ := Aside0.mk (blk_below (g := gb123) (o := .cells #[.int .i64 a0_0, .slice A0_1 l0_1.length c0_1, .slice (some ad125) l0_2.length c0_2] 25 (0, 0)) (by (with_reducible repeat (first | refine blk_drewN ?_ _ | refine blk_drew ?_ | refine blk_alloc ?_ _)); exact BK123.out) hb); have n1_ := Aside0.mk (blk_below (g := gb126) (o := .cells #[.string ((rd_T40 l0_2 x5_2).f0), .bool ((rd_T40 l0_2 x5_2).f1), .string ((rd_T40 l0_2 x5_2).f2), .slice A125_3 ((rd_T40 l0_2 x5_2).f3).length c125_3, .slice A125_4 ((rd_T40 l0_2 x5_2).f4).length c125_4] 40 (0, 0)) (by (with_reducible repeat (first | refine blk_drewN ?_ _ | refine blk_drew ?_ | refine blk_alloc ?_ _)); exact BK126.out) hb); have n2_ := Aside0.mk (below_step (by repeat (first | (with_reducible first | exact HB.out | apply below_alloc | apply pw_below_drewN | apply below_drew1 | refine below_set ?_ GE123.out | refine below_set ?_ GE126.out) | exact HB.out)) hb); clear BK123; clear BK126; clear HB; have BK123 := n0_; have BK126 := n1_; have HB := n2_; clear n0_ n1_ n2_; (try clear hb); (try clear hb2); (try clear hk); (try clear hi)))
                              go_ret
                              exact ⟨by first | rfl | (simp [errW_none, errW_some] <;> rfl) | (simp only [← hji19, ← hji20]; first | rfl | (simp [errW_none, errW_some] <;> rfl)) | (simp [*, errW_none, errW_some] <;> rfl), by repeat (first | (with_reducible first | exact HB.out | apply below_alloc | apply pw_below_drewN | apply below_drew1 | refine below_set ?_ GE123.out | refine below_set ?_ GE126.out) | exact HB.out)⟩
                            · replace c32 := Bool.eq_false_iff.mpr c32
                              subst c32
                              have H1 : (sacristylaw10_Great.l1 k4 x3_4 (wrap64 (x5_2 + 1)) a0_0 l0_1 l0_2) = some r := by rw [if_neg (show ¬ (false = true) by decide)] at H; exact H
                              clear H
                              have H := H1
                              clear H1
                              have H' := Aside0.mk H
                              clear H
                              have hnb36 := NB126_123.out
                              have hnc36 := NB123_126.out
                              have hcz37_0 : wr.cell? ⟨gb126, 0, none⟩ = some (.string ((rd_T40 l0_2 x5_2).f0)) := (blk_cell BK126.out 0).trans rfl
                              have hcz37_1 : wr.cell? ⟨gb126, 1, none⟩ = some (.bool ((rd_T40 l0_2 x5_2).f1)) := (blk_cell BK126.out 1).trans rfl
                              have hcz37_2 : wr.cell? ⟨gb126, 2, none⟩ = some (.string ((rd_T40 l0_2 x5_2).f2)) := (blk_cell BK126.out 2).trans rfl
                              have hcz37_3 : wr.cell? ⟨gb126, 3, none⟩ = some (.slice A125_3 ((rd_T40 l0_2 x5_2).f3).length c125_3) := (blk_cell BK126.out 3).trans rfl
                              have hcz37_4 : wr.cell? ⟨gb126, 4, none⟩ = some (.slice A125_4 ((rd_T40 l0_2 x5_2).f4).length c125_4) := (blk_cell BK126.out 4).trans rfl
                              have hfz37_0 := blk_frozen BK126.out 0
                              have hfz37_1 := blk_frozen BK126.out 1
                              have hfz37_2 := blk_frozen BK126.out 2
                              have hfz37_3 := blk_frozen BK126.out 3
                              have hfz37_4 := blk_frozen BK126.out 4
                              go_wp2_with (first | ((with_reducible refine gate_callee (f := 16) rfl ?_); refine goesL_ (some 89) rfl rfl Tryd.func16 (by kernel_rfl) rfl #[.slice A125_3 ((rd_T40 l0_2 x5_2).f3).length c125_3] rfl (by (try simp only [List.map_toArray, List.map_cons, List.map_nil]); first | done | rfl | (simp only [List.length_drop, List.length_take]; rfl)) ?_; (with_reducible refine (sacristylaw09_Great.calls k4 _ _ ((rd_T40 l0_2 x5_2).f3) false _ ?side1 ?side2 A31.out).mono ?_); (case side1 => repeat (first | exact (Kd.C_below HR125_3.out HB.out) | (with_reducible refine Kd.C_alloc ?_ _) | (with_reducible refine Kd.C_drewN ?_ _) | (with_reducible refine Kd.C_drew ?_))); (case side2 => exact HC125_3.out); rintro e w38 ⟨rfl, hb⟩; refine ⟨_, rfl, ?_⟩; have n0_ := Aside0.mk (blk_below (g := gb123) (o := .cells #[.int .i64 a0_0, .slice A0_1 l0_1.length c0_1, .slice (some ad125) l0_2.length c0_2] 25 (0, 0)) (by (with_reducible repeat (first | refine blk_drewN ?_ _ | refine blk_drew ?_ | refine blk_alloc ?_ _)); exact BK123.out) hb); have n1_ := Aside0.mk (blk_below (g := gb126) (o := .cells #[.string ((rd_T40 l0_2 x5_2).f0), .bool ((rd_T40 l0_2 x5_2).f1), .string ((rd_T40 l0_2 x5_2).f2), .slice A125_3 ((rd_T40 l0_2 x5_2).f3).length c125_3, .slice A125_4 ((rd_T40 l0_2 x5_2).f4).length c125_4] 40 (0, 0)) (by (with_reducible repeat (first | refine blk_drewN ?_ _ | refine blk_drew ?_ | refine blk_alloc ?_ _)); exact BK126.out) hb); have n2_ := Aside0.mk (below_step (by repeat (first | (with_reducible first | exact HB.out | apply below_alloc | apply pw_below_drewN | apply below_drew1 | refine below_set ?_ GE123.out | refine below_set ?_ GE126.out) | exact HB.out)) hb); clear BK123; clear BK126; clear HB; have BK123 := n0_; have BK126 := n1_; have HB := n2_; clear n0_ n1_ n2_; (try clear hb); (try clear hb2); (try clear hk); (try clear hi)))
                              go_roundg k4
                              case measure => have := HJ1.out; have := HK2.out; have := HJ11.out; have := HK4.out; omega
                              case rel => exact ⟨(x3_4), (wrap64 (x5_2 + 1)), (by first | rfl | (simp; done) | (simp [*]; done)), (by first | rfl | (simp; done) | (simp [*]; done)), H', ⟨by have := HJ1.out; have := HK2.out; have := HJ11.out; have := HK4.out; omega⟩, ⟨by (with_reducible repeat (first | refine blk_drewN ?_ _ | refine blk_drew ?_ | refine blk_alloc ?_ _)); exact BK123.out⟩, ⟨by repeat (first | (with_reducible first | exact HB.out | apply below_alloc | apply pw_below_drewN | apply below_drew1 | refine below_set ?_ GE123.out | refine below_set ?_ GE126.out) | exact HB.out)⟩⟩
                        · rw [if_neg c25] at H
                          have c25b0 : decide (x7_4 < (((rd_T40 l0_2 x5_2).f4).length : Int)) = false := decide_eq_false c25
                          clear c25
                          replace H := Option.bind_eq_some_iff.mp H
                          obtain ⟨t129, A390, H⟩ := H
                          replace H : (if t129 = true then (some true) else (sacristylaw10_Great.l1 k4 x3_4 (wrap64 (x5_2 + 1)) a0_0 l0_1 l0_2)) = some r := H
                          have A39 := Aside0.mk A390
                          clear A390
                          by_cases c40 : t129 = true
                          · subst c40
                            have H1 : (some true) = some r := by rw [if_pos rfl] at H; exact H
                            clear H
                            have H := H1
                            clear H1
                            obtain rfl := Option.some.inj H
                            have hnb41 := NB126_123.out
                            have hnc41 := NB123_126.out
                            have hcz42_0 : wr.cell? ⟨gb126, 0, none⟩ = some (.string ((rd_T40 l0_2 x5_2).f0)) := (blk_cell BK126.out 0).trans rfl
                            have hcz42_1 : wr.cell? ⟨gb126, 1, none⟩ = some (.bool ((rd_T40 l0_2 x5_2).f1)) := (blk_cell BK126.out 1).trans rfl
                            have hcz42_2 : wr.cell? ⟨gb126, 2, none⟩ = some (.string ((rd_T40 l0_2 x5_2).f2)) := (blk_cell BK126.out 2).trans rfl
                            have hcz42_3 : wr.cell? ⟨gb126, 3, none⟩ = some (.slice A125_3 ((rd_T40 l0_2 x5_2).f3).length c125_3) := (blk_cell BK126.out 3).trans rfl
                            have hcz42_4 : wr.cell? ⟨gb126, 4, none⟩ = some (.slice A125_4 ((rd_T40 l0_2 x5_2).f4).length c125_4) := (blk_cell BK126.out 4).trans rfl
                            have hfz42_0 := blk_frozen BK126.out 0
                            have hfz42_1 := blk_frozen BK126.out 1
                            have hfz42_2 := blk_frozen BK126.out 2
                            have hfz42_3 := blk_frozen BK126.out 3
                            have hfz42_4 := blk_frozen BK126.out 4
                            go_wp2_with (first | ((with_reducible refine gate_callee (f := 16) rfl ?_); refine goesL_ (some 89) rfl rfl Tryd.func16 (by kernel_rfl) rfl #[.slice A125_3 ((rd_T40 l0_2 x5_2).f3).length c125_3] rfl (by (try simp only [List.map_toArray, List.map_cons, List.map_nil]); first | done | rfl | (simp only [List.length_drop, List.length_take]; rfl)) ?_; (with_reducible refine (sacristylaw09_Great.calls k4 _ _ ((rd_T40 l0_2 x5_2).f3) true _ ?side1 ?side2 A39.out).mono ?_); (case side1 => repeat (first | exact (Kd.C_below HR125_3.out HB.out) | (with_reducible refine Kd.C_alloc ?_ _) | (with_reducible refine Kd.C_drewN ?_ _) | (with_reducible refine Kd.C_drew ?_))); (case side2 => exact HC125_3.out); rintro e w43 ⟨rfl, hb⟩; refine ⟨_, rfl, ?_⟩; have n0_ := Aside0.mk (blk_below (g := gb123) (o := .cells #[.int .i64 a0_0, .slice A0_1 l0_1.length c0_1, .slice (some ad125) l0_2.length c0_2] 25 (0, 0)) (by (with_reducible repeat (first | refine blk_drewN ?_ _ | refine blk_drew ?_ | refine blk_alloc ?_ _)); exact BK123.out) hb); have n1_ := Aside0.mk (blk_below (g := gb126) (o := .cells #[.string ((rd_T40 l0_2 x5_2).f0), .bool ((rd_T40 l0_2 x5_2).f1), .string ((rd_T40 l0_2 x5_2).f2), .slice A125_3 ((rd_T40 l0_2 x5_2).f3).length c125_3, .slice A125_4 ((rd_T40 l0_2 x5_2).f4).length c125_4] 40 (0, 0)) (by (with_reducible repeat (first | refine blk_drewN ?_ _ | refine blk_drew ?_ | refine blk_alloc ?_ _)); exact BK126.out) hb); have n2_ := Aside0.mk (below_step (by repeat (first | (with_reducible first | exact HB.out | apply below_alloc | apply pw_below_drewN | apply below_drew1 | refine below_set ?_ GE123.out | refine below_set ?_ GE126.out) | exact HB.out)) hb); clear BK123; clear BK126; clear HB; have BK123 := n0_; have BK126 := n1_; have HB := n2_; clear n0_ n1_ n2_; (try clear hb); (try clear hb2); (try clear hk); (try clear hi)))
                            go_ret
                            exact ⟨by first | rfl | (simp [errW_none, errW_some] <;> rfl) | (simp only [← hji19, ← hji20]; first | rfl | (simp [errW_none, errW_some] <;> rfl)) | (simp [*, errW_none, errW_some] <;> rfl), by repeat (first | (with_reducible first | exact HB.out | apply below_alloc | apply pw_below_drewN | apply below_drew1 | refine below_set ?_ GE123.out | refine below_set ?_ GE126.out) | exact HB.out)⟩
                          · replace c40 := Bool.eq_false_iff.mpr c40
                            subst c40
                            have H1 : (sacristylaw10_Great.l1 k4 x3_4 (wrap64 (x5_2 + 1)) a0_0 l0_1 l0_2) = some r := by rw [if_neg (show ¬ (false = true) by decide)] at H; exact H
                            clear H
                            have H := H1
                            clear H1
                            have H' := Aside0.mk H
                            clear H
                            have hnb44 := NB126_123.out
                            have hnc44 := NB123_126.out
                            have hcz45_0 : wr.cell? ⟨gb126, 0, none⟩ = some (.string ((rd_T40 l0_2 x5_2).f0)) := (blk_cell BK126.out 0).trans rfl
                            have hcz45_1 : wr.cell? ⟨gb126, 1, none⟩ = some (.bool ((rd_T40 l0_2 x5_2).f1)) := (blk_cell BK126.out 1).trans rfl
                            have hcz45_2 : wr.cell? ⟨gb126, 2, none⟩ = some (.string ((rd_T40 l0_2 x5_2).f2)) := (blk_cell BK126.out 2).trans rfl
                            have hcz45_3 : wr.cell? ⟨gb126, 3, none⟩ = some (.slice A125_3 ((rd_T40 l0_2 x5_2).f3).length c125_3) := (blk_cell BK126.out 3).trans rfl
                            have hcz45_4 : wr.cell? ⟨gb126, 4, none⟩ = some (.slice A125_4 ((rd_T40 l0_2 x5_2).f4).length c125_4) := (blk_cell BK126.out 4).trans rfl
                            have hfz45_0 := blk_frozen BK126.out 0
                            have hfz45_1 := blk_frozen BK126.out 1
                            have hfz45_2 := blk_frozen BK126.out 2
                            have hfz45_3 := blk_frozen BK126.out 3
                            have hfz45_4 := blk_frozen BK126.out 4
                            go_wp2_with (first | ((with_reducible refine gate_callee (f := 16) rfl ?_); refine goesL_ (some 89) rfl rfl Tryd.func16 (by kernel_rfl) rfl #[.slice A125_3 ((rd_T40 l0_2 x5_2).f3).length c125_3] rfl (by (try simp only [List.map_toArray, List.map_cons, List.map_nil]); first | done | rfl | (simp only [List.length_drop, List.length_take]; rfl)) ?_; (with_reducible refine (sacristylaw09_Great.calls k4 _ _ ((rd_T40 l0_2 x5_2).f3) false _ ?side1 ?side2 A39.out).mono ?_); (case side1 => repeat (first | exact (Kd.C_below HR125_3.out HB.out) | (with_reducible refine Kd.C_alloc ?_ _) | (with_reducible refine Kd.C_drewN ?_ _) | (with_reducible refine Kd.C_drew ?_))); (case side2 => exact HC125_3.out); rintro e w46 ⟨rfl, hb⟩; refine ⟨_, rfl, ?_⟩; have n0_ := Aside0.mk (blk_below (g := gb123) (o := .cells #[.int .i64 a0_0, .slice A0_1 l0_1.length c0_1, .slice (some ad125) l0_2.length c0_2] 25 (0, 0)) (by (with_reducible repeat (first | refine blk_drewN ?_ _ | refine blk_drew ?_ | refine blk_alloc ?_ _)); exact BK123.out) hb); have n1_ := Aside0.mk (blk_below (g := gb126) (o := .cells #[.string ((rd_T40 l0_2 x5_2).f0), .bool ((rd_T40 l0_2 x5_2).f1), .string ((rd_T40 l0_2 x5_2).f2), .slice A125_3 ((rd_T40 l0_2 x5_2).f3).length c125_3, .slice A125_4 ((rd_T40 l0_2 x5_2).f4).length c125_4] 40 (0, 0)) (by (with_reducible repeat (first | refine blk_drewN ?_ _ | refine blk_drew ?_ | refine blk_alloc ?_ _)); exact BK126.out) hb); have n2_ := Aside0.mk (below_step (by repeat (first | (with_reducible first | exact HB.out | apply below_alloc | apply pw_below_drewN | apply below_drew1 | refine below_set ?_ GE123.out | refine below_set ?_ GE126.out) | exact HB.out)) hb); clear BK123; clear BK126; clear HB; have BK123 := n0_; have BK126 := n1_; have HB := n2_; clear n0_ n1_ n2_; (try clear hb); (try clear hb2); (try clear hk); (try clear hi)))
                            go_roundg k4
                            case measure => have := HJ1.out; have := HK2.out; have := HJ11.out; have := HK4.out; omega
                            case rel => exact ⟨(x3_4), (wrap64 (x5_2 + 1)), (by first | rfl | (simp; done) | (simp [*]; done)), (by first | rfl | (simp; done) | (simp [*]; done)), H', ⟨by have := HJ1.out; have := HK2.out; have := HJ11.out; have := HK4.out; omega⟩, ⟨by (with_reducible repeat (first | refine blk_drewN ?_ _ | refine blk_drew ?_ | refine blk_alloc ?_ _)); exact BK123.out⟩, ⟨by repeat (first | (with_reducible first | exact HB.out | apply below_alloc | apply pw_below_drewN | apply below_drew1 | refine below_set ?_ GE123.out | refine below_set ?_ GE126.out) | exact HB.out)⟩⟩
                  · rw [if_neg c18] at H
                    exact absurd H (by simp)
                · rw [if_neg c17] at H
                  exact absurd H (by simp)
              · replace c16 := Bool.eq_false_iff.mpr c16
                subst c16
                have H1 : (if x3_2 ≥ 20000 then (some true) else (some (decide ((l0_2.length : Int) > 40)))) = some r := by rw [if_neg (show ¬ (false = true) by decide)] at H; exact H
                clear H
                have H := H1
                clear H1
                by_cases c47 : x3_2 ≥ 20000
                · rw [if_pos c47] at H
                  have c47b0 : decide (20000 ≤ x3_2) = true := decide_eq_true c47
                  clear c47
                  obtain rfl := Option.some.inj H
                  go_wp2
                  go_ret
                  exact ⟨by first | rfl | (simp [errW_none, errW_some] <;> rfl) | (simp [*, errW_none, errW_some] <;> rfl), by repeat (first | (with_reducible first | exact HB.out | apply below_alloc | apply pw_below_drewN | apply below_drew1 | refine below_set ?_ GE123.out) | exact HB.out)⟩
                · rw [if_neg c47] at H
                  have c47b0 : decide (20000 ≤ x3_2) = false := decide_eq_false c47
                  clear c47
                  obtain rfl := Option.some.inj H
                  have hcz48_0 : wc.cell? ⟨gb123, 0, none⟩ = some (.int .i64 a0_0) := (blk_cell BK123.out 0).trans rfl
                  have hcz48_1 : wc.cell? ⟨gb123, 1, none⟩ = some (.slice A0_1 l0_1.length c0_1) := (blk_cell BK123.out 1).trans rfl
                  have hcz48_2 : wc.cell? ⟨gb123, 2, none⟩ = some (.slice A0_2 l0_2.length c0_2) := (blk_cell BK123.out 2).trans rfl
                  have hfz48_0 := blk_frozen BK123.out 0
                  have hfz48_1 := blk_frozen BK123.out 1
                  have hfz48_2 := blk_frozen BK123.out 2
                  go_wp2
                  go_ret
                  exact ⟨by first | rfl | (simp [errW_none, errW_some] <;> rfl) | (simp [*, errW_none, errW_some] <;> rfl), by repeat (first | (with_reducible first | exact HB.out | apply below_alloc | apply pw_below_drewN | apply below_drew1 | refine below_set ?_ GE123.out) | exact HB.out)⟩

end Go.Proofs.YtgmddlbbmlneaaaDoor.PR

/- What the measure of a root answers: it always does, and where it says no the root is small. -/
namespace Go.Proofs.YtgmddlbbmlneaaaDoor.PR
open Go.RowKit Go.Proofs.YtgmddlbbmlneaaaDoorW.PrintWords Go.Proofs.YtgmddlbbmlneaaaDoorW.PrintLast Go.Proofs.YtgmddlbbmlneaaaDoorW.PrintMore
set_option linter.unusedVariables false

theorem up_mono {α : Type} {g : Nat → Option α} (h : ∀ k, LeO (g k) (g (k + 1))) {k m : Nat} (hk : k ≤ m) {r : α} (hr : g k = some r) : g m = some r := by
  induction m with
  | zero => obtain rfl : k = 0 := by omega
            exact hr
  | succ m ih =>
    by_cases e : k = m + 1
    · subst e; exact hr
    · exact h m r (ih (by omega))
def smallRefG (x : S76) : Prop := x.f0.size < 20000 ∧ x.f1.size < 20000
def smallForkG (x : S40) : Prop := x.f0.size < 20000 ∧ x.f2.size < 20000 ∧ x.f4.length < 20000 ∧ (∀ y ∈ x.f4, y.size < 20000) ∧ x.f3.length ≤ 100 ∧ ∀ y ∈ x.f3, smallRefG y
def smallRoot (l1 : List ByteArray) (l2 : List S40) : Prop := l1.length < 20000 ∧ (∀ y ∈ l1, y.size < 20000) ∧ l2.length ≤ 40 ∧ ∀ x ∈ l2, smallForkG x

theorem mn_range (n : Nat) : 0 ≤ mn (n : Int) 20000 ∧ mn (n : Int) 20000 ≤ 20000 ∧ (mn (n : Int) 20000 < 20000 → n < 20000) := by
  unfold mn; split <;> omega
theorem wrap_in (x : Int) (h0 : -9223372036854775808 ≤ x) (h1 : x ≤ 9223372036854775807) : wrap64 x = x := IntWalk.wrap64_in x ⟨h0, h1⟩
theorem drop_get {α : Type} (l : List α) (i : Nat) (h : i < l.length) (z : α) : l.drop i = l.getD i z :: l.drop (i + 1) := by
  rw [List.drop_eq_getElem_cons h]
  simp [h]
theorem great9_go (l : List S76) (hl : l.length ≤ 140737488351232) : ∀ (d i : Nat) (x3 : Int), i + d = l.length → 0 ≤ x3 → x3 ≤ 140737488351232 + 20000 →
    ∃ k r, sacristylaw09_Great.l0 k l x3 (i : Int) = some r ∧ (r = false → x3 < 20000 ∧ l.length ≤ 100 ∧ ∀ y ∈ l.drop i, smallRefG y) := by
  intro d
  induction d with
  | zero =>
    intro i x3 hi h0 h1
    refine ⟨1, ?_⟩
    rw [sacristylaw09_Great.l0, if_neg (by omega)]
    by_cases c : x3 ≥ 20000
    · rw [if_pos c]; exact ⟨true, rfl, fun h => by cases h⟩
    · rw [if_neg c]
      refine ⟨_, rfl, fun h => ?_⟩
      rw [decide_eq_false_iff_not] at h
      exact ⟨by omega, by omega, fun y hy => by rw [List.drop_of_length_le (by omega)] at hy; cases hy⟩
  | succ d ih =>
    intro i x3 hi h0 h1
    by_cases c : x3 < 20000
    · have m0 := mn_range (rd_T76 l (i : Int)).f0.size
      have m1 := mn_range (rd_T76 l (i : Int)).f1.size
      obtain ⟨k, r, hr, hq⟩ := ih (i + 1) (x3 + mn ((rd_T76 l (i : Int)).f0.size : Int) 20000 + mn ((rd_T76 l (i : Int)).f1.size : Int) 20000) (by omega) (by omega) (by omega)
      refine ⟨k + 1, r, ?_, fun h => ?_⟩
      · have w1 : wrap64 (x3 + mn ((rd_T76 l (i : Int)).f0.size : Int) 20000) = x3 + mn ((rd_T76 l (i : Int)).f0.size : Int) 20000 := wrap_in _ (by omega) (by omega)
        have w2 : wrap64 (x3 + mn ((rd_T76 l (i : Int)).f0.size : Int) 20000 + mn ((rd_T76 l (i : Int)).f1.size : Int) 20000) = x3 + mn ((rd_T76 l (i : Int)).f0.size : Int) 20000 + mn ((rd_T76 l (i : Int)).f1.size : Int) 20000 := wrap_in _ (by omega) (by omega)
        rw [sacristylaw09_Great.l0, if_pos (by omega), if_pos c, if_pos (by omega), w1, w2, wrap_in ((i : Int) + 1) (by omega) (by omega)]
        exact hr
      · obtain ⟨q1, q2, q3⟩ := hq h
        refine ⟨c, q2, fun y hy => ?_⟩
        rw [drop_get l i (by omega) z76] at hy
        rcases List.mem_cons.1 hy with rfl | hy
        · have e : l.getD i z76 = rd_T76 l (i : Int) := by rw [rd_T76, Int.toNat_natCast]
          rw [e]
          exact ⟨m0.2.2 (by omega), m1.2.2 (by omega)⟩
        · exact q3 y hy
    · refine ⟨1, true, ?_, fun h => by cases h⟩
      rw [sacristylaw09_Great.l0, if_pos (by omega), if_neg c, if_pos (by omega)]
theorem great9_ok (l : List S76) (hl : l.length ≤ 140737488351232) : ∃ k r, sacristylaw09_Great.f k l = some r ∧ (r = false → l.length ≤ 100 ∧ ∀ y ∈ l, smallRefG y) := by
  obtain ⟨k, r, h, hq⟩ := great9_go l hl l.length 0 (l.length : Int) (by omega) (by omega) (by omega)
  exact ⟨k, r, h, fun e => ⟨(hq e).2.1, by have := (hq e).2.2; rwa [List.drop_zero] at this⟩⟩

theorem great10_mono_l1 (x3 x5 a : Int) (l1 : List ByteArray) (l2 : List S40) (k : Nat) : LeO (sacristylaw10_Great.l1 k x3 x5 a l1 l2) (sacristylaw10_Great.l1 (k + 1) x3 x5 a l1 l2) := (sacristylaw10_Great.mono_l k).2.1 _ _ _ _ _
theorem great10_packs (a : Int) (l1 : List ByteArray) (l2 : List S40) (f0 : ByteArray) (f1 : Bool) (f2 : ByteArray) (f3 : List S76) (f4 : List ByteArray) (h3 : f3.length ≤ 140737488351232) (h4 : f4.length ≤ 140737488351232) (i : Nat) (hi : (i : Int) ≤ 140737488351232)
    (Q : Int → Prop) (hQ : ∀ x y : Int, 0 ≤ x → x ≤ y → Q y → Q x)
    (next : ∀ x3 : Int, 0 ≤ x3 → x3 ≤ 140737488351232 + 200000 → ∃ k r, sacristylaw10_Great.l1 k x3 ((i : Int) + 1) a l1 l2 = some r ∧ (r = false → x3 < 20000 ∧ Q x3)) :
    ∀ (d j : Nat) (x3 : Int), j + d = f4.length → 0 ≤ x3 → x3 ≤ 140737488351232 + 100000 →
    ∃ k r, sacristylaw10_Great.l2 k x3 (i : Int) (j : Int) a l1 l2 f0 f1 f2 f3 f4 = some r ∧ (r = false → x3 < 20000 ∧ Q x3 ∧ (∀ y ∈ f4.drop j, y.size < 20000) ∧ f3.length ≤ 100 ∧ ∀ y ∈ f3, smallRefG y) := by
  have fin : ∀ (j : Nat) (x3 : Int), 0 ≤ x3 → x3 ≤ 140737488351232 + 100000 → (j = f4.length ∨ ¬ x3 < 20000) → j ≤ f4.length →
      ∃ k r, sacristylaw10_Great.l2 k x3 (i : Int) (j : Int) a l1 l2 f0 f1 f2 f3 f4 = some r ∧ (r = false → x3 < 20000 ∧ Q x3 ∧ (∀ y ∈ f4.drop j, y.size < 20000) ∧ f3.length ≤ 100 ∧ ∀ y ∈ f3, smallRefG y) := by
    intro j x3 h0 h1 hj hjl
    obtain ⟨k1, r1, e1, q1⟩ := great9_ok f3 h3
    obtain ⟨k2, r2, e2, q2⟩ := next x3 h0 (by omega)
    have u1 : sacristylaw09_Great.f (max k1 k2) f3 = some r1 := up_mono (fun k => sacristylaw09_Great.mono f3 k) (Nat.le_max_left _ _) e1
    have u2 : sacristylaw10_Great.l1 (max k1 k2) x3 ((i : Int) + 1) a l1 l2 = some r2 := up_mono (fun k => great10_mono_l1 _ _ _ _ _ k) (Nat.le_max_right _ _) e2
    have key : ∃ r, ((sacristylaw09_Great.f (max k1 k2) f3).bind fun t128 => (if t128 = true then (some true) else (sacristylaw10_Great.l1 (max k1 k2) x3 (wrap64 ((i : Int) + 1)) a l1 l2))) = some r ∧ (r = false → r1 = false ∧ r2 = false) := by
      rw [wrap_in _ (by omega) (by omega), u1, u2]
      cases r1 with
      | true => exact ⟨true, rfl, fun h => by cases h⟩
      | false => exact ⟨r2, rfl, fun h => ⟨rfl, h⟩⟩
    obtain ⟨r, hr, hrq⟩ := key
    refine ⟨max k1 k2 + 1, r, ?_, fun h => ?_⟩
    · rw [sacristylaw10_Great.l2]
      by_cases c : (j : Int) < (f4.length : Int)
      · rw [if_pos c, if_neg (by omega)]; exact hr
      · rw [if_neg c]; exact hr
    · obtain ⟨b1, b2⟩ := hrq h
      obtain ⟨z1, z2⟩ := q2 b2
      refine ⟨z1, z2, fun y hy => ?_, (q1 b1).1, (q1 b1).2⟩
      rw [List.drop_of_length_le (by omega)] at hy; cases hy
  intro d
  induction d with
  | zero => intro j x3 hj h0 h1; exact fin j x3 h0 h1 (.inl (by omega)) (by omega)
  | succ d ih =>
    intro j x3 hj h0 h1
    by_cases c : x3 < 20000
    · have m0 := mn_range (rdOf ByteArray.empty f4 (j : Int)).size
      obtain ⟨k, r, hr, hq⟩ := ih (j + 1) (x3 + mn ((rdOf ByteArray.empty f4 (j : Int)).size : Int) 20000) (by omega) (by omega) (by omega)
      refine ⟨k + 1, r, ?_, fun h => ?_⟩
      · rw [sacristylaw10_Great.l2, if_pos (by omega), if_pos c, if_pos (by omega), wrap_in _ (by omega) (by omega), wrap_in _ (by omega) (by omega)]
        exact hr
      · obtain ⟨q1, q2, q3, q4⟩ := hq h
        refine ⟨c, hQ _ _ h0 (by omega) q2, fun y hy => ?_, q4⟩
        rw [drop_get f4 j (by omega) ByteArray.empty] at hy
        rcases List.mem_cons.1 hy with rfl | hy
        · have e : f4.getD j ByteArray.empty = rdOf ByteArray.empty f4 (j : Int) := by rw [rdOf, Int.toNat_natCast]
          rw [e]
          exact m0.2.2 (by omega)
        · exact q3 y hy
    · exact fin j x3 h0 h1 (.inr c) (by omega)
def okFkG (x : S40) : Prop := x.f3.length ≤ 140737488351232 ∧ x.f4.length ≤ 140737488351232
theorem great10_forks (a : Int) (l1 : List ByteArray) (l2 : List S40) (hl : l2.length ≤ 140737488351232) (hf : ∀ x ∈ l2, okFkG x) : ∀ (d i : Nat) (x3 : Int), i + d = l2.length → 0 ≤ x3 → x3 ≤ 140737488351232 + 200000 →
    ∃ k r, sacristylaw10_Great.l1 k x3 (i : Int) a l1 l2 = some r ∧ (r = false → x3 < 20000 ∧ l2.length ≤ 40 ∧ ∀ x ∈ l2.drop i, smallForkG x) := by
  intro d
  induction d with
  | zero =>
    intro i x3 hi h0 h1
    refine ⟨2, ?_⟩
    rw [sacristylaw10_Great.l1, if_neg (by omega), sacristylaw10_Great.j3, if_neg (by simp)]
    by_cases c : x3 ≥ 20000
    · rw [if_pos c]; exact ⟨true, rfl, fun h => by cases h⟩
    · rw [if_neg c]
      refine ⟨_, rfl, fun h => ?_⟩
      rw [decide_eq_false_iff_not] at h
      exact ⟨by omega, by omega, fun y hy => by rw [List.drop_of_length_le (by omega)] at hy; cases hy⟩
  | succ d ih =>
    intro i x3 hi h0 h1
    by_cases c : x3 < 20000
    · have hx : rd_T40 l2 (i : Int) ∈ l2 := by
        rw [rd_T40, Int.toNat_natCast]
        have : i < l2.length := by omega
        simp [this]
      obtain ⟨o3, o4⟩ := hf _ hx
      have m0 := mn_range (rd_T40 l2 (i : Int)).f0.size
      have m2 := mn_range (rd_T40 l2 (i : Int)).f2.size
      obtain ⟨k, r, hr, hq⟩ := great10_packs a l1 l2 (rd_T40 l2 (i : Int)).f0 (rd_T40 l2 (i : Int)).f1 (rd_T40 l2 (i : Int)).f2 (rd_T40 l2 (i : Int)).f3 (rd_T40 l2 (i : Int)).f4 o3 o4 i (by omega)
        (fun _ => l2.length ≤ 40 ∧ ∀ x ∈ l2.drop (i + 1), smallForkG x) (fun _ _ _ _ h => h)
        (fun y h0 h1 => ih (i + 1) y (by omega) h0 h1) (rd_T40 l2 (i : Int)).f4.length 0
        (x3 + 1 + mn ((rd_T40 l2 (i : Int)).f0.size : Int) 20000 + mn ((rd_T40 l2 (i : Int)).f2.size : Int) 20000 + ((rd_T40 l2 (i : Int)).f4.length : Int)) (by omega) (by omega) (by omega)
      refine ⟨k + 2, r, ?_, fun h => ?_⟩
      · have w1 : wrap64 (x3 + 1) = x3 + 1 := wrap_in _ (by omega) (by omega)
        have w2 : wrap64 (x3 + 1 + mn ((rd_T40 l2 (i : Int)).f0.size : Int) 20000) = x3 + 1 + mn ((rd_T40 l2 (i : Int)).f0.size : Int) 20000 := wrap_in _ (by omega) (by omega)
        have w3 : wrap64 (x3 + 1 + mn ((rd_T40 l2 (i : Int)).f0.size : Int) 20000 + mn ((rd_T40 l2 (i : Int)).f2.size : Int) 20000) = x3 + 1 + mn ((rd_T40 l2 (i : Int)).f0.size : Int) 20000 + mn ((rd_T40 l2 (i : Int)).f2.size : Int) 20000 := wrap_in _ (by omega) (by omega)
        have w4 : wrap64 (x3 + 1 + mn ((rd_T40 l2 (i : Int)).f0.size : Int) 20000 + mn ((rd_T40 l2 (i : Int)).f2.size : Int) 20000 + ((rd_T40 l2 (i : Int)).f4.length : Int)) = x3 + 1 + mn ((rd_T40 l2 (i : Int)).f0.size : Int) 20000 + mn ((rd_T40 l2 (i : Int)).f2.size : Int) 20000 + ((rd_T40 l2 (i : Int)).f4.length : Int) := wrap_in _ (by omega) (by omega)
        rw [sacristylaw10_Great.l1, if_pos (by omega), sacristylaw10_Great.j3, if_pos (by simpa using c), if_pos (by omega), if_pos (by omega), w1, w2, w3, w4]
        exact hr
      · obtain ⟨q1, ⟨q2, q3⟩, q4, q5, q6⟩ := hq h
        refine ⟨c, q2, fun y hy => ?_⟩
        rw [drop_get l2 i (by omega) z40] at hy
        rcases List.mem_cons.1 hy with rfl | hy
        · have e : l2.getD i z40 = rd_T40 l2 (i : Int) := by rw [rd_T40, Int.toNat_natCast]
          rw [e]
          rw [List.drop_zero] at q4
          exact ⟨m0.2.2 (by omega), m2.2.2 (by omega), by omega, q4, q5, q6⟩
        · exact q3 y hy
    · refine ⟨2, true, ?_, fun h => by cases h⟩
      rw [sacristylaw10_Great.l1, if_pos (by omega), sacristylaw10_Great.j3, if_neg (by simpa using c), if_pos (by omega)]
theorem great10_pool (a : Int) (l1 : List ByteArray) (l2 : List S40) (h1l : l1.length ≤ 140737488351232) (hl : l2.length ≤ 140737488351232) (hf : ∀ x ∈ l2, okFkG x) : ∀ (d i : Nat) (x3 : Int), i + d = l1.length → 0 ≤ x3 → x3 ≤ 281474976710656 →
    ∃ k r, sacristylaw10_Great.l0 k x3 (i : Int) a l1 l2 = some r ∧ (r = false → x3 < 20000 ∧ (∀ y ∈ l1.drop i, y.size < 20000) ∧ l2.length ≤ 40 ∧ ∀ x ∈ l2, smallForkG x) := by
  have fin : ∀ (i : Nat) (x3 : Int), 0 ≤ x3 → x3 ≤ 281474976710656 → (i = l1.length ∨ ¬ x3 < 20000) →
      ∃ k r, sacristylaw10_Great.l0 k x3 (i : Int) a l1 l2 = some r ∧ (r = false → x3 < 20000 ∧ (∀ y ∈ l1.drop i, y.size < 20000) ∧ l2.length ≤ 40 ∧ ∀ x ∈ l2, smallForkG x) := by
    intro i x3 h0 h1 hi
    have main : ∃ k r, sacristylaw10_Great.j1 k x3 a l1 l2 = some r ∧ (r = false → x3 < 20000 ∧ l2.length ≤ 40 ∧ ∀ x ∈ l2, smallForkG x) := by
      by_cases c : x3 < 20000
      · obtain ⟨k, r, hr, hq⟩ := great10_forks a l1 l2 hl hf l2.length 0 x3 (by omega) h0 (by omega)
        refine ⟨k + 1, r, ?_, fun h => ?_⟩
        · rw [sacristylaw10_Great.j1]; exact hr
        · have := hq h; rw [List.drop_zero] at this; exact this
      · refine ⟨3, true, ?_, fun h => by cases h⟩
        rw [sacristylaw10_Great.j1, sacristylaw10_Great.l1]
        split
        · rw [sacristylaw10_Great.j3, if_neg (by simpa using c), if_pos (by omega)]
        · rw [sacristylaw10_Great.j3, if_neg (by simp), if_pos (by omega)]
    obtain ⟨k, r, hr, hq⟩ := main
    refine ⟨k + 1, r, ?_, fun h => ?_⟩
    · rw [sacristylaw10_Great.l0]
      by_cases c : (i : Int) < (l1.length : Int)
      · rw [if_pos c, if_neg (by omega)]; exact hr
      · rw [if_neg c]; exact hr
    · obtain ⟨q1, q2, q3⟩ := hq h
      refine ⟨q1, fun y hy => ?_, q2, q3⟩
      rw [List.drop_of_length_le (by omega)] at hy; cases hy
  intro d
  induction d with
  | zero => intro i x3 hi h0 h1; exact fin i x3 h0 h1 (.inl (by omega))
  | succ d ih =>
    intro i x3 hi h0 h1
    by_cases c : x3 < 20000
    · have m0 := mn_range (rdOf ByteArray.empty l1 (i : Int)).size
      obtain ⟨k, r, hr, hq⟩ := ih (i + 1) (x3 + mn ((rdOf ByteArray.empty l1 (i : Int)).size : Int) 20000) (by omega) (by omega) (by omega)
      refine ⟨k + 1, r, ?_, fun h => ?_⟩
      · rw [sacristylaw10_Great.l0, if_pos (by omega), if_pos c, if_pos (by omega), wrap_in _ (by omega) (by omega), wrap_in _ (by omega) (by omega)]
        exact hr
      · obtain ⟨q1, q2, q3⟩ := hq h
        refine ⟨c, fun y hy => ?_, q3⟩
        rw [drop_get l1 i (by omega) ByteArray.empty] at hy
        rcases List.mem_cons.1 hy with rfl | hy
        · have e : l1.getD i ByteArray.empty = rdOf ByteArray.empty l1 (i : Int) := by rw [rdOf, Int.toNat_natCast]
          rw [e]
          exact m0.2.2 (by omega)
        · exact q2 y hy
    · exact fin i x3 h0 h1 (.inr c)
theorem great10_ok (a : Int) (l1 : List ByteArray) (l2 : List S40) (h1l : l1.length ≤ 140737488351232) (hl : l2.length ≤ 140737488351232) (hf : ∀ x ∈ l2, okFkG x) :
    ∃ k r, sacristylaw10_Great.f k a l1 l2 = some r ∧ (r = false → smallRoot l1 l2) := by
  obtain ⟨k, r, hr, hq⟩ := great10_pool a l1 l2 h1l hl hf l1.length 0 ((l1.length : Int) + (l2.length : Int)) (by omega) (by omega) (by omega)
  refine ⟨k, r, ?_, fun h => ?_⟩
  · rw [sacristylaw10_Great.f, wrap_in _ (by omega) (by omega)]; exact hr
  · obtain ⟨q1, q2, q3, q4⟩ := hq h
    rw [List.drop_zero] at q2
    exact ⟨by omega, q2, q3, q4⟩
theorem small_ok {l1 : List ByteArray} {l2 : List S40} (h : smallRoot l1 l2) : okRoot l1 l2 = true := by
  obtain ⟨h1, h2, h3, h4⟩ := h
  simp only [okRoot, Bool.and_eq_true, List.all_eq_true, decide_eq_true_eq]
  refine ⟨⟨fun y hy => ?_, by omega⟩, fun x hx => ?_⟩
  · have := h2 y hy; simp only [okS, decide_eq_true_eq]; omega
  · obtain ⟨a1, a2, a3, a4, a5, a6⟩ := h4 x hx
    simp only [okFork, okS, Bool.and_eq_true, List.all_eq_true, decide_eq_true_eq]
    refine ⟨⟨⟨⟨by omega, by omega⟩, fun y hy => ?_⟩, fun y hy => ?_⟩, by omega⟩
    · obtain ⟨b1, b2⟩ := a6 y hy
      simp only [okRef, Bool.and_eq_true, decide_eq_true_eq]; omega
    · have := a4 y hy; omega
end Go.Proofs.YtgmddlbbmlneaaaDoor.PR

/- A root that comes in; what the laws of roots call. -/
namespace Go.Proofs.YtgmddlbbmlneaaaDoor.PR
open Go.RowKit Go.Shelf Go.Proofs.YtgmddlbbmlneaaaDoorW.PrintWords Go.Proofs.YtgmddlbbmlneaaaDoorW.PrintLast Go.Proofs.YtgmddlbbmlneaaaDoorW.PrintMore
set_option linter.unusedVariables false

structure RootIn (w : World) (a : Int) (A1 : Option Addr) (c1 : Nat) (l1 : List ByteArray) (A2 : Option Addr) (c2 : Nat) (l2 : List S40) : Prop where
  r1 : Kd.C Kd.string w A1 l1.length l1
  h1 : l1.length ≤ c1
  r2 : Kd.C k40 w A2 l2.length l2
  h2 : l2.length ≤ c2
  n1 : l1.length ≤ 140737488351232
  n2 : l2.length ≤ 140737488351232
  nf : ∀ x ∈ l2, okFkG x
theorem RootIn.below {w W : World} {a : Int} {A1 : Option Addr} {c1 : Nat} {l1 : List ByteArray} {A2 : Option Addr} {c2 : Nat} {l2 : List S40} (h : RootIn w a A1 c1 l1 A2 c2 l2) (hb : Below w.heap.size w W) : RootIn W a A1 c1 l1 A2 c2 l2 :=
  ⟨Kd.C_below h.r1 hb, h.h1, Kd.C_below h.r2 hb, h.h2, h.n1, h.n2, h.nf⟩
theorem ret_yes {b : Bool} (h : b = true) : Ending.returned (.bool b) = .returned (.bool true) := by rw [h]
theorem not_t {b : Bool} (h : (!b) = true) : b = false := by simpa using h
theorem not_f {b : Bool} (h : (!b) = false) : b = true := by simpa using h
abbrev rootV (a : Int) (A1 : Option Addr) (n1 c1 : Nat) (A2 : Option Addr) (n2 c2 : Nat) : Value := .agg #[.int .i64 a, .slice A1 n1 c1, .slice A2 n2 c2]


theorem RootIn.great {w W : World} {a : Int} {A1 : Option Addr} {c1 : Nat} {l1 : List ByteArray} {A2 : Option Addr} {c2 : Nat} {l2 : List S40} (h : RootIn w a A1 c1 l1 A2 c2 l2) (hb : Below w.heap.size w W) {k : Nat} {g : Bool} (hg : sacristylaw10_Great.f k a l1 l2 = some g) :
    Calls Tryd.prog 9 #[.agg #[.int .i64 a, .slice A1 l1.length c1, .slice A2 l2.length c2]] W fun e w' => e = .returned (.bool g) ∧ Below W.heap.size W w' :=
  sacristylaw10_Great.calls k a A1 c1 l1 A2 c2 l2 g W (h.below hb).r1 h.h1 (h.below hb).r2 h.h2 hg
theorem RootIn.right {w W : World} {a : Int} {A1 : Option Addr} {c1 : Nat} {l1 : List ByteArray} {A2 : Option Addr} {c2 : Nat} {l2 : List S40} (h : RootIn w a A1 c1 l1 A2 c2 l2) (hG : Gl w) (hb : Below w.heap.size w W) (hok : okRoot l1 l2 = true) :
    Calls Tryd.prog 11 #[.agg #[.int .i64 a, .slice A1 l1.length c1, .slice A2 l2.length c2]] W fun e w' => e = .returned (.bool (rootB a l1 l2)) ∧ Below W.heap.size W w' :=
  root_Right.calls a A1 c1 l1 A2 c2 l2 _ W (Gl_below hG hb) (h.below hb).r1 h.h1 (h.below hb).r2 h.h2 (by rw [root_Right.f, if_pos hok])
theorem RootIn.putNo {w W : World} {a : Int} {A1 : Option Addr} {c1 : Nat} {l1 : List ByteArray} {A2 : Option Addr} {c2 : Nat} {l2 : List S40} (h : RootIn w a A1 c1 l1 A2 c2 l2) (hG : Gl w) (hb : Below w.heap.size w W) (hok : okRoot l1 l2 = true) (hn : rootB a l1 l2 = false) :
    Calls Tryd.prog 10 #[.agg #[.int .i64 a, .slice A1 l1.length c1, .slice A2 l2.length c2]] W fun e w' => ∃ v0_ : Value, e = .returned (.tuple #[v0_, .bool false]) ∧ Kd.V (Kd.int .u8) 5 w' W.heap.size (fun k_ => (W.heap.size ≤ k_)) v0_ [] ∧ Below W.heap.size W w' :=
  root_Put.calls a A1 c1 l1 A2 c2 l2 [] false W (Gl_below hG hb) (h.below hb).r1 h.h1 (h.below hb).r2 h.h2 (by rw [root_Put.f, if_pos hok, if_neg (by rw [hn]; simp)])
theorem RootIn.putYes {w W : World} {a : Int} {A1 : Option Addr} {c1 : Nat} {l1 : List ByteArray} {A2 : Option Addr} {c2 : Nat} {l2 : List S40} (h : RootIn w a A1 c1 l1 A2 c2 l2) (hG : Gl w) (hb : Below w.heap.size w W) (hy : rootB a l1 l2 = true) :
    Calls Tryd.prog 10 #[.agg #[.int .i64 a, .slice A1 l1.length c1, .slice A2 l2.length c2]] W fun e w' => ∃ v0_ : Value, e = .returned (.tuple #[v0_, .bool true]) ∧ Kd.V (Kd.int .u8) 5 w' W.heap.size (fun k_ => (W.heap.size ≤ k_)) v0_ (intsOf (rootText a l1 l2)) ∧ Below W.heap.size W w' :=
  root_Put.calls a A1 c1 l1 A2 c2 l2 _ true W (Gl_below hG hb) (h.below hb).r1 h.h1 (h.below hb).r2 h.h2 (by rw [root_Put.f, if_pos (rootB_ok hy), if_pos hy])
theorem head_calls {w W : World} (hG : Gl w) (hb : Below w.heap.size w W) : Calls Tryd.prog 8 #[] W fun e w' => e = .returned (.bool true) ∧ Below W.heap.size W w' := sacristylaw10_head.calls true W (Gl_below hG hb) rfl
end Go.Proofs.YtgmddlbbmlneaaaDoor.PR

/- An argument that is a root, or a row of texts, opened: what it reads as, in the words of the walks. -/
namespace Go.Proofs.YtgmddlbbmlneaaaDoor.PR
open Go.RowKit Go.ChangeShapes Go.WideShapes Go.Deep Go.Joins Go.Proofs.YtgmddlbbmlneaaaDoorW.PrintWords
set_option linter.unusedVariables false
section
variable {H : Type} {enc : TypeId × Value → H} {P : Program} {w : World} {base : Nat} {held : Bool}

theorem weightsAll_mem {e : TypeId} : ∀ {l : List (DataW H)} {d : DataW H}, d ∈ l → ∀ n ∈ d.weights P e, n ∈ DataW.weightsAll P e l
  | x :: l, d, h, n, hn => by
    rw [DataW.weightsAll]
    rcases List.mem_cons.1 h with rfl | h
    · exact List.mem_append_left _ hn
    · exact List.mem_append_right _ (weightsAll_mem h n hn)
def Light (P : Program) (t : TypeId) (d : DataW H) : Prop := ∀ n ∈ d.weights P t, n ≤ 140737488351232
theorem slice_open {α : Type} {d : Kd α} {good : α → Prop} {t e : TypeId} {B : Nat} (ht : P.underlying t = some (.slice e)) (hC : P.cellsOf e = d.sz) (hB : P.bytesOf e = B)
    (hE : ∀ (n : Nat) (cs : List Value) (x : DataW H × List MemPlace), cs.length = d.sz → DataW.trod enc P w base (fun _ => true) held n e cs = some x → Light P e x.1 → ∃ y : α, d.K w y cs ∧ good y)
    {fuel : Nat} {cs : List Value} {x : DataW H × List MemPlace} (h : DataW.trod enc P w base (fun _ => true) held fuel t cs = some x) (hw : Light P t x.1) :
    ∃ (A : Option Addr) (l : List α) (c : Nat), cs = [.slice A l.length c] ∧ l.length ≤ c ∧ d.C w A l.length l ∧ (∀ y ∈ l, good y) ∧ l.length * B ≤ 140737488351232 := by
  rcases open_slice ht h with ⟨rfl, rfl⟩ | ⟨a, len, cap, m, n, D, Pl, rfl, hb, hl, hm, hmm, rfl, hi⟩
  · exact ⟨none, [], 0, rfl, Nat.le_refl _, Kd.C_nil _ _, fun _ h => (by cases h), by simp⟩
  · simp only [if_true] at hmm
    subst hmm
    have hlight : ∀ i, i < len → Light P e (D i) := by
      intro i hi' k hk
      apply hw
      rw [DataW.weights, ht]
      refine List.mem_cons_of_mem _ (List.mem_append_left _ (weightsAll_mem (d := D i) ?_ k hk))
      exact List.mem_map.2 ⟨i, List.mem_range.2 hi', rfl⟩
    have hlen : m * B ≤ 140737488351232 := by
      apply hw
      rw [DataW.weights, ht]
      dsimp only
      rw [hB]
      refine List.mem_cons.2 (.inl ?_)
      simp only [List.length_map, List.length_range]
      try rw [show len + (m - len) = m by omega]
    have key : ∀ i, i < len → ∃ y : α, good y ∧ ∃ c, c.length = d.sz ∧ d.K w y c ∧ ∀ j u, c[j]? = some u → w.cell? (a.add (i * d.sz + j)) = some u := by
      intro i hi'
      obtain ⟨cs', h1, h2⟩ := hi i (by omega)
      rw [hC] at h1
      obtain ⟨_, hcl, hat⟩ := World.cells?_some h1
      obtain ⟨y, hy, hg⟩ := hE n cs' _ hcl h2 (hlight i hi')
      refine ⟨y, hg, cs', hcl, hy, fun j u hu => ?_⟩
      have hj : j < d.sz := by rw [← hcl]; exact (List.getElem?_eq_some_iff.1 hu).1
      rw [← Go.Deep.add_add, hat j hj, hu]
    have pick : ∀ k, k ≤ len → ∃ l : List α, l.length = k ∧ (∀ y ∈ l, good y) ∧ ∀ (i : Nat) (y : α), l[i]? = some y → ∃ c, c.length = d.sz ∧ d.K w y c ∧ ∀ j u, c[j]? = some u → w.cell? (a.add (i * d.sz + j)) = some u := by
      intro k
      induction k with
      | zero => intro _; exact ⟨[], rfl, fun _ h => (by cases h), fun i y hy => (by simp at hy)⟩
      | succ k ih =>
        intro hk
        obtain ⟨l, hll, hg, hr⟩ := ih (by omega)
        obtain ⟨y, hy, hc⟩ := key k (by omega)
        refine ⟨l ++ [y], by simp [hll], fun z hz => ?_, fun i z hz => ?_⟩
        · rcases List.mem_append.1 hz with hz | hz
          · exact hg z hz
          · obtain rfl := List.mem_singleton.1 hz; exact hy
        · by_cases hik : i < l.length
          · rw [List.getElem?_append_left hik] at hz; exact hr i z hz
          · rw [List.getElem?_append_right (by omega)] at hz
            have h0 : i - l.length = 0 := by
              have := (List.getElem?_eq_some_iff.1 hz).1
              simp at this; omega
            rw [h0] at hz
            simp only [List.getElem?_cons_zero, Option.some.injEq] at hz
            subst hz
            obtain rfl : i = k := by omega
            exact hc
    obtain ⟨l, hll, hg, hr⟩ := pick len (Nat.le_refl _)
    subst hll
    refine ⟨some a, l, m, rfl, hl, ⟨rfl, by unfold maxLen at hm; omega, fun _ => ⟨a, rfl, hr⟩⟩, hg, ?_⟩
    exact Nat.le_trans (Nat.mul_le_mul_right B hl) hlen
theorem text_elem {e : TypeId} (he : P.underlying e = some .string) (n : Nat) (cs : List Value) (x : DataW H × List MemPlace) (h : DataW.trod enc P w base (fun _ => true) held n e cs = some x) : ∃ y : ByteArray, Kd.string.K w y cs ∧ True := by
  obtain ⟨s, rfl, _⟩ := DataW.trod_string he h
  exact ⟨s, rfl, trivial⟩
theorem struct_cells {t : TypeId} {fs : Array Field} (hs : P.underlying t = some (.struct fs)) (hone : oneCellFields P fs = true) {fuel : Nat} {cs : List Value} {x : DataW H × List MemPlace} (h : DataW.trod enc P w base (fun _ => true) held fuel t cs = some x) (hw : Light P t x.1) :
    ∃ (ys : List (DataW H × List MemPlace)) (n : Nat), ys.length = fs.size ∧ x.1 = .agg (ys.map (·.1)) ∧ ∀ (j : Nat) (f : Field) (u : Value), fs[j]? = some f → cs[j]? = some u → ∃ y, ys[j]? = some y ∧ DataW.trod enc P w base (fun _ => true) held n f.type [u] = some y ∧ Light P f.type y.1 := by
  obtain ⟨ys, n, _, hx, hcl, hyl, hf⟩ := DataW.trod_struct hs h
  refine ⟨ys, n, hyl, by rw [hx], fun j f u hj hu => ?_⟩
  obtain ⟨ho, hk⟩ := hone_of hone j f hj
  have hlt : j < fs.size := (Array.getElem?_eq_some_iff.1 hj).1
  have h1 := hf j f hj
  rw [ho, hk] at h1
  have hone' : (cs.drop j).take 1 = [u] := by
    obtain ⟨hl, hu'⟩ := List.getElem?_eq_some_iff.1 hu
    rw [List.drop_eq_getElem_cons hl, hu']
    rfl
  rw [hone'] at h1
  have hys : ys[j]? = some (ys[j]'(by omega)) := List.getElem?_eq_getElem (by omega)
  refine ⟨_, hys, h1.trans hys, fun k hk => ?_⟩
  apply hw
  rw [hx, DataW.weights, hs]
  refine DataW.weights_mem_each (j := j) (t := f.type) (d := (ys[j]'(by omega)).1) ?_ ?_ k hk
  · rw [List.getElem?_map, Array.getElem?_toList, hj]; rfl
  · rw [List.getElem?_map, hys]; rfl
end
section
variable {H : Type} {enc : TypeId × Value → H} {w : World} {base : Nat} {held : Bool}
theorem ref_elem (n : Nat) (cs : List Value) (x : DataW H × List MemPlace) (hl : cs.length = 2) (h : DataW.trod enc Tryd.prog w base (fun _ => true) held n 76 cs = some x) (hw : Light Tryd.prog 76 x.1) :
    ∃ y : S76, k76.K w y cs ∧ True := by
  match cs, hl with
  | [c0, c1], _ =>
    obtain ⟨ys, m, _, _, hf⟩ := struct_cells Tryd.underlying76 (by kernel_rfl) h hw
    obtain ⟨y0, _, h0, _⟩ := hf 0 _ c0 rfl rfl
    obtain ⟨y1, _, h1, _⟩ := hf 1 _ c1 rfl rfl
    obtain ⟨s0, e0, _⟩ := DataW.trod_string Tryd.underlying9 h0
    obtain ⟨s1, e1, _⟩ := DataW.trod_string Tryd.underlying9 h1
    simp only [List.cons.injEq, and_true] at e0 e1
    subst e0; subst e1
    exact ⟨⟨s0, s1⟩, k76_mk w ⟨s0, s1⟩, trivial⟩
theorem fork_elem (n : Nat) (cs : List Value) (x : DataW H × List MemPlace) (hl : cs.length = 5) (h : DataW.trod enc Tryd.prog w base (fun _ => true) held n 40 cs = some x) (hw : Light Tryd.prog 40 x.1) :
    ∃ y : S40, k40.K w y cs ∧ okFkG y := by
  match cs, hl with
  | [c0, c1, c2, c3, c4], _ =>
    obtain ⟨ys, m, _, _, hf⟩ := struct_cells Tryd.underlying40 (by kernel_rfl) h hw
    obtain ⟨y0, _, h0, _⟩ := hf 0 _ c0 rfl rfl
    obtain ⟨y1, _, h1, _⟩ := hf 1 _ c1 rfl rfl
    obtain ⟨y2, _, h2, _⟩ := hf 2 _ c2 rfl rfl
    obtain ⟨y3, _, h3, g3⟩ := hf 3 _ c3 rfl rfl
    obtain ⟨y4, _, h4, g4⟩ := hf 4 _ c4 rfl rfl
    obtain ⟨s0, e0, _⟩ := DataW.trod_string Tryd.underlying9 h0
    obtain ⟨s1, e1, _⟩ := DataW.trod_bool Tryd.underlying4 h1
    obtain ⟨s2, e2, _⟩ := DataW.trod_string Tryd.underlying9 h2
    obtain ⟨A3, l3, q3, e3, m3, r3, _, b3⟩ := slice_open (d := k76) (good := fun _ => True) (B := 32) Tryd.underlying38 (by kernel_rfl) (by kernel_rfl) (fun n cs x hl h hw => ref_elem n cs x hl h hw) h3 g3
    obtain ⟨A4, l4, q4, e4, m4, r4, _, b4⟩ := slice_open (d := Kd.string) (good := fun _ => True) (B := 16) Tryd.underlying22 (by kernel_rfl) (by kernel_rfl) (fun n cs x _ h _ => text_elem Tryd.underlying9 n cs x h) h4 g4
    simp only [List.cons.injEq, and_true] at e0 e1 e2 e3 e4
    subst e0; subst e1; subst e2; subst e3; subst e4
    exact ⟨⟨s0, s1, s2, l3, l4⟩, k40_mk w ⟨s0, s1, s2, l3, l4⟩ m3 r3 m4 r4, by constructor <;> (simp only; omega)⟩
set_option maxRecDepth 100000 in
theorem open_root {r : Reach} {b0 : Nat} {v : Value} {d : DataW H} {p : List MemPlace} (hv : Value.okWide Tryd.prog w r b0 25 v) (h : DataW.Trod enc Tryd.prog w base (fun _ => true) held 25 v d p) (hw : Light Tryd.prog 25 d) :
    ∃ (a : Int) (A1 : Option Addr) (c1 : Nat) (l1 : List ByteArray) (A2 : Option Addr) (c2 : Nat) (l2 : List S40), v = rootV a A1 l1.length c1 A2 l2.length c2 ∧ RootIn w a A1 c1 l1 A2 c2 l2 := by
  obtain ⟨cs, rfl, hsz⟩ := okWide_struct Tryd.underlying25 hv
  obtain ⟨fuel, hf⟩ := h
  obtain ⟨l⟩ := cs
  match l, hsz.trans (show Tryd.prog.cellsOf 25 = 3 by kernel_rfl) with
  | [c0, c1, c2], _ =>
    obtain ⟨ys, m, _, _, hfs⟩ := struct_cells (cs := [c0, c1, c2]) Tryd.underlying25 (by kernel_rfl) (x := (d, p)) hf hw
    obtain ⟨y0, _, h0, _⟩ := hfs 0 _ c0 rfl rfl
    obtain ⟨y1, _, h1, g1⟩ := hfs 1 _ c1 rfl rfl
    obtain ⟨y2, _, h2, g2⟩ := hfs 2 _ c2 rfl rfl
    obtain ⟨a, e0, _, _⟩ := DataW.trod_int Tryd.underlying3 h0
    obtain ⟨A1, l1, q1, e1, m1, r1, _, b1⟩ := slice_open (d := Kd.string) (good := fun _ => True) (B := 16) Tryd.underlying22 (by kernel_rfl) (by kernel_rfl) (fun n cs x _ h _ => text_elem Tryd.underlying9 n cs x h) h1 g1
    obtain ⟨A2, l2, q2, e2, m2, r2, f2, b2⟩ := slice_open (d := k40) (good := okFkG) (B := 88) Tryd.underlying23 (by kernel_rfl) (by kernel_rfl) (fun n cs x hl h hw => fork_elem n cs x hl h hw) h2 g2
    simp only [List.cons.injEq, and_true] at e0 e1 e2
    subst e0; subst e1; subst e2
    exact ⟨a, A1, q1, l1, A2, q2, l2, rfl, r1, m1, r2, m2, by omega, by omega, f2⟩
theorem wf_byte {y : Int} (h : (Lit.int .u8 y).wf = true) : 0 ≤ y ∧ y ≤ 255 := by simpa [Lit.wf, IntKind.min, IntKind.max, IntKind.signed, IntKind.bits] using h
theorem byte_elem (n : Nat) (cs : List Value) (x : DataW H × List MemPlace) (h : DataW.trod enc Tryd.prog w base (fun _ => true) held n 5 cs = some x) : ∃ y : Int, (Kd.int .u8).K w y cs ∧ (0 ≤ y ∧ y ≤ 255) := by
  obtain ⟨k, rfl, _, hk⟩ := DataW.trod_int Tryd.underlying5 h
  exact ⟨k, rfl, wf_byte hk⟩
set_option maxRecDepth 100000 in
theorem open_bytes {r : Reach} {b0 : Nat} {v : Value} {d : DataW H} {p : List MemPlace} (hv : Value.okWide Tryd.prog w r b0 26 v) (h : DataW.Trod enc Tryd.prog w base (fun _ => true) held 26 v d p) (hw : Light Tryd.prog 26 d) :
    ∃ (A : Option Addr) (c : Nat) (l : List Int), v = .slice A l.length c ∧ l.length ≤ c ∧ Kd.C (Kd.int .u8) w A l.length l ∧ (∀ y ∈ l, 0 ≤ y ∧ y ≤ 255) := by
  obtain ⟨A, n, c, rfl⟩ := okWide_slice Tryd.underlying26 hv
  obtain ⟨fuel, hf⟩ := h
  obtain ⟨A', l, c', e, m, r, g, b⟩ := slice_open (d := Kd.int .u8) (good := fun y => 0 ≤ y ∧ y ≤ 255) (B := 1) Tryd.underlying26 (by kernel_rfl) (by kernel_rfl) (fun n cs x _ h _ => byte_elem n cs x h) hf hw
  simp only [Value.cells, List.cons.injEq, and_true] at e
  have e' : Value.slice A n c = .slice A' l.length c' := by simpa [Value.cells] using e
  injection e' with h1 h2 h3
  subst h1; subst h2; subst h3
  exact ⟨_, _, l, rfl, m, r, g⟩
theorem light_of {P : Program} {ts : List TypeId} {ds : List (DataW H)} (hsz : (DataW.weightsEach P ts ds).all (· ≤ reachBytes) = true) {j : Nat} {t : TypeId} {d : DataW H} (ht : ts[j]? = some t) (hd : ds[j]? = some d) : Light P t d := by
  intro n hn
  have := List.all_eq_true.1 hsz n (DataW.weights_mem_each ht hd n hn)
  exact Nat.le_trans (of_decide_eq_true this) (by decide)
end
end Go.Proofs.YtgmddlbbmlneaaaDoor.PR

namespace Go.Proofs.YtgmddlbbmlneaaaDoor.PR
open Go.RowKit Go.Proofs.YtgmddlbbmlneaaaDoorW.PrintWords Go.Proofs.YtgmddlbbmlneaaaDoorW.PrintLast Go.Proofs.YtgmddlbbmlneaaaDoorW.PrintMore
attribute [local go_sem] max2_int min2_int max_two min_two max_three min_three max_four min_four   -- for this text's walks alone
set_option linter.unusedVariables false
set_option linter.unusedSimpArgs false

theorem eqA76 (d : Nat) (w : World) (x0 y0 : ByteArray) (x1 y1 : ByteArray) :
    (Op.equalIn (d + 2) 76 (.agg #[.string x0, .string x1]) (.agg #[.string y0, .string y1])).run Tryd.prog w = .ok (x0.toList == y0.toList && (x1.toList == y1.toList)) w := by
  refine eqA_of Tryd.underlying76 (by kernel_rfl) ?_
  refine eqf_cons (by rfl) (by go_simp; rfl) (by go_simp; rfl) (by go_simp) ?_
  exact eqf_last (by rfl) (by go_simp; rfl) (by go_simp; rfl) (by go_simp)
end Go.Proofs.YtgmddlbbmlneaaaDoor.PR
