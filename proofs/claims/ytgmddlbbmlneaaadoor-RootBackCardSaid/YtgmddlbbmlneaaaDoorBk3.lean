/- Part 3 of 5 of the texts on which the proof leans: plain words, and contracts of the functions that it reaches. -/
import Derived.Test.YtgmddlbbmlneaaaDoorBk2
import Derived.WalkKit
import Derived.Lib.SlBytesConst
import Derived.Lib.SmallJoins
import Derived.Test.YtgmddlbbmlneaaaDoorBk1
set_option linter.all false
/- sacristylaw10.head: the live question's answer is fixed. -/
namespace Go.Proofs.YtgmddlbbmlneaaaDoor.PR
open Go.RowKit Go.Shelf Go.Proofs.YtgmddlbbmlneaaaDoorW.PrintWords Go.Proofs.YtgmddlbbmlneaaaDoorW.PrintLast Go.Proofs.YtgmddlbbmlneaaaDoorW.PrintMore
set_option linter.unusedVariables false

def headF2 : S40 := ⟨⟨#[97]⟩, false, ⟨#[116, 97, 103, 115, 47, 109]⟩, [], []⟩
theorem ints_at {W : World} {t : TypeId} {fr : Nat × Nat} {L : List Int} (hL : L.length ≤ 9223372036854775807) : Kd.C (Kd.int .u8) (W.alloc (.cells (L.map (Value.int .u8)).toArray t fr)) (some ⟨W.heap.size, 0, none⟩) L.length L :=
  Kd.C_of_reads (d := (0 : Int)) (h1 := fun _ => rfl) ⟨rfl, hL, fun _ => ⟨_, rfl, fun j hj => by
    rw [show Addr.add ⟨W.heap.size, 0, none⟩ j = ⟨W.heap.size, j, none⟩ by simp [Addr.add]; exact fun h => h.symm, World.cell?_alloc_mark]
    simp [hj]⟩⟩
theorem fork_at {W : World} {b : Nat} {x : S40} {A3 A4 : Option Addr} {c3 c4 : Nat} (h : W.heap[b]? = some (.cells #[.string x.f0, .bool x.f1, .string x.f2, .slice A3 x.f3.length c3, .slice A4 x.f4.length c4] 40 (0, 0)))
    (l3 : x.f3.length ≤ c3) (g3 : k76.C W A3 x.f3.length x.f3) (l4 : x.f4.length ≤ c4) (g4 : Kd.string.C W A4 x.f4.length x.f4) : Kd.C k40 W (some ⟨b, 0, none⟩) 1 [x] :=
  ⟨rfl, by decide, fun _ => ⟨_, rfl, fun j p hj => by
    cases j with
    | succ j => simp at hj
    | zero =>
      simp only [List.getElem?_cons_zero, Option.some.injEq] at hj
      subst hj
      refine ⟨[.string x.f0, .bool x.f1, .string x.f2, .slice A3 x.f3.length c3, .slice A4 x.f4.length c4], rfl, k40_mk W x l3 g3 l4 g4, fun i u hu => ?_⟩
      rw [show Addr.add ⟨b, 0, none⟩ (0 * k40.sz + i) = ⟨b, i, none⟩ by simp [Addr.add]; exact fun h => h.symm, blk_cell h]
      simpa using hu⟩⟩

theorem head_cells1 : ((intsOf headB1).map (Value.int .u8)).toArray = #[.int .u8 110, .int .u8 101, .int .u8 116, .int .u8 32, .int .u8 51, .int .u8 10, .int .u8 112, .int .u8 111, .int .u8 111, .int .u8 108, .int .u8 32, .int .u8 48, .int .u8 10, .int .u8 102, .int .u8 111, .int .u8 114, .int .u8 107, .int .u8 115, .int .u8 32, .int .u8 49, .int .u8 10, .int .u8 102, .int .u8 111, .int .u8 114, .int .u8 107, .int .u8 32, .int .u8 97, .int .u8 32, .int .u8 108, .int .u8 105, .int .u8 110, .int .u8 107, .int .u8 101, .int .u8 100, .int .u8 32, .int .u8 104, .int .u8 101, .int .u8 97, .int .u8 100, .int .u8 115, .int .u8 47, .int .u8 109, .int .u8 32, .int .u8 48, .int .u8 32, .int .u8 48, .int .u8 10] := by kernel_rfl
theorem head_cells2 : ((intsOf headB2).map (Value.int .u8)).toArray = #[.int .u8 110, .int .u8 101, .int .u8 116, .int .u8 32, .int .u8 51, .int .u8 10, .int .u8 112, .int .u8 111, .int .u8 111, .int .u8 108, .int .u8 32, .int .u8 48, .int .u8 10, .int .u8 102, .int .u8 111, .int .u8 114, .int .u8 107, .int .u8 115, .int .u8 32, .int .u8 49, .int .u8 10] := by kernel_rfl
def headB0 : List UInt8 := [110, 101, 116, 32, 48, 10, 112, 111, 111, 108, 32, 48, 10, 102, 111, 114, 107, 115, 32, 48, 10]
theorem head_put0 : rootText 0 [] [] = headB0 := head_put.2
theorem head_str : (⟨headB0.toArray⟩ : ByteArray) = ⟨#[110, 101, 116, 32, 48, 10, 112, 111, 111, 108, 32, 48, 10, 102, 111, 114, 107, 115, 32, 48, 10]⟩ := rfl
theorem head_findA (A2 : Option Addr) (c2 : Nat) (adf : Addr) (c3 : Nat) (W : World) (hp : Kd.C Kd.string W A2 0 []) (hf : Kd.C k40 W (some adf) 1 [headF]) (h3 : 1 ≤ c3) :
    Calls Tryd.prog 14 #[.agg #[.int .i64 3, .slice A2 0 c2, .slice (some adf) 1 c3], .string ⟨#[97]⟩] W fun e w' => e = .returned (.int .i64 0) ∧ Below W.heap.size W w' :=
  root_Find.calls 3 A2 c2 [] (some adf) c3 [headF] ⟨#[97]⟩ 0 W hp (Nat.zero_le _) hf h3 (by kernel_rfl)
theorem head_findB (A2 : Option Addr) (c2 : Nat) (adf : Addr) (c3 : Nat) (W : World) (hp : Kd.C Kd.string W A2 0 []) (hf : Kd.C k40 W (some adf) 1 [headF]) (h3 : 1 ≤ c3) :
    Calls Tryd.prog 14 #[.agg #[.int .i64 3, .slice A2 0 c2, .slice (some adf) 1 c3], .string ⟨#[98]⟩] W fun e w' => e = .returned (.int .i64 (-1)) ∧ Below W.heap.size W w' :=
  root_Find.calls 3 A2 c2 [] (some adf) c3 [headF] ⟨#[98]⟩ (-1) W hp (Nat.zero_le _) hf h3 (by kernel_rfl)
theorem head_right1 (A2 : Option Addr) (c2 : Nat) (adf : Addr) (c3 : Nat) (W : World) (hG : Gl W) (hp : Kd.C Kd.string W A2 0 []) (hf : Kd.C k40 W (some adf) 1 [headF]) (h3 : 1 ≤ c3) :
    Calls Tryd.prog 11 #[.agg #[.int .i64 3, .slice A2 0 c2, .slice (some adf) 1 c3]] W fun e w' => e = .returned (.bool true) ∧ Below W.heap.size W w' :=
  root_Right.calls 3 A2 c2 [] (some adf) c3 [headF] true W hG hp (Nat.zero_le _) hf h3 (by kernel_rfl)
theorem head_named1 (W : World) : Calls Tryd.prog 15 #[.string ⟨#[97, 45, 49]⟩] W fun e w' => e = .returned (.bool true) ∧ Drawn0 W w' := forkName_calls ⟨#[97, 45, 49]⟩ W (by decide)
theorem head_named2 (W : World) : Calls Tryd.prog 15 #[.string ⟨#[]⟩] W fun e w' => e = .returned (.bool false) ∧ Drawn0 W w' := forkName_calls ⟨#[]⟩ W (by decide)

def sacristylaw10_head.f : Option Bool := some true
set_option maxHeartbeats 4000000 in
set_option maxRecDepth 100000 in
theorem sacristylaw10_head.calls (r : Bool) (w : World) (hG : Gl w) (h : sacristylaw10_head.f = some r) :
    Calls Tryd.prog 8 #[] w fun e w' => e = .returned (.bool r) ∧ Below w.heap.size w w' := by
  obtain rfl : true = r := Option.some.inj h
  clear h
  have hP1 : ∀ W, Below w.heap.size w W → Calls Tryd.prog 10 #[.agg #[.int .i64 0, .slice none 0 0, .slice none 0 0]] W fun e w' => ∃ v0_ : Value, e = .returned (.tuple #[v0_, .bool true]) ∧ Kd.V (Kd.int .u8) 5 w' W.heap.size (fun k_ => (W.heap.size ≤ k_)) v0_ (intsOf headB0) ∧ Below W.heap.size W w' :=
    fun W hb => root_Put.calls 0 none 0 [] none 0 [] _ _ W (Gl_below hG hb) (Kd.C_nil _ _) (Nat.le_refl _) (Kd.C_nil _ _) (Nat.le_refl _) (by rw [root_Put.f, if_pos (show okRoot [] [] = true from rfl), if_pos head_put.1, head_put0])
  have hP2 : ∀ (W : World) (g : Nat), g = W.heap.size → Below w.heap.size w W → Calls Tryd.prog 10 #[.agg #[.int .i64 0, .slice none 0 0, .slice (some ⟨g, 0, none⟩) 1 1]] (W.alloc (.cells #[.string ⟨#[97]⟩, .bool false, .string ⟨#[116, 97, 103, 115, 47, 109]⟩, .slice none 0 0, .slice none 0 0] 40)) fun e w' => ∃ v0_ : Value, e = .returned (.tuple #[v0_, .bool false]) ∧ Below W.heap.size W w' :=
    fun W g hg hb => by
    subst hg
    exact (root_Put.calls 0 none 0 [] (some ⟨W.heap.size, 0, none⟩) 1 [headF2] [] false _ (Gl_below hG (below_step hb (below_alloc (Below.refl _ _) _))) (Kd.C_nil _ _) (Nat.le_refl _) (fork_at (x := headF2) (blk_new _ _) (Nat.le_refl _) (Kd.C_nil _ _) (Nat.le_refl _) (Kd.C_nil _ _)) (Nat.le_refl _) (by rw [root_Put.f, if_pos (by kernel_rfl), if_neg (by rw [show rootB 0 [] [headF2] = false from head_wrong]; simp)])).mono
      fun e w' ⟨v, h1, _, h2⟩ => ⟨v, h1, below_step (below_alloc (Below.refl _ _) _) h2⟩
  have hg1 : root_Get.f (intsOf headB1) = some (3, [], [headF], true) := by
    rw [root_Get.f, if_pos (by decide), strOfNums_ints, getP_yes head_lines ⟨rfl, head_right, head_text⟩]
  have hg2 : root_Get.f (intsOf headB2) = some (0, [], [], false) := by
    rw [root_Get.f, if_pos (by decide), strOfNums_ints, getP_no (c := (linesP ⟨headB2.toArray⟩).1) (pool := (linesP ⟨headB2.toArray⟩).2.1) (acc := (linesP ⟨headB2.toArray⟩).2.2.1) (e := (linesP ⟨headB2.toArray⟩).2.2.2) rfl (by rw [head_lines2]; simp)]
  have hG1 : ∀ W, Below w.heap.size w W → Calls Tryd.prog 12 #[.slice (some ⟨W.heap.size, 0, none⟩) 47 47] (W.alloc (.cells ((intsOf headB1).map (Value.int .u8)).toArray 5 (47, 48))) fun e w' => ∃ v1_ v2_ : Value, e = .returned (.tuple #[.agg #[.int .i64 3, v1_, v2_], .bool true]) ∧ Kd.V Kd.string 9 w' (W.heap.size + 1) (fun k_ => W.heap.size + 1 ≤ k_) v1_ [] ∧ Kd.V k40 40 w' (W.heap.size + 1) (fun k_ => W.heap.size + 1 ≤ k_ ∧ some k_ ≠ (v1_ : Value).ownBlock) v2_ [headF] ∧ Below W.heap.size W w' :=
    fun W hb => (root_Get.calls (some ⟨W.heap.size, 0, none⟩) 47 (intsOf headB1) 3 [] [headF] true _ (Gl_below hG (below_step hb (below_alloc (Below.refl _ _) _))) (ints_at (by decide)) (by decide) hg1).mono
      fun e w' ⟨v1, v2, h1, h2, h3, h4⟩ => ⟨v1, v2, h1, by simpa using h2, by simpa using h3, below_step (below_alloc (Below.refl _ _) _) h4⟩
  have hG2 : ∀ (W : World) (g : Nat), g = W.heap.size → Below w.heap.size w W → Calls Tryd.prog 12 #[.slice (some ⟨g, 0, none⟩) 21 21] (W.alloc (.cells ((intsOf headB2).map (Value.int .u8)).toArray 5 (21, 22))) fun e w' => ∃ v1_ v2_ : Value, e = .returned (.tuple #[.agg #[.int .i64 0, v1_, v2_], .bool false]) ∧ Kd.V Kd.string 9 w' (W.heap.size + 1) (fun k_ => W.heap.size + 1 ≤ k_) v1_ [] ∧ Kd.V k40 40 w' (W.heap.size + 1) (fun k_ => W.heap.size + 1 ≤ k_ ∧ some k_ ≠ (v1_ : Value).ownBlock) v2_ [] ∧ Below W.heap.size W w' :=
    fun W g hg hb => by
    subst hg
    exact (root_Get.calls (some ⟨W.heap.size, 0, none⟩) 21 (intsOf headB2) 0 [] [] false _ (Gl_below hG (below_step hb (below_alloc (Below.refl _ _) _))) (ints_at (by decide)) (by decide) hg2).mono
      fun e w' ⟨v1, v2, h1, h2, h3, h4⟩ => ⟨v1, v2, h1, by simpa using h2, by simpa using h3, below_step (below_alloc (Below.refl _ _) _) h4⟩
  rw [head_cells1] at hG1
  rw [head_cells2] at hG2
  have HP1 := Aside0.mk hP1
  have HP2 := Aside0.mk hP2
  have HG1 := Aside0.mk hG1
  have HG2 := Aside0.mk hG2
  have HG := Aside0.mk hG
  have hid1 : ∀ W : World, (convert 26 26 (.slice (some ⟨W.heap.size, 0, none⟩) 47 47)).run Tryd.prog (W.alloc (.cells #[.int .u8 110, .int .u8 101, .int .u8 116, .int .u8 32, .int .u8 51, .int .u8 10, .int .u8 112, .int .u8 111, .int .u8 111, .int .u8 108, .int .u8 32, .int .u8 48, .int .u8 10, .int .u8 102, .int .u8 111, .int .u8 114, .int .u8 107, .int .u8 115, .int .u8 32, .int .u8 49, .int .u8 10, .int .u8 102, .int .u8 111, .int .u8 114, .int .u8 107, .int .u8 32, .int .u8 97, .int .u8 32, .int .u8 108, .int .u8 105, .int .u8 110, .int .u8 107, .int .u8 101, .int .u8 100, .int .u8 32, .int .u8 104, .int .u8 101, .int .u8 97, .int .u8 100, .int .u8 115, .int .u8 47, .int .u8 109, .int .u8 32, .int .u8 48, .int .u8 32, .int .u8 48, .int .u8 10] 5)) = .ok (.slice (some ⟨W.heap.size, 0, none⟩) 47 47) (W.alloc (.cells #[.int .u8 110, .int .u8 101, .int .u8 116, .int .u8 32, .int .u8 51, .int .u8 10, .int .u8 112, .int .u8 111, .int .u8 111, .int .u8 108, .int .u8 32, .int .u8 48, .int .u8 10, .int .u8 102, .int .u8 111, .int .u8 114, .int .u8 107, .int .u8 115, .int .u8 32, .int .u8 49, .int .u8 10, .int .u8 102, .int .u8 111, .int .u8 114, .int .u8 107, .int .u8 32, .int .u8 97, .int .u8 32, .int .u8 108, .int .u8 105, .int .u8 110, .int .u8 107, .int .u8 101, .int .u8 100, .int .u8 32, .int .u8 104, .int .u8 101, .int .u8 97, .int .u8 100, .int .u8 115, .int .u8 47, .int .u8 109, .int .u8 32, .int .u8 48, .int .u8 32, .int .u8 48, .int .u8 10] 5 (47, 48))) := fun W => Lib.run_convert_bytes_const W 26 5 _ _ _ Tryd.underlying26 Tryd.underlying5
  have hid2 : ∀ W : World, (convert 26 26 (.slice (some ⟨W.heap.size, 0, none⟩) 21 21)).run Tryd.prog (W.alloc (.cells #[.int .u8 110, .int .u8 101, .int .u8 116, .int .u8 32, .int .u8 51, .int .u8 10, .int .u8 112, .int .u8 111, .int .u8 111, .int .u8 108, .int .u8 32, .int .u8 48, .int .u8 10, .int .u8 102, .int .u8 111, .int .u8 114, .int .u8 107, .int .u8 115, .int .u8 32, .int .u8 49, .int .u8 10] 5)) = .ok (.slice (some ⟨W.heap.size, 0, none⟩) 21 21) (W.alloc (.cells #[.int .u8 110, .int .u8 101, .int .u8 116, .int .u8 32, .int .u8 51, .int .u8 10, .int .u8 112, .int .u8 111, .int .u8 111, .int .u8 108, .int .u8 32, .int .u8 48, .int .u8 10, .int .u8 102, .int .u8 111, .int .u8 114, .int .u8 107, .int .u8 115, .int .u8 32, .int .u8 49, .int .u8 10] 5 (21, 22))) := fun W => Lib.run_convert_bytes_const W 26 5 _ _ _ Tryd.underlying26 Tryd.underlying5
  clear hP1 hP2 hG1 hG2 hG hg1 hg2
  go_enter Tryd.func8, Tryd.ntmps8
  have hn2 := head_named2
  have hn1 := head_named1
  have HN2 := Aside0.mk hn2
  have HN1 := Aside0.mk hn1
  clear hn1 hn2
  go_wp2_with (go_at_call 10; ((with_reducible refine (HP1.out _ (Below.refl _ _)).mono ?_); rintro e w1 ⟨v1, rfl, hv1, hb1⟩; obtain ⟨A1, c1, rfl⟩ := Kd.V_slice hv1; have HB1 := Aside0.mk hb1; have HV1 := Aside0.mk hv1; clear hb1 hv1))
  go_wp2_with (go_at_call 12; ((with_reducible refine (HG1.out _ HB1.out).mono ?_); rintro e w2 ⟨va2, vb2, rfl, hp2, hf2, hb2⟩; obtain ⟨A2, c2, rfl⟩ := Kd.V_slice hp2; obtain ⟨A3, c3, rfl⟩ := Kd.V_slice hf2; have HB2 := Aside0.mk (below_step HB1.out hb2); have HP2_ := Aside0.mk hp2; have HF2 := Aside0.mk hf2; have HB12 := Aside0.mk hb2; have hidb := fun o : Obj => Joins.run_convert_bytes_const_at (P := Tryd.prog) (w2.alloc o) 26 5 #[.int .u8 110, .int .u8 101, .int .u8 116, .int .u8 32, .int .u8 51, .int .u8 10, .int .u8 112, .int .u8 111, .int .u8 111, .int .u8 108, .int .u8 32, .int .u8 48, .int .u8 10, .int .u8 102, .int .u8 111, .int .u8 114, .int .u8 107, .int .u8 115, .int .u8 32, .int .u8 49, .int .u8 10] 21 21 (w2.heap.size + 1) (by simp) Tryd.underlying26 Tryd.underlying5; clear hp2 hf2 hb2))
  go_wp2_with (go_at_call 12; (refine (HG2.out _ _ (by simp) (below_step HB2.out (below_alloc (Below.refl _ _) _))).mono ?_; rintro e w3 ⟨va3, vb3, rfl, hp3, hf3, hb3⟩; obtain ⟨A4, c4, rfl⟩ := Kd.V_slice hp3; obtain ⟨A5, c5, rfl⟩ := Kd.V_slice hf3; have HBX3 := Aside0.mk (blk_below (blk_new w2 _) hb3); have HB23 := Aside0.mk (below_step (below_alloc (Below.refl w2.heap.size w2) _) hb3); have HB3 := Aside0.mk (below_step HB2.out HB23.out); clear hp3 hf3 hb3 hidb))
  go_wp2_with (go_at_call 10; (refine (HP2.out _ _ (by simp) (below_step HB3.out (below_alloc (Below.refl _ _) _))).mono ?_; rintro e w4 ⟨v4, rfl, hb4⟩; have hb34 := below_step (below_alloc (Below.refl w3.heap.size w3) _) hb4; have hb24 := below_step HB23.out hb34; have hb14 := below_step HB12.out hb24; have hstr := Kd.C_string (c := c1) Tryd.underlying26 Tryd.underlying5 Tryd.underlying9 (Kd.V_reads' (Kd.V_below HV1.out hb14)).2.2; (rw [strOfNums_ints, head_str] at hstr); have HP4 := Aside0.mk (Kd.V_reads' (Kd.V_below HP2_.out hb24)); have HF4 := Aside0.mk (Kd.V_reads' (Kd.V_below HF2.out hb24)); obtain ⟨adf, A3_, c3_, A4_, c4_, rfl, f0, f1, f2, f3, f4, _, _, _, _⟩ := at_T40 HF4.out.2.2 0 (by decide) (by decide); have f1a : w4.cell? ⟨adf.block, adf.off + 1, none⟩ = some (.bool true) := (by simpa [rd_T40, headF, Addr.add] using f1); have hbx4 := blk_below (blk_alloc HBX3.out _) hb4; have x0 := blk_cell hbx4 0; have x1 := blk_cell hbx4 1; have x2 := blk_cell hbx4 2; have HBX4 := Aside0.mk hbx4; have HB4 := Aside0.mk (below_step HB3.out hb34); have HC4 := Aside0.mk (show Kd.C Kd.string w4 A2 0 [] from HP4.out.2.2); have HD4 := Aside0.mk (show Kd.C k40 w4 (some adf) 1 [headF] from HF4.out.2.2); have HL3 := Aside0.mk (show 1 ≤ c3 from HF4.out.2.1); have HFA := Aside0.mk (head_findA A2 c2 adf c3 w4 HC4.out HD4.out HL3.out); clear hb4 hbx4 hb34 hb24 hb14 f0 f1 f2 f3 f4))
  go_wp2_with (go_at_call 14; ((with_reducible refine HFA.out.mono ?_); rintro e w5 ⟨rfl, hb5⟩; clear x0 x1 x2; have hbx := blk_below HBX4.out hb5; have x0 := blk_cell hbx 0; have x1 := blk_cell hbx 1; have x2 := blk_cell hbx 2; have HBX5 := Aside0.mk hbx; have HC5 := Aside0.mk (Kd.C_below HC4.out hb5); have HD5 := Aside0.mk (Kd.C_below HD4.out hb5); have HB5 := Aside0.mk (below_step HB4.out hb5); have HFB := Aside0.mk (head_findB A2 c2 adf c3 w5 HC5.out HD5.out HL3.out); clear hbx hb5))
  go_wp2_with (go_at_call 14; ((with_reducible refine HFB.out.mono ?_); rintro e w6 ⟨rfl, hb6⟩; clear x0 x1 x2; have hbx := blk_below HBX5.out hb6; have x0 := blk_cell hbx 0; have x1 := blk_cell hbx 1; have x2 := blk_cell hbx 2; have HBX6 := Aside0.mk hbx; have HC6 := Aside0.mk (Kd.C_below HC5.out hb6); have HD6 := Aside0.mk (Kd.C_below HD5.out hb6); have HB6 := Aside0.mk (below_step HB5.out hb6); clear hbx hb6))
  go_wp2_with (go_at_call 15; ((with_reducible refine (HN1.out _).mono ?_); rintro e w7 ⟨rfl, ⟨nd1, rfl⟩⟩))
  go_wp2_with (go_at_call 15; ((with_reducible refine (HN2.out _).mono ?_); rintro e w7 ⟨rfl, ⟨nd2, rfl⟩⟩))
  refine (head_right1 A2 c2 adf c3 (w6.drewN (nd1 + nd2)) (Gl_below HG.out (pw_below_drewN HB6.out _)) (Kd.C_below HC6.out (pw_below_drewN (Below.refl _ _) _)) (Kd.C_below HD6.out (pw_below_drewN (Below.refl _ _) _)) HL3.out).mono ?_
  rintro e w8 ⟨rfl, hb8⟩
  have HB8 := Aside0.mk (below_step (pw_below_drewN HB6.out (nd1 + nd2)) hb8)
  clear hb8
  go_wp2_with fail
  go_ret
  exact ⟨rfl, HB8.out⟩
end Go.Proofs.YtgmddlbbmlneaaaDoor.PR

/- The root's lines, read again: they give the root back, whatever stands behind them. -/
namespace Go.Proofs.YtgmddlbbmlneaaaDoor.PR
open Go.RowKit Go.Proofs.YtgmddlbbmlneaaaDoorW.PrintWords Go.Proofs.YtgmddlbbmlneaaaDoorW.PrintLast Go.Proofs.YtgmddlbbmlneaaaDoorW.PrintMore
set_option linter.unusedVariables false

theorem splitL_app (c : UInt8) : ∀ (p rest : List UInt8), c ∉ p → splitL c (p ++ c :: rest) = p :: splitL c rest
  | [], rest, _ => by rw [List.nil_append, splitL, if_pos rfl]
  | x :: p, rest, h => by
    have hx : ¬ x = c := fun e => h (e ▸ List.mem_cons_self)
    have hp : c ∉ p := fun k => h (List.mem_cons_of_mem _ k)
    rw [List.cons_append, splitL, if_neg hx, splitL_app c p rest hp]
theorem splitL_none (c : UInt8) : ∀ (p : List UInt8), c ∉ p → splitL c p = [p]
  | [], _ => rfl
  | x :: p, h => by
    have hx : ¬ x = c := fun e => h (e ▸ List.mem_cons_self)
    have hp : c ∉ p := fun k => h (List.mem_cons_of_mem _ k)
    rw [splitL, if_neg hx, splitL_none c p hp]
theorem splitL_join (c : UInt8) : ∀ (ws : List (List UInt8)), ws ≠ [] → (∀ p ∈ ws, c ∉ p) → splitL c (Lib.join ws [c]) = ws
  | [], h, _ => absurd rfl h
  | [x], _, h => by rw [Lib.join_one]; exact splitL_none c x (h x (by simp))
  | x :: y :: ws, _, h => by
    have e : Lib.join (x :: y :: ws) [c] = x ++ c :: Lib.join (y :: ws) [c] := by
      rw [Lib.join_cons, Lib.join_cons]
      simp [Lib.joinTail]
    rw [e, splitL_app c x _ (h x (by simp)), splitL_join c (y :: ws) (by simp) (fun p hp => h p (List.mem_cons_of_mem _ hp))]
/-- Lines, each with its end. -/
def endsL (ls : List (List UInt8)) : List UInt8 := ls.flatMap (· ++ [10])
theorem endsL_cons (p : List UInt8) (ls : List (List UInt8)) : endsL (p :: ls) = p ++ [10] ++ endsL ls := rfl
theorem endsL_append (l m : List (List UInt8)) : endsL (l ++ m) = endsL l ++ endsL m := List.flatMap_append
theorem splitL_ends : ∀ (ls : List (List UInt8)) (rest : List UInt8), (∀ p ∈ ls, (10 : UInt8) ∉ p) → splitL 10 (endsL ls ++ rest) = ls ++ splitL 10 rest
  | [], _, _ => rfl
  | p :: ls, rest, h => by
    have e : endsL (p :: ls) ++ rest = p ++ 10 :: (endsL ls ++ rest) := by rw [endsL_cons]; simp
    rw [e, splitL_app 10 p _ (h p (by simp)), splitL_ends ls rest (fun q hq => h q (List.mem_cons_of_mem _ hq))]; rfl

theorem index_one (c : UInt8) : ∀ (p rest : List UInt8), c ∉ p → Lib.index (p ++ c :: rest) [c] = p.length
  | [], rest, _ => by rw [List.nil_append, Lib.index]; simp [List.isPrefixOf]
  | x :: p, rest, h => by
    have hx : ¬ c = x := fun e => h (e ▸ List.mem_cons_self)
    have hp : c ∉ p := fun k => h (List.mem_cons_of_mem _ k)
    have ih := index_one c p rest hp
    have hpre : [c].isPrefixOf (x :: (p ++ c :: rest)) = false := by simp [List.isPrefixOf]; exact hx
    have hne : ((p.length : Int) == -1) = false := by
      have : (p.length : Int) ≠ -1 := by omega
      simpa using this
    rw [List.cons_append, Lib.index, hpre, ih, hne]
    simp
theorem cut_one (c : UInt8) (p rest : List UInt8) (h : c ∉ p) : Lib.cut (p ++ c :: rest) [c] = (p, rest, true) := by
  have hi := index_one c p rest h
  unfold Lib.cut
  rw [hi]
  simp

/-- No byte of a text ends a line or a word. -/
def plainS (l : List UInt8) : Prop := (10 : UInt8) ∉ l ∧ (32 : UInt8) ∉ l
theorem plain_of {l : List UInt8} {f : UInt8 → Bool} (h : l.all f = true) (h10 : f 10 = false) (h32 : f 32 = false) : plainS l := by
  rw [List.all_eq_true] at h
  exact ⟨fun k => (by rw [h _ k] at h10; cases h10), fun k => (by rw [h _ k] at h32; cases h32)⟩
theorem hex_plain {s : ByteArray} (h : hexName s = true) : plainS s.data.toList := by
  simp only [hexName, Bool.and_eq_true] at h
  exact plain_of h.1 (by decide) (by decide)
theorem forkName_plain {s : ByteArray} (h : forkName s = true) : plainS s.data.toList := by
  simp only [forkName, Bool.and_eq_true] at h
  exact plain_of h.1.1 (by decide) (by decide)
theorem mem_splitL (c d : UInt8) : ∀ l : List UInt8, d ∈ l → d = c ∨ ∃ p ∈ splitL c l, d ∈ p
  | x :: xs, h => by
    have ih := mem_splitL c d xs
    by_cases e : x = c
    · rw [splitL, if_pos e]
      rcases List.mem_cons.1 h with rfl | h
      · exact .inl e
      · rcases ih h with k | ⟨p, hp, hd⟩
        · exact .inl k
        · exact .inr ⟨p, List.mem_cons_of_mem _ hp, hd⟩
    · rw [splitL, if_neg e]
      have hne := splitL_ne c xs
      cases hs : splitL c xs with
      | nil => exact absurd hs hne
      | cons q qs =>
        rw [hs] at ih
        rcases List.mem_cons.1 h with rfl | h
        · exact .inr ⟨d :: q, List.mem_cons_self, List.mem_cons_self⟩
        · rcases ih h with k | ⟨p, hp, hd⟩
          · exact .inl k
          · rcases List.mem_cons.1 hp with rfl | hp
            · exact .inr ⟨x :: p, List.mem_cons_self, List.mem_cons_of_mem _ hd⟩
            · exact .inr ⟨p, List.mem_cons_of_mem _ hp, hd⟩
theorem refName_plain {s : ByteArray} (h : refName s = true) : plainS s.data.toList := by
  simp only [refName, refNameL, Bool.and_eq_true, Bool.or_eq_true, beq_iff_eq, List.all_eq_true] at h
  obtain ⟨⟨_, hh⟩, ht⟩ := h
  have key : ∀ d : UInt8, (d = 10 ∨ d = 32) → d ∉ s.data.toList := by
    intro d hd hm
    rcases mem_splitL 47 d _ hm with k | ⟨p, hp, hdp⟩
    · rcases hd with rfl | rfl <;> cases k
    · cases hs : splitL 47 s.data.toList with
      | nil => exact absurd hs (splitL_ne _ _)
      | cons q qs =>
        rw [hs] at hp hh ht
        rcases List.mem_cons.1 hp with rfl | hp
        · rcases hh with hh | hh
          · simp only [List.head?_cons, Option.some.injEq] at hh
            subst hh
            rcases hd with rfl | rfl <;> simp at hdp
          · simp only [List.head?_cons, Option.some.injEq] at hh
            subst hh
            rcases hd with rfl | rfl <;> simp at hdp
        · have := ht p hp
          simp only [lettersL, Bool.and_eq_true, List.all_eq_true] at this
          have := this.1.1.1 d hdp
          rcases hd with rfl | rfl <;> cases this
  exact ⟨key 10 (.inl rfl), key 32 (.inr rfl)⟩

theorem digits_all (u : Nat) : ∀ c ∈ Lib.decDigits u, 48 ≤ c.toNat ∧ c.toNat ≤ 57 := by
  induction u using Nat.strongRecOn with
  | _ u ih =>
    intro c hc
    rw [Lib.decDigits] at hc
    split at hc
    · rename_i h
      obtain rfl := List.mem_singleton.1 hc
      rw [UInt8.toNat_ofNat']; omega
    · rename_i h
      rcases List.mem_append.1 hc with hc | hc
      · exact ih (u / 10) (by omega) c hc
      · obtain rfl := List.mem_singleton.1 hc
        rw [UInt8.toNat_ofNat']; omega
theorem digits_len (k : Nat) : ∀ u : Nat, u < 10 ^ (k + 1) → (Lib.decDigits u).length ≤ k + 1 := by
  induction k with
  | zero => intro u h; rw [Lib.decDigits_length, Lib.nDigits_small (by simpa using h)]; exact Nat.le_refl _
  | succ k ih =>
    intro u h
    by_cases h10 : u < 10
    · rw [Lib.decDigits_length, Lib.nDigits_small h10]; omega
    · have := ih (u / 10) (by rw [Nat.pow_succ] at h; omega)
      rw [Lib.decDigits_length] at this ⊢
      rw [Lib.nDigits_big h10]; omega
theorem text_plain {n : Int} (h : 0 ≤ n) : plainS (textB n).data.toList := by
  obtain ⟨u, rfl⟩ : ∃ u : Nat, n = u := ⟨n.toNat, by omega⟩
  rw [textB, if_neg (by omega), Lib.itoa_nonneg]
  have := digits_all u
  constructor
  · intro k; have := this 10 (by simpa using k); simp at this
  · intro k; have := this 32 (by simpa using k); simp at this
def valL (x : Int) (l : List UInt8) : Int := l.foldl (fun x c => 10 * x + ((c.toNat : Int) - 48)) x
theorem valL_digits (u : Nat) : valL 0 (Lib.decDigits u) = u := by
  induction u using Nat.strongRecOn with
  | _ u ih =>
    rw [Lib.decDigits]
    split
    · rename_i h
      simp only [valL, List.foldl_cons, List.foldl_nil]
      rw [UInt8.toNat_ofNat']; omega
    · rename_i h
      have := ih (u / 10) (by omega)
      simp only [valL] at this
      rw [valL, List.foldl_append, this]
      simp only [List.foldl_cons, List.foldl_nil]
      rw [UInt8.toNat_ofNat']; omega
theorem dec_run (a : ByteArray) (hd : ∀ c ∈ a.data.toList, 48 ≤ c.toNat ∧ c.toNat ≤ 57) (hs : a.size ≤ 13) : ∀ (d j k : Nat) (x : Int), j + d = a.size → d < k → 0 ≤ x → x < 10 ^ j →
    num_Decimal.l0 k a x (a.size : Int) (j : Int) = if valL x (a.data.toList.drop j) > 1099511627776 then some (0, false) else (num_Text.f (valL x (a.data.toList.drop j))).bind fun t => if t.toList = a.toList then some (valL x (a.data.toList.drop j), true) else some (0, false) := by
  intro d
  induction d with
  | zero =>
    intro j k x hj hk h0 hx
    obtain ⟨k, rfl⟩ : ∃ m, k = m + 1 := ⟨k - 1, by omega⟩
    have hl : a.data.toList.drop j = [] := List.drop_of_length_le (by rw [data_length]; omega)
    rw [num_Decimal.l0, if_neg (by omega), hl]
    rfl
  | succ d ih =>
    intro j k x hj hk h0 hx
    obtain ⟨k, rfl⟩ : ∃ m, k = m + 1 := ⟨k - 1, by omega⟩
    obtain ⟨c, hc, hb⟩ := drop_bt a j (by omega)
    have hcd := hd c (by
      have : c ∈ a.data.toList.drop j := by rw [hc]; exact List.mem_cons_self
      exact List.mem_of_mem_drop this)
    have hp : (10 : Int) ^ j ≤ 10000000000000 := by
      have : (10 : Nat) ^ j ≤ 10 ^ 13 := Nat.pow_le_pow_right (by decide) (by omega)
      have h2 : ((10 ^ j : Nat) : Int) ≤ ((10 ^ 13 : Nat) : Int) := Int.ofNat_le.2 this
      rw [Int.natCast_pow] at h2
      exact h2
    have hx2 : x ≤ 10000000000000 := Int.le_trans (Int.le_of_lt hx) hp
    have h6 : 10 * x + ((c.toNat : Int) - 48) < (10 : Int) ^ (j + 1) := by
      rw [Int.pow_succ]
      exact step_pow _ x _ hx (by omega)
    clear hx hp
    rw [num_Decimal.l0, if_pos (by omega), if_pos (by omega), if_pos (by omega), hb, if_neg (by omega), if_neg (by omega), if_neg (by omega), step_num x _ h0 hx2 (by omega) (by omega), step_j j (by omega), hc]
    exact ih (j + 1) k _ (by omega) (by omega) (by omega) h6
theorem decB_text (n : Int) (h0 : 0 ≤ n) (h1 : n ≤ 1099511627776) : decB (textB n) = (n, true) := by
  obtain ⟨u, rfl⟩ : ∃ u : Nat, n = u := ⟨n.toNat, by omega⟩
  have et : textB (u : Int) = ofL (Lib.decDigits u) := by rw [textB, if_neg (by omega), Lib.itoa_nonneg]; rfl
  have hlen : (Lib.decDigits u).length ≤ 13 := digits_len 12 u (by omega)
  have hsz : (textB (u : Int)).size = (Lib.decDigits u).length := by rw [et, size_ofL]
  have hdt : (textB (u : Int)).data.toList = Lib.decDigits u := by rw [et, data_ofL]
  have hr := dec_run (textB (u : Int)) (by rw [hdt]; exact digits_all u) (by omega) (textB (u : Int)).size 0 20 0 (by omega) (by omega) (by omega) (by decide)
  rw [List.drop_zero, hdt, valL_digits, if_neg (by omega), num_Text.f, if_pos (by omega)] at hr
  simp only [Option.bind_some, if_true] at hr
  rw [decB, num_Decimal.f]
  have h2 : num_Decimal.l0 20 (textB (u : Int)) 0 ((textB (u : Int)).size : Int) 0 = some ((u : Int), true) := hr
  rw [h2]; rfl
end Go.Proofs.YtgmddlbbmlneaaaDoor.PR

/- The root's lines, read again: they give the root back, whatever stands behind them (second part). -/
namespace Go.Proofs.YtgmddlbbmlneaaaDoor.PR
open Go.RowKit Go.Proofs.YtgmddlbbmlneaaaDoorW.PrintWords Go.Proofs.YtgmddlbbmlneaaaDoorW.PrintLast Go.Proofs.YtgmddlbbmlneaaaDoorW.PrintMore
set_option linter.unusedVariables false

theorem refsGo_all2 : ∀ (all l : List S76) (prev : Option ByteArray), refsGo all prev l = true → ∀ x ∈ l, refName x.f0 = true ∧ hexName x.f1 = true
  | _, [], _, _, x, hx => by cases hx
  | all, y :: ys, prev, h, x, hx => by
    have hy : (refName y.f0 = true ∧ hexName y.f1 = true) ∧ refsGo all (some y.f0) ys = true := by
      cases prev <;> rw [refsGo] at h
      all_goals
        split at h
        · rename_i h1
          split at h
          · rename_i h2
            split at h
            · split at h
              · cases h
              · exact ⟨⟨h1, h2⟩, h⟩
            · cases h
          · cases h
        · cases h
    rcases List.mem_cons.1 hx with rfl | h'
    · exact hy.1
    · exact refsGo_all2 all ys _ hy.2 x h'
theorem refsB_all {l : List S76} (h : refsB l = true) : ∀ x ∈ l, refName x.f0 = true ∧ hexName x.f1 = true := by
  simp only [refsB, Bool.and_eq_true] at h
  exact refsGo_all2 l l none h.1
/-- A ref's line without its end. -/
def refBare (x : S76) : List UInt8 := x.f1.data.toList ++ 32 :: x.f0.data.toList
theorem refLine_bare (x : S76) : refLine x = refBare x ++ [10] := by simp [refLine, refBare]
theorem refsText_ends (l : List S76) : refsText l = endsL (l.map refBare) := by
  induction l with
  | nil => rfl
  | cons x l ih =>
    rw [List.map_cons, endsL_cons, ← ih, ← refLine_bare]; rfl
theorem refBare_plain {x : S76} (h1 : refName x.f0 = true) (h2 : hexName x.f1 = true) : (10 : UInt8) ∉ refBare x := by
  intro h
  rcases List.mem_append.1 h with h | h
  · exact (hex_plain h2).1 h
  · rcases List.mem_cons.1 h with h | h
    · cases h
    · exact (refName_plain h1).1 h
theorem refName_small {s : ByteArray} (h : refName s = true) : s.size ≤ 80 := refName_size h
theorem refs_get_go (s : ByteArray) (l : List S76) (hl : refsB l = true) (hs : s.data.toList = refsText l) : ∀ (rest acc : List S76) (k : Nat), acc ++ rest = l → rest.length < k →
    refs_Get.l0 k s acc (ofL (refsText rest)) = some (l, true) := by
  have hok : l.all okRef = true := by
    rw [List.all_eq_true]
    intro x hx
    obtain ⟨h1, h2⟩ := refsB_all hl x hx
    have e1 := refName_small h1
    have e2 := hexName_size h2
    simp only [okRef, Bool.and_eq_true, decide_eq_true_eq]
    omega
  have h64 : l.length ≤ 64 := by simp only [refsB, Bool.and_eq_true, decide_eq_true_eq] at hl; exact hl.2
  have hsz : ∀ x ∈ l, x.f0.size ≤ 80 ∧ x.f1.size = 64 := fun x hx => ⟨refName_small (refsB_all hl x hx).1, hexName_size (refsB_all hl x hx).2⟩
  intro rest
  induction rest with
  | nil =>
    intro acc k ha hk
    obtain ⟨k, rfl⟩ : ∃ m, k = m + 1 := ⟨k - 1, by omega⟩
    rw [List.append_nil] at ha
    subst ha
    have e : (ofL (refsText [])).toList = ([] : List UInt8) := by rw [toList_data, data_ofL]; rfl
    rw [refs_Get.l0, if_pos e, refs_Put.f, if_pos hok, if_pos hl]
    simp only [Option.bind_some, if_true]
    rw [if_pos (by rw [toList_data, toList_data, data_ofL, hs])]
  | cons x rest ih =>
    intro acc k ha hk
    obtain ⟨k, rfl⟩ : ∃ m, k = m + 1 := ⟨k - 1, by omega⟩
    have hx : x ∈ l := by rw [← ha]; simp
    obtain ⟨n1, n2⟩ := refsB_all hl x hx
    have e1 : refsText (x :: rest) = refBare x ++ 10 :: refsText rest := by
      show refLine x ++ refsText rest = _
      rw [refLine_bare]; simp
    have hne : ¬ (ofL (refsText (x :: rest))).toList = [] := by
      rw [toList_data, data_ofL, e1]; simp
    have hc1 : Lib.cut (refsText (x :: rest)) [10] = (refBare x, refsText rest, true) := by rw [e1]; exact cut_one 10 _ _ (refBare_plain n1 n2)
    have hc2 : Lib.cut (refBare x) [32] = (x.f1.data.toList, x.f0.data.toList, true) := cut_one 32 _ _ (hex_plain n2).2
    have hal : acc.length + (rest.length + 1) = l.length := by rw [← ha]; simp
    have hszr : (refsText (x :: rest)).length ≤ 1000000 := by
      have := refsText_length (x :: rest) (fun y hy => by
        have := hsz y (by rw [← ha]; exact List.mem_append_right _ hy)
        omega)
      simp only [List.length_cons] at this
      omega
    have hb : (refBare x).length ≤ 1000000 := by
      rw [e1, List.length_append] at hszr; omega
    rw [refs_Get.l0, if_neg hne, strings_Cut.f, if_pos (by rw [size_ofL]; omega)]
    simp only [Option.bind_some, data_ofL]
    rw [hc1]
    simp only []
    rw [strings_Cut.f, if_pos (by show (ofL (refBare x)).size < _; rw [size_ofL]; omega)]
    simp only [Option.bind_some]
    rw [hc2]
    simp only []
    rw [if_pos (by omega)]
    have hr := ih (acc ++ [x]) k (by simp [← ha]) (by simp only [List.length_cons] at hk; omega)
    exact hr
theorem refs_back {l : List S76} (hl : refsB l = true) : refsGetB (ofL (refsText l)) = (l, true) := by
  have h := refs_get_go (ofL (refsText l)) l hl (data_ofL _) l [] ((ofL (refsText l)).size + 1) rfl (by
    rw [size_ofL, refsText_ends]
    have : ∀ m : List (List UInt8), m.length ≤ (endsL m).length := by
      intro m
      induction m with
      | nil => exact Nat.le_refl _
      | cons y m ih => rw [endsL_cons]; simp only [List.length_cons, List.length_append, List.length_nil]; omega
    have := this (l.map refBare)
    rw [List.length_map] at this
    omega)
  have h2 : refs_Get.f ((ofL (refsText l)).size + 1) (ofL (refsText l)) = some (l, true) := h
  rw [refsGetB, h2]; rfl

/-- Words with blanks between them. -/
def wordsL (ws : List ByteArray) : List UInt8 := Lib.join (ws.map (·.data.toList)) [32]
theorem lineL_words (ws : List ByteArray) : lineL ws = wordsL ws ++ [10] := rfl
theorem words_back (ws : List ByteArray) (h0 : ws ≠ []) (h : ∀ x ∈ ws, plainS x.data.toList) : splitS 32 (ofL (wordsL ws)) = ws := by
  rw [splitS, data_ofL, wordsL, splitL_join 32 _ (by simpa using h0) (fun p hp => by
    obtain ⟨x, hx, rfl⟩ := List.mem_map.1 hp
    exact (h x hx).2), map_ofL_data]
theorem words_plain : ∀ (ws : List ByteArray), (∀ x ∈ ws, plainS x.data.toList) → (10 : UInt8) ∉ wordsL ws
  | [], _ => by simp [wordsL, Lib.join_nil]
  | [x], h => by rw [wordsL, List.map_cons, List.map_nil, Lib.join_one]; exact (h x (by simp)).1
  | x :: y :: ws, h => by
    have e : wordsL (x :: y :: ws) = x.data.toList ++ 32 :: wordsL (y :: ws) := by
      rw [wordsL, wordsL, List.map_cons, List.map_cons, Lib.join_cons, Lib.join_cons]
      simp [Lib.joinTail]
    rw [e]
    intro k
    rcases List.mem_append.1 k with k | k
    · exact (h x (by simp)).1 k
    · rcases List.mem_cons.1 k with k | k
      · cases k
      · exact words_plain (y :: ws) (fun z hz => h z (List.mem_cons_of_mem _ hz)) k
theorem wordsP_back (first : ByteArray) (ws : List ByteArray) (t : List ByteArray) (h : ∀ x ∈ first :: ws, plainS x.data.toList) :
    wordsP first (ws.length + 1) (ofL (wordsL (first :: ws)) :: t) false = (first :: ws, t, false) := by
  have hb := words_back (first :: ws) (by simp) h
  unfold wordsP
  simp only [hb]
  rw [if_neg (by simp)]
theorem someP_back (l t : List ByteArray) : someP (l.length : Int) (l ++ t) false = (l, t, false) := by
  unfold someP
  rw [if_neg (by simp; omega), Int.toNat_natCast, List.take_left, List.drop_left]
/-- The words of a fork's first line. -/
def forkWords (x : S40) : List ByteArray := [x.f0, linkS x.f1, x.f2, textB x.f3.length, textB x.f4.length]
/-- A fork's lines without their ends. -/
def forkLines (x : S40) : List (List UInt8) := wordsL (⟨#[102, 111, 114, 107]⟩ :: forkWords x) :: (x.f3.map refBare ++ x.f4.map (·.data.toList))
def rootLines (a : Int) (l1 : List ByteArray) (l2 : List S40) : List (List UInt8) :=
  wordsL [⟨#[110, 101, 116]⟩, textB a] :: wordsL [⟨#[112, 111, 111, 108]⟩, textB l1.length] :: (l1.map (·.data.toList) ++ wordsL [⟨#[102, 111, 114, 107, 115]⟩, textB l2.length] :: l2.flatMap forkLines)
theorem rowsL_ends (l : List ByteArray) : rowsL l = endsL (l.map (·.data.toList)) := by
  induction l with
  | nil => rfl
  | cons x l ih => rw [List.map_cons, endsL_cons, ← ih]; rfl
theorem forkText_ends (x : S40) : forkText x = endsL (forkLines x) := by
  rw [forkText, forkLines, endsL_cons, endsL_append, ← refsText_ends, ← rowsL_ends, forkHead, lineL_words]
  simp [forkWords]
theorem forksText_ends : ∀ l : List S40, l.flatMap forkText = endsL (l.flatMap forkLines)
  | [] => rfl
  | x :: l => by rw [List.flatMap_cons, List.flatMap_cons, endsL_append, forksText_ends l, forkText_ends]
theorem rootText_ends (a : Int) (l1 : List ByteArray) (l2 : List S40) : rootText a l1 l2 = endsL (rootLines a l1 l2) := by
  rw [rootText, rootLines, endsL_cons, endsL_cons, endsL_append, endsL_cons, ← forksText_ends, ← rowsL_ends, rootHead, lineL_words, lineL_words, lineL_words]
  simp

theorem forkB_all {x : S40} (h : forkB x = true) : forkName x.f0 = true ∧ refName x.f2 = true ∧ refsB x.f3 = true ∧ packsB x.f4 = true := by
  unfold forkB at h
  split at h
  · rename_i h0
    split at h
    · rename_i h1
      split at h
      · rename_i h2
        split at h
        · rename_i h3
          exact ⟨h0, h3, h2, h1⟩
        · cases h
      · cases h
    · cases h
  · cases h
theorem packsB_hex {l : List ByteArray} (h : packsB l = true) : ∀ x ∈ l, hexName x = true := by
  simp only [packsB, Bool.and_eq_true, decide_eq_true_eq] at h
  have : ∀ (l seen : List ByteArray), packsGo seen l = true → ∀ x ∈ l, hexName x = true := by
    intro l
    induction l with
    | nil => intro _ _ x hx; cases hx
    | cons y ys ih =>
      intro seen h x hx
      rw [packsGo] at h
      split at h
      · cases h
      · split at h
        · rename_i h2
          rcases List.mem_cons.1 hx with rfl | hx'
          · exact h2
          · exact ih _ h x hx'
        · cases h
  exact this l [] h.1
theorem link_plain (b : Bool) : plainS (linkS b).data.toList := by cases b <;> (unfold plainS linkS; decide)
theorem forkWords_plain {x : S40} (h : forkB x = true) : ∀ y ∈ (⟨#[102, 111, 114, 107]⟩ : ByteArray) :: forkWords x, plainS y.data.toList := by
  obtain ⟨h0, h2, h3, h4⟩ := forkB_all h
  intro y hy
  simp only [forkWords, List.mem_cons, List.not_mem_nil, or_false] at hy
  rcases hy with rfl | rfl | rfl | rfl | rfl | rfl
  · unfold plainS; decide
  · exact forkName_plain h0
  · exact link_plain _
  · exact refName_plain h2
  · exact text_plain (by omega)
  · exact text_plain (by omega)
theorem forkLines_plain {x : S40} (h : forkB x = true) : ∀ p ∈ forkLines x, (10 : UInt8) ∉ p := by
  obtain ⟨h0, h2, h3, h4⟩ := forkB_all h
  intro p hp
  rcases List.mem_cons.1 hp with rfl | hp
  · exact words_plain _ (forkWords_plain h)
  · rcases List.mem_append.1 hp with hp | hp
    · obtain ⟨y, hy, rfl⟩ := List.mem_map.1 hp
      exact refBare_plain (refsB_all h3 y hy).1 (refsB_all h3 y hy).2
    · obtain ⟨y, hy, rfl⟩ := List.mem_map.1 hp
      exact (hex_plain (packsB_hex h4 y hy)).1
theorem word2_plain (f : ByteArray) (n : Int) (hn : 0 ≤ n) (hf : plainS f.data.toList) : ∀ y ∈ [f, textB n], plainS y.data.toList := by
  intro y hy
  simp only [List.mem_cons, List.not_mem_nil, or_false] at hy
  rcases hy with rfl | rfl
  · exact hf
  · exact text_plain hn
theorem rootLines_plain {a : Int} {l1 : List ByteArray} {l2 : List S40} (h : rootB a l1 l2 = true) : ∀ p ∈ rootLines a l1 l2, (10 : UInt8) ∉ p := by
  obtain ⟨h0, h1, h2, h3, h4⟩ := rootB_parts h
  intro p hp
  rcases List.mem_cons.1 hp with rfl | hp
  · exact words_plain _ (word2_plain _ _ h0 (by unfold plainS; decide))
  rcases List.mem_cons.1 hp with rfl | hp
  · exact words_plain _ (word2_plain _ _ (by omega) (by unfold plainS; decide))
  rcases List.mem_append.1 hp with hp | hp
  · obtain ⟨y, hy, rfl⟩ := List.mem_map.1 hp
    exact (hex_plain (packsB_hex h2 y hy)).1
  rcases List.mem_cons.1 hp with rfl | hp
  · exact words_plain _ (word2_plain _ _ (by omega) (by unfold plainS; decide))
  · obtain ⟨x, hx, hp⟩ := List.mem_flatMap.1 hp
    exact forkLines_plain (h4 x hx) p hp

theorem numberP_text (n : Int) (h0 : 0 ≤ n) (h1 : n ≤ 1099511627776) : numberP (textB n) false = (n, false) := by
  rw [numberP, decB_text n h0 h1]; rfl
theorem link_back (b : Bool) : ((linkS b).toList == [108, 105, 110, 107, 101, 100]) = b := by
  rw [toList_data]; cases b <;> decide
theorem forkP_back {x : S40} (h : forkB x = true) (t : List ByteArray) : forkP ((forkLines x).map ofL ++ t) false = (x, t, false) := by
  obtain ⟨h0, h2, h3, h4⟩ := forkB_all h
  have l3 : x.f3.length ≤ 64 := by simp only [refsB, Bool.and_eq_true, decide_eq_true_eq] at h3; exact h3.2
  have l4 : x.f4.length ≤ 24 := by simp only [packsB, Bool.and_eq_true, decide_eq_true_eq] at h4; exact h4.2
  have hw := wordsP_back ⟨#[102, 111, 114, 107]⟩ (forkWords x) ((x.f3.map refBare).map ofL ++ (x.f4 ++ t)) (forkWords_plain h)
  have e : (forkLines x).map ofL ++ t = ofL (wordsL (⟨#[102, 111, 114, 107]⟩ :: forkWords x)) :: ((x.f3.map refBare).map ofL ++ (x.f4 ++ t)) := by
    rw [forkLines, List.map_cons, List.map_append, map_ofL_data]; simp
  have hw' : wordsP ⟨#[102, 111, 114, 107]⟩ 6 ((forkLines x).map ofL ++ t) false = (⟨#[102, 111, 114, 107]⟩ :: forkWords x, (x.f3.map refBare).map ofL ++ (x.f4 ++ t), false) := by rw [e]; exact hw
  have hs1 := someP_back ((x.f3.map refBare).map ofL) (x.f4 ++ t)
  rw [List.length_map, List.length_map] at hs1
  have hs2 := someP_back x.f4 t
  have hrows : rowsL ((x.f3.map refBare).map ofL) = refsText x.f3 := by
    rw [rowsL_ends, refsText_ends]
    congr 1
    rw [List.map_map]
    conv => rhs; rw [← List.map_id (x.f3.map refBare)]
    apply List.map_congr_left
    intro p _
    exact data_ofL p
  have n4 : numberP (textB x.f3.length) false = ((x.f3.length : Int), false) := numberP_text _ (by omega) (by omega)
  have n5 : numberP (textB x.f4.length) false = ((x.f4.length : Int), false) := numberP_text _ (by omega) (by omega)
  have w1 : wordAt (⟨#[102, 111, 114, 107]⟩ :: forkWords x) 1 = x.f0 := rfl
  have w2 : wordAt (⟨#[102, 111, 114, 107]⟩ :: forkWords x) 2 = linkS x.f1 := rfl
  have w3 : wordAt (⟨#[102, 111, 114, 107]⟩ :: forkWords x) 3 = x.f2 := rfl
  have w4 : wordAt (⟨#[102, 111, 114, 107]⟩ :: forkWords x) 4 = textB x.f3.length := rfl
  have w5 : wordAt (⟨#[102, 111, 114, 107]⟩ :: forkWords x) 5 = textB x.f4.length := rfl
  unfold forkP
  rw [hw']
  simp only [w1, w2, w3, w4, w5, n4, n5, hs1, hrows, refs_back h3, hs2, link_back, Bool.not_true, Bool.or_false]
theorem forksP_back : ∀ (l acc : List S40) (t : List ByteArray), (∀ x ∈ l, forkB x = true) → forksP l.length ((l.flatMap forkLines).map ofL ++ t) false acc = (acc ++ l, false)
  | [], acc, t, _ => by rw [List.append_nil]; rfl
  | x :: l, acc, t, h => by
    have e : ((x :: l).flatMap forkLines).map ofL ++ t = (forkLines x).map ofL ++ ((l.flatMap forkLines).map ofL ++ t) := by
      rw [List.flatMap_cons, List.map_append, List.append_assoc]
    have hx := forkP_back (h x (by simp)) ((l.flatMap forkLines).map ofL ++ t)
    rw [List.length_cons, forksP, if_neg (by simp), e, hx]
    simp only []
    rw [forksP_back l (acc ++ [x]) t (fun y hy => h y (List.mem_cons_of_mem _ hy)), List.append_assoc]; rfl
/-- A right root is read of its lines as it was, whatever stands behind them. -/
theorem root_back {a : Int} {l1 : List ByteArray} {l2 : List S40} (h : rootB a l1 l2 = true) (rest : List UInt8) : linesP (ofL (rootText a l1 l2 ++ rest)) = (a, l1, l2, false) := by
  obtain ⟨h0, h1, h2, h3, h4⟩ := rootB_parts h
  have l1b : l1.length ≤ 24 := by simp only [packsB, Bool.and_eq_true, decide_eq_true_eq] at h2; exact h2.2
  have hsp : splitS 10 (ofL (rootText a l1 l2 ++ rest)) = ofL (wordsL [⟨#[110, 101, 116]⟩, textB a]) :: ofL (wordsL [⟨#[112, 111, 111, 108]⟩, textB l1.length]) :: (l1 ++ (ofL (wordsL [⟨#[102, 111, 114, 107, 115]⟩, textB l2.length]) :: ((l2.flatMap forkLines).map ofL ++ (splitL 10 rest).map ofL))) := by
    rw [splitS, data_ofL, rootText_ends, splitL_ends _ _ (rootLines_plain h), List.map_append, rootLines]
    simp only [List.map_cons, List.map_append, map_ofL_data, List.cons_append, List.append_assoc]
  have q1 := wordsP_back ⟨#[110, 101, 116]⟩ [textB a] (ofL (wordsL [⟨#[112, 111, 111, 108]⟩, textB l1.length]) :: (l1 ++ (ofL (wordsL [⟨#[102, 111, 114, 107, 115]⟩, textB l2.length]) :: ((l2.flatMap forkLines).map ofL ++ (splitL 10 rest).map ofL)))) (word2_plain _ _ h0 (by unfold plainS; decide))
  have q2 := wordsP_back ⟨#[112, 111, 111, 108]⟩ [textB l1.length] (l1 ++ (ofL (wordsL [⟨#[102, 111, 114, 107, 115]⟩, textB l2.length]) :: ((l2.flatMap forkLines).map ofL ++ (splitL 10 rest).map ofL))) (word2_plain _ _ (by omega) (by unfold plainS; decide))
  have q3 := wordsP_back ⟨#[102, 111, 114, 107, 115]⟩ [textB l2.length] ((l2.flatMap forkLines).map ofL ++ (splitL 10 rest).map ofL) (word2_plain _ _ (by omega) (by unfold plainS; decide))
  have n1 := numberP_text a h0 h1
  have n2 : numberP (textB l1.length) false = ((l1.length : Int), false) := numberP_text _ (by omega) (by omega)
  have n3 : numberP (textB l2.length) false = ((l2.length : Int), false) := numberP_text _ (by omega) (by omega)
  have s1 := someP_back l1 (ofL (wordsL [⟨#[102, 111, 114, 107, 115]⟩, textB l2.length]) :: ((l2.flatMap forkLines).map ofL ++ (splitL 10 rest).map ofL))
  have f1 := forksP_back l2 [] ((splitL 10 rest).map ofL) h4
  have w1 : ∀ (f y : ByteArray), wordAt [f, y] 1 = y := fun _ _ => rfl
  unfold linesP
  rw [hsp]
  simp only [List.length_cons, List.length_nil, Nat.zero_add] at q1 q2 q3
  simp only [q1, q2, q3, w1, n1, n2, n3, s1, Int.toNat_natCast, f1, List.nil_append]
end Go.Proofs.YtgmddlbbmlneaaaDoor.PR

/- What follows of a root's lines, in plain words: there and back, cut lines, lines with more, unlike roots, how many lines. -/
namespace Go.Proofs.YtgmddlbbmlneaaaDoor.PR
open Go.RowKit Go.Proofs.YtgmddlbbmlneaaaDoorW.PrintWords Go.Proofs.YtgmddlbbmlneaaaDoorW.PrintLast Go.Proofs.YtgmddlbbmlneaaaDoorW.PrintMore
set_option linter.unusedVariables false

theorem getP_inv {s : ByteArray} {c : Int} {p : List ByteArray} {f : List S40} (h : getP s = (c, p, f, true)) : rootB c p f = true ∧ rootText c p f = s.data.toList := by
  unfold getP at h
  by_cases k : (linesP s).2.2.2 = false ∧ rootB (linesP s).1 (linesP s).2.1 (linesP s).2.2.1 = true ∧ rootText (linesP s).1 (linesP s).2.1 (linesP s).2.2.1 = s.data.toList
  · simp only [k, and_self, if_true, Prod.mk.injEq, and_true] at h
    obtain ⟨rfl, rfl, rfl⟩ := h
    exact k.2
  · simp only [if_neg k, Prod.mk.injEq] at h
    exact absurd h.2.2.2 (by simp)
theorem getP_inv0 {s : ByteArray} {c : Int} {p : List ByteArray} {f : List S40} (h : getP s = (c, p, f, false)) : c = 0 ∧ p = [] ∧ f = [] := by
  unfold getP at h
  by_cases k : (linesP s).2.2.2 = false ∧ rootB (linesP s).1 (linesP s).2.1 (linesP s).2.2.1 = true ∧ rootText (linesP s).1 (linesP s).2.1 (linesP s).2.2.1 = s.data.toList
  · simp only [k, and_self, if_true, Prod.mk.injEq] at h
    exact absurd h.2.2.2 (by simp)
  · simp only [if_neg k, Prod.mk.injEq] at h
    exact ⟨h.1.symm, h.2.1.symm, h.2.2.1.symm⟩
theorem getP_text {a : Int} {l1 : List ByteArray} {l2 : List S40} (h : rootB a l1 l2 = true) : getP (ofL (rootText a l1 l2)) = (a, l1, l2, true) := by
  have hb := root_back h []
  rw [List.append_nil] at hb
  exact getP_yes hb ⟨rfl, h, (data_ofL _).symm⟩
theorem rootB_ok {a : Int} {l1 : List ByteArray} {l2 : List S40} (h : rootB a l1 l2 = true) : okRoot l1 l2 = true := by
  obtain ⟨h0, h1, h2, h3, h4⟩ := rootB_parts h
  obtain ⟨k1, k2⟩ := hexName_all h2
  simp only [okRoot, Bool.and_eq_true, List.all_eq_true, decide_eq_true_eq]
  refine ⟨⟨fun y hy => ?_, by omega⟩, fun x hx => ?_⟩
  · have := k2 y hy; simp only [okS, decide_eq_true_eq]; omega
  · obtain ⟨s0, s2, s3, s4⟩ := forkB_parts (h4 x hx)
    obtain ⟨m1, m2⟩ := hexName_all s4
    obtain ⟨n1, n2⟩ := refsB_sizes s3
    simp only [okFork, okS, Bool.and_eq_true, List.all_eq_true, decide_eq_true_eq]
    refine ⟨⟨⟨⟨by omega, by omega⟩, fun y hy => ?_⟩, fun y hy => ?_⟩, by omega⟩
    · have := n2 y hy
      simp only [okRef, Bool.and_eq_true, decide_eq_true_eq]; omega
    · have := m2 y hy; omega
theorem rootText_length {a : Int} {l1 : List ByteArray} {l2 : List S40} (h : rootB a l1 l2 = true) : (rootText a l1 l2).length ≤ 400000 := by
  obtain ⟨h0, h1, h2, h3, h4⟩ := rootB_parts h
  obtain ⟨k1, k2⟩ := hexName_all h2
  have e1 := forksText_length l2 h4
  have e2 := rowsL_length (l := l1) (n := 64) (fun y hy => Nat.le_of_eq (k2 y hy))
  have u1 := textB_size a (by omega) (by omega)
  have u2 := textB_size (l1.length : Int) (by omega) (by omega)
  have u3 := textB_size (l2.length : Int) (by omega) (by omega)
  have v1 := lineL_length [⟨#[110, 101, 116]⟩, textB a]
  have v2 := lineL_length [⟨#[112, 111, 111, 108]⟩, textB l1.length]
  have v3 := lineL_length [⟨#[102, 111, 114, 107, 115]⟩, textB l2.length]
  simp only [List.map_cons, List.map_nil, List.sum_cons, List.sum_nil, List.length_cons, List.length_nil, show (⟨#[110, 101, 116]⟩ : ByteArray).size = 3 from rfl, show (⟨#[112, 111, 111, 108]⟩ : ByteArray).size = 4 from rfl, show (⟨#[102, 111, 114, 107, 115]⟩ : ByteArray).size = 5 from rfl] at v1 v2 v3
  simp only [rootText, rootHead, List.length_append]
  omega
/-- Unlike roots have unlike lines; no one's lines begin another one's. -/
theorem text_begin {a b : Int} {l1 m1 : List ByteArray} {l2 m2 : List S40} (h : rootB a l1 l2 = true) (k : rootB b m1 m2 = true) (rest : List UInt8) (e : rootText a l1 l2 ++ rest = rootText b m1 m2) : a = b ∧ l1 = m1 ∧ l2 = m2 := by
  have h1 := root_back h rest
  have h2 := root_back k []
  rw [List.append_nil, ← e, h1] at h2
  simpa using h2
theorem text_inj {a b : Int} {l1 m1 : List ByteArray} {l2 m2 : List S40} (h : rootB a l1 l2 = true) (k : rootB b m1 m2 = true) : rootText a l1 l2 = rootText b m1 m2 ↔ a = b ∧ l1 = m1 ∧ l2 = m2 :=
  ⟨fun e => text_begin h k [] (by rw [List.append_nil]; exact e), fun ⟨e1, e2, e3⟩ => by rw [e1, e2, e3]⟩
theorem cut_no {a : Int} {l1 : List ByteArray} {l2 : List S40} (h : rootB a l1 l2 = true) (n : Nat) (hn : n < (rootText a l1 l2).length) : (getP (ofL ((rootText a l1 l2).take n))).2.2.2 = false := by
  cases hg : (getP (ofL ((rootText a l1 l2).take n))).2.2.2 with
  | false => rfl
  | true =>
    obtain ⟨⟨c, p, f, on⟩, hx⟩ : ∃ R, getP (ofL ((rootText a l1 l2).take n)) = R := ⟨_, rfl⟩
    rw [hx] at hg
    obtain rfl : on = true := hg
    obtain ⟨k1, k2⟩ := getP_inv hx
    rw [data_ofL] at k2
    obtain ⟨rfl, rfl, rfl⟩ := text_begin k1 h ((rootText a l1 l2).drop n) (by rw [k2, List.take_append_drop])
    have := congrArg List.length k2
    rw [List.length_take] at this
    omega
theorem more_no {a : Int} {l1 : List ByteArray} {l2 : List S40} (h : rootB a l1 l2 = true) (c : UInt8) : (getP (ofL (rootText a l1 l2 ++ [c]))).2.2.2 = false := by
  cases hg : (getP (ofL (rootText a l1 l2 ++ [c]))).2.2.2 with
  | false => rfl
  | true =>
    obtain ⟨⟨d, p, f, on⟩, hx⟩ : ∃ R, getP (ofL (rootText a l1 l2 ++ [c])) = R := ⟨_, rfl⟩
    rw [hx] at hg
    obtain rfl : on = true := hg
    obtain ⟨k1, k2⟩ := getP_inv hx
    rw [data_ofL] at k2
    obtain ⟨rfl, rfl, rfl⟩ := text_begin h k1 [c] k2.symm
    have := congrArg List.length k2
    rw [List.length_append, List.length_singleton] at this
    omega
theorem ends_count : ∀ (ls : List (List UInt8)), (∀ p ∈ ls, (10 : UInt8) ∉ p) → (endsL ls).count 10 = ls.length
  | [], _ => rfl
  | p :: ls, h => by
    rw [endsL_cons, List.count_append, List.count_append, ends_count ls (fun q hq => h q (List.mem_cons_of_mem _ hq)), List.count_eq_zero.2 (h p (by simp))]
    simp
    omega
def sumN (l : List S40) : Nat := (l.map fun x => 1 + x.f3.length + x.f4.length).sum
theorem forkLines_count : ∀ l : List S40, (l.flatMap forkLines).length = sumN l
  | [] => rfl
  | x :: l => by
    rw [List.flatMap_cons, List.length_append, forkLines_count l]
    simp only [forkLines, List.length_cons, List.length_append, List.length_map, sumN, List.map_cons, List.sum_cons]
    omega
/-- A right root has a line of each thing. -/
theorem text_lines {a : Int} {l1 : List ByteArray} {l2 : List S40} (h : rootB a l1 l2 = true) : (rootText a l1 l2).count 10 = 3 + l1.length + sumN l2 := by
  rw [rootText_ends, ends_count _ (rootLines_plain h)]
  simp only [rootLines, List.length_cons, List.length_append, List.length_map, forkLines_count]
  omega
theorem ends_last : ∀ (ls : List (List UInt8)), ls ≠ [] → (endsL ls).getLast? = some 10
  | [], h => absurd rfl h
  | [p], _ => by simp [endsL]
  | p :: q :: ls, _ => by
    rw [endsL_cons, List.getLast?_append, ends_last (q :: ls) (by simp)]; rfl
theorem text_last (a : Int) (l1 : List ByteArray) (l2 : List S40) : (rootText a l1 l2).getLast? = some 10 := by
  rw [rootText_ends]; exact ends_last _ (by simp [rootLines])
theorem text_pos (a : Int) (l1 : List ByteArray) (l2 : List S40) : 0 < (rootText a l1 l2).length := by
  cases h : rootText a l1 l2 with
  | nil => have := text_last a l1 l2; rw [h] at this; cases this
  | cons x l => simp
theorem intsOf_length (l : List UInt8) : (intsOf l).length = l.length := by simp [intsOf]
theorem get_text {a : Int} {l1 : List ByteArray} {l2 : List S40} (h : rootB a l1 l2 = true) : root_Get.f (intsOf (rootText a l1 l2)) = some (a, l1, l2, true) := by
  rw [root_Get.f, if_pos (by rw [intsOf_length]; have := rootText_length h; omega), strOfNums_ints]
  exact congrArg some (getP_text h)
end Go.Proofs.YtgmddlbbmlneaaaDoor.PR

namespace Go.Proofs.YtgmddlbbmlneaaaDoor.PR
open Go.RowKit Go.Proofs.YtgmddlbbmlneaaaDoorW.PrintWords Go.Proofs.YtgmddlbbmlneaaaDoorW.PrintLast Go.Proofs.YtgmddlbbmlneaaaDoorW.PrintMore
attribute [local go_sem] max2_int min2_int max_two min_two max_three min_three max_four min_four   -- for this text's walks alone
set_option linter.unusedVariables false
set_option linter.unusedSimpArgs false

theorem eqA76 (d : Nat) (w : World) (x0 y0 : ByteArray) (x1 y1 : ByteArray) :
    (Op.equalIn (d + 2) 76 (.agg #[.string x0, .string x1]) (.agg #[.string y0, .string y1])).run Tryd.prog w = .ok (x0.toList == y0.toList && (x1.toList == y1.toList)) w := by
  refine eqA_of Tryd.underlying76 (by kernel_rfl) ?_
  refine eqf_cons (by rfl) (by go_simp; rfl) (by go_simp; rfl) (by go_simp) ?_
  exact eqf_last (by rfl) (by go_simp; rfl) (by go_simp; rfl) (by go_simp)
end Go.Proofs.YtgmddlbbmlneaaaDoor.PR
