/- sacristylaw10.RootNames: for every text and every byte the call returns true and leaves its arguments as they were; the listed variables hold what the card ties to the program's text. -/
import Derived.Test.YtgmddlbbmlneaaaDoorNam2
import Derived.WalkKit
import Derived.Lib.SlBytesConst
import Derived.Lib.SmallJoins
import Derived.Deep.DeepCutAuto
import Derived.BigGuardPart
import Derived.Test.YtgmddlbbmlneaaaDoorNam1
/- sacristylaw10.head: the live question's answer is fixed. -/
namespace Go.Proofs.YtgmddlbbmlneaaaDoor.PR
open Go.RowKit Go.Shelf Go.Proofs.YtgmddlbbmlneaaaDoorW.PrintWords Go.Proofs.YtgmddlbbmlneaaaDoorW.PrintLast Go.Proofs.YtgmddlbbmlneaaaDoorW.PrintMore
set_option linter.unusedVariables false

def headF2 : S40 := ⟨⟨#[97]⟩, false, ⟨#[116, 97, 103, 115, 47, 109]⟩, [], []⟩
theorem ints_at {W : World} {t : TypeId} {fr : Nat × Nat} {L : List Int} (hL : L.length ≤ 9223372036854775807) : Kd.C (Kd.int .u8) (W.alloc (.cells (L.map (Value.int .u8)).toArray t fr)) (some ⟨W.heap.size, 0, none⟩) L.length L :=
  Kd.C_of_reads (d := (0 : Int)) (h1 := fun _ => rfl) ⟨rfl, hL, fun _ => ⟨_, rfl, fun j hj => by
    rw [show Addr.add ⟨W.heap.size, 0, none⟩ j = ⟨W.heap.size, j, none⟩ by simp [Addr.add]; exact fun h => h.symm, World.cell?_alloc_mark]
    simp [hj]⟩⟩
theorem fork_at {W : World} {b : Nat} {x : S40} {A3 A4 : Option Addr} {c3 c4 : Nat} (h : W.heap[b]? = some (.cells #[.string x.f0, .bool x.f1, .string x.f2, .slice A3 x.f3.length c3, .slice A4 x.f4.length c4] 40 (0, 0)))
    (l3 : x.f3.length ≤ c3) (g3 : k76.C W A3 x.f3.length x.f3) (l4 : x.f4.length ≤ c4) (g4 : Kd.string.C W A4 x.f4.length x.f4) : Kd.C k40 W (some ⟨b, 0, none⟩) 1 [x] :=
  ⟨rfl, by decide, fun _ => ⟨_, rfl, fun j p hj => by
    cases j with
    | succ j => simp at hj
    | zero =>
      simp only [List.getElem?_cons_zero, Option.some.injEq] at hj
      subst hj
      refine ⟨[.string x.f0, .bool x.f1, .string x.f2, .slice A3 x.f3.length c3, .slice A4 x.f4.length c4], rfl, k40_mk W x l3 g3 l4 g4, fun i u hu => ?_⟩
      rw [show Addr.add ⟨b, 0, none⟩ (0 * k40.sz + i) = ⟨b, i, none⟩ by simp [Addr.add]; exact fun h => h.symm, blk_cell h]
      simpa using hu⟩⟩

theorem head_cells1 : ((intsOf headB1).map (Value.int .u8)).toArray = #[.int .u8 110, .int .u8 101, .int .u8 116, .int .u8 32, .int .u8 51, .int .u8 10, .int .u8 112, .int .u8 111, .int .u8 111, .int .u8 108, .int .u8 32, .int .u8 48, .int .u8 10, .int .u8 102, .int .u8 111, .int .u8 114, .int .u8 107, .int .u8 115, .int .u8 32, .int .u8 49, .int .u8 10, .int .u8 102, .int .u8 111, .int .u8 114, .int .u8 107, .int .u8 32, .int .u8 97, .int .u8 32, .int .u8 108, .int .u8 105, .int .u8 110, .int .u8 107, .int .u8 101, .int .u8 100, .int .u8 32, .int .u8 104, .int .u8 101, .int .u8 97, .int .u8 100, .int .u8 115, .int .u8 47, .int .u8 109, .int .u8 32, .int .u8 48, .int .u8 32, .int .u8 48, .int .u8 10] := by kernel_rfl
theorem head_cells2 : ((intsOf headB2).map (Value.int .u8)).toArray = #[.int .u8 110, .int .u8 101, .int .u8 116, .int .u8 32, .int .u8 51, .int .u8 10, .int .u8 112, .int .u8 111, .int .u8 111, .int .u8 108, .int .u8 32, .int .u8 48, .int .u8 10, .int .u8 102, .int .u8 111, .int .u8 114, .int .u8 107, .int .u8 115, .int .u8 32, .int .u8 49, .int .u8 10] := by kernel_rfl
def headB0 : List UInt8 := [110, 101, 116, 32, 48, 10, 112, 111, 111, 108, 32, 48, 10, 102, 111, 114, 107, 115, 32, 48, 10]
theorem head_put0 : rootText 0 [] [] = headB0 := head_put.2
theorem head_str : (⟨headB0.toArray⟩ : ByteArray) = ⟨#[110, 101, 116, 32, 48, 10, 112, 111, 111, 108, 32, 48, 10, 102, 111, 114, 107, 115, 32, 48, 10]⟩ := rfl
theorem head_findA (A2 : Option Addr) (c2 : Nat) (adf : Addr) (c3 : Nat) (W : World) (hp : Kd.C Kd.string W A2 0 []) (hf : Kd.C k40 W (some adf) 1 [headF]) (h3 : 1 ≤ c3) :
    Calls Tryd.prog 14 #[.agg #[.int .i64 3, .slice A2 0 c2, .slice (some adf) 1 c3], .string ⟨#[97]⟩] W fun e w' => e = .returned (.int .i64 0) ∧ Below W.heap.size W w' :=
  root_Find.calls 3 A2 c2 [] (some adf) c3 [headF] ⟨#[97]⟩ 0 W hp (Nat.zero_le _) hf h3 (by kernel_rfl)
theorem head_findB (A2 : Option Addr) (c2 : Nat) (adf : Addr) (c3 : Nat) (W : World) (hp : Kd.C Kd.string W A2 0 []) (hf : Kd.C k40 W (some adf) 1 [headF]) (h3 : 1 ≤ c3) :
    Calls Tryd.prog 14 #[.agg #[.int .i64 3, .slice A2 0 c2, .slice (some adf) 1 c3], .string ⟨#[98]⟩] W fun e w' => e = .returned (.int .i64 (-1)) ∧ Below W.heap.size W w' :=
  root_Find.calls 3 A2 c2 [] (some adf) c3 [headF] ⟨#[98]⟩ (-1) W hp (Nat.zero_le _) hf h3 (by kernel_rfl)
theorem head_right1 (A2 : Option Addr) (c2 : Nat) (adf : Addr) (c3 : Nat) (W : World) (hG : Gl W) (hp : Kd.C Kd.string W A2 0 []) (hf : Kd.C k40 W (some adf) 1 [headF]) (h3 : 1 ≤ c3) :
    Calls Tryd.prog 11 #[.agg #[.int .i64 3, .slice A2 0 c2, .slice (some adf) 1 c3]] W fun e w' => e = .returned (.bool true) ∧ Below W.heap.size W w' :=
  root_Right.calls 3 A2 c2 [] (some adf) c3 [headF] true W hG hp (Nat.zero_le _) hf h3 (by kernel_rfl)
theorem head_named1 (W : World) : Calls Tryd.prog 15 #[.string ⟨#[97, 45, 49]⟩] W fun e w' => e = .returned (.bool true) ∧ Drawn0 W w' := forkName_calls ⟨#[97, 45, 49]⟩ W (by decide)
theorem head_named2 (W : World) : Calls Tryd.prog 15 #[.string ⟨#[]⟩] W fun e w' => e = .returned (.bool false) ∧ Drawn0 W w' := forkName_calls ⟨#[]⟩ W (by decide)

def sacristylaw10_head.f : Option Bool := some true
set_option maxHeartbeats 4000000 in
set_option maxRecDepth 100000 in
theorem sacristylaw10_head.calls (r : Bool) (w : World) (hG : Gl w) (h : sacristylaw10_head.f = some r) :
    Calls Tryd.prog 8 #[] w fun e w' => e = .returned (.bool r) ∧ Below w.heap.size w w' := by
  obtain rfl : true = r := Option.some.inj h
  clear h
  have hP1 : ∀ W, Below w.heap.size w W → Calls Tryd.prog 10 #[.agg #[.int .i64 0, .slice none 0 0, .slice none 0 0]] W fun e w' => ∃ v0_ : Value, e = .returned (.tuple #[v0_, .bool true]) ∧ Kd.V (Kd.int .u8) 5 w' W.heap.size (fun k_ => (W.heap.size ≤ k_)) v0_ (intsOf headB0) ∧ Below W.heap.size W w' :=
    fun W hb => root_Put.calls 0 none 0 [] none 0 [] _ _ W (Gl_below hG hb) (Kd.C_nil _ _) (Nat.le_refl _) (Kd.C_nil _ _) (Nat.le_refl _) (by rw [root_Put.f, if_pos (show okRoot [] [] = true from rfl), if_pos head_put.1, head_put0])
  have hP2 : ∀ (W : World) (g : Nat), g = W.heap.size → Below w.heap.size w W → Calls Tryd.prog 10 #[.agg #[.int .i64 0, .slice none 0 0, .slice (some ⟨g, 0, none⟩) 1 1]] (W.alloc (.cells #[.string ⟨#[97]⟩, .bool false, .string ⟨#[116, 97, 103, 115, 47, 109]⟩, .slice none 0 0, .slice none 0 0] 40)) fun e w' => ∃ v0_ : Value, e = .returned (.tuple #[v0_, .bool false]) ∧ Below W.heap.size W w' :=
    fun W g hg hb => by
    subst hg
    exact (root_Put.calls 0 none 0 [] (some ⟨W.heap.size, 0, none⟩) 1 [headF2] [] false _ (Gl_below hG (below_step hb (below_alloc (Below.refl _ _) _))) (Kd.C_nil _ _) (Nat.le_refl _) (fork_at (x := headF2) (blk_new _ _) (Nat.le_refl _) (Kd.C_nil _ _) (Nat.le_refl _) (Kd.C_nil _ _)) (Nat.le_refl _) (by rw [root_Put.f, if_pos (by kernel_rfl), if_neg (by rw [show rootB 0 [] [headF2] = false from head_wrong]; simp)])).mono
      fun e w' ⟨v, h1, _, h2⟩ => ⟨v, h1, below_step (below_alloc (Below.refl _ _) _) h2⟩
  have hg1 : root_Get.f (intsOf headB1) = some (3, [], [headF], true) := by
    rw [root_Get.f, if_pos (by decide), strOfNums_ints, getP_yes head_lines ⟨rfl, head_right, head_text⟩]
  have hg2 : root_Get.f (intsOf headB2) = some (0, [], [], false) := by
    rw [root_Get.f, if_pos (by decide), strOfNums_ints, getP_no (c := (linesP ⟨headB2.toArray⟩).1) (pool := (linesP ⟨headB2.toArray⟩).2.1) (acc := (linesP ⟨headB2.toArray⟩).2.2.1) (e := (linesP ⟨headB2.toArray⟩).2.2.2) rfl (by rw [head_lines2]; simp)]
  have hG1 : ∀ W, Below w.heap.size w W → Calls Tryd.prog 12 #[.slice (some ⟨W.heap.size, 0, none⟩) 47 47] (W.alloc (.cells ((intsOf headB1).map (Value.int .u8)).toArray 5 (47, 48))) fun e w' => ∃ v1_ v2_ : Value, e = .returned (.tuple #[.agg #[.int .i64 3, v1_, v2_], .bool true]) ∧ Kd.V Kd.string 9 w' (W.heap.size + 1) (fun k_ => W.heap.size + 1 ≤ k_) v1_ [] ∧ Kd.V k40 40 w' (W.heap.size + 1) (fun k_ => W.heap.size + 1 ≤ k_ ∧ some k_ ≠ (v1_ : Value).ownBlock) v2_ [headF] ∧ Below W.heap.size W w' :=
    fun W hb => (root_Get.calls (some ⟨W.heap.size, 0, none⟩) 47 (intsOf headB1) 3 [] [headF] true _ (Gl_below hG (below_step hb (below_alloc (Below.refl _ _) _))) (ints_at (by decide)) (by decide) hg1).mono
      fun e w' ⟨v1, v2, h1, h2, h3, h4⟩ => ⟨v1, v2, h1, by simpa using h2, by simpa using h3, below_step (below_alloc (Below.refl _ _) _) h4⟩
  have hG2 : ∀ (W : World) (g : Nat), g = W.heap.size → Below w.heap.size w W → Calls Tryd.prog 12 #[.slice (some ⟨g, 0, none⟩) 21 21] (W.alloc (.cells ((intsOf headB2).map (Value.int .u8)).toArray 5 (21, 22))) fun e w' => ∃ v1_ v2_ : Value, e = .returned (.tuple #[.agg #[.int .i64 0, v1_, v2_], .bool false]) ∧ Kd.V Kd.string 9 w' (W.heap.size + 1) (fun k_ => W.heap.size + 1 ≤ k_) v1_ [] ∧ Kd.V k40 40 w' (W.heap.size + 1) (fun k_ => W.heap.size + 1 ≤ k_ ∧ some k_ ≠ (v1_ : Value).ownBlock) v2_ [] ∧ Below W.heap.size W w' :=
    fun W g hg hb => by
    subst hg
    exact (root_Get.calls (some ⟨W.heap.size, 0, none⟩) 21 (intsOf headB2) 0 [] [] false _ (Gl_below hG (below_step hb (below_alloc (Below.refl _ _) _))) (ints_at (by decide)) (by decide) hg2).mono
      fun e w' ⟨v1, v2, h1, h2, h3, h4⟩ => ⟨v1, v2, h1, by simpa using h2, by simpa using h3, below_step (below_alloc (Below.refl _ _) _) h4⟩
  rw [head_cells1] at hG1
  rw [head_cells2] at hG2
  have HP1 := Aside0.mk hP1
  have HP2 := Aside0.mk hP2
  have HG1 := Aside0.mk hG1
  have HG2 := Aside0.mk hG2
  have HG := Aside0.mk hG
  have hid1 : ∀ W : World, (convert 26 26 (.slice (some ⟨W.heap.size, 0, none⟩) 47 47)).run Tryd.prog (W.alloc (.cells #[.int .u8 110, .int .u8 101, .int .u8 116, .int .u8 32, .int .u8 51, .int .u8 10, .int .u8 112, .int .u8 111, .int .u8 111, .int .u8 108, .int .u8 32, .int .u8 48, .int .u8 10, .int .u8 102, .int .u8 111, .int .u8 114, .int .u8 107, .int .u8 115, .int .u8 32, .int .u8 49, .int .u8 10, .int .u8 102, .int .u8 111, .int .u8 114, .int .u8 107, .int .u8 32, .int .u8 97, .int .u8 32, .int .u8 108, .int .u8 105, .int .u8 110, .int .u8 107, .int .u8 101, .int .u8 100, .int .u8 32, .int .u8 104, .int .u8 101, .int .u8 97, .int .u8 100, .int .u8 115, .int .u8 47, .int .u8 109, .int .u8 32, .int .u8 48, .int .u8 32, .int .u8 48, .int .u8 10] 5)) = .ok (.slice (some ⟨W.heap.size, 0, none⟩) 47 47) (W.alloc (.cells #[.int .u8 110, .int .u8 101, .int .u8 116, .int .u8 32, .int .u8 51, .int .u8 10, .int .u8 112, .int .u8 111, .int .u8 111, .int .u8 108, .int .u8 32, .int .u8 48, .int .u8 10, .int .u8 102, .int .u8 111, .int .u8 114, .int .u8 107, .int .u8 115, .int .u8 32, .int .u8 49, .int .u8 10, .int .u8 102, .int .u8 111, .int .u8 114, .int .u8 107, .int .u8 32, .int .u8 97, .int .u8 32, .int .u8 108, .int .u8 105, .int .u8 110, .int .u8 107, .int .u8 101, .int .u8 100, .int .u8 32, .int .u8 104, .int .u8 101, .int .u8 97, .int .u8 100, .int .u8 115, .int .u8 47, .int .u8 109, .int .u8 32, .int .u8 48, .int .u8 32, .int .u8 48, .int .u8 10] 5 (47, 48))) := fun W => Lib.run_convert_bytes_const W 26 5 _ _ _ Tryd.underlying26 Tryd.underlying5
  have hid2 : ∀ W : World, (convert 26 26 (.slice (some ⟨W.heap.size, 0, none⟩) 21 21)).run Tryd.prog (W.alloc (.cells #[.int .u8 110, .int .u8 101, .int .u8 116, .int .u8 32, .int .u8 51, .int .u8 10, .int .u8 112, .int .u8 111, .int .u8 111, .int .u8 108, .int .u8 32, .int .u8 48, .int .u8 10, .int .u8 102, .int .u8 111, .int .u8 114, .int .u8 107, .int .u8 115, .int .u8 32, .int .u8 49, .int .u8 10] 5)) = .ok (.slice (some ⟨W.heap.size, 0, none⟩) 21 21) (W.alloc (.cells #[.int .u8 110, .int .u8 101, .int .u8 116, .int .u8 32, .int .u8 51, .int .u8 10, .int .u8 112, .int .u8 111, .int .u8 111, .int .u8 108, .int .u8 32, .int .u8 48, .int .u8 10, .int .u8 102, .int .u8 111, .int .u8 114, .int .u8 107, .int .u8 115, .int .u8 32, .int .u8 49, .int .u8 10] 5 (21, 22))) := fun W => Lib.run_convert_bytes_const W 26 5 _ _ _ Tryd.underlying26 Tryd.underlying5
  clear hP1 hP2 hG1 hG2 hG hg1 hg2
  go_enter Tryd.func8, Tryd.ntmps8
  have hn2 := head_named2
  have hn1 := head_named1
  have HN2 := Aside0.mk hn2
  have HN1 := Aside0.mk hn1
  clear hn1 hn2
  go_wp2_with (go_at_call 10; ((with_reducible refine (HP1.out _ (Below.refl _ _)).mono ?_); rintro e w1 ⟨v1, rfl, hv1, hb1⟩; obtain ⟨A1, c1, rfl⟩ := Kd.V_slice hv1; have HB1 := Aside0.mk hb1; have HV1 := Aside0.mk hv1; clear hb1 hv1))
  go_wp2_with (go_at_call 12; ((with_reducible refine (HG1.out _ HB1.out).mono ?_); rintro e w2 ⟨va2, vb2, rfl, hp2, hf2, hb2⟩; obtain ⟨A2, c2, rfl⟩ := Kd.V_slice hp2; obtain ⟨A3, c3, rfl⟩ := Kd.V_slice hf2; have HB2 := Aside0.mk (below_step HB1.out hb2); have HP2_ := Aside0.mk hp2; have HF2 := Aside0.mk hf2; have HB12 := Aside0.mk hb2; have hidb := fun o : Obj => Joins.run_convert_bytes_const_at (P := Tryd.prog) (w2.alloc o) 26 5 #[.int .u8 110, .int .u8 101, .int .u8 116, .int .u8 32, .int .u8 51, .int .u8 10, .int .u8 112, .int .u8 111, .int .u8 111, .int .u8 108, .int .u8 32, .int .u8 48, .int .u8 10, .int .u8 102, .int .u8 111, .int .u8 114, .int .u8 107, .int .u8 115, .int .u8 32, .int .u8 49, .int .u8 10] 21 21 (w2.heap.size + 1) (by simp) Tryd.underlying26 Tryd.underlying5; clear hp2 hf2 hb2))
  go_wp2_with (go_at_call 12; (refine (HG2.out _ _ (by simp) (below_step HB2.out (below_alloc (Below.refl _ _) _))).mono ?_; rintro e w3 ⟨va3, vb3, rfl, hp3, hf3, hb3⟩; obtain ⟨A4, c4, rfl⟩ := Kd.V_slice hp3; obtain ⟨A5, c5, rfl⟩ := Kd.V_slice hf3; have HBX3 := Aside0.mk (blk_below (blk_new w2 _) hb3); have HB23 := Aside0.mk (below_step (below_alloc (Below.refl w2.heap.size w2) _) hb3); have HB3 := Aside0.mk (below_step HB2.out HB23.out); clear hp3 hf3 hb3 hidb))
  go_wp2_with (go_at_call 10; (refine (HP2.out _ _ (by simp) (below_step HB3.out (below_alloc (Below.refl _ _) _))).mono ?_; rintro e w4 ⟨v4, rfl, hb4⟩; have hb34 := below_step (below_alloc (Below.refl w3.heap.size w3) _) hb4; have hb24 := below_step HB23.out hb34; have hb14 := below_step HB12.out hb24; have hstr := Kd.C_string (c := c1) Tryd.underlying26 Tryd.underlying5 Tryd.underlying9 (Kd.V_reads' (Kd.V_below HV1.out hb14)).2.2; (rw [strOfNums_ints, head_str] at hstr); have HP4 := Aside0.mk (Kd.V_reads' (Kd.V_below HP2_.out hb24)); have HF4 := Aside0.mk (Kd.V_reads' (Kd.V_below HF2.out hb24)); obtain ⟨adf, A3_, c3_, A4_, c4_, rfl, f0, f1, f2, f3, f4, _, _, _, _⟩ := at_T40 HF4.out.2.2 0 (by decide) (by decide); have f1a : w4.cell? ⟨adf.block, adf.off + 1, none⟩ = some (.bool true) := (by simpa [rd_T40, headF, Addr.add] using f1); have hbx4 := blk_below (blk_alloc HBX3.out _) hb4; have x0 := blk_cell hbx4 0; have x1 := blk_cell hbx4 1; have x2 := blk_cell hbx4 2; have HBX4 := Aside0.mk hbx4; have HB4 := Aside0.mk (below_step HB3.out hb34); have HC4 := Aside0.mk (show Kd.C Kd.string w4 A2 0 [] from HP4.out.2.2); have HD4 := Aside0.mk (show Kd.C k40 w4 (some adf) 1 [headF] from HF4.out.2.2); have HL3 := Aside0.mk (show 1 ≤ c3 from HF4.out.2.1); have HFA := Aside0.mk (head_findA A2 c2 adf c3 w4 HC4.out HD4.out HL3.out); clear hb4 hbx4 hb34 hb24 hb14 f0 f1 f2 f3 f4))
  go_wp2_with (go_at_call 14; ((with_reducible refine HFA.out.mono ?_); rintro e w5 ⟨rfl, hb5⟩; clear x0 x1 x2; have hbx := blk_below HBX4.out hb5; have x0 := blk_cell hbx 0; have x1 := blk_cell hbx 1; have x2 := blk_cell hbx 2; have HBX5 := Aside0.mk hbx; have HC5 := Aside0.mk (Kd.C_below HC4.out hb5); have HD5 := Aside0.mk (Kd.C_below HD4.out hb5); have HB5 := Aside0.mk (below_step HB4.out hb5); have HFB := Aside0.mk (head_findB A2 c2 adf c3 w5 HC5.out HD5.out HL3.out); clear hbx hb5))
  go_wp2_with (go_at_call 14; ((with_reducible refine HFB.out.mono ?_); rintro e w6 ⟨rfl, hb6⟩; clear x0 x1 x2; have hbx := blk_below HBX5.out hb6; have x0 := blk_cell hbx 0; have x1 := blk_cell hbx 1; have x2 := blk_cell hbx 2; have HBX6 := Aside0.mk hbx; have HC6 := Aside0.mk (Kd.C_below HC5.out hb6); have HD6 := Aside0.mk (Kd.C_below HD5.out hb6); have HB6 := Aside0.mk (below_step HB5.out hb6); clear hbx hb6))
  go_wp2_with (go_at_call 15; ((with_reducible refine (HN1.out _).mono ?_); rintro e w7 ⟨rfl, ⟨nd1, rfl⟩⟩))
  go_wp2_with (go_at_call 15; ((with_reducible refine (HN2.out _).mono ?_); rintro e w7 ⟨rfl, ⟨nd2, rfl⟩⟩))
  refine (head_right1 A2 c2 adf c3 (w6.drewN (nd1 + nd2)) (Gl_below HG.out (pw_below_drewN HB6.out _)) (Kd.C_below HC6.out (pw_below_drewN (Below.refl _ _) _)) (Kd.C_below HD6.out (pw_below_drewN (Below.refl _ _) _)) HL3.out).mono ?_
  rintro e w8 ⟨rfl, hb8⟩
  have HB8 := Aside0.mk (below_step (pw_below_drewN HB6.out (nd1 + nd2)) hb8)
  clear hb8
  go_wp2_with fail
  go_ret
  exact ⟨rfl, HB8.out⟩
end Go.Proofs.YtgmddlbbmlneaaaDoor.PR

/- sacristylaw10.RootNames: it answers true. -/
namespace Go.Proofs.YtgmddlbbmlneaaaDoor.PR
open Go.RowKit Go.Shelf Go.Proofs.YtgmddlbbmlneaaaDoorW.PrintWords Go.Proofs.YtgmddlbbmlneaaaDoorW.PrintLast Go.Proofs.YtgmddlbbmlneaaaDoorW.PrintMore
set_option linter.unusedVariables false

/-- May that byte stand in a fork's name? -/
def letB (c : Int) : Bool := decide (c = 45 ∨ (97 ≤ c ∧ c ≤ 122) ∨ (48 ≤ c ∧ c ≤ 57))
theorem one_str (c : Int) (h0 : 0 ≤ c) (h1 : c ≤ 255) : (strOfNums [c]).data.toList = [UInt8.ofNat c.toNat] := by
  simp [strOfNums]
theorem forkOk_letB (c : Int) (h0 : 0 ≤ c) (h1 : c ≤ 255) : forkOk (UInt8.ofNat c.toNat) = letB c := by
  have e : ((UInt8.ofNat c.toNat).toNat : Int) = c := by
    rw [UInt8.toNat_ofNat']; omega
  rw [Bool.eq_iff_iff, forkOk_iff, letB, decide_eq_true_eq, e]
theorem forkName_more (s : ByteArray) (c : Int) (h0 : 0 ≤ c) (h1 : c ≤ 255) (hs : s.data.toList ≠ []) : forkName (s ++ strOfNums [c]) = (forkName s && letB c && decide (s.size < 20)) := by
  have e : (s ++ strOfNums [c]).data.toList = s.data.toList ++ [UInt8.ofNat c.toNat] := by
    rw [ByteArray.data_append, Array.toList_append, one_str c h0 h1]
  have e2 : (s ++ strOfNums [c]).size = s.size + 1 := by rw [← data_length, e, List.length_append, data_length]; rfl
  have e3 : s.data.toList.isEmpty = false := by cases h : s.data.toList with
    | nil => exact absurd h hs
    | cons a b => rfl
  unfold forkName
  rw [e, e2, List.all_append, e3, ← forkOk_letB c h0 h1]
  have e4 : (s.data.toList ++ [UInt8.ofNat c.toNat]).isEmpty = false := by cases s.data.toList <;> rfl
  rw [e4]
  simp only [List.all_cons, List.all_nil, Bool.and_true, Bool.not_false]
  cases List.all s.data.toList forkOk
  · simp
  · simp only [Bool.true_and]
    by_cases h : s.size < 20
    · have : s.size ≤ 20 := by omega
      have h' : s.size + 1 ≤ 20 := by omega
      simp [h, h', this]
    · have h' : ¬ s.size + 1 ≤ 20 := by omega
      simp [h, h']
theorem ret_true {b : Bool} (h : b = true) : Ending.returned (.bool b) = .returned (.bool true) := by rw [h]
theorem ne_isEmpty' {l : List UInt8} (h : ¬ l = []) : l.isEmpty = false := by
  cases l with
  | nil => exact absurd rfl h
  | cons a b => rfl
theorem ne_isEmpty {l : List UInt8} (h : ¬ l = []) : (!l.isEmpty) = true := by
  cases l with
  | nil => exact absurd rfl h
  | cons a b => rfl
def nameF (s : ByteArray) : S40 := ⟨s, false, ⟨#[104, 101, 97, 100, 115, 47, 97]⟩, [], []⟩
theorem nameF_right (s : ByteArray) : rootB 0 [] [nameF s] = forkName s := by
  have h1 : refsB ([] : List S76) = true := by kernel_rfl
  have h2 : packsB [] = true := by kernel_rfl
  have h3 : refName ⟨#[104, 101, 97, 100, 115, 47, 97]⟩ = true := by kernel_rfl
  have h4 : ([104, 101, 97, 100, 115, 47] : List UInt8).isPrefixOf (⟨#[104, 101, 97, 100, 115, 47, 97]⟩ : ByteArray).data.toList = true := by decide
  have h5 : forkB (nameF s) = forkName s := by
    unfold forkB nameF
    rw [if_pos h2, if_pos h1, if_pos h3, h4]
    cases forkName s <;> rfl
  unfold rootB
  rw [rootGo, h5, h2]
  cases forkName s <;> rfl

set_option maxHeartbeats 4000000 in
set_option maxRecDepth 100000 in
theorem names_small (s : ByteArray) (c : Int) (h0 : 0 ≤ c) (h1 : c ≤ 255) (hs : s.size ≤ 1000) (w : World) (hG : Gl w) (is more lt : Bool) (his : forkName s = is) (hmore : forkName (s ++ strOfNums [c]) = more) (hlt : letB c = lt)
    (hend : (is = true ∧ ¬ s.toList = [] ∧ s.size < 20 ∧ more = lt) ∨ (is = true ∧ ¬ s.toList = [] ∧ s.size = 20 ∧ more = false) ∨ (is = false ∧ s.toList = []) ∨ (is = false ∧ ¬ s.toList = [] ∧ more = false)) :
    Calls Tryd.prog 7 #[.string s, .int .u8 c] w fun e w' => e = .returned (.bool true) ∧ Below w.heap.size w w' := by
  have hhead : ∀ W, Below w.heap.size w W → Calls Tryd.prog 8 #[] W fun e w' => e = .returned (.bool true) ∧ Below W.heap.size W w' := fun W hb => sacristylaw10_head.calls true W (Gl_below hG hb) rfl
  have hnm : ∀ W, Calls Tryd.prog 15 #[.string s] W fun e w' => e = .returned (.bool is) ∧ Drawn0 W w' := fun W => by rw [← his]; exact forkName_calls s W (by omega)
  have hsz : (s ++ strOfNums [c]).size = s.size + 1 := by rw [← data_length, ByteArray.data_append, Array.toList_append, one_str c h0 h1, List.length_append, data_length]; rfl
  have hnm2 : ∀ W, Calls Tryd.prog 15 #[.string (s ++ strOfNums [c])] W fun e w' => e = .returned (.bool more) ∧ Drawn0 W w' := fun W => by rw [← hmore]; exact forkName_calls _ W (by omega)
  have hcv : ∀ (W : World) (n : Nat), (convert 26 9 (.slice (some ⟨W.heap.size, 0, none⟩) 1 1)).run Tryd.prog ((W.drewN n).alloc (.cells #[.int .u8 c] 5)) = .ok (.string (strOfNums [c])) ((W.drewN n).alloc (.cells #[.int .u8 c] 5)) := fun W n =>
    Kd.C_string (c := 1) Tryd.underlying26 Tryd.underlying5 Tryd.underlying9 (ints_at (W := W.drewN n) (t := 5) (fr := (0, 0)) (L := [c]) (by simp))
  have hc1 : ¬ 9223372036854775807 < s.size + (strOfNums [c]).size := by
    have e : (strOfNums [c]).size = 1 := by rw [← data_length, one_str c h0 h1]; rfl
    omega
  have hright : ∀ (W : World) (g : Nat), g = W.heap.size → Below w.heap.size w W → Calls Tryd.prog 11 #[.agg #[.int .i64 0, .slice none 0 0, .slice (some ⟨g, 0, none⟩) 1 1]] (W.alloc (.cells #[.string s, .bool false, .string ⟨#[104, 101, 97, 100, 115, 47, 97]⟩, .slice none 0 0, .slice none 0 0] 40)) fun e w' => e = .returned (.bool is) ∧ Below W.heap.size W w' :=
    fun W g hg hb => by
    subst hg
    exact (root_Right.calls 0 none 0 [] (some ⟨W.heap.size, 0, none⟩) 1 [nameF s] is _ (Gl_below hG (below_step hb (below_alloc (Below.refl _ _) _))) (Kd.C_nil _ _) (Nat.le_refl _) (fork_at (x := nameF s) (blk_new _ _) (Nat.le_refl _) (Kd.C_nil _ _) (Nat.le_refl _) (Kd.C_nil _ _)) (Nat.le_refl _) (by
      rw [root_Right.f, if_pos (by simp [okRoot, okFork, nameF, okS]; exact ⟨by omega, by decide⟩), nameF_right, his])).mono
      fun e w' ⟨h1, h2⟩ => ⟨h1, below_step (below_alloc (Below.refl _ _) _) h2⟩
  have HR := Aside0.mk hright
  have HHEAD := Aside0.mk hhead
  have HNM := Aside0.mk hnm
  have HNM2 := Aside0.mk hnm2
  have HLT := Aside0.mk hlt
  clear hsz hhead hnm hnm2 his hmore hlt hG hright
  have HEND := Aside0.mk hend
  clear hend
  go_enter Tryd.func7, Tryd.ntmps7
  go_wp2_with (go_at_call 8; ((with_reducible refine (HHEAD.out _ (Below.refl _ _)).mono ?_); rintro e w1 ⟨rfl, hb1⟩; have HB1 := Aside0.mk hb1; clear hb1))
  go_wp2_with (go_at_call 15; ((with_reducible refine (HNM.out _).mono ?_); rintro e w2 ⟨rfl, ⟨nd1, rfl⟩⟩))
  go_wp2_with (go_at_call 15; ((with_reducible refine (HNM2.out _).mono ?_); rintro e w3 ⟨rfl, ⟨nd2, rfl⟩⟩))
  all_goals (try (exfalso; omega))
  all_goals
    have hb2 : ∀ o : Obj, Below w.heap.size w (((w1.drewN nd1).alloc o).drewN nd2) := fun o => pw_below_drewN (below_step (pw_below_drewN HB1.out nd1) (below_alloc (Below.refl _ _) _)) nd2
    refine (HR.out _ _ (by simp) (hb2 _)).mono ?_
    rintro e w5 ⟨rfl, hb5⟩
    have HB5 := Aside0.mk (below_step (hb2 _) hb5)
    clear hb2 hb5
    rcases HEND.out with ⟨rfl, he, h20, rfl⟩ | ⟨rfl, he, h20, rfl⟩ | ⟨rfl, he⟩ | ⟨rfl, he, rfl⟩
    · have hL := HLT.out
      cases more
      all_goals
        first
          | (exfalso; simp only [letB, decide_eq_true_eq, decide_eq_false_iff_not] at hL; omega)
          | (clear hL
             have he2 := ne_isEmpty he
             have he3 := ne_isEmpty' he
             have h20' : s.size ≤ 20 := by omega
             go_wp2_with fail
             all_goals first | (exfalso; omega) | (exfalso; have hL := HLT.out; simp only [letB, decide_eq_true_eq, decide_eq_false_iff_not] at hL; omega) | (go_ret; exact ⟨ret_true (decide_eq_true (by omega)), HB5.out⟩) | (go_ret; exact ⟨rfl, HB5.out⟩))
    · have he2 := ne_isEmpty he
      have he3 := ne_isEmpty' he
      have h20' : s.size ≤ 20 := by omega
      have h20'' : ¬ s.size < 20 := by omega
      clear h20
      go_wp2_with fail
      all_goals first | (exfalso; omega) | (exfalso; have hL := HLT.out; simp only [letB, decide_eq_true_eq, decide_eq_false_iff_not] at hL; omega) | (go_ret; exact ⟨ret_true (decide_eq_true (by omega)), HB5.out⟩) | (go_ret; exact ⟨rfl, HB5.out⟩)
    · have he2 : (!s.toList.isEmpty) = false := by rw [he]; rfl
      go_wp2_with fail
      all_goals first | (exfalso; omega) | (go_ret; exact ⟨rfl, HB5.out⟩)
    · have he2 := ne_isEmpty he
      have he3 := ne_isEmpty' he
      go_wp2_with fail
      all_goals first | (exfalso; omega) | (go_ret; exact ⟨rfl, HB5.out⟩)

set_option maxHeartbeats 4000000 in
set_option maxRecDepth 100000 in
/-- sacristylaw10.RootNames answers true. -/
theorem names_calls (s : ByteArray) (c : Int) (h0 : 0 ≤ c) (h1 : c ≤ 255) (hs : s.size ≤ 140737488351232) (w : World) (hG : Gl w) :
    Calls Tryd.prog 7 #[.string s, .int .u8 c] w fun e w' => e = .returned (.bool true) ∧ Below w.heap.size w w' := by
  by_cases hb : s.size ≤ 1000
  · refine names_small s c h0 h1 hb w hG _ _ _ rfl rfl rfl ?_
    by_cases he : s.toList = []
    · refine .inr (.inr (.inl ⟨?_, he⟩))
      have he' : s.data.toList = [] := by rw [← toList_data]; exact he
      unfold forkName
      rw [he']
      rfl
    · have he' : s.data.toList ≠ [] := by rw [← toList_data]; exact he
      rw [forkName_more s c h0 h1 he']
      cases hf : forkName s with
      | false => exact .inr (.inr (.inr ⟨rfl, he, by simp⟩))
      | true =>
        have h20 : s.size ≤ 20 := by
          simp only [forkName, Bool.and_eq_true, decide_eq_true_eq] at hf
          exact hf.2
        by_cases hlt : s.size < 20
        · exact .inl ⟨rfl, he, hlt, by simp [hlt]⟩
        · exact .inr (.inl ⟨rfl, he, by omega, by simp [hlt]⟩)
  · have hhead : ∀ W, Below w.heap.size w W → Calls Tryd.prog 8 #[] W fun e w' => e = .returned (.bool true) ∧ Below W.heap.size W w' := fun W hb => sacristylaw10_head.calls true W (Gl_below hG hb) rfl
    have HHEAD := Aside0.mk hhead
    have hb2 : 1000 < s.size := by omega
    clear hhead hb hG
    go_enter Tryd.func7, Tryd.ntmps7
    go_wp2_with (go_at_call 8; ((with_reducible refine (HHEAD.out _ (Below.refl _ _)).mono ?_); rintro e w1 ⟨rfl, hb1⟩; have HB1 := Aside0.mk hb1; clear hb1))
    go_ret
    exact ⟨rfl, HB1.out⟩
end Go.Proofs.YtgmddlbbmlneaaaDoor.PR

namespace Go.Proofs.YtgmddlbbmlneaaaDoor
open Go.ChangeShapes Go.WideShapes Go.ChangeAt Go.RowKit
open Go.ChangeMaps (open_string shut_string)
set_option linter.unusedVariables false
set_option maxRecDepth 100000 in
theorem names_lifted (os : Os) (started : os.Started) (H : Type) (enc : TypeId × Value → H) :
    ReturnsInHanded {} Tryd.checked os 7 .any (fun w args => (Rows.rootNamesSpec.pre enc Tryd.prog Tryd.f7 [] false w args ∧ laidMetH Tryd.prog laidAll w) ∧ sizedMet enc Tryd.prog Tryd.f7 (OpenSpec.ofChange Rows.rootNamesSpec) false w args)
      (Rows.rootNamesSpec.post enc Tryd.prog Tryd.f7 false true false false) := by
  refine returns_of_laid_shaped (C := Tryd.checked) (X := fun w _ => laidMetH Tryd.prog laidAll w) (fun _ _ _ hh h => h.of_heap hh) own started (by kernel_rfl) Tryd.func7
    (ChangeSpec.witness_shaped (enc := enc) (C := Tryd.checked) (os := os) (X := fun w _ => laidMetH Tryd.prog laidAll w) false (World.laidAll Tryd.prog os laidAll) #[.string ByteArray.empty, .int .u8 0] 8 (World.laidAll_os _ _ _)
      (world_shaped os _) (by kernel_rfl) (by kernel_rfl) (by kernel_rfl) (world_laid os _)) ?_
  intro W base args ds gs before hval0 hW hsz0 hL hshape
  have hsz : (DataW.weightsEach Tryd.prog (Tryd.f7.params.toList ++ Rows.rootNamesSpec.plain.varTypes Tryd.prog) (ds ++ gs)).all (· ≤ reachBytes) = true := hsz0
  have hval : ∀ (j : Nat) t v, Tryd.f7.params[j]? = some t → args[j]? = some v → Value.okWide Tryd.prog W .any base t v := hval0
  have hW' := hW
  obtain ⟨p, q, hA0, hV, rfl, _, _⟩ := hW
  have hA : DataW.TrodAll enc Tryd.prog W 0 (fun _ => true) true Tryd.f7.params.toList args.toList ds p := hA0
  rw [Tryd.params7] at hA hval hsz
  obtain ⟨v0, v1, d0, d1, p0, p1, rfl, rfl, rfl, h0, h1⟩ := trodAll_two hA
  obtain ⟨rfl, rfl⟩ := trodVars_none hV
  obtain ⟨s, rfl, rfl, rfl, ws⟩ := open_string Tryd.underlying9 (hval 0 9 v0 rfl rfl) h0
  obtain ⟨c, rfl, rfl, rfl, wc⟩ := open_int Tryd.underlying5 (hval 1 5 v1 rfl rfl) h1
  have hs : s.size ≤ 140737488351232 := by
    have z := sized_string hsz (j := 0) (t := 9) rfl rfl
    rw [Array.length_toList] at z
    exact z
  have hc : 0 ≤ c ∧ c ≤ 255 := by simpa [Lit.wf, IntKind.min, IntKind.max, IntKind.signed, IntKind.bits] using wc
  clear hA0 hval0 hsz0 hsz
  refine (PR.names_calls s c hc.1 hc.2 hs W (gl_of hL hshape)).mono fun e W' ⟨he, hb⟩ => ?_
  subst he
  exact ⟨_, rfl, _, _, _, [], _, [], hW', trodAll_mk1 (shut_bool Tryd.underlying4 _), trodAll_mk2 (shut_string Tryd.underlying9 ws) (shut_int Tryd.underlying5 wc), rfl, hb.frame _, fun h => by cases h⟩
theorem names_row : Rows.RootNamesSaid :=
  OpenClaim.holds_of_wide 7 Tryd.f7 rfl rfl rfl rfl rfl rfl rfl ⟨rfl, rfl, rfl, rfl, rfl⟩ rfl rfl rfl rfl rfl (by kernel_rfl) Tryd.func7 (by kernel_rfl)
    (of_decide_eq_true (by kernel_rfl)) (by unfold Func.isWrapper; first | (rw [if_pos (by decide +kernel)]; kernel_rfl) | (rw [if_neg (by decide +kernel)]; exact ⟨rfl, rfl⟩))
    (fun os started H enc _ => names_lifted os started H enc)
/-- The card of RootNames. -/
theorem rootNames_card : Rows.RootNamesCardSaid :=
  Claim7.holds_tied_plain_at .later [] [.data, .data, .data, .data, .pinned] true (true, "d4d9c08d40b983332ad15210d3b8e1aadaf604dc8762445fc9ba714d1cfdd239") true names_row (fun _ h => by cases h) (by kernel_rfl) (fun _ h => by cases h) rootNames_row_tie rfl ⟨rfl, rfl⟩ (by kernel_rfl) rfl
    (fun f fn hf hfn => by
      obtain rfl : f = 7 := Option.some.inj ((show Tryd.prog.funcNamed "sacristy/sacristylaw10.RootNames" = some 7 by kernel_rfl).symm.trans hf) |>.symm
      obtain rfl : fn = Tryd.f7 := (Option.some.inj (Tryd.func7.symm.trans hfn)).symm
      exact ⟨by kernel_rfl, fun j t ht => by
        rw [Tryd.params7] at ht
        have hm : t ∈ [9, 5] := by simpa using Array.mem_of_getElem? ht
        have hall : ([9, 5].all fun u => !Tryd.prog.wantsStandIn u) = true := by kernel_rfl
        exact (show Tryd.prog.wantsStandIn t = false by simpa using List.all_eq_true.1 hall t hm)⟩)
    (by kernel_rfl)
#print axioms rootNames_card
end Go.Proofs.YtgmddlbbmlneaaaDoor
