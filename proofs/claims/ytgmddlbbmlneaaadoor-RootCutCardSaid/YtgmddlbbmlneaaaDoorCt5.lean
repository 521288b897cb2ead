/- sacristylaw10.RootCut: for all roots, every cut and every byte the call returns true and leaves its arguments as they were; the listed variables hold what the card ties to the program's text. -/
import Derived.Test.YtgmddlbbmlneaaaDoorCt4
import Derived.Deep.DeepCutAuto
import Derived.Test.YtgmddlbbmlneaaaDoorCt3
set_option linter.all false
/- sacristylaw10.RootCut: it answers true. -/
namespace Go.Proofs.YtgmddlbbmlneaaaDoor.PR
open Go.RowKit Go.Shelf Go.Proofs.YtgmddlbbmlneaaaDoorW.PrintWords Go.Proofs.YtgmddlbbmlneaaaDoorW.PrintLast Go.Proofs.YtgmddlbbmlneaaaDoorW.PrintMore
set_option linter.unusedVariables false

theorem ints_take (T : List UInt8) (n : Nat) : (intsOf T).take n = intsOf (T.take n) := by simp [intsOf, List.map_take]
theorem get_no {T : List UInt8} (h : (getP (ofL T)).2.2.2 = false) (hl : T.length ≤ 1000000) : root_Get.f (intsOf T) = some (0, [], [], false) := by
  rw [root_Get.f, if_pos (by rw [intsOf_length]; exact hl), strOfNums_ints]
  obtain ⟨⟨c, p, f, on⟩, hx⟩ : ∃ R, getP (ofL T) = R := ⟨_, rfl⟩
  rw [hx] at h
  obtain rfl : on = false := h
  obtain ⟨rfl, rfl, rfl⟩ := getP_inv0 hx
  exact congrArg some hx
theorem row_new2 (W : World) (o : Obj) : (Kd.int .u8).R 5 ((W.alloc o).alloc (.cells #[] 5)) W.heap.size (fun k => W.heap.size ≤ k) (.slice (some ⟨W.heap.size + 1, 0, none⟩) 0 0) [] := by
  refine Kd.R_of_own (enc := Value.int .u8) (by have h := own_lit (W.alloc o) W.heap.size 5 .u8 [] (by simp) (by simp); rw [World.size_alloc] at h; exact h) (fun k hk => ?_)
  simp only [Value.ownBlock, Option.some.injEq] at hk
  omega
theorem size2 (W : World) (o o' : Obj) : W.heap.size ≤ ((W.alloc o).alloc o').heap.size := by simp only [World.size_alloc]; omega
theorem fresh2 (W : World) (o o' : Obj) (k : Nat) (h : ((W.alloc o).alloc o').heap.size ≤ k) : W.heap.size ≤ k := Nat.le_trans (size2 W o o') h
theorem row_new (W : World) (h : Nat) (hb : h ≤ W.heap.size) : (Kd.int .u8).R 5 (W.alloc (.cells #[] 5)) h (fun k => h ≤ k) (.slice (some ⟨W.heap.size, 0, none⟩) 0 0) [] := by
  refine Kd.R_of_own (enc := Value.int .u8) (own_lit W h 5 .u8 [] hb (by simp)) (fun k hk => ?_)
  simp only [Value.ownBlock, Option.some.injEq] at hk
  omega

set_option maxHeartbeats 8000000 in
set_option maxRecDepth 100000 in
theorem cut_small (a : Int) (A1 : Option Addr) (c1 : Nat) (l1 : List ByteArray) (A2 : Option Addr) (c2 : Nat) (l2 : List S40) (b : Int) (B1 : Option Addr) (d1 : Nat) (m1 : List ByteArray) (B2 : Option Addr) (d2 : Nat) (m2 : List S40) (n c : Int) (hn0 : 0 ≤ n) (hn1 : n ≤ 65535) (hc0 : 0 ≤ c) (hc1 : c ≤ 255) (w : World) (hG : Gl w)
    (hR : RootIn w a A1 c1 l1 A2 c2 l2) (hS : RootIn w b B1 d1 m1 B2 d2 m2) (kg : Nat) (hg : sacristylaw10_Great.f kg a l1 l2 = some false) (kh : Nat) (hh : sacristylaw10_Great.f kh b m1 m2 = some false) (hy : rootB a l1 l2 = true) (hok2 : okRoot m1 m2 = true) (it : Bool) (hit : rootB b m1 m2 = it) :
    Calls Tryd.prog 4 #[rootV a A1 l1.length c1 A2 l2.length c2, rootV b B1 m1.length d1 B2 m2.length d2, .int .u16 n, .int .u8 c] w fun e w' => e = .returned (.bool true) ∧ Below w.heap.size w w' := by
  have HHEAD := Aside0.mk (fun (W : World) (hb : Below w.heap.size w W) => head_calls hG hb)
  have HGR := Aside0.mk (fun (W : World) (hb : Below w.heap.size w W) => hR.great hb hg)
  have HGS := Aside0.mk (fun (W : World) (hb : Below w.heap.size w W) => hS.great hb hh)
  have HPR := Aside0.mk (fun (W : World) (hb : Below w.heap.size w W) => hR.putYes hG hb hy)
  obtain ⟨Y, hY⟩ : ∃ Y, (if rootB b m1 m2 = true then (intsOf (rootText b m1 m2), true) else ([], false)) = (Y, it) := by
    cases it with
    | true => exact ⟨_, by rw [if_pos hit]⟩
    | false => exact ⟨_, by rw [if_neg (by rw [hit]; simp)]⟩
  have HPS := Aside0.mk (fun (W : World) (hb : Below w.heap.size w W) => root_Put.calls b B1 d1 m1 B2 d2 m2 Y it W (Gl_below hG hb) (hS.below hb).r1 hS.h1 (hS.below hb).r2 hS.h2 (by rw [root_Put.f, if_pos hok2, hY]))
  obtain ⟨T, hT⟩ : ∃ T, rootText a l1 l2 = T := ⟨_, rfl⟩
  have hpos : 0 < (intsOf T).length := by rw [intsOf_length, ← hT]; exact text_pos _ _ _
  have hlen : (intsOf T).length ≤ 400000 := by rw [intsOf_length, ← hT]; exact rootText_length hy
  obtain ⟨kk, hmod⟩ : ∃ kk : Nat, n % ((intsOf T).length : Int) = (kk : Int) := ⟨(n % ((intsOf T).length : Int)).toNat, by have := Int.emod_nonneg n (show ((intsOf T).length : Int) ≠ 0 by omega); omega⟩
  have hkk : kk < (intsOf T).length := by have := Int.emod_lt_of_pos n (show 0 < ((intsOf T).length : Int) by omega); omega
  have hcut : root_Get.f ((intsOf T).take kk) = some (0, [], [], false) := by
    rw [ints_take, ← hT]
    refine get_no (cut_no hy kk (by rw [hT, ← intsOf_length]; exact hkk)) ?_
    rw [List.length_take, hT, ← intsOf_length]; omega
  have hmore : root_Get.f (intsOf T ++ [c]) = some (0, [], [], false) := by
    have e : intsOf T ++ [c] = intsOf (rootText a l1 l2 ++ [UInt8.ofNat c.toNat]) := by
      rw [hT, intsOf, intsOf, List.map_append]
      congr 1
      simp only [List.map_cons, List.map_nil, List.cons.injEq, and_true]
      rw [UInt8.toNat_ofNat']; omega
    rw [e]
    refine get_no (more_no hy _) ?_
    rw [List.length_append, hT, ← intsOf_length]; simp only [List.length_cons, List.length_nil]; omega
  have HCUT := Aside0.mk (fun (W : World) (Ax : Option Addr) (cx : Nat) (hb : Below w.heap.size w W) (hx : (intsOf T).length ≤ cx) (hr : Kd.C (Kd.int .u8) W Ax (intsOf T).length (intsOf T)) =>
    (show Calls Tryd.prog 12 #[.slice Ax kk cx] W fun e w' => ∃ v1_ v2_ : Value, e = .returned (.tuple #[.agg #[.int .i64 0, v1_, v2_], .bool false]) ∧ Kd.V Kd.string 9 w' W.heap.size (fun k_ => W.heap.size ≤ k_) v1_ [] ∧ Kd.V k40 40 w' W.heap.size (fun k_ => W.heap.size ≤ k_ ∧ some k_ ≠ (v1_ : Value).ownBlock) v2_ [] ∧ Below W.heap.size W w' from by
      have hl : ((intsOf T).take kk).length = kk := by rw [List.length_take]; omega
      have h := root_Get.calls Ax cx ((intsOf T).take kk) 0 [] [] false W (Gl_below hG hb) (Kd.C_take hr (by omega)) (by omega) hcut
      rw [hl] at h
      exact h))
  have HMORE := Aside0.mk (fun (W : World) (Ax : Option Addr) (cx : Nat) (hb : Below w.heap.size w W) (hx : (intsOf T ++ [c]).length ≤ cx) (hr : Kd.C (Kd.int .u8) W Ax (intsOf T ++ [c]).length (intsOf T ++ [c])) =>
    (show Calls Tryd.prog 12 #[.slice Ax ((intsOf T).length + 1) cx] W fun e w' => ∃ v1_ v2_ : Value, e = .returned (.tuple #[.agg #[.int .i64 0, v1_, v2_], .bool false]) ∧ Kd.V Kd.string 9 w' W.heap.size (fun k_ => W.heap.size ≤ k_) v1_ [] ∧ Kd.V k40 40 w' W.heap.size (fun k_ => W.heap.size ≤ k_ ∧ some k_ ≠ (v1_ : Value).ownBlock) v2_ [] ∧ Below W.heap.size W w' from by
      have h := root_Get.calls Ax cx (intsOf T ++ [c]) 0 [] [] false W (Gl_below hG hb) hr hx hmore
      rw [List.length_append, List.length_singleton] at h
      exact h))
  obtain ⟨sm, hsm⟩ : ∃ sm : Bool, sm = true ↔ a = b ∧ l1 = m1 ∧ l2 = m2 := by
    by_cases h : a = b ∧ l1 = m1 ∧ l2 = m2
    · exact ⟨true, by simp [h]⟩
    · exact ⟨false, by simp [h]⟩
  have HSM := Aside0.mk (fun (W : World) (hb : Below w.heap.size w W) => (hR.below hb).same (hS.below hb) hsm)
  have hstr : it = true → ((strOfNums (intsOf T)).toList == (strOfNums Y).toList) = sm := by
    intro hi
    subst hi
    rw [if_pos hit, Prod.mk.injEq] at hY
    rw [← hY.1, strOfNums_ints, strOfNums_ints, toList_data, toList_data, Bool.eq_iff_iff, hsm, ← text_inj hy hit, hT]
    simp
  have HSTR := Aside0.mk hstr
  have HR := Aside0.mk hR
  have HS := Aside0.mk hS
  have HIT := Aside0.mk (And.intro hy (And.intro hit hY))
  rw [hT] at HPR
  have HTT := Aside0.mk hT
  have hz0 : (((intsOf T).length : Int) == 0) = false := by
    rw [beq_eq_false_iff_ne]; omega
  have hz1 : ((intsOf T).length : Int) ≠ 0 := by omega
  have hz2 : (1 : Int) ≤ ((intsOf T).length : Int) := by omega
  have HKK := Aside0.mk hkk
  have HLEN := Aside0.mk hlen
  have HAL := Aside0.mk (show (([] : List Int).length + (intsOf T).length) * 1 ≤ 140737488355328 by simp only [List.length_nil]; omega)
  have HAL2 := Aside0.mk (show ((intsOf T).length + 1) * 1 ≤ 140737488355328 by omega)
  clear hG hR hS hg hh hy hit hY hok2 hT hcut hmore hpos hlen hsm hstr
  generalize intsOf T = X at *
  go_enter Tryd.func4, Tryd.ntmps4
  go_wp2_with (go_at_call 8; ((with_reducible refine (HHEAD.out _ (below_alloc (below_alloc (Below.refl _ _) _) _)).mono ?_); rintro e w1 ⟨rfl, hb1⟩; have hbx := blk_below (blk_alloc (blk_new w _) _) hb1; have hby := blk_below (blk_new (w.alloc _) _) hb1; rw [World.size_alloc] at hby; have x0 := blk_cell hbx 0; have x1 := blk_cell hbx 1; have x2 := blk_cell hbx 2; have HBX1 := Aside0.mk hbx; have HBY1 := Aside0.mk hby; have HB1 := Aside0.mk (below_step (below_alloc (below_alloc (Below.refl _ _) _) _) hb1); clear hbx hby hb1))
  go_wp2_with (go_at_call 9; ((with_reducible refine (HGR.out _ HB1.out).mono ?_); rintro e w2 ⟨rfl, hb2⟩; clear x0 x1 x2; have hbx := blk_below HBX1.out hb2; have hby := blk_below HBY1.out hb2; have y0 := blk_cell hby 0; have y1 := blk_cell hby 1; have y2 := blk_cell hby 2; have HBX2 := Aside0.mk hbx; have HBY2 := Aside0.mk hby; have HB2 := Aside0.mk (below_step HB1.out hb2); clear hbx hby hb2))
  go_wp2_with (go_at_call 9; ((with_reducible refine (HGS.out _ HB2.out).mono ?_); rintro e w3 ⟨rfl, hb3⟩; clear y0 y1 y2; have hbx := blk_below HBX2.out hb3; have hby := blk_below HBY2.out hb3; have x0 := blk_cell hbx 0; have x1 := blk_cell hbx 1; have x2 := blk_cell hbx 2; have HBX3 := Aside0.mk hbx; have HBY3 := Aside0.mk hby; have HB3 := Aside0.mk (below_step HB2.out hb3); clear hbx hby hb3))
  go_wp2_with (go_at_call 10; ((with_reducible refine (HPR.out _ HB3.out).mono ?_); rintro e w4 ⟨v4, rfl, hv4, hb4⟩; obtain ⟨A4, c4, rfl⟩ := Kd.V_slice hv4; clear x0 x1 x2; have hbx := blk_below HBX3.out hb4; have hby := blk_below HBY3.out hb4; have y0 := blk_cell hby 0; have y1 := blk_cell hby 1; have y2 := blk_cell hby 2; have HBX4 := Aside0.mk hbx; have HBY4 := Aside0.mk hby; have HB4 := Aside0.mk (below_step HB3.out hb4); have HV4 := Aside0.mk (Kd.V_reads' hv4); clear hbx hby hb4 hv4))
  go_wp2_with (go_at_call 10; ((with_reducible refine (HPS.out _ HB4.out).mono ?_); rintro e w5 ⟨v5, rfl, hv5, hb5⟩; obtain ⟨A5, c5, rfl⟩ := Kd.V_slice hv5; clear y0 y1 y2; have HBX5 := Aside0.mk (blk_below HBX4.out hb5); have HBY5 := Aside0.mk (blk_below HBY4.out hb5); have HB5 := Aside0.mk (below_step HB4.out hb5); have HX5 := Aside0.mk (Kd.C_below HV4.out.2.2 hb5); have HV5 := Aside0.mk (Kd.V_reads' hv5); have hcx : (X.length : Int) ≤ (c4 : Int) := (by have := HV4.out.2.1; omega); have hck : (kk : Int) ≤ (c4 : Int) := (by have := HKK.out; omega); clear hb5 hv5))
  go_wp2_with (first
    | (go_at_call 12; ((with_reducible refine (HCUT.out _ A4 c4 HB5.out HV4.out.2.1 HX5.out).mono ?_); rintro e w6 ⟨v6, u6, rfl, hv6, hu6, hb6⟩; obtain ⟨A6, c6, rfl⟩ := Kd.V_slice hv6; obtain ⟨E6, e6, rfl⟩ := Kd.V_slice hu6; have HBX6 := Aside0.mk (blk_below HBX5.out hb6); have HBY6 := Aside0.mk (blk_below HBY5.out hb6); have HB6 := Aside0.mk (below_step HB5.out hb6); have HX6 := Aside0.mk (Kd.C_below HX5.out hb6); have HY6 := Aside0.mk (Kd.C_below HV5.out.2.2 hb6); have HRN := Aside0.mk (fun o : Obj => row_new2 w6 o); clear hv6 hu6 hb6))
    | ((with_reducible refine gate_builtin (b := .append) (xs := #[.tmp 60, .tmp 61]) rfl ?_); at_builtin; refine Kd.R_append_row (Value.int .u8) (0 : Int) (w0 := w6) w6.heap.size rfl (.tmp 60) (.tmp 61) 26 5 (.int .u8 0) 1 rfl Tryd.underlying26 info5 rfl (by decide) (.slice (some ⟨w6.heap.size + 1, 0, none⟩) 0 0) [] X A4 X.length c4 (fun k => w6.heap.size ≤ k) rfl rfl (fresh2 w6 _ _) (HRN.out _) (Kd.C_alloc (Kd.C_alloc HX6.out _) _) (below_alloc (below_alloc (Below.refl _ _) _) _) (size2 w6 _ _) HAL.out ?_; intro v7 w7 hv7 hb7 _ _; obtain ⟨A7, c7, rfl⟩ := Kd.R_slice hv7; have HV7 := Aside0.mk hv7; have HB7 := Aside0.mk hb7; clear hv7 hb7)
    | ((with_reducible refine gate_builtin (b := .append) (xs := #[.tmp 62, .tmp 64]) rfl ?_); at_builtin; refine Kd.R_append (Kd.int .u8) (w0 := w6) (W := w7) w6.heap.size rfl (.tmp 62) (.tmp 64) 26 5 (.int .u8 0) 1 rfl Tryd.underlying26 info5 rfl (by decide) (by decide) (.slice A7 X.length c7) X c [.int .u8 c] (fun k => w6.heap.size ≤ k) (fun _ => False) rfl rfl rfl (fun _ h => h.elim) (fun k hk => Nat.le_trans HB7.out.size hk) HV7.out HB7.out HB7.out.size HAL2.out ?_; intro v8 w8 hv8 hb8 _ _; obtain ⟨A8, c8, rfl⟩ := Kd.R_slice hv8; have HV8 := Aside0.mk (Kd.R_reads' hv8); have HB8 := Aside0.mk hb8; clear hv8 hb8))
  refine (HMORE.out w8 A8 c8 (below_step HB6.out HB8.out) HV8.out.2.1 HV8.out.2.2).mono ?_
  rintro e w9 ⟨v9, u9, rfl, hv9, hu9, hb9⟩
  obtain ⟨A9, c9, rfl⟩ := Kd.V_slice hv9
  obtain ⟨E9, e9, rfl⟩ := Kd.V_slice hu9
  have hb69 := below_step HB8.out hb9
  have HBX9 := Aside0.mk (fun o : Obj => blk_drew (blk_alloc (blk_below HBX6.out hb69) o))
  have HBY9 := Aside0.mk (fun o : Obj => blk_drew (blk_alloc (blk_below HBY6.out hb69) o))
  have HX9 := Aside0.mk (fun o : Obj => Kd.C_drew (Kd.C_alloc (Kd.C_below HX6.out hb69) o))
  have HY9 := Aside0.mk (fun o : Obj => Kd.C_drew (Kd.C_alloc (Kd.C_below HY6.out hb69) o))
  have HB9 := Aside0.mk (fun o : Obj => below_drew (below_alloc (below_step HB6.out hb69) o))
  have HW9 := Aside0.mk hb9
  clear hb69 hb9 hv9 hu9
  generalize hSX : strOfNums X = SX at *
  generalize hSY : strOfNums Y = SY at *
  cases it with
  | false =>
    go_wp2_with fail
    refine start_ (n := 25) (S := fun w' => True) (ds := []) #[false, false, false, false, false, false, false, false, false, false, false, false, false, false, false, false, false, false, false, false, false, false, false, false, false] (by kernel_rfl) rfl rfl trivial (fun hHeld => ?_)
    refine pure_ (i := 0) (N := some 69) (v := ?_) (a' := ?_) #[true, false, false, false, false, false, false, false, false, false, false, false, false, false, false, false, false, false, false, false, false, false, false, false, false] rfl rfl (by kernel_rfl) (fun _ _ _ h => h) (Or.inl ⟨by rfl, ?_⟩) ?_ ?_
    rotate_left
    · intro w'
      go_simp
      with_reducible rfl
    rotate_left
    · simp only [Act.put, List.setIfInBounds_toArray, List.set_cons_zero, List.set_cons_succ, i64_w, i32_w]
      rfl
    refine pure_ (i := 1) (N := some 70) (v := ?_) (a' := ?_) #[true, true, false, false, false, false, false, false, false, false, false, false, false, false, false, false, false, false, false, false, false, false, false, false, false] rfl rfl (by kernel_rfl) (fun _ _ _ h => h) (Or.inl ⟨by rfl, ?_⟩) ?_ ?_
    rotate_left
    · intro w'
      go_simp
      with_reducible rfl
    rotate_left
    · simp only [Act.put, List.setIfInBounds_toArray, List.set_cons_zero, List.set_cons_succ, i64_w, i32_w]
      rfl
    refine pure_ (i := 2) (N := some 71) (v := ?_) (a' := ?_) #[true, true, true, false, false, false, false, false, false, false, false, false, false, false, false, false, false, false, false, false, false, false, false, false, false] rfl rfl (by kernel_rfl) (fun _ _ _ h => h) (Or.inl ⟨by rfl, ?_⟩) ?_ ?_
    rotate_left
    · intro w'
      go_simp
      with_reducible rfl
    rotate_left
    · simp only [Act.put, List.setIfInBounds_toArray, List.set_cons_zero, List.set_cons_succ, i64_w, i32_w]
      rfl
    refine pure_ (i := 3) (N := some 72) (v := ?_) (a' := ?_) #[true, true, true, true, false, false, false, false, false, false, false, false, false, false, false, false, false, false, false, false, false, false, false, false, false] rfl rfl (by kernel_rfl) (fun _ _ _ h => h) (Or.inl ⟨by rfl, ?_⟩) ?_ ?_
    rotate_left
    · intro w'
      go_simp
      with_reducible rfl
    rotate_left
    · simp only [Act.put, List.setIfInBounds_toArray, List.set_cons_zero, List.set_cons_succ, i64_w, i32_w]
      rfl
    refine pure_ (i := 4) (N := some 73) (v := ?_) (a' := ?_) #[true, true, true, true, true, false, false, false, false, false, false, false, false, false, false, false, false, false, false, false, false, false, false, false, false] rfl rfl (by kernel_rfl) (fun _ _ _ h => h) (Or.inl ⟨by rfl, ?_⟩) ?_ ?_
    rotate_left
    · intro w'
      go_simp
      with_reducible rfl
    rotate_left
    · simp only [Act.put, List.setIfInBounds_toArray, List.set_cons_zero, List.set_cons_succ, i64_w, i32_w]
      rfl
    refine pure_ (i := 5) (N := some 74) (v := ?_) (a' := ?_) #[true, true, true, true, true, true, false, false, false, false, false, false, false, false, false, false, false, false, false, false, false, false, false, false, false] rfl rfl (by kernel_rfl) (fun _ _ _ h => h) (Or.inl ⟨by rfl, ?_⟩) ?_ ?_
    rotate_left
    · intro w'
      go_simp
      with_reducible rfl
    rotate_left
    · simp only [Act.put, List.setIfInBounds_toArray, List.set_cons_zero, List.set_cons_succ, i64_w, i32_w]
      rfl
    refine pure_ (i := 6) (N := some 75) (v := ?_) (a' := ?_) #[true, true, true, true, true, true, true, false, false, false, false, false, false, false, false, false, false, false, false, false, false, false, false, false, false] rfl rfl (by kernel_rfl) (fun _ _ _ h => h) (Or.inl ⟨by rfl, ?_⟩) ?_ ?_
    rotate_left
    · intro w'
      go_simp
      with_reducible rfl
    rotate_left
    · simp only [Act.put, List.setIfInBounds_toArray, List.set_cons_zero, List.set_cons_succ, i64_w, i32_w]
      rfl
    refine pure_ (i := 7) (N := some 76) (v := ?_) (a' := ?_) #[true, true, true, true, true, true, true, true, false, false, false, false, false, false, false, false, false, false, false, false, false, false, false, false, false] rfl rfl (by kernel_rfl) (fun _ _ _ h => h) (Or.inl ⟨by rfl, ?_⟩) ?_ ?_
    rotate_left
    · intro w'
      go_simp
      with_reducible rfl
    rotate_left
    · simp only [Act.put, List.setIfInBounds_toArray, List.set_cons_zero, List.set_cons_succ, i64_w, i32_w]
      rfl
    refine pure_ (i := 8) (N := some 77) (v := ?_) (a' := ?_) #[true, true, true, true, true, true, true, true, true, false, false, false, false, false, false, false, false, false, false, false, false, false, false, false, false] rfl rfl (by kernel_rfl) (fun _ _ _ h => h) (Or.inl ⟨by rfl, ?_⟩) ?_ ?_
    rotate_left
    · intro w'
      go_simp
      with_reducible rfl
    rotate_left
    · simp only [Act.put, List.setIfInBounds_toArray, List.set_cons_zero, List.set_cons_succ, i64_w, i32_w]
      rfl
    refine pure_ (i := 9) (N := some 78) (v := ?_) (a' := ?_) #[true, true, true, true, true, true, true, true, true, true, false, false, false, false, false, false, false, false, false, false, false, false, false, false, false] rfl rfl (by kernel_rfl) (fun _ _ _ h => h) (Or.inl ⟨by rfl, ?_⟩) ?_ ?_
    rotate_left
    · intro w'
      go_simp
      with_reducible rfl
    rotate_left
    · simp only [Act.put, List.setIfInBounds_toArray, List.set_cons_zero, List.set_cons_succ, i64_w, i32_w]
      rfl
    refine pure_ (i := 10) (N := some 79) (v := ?_) (a' := ?_) #[true, true, true, true, true, true, true, true, true, true, true, false, false, false, false, false, false, false, false, false, false, false, false, false, false] rfl rfl (by kernel_rfl) (fun _ _ _ h => h) (Or.inl ⟨by rfl, ?_⟩) ?_ ?_
    rotate_left
    · intro w'
      go_simp
      with_reducible rfl
    rotate_left
    · simp only [Act.put, List.setIfInBounds_toArray, List.set_cons_zero, List.set_cons_succ, i64_w, i32_w]
      rfl
    refine pure_ (i := 11) (N := some 80) (v := ?_) (a' := ?_) #[true, true, true, true, true, true, true, true, true, true, true, true, false, false, false, false, false, false, false, false, false, false, false, false, false] rfl rfl (by kernel_rfl) (fun _ _ _ h => h) (Or.inl ⟨by rfl, ?_⟩) ?_ ?_
    rotate_left
    · intro w'
      go_simp
      with_reducible rfl
    rotate_left
    · simp only [Act.put, List.setIfInBounds_toArray, List.set_cons_zero, List.set_cons_succ, i64_w, i32_w]
      rfl
    refine pure_ (i := 12) (N := some 81) (v := ?_) (a' := ?_) #[true, true, true, true, true, true, true, true, true, true, true, true, true, false, false, false, false, false, false, false, false, false, false, false, false] rfl rfl (by kernel_rfl) (fun _ _ _ h => h) (Or.inl ⟨by rfl, ?_⟩) ?_ ?_
    rotate_left
    · intro w'
      go_simp
      with_reducible rfl
    rotate_left
    · simp only [Act.put, List.setIfInBounds_toArray, List.set_cons_zero, List.set_cons_succ, i64_w, i32_w]
      rfl
    refine pure_ (i := 13) (N := some 82) (v := undef) (a' := ?_) #[true, true, true, true, true, true, true, true, true, true, true, true, true, true, false, false, false, false, false, false, false, false, false, false, false] rfl rfl (by kernel_rfl) (fun _ _ _ h => h) (Or.inr ⟨by rfl, rfl⟩) ?_ ?_
    rotate_left
    · simp only [Act.put, List.setIfInBounds_toArray, List.set_cons_zero, List.set_cons_succ, i64_w, i32_w]
      rfl
    refine pure_ (i := 14) (N := some 83) (v := undef) (a' := ?_) #[true, true, true, true, true, true, true, true, true, true, true, true, true, true, true, false, false, false, false, false, false, false, false, false, false] rfl rfl (by kernel_rfl) (fun _ _ _ h => h) (Or.inr ⟨by rfl, rfl⟩) ?_ ?_
    rotate_left
    · simp only [Act.put, List.setIfInBounds_toArray, List.set_cons_zero, List.set_cons_succ, i64_w, i32_w]
      rfl
    refine pure_ (i := 15) (N := some 84) (v := undef) (a' := ?_) #[true, true, true, true, true, true, true, true, true, true, true, true, true, true, true, true, false, false, false, false, false, false, false, false, false] rfl rfl (by kernel_rfl) (fun _ _ _ h => h) (Or.inr ⟨by rfl, rfl⟩) ?_ ?_
    rotate_left
    · simp only [Act.put, List.setIfInBounds_toArray, List.set_cons_zero, List.set_cons_succ, i64_w, i32_w]
      rfl
    refine pure_ (i := 16) (N := some 85) (v := undef) (a' := ?_) #[true, true, true, true, true, true, true, true, true, true, true, true, true, true, true, true, true, false, false, false, false, false, false, false, false] rfl rfl (by kernel_rfl) (fun _ _ _ h => h) (Or.inr ⟨by rfl, rfl⟩) ?_ ?_
    rotate_left
    · simp only [Act.put, List.setIfInBounds_toArray, List.set_cons_zero, List.set_cons_succ, i64_w, i32_w]
      rfl
    refine pure_ (i := 17) (N := some 86) (v := undef) (a' := ?_) #[true, true, true, true, true, true, true, true, true, true, true, true, true, true, true, true, true, true, false, false, false, false, false, false, false] rfl rfl (by kernel_rfl) (fun _ _ _ h => h) (Or.inr ⟨by rfl, rfl⟩) ?_ ?_
    rotate_left
    · simp only [Act.put, List.setIfInBounds_toArray, List.set_cons_zero, List.set_cons_succ, i64_w, i32_w]
      rfl
    refine pure_ (i := 18) (N := some 87) (v := undef) (a' := ?_) #[true, true, true, true, true, true, true, true, true, true, true, true, true, true, true, true, true, true, true, false, false, false, false, false, false] rfl rfl (by kernel_rfl) (fun _ _ _ h => h) (Or.inr ⟨by rfl, rfl⟩) ?_ ?_
    rotate_left
    · simp only [Act.put, List.setIfInBounds_toArray, List.set_cons_zero, List.set_cons_succ, i64_w, i32_w]
      rfl
    refine pure_ (i := 19) (N := some 88) (v := undef) (a' := ?_) #[true, true, true, true, true, true, true, true, true, true, true, true, true, true, true, true, true, true, true, true, false, false, false, false, false] rfl rfl (by kernel_rfl) (fun _ _ _ h => h) (Or.inr ⟨by rfl, rfl⟩) ?_ ?_
    rotate_left
    · simp only [Act.put, List.setIfInBounds_toArray, List.set_cons_zero, List.set_cons_succ, i64_w, i32_w]
      rfl
    refine pure_ (i := 20) (N := some 89) (v := undef) (a' := ?_) #[true, true, true, true, true, true, true, true, true, true, true, true, true, true, true, true, true, true, true, true, true, false, false, false, false] rfl rfl (by kernel_rfl) (fun _ _ _ h => h) (Or.inr ⟨by rfl, rfl⟩) ?_ ?_
    rotate_left
    · simp only [Act.put, List.setIfInBounds_toArray, List.set_cons_zero, List.set_cons_succ, i64_w, i32_w]
      rfl
    refine pure_ (i := 21) (N := some 90) (v := undef) (a' := ?_) #[true, true, true, true, true, true, true, true, true, true, true, true, true, true, true, true, true, true, true, true, true, true, false, false, false] rfl rfl (by kernel_rfl) (fun _ _ _ h => h) (Or.inr ⟨by rfl, rfl⟩) ?_ ?_
    rotate_left
    · simp only [Act.put, List.setIfInBounds_toArray, List.set_cons_zero, List.set_cons_succ, i64_w, i32_w]
      rfl
    refine pure_ (i := 22) (N := some 91) (v := ?_) (a' := ?_) #[true, true, true, true, true, true, true, true, true, true, true, true, true, true, true, true, true, true, true, true, true, true, true, false, false] rfl rfl (by kernel_rfl) (fun _ _ _ h => h) (Or.inl ⟨by rfl, ?_⟩) ?_ ?_
    rotate_left
    · intro w'
      go_simp
      with_reducible rfl
    rotate_left
    · simp only [Act.put, List.setIfInBounds_toArray, List.set_cons_zero, List.set_cons_succ, i64_w, i32_w]
      rfl
    refine pure_ (i := 23) (N := some 92) (v := ?_) (a' := ?_) #[true, true, true, true, true, true, true, true, true, true, true, true, true, true, true, true, true, true, true, true, true, true, true, true, false] rfl rfl (by kernel_rfl) (fun _ _ _ h => h) (Or.inl ⟨by rfl, ?_⟩) ?_ ?_
    rotate_left
    · intro w'
      go_simp
      with_reducible rfl
    rotate_left
    · simp only [Act.put, List.setIfInBounds_toArray, List.set_cons_zero, List.set_cons_succ, i64_w, i32_w]
      rfl
    refine pure_ (i := 24) (N := some 8) (v := ?_) (a' := ?_) #[true, true, true, true, true, true, true, true, true, true, true, true, true, true, true, true, true, true, true, true, true, true, true, true, true] rfl rfl (by kernel_rfl) (fun _ _ _ h => h) (Or.inl ⟨by rfl, ?_⟩) ?_ ?_
    rotate_left
    · intro w'
      go_simp
      with_reducible rfl
    rotate_left
    · simp only [Act.put, List.setIfInBounds_toArray, List.set_cons_zero, List.set_cons_succ, i64_w, i32_w]
      rfl
    refine done_ (by kernel_rfl) ?_
    go_wp2_with fail
    go_ret
    exact ⟨rfl, HB9.out _⟩
  | true =>
    have hse := HSTR.out rfl
    have q1 := fun o : Obj => Kd.C_string (c := c4) Tryd.underlying26 Tryd.underlying5 Tryd.underlying9 (HX9.out o)
    have q2 := fun o : Obj => Kd.C_string (c := c5) Tryd.underlying26 Tryd.underlying5 Tryd.underlying9 (HY9.out o)
    rw [hSX] at q1
    rw [hSY] at q2
    go_wp2_with fail
    refine start_ (n := 25) (S := fun w' => (convert 26 9 (.slice A4 X.length c4)).run Tryd.prog w' = .ok (.string SX) w' ∧ (convert 26 9 (.slice A5 Y.length c5)).run Tryd.prog w' = .ok (.string SY) w' ∧ w'.cell? ⟨w.heap.size, 0, none⟩ = some (.int .i64 a) ∧ w'.cell? ⟨w.heap.size, 1, none⟩ = some (.slice A1 l1.length c1) ∧ w'.cell? ⟨w.heap.size, 2, none⟩ = some (.slice A2 l2.length c2) ∧ w'.cell? ⟨w.heap.size + 1, 0, none⟩ = some (.int .i64 b) ∧ w'.cell? ⟨w.heap.size + 1, 1, none⟩ = some (.slice B1 m1.length d1) ∧ w'.cell? ⟨w.heap.size + 1, 2, none⟩ = some (.slice B2 m2.length d2)) (ds := []) #[false, false, false, false, false, false, false, false, false, false, false, false, false, false, false, false, false, false, false, false, false, false, false, false, false] (by kernel_rfl) rfl rfl ⟨q1 _, q2 _, (blk_cell (HBX9.out _) 0).trans rfl, (blk_cell (HBX9.out _) 1).trans rfl, (blk_cell (HBX9.out _) 2).trans rfl, (blk_cell (HBY9.out _) 0).trans rfl, (blk_cell (HBY9.out _) 1).trans rfl, (blk_cell (HBY9.out _) 2).trans rfl⟩ (fun hHeld => ?_)
    refine pure_ (i := 0) (N := some 69) (v := ?_) (a' := ?_) #[true, false, false, false, false, false, false, false, false, false, false, false, false, false, false, false, false, false, false, false, false, false, false, false, false] rfl rfl (by kernel_rfl) (fun _ _ _ h => h) (Or.inl ⟨by rfl, ?_⟩) ?_ ?_
    rotate_left
    · intro w'
      go_simp
      with_reducible rfl
    rotate_left
    · simp only [Act.put, List.setIfInBounds_toArray, List.set_cons_zero, List.set_cons_succ, i64_w, i32_w]
      rfl
    refine pure_ (i := 1) (N := some 70) (v := ?_) (a' := ?_) #[true, true, false, false, false, false, false, false, false, false, false, false, false, false, false, false, false, false, false, false, false, false, false, false, false] rfl rfl (by kernel_rfl) (fun _ _ _ h => h) (Or.inl ⟨by rfl, ?_⟩) ?_ ?_
    rotate_left
    · intro w'
      go_simp
      with_reducible rfl
    rotate_left
    · simp only [Act.put, List.setIfInBounds_toArray, List.set_cons_zero, List.set_cons_succ, i64_w, i32_w]
      rfl
    refine pure_ (i := 2) (N := some 71) (v := ?_) (a' := ?_) #[true, true, true, false, false, false, false, false, false, false, false, false, false, false, false, false, false, false, false, false, false, false, false, false, false] rfl rfl (by kernel_rfl) (fun _ _ _ h => h) (Or.inl ⟨by rfl, ?_⟩) ?_ ?_
    rotate_left
    · intro w'
      go_simp
      with_reducible rfl
    rotate_left
    · simp only [Act.put, List.setIfInBounds_toArray, List.set_cons_zero, List.set_cons_succ, i64_w, i32_w]
      rfl
    refine pure_ (i := 3) (N := some 72) (v := ?_) (a' := ?_) #[true, true, true, true, false, false, false, false, false, false, false, false, false, false, false, false, false, false, false, false, false, false, false, false, false] rfl rfl (by kernel_rfl) (fun _ _ _ h => h) (Or.inl ⟨by rfl, ?_⟩) ?_ ?_
    rotate_left
    · intro w'
      go_simp
      with_reducible rfl
    rotate_left
    · simp only [Act.put, List.setIfInBounds_toArray, List.set_cons_zero, List.set_cons_succ, i64_w, i32_w]
      rfl
    refine pure_ (i := 4) (N := some 73) (v := ?_) (a' := ?_) #[true, true, true, true, true, false, false, false, false, false, false, false, false, false, false, false, false, false, false, false, false, false, false, false, false] rfl rfl (by kernel_rfl) (fun _ _ _ h => h) (Or.inl ⟨by rfl, ?_⟩) ?_ ?_
    rotate_left
    · intro w'
      go_simp
      with_reducible rfl
    rotate_left
    · simp only [Act.put, List.setIfInBounds_toArray, List.set_cons_zero, List.set_cons_succ, i64_w, i32_w]
      rfl
    refine pure_ (i := 5) (N := some 74) (v := ?_) (a' := ?_) #[true, true, true, true, true, true, false, false, false, false, false, false, false, false, false, false, false, false, false, false, false, false, false, false, false] rfl rfl (by kernel_rfl) (fun _ _ _ h => h) (Or.inl ⟨by rfl, ?_⟩) ?_ ?_
    rotate_left
    · intro w'
      go_simp
      with_reducible rfl
    rotate_left
    · simp only [Act.put, List.setIfInBounds_toArray, List.set_cons_zero, List.set_cons_succ, i64_w, i32_w]
      rfl
    refine pure_ (i := 6) (N := some 75) (v := ?_) (a' := ?_) #[true, true, true, true, true, true, true, false, false, false, false, false, false, false, false, false, false, false, false, false, false, false, false, false, false] rfl rfl (by kernel_rfl) (fun _ _ _ h => h) (Or.inl ⟨by rfl, ?_⟩) ?_ ?_
    rotate_left
    · intro w'
      go_simp
      with_reducible rfl
    rotate_left
    · simp only [Act.put, List.setIfInBounds_toArray, List.set_cons_zero, List.set_cons_succ, i64_w, i32_w]
      rfl
    refine pure_ (i := 7) (N := some 76) (v := ?_) (a' := ?_) #[true, true, true, true, true, true, true, true, false, false, false, false, false, false, false, false, false, false, false, false, false, false, false, false, false] rfl rfl (by kernel_rfl) (fun _ _ _ h => h) (Or.inl ⟨by rfl, ?_⟩) ?_ ?_
    rotate_left
    · intro w'
      go_simp
      with_reducible rfl
    rotate_left
    · simp only [Act.put, List.setIfInBounds_toArray, List.set_cons_zero, List.set_cons_succ, i64_w, i32_w]
      rfl
    refine pure_ (i := 8) (N := some 77) (v := ?_) (a' := ?_) #[true, true, true, true, true, true, true, true, true, false, false, false, false, false, false, false, false, false, false, false, false, false, false, false, false] rfl rfl (by kernel_rfl) (fun _ _ _ h => h) (Or.inl ⟨by rfl, ?_⟩) ?_ ?_
    rotate_left
    · intro w'
      go_simp
      with_reducible rfl
    rotate_left
    · simp only [Act.put, List.setIfInBounds_toArray, List.set_cons_zero, List.set_cons_succ, i64_w, i32_w]
      rfl
    refine pure_ (i := 9) (N := some 78) (v := ?_) (a' := ?_) #[true, true, true, true, true, true, true, true, true, true, false, false, false, false, false, false, false, false, false, false, false, false, false, false, false] rfl rfl (by kernel_rfl) (fun _ _ _ h => h) (Or.inl ⟨by rfl, ?_⟩) ?_ ?_
    rotate_left
    · intro w'
      go_simp
      with_reducible rfl
    rotate_left
    · simp only [Act.put, List.setIfInBounds_toArray, List.set_cons_zero, List.set_cons_succ, i64_w, i32_w]
      rfl
    refine pure_ (i := 10) (N := some 79) (v := ?_) (a' := ?_) #[true, true, true, true, true, true, true, true, true, true, true, false, false, false, false, false, false, false, false, false, false, false, false, false, false] rfl rfl (by kernel_rfl) (fun _ _ _ h => h) (Or.inl ⟨by rfl, ?_⟩) ?_ ?_
    rotate_left
    · intro w'
      go_simp
      with_reducible rfl
    rotate_left
    · simp only [Act.put, List.setIfInBounds_toArray, List.set_cons_zero, List.set_cons_succ, i64_w, i32_w]
      rfl
    refine pure_ (i := 11) (N := some 80) (v := ?_) (a' := ?_) #[true, true, true, true, true, true, true, true, true, true, true, true, false, false, false, false, false, false, false, false, false, false, false, false, false] rfl rfl (by kernel_rfl) (fun _ _ _ h => h) (Or.inl ⟨by rfl, ?_⟩) ?_ ?_
    rotate_left
    · intro w'
      go_simp
      with_reducible rfl
    rotate_left
    · simp only [Act.put, List.setIfInBounds_toArray, List.set_cons_zero, List.set_cons_succ, i64_w, i32_w]
      rfl
    refine pure_ (i := 12) (N := some 81) (v := ?_) (a' := ?_) #[true, true, true, true, true, true, true, true, true, true, true, true, true, false, false, false, false, false, false, false, false, false, false, false, false] rfl rfl (by kernel_rfl) (fun _ _ _ h => h) (Or.inl ⟨by rfl, ?_⟩) ?_ ?_
    rotate_left
    · intro w'
      go_simp
      with_reducible rfl
    rotate_left
    · simp only [Act.put, List.setIfInBounds_toArray, List.set_cons_zero, List.set_cons_succ, i64_w, i32_w]
      rfl
    refine pure_ (i := 13) (N := some 82) (v := ?_) (a' := ?_) #[true, true, true, true, true, true, true, true, true, true, true, true, true, true, false, false, false, false, false, false, false, false, false, false, false] rfl rfl (by kernel_rfl) (fun _ _ _ h => h) (Or.inl ⟨by rfl, ?_⟩) ?_ ?_
    rotate_left
    · intro w'
      go_simp
      with_reducible rfl
    rotate_left
    · simp only [Act.put, List.setIfInBounds_toArray, List.set_cons_zero, List.set_cons_succ, i64_w, i32_w]
      rfl
    refine pure_ (i := 15) (N := some 84) (v := ?_) (a' := ?_) #[true, true, true, true, true, true, true, true, true, true, true, true, true, true, false, true, false, false, false, false, false, false, false, false, false] rfl rfl (by kernel_rfl) (fun _ _ _ h => h) (Or.inl ⟨by rfl, ?_⟩) ?_ ?_
    rotate_left
    · intro w'
      go_simp
      with_reducible rfl
    rotate_left
    · simp only [Act.put, List.setIfInBounds_toArray, List.set_cons_zero, List.set_cons_succ, i64_w, i32_w]
      rfl
    refine take_ (i := 14) (N := some 83) (v := ?_) (a' := ?_) #[true, true, true, true, true, true, true, true, true, true, true, true, true, true, true, true, false, false, false, false, false, false, false, false, false] rfl rfl (by kernel_rfl) (fun _ _ _ h => h) (Or.inl ⟨by rfl, ?_⟩) hHeld ?_ ?_
    rotate_left
    · rintro w' ⟨s0, s1, s2, s3, s4, s5, s6, s7⟩
      go_simp
      with_reducible rfl
    rotate_left
    · simp only [Act.put, List.setIfInBounds_toArray, List.set_cons_zero, List.set_cons_succ, i64_w, i32_w]
      rfl
    refine take_ (i := 16) (N := some 85) (v := ?_) (a' := ?_) #[true, true, true, true, true, true, true, true, true, true, true, true, true, true, true, true, true, false, false, false, false, false, false, false, false] rfl rfl (by kernel_rfl) (fun _ _ _ h => h) (Or.inl ⟨by rfl, ?_⟩) hHeld ?_ ?_
    rotate_left
    · rintro w' ⟨s0, s1, s2, s3, s4, s5, s6, s7⟩
      go_simp
      with_reducible rfl
    rotate_left
    · simp only [Act.put, List.setIfInBounds_toArray, List.set_cons_zero, List.set_cons_succ, i64_w, i32_w]
      rfl
    refine pure_ (i := 17) (N := some 86) (v := ?_) (a' := ?_) #[true, true, true, true, true, true, true, true, true, true, true, true, true, true, true, true, true, true, false, false, false, false, false, false, false] rfl rfl (by kernel_rfl) (fun _ _ _ h => h) (Or.inl ⟨by rfl, ?_⟩) ?_ ?_
    rotate_left
    · intro w'
      go_simp
      with_reducible rfl
    rotate_left
    · simp only [Act.put, List.setIfInBounds_toArray, List.set_cons_zero, List.set_cons_succ, i64_w, i32_w]
      rfl
    refine take_ (i := 18) (N := some 87) (v := ?_) (a' := ?_) #[true, true, true, true, true, true, true, true, true, true, true, true, true, true, true, true, true, true, true, false, false, false, false, false, false] rfl rfl (by kernel_rfl) (fun _ _ _ h => h) (Or.inl ⟨by rfl, ?_⟩) hHeld ?_ ?_
    rotate_left
    · rintro w' ⟨s0, s1, s2, s3, s4, s5, s6, s7⟩
      go_simp
      with_reducible rfl
    rotate_left
    · simp only [Act.put, List.setIfInBounds_toArray, List.set_cons_zero, List.set_cons_succ, i64_w, i32_w]
      rfl
    refine take_ (i := 19) (N := some 88) (v := ?_) (a' := ?_) #[true, true, true, true, true, true, true, true, true, true, true, true, true, true, true, true, true, true, true, true, false, false, false, false, false] rfl rfl (by kernel_rfl) (fun _ _ _ h => h) (Or.inl ⟨by rfl, ?_⟩) hHeld ?_ ?_
    rotate_left
    · rintro w' ⟨s0, s1, s2, s3, s4, s5, s6, s7⟩
      go_simp
      with_reducible rfl
    rotate_left
    · simp only [Act.put, List.setIfInBounds_toArray, List.set_cons_zero, List.set_cons_succ, i64_w, i32_w]
      rfl
    refine one_ (i := 20) (N := some 89) #[true, true, true, true, true, true, true, true, true, true, true, true, true, true, true, true, true, true, true, true, true, false, false, false, false] rfl rfl (by kernel_rfl) (by decide) (fun K hK => ?_)
    refine goes_ Tryd.func13 (by kernel_rfl) rfl #[.agg #[.int .i64 a, .slice A1 l1.length c1, .slice A2 l2.length c2], .agg #[.int .i64 b, .slice B1 m1.length d1, .slice B2 m2.length d2]] (by rfl) rfl rfl (by simp only [List.map_toArray, List.map_cons, List.map_nil]; rfl) ?_
    with_reducible refine (HSM.out _ (HB9.out _)).mono ?_
    rintro e w10 ⟨rfl, hb10⟩
    refine ⟨_, rfl, ?_⟩
    have r1 := Kd.C_string (c := c4) Tryd.underlying26 Tryd.underlying5 Tryd.underlying9 (Kd.C_below (HX9.out _) hb10)
    have r2 := Kd.C_string (c := c5) Tryd.underlying26 Tryd.underlying5 Tryd.underlying9 (Kd.C_below (HY9.out _) hb10)
    rw [hSX] at r1
    rw [hSY] at r2
    have hbx := blk_below (HBX9.out _) hb10
    have hby := blk_below (HBY9.out _) hb10
    have HB10 := Aside0.mk (below_step (HB9.out _) hb10)
    clear hb10
    refine hK.out _ _ ⟨r1, r2, (blk_cell hbx 0).trans rfl, (blk_cell hbx 1).trans rfl, (blk_cell hbx 2).trans rfl, (blk_cell hby 0).trans rfl, (blk_cell hby 1).trans rfl, (blk_cell hby 2).trans rfl⟩ (fun hHeld => ?_)
    clear hK K
    refine norm_ (a' := ?_) ?_ ?_
    rotate_left
    · show Act.put _ (some 89) _ = _
      simp only [Act.put, List.setIfInBounds_toArray, List.set_cons_zero, List.set_cons_succ, i64_w, i32_w]
      rfl
    refine pure_ (i := 21) (N := some 90) (v := ?_) (a' := ?_) #[true, true, true, true, true, true, true, true, true, true, true, true, true, true, true, true, true, true, true, true, true, true, false, false, false] rfl rfl (by kernel_rfl) (fun _ _ _ h => h) (Or.inl ⟨by rfl, ?_⟩) ?_ ?_
    rotate_left
    · intro w'
      go_simp
      with_reducible rfl
    rotate_left
    · simp only [Act.put, List.setIfInBounds_toArray, List.set_cons_zero, List.set_cons_succ, i64_w, i32_w]
      rfl
    refine pure_ (i := 22) (N := some 91) (v := ?_) (a' := ?_) #[true, true, true, true, true, true, true, true, true, true, true, true, true, true, true, true, true, true, true, true, true, true, true, false, false] rfl rfl (by kernel_rfl) (fun _ _ _ h => h) (Or.inl ⟨by rfl, ?_⟩) ?_ ?_
    rotate_left
    · intro w'
      go_simp
      with_reducible rfl
    rotate_left
    · simp only [Act.put, List.setIfInBounds_toArray, List.set_cons_zero, List.set_cons_succ, i64_w, i32_w]
      rfl
    refine pure_ (i := 23) (N := some 92) (v := ?_) (a' := ?_) #[true, true, true, true, true, true, true, true, true, true, true, true, true, true, true, true, true, true, true, true, true, true, true, true, false] rfl rfl (by kernel_rfl) (fun _ _ _ h => h) (Or.inl ⟨by rfl, ?_⟩) ?_ ?_
    rotate_left
    · intro w'
      go_simp
      with_reducible rfl
    rotate_left
    · simp only [Act.put, List.setIfInBounds_toArray, List.set_cons_zero, List.set_cons_succ, i64_w, i32_w]
      rfl
    refine pure_ (i := 24) (N := some 8) (v := ?_) (a' := ?_) #[true, true, true, true, true, true, true, true, true, true, true, true, true, true, true, true, true, true, true, true, true, true, true, true, true] rfl rfl (by kernel_rfl) (fun _ _ _ h => h) (Or.inl ⟨by rfl, ?_⟩) ?_ ?_
    rotate_left
    · intro w'
      go_simp
      with_reducible rfl
    rotate_left
    · simp only [Act.put, List.setIfInBounds_toArray, List.set_cons_zero, List.set_cons_succ, i64_w, i32_w]
      rfl
    refine done_ (by kernel_rfl) ?_
    go_wp2_with fail
    go_ret
    exact ⟨ret_yes (by simp), HB10.out⟩
set_option maxHeartbeats 8000000 in
set_option maxRecDepth 100000 in
/-- sacristylaw10.RootCut answers true. -/
theorem cut_calls (a : Int) (A1 : Option Addr) (c1 : Nat) (l1 : List ByteArray) (A2 : Option Addr) (c2 : Nat) (l2 : List S40) (b : Int) (B1 : Option Addr) (d1 : Nat) (m1 : List ByteArray) (B2 : Option Addr) (d2 : Nat) (m2 : List S40) (n c : Int) (w : World) (hG : Gl w)
    (hR : RootIn w a A1 c1 l1 A2 c2 l2) (hS : RootIn w b B1 d1 m1 B2 d2 m2) (hn0 : 0 ≤ n) (hn1 : n ≤ 65535) (hc0 : 0 ≤ c) (hc1 : c ≤ 255) :
    Calls Tryd.prog 4 #[rootV a A1 l1.length c1 A2 l2.length c2, rootV b B1 m1.length d1 B2 m2.length d2, .int .u16 n, .int .u8 c] w fun e w' => e = .returned (.bool true) ∧ Below w.heap.size w w' := by
  obtain ⟨kg, g, hg, hsm⟩ := great10_ok a l1 l2 hR.n1 hR.n2 hR.nf
  obtain ⟨kh, h, hh, hsm2⟩ := great10_ok b m1 m2 hS.n1 hS.n2 hS.nf
  by_cases hgo : g = false ∧ h = false ∧ rootB a l1 l2 = true
  · obtain ⟨rfl, rfl, hy⟩ := hgo
    exact cut_small a A1 c1 l1 A2 c2 l2 b B1 d1 m1 B2 d2 m2 n c hn0 hn1 hc0 hc1 w hG hR hS kg hg kh hh hy (small_ok (hsm2 rfl)) _ rfl
  · have hno : g = false → h = false → rootB a l1 l2 = false := by
      intro h1 h2
      cases h3 : rootB a l1 l2 with
      | true => exact absurd ⟨h1, h2, h3⟩ hgo
      | false => rfl
    have HHEAD := Aside0.mk (fun (W : World) (hb : Below w.heap.size w W) => head_calls hG hb)
    have HGR := Aside0.mk (fun (W : World) (hb : Below w.heap.size w W) => hR.great hb hg)
    have HGS := Aside0.mk (fun (W : World) (hb : Below w.heap.size w W) => hS.great hb hh)
    have HPN := Aside0.mk (fun (h1 : g = false) (h2 : h = false) (W : World) (hb : Below w.heap.size w W) => hR.putNo hG hb (small_ok (hsm h1)) (hno h1 h2))
    have HPS := Aside0.mk (fun (h2 : h = false) (W : World) (hb : Below w.heap.size w W) => (show Calls Tryd.prog 10 #[.agg #[.int .i64 b, .slice B1 m1.length d1, .slice B2 m2.length d2]] W fun e w' => ∃ (v0_ : Value) (i : Bool), e = .returned (.tuple #[v0_, .bool i]) ∧ Below W.heap.size W w' from by
      obtain ⟨Y, i, hY⟩ : ∃ Y i, root_Put.f b m1 m2 = some (Y, i) := by
        rw [root_Put.f, if_pos (small_ok (hsm2 h2))]
        exact ⟨_, _, rfl⟩
      exact (root_Put.calls b B1 d1 m1 B2 d2 m2 Y i W (Gl_below hG hb) (hS.below hb).r1 hS.h1 (hS.below hb).r2 hS.h2 hY).mono fun e w' ⟨v, h1, _, h3⟩ => ⟨v, i, h1, h3⟩))
    clear hG hR hS hg hh hgo hno hsm hsm2
    go_enter Tryd.func4, Tryd.ntmps4
    go_wp2_with (go_at_call 8; ((with_reducible refine (HHEAD.out _ (below_alloc (below_alloc (Below.refl _ _) _) _)).mono ?_); rintro e w1 ⟨rfl, hb1⟩; have hbx := blk_below (blk_alloc (blk_new w _) _) hb1; have hby := blk_below (blk_new (w.alloc _) _) hb1; rw [World.size_alloc] at hby; have x0 := blk_cell hbx 0; have x1 := blk_cell hbx 1; have x2 := blk_cell hbx 2; have HBX1 := Aside0.mk hbx; have HBY1 := Aside0.mk hby; have HB1 := Aside0.mk (below_step (below_alloc (below_alloc (Below.refl _ _) _) _) hb1); clear hbx hby hb1))
    cases g with
    | true =>
      go_wp2_with (go_at_call 9; ((with_reducible refine (HGR.out _ HB1.out).mono ?_); rintro e w2 ⟨rfl, hb2⟩; have HB2 := Aside0.mk (below_step HB1.out hb2); clear hb2))
      go_ret
      exact ⟨rfl, HB2.out⟩
    | false =>
      go_wp2_with (go_at_call 9; ((with_reducible refine (HGR.out _ HB1.out).mono ?_); rintro e w2 ⟨rfl, hb2⟩; clear x0 x1 x2; have hbx := blk_below HBX1.out hb2; have hby := blk_below HBY1.out hb2; have y0 := blk_cell hby 0; have y1 := blk_cell hby 1; have y2 := blk_cell hby 2; have HBX2 := Aside0.mk hbx; have HBY2 := Aside0.mk hby; have HB2 := Aside0.mk (below_step HB1.out hb2); clear hbx hby hb2))
      cases h with
      | true =>
        go_wp2_with (go_at_call 9; ((with_reducible refine (HGS.out _ HB2.out).mono ?_); rintro e w3 ⟨rfl, hb3⟩; have HB3 := Aside0.mk (below_step HB2.out hb3); clear hb3))
        go_ret
        exact ⟨rfl, HB3.out⟩
      | false =>
        have HP1 := Aside0.mk (HPN.out (by first | exact trivial | rfl) (by first | exact trivial | rfl))
        have HP2 := Aside0.mk (HPS.out (by first | exact trivial | rfl))
        go_wp2_with (go_at_call 9; ((with_reducible refine (HGS.out _ HB2.out).mono ?_); rintro e w3 ⟨rfl, hb3⟩; clear y0 y1 y2; have hbx := blk_below HBX2.out hb3; have hby := blk_below HBY2.out hb3; have x0 := blk_cell hbx 0; have x1 := blk_cell hbx 1; have x2 := blk_cell hbx 2; have HBY3 := Aside0.mk hby; have HB3 := Aside0.mk (below_step HB2.out hb3); clear hbx hby hb3))
        go_wp2_with (go_at_call 10; ((with_reducible refine (HP1.out _ HB3.out).mono ?_); rintro e w4 ⟨v4, rfl, _, hb4⟩; clear x0 x1 x2; have hby := blk_below HBY3.out hb4; have y0 := blk_cell hby 0; have y1 := blk_cell hby 1; have y2 := blk_cell hby 2; have HB4 := Aside0.mk (below_step HB3.out hb4); clear hby hb4))
        go_wp2_with (go_at_call 10; ((with_reducible refine (HP2.out _ HB4.out).mono ?_); rintro e w5 ⟨v5, i5, rfl, hb5⟩; have HB5 := Aside0.mk (below_step HB4.out hb5); clear hb5))
        go_ret
        exact ⟨rfl, HB5.out⟩
end Go.Proofs.YtgmddlbbmlneaaaDoor.PR

namespace Go.Proofs.YtgmddlbbmlneaaaDoor
open Go.ChangeShapes Go.WideShapes Go.ChangeAt Go.RowKit
open Go.ChangeMaps (open_string shut_string)
set_option linter.unusedVariables false
set_option maxRecDepth 100000 in
theorem cut_lifted (os : Os) (started : os.Started) (H : Type) (enc : TypeId × Value → H) :
    ReturnsInHanded {} Tryd.checked os 4 .any (fun w args => (Rows.rootCutSpec.pre enc Tryd.prog Tryd.f4 [] false w args ∧ laidMetH Tryd.prog laidAll w) ∧ sizedMet enc Tryd.prog Tryd.f4 (OpenSpec.ofChange Rows.rootCutSpec) false w args)
      (Rows.rootCutSpec.post enc Tryd.prog Tryd.f4 false true false false) := by
  refine returns_of_laid_shaped (C := Tryd.checked) (X := fun w _ => laidMetH Tryd.prog laidAll w) (fun _ _ _ hh h => h.of_heap hh) own started (by kernel_rfl) Tryd.func4
    (ChangeSpec.witness_shaped (enc := enc) (C := Tryd.checked) (os := os) (X := fun w _ => laidMetH Tryd.prog laidAll w) false (World.laidAll Tryd.prog os laidAll) #[.agg #[.int .i64 0, .slice none 0 0, .slice none 0 0], .agg #[.int .i64 0, .slice none 0 0, .slice none 0 0], .int .u16 0, .int .u8 0] 8 (World.laidAll_os _ _ _)
      (world_shaped os _) (by kernel_rfl) (by kernel_rfl) (by kernel_rfl) (world_laid os _)) ?_
  intro W base args ds gs before hval0 hW hsz0 hL hshape
  have hsz : (DataW.weightsEach Tryd.prog (Tryd.f4.params.toList ++ Rows.rootCutSpec.plain.varTypes Tryd.prog) (ds ++ gs)).all (· ≤ reachBytes) = true := hsz0
  have hval : ∀ (j : Nat) t v, Tryd.f4.params[j]? = some t → args[j]? = some v → Value.okWide Tryd.prog W .any base t v := hval0
  have hW' := hW
  obtain ⟨p, q, hA0, hV, rfl, _, _⟩ := hW
  have hA : DataW.TrodAll enc Tryd.prog W 0 (fun _ => true) true Tryd.f4.params.toList args.toList ds p := hA0
  rw [Tryd.params4] at hA hval hsz
  obtain ⟨v0, vs0, d0, ds0, p0, q0, hargs, rfl, rfl, h0, r0⟩ := trodAll_cons hA
  obtain ⟨v1, vs1, d1, ds1, p1, q1, rfl, rfl, rfl, h1, r1⟩ := trodAll_cons r0
  obtain ⟨v2, vs2, d2, ds2, p2, q2, rfl, rfl, rfl, h2, r2⟩ := trodAll_cons r1
  obtain ⟨v3, vs3, d3, ds3, p3, q3, rfl, rfl, rfl, h3, r3⟩ := trodAll_cons r2
  obtain ⟨rfl, rfl, rfl⟩ := trodAll_nil r3
  obtain rfl : args = #[v0, v1, v2, v3] := by cases args; simp_all
  obtain ⟨rfl, rfl⟩ := trodVars_none hV
  have k0 := h0
  have lt0 : ∀ x ∈ p0, x.block < W.heap.size := by obtain ⟨m, hm⟩ := k0; exact DataW.trod_lt m _ _ _ hm
  obtain ⟨a0, A0, c0, l0, B0, e0, f0, rfl, g0⟩ := PR.open_root (hval 0 25 v0 rfl rfl) h0 (PR.light_of hsz (j := 0) rfl rfl)
  have k1 := h1
  have lt1 : ∀ x ∈ p1, x.block < W.heap.size := by obtain ⟨m, hm⟩ := k1; exact DataW.trod_lt m _ _ _ hm
  obtain ⟨a1, A1, c1, l1, B1, e1, f1, rfl, g1⟩ := PR.open_root (hval 1 25 v1 rfl rfl) h1 (PR.light_of hsz (j := 1) rfl rfl)
  obtain ⟨n2, rfl, rfl, rfl, w2⟩ := open_int Tryd.underlying35 (hval 2 35 v2 rfl rfl) h2
  have z2 : 0 ≤ n2 ∧ n2 ≤ 65535 := by simpa [Lit.wf, IntKind.min, IntKind.max, IntKind.signed, IntKind.bits] using w2
  obtain ⟨n3, rfl, rfl, rfl, w3⟩ := open_int Tryd.underlying5 (hval 3 5 v3 rfl rfl) h3
  have z3 : 0 ≤ n3 ∧ n3 ≤ 255 := by simpa [Lit.wf, IntKind.min, IntKind.max, IntKind.signed, IntKind.bits] using w3
  clear hA0 hval0 hsz0 hsz
  refine (PR.cut_calls a0 A0 c0 l0 B0 e0 f0 a1 A1 c1 l1 B1 e1 f1 n2 n3 W (gl_of hL hshape) g0 g1 z2.1 z2.2 z3.1 z3.2).mono fun e W' ⟨he, bel⟩ => ?_
  subst he
  exact ⟨_, rfl, _, _, _, [], _, [], hW', trodAll_mk1 (shut_bool Tryd.underlying4 _), (trodAll_cons_mk (Below.trod laidOut (by kernel_rfl) (of_decide_eq_true (by kernel_rfl)) k0 bel lt0) (trodAll_cons_mk (Below.trod laidOut (by kernel_rfl) (of_decide_eq_true (by kernel_rfl)) k1 bel lt1) (trodAll_cons_mk (shut_int Tryd.underlying35 w2) (trodAll_cons_mk (shut_int Tryd.underlying5 w3) trodAll_mk0)))), rfl, bel.frame _, fun h => by cases h⟩
theorem cut_row : Rows.RootCutSaid :=
  OpenClaim.holds_of_wide 4 Tryd.f4 rfl rfl rfl rfl rfl rfl rfl ⟨rfl, rfl, rfl, rfl, rfl⟩ rfl rfl rfl rfl rfl (by kernel_rfl) Tryd.func4 (by kernel_rfl)
    (of_decide_eq_true (by kernel_rfl)) (by unfold Func.isWrapper; first | (rw [if_pos (by decide +kernel)]; kernel_rfl) | (rw [if_neg (by decide +kernel)]; exact ⟨rfl, rfl⟩))
    (fun os started H enc _ => cut_lifted os started H enc)
/-- The card of RootCut. -/
theorem rootCut_card : Rows.RootCutCardSaid :=
  Claim7.holds_tied_plain_at .later [] [.data, .data, .data, .data, .pinned] true (true, "d4d9c08d40b983332ad15210d3b8e1aadaf604dc8762445fc9ba714d1cfdd239") true cut_row (fun _ h => by cases h) (by kernel_rfl) (fun _ h => by cases h) rootCut_row_tie rfl ⟨rfl, rfl⟩ (by kernel_rfl) rfl
    (fun f fn hf hfn => by
      obtain rfl : f = 4 := Option.some.inj ((show Tryd.prog.funcNamed "sacristy/sacristylaw10.RootCut" = some 4 by kernel_rfl).symm.trans hf) |>.symm
      obtain rfl : fn = Tryd.f4 := (Option.some.inj (Tryd.func4.symm.trans hfn)).symm
      exact ⟨by kernel_rfl, fun j t ht => by
        rw [Tryd.params4] at ht
        have hm : t ∈ [25, 25, 35, 5] := by simpa using Array.mem_of_getElem? ht
        have hall : ([25, 25, 35, 5].all fun u => !Tryd.prog.wantsStandIn u) = true := by kernel_rfl
        exact (show Tryd.prog.wantsStandIn t = false by simpa using List.all_eq_true.1 hall t hm)⟩)
    (by kernel_rfl)
#print axioms rootCut_card
end Go.Proofs.YtgmddlbbmlneaaaDoor
