/- The walk of functions that the law FnNumbers uses, written by program. -/
import Derived.Test.YtdojcdhlcnlohaaSFnNumbersx0
import Derived.Test.YtdojcdhlcnlohaaSFnNumbersx1
namespace Go.Proofs.Ytdojcdhlcnlohaa.SFnNumbers
open Go.RowKit Go.Proofs.YtdojcdhlcnlohaaW.PrintWords Go.Proofs.YtdojcdhlcnlohaaW.PrintLast Go.Proofs.YtdojcdhlcnlohaaW.PrintMore
attribute [local go_sem] max2_int min2_int max_two min_two max_three min_three max_four min_four   -- for this text's walks alone
set_option linter.unusedVariables false
set_option linter.unusedSimpArgs false

/-! ### spec_DrawNumBytes: function 50 -/
def spec_DrawNumBytes.j0 : Nat → Int → Bool → List Int → Int → Int → Option (Int × Int)
  | 0, _, _, _, _, _ => none
  | k + 1, x5, x15, x152000, x152001, x152002 => if x15 = true then ((spec_l01Src_number.f k x152000 x152001 x152002).bind fun bt158 => (some (x5, bt158.1))) else ((spec_l01Src_next.f x152000 x152001 x152002 300).bind fun bt161 => ((spec_l01Src_next.f x152000 bt161.2.1 bt161.2.2 70000).bind fun bt164 => ((spec_l01Src_next.f x152000 bt164.2.1 bt164.2.2 16777216).bind fun bt167 => ((some (([bt161.1, bt164.1, bt167.1, 127, 128, 32767, 32768, 2147483647, 2147483648] : List Int) : List Int)).bind fun y170 => ((spec_l01Src_next.f x152000 bt167.2.1 bt167.2.2 9).bind fun bt173 => (if 0 ≤ bt173.1 then (if bt173.1 < (y170.length : Int) then (some (x5, wrap64 ((wrap64 (x5 - 1)) - (rd y170 bt173.1)))) else (none)) else (none)))))))
def spec_DrawNumBytes.f (k : Nat) (l0 : List Int) : Option (Int × Int) := (spec_l01Source.f l0).bind fun bt148 => ((spec_l01Src_number.f k bt148.1 bt148.2.1 bt148.2.2).bind fun bt152 => ((spec_l01Src_chance.f bt148.1 bt152.2.1 bt152.2.2 3).bind fun bt155 => (if bt155.1 = true then (spec_DrawNumBytes.j0 k bt152.1 true bt148.1 bt155.2.1 bt155.2.2) else (spec_DrawNumBytes.j0 k bt152.1 (decide (bt152.1 < 0)) bt148.1 bt155.2.1 bt155.2.2))))
theorem spec_DrawNumBytes.mono_l : ∀ k, (∀ y0 y1 y2 y3 y4, LeO (spec_DrawNumBytes.j0 k y0 y1 y2 y3 y4) (spec_DrawNumBytes.j0 (k + 1) y0 y1 y2 y3 y4))
  | 0 => fun _ _ _ _ _ r h => by simp [spec_DrawNumBytes.j0] at h
  | k + 1 => by
    have ih0 := spec_DrawNumBytes.mono_l k
    · intro y0 y1 y2 y3 y4
      unfold spec_DrawNumBytes.j0
      repeat' first
      | (with_reducible exact ih0 _ _ _ _ _)
      | (with_reducible exact spec_l01Src_number.mono _ _ _ _)
      | (with_reducible exact LeO.refl _)
      | (with_reducible exact LeO.none _)
      | (with_reducible refine LeO.ite ?_ ?_)
      | (with_reducible refine LeO.bind ?_ (fun _ => ?_))
      | exact ih0 _ _ _ _ _
      | exact spec_l01Src_number.mono _ _ _ _
      | exact LeO.none _
      | refine LeO.ite ?_ ?_
      | refine LeO.bind ?_ (fun _ => ?_)
theorem spec_DrawNumBytes.mono : ∀ a0 k, LeO (spec_DrawNumBytes.f k a0) (spec_DrawNumBytes.f (k + 1) a0) := by
  intro a0 k
  have ih0 := spec_DrawNumBytes.mono_l k
  unfold spec_DrawNumBytes.f
  repeat' first
      | (with_reducible exact ih0 _ _ _ _ _)
      | (with_reducible exact spec_l01Src_number.mono _ _ _ _)
      | (with_reducible exact LeO.refl _)
      | (with_reducible exact LeO.none _)
      | (with_reducible refine LeO.ite ?_ ?_)
      | (with_reducible refine LeO.bind ?_ (fun _ => ?_))
      | exact ih0 _ _ _ _ _
      | exact spec_l01Src_number.mono _ _ _ _
      | exact LeO.none _
      | refine LeO.ite ?_ ?_
      | refine LeO.bind ?_ (fun _ => ?_)
def spec_DrawNumBytes.T5 : Bool × List (List Nat × List Nat) := (true, [([], []), ([], []), ([1], [1]), ([], []), ([3], [3]), ([], []), ([5, 4], [5]), ([], []), ([7, 6], [7]), ([4, 6, 8], [4, 6, 8]), ([], []), ([10, 8], [10]), ([9, 11], [9, 11]), ([12], [12]), ([2, 13], [2, 13]), ([0, 11, 0], [0]), ([14, 15, 0, 1, 2, 3, 4, 5, 6, 7, 8, 9, 10, 11, 12, 13, 14, 15], [14])])
def spec_DrawNumBytes.B5 : List Nat := [0, 0, 2, 0, 8, 0, 56, 0, 248, 504, 0, 1528, 4088, 8184, 16382, 3577, 65535]
theorem spec_DrawNumBytes.tab5 : rtab .any (opsOf Try.f50 5) = spec_DrawNumBytes.T5 := by kernel_rfl
theorem spec_DrawNumBytes.bits5 : waitsOk spec_DrawNumBytes.T5.2 spec_DrawNumBytes.B5 = true := by kernel_rfl
set_option maxHeartbeats 8000000 in
set_option maxRecDepth 100000 in
theorem spec_DrawNumBytes.calls (k : Nat) (A0 : Option Addr) (c0 : Nat) (l0 : List Int) (r1 : Int) (r2 : Int) (w : World) (hr0 : Kd.C (Kd.int .u8) w A0 l0.length l0) (hc0 : l0.length ≤ c0) (h : spec_DrawNumBytes.f k l0 = some (r1, r2)) :
    Calls Try.prog 50 #[.slice A0 l0.length c0] w fun e w' => e = .returned (.tuple #[.int .i64 r1, .int .i64 r2]) ∧ Below w.heap.size w w' := by
  have HR0 := Aside0.mk hr0
  have HC0 := Aside0.mk hc0
  clear hr0 hc0
  have HB := Aside0.mk (Below.refl w.heap.size w)
  have H : ((spec_l01Source.f l0).bind fun bt148 => ((spec_l01Src_number.f k bt148.1 bt148.2.1 bt148.2.2).bind fun bt152 => ((spec_l01Src_chance.f bt148.1 bt152.2.1 bt152.2.2 3).bind fun bt155 => (if bt155.1 = true then (spec_DrawNumBytes.j0 k bt152.1 true bt148.1 bt155.2.1 bt155.2.2) else (spec_DrawNumBytes.j0 k bt152.1 (decide (bt152.1 < 0)) bt148.1 bt155.2.1 bt155.2.2))))) = some (r1, r2) := h
  clear h
  replace H := Option.bind_eq_some_iff.mp H
  obtain ⟨⟨t148, t149, t150⟩, A20, H⟩ := H
  replace H : ((spec_l01Src_number.f k t148 t149 t150).bind fun bt152 => ((spec_l01Src_chance.f t148 bt152.2.1 bt152.2.2 3).bind fun bt155 => (if bt155.1 = true then (spec_DrawNumBytes.j0 k bt152.1 true t148 bt155.2.1 bt155.2.2) else (spec_DrawNumBytes.j0 k bt152.1 (decide (bt152.1 < 0)) t148 bt155.2.1 bt155.2.2)))) = some (r1, r2) := H
  have A2 := Aside0.mk A20
  clear A20
  replace H := Option.bind_eq_some_iff.mp H
  obtain ⟨⟨t152, t153, t154⟩, A30, H⟩ := H
  replace H : ((spec_l01Src_chance.f t148 t153 t154 3).bind fun bt155 => (if bt155.1 = true then (spec_DrawNumBytes.j0 k t152 true t148 bt155.2.1 bt155.2.2) else (spec_DrawNumBytes.j0 k t152 (decide (t152 < 0)) t148 bt155.2.1 bt155.2.2))) = some (r1, r2) := H
  have A3 := Aside0.mk A30
  clear A30
  have HC4 := Aside0.mk H
  clear H
  go_enter Try.func50, Try.ntmps50
  go_upto_region 3 with (first | ((with_reducible refine gate_callee (f := 90) rfl ?_); refine goesL_ (some 7) rfl rfl Try.func90 (by kernel_rfl) rfl #[.slice A0 l0.length c0] rfl (by (try simp only [List.map_toArray, List.map_cons, List.map_nil]); first | done | rfl | (simp only [List.length_drop, List.length_take]; rfl)) ?_; (with_reducible refine (spec_l01Source.calls _ _ l0 t148 t149 t150 w _ ?side1 ?side2 ?side3 A2.out).mono ?_); (case side1 => repeat (first | (with_reducible first | exact HB.out | apply below_alloc | apply pw_below_drewN | apply below_drew1) | exact HB.out)); (case side2 => exact HR0.out); (case side3 => exact HC0.out); rintro e w5 ⟨g151, rfl, hi, hb, hb2⟩; refine ⟨_, rfl, ?_⟩; have n0_ := Aside0.mk (hb); have n1_ := Aside0.mk (hi); clear HB; have HB := n0_; have HI151 := n1_; clear n0_ n1_; (try clear hb); (try clear hb2); (try clear hk); (try clear hi)) | ((with_reducible refine gate_callee (f := 91) rfl ?_); refine goesL_ (some 9) rfl rfl Try.func91 (by kernel_rfl) rfl #[.pointer (some ⟨g151, 0, none⟩)] rfl (by (try simp only [List.map_toArray, List.map_cons, List.map_nil]); first | done | rfl | (simp only [List.length_drop, List.length_take]; rfl)) ?_; (with_reducible refine (spec_l01Src_number.calls k g151 t148 t149 t150 t152 t153 t154 w _ ?side1 ?side2 A3.out).mono ?_); (case side1 => repeat (first | (with_reducible first | exact HI151.out | apply IsS112.alloc | apply IsS112.drewN | apply IsS112.drew | apply IsS112.set_1 | apply IsS112.set_2) | exact HI151.out)); (case side2 => repeat (first | (with_reducible first | exact HB.out | apply below_alloc | apply pw_below_drewN | apply below_drew1 | refine below_set ?_ (IsS112.ge HI151.out)) | exact HB.out)); rintro e w6 ⟨rfl, hi, hb, hk⟩; refine ⟨_, rfl, ?_⟩; have n0_ := Aside0.mk (hb); have n1_ := Aside0.mk (hi); clear HB; clear HI151; have HB := n0_; have HI151 := n1_; clear n0_ n1_; (try clear hb); (try clear hb2); (try clear hk); (try clear hi)))
  (try simp only [Act.put, List.setIfInBounds_toArray, List.set_cons_zero, List.set_cons_succ])
  go_cut [15] (fun v15 wc => ∃ (kq : Nat) (x15_3 : Bool) (x152001_3 : Int) (x152002_3 : Int), v15 = .bool x15_3 ∧ Aside0 (spec_DrawNumBytes.j0 kq t152 x15_3 t148 x152001_3 x152002_3 = some (r1, r2)) ∧ Aside0 (kq ≤ k) ∧ Aside0 (IsS112 w wc g151 t148 x152001_3 x152002_3) ∧ Aside0 (Below w.heap.size w wc))
  case first =>
    have H := HC4.out
    clear HC4
    replace H := Option.bind_eq_some_iff.mp H
    obtain ⟨⟨t155, t156, t157⟩, A70, H⟩ := H
    replace H : (if t155 = true then (spec_DrawNumBytes.j0 k t152 true t148 t156 t157) else (spec_DrawNumBytes.j0 k t152 (decide (t152 < 0)) t148 t156 t157)) = some (r1, r2) := H
    have A7 := Aside0.mk A70
    clear A70
    by_cases c8 : t155 = true
    · subst c8
      have H1 : (spec_DrawNumBytes.j0 k t152 true t148 t156 t157) = some (r1, r2) := by rw [if_pos rfl] at H; exact H
      clear H
      have H := H1
      clear H1
      have H' := Aside0.mk H
      clear H
      go_wp2_with (first | ((with_reducible refine gate_callee (f := 92) rfl ?_); refine goesL_ (some 11) rfl rfl Try.func92 (by kernel_rfl) rfl #[.pointer (some ⟨g151, 0, none⟩), .int .i64 3] rfl (by (try simp only [List.map_toArray, List.map_cons, List.map_nil]); first | done | rfl | (simp only [List.length_drop, List.length_take]; rfl)) ?_; (with_reducible refine (spec_l01Src_chance.calls g151 t148 t153 t154 3 true t156 t157 w _ ?side1 ?side2 A7.out).mono ?_); (case side1 => repeat (first | (with_reducible first | exact HI151.out | apply IsS112.alloc | apply IsS112.drewN | apply IsS112.drew | apply IsS112.set_1 | apply IsS112.set_2) | exact HI151.out)); (case side2 => repeat (first | (with_reducible first | exact HB.out | apply below_alloc | apply pw_below_drewN | apply below_drew1 | refine below_set ?_ (IsS112.ge HI151.out)) | exact HB.out)); rintro e w9 ⟨rfl, hi, hb, hk⟩; refine ⟨_, rfl, ?_⟩; have n0_ := Aside0.mk (hb); have n1_ := Aside0.mk (hi); clear HB; clear HI151; have HB := n0_; have HI151 := n1_; clear n0_ n1_; (try clear hb); (try clear hb2); (try clear hk); (try clear hi)))
      go_meet
      case rel => exact ⟨_, (true), (t156), (t157), (by first | rfl | (simp; done) | (simp [*]; done)), H', ⟨by first | omega | exact Nat.le_refl _⟩, ⟨by repeat (first | (with_reducible first | exact HI151.out | apply IsS112.alloc | apply IsS112.drewN | apply IsS112.drew | apply IsS112.set_1 | apply IsS112.set_2) | exact HI151.out)⟩, ⟨by repeat (first | (with_reducible first | exact HB.out | apply below_alloc | apply pw_below_drewN | apply below_drew1 | refine below_set ?_ (IsS112.ge HI151.out)) | exact HB.out)⟩⟩
    · replace c8 := Bool.eq_false_iff.mpr c8
      subst c8
      have H1 : (spec_DrawNumBytes.j0 k t152 (decide (t152 < 0)) t148 t156 t157) = some (r1, r2) := by rw [if_neg (show ¬ (false = true) by decide)] at H; exact H
      clear H
      have H := H1
      clear H1
      have H' := Aside0.mk H
      clear H
      go_wp2_with (first | ((with_reducible refine gate_callee (f := 92) rfl ?_); refine goesL_ (some 11) rfl rfl Try.func92 (by kernel_rfl) rfl #[.pointer (some ⟨g151, 0, none⟩), .int .i64 3] rfl (by (try simp only [List.map_toArray, List.map_cons, List.map_nil]); first | done | rfl | (simp only [List.length_drop, List.length_take]; rfl)) ?_; (with_reducible refine (spec_l01Src_chance.calls g151 t148 t153 t154 3 false t156 t157 w _ ?side1 ?side2 A7.out).mono ?_); (case side1 => repeat (first | (with_reducible first | exact HI151.out | apply IsS112.alloc | apply IsS112.drewN | apply IsS112.drew | apply IsS112.set_1 | apply IsS112.set_2) | exact HI151.out)); (case side2 => repeat (first | (with_reducible first | exact HB.out | apply below_alloc | apply pw_below_drewN | apply below_drew1 | refine below_set ?_ (IsS112.ge HI151.out)) | exact HB.out)); rintro e w10 ⟨rfl, hi, hb, hk⟩; refine ⟨_, rfl, ?_⟩; have n0_ := Aside0.mk (hb); have n1_ := Aside0.mk (hi); clear HB; clear HI151; have HB := n0_; have HI151 := n1_; clear n0_ n1_; (try clear hb); (try clear hb2); (try clear hk); (try clear hi)))
      go_meet
      case rel => exact ⟨_, (decide (t152 < 0)), (t156), (t157), (by first | rfl | (simp; done) | (simp [*]; done)), H', ⟨by first | omega | exact Nat.le_refl _⟩, ⟨by repeat (first | (with_reducible first | exact HI151.out | apply IsS112.alloc | apply IsS112.drewN | apply IsS112.drew | apply IsS112.set_1 | apply IsS112.set_2) | exact HI151.out)⟩, ⟨by repeat (first | (with_reducible first | exact HB.out | apply below_alloc | apply pw_below_drewN | apply below_drew1 | refine below_set ?_ (IsS112.ge HI151.out)) | exact HB.out)⟩⟩
  case rest =>
    clear HC4
    try clear p2
    try clear c5
    try clear c8
    try clear c9
    obtain ⟨kq, x15_3, x152001_3, x152002_3, rfl, HA, HJ3, HI151, HB⟩ := hcut
    cases kq with
    | zero => exact absurd HA.out (by simp [spec_DrawNumBytes.j0])
    | succ kj3 =>
      have H := HA.out
      clear HA
      simp only [spec_DrawNumBytes.j0] at H
      by_cases c11 : x15_3 = true
      · subst c11
        have H1 : ((spec_l01Src_number.f kj3 t148 x152001_3 x152002_3).bind fun bt158 => (some (t152, bt158.1))) = some (r1, r2) := by rw [if_pos rfl] at H; exact H
        clear H
        have H := H1
        clear H1
        replace H := Option.bind_eq_some_iff.mp H
        obtain ⟨⟨t158, t159, t160⟩, A120, H⟩ := H
        replace H : (some (t152, t158)) = some (r1, r2) := H
        have A12 := Aside0.mk A120
        clear A120
        simp only [Option.some.injEq, Prod.mk.injEq] at H
        obtain ⟨rfl, rfl⟩ := H
        go_wp2_with (first | ((with_reducible refine gate_callee (f := 91) rfl ?_); refine goesL_ (some 18) rfl rfl Try.func91 (by kernel_rfl) rfl #[.pointer (some ⟨g151, 0, none⟩)] rfl (by (try simp only [List.map_toArray, List.map_cons, List.map_nil]); first | done | rfl | (simp only [List.length_drop, List.length_take]; rfl)) ?_; (with_reducible refine (spec_l01Src_number.calls kj3 g151 t148 x152001_3 x152002_3 t158 t159 t160 w _ ?side1 ?side2 A12.out).mono ?_); (case side1 => repeat (first | (with_reducible first | exact HI151.out | apply IsS112.alloc | apply IsS112.drewN | apply IsS112.drew | apply IsS112.set_1 | apply IsS112.set_2) | exact HI151.out)); (case side2 => repeat (first | (with_reducible first | exact HB.out | apply below_alloc | apply pw_below_drewN | apply below_drew1 | refine below_set ?_ (IsS112.ge HI151.out)) | exact HB.out)); rintro e w13 ⟨rfl, hi, hb, hk⟩; refine ⟨_, rfl, ?_⟩; have n0_ := Aside0.mk (hb); have n1_ := Aside0.mk (hi); clear HB; clear HI151; have HB := n0_; have HI151 := n1_; clear n0_ n1_; (try clear hb); (try clear hb2); (try clear hk); (try clear hi)))
        go_ret2
        exact ⟨by first | rfl | (simp [errW_none, errW_some] <;> rfl) | (simp [*, errW_none, errW_some] <;> rfl), by repeat (first | (with_reducible first | exact HB.out | apply below_alloc | apply pw_below_drewN | apply below_drew1 | refine below_set ?_ (IsS112.ge HI151.out)) | exact HB.out)⟩
      · replace c11 := Bool.eq_false_iff.mpr c11
        subst c11
        have H1 : ((spec_l01Src_next.f t148 x152001_3 x152002_3 300).bind fun bt161 => ((spec_l01Src_next.f t148 bt161.2.1 bt161.2.2 70000).bind fun bt164 => ((spec_l01Src_next.f t148 bt164.2.1 bt164.2.2 16777216).bind fun bt167 => ((some (([bt161.1, bt164.1, bt167.1, 127, 128, 32767, 32768, 2147483647, 2147483648] : List Int) : List Int)).bind fun y170 => ((spec_l01Src_next.f t148 bt167.2.1 bt167.2.2 9).bind fun bt173 => (if 0 ≤ bt173.1 then (if bt173.1 < (y170.length : Int) then (some (t152, wrap64 ((wrap64 (t152 - 1)) - (rd y170 bt173.1)))) else (none)) else (none))))))) = some (r1, r2) := by rw [if_neg (show ¬ (false = true) by decide)] at H; exact H
        clear H
        have H := H1
        clear H1
        replace H := Option.bind_eq_some_iff.mp H
        obtain ⟨⟨t161, t162, t163⟩, A140, H⟩ := H
        replace H : ((spec_l01Src_next.f t148 t162 t163 70000).bind fun bt164 => ((spec_l01Src_next.f t148 bt164.2.1 bt164.2.2 16777216).bind fun bt167 => ((some (([t161, bt164.1, bt167.1, 127, 128, 32767, 32768, 2147483647, 2147483648] : List Int) : List Int)).bind fun y170 => ((spec_l01Src_next.f t148 bt167.2.1 bt167.2.2 9).bind fun bt173 => (if 0 ≤ bt173.1 then (if bt173.1 < (y170.length : Int) then (some (t152, wrap64 ((wrap64 (t152 - 1)) - (rd y170 bt173.1)))) else (none)) else (none)))))) = some (r1, r2) := H
        have A14 := Aside0.mk A140
        clear A140
        replace H := Option.bind_eq_some_iff.mp H
        obtain ⟨⟨t164, t165, t166⟩, A150, H⟩ := H
        replace H : ((spec_l01Src_next.f t148 t165 t166 16777216).bind fun bt167 => ((some (([t161, t164, bt167.1, 127, 128, 32767, 32768, 2147483647, 2147483648] : List Int) : List Int)).bind fun y170 => ((spec_l01Src_next.f t148 bt167.2.1 bt167.2.2 9).bind fun bt173 => (if 0 ≤ bt173.1 then (if bt173.1 < (y170.length : Int) then (some (t152, wrap64 ((wrap64 (t152 - 1)) - (rd y170 bt173.1)))) else (none)) else (none))))) = some (r1, r2) := H
        have A15 := Aside0.mk A150
        clear A150
        replace H := Option.bind_eq_some_iff.mp H
        obtain ⟨⟨t167, t168, t169⟩, A160, H⟩ := H
        replace H : ((some (([t161, t164, t167, 127, 128, 32767, 32768, 2147483647, 2147483648] : List Int) : List Int)).bind fun y170 => ((spec_l01Src_next.f t148 t168 t169 9).bind fun bt173 => (if 0 ≤ bt173.1 then (if bt173.1 < (y170.length : Int) then (some (t152, wrap64 ((wrap64 (t152 - 1)) - (rd y170 bt173.1)))) else (none)) else (none)))) = some (r1, r2) := H
        have A16 := Aside0.mk A160
        clear A160
        obtain ⟨y170, hy170⟩ : ∃ y_ : List Int, y_ = (([t161, t164, t167, 127, 128, 32767, 32768, 2147483647, 2147483648] : List Int)) := ⟨_, rfl⟩
        replace H : ((spec_l01Src_next.f t148 t168 t169 9).bind fun bt173 => (if 0 ≤ bt173.1 then (if bt173.1 < (y170.length : Int) then (some (t152, wrap64 ((wrap64 (t152 - 1)) - (rd y170 bt173.1)))) else (none)) else (none))) = some (r1, r2) := by first | (rw [hy170]; with_reducible exact H) | (have H2_ := (Option.bind_some _ _).symm.trans H; rw [hy170]; with_reducible exact H2_) | (have H2_ := (Option.bind_some _ _).symm.trans H; with_reducible exact H2_) | with_reducible exact H | (rw [hy170]; exact H) | exact H
        have Ny170 := Aside0.mk hy170
        clear hy170
        replace H := Option.bind_eq_some_iff.mp H
        obtain ⟨⟨t173, t174, t175⟩, A170, H⟩ := H
        replace H : (if 0 ≤ t173 then (if t173 < (y170.length : Int) then (some (t152, wrap64 ((wrap64 (t152 - 1)) - (rd y170 t173)))) else (none)) else (none)) = some (r1, r2) := H
        have A17 := Aside0.mk A170
        clear A170
        by_cases c18 : 0 ≤ t173
        · rw [if_pos c18] at H
          have c18b0 : decide (0 ≤ t173) = true := decide_eq_true c18
          clear c18
          by_cases c19 : t173 < (y170.length : Int)
          · rw [if_pos c19] at H
            have c19b0 : decide (t173 < (y170.length : Int)) = true := decide_eq_true c19
            clear c19
            simp only [Option.some.injEq, Prod.mk.injEq] at H
            obtain ⟨rfl, rfl⟩ := H
            try go_wp2
            have pi176 : (0 ≤ (t173 : Int)) = True := eq_true (of_decide_eq_true (by first | (with_reducible assumption) | assumption))
            have qi176 : (t173 < (y170.length : Int)) = True := eq_true (of_decide_eq_true (by first | (with_reducible assumption) | assumption))
            have n0_ := Aside0.mk (IsS112.drew HI151.out)
            have n1_ := Aside0.mk (below_drew1 HB.out)
            clear HI151
            clear HB
            have HI151 := n0_
            have HB := n1_
            clear n0_ n1_
            refine start_ (n := 17) (S := fun w' => True) (ds := []) #[false, false, false, false, false, false, false, false, false, false, false, false, false, false, false, false, false] (by kernel_rfl) rfl rfl trivial (fun hHeld => ?_); refine with_tabW spec_DrawNumBytes.tab5 spec_DrawNumBytes.bits5 (fun HT_ HW_ => ?_)
            generalize wc.drew = w20 at HI151 HB hHeld ⊢
            refine pure_ (i := 0) (N := some 19) (v := ?_) (a' := ?_) #[true, false, false, false, false, false, false, false, false, false, false, false, false, false, false, false, false] rfl rfl (any_of HT_.out (by kernel_rfl)) (fun _ _ _ h => h) (Or.inl ⟨by rfl, ?_⟩) ?_ ?_
            rotate_left
            · intro w'
              go_simp
              with_reducible rfl
            rotate_left
            · simp only [Act.put, List.setIfInBounds_toArray, List.set_cons_zero, List.set_cons_succ, i64_w, i32_w]
              rfl
            refine pure_ (i := 1) (N := some 20) (v := ?_) (a' := ?_) #[true, true, false, false, false, false, false, false, false, false, false, false, false, false, false, false, false] rfl rfl (any_of HT_.out (by kernel_rfl)) (fun _ _ _ h => h) (Or.inl ⟨by rfl, ?_⟩) ?_ ?_
            rotate_left
            · intro w'
              go_simp
              with_reducible rfl
            rotate_left
            · simp only [Act.put, List.setIfInBounds_toArray, List.set_cons_zero, List.set_cons_succ, i64_w, i32_w]
              rfl
            refine pure_ (i := 3) (N := some 22) (v := ?_) (a' := ?_) #[true, true, false, true, false, false, false, false, false, false, false, false, false, false, false, false, false] rfl rfl (any_of HT_.out (by kernel_rfl)) (fun _ _ _ h => h) (Or.inl ⟨by rfl, ?_⟩) ?_ ?_
            rotate_left
            · intro w'
              go_simp
              with_reducible rfl
            rotate_left
            · simp only [Act.put, List.setIfInBounds_toArray, List.set_cons_zero, List.set_cons_succ, i64_w, i32_w]
              rfl
            refine pure_ (i := 5) (N := some 24) (v := ?_) (a' := ?_) #[true, true, false, true, false, true, false, false, false, false, false, false, false, false, false, false, false] rfl rfl (any_of HT_.out (by kernel_rfl)) (fun _ _ _ h => h) (Or.inl ⟨by rfl, ?_⟩) ?_ ?_
            rotate_left
            · intro w'
              go_simp
              with_reducible rfl
            rotate_left
            · simp only [Act.put, List.setIfInBounds_toArray, List.set_cons_zero, List.set_cons_succ, i64_w, i32_w]
              rfl
            refine pure_ (i := 7) (N := some 26) (v := ?_) (a' := ?_) #[true, true, false, true, false, true, false, true, false, false, false, false, false, false, false, false, false] rfl rfl (any_of HT_.out (by kernel_rfl)) (fun _ _ _ h => h) (Or.inl ⟨by rfl, ?_⟩) ?_ ?_
            rotate_left
            · intro w'
              go_simp
              with_reducible rfl
            rotate_left
            · simp only [Act.put, List.setIfInBounds_toArray, List.set_cons_zero, List.set_cons_succ, i64_w, i32_w]
              rfl
            refine pure_ (i := 10) (N := some 29) (v := ?_) (a' := ?_) #[true, true, false, true, false, true, false, true, false, false, true, false, false, false, false, false, false] rfl rfl (any_of HT_.out (by kernel_rfl)) (fun _ _ _ h => h) (Or.inl ⟨by rfl, ?_⟩) ?_ ?_
            rotate_left
            · intro w'
              go_simp
              with_reducible rfl
            rotate_left
            · simp only [Act.put, List.setIfInBounds_toArray, List.set_cons_zero, List.set_cons_succ, i64_w, i32_w]
              rfl
            refine inv_at [2, 4, 6, 8, 9, 11, 12, 13, 14, 15, 16] (fun a0_ b a w' => ∃ (v171 : Value) (adz_v171 : Addr) (m12_ : Value), a = putSel a0_ b [(2, 21, .int .i64 (wrap64 (t152 - 1))), (4, 23, .int .i64 t161), (6, 25, .int .i64 t164), (8, 27, .int .i64 t167), (9, 28, v171), (11, 30, .int .i64 t173), (12, 31, m12_), (13, 32, .int .i64 (rd y170 t173)), (14, 33, .int .i64 (wrap64 ((wrap64 (t152 - 1)) - (rd y170 t173)))), (15, 2, .int .i64 t152), (16, 3, .int .i64 (wrap64 ((wrap64 (t152 - 1)) - (rd y170 t173))))] ∧ (b 4 = false → IsS112 w w' g151 t148 x152001_3 x152002_3) ∧ (Below w.heap.size w w') ∧ (b 4 = true → b 6 = false → IsS112 w w' g151 t148 t162 t163) ∧ (b 6 = true → b 8 = false → IsS112 w w' g151 t148 t165 t166) ∧ (b 8 = true → b 11 = false → IsS112 w w' g151 t148 t168 t169) ∧ (b 9 = true → Kd.R (Kd.int .i64) 3 w' w.heap.size (fun _ => True) v171 y170) ∧ (b 9 = true → ∃ c_, (v171 : Value) = .slice (some adz_v171) y170.length c_) ∧ (b 11 = true → IsS112 w w' g151 t148 t174 t175) ∧ (b 12 = true → (m12_ : Value) = .pointer (some (adz_v171.add (t173).toNat)))) HT_.out HW_.out (by kernel_rfl) (by kernel_rfl) ?_ ?_ ?_
            · exact ⟨.bool false, ⟨0, 0, none⟩, .bool false, by simp only [putSel, Bool.false_eq_true, if_false], fun _ => HI151.out, HB.out, fun h_ => absurd h_ (by decide), fun h_ => absurd h_ (by decide), fun h_ => absurd h_ (by decide), fun h_ => absurd h_ (by decide), fun h_ => absurd h_ (by decide), fun h_ => absurd h_ (by decide), fun h_ => absurd h_ (by decide)⟩
            · skip
              clear HB HI151
              refine steps_cons ?_ ?_
              · rintro b a w' ⟨v171, adz_v171, m12_, ha, Q_HI151, Q_HB, Q_HI151_e4, Q_HI151_e6, Q_HI151_e8, Q_HO172, Q_HA_HO172, Q_HI151_e11, Q_X12_⟩ hb_ hon hoff
                refine ⟨_, rfl, fun K hK => ?_⟩
                have e20 : a.tmps[20]? = some (.int .i64 t152) := by rw [ha]; exact (putSel_off rfl).trans rfl
                replace ha := Aside0.mk ha
                have HB := Aside0.mk Q_HB
                refine value_ (w1 := w') (v := .int .i64 (wrap64 (t152 - 1))) (by rfl) rfl ?_ ?_
                · go_simp
                  (try simp only [i64_w])
                  try rfl
                refine hK.out _ _ ⟨v171, adz_v171, m12_, (by rw [ha.out]; exact putSel_upk 0 hb_ rfl rfl rfl), Q_HI151, Q_HB, Q_HI151_e4, Q_HI151_e6, Q_HI151_e8, Q_HO172, Q_HA_HO172, Q_HI151_e11, Q_X12_⟩
              refine steps_cons ?_ ?_
              · rintro b a w' ⟨v171, adz_v171, m12_, ha, Q_HI151, Q_HB, Q_HI151_e4, Q_HI151_e6, Q_HI151_e8, Q_HO172, Q_HA_HO172, Q_HI151_e11, Q_X12_⟩ hb_ hon hoff
                refine ⟨_, rfl, fun K hK => ?_⟩
                have e22 : a.tmps[22]? = some (.pointer (some ⟨g151, 0, none⟩)) := by rw [ha]; exact (putSel_off rfl).trans rfl
                replace ha := Aside0.mk ha
                have HI151 := Aside0.mk (Q_HI151 hb_)
                have HB := Aside0.mk Q_HB
                refine goes_ Try.func93 (by kernel_rfl) rfl #[.pointer (some ⟨g151, 0, none⟩), .int .i64 300] (by rfl) rfl rfl (by first | (simp only [List.map_toArray, List.map_cons, List.map_nil, Act.eval, Array.getD_eq_getD_getElem?, Option.getD_some, e22]; done) | (simp only [List.map_toArray, List.map_cons, List.map_nil, Act.eval, Array.getD_eq_getD_getElem?, Option.getD_some, e22]; rfl)) ?_
                with_reducible refine (spec_l01Src_next.calls g151 t148 x152001_3 x152002_3 300 t161 t162 t163 w _ ?side1 ?side2 A14.out).mono ?_
                (case side1 => repeat (first | (with_reducible first | exact HI151.out | apply IsS112.alloc | apply IsS112.drewN | apply IsS112.drew | apply IsS112.set_1 | apply IsS112.set_2) | exact HI151.out))
                (case side2 => repeat (first | (with_reducible first | exact HB.out | apply below_alloc | apply pw_below_drewN | apply below_drew1 | refine below_set ?_ (IsS112.ge HI151.out)) | exact HB.out))
                rintro e w21 ⟨rfl, hi, hb, hk⟩
                refine ⟨_, rfl, ?_⟩
                have n0_ := Aside0.mk (hb)
                have n1_ := Aside0.mk (hi)
                clear HB
                clear HI151
                have HB := n0_
                have HI151 := n1_
                clear n0_ n1_
                (try clear hb)
                (try clear hb2)
                (try clear hk)
                (try clear hi)
                refine hK.out _ _ ⟨v171, adz_v171, m12_, (by rw [ha.out]; exact putSel_upk 1 hb_ rfl rfl rfl), fun h0_ => absurd ((up_self b 4).symm.trans h0_) (by decide), (by repeat (first | (with_reducible first | exact HB.out | apply below_alloc | apply pw_below_drewN | apply below_drew1 | refine below_set ?_ (IsS112.ge HI151.out)) | exact HB.out)), fun _ _ => (by repeat (first | (with_reducible first | exact HI151.out | apply IsS112.alloc | apply IsS112.drewN | apply IsS112.drew | apply IsS112.set_1 | apply IsS112.set_2) | exact HI151.out)), fun h0_ _ => absurd ((hoff 6 (by kernel_rfl)).symm.trans h0_) (by decide), fun h0_ _ => absurd ((hoff 8 (by kernel_rfl)).symm.trans h0_) (by decide), fun h0_ => absurd ((hoff 9 (by kernel_rfl)).symm.trans h0_) (by decide), fun h0_ => absurd ((hoff 9 (by kernel_rfl)).symm.trans h0_) (by decide), fun h0_ => absurd ((hoff 11 (by kernel_rfl)).symm.trans h0_) (by decide), fun h0_ => absurd ((hoff 12 (by kernel_rfl)).symm.trans h0_) (by decide)⟩
              refine steps_cons ?_ ?_
              · rintro b a w' ⟨v171, adz_v171, m12_, ha, Q_HI151, Q_HB, Q_HI151_e4, Q_HI151_e6, Q_HI151_e8, Q_HO172, Q_HA_HO172, Q_HI151_e11, Q_X12_⟩ hb_ hon hoff
                refine ⟨_, rfl, fun K hK => ?_⟩
                have e24 : a.tmps[24]? = some (.pointer (some ⟨g151, 0, none⟩)) := by rw [ha]; exact (putSel_off rfl).trans rfl
                replace ha := Aside0.mk ha
                have HB := Aside0.mk Q_HB
                have HI151 := Aside0.mk (Q_HI151_e4 (hon 4 (by kernel_rfl)) hb_)
                refine goes_ Try.func93 (by kernel_rfl) rfl #[.pointer (some ⟨g151, 0, none⟩), .int .i64 70000] (by rfl) rfl rfl (by first | (simp only [List.map_toArray, List.map_cons, List.map_nil, Act.eval, Array.getD_eq_getD_getElem?, Option.getD_some, e24]; done) | (simp only [List.map_toArray, List.map_cons, List.map_nil, Act.eval, Array.getD_eq_getD_getElem?, Option.getD_some, e24]; rfl)) ?_
                with_reducible refine (spec_l01Src_next.calls g151 t148 t162 t163 70000 t164 t165 t166 w _ ?side1 ?side2 A15.out).mono ?_
                (case side1 => repeat (first | (with_reducible first | exact HI151.out | apply IsS112.alloc | apply IsS112.drewN | apply IsS112.drew | apply IsS112.set_1 | apply IsS112.set_2) | exact HI151.out))
                (case side2 => repeat (first | (with_reducible first | exact HB.out | apply below_alloc | apply pw_below_drewN | apply below_drew1 | refine below_set ?_ (IsS112.ge HI151.out)) | exact HB.out))
                rintro e w23 ⟨rfl, hi, hb, hk⟩
                refine ⟨_, rfl, ?_⟩
                have n0_ := Aside0.mk (hb)
                have n1_ := Aside0.mk (hi)
                clear HB
                clear HI151
                have HB := n0_
                have HI151 := n1_
                clear n0_ n1_
                (try clear hb)
                (try clear hb2)
                (try clear hk)
                (try clear hi)
                refine hK.out _ _ ⟨v171, adz_v171, m12_, (by rw [ha.out]; exact putSel_upk 2 hb_ rfl rfl rfl), fun h0_ => absurd ((hon 4 (by kernel_rfl)).symm.trans h0_) (by decide), (by repeat (first | (with_reducible first | exact HB.out | apply below_alloc | apply pw_below_drewN | apply below_drew1 | refine below_set ?_ (IsS112.ge HI151.out)) | exact HB.out)), fun _ h1_ => absurd ((up_self b 6).symm.trans h1_) (by decide), fun _ _ => (by repeat (first | (with_reducible first | exact HI151.out | apply IsS112.alloc | apply IsS112.drewN | apply IsS112.drew | apply IsS112.set_1 | apply IsS112.set_2) | exact HI151.out)), fun h0_ _ => absurd ((hoff 8 (by kernel_rfl)).symm.trans h0_) (by decide), fun h0_ => absurd ((hoff 9 (by kernel_rfl)).symm.trans h0_) (by decide), fun h0_ => absurd ((hoff 9 (by kernel_rfl)).symm.trans h0_) (by decide), fun h0_ => absurd ((hoff 11 (by kernel_rfl)).symm.trans h0_) (by decide), fun h0_ => absurd ((hoff 12 (by kernel_rfl)).symm.trans h0_) (by decide)⟩
              refine steps_cons ?_ ?_
              · rintro b a w' ⟨v171, adz_v171, m12_, ha, Q_HI151, Q_HB, Q_HI151_e4, Q_HI151_e6, Q_HI151_e8, Q_HO172, Q_HA_HO172, Q_HI151_e11, Q_X12_⟩ hb_ hon hoff
                refine ⟨_, rfl, fun K hK => ?_⟩
                have e26 : a.tmps[26]? = some (.pointer (some ⟨g151, 0, none⟩)) := by rw [ha]; exact (putSel_off rfl).trans rfl
                replace ha := Aside0.mk ha
                have HB := Aside0.mk Q_HB
                have HI151 := Aside0.mk (Q_HI151_e6 (hon 6 (by kernel_rfl)) hb_)
                refine goes_ Try.func93 (by kernel_rfl) rfl #[.pointer (some ⟨g151, 0, none⟩), .int .i64 16777216] (by rfl) rfl rfl (by first | (simp only [List.map_toArray, List.map_cons, List.map_nil, Act.eval, Array.getD_eq_getD_getElem?, Option.getD_some, e26]; done) | (simp only [List.map_toArray, List.map_cons, List.map_nil, Act.eval, Array.getD_eq_getD_getElem?, Option.getD_some, e26]; rfl)) ?_
                with_reducible refine (spec_l01Src_next.calls g151 t148 t165 t166 16777216 t167 t168 t169 w _ ?side1 ?side2 A16.out).mono ?_
                (case side1 => repeat (first | (with_reducible first | exact HI151.out | apply IsS112.alloc | apply IsS112.drewN | apply IsS112.drew | apply IsS112.set_1 | apply IsS112.set_2) | exact HI151.out))
                (case side2 => repeat (first | (with_reducible first | exact HB.out | apply below_alloc | apply pw_below_drewN | apply below_drew1 | refine below_set ?_ (IsS112.ge HI151.out)) | exact HB.out))
                rintro e w24 ⟨rfl, hi, hb, hk⟩
                refine ⟨_, rfl, ?_⟩
                have n0_ := Aside0.mk (hb)
                have n1_ := Aside0.mk (hi)
                clear HB
                clear HI151
                have HB := n0_
                have HI151 := n1_
                clear n0_ n1_
                (try clear hb)
                (try clear hb2)
                (try clear hk)
                (try clear hi)
                refine hK.out _ _ ⟨v171, adz_v171, m12_, (by rw [ha.out]; exact putSel_upk 3 hb_ rfl rfl rfl), fun h0_ => absurd ((hon 4 (by kernel_rfl)).symm.trans h0_) (by decide), (by repeat (first | (with_reducible first | exact HB.out | apply below_alloc | apply pw_below_drewN | apply below_drew1 | refine below_set ?_ (IsS112.ge HI151.out)) | exact HB.out)), fun _ h1_ => absurd ((hon 6 (by kernel_rfl)).symm.trans h1_) (by decide), fun _ h1_ => absurd ((up_self b 8).symm.trans h1_) (by decide), fun _ _ => (by repeat (first | (with_reducible first | exact HI151.out | apply IsS112.alloc | apply IsS112.drewN | apply IsS112.drew | apply IsS112.set_1 | apply IsS112.set_2) | exact HI151.out)), fun h0_ => absurd ((hoff 9 (by kernel_rfl)).symm.trans h0_) (by decide), fun h0_ => absurd ((hoff 9 (by kernel_rfl)).symm.trans h0_) (by decide), fun h0_ => absurd ((hoff 11 (by kernel_rfl)).symm.trans h0_) (by decide), fun h0_ => absurd ((hoff 12 (by kernel_rfl)).symm.trans h0_) (by decide)⟩
              refine steps_cons ?_ ?_
              · rintro b a w' ⟨v171, adz_v171, m12_, ha, Q_HI151, Q_HB, Q_HI151_e4, Q_HI151_e6, Q_HI151_e8, Q_HO172, Q_HA_HO172, Q_HI151_e11, Q_X12_⟩ hb_ hon hoff
                refine ⟨_, rfl, fun K hK => ?_⟩
                have e23 : a.tmps[23]? = some (.int .i64 t161) := by rw [ha]; exact putSel_on (e := (4, 23, .int .i64 t161)) 1 rfl rfl (hon 4 (by kernel_rfl)) rfl
                have e25 : a.tmps[25]? = some (.int .i64 t164) := by rw [ha]; exact putSel_on (e := (6, 25, .int .i64 t164)) 2 rfl rfl (hon 6 (by kernel_rfl)) rfl
                have e27 : a.tmps[27]? = some (.int .i64 t167) := by rw [ha]; exact putSel_on (e := (8, 27, .int .i64 t167)) 3 rfl rfl (hon 8 (by kernel_rfl)) rfl
                replace ha := Aside0.mk ha
                have HB := Aside0.mk Q_HB
                refine Kd.R_lit_step (Kd.int .i64) _ 3 ?hg (N := 28) ?hd (xs := ([t161, t164, t167, 127, 128, 32767, 32768, 2147483647, 2147483648] : List Int)) (inner := [.int .i64 t161, .int .i64 t164, .int .i64 t167, .int .i64 127, .int .i64 128, .int .i64 32767, .int .i64 32768, .int .i64 2147483647, .int .i64 2147483648]) (ok := fun _ => True) (okp := fun _ => True) ?hr ?hp (fun _ hk => hk) trivial (Below.refl _ _) (Nat.le_refl _) (by simp) ?_; (case hd => rfl); (case hg => rfl); (case hr => first | (go_simp; done) | (go_simp; rfl)); (case hp => exact (Reps.one (show Kd.M (Kd.int .i64) _ _ _ t161 [.int .i64 t161] from rfl) (Reps.one (show Kd.M (Kd.int .i64) _ _ _ t164 [.int .i64 t164] from rfl) (Reps.one (show Kd.M (Kd.int .i64) _ _ _ t167 [.int .i64 t167] from rfl) (Reps.one (show Kd.M (Kd.int .i64) _ _ _ 127 [.int .i64 127] from rfl) (Reps.one (show Kd.M (Kd.int .i64) _ _ _ 128 [.int .i64 128] from rfl) (Reps.one (show Kd.M (Kd.int .i64) _ _ _ 32767 [.int .i64 32767] from rfl) (Reps.one (show Kd.M (Kd.int .i64) _ _ _ 32768 [.int .i64 32768] from rfl) (Reps.one (show Kd.M (Kd.int .i64) _ _ _ 2147483647 [.int .i64 2147483647] from rfl) (Reps.one (show Kd.M (Kd.int .i64) _ _ _ 2147483648 [.int .i64 2147483648] from rfl) (Reps.none _ _)))))))))))
                intro v171 w25 ho26 hb hg_ hnew_
                clear hg_ hnew_
                (first | rw [← Ny170.out] at ho26 | (simp only [Int.reduceToNat] at ho26; rw [← Ny170.out] at ho26))
                have n0_ := Aside0.mk (Kd.R_lower ho26 (below_size (by repeat (first | (with_reducible first | exact HB.out | apply below_alloc | apply pw_below_drewN | apply below_drew1) | exact HB.out))))
                have n2_ := Aside0.mk (below_step (by repeat (first | (with_reducible first | exact HB.out | apply below_alloc | apply pw_below_drewN | apply below_drew1) | exact HB.out)) hb)
                have z_HI151_e8 := fun (h0_ : b 8 = true) (h1_ : b 11 = false) => (show IsS112 w w25 g151 t148 t168 t169 from by first | exact (IsS112.below (by repeat (first | (with_reducible first | exact (Q_HI151_e8 h0_ h1_) | apply IsS112.alloc | apply IsS112.drewN | apply IsS112.drew | apply IsS112.set_1 | apply IsS112.set_2) | exact (Q_HI151_e8 h0_ h1_))) hb))
                have z_HI151_e11 := fun (h0_ : b 11 = true) => (show IsS112 w w25 g151 t148 t174 t175 from by first | exact (IsS112.below (by repeat (first | (with_reducible first | exact (Q_HI151_e11 h0_) | apply IsS112.alloc | apply IsS112.drewN | apply IsS112.drew | apply IsS112.set_1 | apply IsS112.set_2) | exact (Q_HI151_e11 h0_))) hb))
                clear HB
                have HO172 := n0_
                have HB := n2_
                clear n0_ n2_
                clear hb ho26
                obtain ⟨Ao27, co27, eo27⟩ := Kd.R_slice HO172.out
                subst eo27
                obtain ⟨ado27, fo27, _⟩ := Kd.at_int (Kd.R_reads' HO172.out).2.2 0 (by decide) (by rw [Ny170.out]; simp)
                cases fo27
                refine hK.out _ _ ⟨.slice (some ado27) y170.length co27, ado27, m12_, (by rw [ha.out]; exact putSel_upk 4 hb_ rfl rfl rfl), fun h0_ => absurd ((hon 4 (by kernel_rfl)).symm.trans h0_) (by decide), (by repeat (first | (with_reducible first | exact HB.out | apply below_alloc | apply pw_below_drewN | apply below_drew1) | exact HB.out)), fun _ h1_ => absurd ((hon 6 (by kernel_rfl)).symm.trans h1_) (by decide), fun _ h1_ => absurd ((hon 8 (by kernel_rfl)).symm.trans h1_) (by decide), z_HI151_e8, fun _ => (by (with_reducible repeat (first | apply Kd.R_alloc | apply Kd.R_drewN | apply Kd.R_drew)); exact HO172.out), fun _ => ⟨_, rfl⟩, z_HI151_e11, fun h0_ => absurd ((hoff 12 (by kernel_rfl)).symm.trans h0_) (by decide)⟩
              refine steps_cons ?_ ?_
              · rintro b a w' ⟨v171, adz_v171, m12_, ha, Q_HI151, Q_HB, Q_HI151_e4, Q_HI151_e6, Q_HI151_e8, Q_HO172, Q_HA_HO172, Q_HI151_e11, Q_X12_⟩ hb_ hon hoff
                refine ⟨_, rfl, fun K hK => ?_⟩
                have e29 : a.tmps[29]? = some (.pointer (some ⟨g151, 0, none⟩)) := by rw [ha]; exact (putSel_off rfl).trans rfl
                replace ha := Aside0.mk ha
                have HB := Aside0.mk Q_HB
                have HI151 := Aside0.mk (Q_HI151_e8 (hon 8 (by kernel_rfl)) hb_)
                refine goes_ Try.func93 (by kernel_rfl) rfl #[.pointer (some ⟨g151, 0, none⟩), .int .i64 9] (by rfl) rfl rfl (by first | (simp only [List.map_toArray, List.map_cons, List.map_nil, Act.eval, Array.getD_eq_getD_getElem?, Option.getD_some, e29]; done) | (simp only [List.map_toArray, List.map_cons, List.map_nil, Act.eval, Array.getD_eq_getD_getElem?, Option.getD_some, e29]; rfl)) ?_
                with_reducible refine (spec_l01Src_next.calls g151 t148 t168 t169 9 t173 t174 t175 w _ ?side1 ?side2 A17.out).mono ?_
                (case side1 => repeat (first | (with_reducible first | exact HI151.out | apply IsS112.alloc | apply IsS112.drewN | apply IsS112.drew | apply IsS112.set_1 | apply IsS112.set_2) | exact HI151.out))
                (case side2 => repeat (first | (with_reducible first | exact HB.out | apply below_alloc | apply pw_below_drewN | apply below_drew1 | refine below_set ?_ (IsS112.ge HI151.out)) | exact HB.out))
                rintro e w25 ⟨rfl, hi, hb, hk⟩
                refine ⟨_, rfl, ?_⟩
                have n0_ := Aside0.mk (hb)
                have n1_ := Aside0.mk (hi)
                have z_HO172 := fun (h0_ : b 9 = true) => (show Kd.R (Kd.int .i64) 3 w25 w.heap.size (fun _ => True) v171 y170 from by first | exact (Kd.R_mono (Kd.R_keep (IsS112.apart (show IsS112 w _ g151 t148 t168 t169 from by repeat (first | (with_reducible first | exact HI151.out | apply IsS112.alloc | apply IsS112.drewN | apply IsS112.drew | apply IsS112.set_1 | apply IsS112.set_2) | exact HI151.out)) (by (with_reducible repeat (first | apply Kd.R_alloc | apply Kd.R_drewN | apply Kd.R_drew)); exact (Q_HO172 h0_)) (by decide)) hk (fun _ h => h.2)) (fun _ h => h.1)) | exact Kd.R_mono (Kd.R_mono (Kd.R_keep (IsS112.apart (show IsS112 w _ g151 t148 t168 t169 from by repeat (first | (with_reducible first | exact HI151.out | apply IsS112.alloc | apply IsS112.drewN | apply IsS112.drew | apply IsS112.set_1 | apply IsS112.set_2) | exact HI151.out)) (by (with_reducible repeat (first | apply Kd.R_alloc | apply Kd.R_drewN | apply Kd.R_drew)); exact (Q_HO172 h0_)) (by decide)) hk (fun _ h => h.2)) (fun _ h => h.1)) (fun _ h_ => by first | trivial | exact h_ | exact h_.1))
                clear HB
                clear HI151
                have HB := n0_
                have HI151 := n1_
                clear n0_ n1_
                (try clear hb)
                (try clear hb2)
                (try clear hk)
                (try clear hi)
                refine hK.out _ _ ⟨v171, adz_v171, m12_, (by rw [ha.out]; exact putSel_upk 5 hb_ rfl rfl rfl), fun h0_ => absurd ((hon 4 (by kernel_rfl)).symm.trans h0_) (by decide), (by repeat (first | (with_reducible first | exact HB.out | apply below_alloc | apply pw_below_drewN | apply below_drew1 | refine below_set ?_ (IsS112.ge HI151.out)) | exact HB.out)), fun _ h1_ => absurd ((hon 6 (by kernel_rfl)).symm.trans h1_) (by decide), fun _ h1_ => absurd ((hon 8 (by kernel_rfl)).symm.trans h1_) (by decide), fun _ h1_ => absurd ((up_self b 11).symm.trans h1_) (by decide), z_HO172, Q_HA_HO172, fun _ => (by repeat (first | (with_reducible first | exact HI151.out | apply IsS112.alloc | apply IsS112.drewN | apply IsS112.drew | apply IsS112.set_1 | apply IsS112.set_2) | exact HI151.out)), fun h0_ => absurd ((hoff 12 (by kernel_rfl)).symm.trans h0_) (by decide)⟩
              refine steps_cons ?_ ?_
              · rintro b a w' ⟨v171, adz_v171, m12_, ha, Q_HI151, Q_HB, Q_HI151_e4, Q_HI151_e6, Q_HI151_e8, Q_HO172, Q_HA_HO172, Q_HI151_e11, Q_X12_⟩ hb_ hon hoff
                refine ⟨_, rfl, fun K hK => ?_⟩
                have e28 : a.tmps[28]? = some (v171) := by rw [ha]; exact putSel_on (e := (9, 28, v171)) 4 rfl rfl (hon 9 (by kernel_rfl)) rfl
                have e30 : a.tmps[30]? = some (.int .i64 t173) := by rw [ha]; exact putSel_on (e := (11, 30, .int .i64 t173)) 5 rfl rfl (hon 11 (by kernel_rfl)) rfl
                replace ha := Aside0.mk ha
                have HB := Aside0.mk Q_HB
                have HO172 := Aside0.mk (Q_HO172 (hon 9 (by kernel_rfl)))
                have HA_HO172 := Aside0.mk (Q_HA_HO172 (hon 9 (by kernel_rfl)))
                have HI151 := Aside0.mk (Q_HI151_e11 (hon 11 (by kernel_rfl)))
                obtain ⟨c_, hv_⟩ := HA_HO172.out
                rw [hv_] at e28
                refine value_ (w1 := w') (v := .pointer (some (adz_v171.add (t173).toNat))) (by rfl) rfl ?_ ?_
                · go_simp
                  (try simp only [i64_w])
                  try rfl
                refine hK.out _ _ ⟨v171, adz_v171, (.pointer (some (adz_v171.add (t173).toNat))), (by rw [ha.out]; exact putSel_upk 6 hb_ rfl rfl rfl), fun h0_ => absurd ((hon 4 (by kernel_rfl)).symm.trans h0_) (by decide), Q_HB, fun _ h1_ => absurd ((hon 6 (by kernel_rfl)).symm.trans h1_) (by decide), fun _ h1_ => absurd ((hon 8 (by kernel_rfl)).symm.trans h1_) (by decide), fun _ h1_ => absurd ((hon 11 (by kernel_rfl)).symm.trans h1_) (by decide), Q_HO172, Q_HA_HO172, Q_HI151_e11, fun _ => rfl⟩
              refine steps_cons ?_ ?_
              · rintro b a w' ⟨v171, adz_v171, m12_, ha, Q_HI151, Q_HB, Q_HI151_e4, Q_HI151_e6, Q_HI151_e8, Q_HO172, Q_HA_HO172, Q_HI151_e11, Q_X12_⟩ hb_ hon hoff
                refine ⟨_, rfl, fun K hK => ?_⟩
                have e31 : a.tmps[31]? = some (m12_) := by rw [ha]; exact putSel_on (e := (12, 31, m12_)) 6 rfl rfl (hon 12 (by kernel_rfl)) rfl
                rw [Q_X12_ (hon 12 (by kernel_rfl))] at e31
                replace ha := Aside0.mk ha
                have HB := Aside0.mk Q_HB
                have HO172 := Aside0.mk (Q_HO172 (hon 9 (by kernel_rfl)))
                have HA_HO172 := Aside0.mk (Q_HA_HO172 (hon 9 (by kernel_rfl)))
                have HI151 := Aside0.mk (Q_HI151_e11 (hon 11 (by kernel_rfl)))
                obtain ⟨c_, hv_⟩ := HA_HO172.out
                have hF_ := HO172.out
                rw [hv_] at hF_
                obtain ⟨ad_, ea_, hx_⟩ := Kd.at_int (Kd.R_reads' hF_).2.2 t173 (of_eq_true pi176) (of_eq_true qi176)
                cases ea_
                refine value_ (w1 := w') (v := .int .i64 (rd y170 t173)) (by rfl) rfl ?_ ?_
                · go_simp
                  (try simp only [i64_w])
                  try rfl
                refine hK.out _ _ ⟨v171, adz_v171, m12_, (by rw [ha.out]; exact putSel_upk 7 hb_ rfl rfl rfl), fun h0_ => absurd ((hon 4 (by kernel_rfl)).symm.trans h0_) (by decide), Q_HB, fun _ h1_ => absurd ((hon 6 (by kernel_rfl)).symm.trans h1_) (by decide), fun _ h1_ => absurd ((hon 8 (by kernel_rfl)).symm.trans h1_) (by decide), fun _ h1_ => absurd ((hon 11 (by kernel_rfl)).symm.trans h1_) (by decide), Q_HO172, Q_HA_HO172, Q_HI151_e11, Q_X12_⟩
              refine steps_cons ?_ ?_
              · rintro b a w' ⟨v171, adz_v171, m12_, ha, Q_HI151, Q_HB, Q_HI151_e4, Q_HI151_e6, Q_HI151_e8, Q_HO172, Q_HA_HO172, Q_HI151_e11, Q_X12_⟩ hb_ hon hoff
                refine ⟨_, rfl, fun K hK => ?_⟩
                have e21 : a.tmps[21]? = some (.int .i64 (wrap64 (t152 - 1))) := by rw [ha]; exact putSel_on (e := (2, 21, .int .i64 (wrap64 (t152 - 1)))) 0 rfl rfl (hon 2 (by kernel_rfl)) rfl
                have e32 : a.tmps[32]? = some (.int .i64 (rd y170 t173)) := by rw [ha]; exact putSel_on (e := (13, 32, .int .i64 (rd y170 t173))) 7 rfl rfl (hon 13 (by kernel_rfl)) rfl
                replace ha := Aside0.mk ha
                have HB := Aside0.mk Q_HB
                have HO172 := Aside0.mk (Q_HO172 (hon 9 (by kernel_rfl)))
                have HA_HO172 := Aside0.mk (Q_HA_HO172 (hon 9 (by kernel_rfl)))
                have HI151 := Aside0.mk (Q_HI151_e11 (hon 11 (by kernel_rfl)))
                refine value_ (w1 := w') (v := .int .i64 (wrap64 ((wrap64 (t152 - 1)) - (rd y170 t173)))) (by rfl) rfl ?_ ?_
                · go_simp
                  (try simp only [i64_w])
                  try rfl
                refine hK.out _ _ ⟨v171, adz_v171, m12_, (by rw [ha.out]; exact putSel_upk 8 hb_ rfl rfl rfl), fun h0_ => absurd ((hon 4 (by kernel_rfl)).symm.trans h0_) (by decide), Q_HB, fun _ h1_ => absurd ((hon 6 (by kernel_rfl)).symm.trans h1_) (by decide), fun _ h1_ => absurd ((hon 8 (by kernel_rfl)).symm.trans h1_) (by decide), fun _ h1_ => absurd ((hon 11 (by kernel_rfl)).symm.trans h1_) (by decide), Q_HO172, Q_HA_HO172, Q_HI151_e11, Q_X12_⟩
              refine steps_cons ?_ ?_
              · rintro b a w' ⟨v171, adz_v171, m12_, ha, Q_HI151, Q_HB, Q_HI151_e4, Q_HI151_e6, Q_HI151_e8, Q_HO172, Q_HA_HO172, Q_HI151_e11, Q_X12_⟩ hb_ hon hoff
                refine ⟨_, rfl, fun K hK => ?_⟩
                have e19 : a.tmps[19]? = some (.int .i64 t152) := by rw [ha]; exact (putSel_off rfl).trans rfl
                replace ha := Aside0.mk ha
                have HB := Aside0.mk Q_HB
                have HI151 := Aside0.mk (Q_HI151_e11 (hon 11 (by kernel_rfl)))
                refine value_ (w1 := w') (v := .int .i64 t152) (by rfl) rfl ?_ ?_
                · go_simp
                  (try simp only [i64_w])
                  try rfl
                refine hK.out _ _ ⟨v171, adz_v171, m12_, (by rw [ha.out]; exact putSel_upk 9 hb_ rfl rfl rfl), fun h0_ => absurd ((hon 4 (by kernel_rfl)).symm.trans h0_) (by decide), Q_HB, fun _ h1_ => absurd ((hon 6 (by kernel_rfl)).symm.trans h1_) (by decide), fun _ h1_ => absurd ((hon 8 (by kernel_rfl)).symm.trans h1_) (by decide), fun _ h1_ => absurd ((hon 11 (by kernel_rfl)).symm.trans h1_) (by decide), Q_HO172, Q_HA_HO172, Q_HI151_e11, Q_X12_⟩
              refine steps_cons ?_ ?_
              · rintro b a w' ⟨v171, adz_v171, m12_, ha, Q_HI151, Q_HB, Q_HI151_e4, Q_HI151_e6, Q_HI151_e8, Q_HO172, Q_HA_HO172, Q_HI151_e11, Q_X12_⟩ hb_ hon hoff
                refine ⟨_, rfl, fun K hK => ?_⟩
                have e33 : a.tmps[33]? = some (.int .i64 (wrap64 ((wrap64 (t152 - 1)) - (rd y170 t173)))) := by rw [ha]; exact putSel_on (e := (14, 33, .int .i64 (wrap64 ((wrap64 (t152 - 1)) - (rd y170 t173))))) 8 rfl rfl (hon 14 (by kernel_rfl)) rfl
                replace ha := Aside0.mk ha
                have HB := Aside0.mk Q_HB
                have HO172 := Aside0.mk (Q_HO172 (hon 9 (by kernel_rfl)))
                have HA_HO172 := Aside0.mk (Q_HA_HO172 (hon 9 (by kernel_rfl)))
                have HI151 := Aside0.mk (Q_HI151_e11 (hon 11 (by kernel_rfl)))
                refine value_ (w1 := w') (v := .int .i64 (wrap64 ((wrap64 (t152 - 1)) - (rd y170 t173)))) (by rfl) rfl ?_ ?_
                · go_simp
                  (try simp only [i64_w])
                  try rfl
                refine hK.out _ _ ⟨v171, adz_v171, m12_, (by rw [ha.out]; exact putSel_upk 10 hb_ rfl rfl rfl), fun h0_ => absurd ((hon 4 (by kernel_rfl)).symm.trans h0_) (by decide), Q_HB, fun _ h1_ => absurd ((hon 6 (by kernel_rfl)).symm.trans h1_) (by decide), fun _ h1_ => absurd ((hon 8 (by kernel_rfl)).symm.trans h1_) (by decide), fun _ h1_ => absurd ((hon 11 (by kernel_rfl)).symm.trans h1_) (by decide), Q_HO172, Q_HA_HO172, Q_HI151_e11, Q_X12_⟩
              exact steps_nil
            rintro b a w28 hall ⟨v171, adz_v171, m12_, ha, Q_HI151, Q_HB, Q_HI151_e4, Q_HI151_e6, Q_HI151_e8, Q_HO172, Q_HA_HO172, Q_HI151_e11, Q_X12_⟩
            clear HB HI151
            have hb2_ := hall 2 (by kernel_rfl)
            have hb4_ := hall 4 (by kernel_rfl)
            have hb6_ := hall 6 (by kernel_rfl)
            have hb8_ := hall 8 (by kernel_rfl)
            have hb9_ := hall 9 (by kernel_rfl)
            have hb11_ := hall 11 (by kernel_rfl)
            have hb12_ := hall 12 (by kernel_rfl)
            have hb13_ := hall 13 (by kernel_rfl)
            have hb14_ := hall 14 (by kernel_rfl)
            have hb15_ := hall 15 (by kernel_rfl)
            have hb16_ := hall 16 (by kernel_rfl)
            subst ha
            obtain rfl := Q_X12_ hb12_
            simp only [putSel, hb2_, hb4_, hb6_, hb8_, hb9_, hb11_, hb12_, hb13_, hb14_, hb15_, hb16_, if_true, Act.put, List.setIfInBounds_toArray, List.set_cons_zero, List.set_cons_succ]
            clear Q_HI151
            have HB := Aside0.mk Q_HB
            clear Q_HB
            clear Q_HI151_e4
            clear Q_HI151_e6
            clear Q_HI151_e8
            have HO172 := Aside0.mk (Q_HO172 hb9_)
            clear Q_HO172
            have HA_HO172 := Aside0.mk (Q_HA_HO172 hb9_)
            clear Q_HA_HO172
            have HI151 := Aside0.mk (Q_HI151_e11 hb11_)
            clear Q_HI151_e11
            clear hall hb2_ hb4_ hb6_ hb8_ hb9_ hb11_ hb12_ hb13_ hb14_ hb15_ hb16_
            obtain ⟨co29, eo29⟩ := HA_HO172.out
            clear HA_HO172
            subst eo29
            try go_wp2
            go_ret2
            exact ⟨by first | rfl | (simp [errW_none, errW_some] <;> rfl) | (simp [*, errW_none, errW_some] <;> rfl), by repeat (first | (with_reducible first | exact HB.out | apply below_alloc | apply pw_below_drewN | apply below_drew1 | refine below_set ?_ (IsS112.ge HI151.out)) | exact HB.out)⟩
          · rw [if_neg c19] at H
            exact absurd H (by simp)
        · rw [if_neg c18] at H
          exact absurd H (by simp)

/-! ### impl_inVar: function 58 -/
def impl_inVar.f (a0 : Int) : Option (Bool) := if a0 ≥ 0 then (some (decide (a0 ≤ 4611686018427387903))) else (some false)
set_option maxHeartbeats 8000000 in
set_option maxRecDepth 100000 in
theorem impl_inVar.calls (a0 : Int) (r : Bool) (w : World) (h : impl_inVar.f a0 = some r) :
    Calls Try.prog 58 #[.int .i64 a0] w fun e w' => e = .returned (.bool r) ∧ Drawn0 w w' := by
  have H : (if a0 ≥ 0 then (some (decide (a0 ≤ 4611686018427387903))) else (some false)) = some r := h
  clear h
  by_cases c2 : a0 ≥ 0
  · rw [if_pos c2] at H
    have c2b0 : decide (0 ≤ a0) = true := decide_eq_true c2
    clear c2
    obtain rfl := Option.some.inj H
    go_enter Try.func58, Try.ntmps58
    go_wp2
    go_ret
    exact ⟨by first | rfl | (simp; done) | (simp [*]; done), by repeat (first | exact Drawn0.refl _ | apply Drawn0.step)⟩
  · rw [if_neg c2] at H
    have c2b0 : decide (0 ≤ a0) = false := decide_eq_false c2
    clear c2
    obtain rfl := Option.some.inj H
    go_enter Try.func58, Try.ntmps58
    go_wp2
    go_ret
    exact ⟨by first | rfl | (simp; done) | (simp [*]; done), by repeat (first | exact Drawn0.refl _ | apply Drawn0.step)⟩

/-! ### impl_NumBytes: function 51 -/
mutual
def impl_NumBytes.j0 : Nat → Int → Int → Bool → Option (Int)
  | 0, _, _, _ => none
  | k + 1, x0, x1, x18 => if x18 = true then (some 0) else (impl_NumBytes.l0 k x0 x1 1)
def impl_NumBytes.l0 : Nat → Int → Int → Int → Option (Int)
  | 0, _, _, _ => none
  | k + 1, x0, x1, x5 => if x5 ≤ 4 then (if 0 ≤ (wrap64 ((wrap64 (8 * x5)) - 1)) then (if (wrap64 (x0 - x1)) ≤ (shl .i64 1 (wrap64 ((wrap64 (8 * x5)) - 1))) then (some x5) else (impl_NumBytes.l0 k x0 x1 (wrap64 (x5 + 1)))) else (none)) else (some 0)
end
def impl_NumBytes.f (k : Nat) (a0 : Int) (a1 : Int) : Option (Int) := (impl_inVar.f a0).bind fun t177 => (if t177 = true then (if a1 < (-1) then (impl_NumBytes.j0 k a0 a1 true) else (impl_NumBytes.j0 k a0 a1 (decide (a1 > (wrap64 (a0 - 1)))))) else (impl_NumBytes.j0 k a0 a1 true))
theorem impl_NumBytes.mono_l : ∀ k, (∀ y0 y1 y2, LeO (impl_NumBytes.j0 k y0 y1 y2) (impl_NumBytes.j0 (k + 1) y0 y1 y2)) ∧ (∀ y0 y1 y2, LeO (impl_NumBytes.l0 k y0 y1 y2) (impl_NumBytes.l0 (k + 1) y0 y1 y2))
  | 0 => ⟨fun _ _ _ r h => by simp [impl_NumBytes.j0] at h, fun _ _ _ r h => by simp [impl_NumBytes.l0] at h⟩
  | k + 1 => by
    obtain ⟨ih0, ih1⟩ := impl_NumBytes.mono_l k
    refine ⟨?_, ?_⟩
    · intro y0 y1 y2
      unfold impl_NumBytes.j0
      repeat' first
      | (with_reducible exact ih0 _ _ _)
      | (with_reducible exact ih1 _ _ _)
      | (with_reducible exact LeO.refl _)
      | (with_reducible exact LeO.none _)
      | (with_reducible refine LeO.ite ?_ ?_)
      | (with_reducible refine LeO.bind ?_ (fun _ => ?_))
      | exact ih0 _ _ _
      | exact ih1 _ _ _
      | exact LeO.none _
      | refine LeO.ite ?_ ?_
      | refine LeO.bind ?_ (fun _ => ?_)
    · intro y0 y1 y2
      unfold impl_NumBytes.l0
      repeat' first
      | (with_reducible exact ih0 _ _ _)
      | (with_reducible exact ih1 _ _ _)
      | (with_reducible exact LeO.refl _)
      | (with_reducible exact LeO.none _)
      | (with_reducible refine LeO.ite ?_ ?_)
      | (with_reducible refine LeO.bind ?_ (fun _ => ?_))
      | exact ih0 _ _ _
      | exact ih1 _ _ _
      | exact LeO.none _
      | refine LeO.ite ?_ ?_
      | refine LeO.bind ?_ (fun _ => ?_)
theorem impl_NumBytes.mono : ∀ a0 a1 k, LeO (impl_NumBytes.f k a0 a1) (impl_NumBytes.f (k + 1) a0 a1) := by
  intro a0 a1 k
  obtain ⟨ih0, ih1⟩ := impl_NumBytes.mono_l k
  unfold impl_NumBytes.f
  repeat' first
      | (with_reducible exact ih0 _ _ _)
      | (with_reducible exact ih1 _ _ _)
      | (with_reducible exact LeO.refl _)
      | (with_reducible exact LeO.none _)
      | (with_reducible refine LeO.ite ?_ ?_)
      | (with_reducible refine LeO.bind ?_ (fun _ => ?_))
      | exact ih0 _ _ _
      | exact ih1 _ _ _
      | exact LeO.none _
      | refine LeO.ite ?_ ?_
      | refine LeO.bind ?_ (fun _ => ?_)
set_option maxHeartbeats 8000000 in
set_option maxRecDepth 100000 in
theorem impl_NumBytes.calls (k : Nat) (a0 : Int) (a1 : Int) (r : Int) (w : World) (h : impl_NumBytes.f k a0 a1 = some r) :
    Calls Try.prog 51 #[.int .i64 a0, .int .i64 a1] w fun e w' => e = .returned (.int .i64 r) ∧ Drawn0 w w' := by
  have H : ((impl_inVar.f a0).bind fun t177 => (if t177 = true then (if a1 < (-1) then (impl_NumBytes.j0 k a0 a1 true) else (impl_NumBytes.j0 k a0 a1 (decide (a1 > (wrap64 (a0 - 1)))))) else (impl_NumBytes.j0 k a0 a1 true))) = some r := h
  clear h
  have HC3 := Aside0.mk H
  clear H
  go_enter Try.func51, Try.ntmps51
  go_upto_region 1 with (fail)
  go_cut [18] (fun v18 wc => ∃ (kq : Nat) (x18_2 : Bool), v18 = .bool x18_2 ∧ Aside0 (impl_NumBytes.j0 kq a0 a1 x18_2 = some r) ∧ Aside0 (kq ≤ k) ∧ Drawn0 w wc)
  case first =>
    have H := HC3.out
    clear HC3
    replace H := Option.bind_eq_some_iff.mp H
    obtain ⟨t177, A40, H⟩ := H
    replace H : (if t177 = true then (if a1 < (-1) then (impl_NumBytes.j0 k a0 a1 true) else (impl_NumBytes.j0 k a0 a1 (decide (a1 > (wrap64 (a0 - 1)))))) else (impl_NumBytes.j0 k a0 a1 true)) = some r := H
    have A4 := Aside0.mk A40
    clear A40
    by_cases c5 : t177 = true
    · subst c5
      have H1 : (if a1 < (-1) then (impl_NumBytes.j0 k a0 a1 true) else (impl_NumBytes.j0 k a0 a1 (decide (a1 > (wrap64 (a0 - 1)))))) = some r := by rw [if_pos rfl] at H; exact H
      clear H
      have H := H1
      clear H1
      by_cases c6 : a1 < (-1)
      · rw [if_pos c6] at H
        have c6b0 : decide (a1 < (-1)) = true := decide_eq_true c6
        clear c6
        (first | rw [c6b0] | (simp only [i64_w, i32_w]; rw [c6b0]) | skip)
        have H' := Aside0.mk H
        clear H
        go_wp2_with (first | ((with_reducible refine gate_callee (f := 58) rfl ?_); refine goesL_ (some 7) rfl rfl Try.func58 (by kernel_rfl) rfl #[.int .i64 a0] rfl (by (try simp only [List.map_toArray, List.map_cons, List.map_nil]); first | done | rfl | (simp only [List.length_drop, List.length_take]; rfl)) ?_; (with_reducible refine (impl_inVar.calls a0 true _ A4.out).mono ?_); rintro e w' ⟨rfl, ⟨nd, rfl⟩⟩; refine ⟨_, rfl, ?_⟩))
        go_meet
        case rel => exact ⟨_, (true), (by first | rfl | (simp; done) | (simp [*]; done)), H', ⟨by first | omega | exact Nat.le_refl _⟩, by repeat (first | exact Drawn0.refl _ | apply Drawn0.step)⟩
      · rw [if_neg c6] at H
        have c6b0 : decide (a1 < (-1)) = false := decide_eq_false c6
        clear c6
        (first | rw [c6b0] | (simp only [i64_w, i32_w]; rw [c6b0]) | skip)
        have H' := Aside0.mk H
        clear H
        go_wp2_with (first | ((with_reducible refine gate_callee (f := 58) rfl ?_); refine goesL_ (some 7) rfl rfl Try.func58 (by kernel_rfl) rfl #[.int .i64 a0] rfl (by (try simp only [List.map_toArray, List.map_cons, List.map_nil]); first | done | rfl | (simp only [List.length_drop, List.length_take]; rfl)) ?_; (with_reducible refine (impl_inVar.calls a0 true _ A4.out).mono ?_); rintro e w' ⟨rfl, ⟨nd, rfl⟩⟩; refine ⟨_, rfl, ?_⟩))
        go_meet
        case rel => exact ⟨_, (decide (a1 > (wrap64 (a0 - 1)))), (by first | rfl | (simp; done) | (simp [*]; done)), H', ⟨by first | omega | exact Nat.le_refl _⟩, by repeat (first | exact Drawn0.refl _ | apply Drawn0.step)⟩
    · replace c5 := Bool.eq_false_iff.mpr c5
      subst c5
      have H1 : (impl_NumBytes.j0 k a0 a1 true) = some r := by rw [if_neg (show ¬ (false = true) by decide)] at H; exact H
      clear H
      have H := H1
      clear H1
      have H' := Aside0.mk H
      clear H
      go_wp2_with (first | ((with_reducible refine gate_callee (f := 58) rfl ?_); refine goesL_ (some 7) rfl rfl Try.func58 (by kernel_rfl) rfl #[.int .i64 a0] rfl (by (try simp only [List.map_toArray, List.map_cons, List.map_nil]); first | done | rfl | (simp only [List.length_drop, List.length_take]; rfl)) ?_; (with_reducible refine (impl_inVar.calls a0 false _ A4.out).mono ?_); rintro e w' ⟨rfl, ⟨nd, rfl⟩⟩; refine ⟨_, rfl, ?_⟩))
      go_meet
      case rel => exact ⟨_, (true), (by first | rfl | (simp; done) | (simp [*]; done)), H', ⟨by first | omega | exact Nat.le_refl _⟩, by repeat (first | exact Drawn0.refl _ | apply Drawn0.step)⟩
  case rest =>
    clear HC3
    try clear p2
    try clear c5
    try clear c6
    try clear c6b0
    try clear p6
    obtain ⟨kq, x18_2, rfl, HA, HJ2, ⟨mc2, rfl⟩⟩ := hcut
    cases kq with
    | zero => exact absurd HA.out (by simp [impl_NumBytes.j0])
    | succ kj2 =>
      have H := HA.out
      clear HA
      simp only [impl_NumBytes.j0] at H
      by_cases c7 : x18_2 = true
      · subst c7
        have H1 : (some 0) = some r := by rw [if_pos rfl] at H; exact H
        clear H
        have H := H1
        clear H1
        obtain rfl := Option.some.inj H
        go_wp2
        go_ret
        exact ⟨by first | rfl | (simp; done) | (simp [*]; done), by repeat (first | exact Drawn0.refl _ | apply Drawn0.step)⟩
      · replace c7 := Bool.eq_false_iff.mpr c7
        subst c7
        have H1 : (impl_NumBytes.l0 kj2 a0 a1 1) = some r := by rw [if_neg (show ¬ (false = true) by decide)] at H; exact H
        clear H
        have H := H1
        clear H1
        have H' := Aside0.mk H
        clear H
        go_wp2
        go_loopg [5] kj2 (fun kq v5 w' => ∃ (x5_2 : Int), v5 = .int .i64 x5_2 ∧ Aside0 (impl_NumBytes.l0 kq a0 a1 x5_2 = some r) ∧ Aside0 (kq ≤ kj2) ∧ Drawn0 w w')
        case atStart => exact ⟨(1), (by first | rfl | (simp; done) | (simp [*]; done)), H', ⟨Nat.le_refl _⟩, by repeat (first | exact Drawn0.refl _ | apply Drawn0.step)⟩
        case round =>
          clear H'
          try clear c2
          try clear p2
          try clear c5
          try clear c6
          try clear c6b0
          try clear p6
          try clear c7
          try clear p2
          try clear p6
          obtain ⟨x5_2, rfl, HA, HK2, ⟨m2, rfl⟩⟩ := hrel
          cases gk with
          | zero => exact absurd HA.out (by simp [impl_NumBytes.l0])
          | succ k2 =>
            have H := HA.out
            clear HA
            simp only [impl_NumBytes.l0] at H
            by_cases c8 : x5_2 ≤ 4
            · rw [if_pos c8] at H
              have c8b0 : decide (x5_2 ≤ 4) = true := decide_eq_true c8
              clear c8
              obtain ⟨ji9, hji9⟩ : ∃ j_ : Int, (wrap64 ((wrap64 (8 * x5_2)) - 1)) = j_ := ⟨_, rfl⟩
              replace H : (if 0 ≤ (ji9) then (if (wrap64 (a0 - a1)) ≤ (shl .i64 1 (ji9)) then (some x5_2) else (impl_NumBytes.l0 k2 a0 a1 (wrap64 (x5_2 + 1)))) else (none)) = some r := by first | (rw [hji9] at H; exact H) | (simp only [hji9] at H ⊢; exact H)
              have hji9w : (IntKind.i64.wrap ((wrap64 (8 * x5_2)) - 1)) = ji9 := (i64_w _).trans hji9
              by_cases c10 : 0 ≤ (ji9)
              · rw [if_pos c10] at H
                have c10b0 := eq_true c10
                have c10b1 : decide (0 ≤ (ji9)) = true := decide_eq_true c10
                clear c10
                obtain ⟨ji11, hji11⟩ : ∃ j_ : Int, (shl .i64 1 (ji9)) = j_ := ⟨_, rfl⟩
                replace H : (if (wrap64 (a0 - a1)) ≤ (ji11) then (some x5_2) else (impl_NumBytes.l0 k2 a0 a1 (wrap64 (x5_2 + 1)))) = some r := by first | (rw [hji11] at H; exact H) | (simp only [hji11] at H ⊢; exact H)
                have hji11_ : (IntKind.i64.wrap (1 * 2 ^ min (ji9).toNat 64)) = ji11 := hji11
                have hji11z : (ji9) ≤ 64 → (IntKind.i64.wrap (1 * 2 ^ (ji9).toNat)) = ji11 := shl_small hji11
                have hji11u : (IntKind.i64.wrap (2 ^ min (ji9).toNat 64)) = ji11 := by have h_ := hji11_; rw [Int.one_mul] at h_; exact h_
                have hji11v : (ji9) ≤ 64 → (IntKind.i64.wrap (2 ^ (ji9).toNat)) = ji11 := fun hle_ => by have h_ := hji11z hle_; rw [Int.one_mul] at h_; exact h_
                have hji11y : (wrap64 (1 * 2 ^ min (ji9).toNat 64)) = ji11 := (i64_w _).symm.trans hji11_
                have hji11x : (ji9) ≤ 64 → (wrap64 (1 * 2 ^ (ji9).toNat)) = ji11 := fun h_ => (i64_w _).symm.trans (hji11z h_)
                by_cases c12 : (wrap64 (a0 - a1)) ≤ (ji11)
                · rw [if_pos c12] at H
                  have c12b0 : decide ((wrap64 (a0 - a1)) ≤ (ji11)) = true := decide_eq_true c12
                  clear c12
                  obtain rfl := Option.some.inj H
                  go_wp2
                  go_ret
                  exact ⟨by first | rfl | (simp; done) | (simp only [← hji9, ← hji11] <;> (first | rfl | simp)) | (simp [*]; done), by repeat (first | exact Drawn0.refl _ | apply Drawn0.step)⟩
                · rw [if_neg c12] at H
                  have c12b0 : decide ((wrap64 (a0 - a1)) ≤ (ji11)) = false := decide_eq_false c12
                  clear c12
                  have H' := Aside0.mk H
                  clear H
                  go_wp2
                  go_roundg k2
                  case measure => have := HJ2.out; have := HK2.out; omega
                  case rel => exact ⟨(wrap64 (x5_2 + 1)), (by first | rfl | (simp; done) | (simp [*]; done)), H', ⟨by have := HJ2.out; have := HK2.out; omega⟩, by repeat (first | exact Drawn0.refl _ | apply Drawn0.step)⟩
              · rw [if_neg c10] at H
                exact absurd H (by simp)
            · rw [if_neg c8] at H
              have c8b0 : decide (x5_2 ≤ 4) = false := decide_eq_false c8
              clear c8
              obtain rfl := Option.some.inj H
              go_wp2
              go_ret
              exact ⟨by first | rfl | (simp; done) | (simp [*]; done), by repeat (first | exact Drawn0.refl _ | apply Drawn0.step)⟩

/-! ### spec_l01Power: function 94 -/
def spec_l01Power.l0 : Nat → Int → Int → Int → Option (Int)
  | 0, _, _, _ => none
  | k + 1, x0, x3, x4 => if x4 < x0 then (spec_l01Power.l0 k x0 (wrap64 (x3 * 256)) (wrap64 (x4 + 1))) else (some x3)
def spec_l01Power.f (k : Nat) (a0 : Int) : Option (Int) := spec_l01Power.l0 k a0 1 0
theorem spec_l01Power.mono_l : ∀ k, (∀ y0 y1 y2, LeO (spec_l01Power.l0 k y0 y1 y2) (spec_l01Power.l0 (k + 1) y0 y1 y2))
  | 0 => fun _ _ _ r h => by simp [spec_l01Power.l0] at h
  | k + 1 => by
    have ih0 := spec_l01Power.mono_l k
    · intro y0 y1 y2
      unfold spec_l01Power.l0
      repeat' first
      | (with_reducible exact ih0 _ _ _)
      | (with_reducible exact LeO.refl _)
      | (with_reducible exact LeO.none _)
      | (with_reducible refine LeO.ite ?_ ?_)
      | (with_reducible refine LeO.bind ?_ (fun _ => ?_))
      | exact ih0 _ _ _
      | exact LeO.none _
      | refine LeO.ite ?_ ?_
      | refine LeO.bind ?_ (fun _ => ?_)
theorem spec_l01Power.mono : ∀ a0 k, LeO (spec_l01Power.f k a0) (spec_l01Power.f (k + 1) a0) := by
  intro a0 k
  have ih0 := spec_l01Power.mono_l k
  unfold spec_l01Power.f
  repeat' first
      | (with_reducible exact ih0 _ _ _)
      | (with_reducible exact LeO.refl _)
      | (with_reducible exact LeO.none _)
      | (with_reducible refine LeO.ite ?_ ?_)
      | (with_reducible refine LeO.bind ?_ (fun _ => ?_))
      | exact ih0 _ _ _
      | exact LeO.none _
      | refine LeO.ite ?_ ?_
      | refine LeO.bind ?_ (fun _ => ?_)
set_option maxHeartbeats 8000000 in
set_option maxRecDepth 100000 in
theorem spec_l01Power.calls (k : Nat) (a0 : Int) (r : Int) (w : World) (h : spec_l01Power.f k a0 = some r) :
    Calls Try.prog 94 #[.int .i64 a0] w fun e w' => e = .returned (.int .i64 r) ∧ Drawn0 w w' := by
  have H : (spec_l01Power.l0 k a0 1 0) = some r := h
  clear h
  have H' := Aside0.mk H
  clear H
  go_enter Try.func94, Try.ntmps94
  go_wp2
  go_loopg [3, 4] k (fun kq v3 v4 w' => ∃ (x3_1 : Int) (x4_1 : Int), v3 = .int .i64 x3_1 ∧ v4 = .int .i64 x4_1 ∧ Aside0 (spec_l01Power.l0 kq a0 x3_1 x4_1 = some r) ∧ Aside0 (kq ≤ k) ∧ Drawn0 w w')
  case atStart => exact ⟨(1), (0), (by first | rfl | (simp; done) | (simp [*]; done)), (by first | rfl | (simp; done) | (simp [*]; done)), H', ⟨Nat.le_refl _⟩, by repeat (first | exact Drawn0.refl _ | apply Drawn0.step)⟩
  case round =>
    clear H'
    obtain ⟨x3_1, x4_1, rfl, rfl, HA, HK1, ⟨m1, rfl⟩⟩ := hrel
    cases gk with
    | zero => exact absurd HA.out (by simp [spec_l01Power.l0])
    | succ k1 =>
      have H := HA.out
      clear HA
      simp only [spec_l01Power.l0] at H
      by_cases c2 : x4_1 < a0
      · rw [if_pos c2] at H
        have c2b0 : decide (x4_1 < a0) = true := decide_eq_true c2
        clear c2
        have H' := Aside0.mk H
        clear H
        go_wp2
        go_roundg k1
        case measure => have := HK1.out; omega
        case rel => exact ⟨(wrap64 (x3_1 * 256)), (wrap64 (x4_1 + 1)), (by first | rfl | (simp; done) | (simp [*]; done)), (by first | rfl | (simp; done) | (simp [*]; done)), H', ⟨by have := HK1.out; omega⟩, by repeat (first | exact Drawn0.refl _ | apply Drawn0.step)⟩
      · rw [if_neg c2] at H
        have c2b0 : decide (x4_1 < a0) = false := decide_eq_false c2
        clear c2
        obtain rfl := Option.some.inj H
        go_wp2
        go_ret
        exact ⟨by first | rfl | (simp; done) | (simp [*]; done), by repeat (first | exact Drawn0.refl _ | apply Drawn0.step)⟩

end Go.Proofs.Ytdojcdhlcnlohaa.SFnNumbers
