/- F7, P10, P11: this session's texts, joined; what the claim does not name is left out. -/
import Derived.Test.YteehjlciajhdoaaGreatDoorZe6
namespace Go.Proofs.YteehjlciajhdoaaGreatDoor.X
open Go.RowKit Go.Proofs.YteehjlciajhdoaaGreatDoorW.PrintWords Go.Proofs.YteehjlciajhdoaaGreatDoorW.PrintLast Go.Proofs.YteehjlciajhdoaaGreatDoorW.PrintMore
attribute [local go_sem] max2_int min2_int max_two min_two max_three min_three max_four min_four
set_option linter.unusedVariables false
set_option linter.unusedSimpArgs false
def ostiarylaw6_MimeParses.f (k : Nat) (a0 : ByteArray) : Option (Bool) := (ostiarykeep_Few.f a0 500).bind fun t101 => ((mime_Parse.f t101).bind fun bt102 => ((ostiaryref6_Parse.f k t101).bind fun bt109 => (if (bt102.2.2.2 == bt109.2.2.2) = true then ((ostiarylaw6_same.f k bt102.1 bt102.2.1 bt102.2.2.1 bt109.1 bt109.2.1 bt109.2.2.1).bind fun t116 => (if t116 = true then (if bt102.2.2.2 = true then ((mime_Text.f bt102.1 bt102.2.1 bt102.2.2.1).bind fun t117 => ((ostiaryref6_Text.f k bt109.1 bt109.2.1 bt109.2.2.1).bind fun t118 => (if t117.toList = t118.toList then ((mime_Essence.f bt102.1 bt102.2.1 bt102.2.2.1).bind fun t119 => ((ostiaryref6_Essence.f bt109.1 bt109.2.1 bt109.2.2.1).bind fun t120 => (if t119.toList = t120.toList then ((mime_Group.f k bt102.1 bt102.2.1 bt102.2.2.1).bind fun t121 => ((ostiaryref6_Group.f bt109.1 bt109.2.1 bt109.2.2.1).bind fun t122 => (if t121 = t122 then ((ostiarylaw6_known.f k).bind fun t123 => (some t123)) else (some false)))) else (some false)))) else (some false)))) else ((ostiarylaw6_known.f k).bind fun t124 => (some t124))) else (some false))) else (some false))))
theorem ostiarylaw6_MimeParses.mono : ∀ a0 k, LeO (ostiarylaw6_MimeParses.f k a0) (ostiarylaw6_MimeParses.f (k + 1) a0) := by
  intro a0 k
  unfold ostiarylaw6_MimeParses.f
  repeat' first
      | (with_reducible exact mime_Group.mono _ _ _ _)
      | (with_reducible exact ostiarylaw6_known.mono _)
      | (with_reducible exact ostiarylaw6_same.mono _ _ _ _ _ _ _)
      | (with_reducible exact ostiaryref6_Parse.mono _ _)
      | (with_reducible exact ostiaryref6_Text.mono _ _ _ _)
      | (with_reducible exact LeO.refl _)
      | (with_reducible exact LeO.none _)
      | (with_reducible refine LeO.ite ?_ ?_)
      | (with_reducible refine LeO.bind ?_ (fun _ => ?_))
      | exact mime_Group.mono _ _ _ _
      | exact ostiarylaw6_known.mono _
      | exact ostiarylaw6_same.mono _ _ _ _ _ _ _
      | exact ostiaryref6_Parse.mono _ _
      | exact ostiaryref6_Text.mono _ _ _ _
      | exact LeO.none _
      | refine LeO.ite ?_ ?_
      | refine LeO.bind ?_ (fun _ => ?_)
def ostiarylaw6_MimeParses.T4 : Bool × List (List Nat × List Nat) := (true, [([], []), ([], []), ([0, 1], [0, 1]), ([2], [2]), ([3], [3]), ([3], [3]), ([4, 5, 3, 3], [3, 4, 5]), ([3, 6], [3, 6]), ([7, 6], [7]), ([8], [8]), ([9, 8], [8, 9]), ([10, 8, 8], [8, 10]), ([11], [11]), ([12, 11, 11], [11, 12]), ([11], [11]), ([14, 13, 11], [11, 14]), ([13, 15, 11], [11, 13, 15]), ([16, 15, 11], [11, 16]), ([17], [17]), ([18, 17, 17], [17, 18]), ([17], [17]), ([20, 19, 17], [17, 20]), ([19, 21, 17], [17, 19, 21]), ([17, 22, 11], [11, 17, 22]), ([23, 21, 11], [11, 23]), ([24], [24]), ([25, 24, 24], [24, 25]), ([24], [24]), ([27, 26, 24], [24, 27]), ([26, 28, 24], [24, 26, 28]), ([24, 29, 11], [11, 24, 29]), ([11, 30, 8], [8, 11, 30]), ([8, 31], [8, 31]), ([32, 28], [32]), ([33, 33], [33]), ([33, 34], [33, 34]), ([35, 34, 0, 1, 2, 3, 4, 5, 6, 7, 8, 9, 10, 11, 12, 13, 14, 15, 16, 17, 18, 19, 20, 21, 22, 23, 24, 25, 26, 27, 28, 29, 30, 31, 32, 33, 34, 35], [35])])
def ostiarylaw6_MimeParses.B4 : List Nat := [0, 0, 3, 7, 15, 15, 63, 127, 255, 511, 1023, 2047, 4095, 8191, 4095, 32767, 65535, 131071, 262143, 524287, 262143, 2097151, 4194303, 8388607, 16777215, 33554431, 67108863, 33554431, 268435455, 536870911, 1073741823, 2147483647, 4294967295, 8589934591, 17179869183, 34359738367, 68719476735]
theorem ostiarylaw6_MimeParses.tab4 : rtab .any (opsOf Tryz.f7 4) = ostiarylaw6_MimeParses.T4 := by kernel_rfl
theorem ostiarylaw6_MimeParses.bits4 : waitsOk ostiarylaw6_MimeParses.T4.2 ostiarylaw6_MimeParses.B4 = true := by kernel_rfl
set_option maxHeartbeats 8000000 in
set_option maxRecDepth 100000 in
theorem ostiarylaw6_MimeParses.calls (k : Nat) (a0 : ByteArray) (w : World) (h : ostiarylaw6_MimeParses.f k a0 = some true) :
    Calls Tryz.prog 7 #[.string a0] w fun e w' => e = .returned (.bool true) ∧ Below w.heap.size w w' := by
  have hu24 := Tryz.underlying24
  have hu48 := Tryz.underlying48
  have HB := Aside0.mk (Below.refl w.heap.size w)
  have H : ((ostiarykeep_Few.f a0 500).bind fun t101 => ((mime_Parse.f t101).bind fun bt102 => ((ostiaryref6_Parse.f k t101).bind fun bt109 => (if (bt102.2.2.2 == bt109.2.2.2) = true then ((ostiarylaw6_same.f k bt102.1 bt102.2.1 bt102.2.2.1 bt109.1 bt109.2.1 bt109.2.2.1).bind fun t116 => (if t116 = true then (if bt102.2.2.2 = true then ((mime_Text.f bt102.1 bt102.2.1 bt102.2.2.1).bind fun t117 => ((ostiaryref6_Text.f k bt109.1 bt109.2.1 bt109.2.2.1).bind fun t118 => (if t117.toList = t118.toList then ((mime_Essence.f bt102.1 bt102.2.1 bt102.2.2.1).bind fun t119 => ((ostiaryref6_Essence.f bt109.1 bt109.2.1 bt109.2.2.1).bind fun t120 => (if t119.toList = t120.toList then ((mime_Group.f k bt102.1 bt102.2.1 bt102.2.2.1).bind fun t121 => ((ostiaryref6_Group.f bt109.1 bt109.2.1 bt109.2.2.1).bind fun t122 => (if t121 = t122 then ((ostiarylaw6_known.f k).bind fun t123 => (some t123)) else (some false)))) else (some false)))) else (some false)))) else ((ostiarylaw6_known.f k).bind fun t124 => (some t124))) else (some false))) else (some false))))) = some true := h
  clear h
  replace H := Option.bind_eq_some_iff.mp H
  obtain ⟨t101, A20, H⟩ := H
  replace H : ((mime_Parse.f t101).bind fun bt102 => ((ostiaryref6_Parse.f k t101).bind fun bt109 => (if (bt102.2.2.2 == bt109.2.2.2) = true then ((ostiarylaw6_same.f k bt102.1 bt102.2.1 bt102.2.2.1 bt109.1 bt109.2.1 bt109.2.2.1).bind fun t116 => (if t116 = true then (if bt102.2.2.2 = true then ((mime_Text.f bt102.1 bt102.2.1 bt102.2.2.1).bind fun t117 => ((ostiaryref6_Text.f k bt109.1 bt109.2.1 bt109.2.2.1).bind fun t118 => (if t117.toList = t118.toList then ((mime_Essence.f bt102.1 bt102.2.1 bt102.2.2.1).bind fun t119 => ((ostiaryref6_Essence.f bt109.1 bt109.2.1 bt109.2.2.1).bind fun t120 => (if t119.toList = t120.toList then ((mime_Group.f k bt102.1 bt102.2.1 bt102.2.2.1).bind fun t121 => ((ostiaryref6_Group.f bt109.1 bt109.2.1 bt109.2.2.1).bind fun t122 => (if t121 = t122 then ((ostiarylaw6_known.f k).bind fun t123 => (some t123)) else (some false)))) else (some false)))) else (some false)))) else ((ostiarylaw6_known.f k).bind fun t124 => (some t124))) else (some false))) else (some false)))) = some true := H
  have A2 := Aside0.mk A20
  clear A20
  replace H := Option.bind_eq_some_iff.mp H
  obtain ⟨⟨t102, t103, t104, t107⟩, A30, H⟩ := H
  replace H : ((ostiaryref6_Parse.f k t101).bind fun bt109 => (if (t107 == bt109.2.2.2) = true then ((ostiarylaw6_same.f k t102 t103 t104 bt109.1 bt109.2.1 bt109.2.2.1).bind fun t116 => (if t116 = true then (if t107 = true then ((mime_Text.f t102 t103 t104).bind fun t117 => ((ostiaryref6_Text.f k bt109.1 bt109.2.1 bt109.2.2.1).bind fun t118 => (if t117.toList = t118.toList then ((mime_Essence.f t102 t103 t104).bind fun t119 => ((ostiaryref6_Essence.f bt109.1 bt109.2.1 bt109.2.2.1).bind fun t120 => (if t119.toList = t120.toList then ((mime_Group.f k t102 t103 t104).bind fun t121 => ((ostiaryref6_Group.f bt109.1 bt109.2.1 bt109.2.2.1).bind fun t122 => (if t121 = t122 then ((ostiarylaw6_known.f k).bind fun t123 => (some t123)) else (some false)))) else (some false)))) else (some false)))) else ((ostiarylaw6_known.f k).bind fun t124 => (some t124))) else (some false))) else (some false))) = some true := H
  have A3 := Aside0.mk A30
  clear A30
  replace H := Option.bind_eq_some_iff.mp H
  obtain ⟨⟨t109, t110, t111, t114⟩, A40, H⟩ := H
  replace H : (if (t107 == t114) = true then ((ostiarylaw6_same.f k t102 t103 t104 t109 t110 t111).bind fun t116 => (if t116 = true then (if t107 = true then ((mime_Text.f t102 t103 t104).bind fun t117 => ((ostiaryref6_Text.f k t109 t110 t111).bind fun t118 => (if t117.toList = t118.toList then ((mime_Essence.f t102 t103 t104).bind fun t119 => ((ostiaryref6_Essence.f t109 t110 t111).bind fun t120 => (if t119.toList = t120.toList then ((mime_Group.f k t102 t103 t104).bind fun t121 => ((ostiaryref6_Group.f t109 t110 t111).bind fun t122 => (if t121 = t122 then ((ostiarylaw6_known.f k).bind fun t123 => (some t123)) else (some false)))) else (some false)))) else (some false)))) else ((ostiarylaw6_known.f k).bind fun t124 => (some t124))) else (some false))) else (some false)) = some true := H
  have A4 := Aside0.mk A40
  clear A40
  by_cases c5 : (t107 == t114) = true
  · rw [if_pos c5] at H
    have c5b0 : (t107 == t114) = true := c5
    (try (have c5b1 : decide (t107 = t114) = true := by simpa using c5))
    (try (have c5b2 : (t107 == t114) = true := by simpa using c5))
    clear c5
    replace H := Option.bind_eq_some_iff.mp H
    obtain ⟨t116, A60, H⟩ := H
    replace H : (if t116 = true then (if t107 = true then ((mime_Text.f t102 t103 t104).bind fun t117 => ((ostiaryref6_Text.f k t109 t110 t111).bind fun t118 => (if t117.toList = t118.toList then ((mime_Essence.f t102 t103 t104).bind fun t119 => ((ostiaryref6_Essence.f t109 t110 t111).bind fun t120 => (if t119.toList = t120.toList then ((mime_Group.f k t102 t103 t104).bind fun t121 => ((ostiaryref6_Group.f t109 t110 t111).bind fun t122 => (if t121 = t122 then ((ostiarylaw6_known.f k).bind fun t123 => (some t123)) else (some false)))) else (some false)))) else (some false)))) else ((ostiarylaw6_known.f k).bind fun t124 => (some t124))) else (some false)) = some true := H
    have A6 := Aside0.mk A60
    clear A60
    by_cases c7 : t116 = true
    · subst c7
      have H1 : (if t107 = true then ((mime_Text.f t102 t103 t104).bind fun t117 => ((ostiaryref6_Text.f k t109 t110 t111).bind fun t118 => (if t117.toList = t118.toList then ((mime_Essence.f t102 t103 t104).bind fun t119 => ((ostiaryref6_Essence.f t109 t110 t111).bind fun t120 => (if t119.toList = t120.toList then ((mime_Group.f k t102 t103 t104).bind fun t121 => ((ostiaryref6_Group.f t109 t110 t111).bind fun t122 => (if t121 = t122 then ((ostiarylaw6_known.f k).bind fun t123 => (some t123)) else (some false)))) else (some false)))) else (some false)))) else ((ostiarylaw6_known.f k).bind fun t124 => (some t124))) = some true := by rw [if_pos rfl] at H; exact H
      clear H
      have H := H1
      clear H1
      by_cases c8 : t107 = true
      · subst c8
        have H1 : ((mime_Text.f t102 t103 t104).bind fun t117 => ((ostiaryref6_Text.f k t109 t110 t111).bind fun t118 => (if t117.toList = t118.toList then ((mime_Essence.f t102 t103 t104).bind fun t119 => ((ostiaryref6_Essence.f t109 t110 t111).bind fun t120 => (if t119.toList = t120.toList then ((mime_Group.f k t102 t103 t104).bind fun t121 => ((ostiaryref6_Group.f t109 t110 t111).bind fun t122 => (if t121 = t122 then ((ostiarylaw6_known.f k).bind fun t123 => (some t123)) else (some false)))) else (some false)))) else (some false)))) = some true := by rw [if_pos rfl] at H; exact H
        clear H
        have H := H1
        clear H1
        replace H := Option.bind_eq_some_iff.mp H
        obtain ⟨t117, A90, H⟩ := H
        replace H : ((ostiaryref6_Text.f k t109 t110 t111).bind fun t118 => (if t117.toList = t118.toList then ((mime_Essence.f t102 t103 t104).bind fun t119 => ((ostiaryref6_Essence.f t109 t110 t111).bind fun t120 => (if t119.toList = t120.toList then ((mime_Group.f k t102 t103 t104).bind fun t121 => ((ostiaryref6_Group.f t109 t110 t111).bind fun t122 => (if t121 = t122 then ((ostiarylaw6_known.f k).bind fun t123 => (some t123)) else (some false)))) else (some false)))) else (some false))) = some true := H
        have A9 := Aside0.mk A90
        clear A90
        replace H := Option.bind_eq_some_iff.mp H
        obtain ⟨t118, A100, H⟩ := H
        replace H : (if t117.toList = t118.toList then ((mime_Essence.f t102 t103 t104).bind fun t119 => ((ostiaryref6_Essence.f t109 t110 t111).bind fun t120 => (if t119.toList = t120.toList then ((mime_Group.f k t102 t103 t104).bind fun t121 => ((ostiaryref6_Group.f t109 t110 t111).bind fun t122 => (if t121 = t122 then ((ostiarylaw6_known.f k).bind fun t123 => (some t123)) else (some false)))) else (some false)))) else (some false)) = some true := H
        have A10 := Aside0.mk A100
        clear A100
        by_cases c11 : t117.toList = t118.toList
        · rw [if_pos c11] at H
          have c11b0 : (t117.toList == t118.toList) = true := beq_iff_eq.mpr c11
          have c11b1 : (t117.toList != t118.toList) = false := bne_eq_false_iff_eq.mpr c11
          clear c11
          replace H := Option.bind_eq_some_iff.mp H
          obtain ⟨t119, A120, H⟩ := H
          replace H : ((ostiaryref6_Essence.f t109 t110 t111).bind fun t120 => (if t119.toList = t120.toList then ((mime_Group.f k t102 t103 t104).bind fun t121 => ((ostiaryref6_Group.f t109 t110 t111).bind fun t122 => (if t121 = t122 then ((ostiarylaw6_known.f k).bind fun t123 => (some t123)) else (some false)))) else (some false))) = some true := H
          have A12 := Aside0.mk A120
          clear A120
          replace H := Option.bind_eq_some_iff.mp H
          obtain ⟨t120, A130, H⟩ := H
          replace H : (if t119.toList = t120.toList then ((mime_Group.f k t102 t103 t104).bind fun t121 => ((ostiaryref6_Group.f t109 t110 t111).bind fun t122 => (if t121 = t122 then ((ostiarylaw6_known.f k).bind fun t123 => (some t123)) else (some false)))) else (some false)) = some true := H
          have A13 := Aside0.mk A130
          clear A130
          by_cases c14 : t119.toList = t120.toList
          · rw [if_pos c14] at H
            have c14b0 : (t119.toList == t120.toList) = true := beq_iff_eq.mpr c14
            have c14b1 : (t119.toList != t120.toList) = false := bne_eq_false_iff_eq.mpr c14
            clear c14
            replace H := Option.bind_eq_some_iff.mp H
            obtain ⟨t121, A150, H⟩ := H
            replace H : ((ostiaryref6_Group.f t109 t110 t111).bind fun t122 => (if t121 = t122 then ((ostiarylaw6_known.f k).bind fun t123 => (some t123)) else (some false))) = some true := H
            have A15 := Aside0.mk A150
            clear A150
            replace H := Option.bind_eq_some_iff.mp H
            obtain ⟨t122, A160, H⟩ := H
            replace H : (if t121 = t122 then ((ostiarylaw6_known.f k).bind fun t123 => (some t123)) else (some false)) = some true := H
            have A16 := Aside0.mk A160
            clear A160
            by_cases c17 : t121 = t122
            · rw [if_pos c17] at H
              have c17b0 : (t121 == t122) = true := beq_iff_eq.mpr c17
              have c17b1 : (t121 != t122) = false := bne_eq_false_iff_eq.mpr c17
              clear c17
              replace H := Option.bind_eq_some_iff.mp H
              obtain ⟨t123, A180, H⟩ := H
              replace H : (some t123) = some true := H
              have A18 := Aside0.mk A180
              clear A180
              have HTT := Aside0.mk (Option.some.inj H)
              clear H
              go_enter Tryz.func7, Tryz.ntmps7
              try go_wp2_with (first | ((with_reducible refine gate_callee (f := 16) rfl ?_); refine goesL_ (some 8) rfl rfl Tryz.func16 (by kernel_rfl) rfl #[.string a0, .int .i64 500] rfl (by (try simp only [List.map_toArray, List.map_cons, List.map_nil]); first | done | rfl | (simp only [List.length_drop, List.length_take]; rfl)) ?_; (with_reducible refine (ostiarykeep_Few.calls a0 500 t101 _ A2.out).mono ?_); rintro e w' ⟨rfl, ⟨nd, rfl⟩⟩; refine ⟨_, rfl, ?_⟩) | ((with_reducible refine gate_callee (f := 15) rfl ?_); refine goesL_ (some 11) rfl rfl Tryz.func15 (by kernel_rfl) rfl #[.string t101] rfl (by (try simp only [List.map_toArray, List.map_cons, List.map_nil]); first | done | rfl | (simp only [List.length_drop, List.length_take]; rfl)) ?_; (with_reducible refine (mime_Parse.calls t101 t102 t103 t104 true _ A3.out).mono ?_); rintro e w19 ⟨v105, rfl, ho0, hb⟩; refine ⟨_, rfl, ?_⟩; have n0_ := Aside0.mk (Kd.R_lower ho0 (below_size (by repeat (first | (with_reducible first | exact HB.out | apply below_alloc | apply pw_below_drewN | apply below_drew1) | exact HB.out)))); have n1_ := Aside0.mk (below_step (by repeat (first | (with_reducible first | exact HB.out | apply below_alloc | apply pw_below_drewN | apply below_drew1) | exact HB.out)) hb); clear HB; have HO106 := n0_; have HB := n1_; clear n0_ n1_; (try clear hb); (try clear hb2); (try clear hk); (try clear hi); (try clear ho0)) | ((with_reducible refine gate_dst (N := 3) rfl ?_); refine box_event ?hg (N := 3) ?hd (cs := #[.string (⟨#[]⟩ : ByteArray), .string (⟨#[]⟩ : ByteArray), .slice none 0 0]) (t := 24) ?hr ?_; (case hd => rfl); (case hg => rfl); (case hr => first | (go_simp; done) | (go_simp; rfl)); intro gb108 hg w20 hbox hb; have n0_ := Aside0.mk (Kd.R_below (by (with_reducible repeat (first | apply Kd.R_alloc | apply Kd.R_drewN | apply Kd.R_drew)); exact HO106.out) hb); have n1_ := Aside0.mk (below_step (by repeat (first | (with_reducible first | exact HB.out | apply below_alloc | apply pw_below_drewN | apply below_drew1) | exact HB.out)) hb); have n2_ := Aside0.mk (hbox); have n3_ := Aside0.mk ((by rw [hg]; exact (below_size (by repeat (first | (with_reducible first | exact HB.out | apply below_alloc | apply pw_below_drewN | apply below_drew1) | exact HB.out))) : w.heap.size ≤ gb108)); have n4_ := Aside0.mk ((by rw [hg]; exact (below_size (by repeat (first | (with_reducible first | exact HB.out | apply below_alloc | apply pw_below_drewN | apply below_drew1) | exact HB.out))) : w.heap.size ≤ gb108)); clear HO106; clear HB; have HO106 := n0_; have HB := n1_; have BK108 := n2_; have GW108 := n3_; have GE108 := n4_; clear n0_ n1_ n2_ n3_ n4_; clear hb hbox hg; have hcz21_0 : w20.cell? ⟨gb108, 0, none⟩ = some (.string (⟨#[]⟩ : ByteArray)) := (blk_cell BK108.out 0).trans rfl; have hcz21_1 : w20.cell? ⟨gb108, 1, none⟩ = some (.string (⟨#[]⟩ : ByteArray)) := (blk_cell BK108.out 1).trans rfl; have hcz21_2 : w20.cell? ⟨gb108, 2, none⟩ = some (.slice none 0 0) := (blk_cell BK108.out 2).trans rfl; have hfz21_0 := blk_frozen BK108.out 0; have hfz21_1 := blk_frozen BK108.out 1; have hfz21_2 := blk_frozen BK108.out 2; obtain ⟨Ao22, co22, eo22⟩ := Kd.R_slice HO106.out; subst eo22) | ((with_reducible refine gate_callee (f := 26) rfl ?_); refine goesL_ (some 16) rfl rfl Tryz.func26 (by kernel_rfl) rfl #[.string t101] rfl (by (try simp only [List.map_toArray, List.map_cons, List.map_nil]); first | done | rfl | (simp only [List.length_drop, List.length_take]; rfl)) ?_; (with_reducible refine (ostiaryref6_Parse.calls k t101 t109 t110 t111 t114 _ A4.out).mono ?_); rintro e w23 ⟨v112, rfl, ho0, hb⟩; refine ⟨_, rfl, ?_⟩; have n0_ := Aside0.mk (Kd.R_below (by (with_reducible repeat (first | apply Kd.R_alloc | apply Kd.R_drewN | apply Kd.R_drew)); exact (Kd.R_mono (Kd.R_far (p := ⟨gb108, 2, none⟩) (Kd.R_far (p := ⟨gb108, 1, none⟩) (Kd.R_far (p := ⟨gb108, 0, none⟩) (Kd.R_types HO106.out BK108.out (by decide)) (fun _ hk => hk.2) (.string t102)) (fun _ hk => hk.2) (.string t103)) (fun _ hk => hk.2) (.slice Ao22 t104.length co22)) (fun _ h_ => h_.1))) hb); have n1_ := Aside0.mk (Kd.R_lower ho0 (below_size (by repeat (first | (with_reducible first | exact HB.out | apply below_alloc | apply pw_below_drewN | apply below_drew1 | refine below_set ?_ GE108.out) | exact HB.out)))); have n2_ := Aside0.mk (blk_below (g := gb108) (o := .cells #[.string t102, .string t103, .slice Ao22 t104.length co22] 24 (0, 0)) (by (with_reducible repeat (first | refine blk_drewN ?_ _ | refine blk_drew ?_ | refine blk_alloc ?_ _)); refine blk_put (cs := #[.string t102, .string t103, .slice none 0 0]) ?_ 2 _ rfl; (with_reducible repeat (first | refine blk_drewN ?_ _ | refine blk_drew ?_ | refine blk_alloc ?_ _)); refine blk_put (cs := #[.string t102, .string (⟨#[]⟩ : ByteArray), .slice none 0 0]) ?_ 1 _ rfl; (with_reducible repeat (first | refine blk_drewN ?_ _ | refine blk_drew ?_ | refine blk_alloc ?_ _)); refine blk_put (cs := #[.string (⟨#[]⟩ : ByteArray), .string (⟨#[]⟩ : ByteArray), .slice none 0 0]) ?_ 0 _ rfl; (with_reducible repeat (first | refine blk_drewN ?_ _ | refine blk_drew ?_ | refine blk_alloc ?_ _)); exact BK108.out) hb); have n3_ := Aside0.mk (below_step (by repeat (first | (with_reducible first | exact HB.out | apply below_alloc | apply pw_below_drewN | apply below_drew1 | refine below_set ?_ GE108.out) | exact HB.out)) hb); clear HO106; clear BK108; clear HB; have HO106 := n0_; have HO113 := n1_; have BK108 := n2_; have HB := n3_; clear n0_ n1_ n2_ n3_; (try clear hb); (try clear hb2); (try clear hk); (try clear hi); (try clear ho0)) | ((with_reducible refine gate_dst (N := 5) rfl ?_); refine box_event ?hg (N := 5) ?hd (cs := #[.string (⟨#[]⟩ : ByteArray), .string (⟨#[]⟩ : ByteArray), .slice none 0 0]) (t := 48) ?hr ?_; (case hd => rfl); (case hg => rfl); (case hr => first | (go_simp; done) | (go_simp; rfl)); intro gb115 hg w24 hbox hb; have n0_ := Aside0.mk (Kd.R_below (by (with_reducible repeat (first | apply Kd.R_alloc | apply Kd.R_drewN | apply Kd.R_drew)); exact HO106.out) hb); have n1_ := Aside0.mk (Kd.R_below (by (with_reducible repeat (first | apply Kd.R_alloc | apply Kd.R_drewN | apply Kd.R_drew)); exact HO113.out) hb); have n2_ := Aside0.mk (blk_below (g := gb108) (o := .cells #[.string t102, .string t103, .slice Ao22 t104.length co22] 24 (0, 0)) (by (with_reducible repeat (first | refine blk_drewN ?_ _ | refine blk_drew ?_ | refine blk_alloc ?_ _)); exact BK108.out) hb); have n3_ := Aside0.mk (below_step (by repeat (first | (with_reducible first | exact HB.out | apply below_alloc | apply pw_below_drewN | apply below_drew1 | refine below_set ?_ GE108.out) | exact HB.out)) hb); have n4_ := Aside0.mk (hbox); have n5_ := Aside0.mk ((by rw [hg]; exact (below_size (by repeat (first | (with_reducible first | exact HB.out | apply below_alloc | apply pw_below_drewN | apply below_drew1 | refine below_set ?_ GE108.out) | exact HB.out))) : w.heap.size ≤ gb115)); have n6_ := Aside0.mk ((by rw [hg]; exact (below_size (by repeat (first | (with_reducible first | exact HB.out | apply below_alloc | apply pw_below_drewN | apply below_drew1 | refine below_set ?_ GE108.out) | exact HB.out))) : w.heap.size ≤ gb115)); have n7_ := Aside0.mk ((by rw [hg]; exact Nat.ne_of_lt (blk_lt (g := gb108) (o := .cells #[.string t102, .string t103, .slice Ao22 t104.length co22] 24 (0, 0)) (by (with_reducible repeat (first | refine blk_drewN ?_ _ | refine blk_drew ?_ | refine blk_alloc ?_ _)); exact BK108.out)) : gb108 ≠ gb115)); have n8_ := Aside0.mk ((by rw [hg]; exact Nat.ne_of_gt (blk_lt (g := gb108) (o := .cells #[.string t102, .string t103, .slice Ao22 t104.length co22] 24 (0, 0)) (by (with_reducible repeat (first | refine blk_drewN ?_ _ | refine blk_drew ?_ | refine blk_alloc ?_ _)); exact BK108.out)) : gb115 ≠ gb108)); clear HO106; clear HO113; clear BK108; clear HB; have HO106 := n0_; have HO113 := n1_; have BK108 := n2_; have HB := n3_; have BK115 := n4_; have GW115 := n5_; have GE115 := n6_; have NB108_115 := n7_; have NB115_108 := n8_; clear n0_ n1_ n2_ n3_ n4_ n5_ n6_ n7_ n8_; clear hb hbox hg; have hnb25 := NB115_108.out; have hnc25 := NB108_115.out; have hcz26_0 : w24.cell? ⟨gb115, 0, none⟩ = some (.string (⟨#[]⟩ : ByteArray)) := (blk_cell BK115.out 0).trans rfl; have hcz26_1 : w24.cell? ⟨gb115, 1, none⟩ = some (.string (⟨#[]⟩ : ByteArray)) := (blk_cell BK115.out 1).trans rfl; have hcz26_2 : w24.cell? ⟨gb115, 2, none⟩ = some (.slice none 0 0) := (blk_cell BK115.out 2).trans rfl; have hfz26_0 := blk_frozen BK115.out 0; have hfz26_1 := blk_frozen BK115.out 1; have hfz26_2 := blk_frozen BK115.out 2; obtain ⟨Ao27, co27, eo27⟩ := Kd.R_slice HO113.out; subst eo27))
              have n0_ : Aside0 (Kd.R k32 32 (((w24.setCell ⟨gb115, 0, none⟩ (.string t109)).setCell ⟨gb115, 1, none⟩ (.string t110)).setCell ⟨gb115, 2, none⟩ (.slice Ao27 t111.length co27)) w.heap.size (fun _ => True) (.slice Ao22 t104.length co22) t104) := ⟨by (with_reducible repeat (first | apply Kd.R_alloc | apply Kd.R_drewN | apply Kd.R_drew)); exact Kd.R_mono (Kd.R_far (p := ⟨gb115, 2, none⟩) (Kd.R_far (p := ⟨gb115, 1, none⟩) (Kd.R_far (p := ⟨gb115, 0, none⟩) (Kd.R_types HO106.out BK115.out (by decide)) (fun _ hk => hk.2) (.string t109)) (fun _ hk => hk.2) (.string t110)) (fun _ hk => hk.2) (.slice Ao27 t111.length co27)) (fun _ hk => trivial)⟩
              have n1_ : Aside0 (Kd.R k89 89 (((w24.setCell ⟨gb115, 0, none⟩ (.string t109)).setCell ⟨gb115, 1, none⟩ (.string t110)).setCell ⟨gb115, 2, none⟩ (.slice Ao27 t111.length co27)) w.heap.size (fun _ => True) (.slice Ao27 t111.length co27) t111) := ⟨by (with_reducible repeat (first | apply Kd.R_alloc | apply Kd.R_drewN | apply Kd.R_drew)); exact Kd.R_mono (Kd.R_far (p := ⟨gb115, 2, none⟩) (Kd.R_far (p := ⟨gb115, 1, none⟩) (Kd.R_far (p := ⟨gb115, 0, none⟩) (Kd.R_types HO113.out BK115.out (by decide)) (fun _ hk => hk.2) (.string t109)) (fun _ hk => hk.2) (.string t110)) (fun _ hk => hk.2) (.slice Ao27 t111.length co27)) (fun _ hk => trivial)⟩
              have n2_ : Aside0 ((((w24.setCell ⟨gb115, 0, none⟩ (.string t109)).setCell ⟨gb115, 1, none⟩ (.string t110)).setCell ⟨gb115, 2, none⟩ (.slice Ao27 t111.length co27)).heap[gb108]? = some (.cells #[.string t102, .string t103, .slice Ao22 t104.length co22] 24 (0, 0))) := ⟨by (with_reducible repeat (first | refine blk_drewN ?_ _ | refine blk_drew ?_ | refine blk_alloc ?_ _)); refine blk_far ?_ NB108_115.out _; (with_reducible repeat (first | refine blk_drewN ?_ _ | refine blk_drew ?_ | refine blk_alloc ?_ _)); refine blk_far ?_ NB108_115.out _; (with_reducible repeat (first | refine blk_drewN ?_ _ | refine blk_drew ?_ | refine blk_alloc ?_ _)); refine blk_far ?_ NB108_115.out _; (with_reducible repeat (first | refine blk_drewN ?_ _ | refine blk_drew ?_ | refine blk_alloc ?_ _)); exact BK108.out⟩
              have n3_ : Aside0 ((((w24.setCell ⟨gb115, 0, none⟩ (.string t109)).setCell ⟨gb115, 1, none⟩ (.string t110)).setCell ⟨gb115, 2, none⟩ (.slice Ao27 t111.length co27)).heap[gb115]? = some (.cells #[.string t109, .string t110, .slice Ao27 t111.length co27] 48 (0, 0))) := ⟨by (with_reducible repeat (first | refine blk_drewN ?_ _ | refine blk_drew ?_ | refine blk_alloc ?_ _)); refine blk_put (cs := #[.string t109, .string t110, .slice none 0 0]) ?_ 2 _ rfl; (with_reducible repeat (first | refine blk_drewN ?_ _ | refine blk_drew ?_ | refine blk_alloc ?_ _)); refine blk_put (cs := #[.string t109, .string (⟨#[]⟩ : ByteArray), .slice none 0 0]) ?_ 1 _ rfl; (with_reducible repeat (first | refine blk_drewN ?_ _ | refine blk_drew ?_ | refine blk_alloc ?_ _)); refine blk_put (cs := #[.string (⟨#[]⟩ : ByteArray), .string (⟨#[]⟩ : ByteArray), .slice none 0 0]) ?_ 0 _ rfl; (with_reducible repeat (first | refine blk_drewN ?_ _ | refine blk_drew ?_ | refine blk_alloc ?_ _)); exact BK115.out⟩
              have n4_ : Aside0 (Below w.heap.size w (((w24.setCell ⟨gb115, 0, none⟩ (.string t109)).setCell ⟨gb115, 1, none⟩ (.string t110)).setCell ⟨gb115, 2, none⟩ (.slice Ao27 t111.length co27))) := ⟨by repeat (first | (with_reducible first | exact HB.out | apply below_alloc | apply pw_below_drewN | apply below_drew1 | refine below_set ?_ GE108.out | refine below_set ?_ GE115.out) | exact HB.out)⟩
              (try clear HO106)
              (try clear HO113)
              (try clear BK108)
              (try clear BK115)
              (try clear HB)
              generalize (((w24.setCell ⟨gb115, 0, none⟩ (.string t109)).setCell ⟨gb115, 1, none⟩ (.string t110)).setCell ⟨gb115, 2, none⟩ (.slice Ao27 t111.length co27)) = w28 at n0_ n1_ n2_ n3_ n4_ ⊢
              have HO106 := n0_
              have HO113 := n1_
              have BK108 := n2_
              have BK115 := n3_
              have HB := n4_
              clear n0_ n1_ n2_ n3_ n4_
              have n0_ := Aside0.mk (Kd.R_drew HO106.out)
              have n1_ := Aside0.mk (Kd.R_drew HO113.out)
              have n2_ := Aside0.mk (blk_drew BK108.out)
              have n3_ := Aside0.mk (blk_drew BK115.out)
              have n4_ := Aside0.mk (below_drew1 HB.out)
              clear HO106
              clear HO113
              clear BK108
              clear BK115
              clear HB
              have HO106 := n0_
              have HO113 := n1_
              have BK108 := n2_
              have BK115 := n3_
              have HB := n4_
              clear n0_ n1_ n2_ n3_ n4_
              refine start_ (n := 37) (S := fun w' => w'.cell? ⟨gb108, 0, none⟩ = some (.string t102) ∧ w'.cell? ⟨gb108, 1, none⟩ = some (.string t103) ∧ w'.cell? ⟨gb108, 2, none⟩ = some (.slice Ao22 t104.length co22) ∧ w'.cell? ⟨gb115, 0, none⟩ = some (.string t109) ∧ w'.cell? ⟨gb115, 1, none⟩ = some (.string t110) ∧ w'.cell? ⟨gb115, 2, none⟩ = some (.slice Ao27 t111.length co27)) (ds := []) #[false, false, false, false, false, false, false, false, false, false, false, false, false, false, false, false, false, false, false, false, false, false, false, false, false, false, false, false, false, false, false, false, false, false, false, false, false] (by kernel_rfl) rfl rfl ⟨(blk_cell BK108.out 0).trans rfl, (blk_cell BK108.out 1).trans rfl, (blk_cell BK108.out 2).trans rfl, (blk_cell BK115.out 0).trans rfl, (blk_cell BK115.out 1).trans rfl, (blk_cell BK115.out 2).trans rfl⟩ (fun hHeld => ?_); refine with_tabW ostiarylaw6_MimeParses.tab4 ostiarylaw6_MimeParses.bits4 (fun HT_ HW_ => ?_)
              generalize w28.drew = w29 at HO106 HO113 BK108 BK115 HB hHeld ⊢
              refine pure_ (i := 0) (N := some 19) (v := ?_) (a' := ?_) #[true, false, false, false, false, false, false, false, false, false, false, false, false, false, false, false, false, false, false, false, false, false, false, false, false, false, false, false, false, false, false, false, false, false, false, false, false] rfl rfl (any_of HT_.out (by kernel_rfl)) (fun _ _ _ h => h) (Or.inl ⟨by rfl, ?_⟩) ?_ ?_
              rotate_left
              · intro w'
                go_simp
                with_reducible rfl
              rotate_left
              · simp only [Act.put, List.setIfInBounds_toArray, List.set_cons_zero, List.set_cons_succ, i64_w, i32_w]
                rfl
              refine pure_ (i := 1) (N := some 20) (v := ?_) (a' := ?_) #[true, true, false, false, false, false, false, false, false, false, false, false, false, false, false, false, false, false, false, false, false, false, false, false, false, false, false, false, false, false, false, false, false, false, false, false, false] rfl rfl (any_of HT_.out (by kernel_rfl)) (fun _ _ _ h => h) (Or.inl ⟨by rfl, ?_⟩) ?_ ?_
              rotate_left
              · intro w'
                go_simp
                with_reducible rfl
              rotate_left
              · simp only [Act.put, List.setIfInBounds_toArray, List.set_cons_zero, List.set_cons_succ, i64_w, i32_w]
                rfl
              refine pure_ (i := 2) (N := some 21) (v := ?_) (a' := ?_) #[true, true, true, false, false, false, false, false, false, false, false, false, false, false, false, false, false, false, false, false, false, false, false, false, false, false, false, false, false, false, false, false, false, false, false, false, false] rfl rfl (any_of HT_.out (by kernel_rfl)) (fun _ _ _ h => h) (Or.inl ⟨by rfl, ?_⟩) ?_ ?_
              rotate_left
              · intro w'
                go_simp
                with_reducible rfl
              rotate_left
              · simp only [Act.put, List.setIfInBounds_toArray, List.set_cons_zero, List.set_cons_succ, i64_w, i32_w]
                rfl
              refine pure_ (i := 3) (N := some 22) (v := ?_) (a' := ?_) #[true, true, true, true, false, false, false, false, false, false, false, false, false, false, false, false, false, false, false, false, false, false, false, false, false, false, false, false, false, false, false, false, false, false, false, false, false] rfl rfl (any_of HT_.out (by kernel_rfl)) (fun _ _ _ h => h) (Or.inl ⟨by rfl, ?_⟩) ?_ ?_
              rotate_left
              · intro w'
                go_simp
                with_reducible rfl
              rotate_left
              · simp only [Act.put, List.setIfInBounds_toArray, List.set_cons_zero, List.set_cons_succ, i64_w, i32_w]
                rfl
              refine take_ (i := 4) (N := some 23) (v := ?_) (a' := ?_) #[true, true, true, true, true, false, false, false, false, false, false, false, false, false, false, false, false, false, false, false, false, false, false, false, false, false, false, false, false, false, false, false, false, false, false, false, false] rfl rfl (take_ofW HT_.out HW_.out (by kernel_rfl)) (fun _ _ _ h => h) (Or.inl ⟨by rfl, ?_⟩) hHeld ?_ ?_
              rotate_left
              · rintro w' ⟨s0, s1, s2, s3, s4, s5⟩
                go_simp
                with_reducible rfl
              rotate_left
              · simp only [Act.put, List.setIfInBounds_toArray, List.set_cons_zero, List.set_cons_succ, i64_w, i32_w]
                rfl
              refine take_ (i := 5) (N := some 24) (v := ?_) (a' := ?_) #[true, true, true, true, true, true, false, false, false, false, false, false, false, false, false, false, false, false, false, false, false, false, false, false, false, false, false, false, false, false, false, false, false, false, false, false, false] rfl rfl (take_ofW HT_.out HW_.out (by kernel_rfl)) (fun _ _ _ h => h) (Or.inl ⟨by rfl, ?_⟩) hHeld ?_ ?_
              rotate_left
              · rintro w' ⟨s0, s1, s2, s3, s4, s5⟩
                go_simp
                with_reducible rfl
              rotate_left
              · simp only [Act.put, List.setIfInBounds_toArray, List.set_cons_zero, List.set_cons_succ, i64_w, i32_w]
                rfl
              refine one_ (i := 6) (N := some 25) #[true, true, true, true, true, true, true, false, false, false, false, false, false, false, false, false, false, false, false, false, false, false, false, false, false, false, false, false, false, false, false, false, false, false, false, false, false] rfl rfl (one_of HT_.out (by kernel_rfl)) (by decide) (fun K hK => ?_)
              refine goes_ Tryz.func27 (by kernel_rfl) rfl #[.agg #[.string t102, .string t103, .slice Ao22 t104.length co22], .agg #[.string t109, .string t110, .slice Ao27 t111.length co27]] (by rfl) rfl rfl (by (try simp only [List.map_toArray, List.map_cons, List.map_nil]); first | done | rfl | (simp only [List.length_drop, List.length_take]; rfl)) ?_
              with_reducible refine (ostiarylaw6_same.calls k t102 t103 _ _ t104 t109 t110 _ _ t111 true _ ?side1 ?side2 ?side3 ?side4 A6.out).mono ?_
              (case side1 => repeat (first | exact (Kd.R_reads' HO106.out).2.2 | (with_reducible refine Kd.C_alloc ?_ _) | (with_reducible refine Kd.C_drewN ?_ _) | (with_reducible refine Kd.C_drew ?_)))
              (case side2 => exact (Kd.R_reads' HO106.out).2.1)
              (case side3 => repeat (first | exact (Kd.R_reads' HO113.out).2.2 | (with_reducible refine Kd.C_alloc ?_ _) | (with_reducible refine Kd.C_drewN ?_ _) | (with_reducible refine Kd.C_drew ?_)))
              (case side4 => exact (Kd.R_reads' HO113.out).2.1)
              rintro e w30 ⟨rfl, hb⟩
              refine ⟨_, rfl, ?_⟩
              have n0_ := Aside0.mk (Kd.R_below (by (with_reducible repeat (first | apply Kd.R_alloc | apply Kd.R_drewN | apply Kd.R_drew)); exact HO106.out) hb)
              have n1_ := Aside0.mk (Kd.R_below (by (with_reducible repeat (first | apply Kd.R_alloc | apply Kd.R_drewN | apply Kd.R_drew)); exact HO113.out) hb)
              have n2_ := Aside0.mk (blk_below (g := gb108) (o := .cells #[.string t102, .string t103, .slice Ao22 t104.length co22] 24 (0, 0)) (by (with_reducible repeat (first | refine blk_drewN ?_ _ | refine blk_drew ?_ | refine blk_alloc ?_ _)); exact BK108.out) hb)
              have n3_ := Aside0.mk (blk_below (g := gb115) (o := .cells #[.string t109, .string t110, .slice Ao27 t111.length co27] 48 (0, 0)) (by (with_reducible repeat (first | refine blk_drewN ?_ _ | refine blk_drew ?_ | refine blk_alloc ?_ _)); exact BK115.out) hb)
              have n4_ := Aside0.mk (below_step (by repeat (first | (with_reducible first | exact HB.out | apply below_alloc | apply pw_below_drewN | apply below_drew1 | refine below_set ?_ GE108.out | refine below_set ?_ GE115.out) | exact HB.out)) hb)
              clear HO106
              clear HO113
              clear BK108
              clear BK115
              clear HB
              have HO106 := n0_
              have HO113 := n1_
              have BK108 := n2_
              have BK115 := n3_
              have HB := n4_
              clear n0_ n1_ n2_ n3_ n4_
              (try clear hb)
              (try clear hb2)
              (try clear hk)
              (try clear hi)
              refine hK.out _ _ ⟨(blk_cell BK108.out 0).trans rfl, (blk_cell BK108.out 1).trans rfl, (blk_cell BK108.out 2).trans rfl, (blk_cell BK115.out 0).trans rfl, (blk_cell BK115.out 1).trans rfl, (blk_cell BK115.out 2).trans rfl⟩ (fun hHeld => ?_)
              clear hK K
              refine norm_ (a' := ?_) ?_ ?_
              rotate_left
              · show Act.put _ (some 25) _ = _
                simp only [Act.put, List.setIfInBounds_toArray, List.set_cons_zero, List.set_cons_succ, i64_w, i32_w]
                rfl
              refine pure_ (i := 7) (N := some 26) (v := ?_) (a' := ?_) #[true, true, true, true, true, true, true, true, false, false, false, false, false, false, false, false, false, false, false, false, false, false, false, false, false, false, false, false, false, false, false, false, false, false, false, false, false] rfl rfl (any_of HT_.out (by kernel_rfl)) (fun _ _ _ h => h) (Or.inl ⟨by rfl, ?_⟩) ?_ ?_
              rotate_left
              · intro w'
                go_simp
                with_reducible rfl
              rotate_left
              · simp only [Act.put, List.setIfInBounds_toArray, List.set_cons_zero, List.set_cons_succ, i64_w, i32_w]
                rfl
              refine pure_ (i := 8) (N := some 27) (v := ?_) (a' := ?_) #[true, true, true, true, true, true, true, true, true, false, false, false, false, false, false, false, false, false, false, false, false, false, false, false, false, false, false, false, false, false, false, false, false, false, false, false, false] rfl rfl (any_of HT_.out (by kernel_rfl)) (fun _ _ _ h => h) (Or.inl ⟨by rfl, ?_⟩) ?_ ?_
              rotate_left
              · intro w'
                go_simp
                with_reducible rfl
              rotate_left
              · simp only [Act.put, List.setIfInBounds_toArray, List.set_cons_zero, List.set_cons_succ, i64_w, i32_w]
                rfl
              refine pure_ (i := 9) (N := some 28) (v := ?_) (a' := ?_) #[true, true, true, true, true, true, true, true, true, true, false, false, false, false, false, false, false, false, false, false, false, false, false, false, false, false, false, false, false, false, false, false, false, false, false, false, false] rfl rfl (any_of HT_.out (by kernel_rfl)) (fun _ _ _ h => h) (Or.inl ⟨by rfl, ?_⟩) ?_ ?_
              rotate_left
              · intro w'
                go_simp
                with_reducible rfl
              rotate_left
              · simp only [Act.put, List.setIfInBounds_toArray, List.set_cons_zero, List.set_cons_succ, i64_w, i32_w]
                rfl
              refine pure_ (i := 10) (N := some 29) (v := ?_) (a' := ?_) #[true, true, true, true, true, true, true, true, true, true, true, false, false, false, false, false, false, false, false, false, false, false, false, false, false, false, false, false, false, false, false, false, false, false, false, false, false] rfl rfl (any_of HT_.out (by kernel_rfl)) (fun _ _ _ h => h) (Or.inl ⟨by rfl, ?_⟩) ?_ ?_
              rotate_left
              · intro w'
                go_simp
                with_reducible rfl
              rotate_left
              · simp only [Act.put, List.setIfInBounds_toArray, List.set_cons_zero, List.set_cons_succ, i64_w, i32_w]
                rfl
              refine pure_ (i := 11) (N := some 30) (v := ?_) (a' := ?_) #[true, true, true, true, true, true, true, true, true, true, true, true, false, false, false, false, false, false, false, false, false, false, false, false, false, false, false, false, false, false, false, false, false, false, false, false, false] rfl rfl (any_of HT_.out (by kernel_rfl)) (fun _ _ _ h => h) (Or.inl ⟨by rfl, ?_⟩) ?_ ?_
              rotate_left
              · intro w'
                go_simp
                with_reducible rfl
              rotate_left
              · simp only [Act.put, List.setIfInBounds_toArray, List.set_cons_zero, List.set_cons_succ, i64_w, i32_w]
                rfl
              refine take_ (i := 12) (N := some 31) (v := ?_) (a' := ?_) #[true, true, true, true, true, true, true, true, true, true, true, true, true, false, false, false, false, false, false, false, false, false, false, false, false, false, false, false, false, false, false, false, false, false, false, false, false] rfl rfl (take_ofW HT_.out HW_.out (by kernel_rfl)) (fun _ _ _ h => h) (Or.inl ⟨by rfl, ?_⟩) hHeld ?_ ?_
              rotate_left
              · rintro w' ⟨s0, s1, s2, s3, s4, s5⟩
                go_simp
                with_reducible rfl
              rotate_left
              · simp only [Act.put, List.setIfInBounds_toArray, List.set_cons_zero, List.set_cons_succ, i64_w, i32_w]
                rfl
              refine take_ (i := 14) (N := some 33) (v := ?_) (a' := ?_) #[true, true, true, true, true, true, true, true, true, true, true, true, true, false, true, false, false, false, false, false, false, false, false, false, false, false, false, false, false, false, false, false, false, false, false, false, false] rfl rfl (take_ofW HT_.out HW_.out (by kernel_rfl)) (fun _ _ _ h => h) (Or.inl ⟨by rfl, ?_⟩) hHeld ?_ ?_
              rotate_left
              · rintro w' ⟨s0, s1, s2, s3, s4, s5⟩
                go_simp
                with_reducible rfl
              rotate_left
              · simp only [Act.put, List.setIfInBounds_toArray, List.set_cons_zero, List.set_cons_succ, i64_w, i32_w]
                rfl
              refine one_ (i := 13) (N := some 32) #[true, true, true, true, true, true, true, true, true, true, true, true, true, true, true, false, false, false, false, false, false, false, false, false, false, false, false, false, false, false, false, false, false, false, false, false, false] rfl rfl (one_of HT_.out (by kernel_rfl)) (by decide) (fun K hK => ?_)
              refine goes_ Tryz.func18 (by kernel_rfl) rfl #[.agg #[.string t102, .string t103, .slice Ao22 t104.length co22]] (by rfl) rfl rfl (by (try simp only [List.map_toArray, List.map_cons, List.map_nil]); first | done | rfl | (simp only [List.length_drop, List.length_take]; rfl)) ?_
              with_reducible refine (mime_Text.calls t102 t103 _ _ t104 t117 _ ?side1 ?side2 A9.out).mono ?_
              (case side1 => repeat (first | exact (Kd.R_reads' HO106.out).2.2 | (with_reducible refine Kd.C_alloc ?_ _) | (with_reducible refine Kd.C_drewN ?_ _) | (with_reducible refine Kd.C_drew ?_)))
              (case side2 => exact (Kd.R_reads' HO106.out).2.1)
              rintro e w31 ⟨rfl, hb⟩
              refine ⟨_, rfl, ?_⟩
              have n0_ := Aside0.mk (Kd.R_below (by (with_reducible repeat (first | apply Kd.R_alloc | apply Kd.R_drewN | apply Kd.R_drew)); exact HO106.out) hb)
              have n1_ := Aside0.mk (Kd.R_below (by (with_reducible repeat (first | apply Kd.R_alloc | apply Kd.R_drewN | apply Kd.R_drew)); exact HO113.out) hb)
              have n2_ := Aside0.mk (blk_below (g := gb108) (o := .cells #[.string t102, .string t103, .slice Ao22 t104.length co22] 24 (0, 0)) (by (with_reducible repeat (first | refine blk_drewN ?_ _ | refine blk_drew ?_ | refine blk_alloc ?_ _)); exact BK108.out) hb)
              have n3_ := Aside0.mk (blk_below (g := gb115) (o := .cells #[.string t109, .string t110, .slice Ao27 t111.length co27] 48 (0, 0)) (by (with_reducible repeat (first | refine blk_drewN ?_ _ | refine blk_drew ?_ | refine blk_alloc ?_ _)); exact BK115.out) hb)
              have n4_ := Aside0.mk (below_step (by repeat (first | (with_reducible first | exact HB.out | apply below_alloc | apply pw_below_drewN | apply below_drew1 | refine below_set ?_ GE108.out | refine below_set ?_ GE115.out) | exact HB.out)) hb)
              clear HO106
              clear HO113
              clear BK108
              clear BK115
              clear HB
              have HO106 := n0_
              have HO113 := n1_
              have BK108 := n2_
              have BK115 := n3_
              have HB := n4_
              clear n0_ n1_ n2_ n3_ n4_
              (try clear hb)
              (try clear hb2)
              (try clear hk)
              (try clear hi)
              refine hK.out _ _ ⟨(blk_cell BK108.out 0).trans rfl, (blk_cell BK108.out 1).trans rfl, (blk_cell BK108.out 2).trans rfl, (blk_cell BK115.out 0).trans rfl, (blk_cell BK115.out 1).trans rfl, (blk_cell BK115.out 2).trans rfl⟩ (fun hHeld => ?_)
              clear hK K
              refine norm_ (a' := ?_) ?_ ?_
              rotate_left
              · show Act.put _ (some 32) _ = _
                simp only [Act.put, List.setIfInBounds_toArray, List.set_cons_zero, List.set_cons_succ, i64_w, i32_w]
                rfl
              refine one_ (i := 15) (N := some 34) #[true, true, true, true, true, true, true, true, true, true, true, true, true, true, true, true, false, false, false, false, false, false, false, false, false, false, false, false, false, false, false, false, false, false, false, false, false] rfl rfl (one_of HT_.out (by kernel_rfl)) (by decide) (fun K hK => ?_)
              refine goes_ Tryz.func28 (by kernel_rfl) rfl #[.agg #[.string t109, .string t110, .slice Ao27 t111.length co27]] (by rfl) rfl rfl (by (try simp only [List.map_toArray, List.map_cons, List.map_nil]); first | done | rfl | (simp only [List.length_drop, List.length_take]; rfl)) ?_
              with_reducible refine (ostiaryref6_Text.calls k t109 t110 _ _ t111 t118 _ ?side1 ?side2 A10.out).mono ?_
              (case side1 => repeat (first | exact (Kd.R_reads' HO113.out).2.2 | (with_reducible refine Kd.C_alloc ?_ _) | (with_reducible refine Kd.C_drewN ?_ _) | (with_reducible refine Kd.C_drew ?_)))
              (case side2 => exact (Kd.R_reads' HO113.out).2.1)
              rintro e w32 ⟨rfl, hb⟩
              refine ⟨_, rfl, ?_⟩
              have n0_ := Aside0.mk (Kd.R_below (by (with_reducible repeat (first | apply Kd.R_alloc | apply Kd.R_drewN | apply Kd.R_drew)); exact HO106.out) hb)
              have n1_ := Aside0.mk (Kd.R_below (by (with_reducible repeat (first | apply Kd.R_alloc | apply Kd.R_drewN | apply Kd.R_drew)); exact HO113.out) hb)
              have n2_ := Aside0.mk (blk_below (g := gb108) (o := .cells #[.string t102, .string t103, .slice Ao22 t104.length co22] 24 (0, 0)) (by (with_reducible repeat (first | refine blk_drewN ?_ _ | refine blk_drew ?_ | refine blk_alloc ?_ _)); exact BK108.out) hb)
              have n3_ := Aside0.mk (blk_below (g := gb115) (o := .cells #[.string t109, .string t110, .slice Ao27 t111.length co27] 48 (0, 0)) (by (with_reducible repeat (first | refine blk_drewN ?_ _ | refine blk_drew ?_ | refine blk_alloc ?_ _)); exact BK115.out) hb)
              have n4_ := Aside0.mk (below_step (by repeat (first | (with_reducible first | exact HB.out | apply below_alloc | apply pw_below_drewN | apply below_drew1 | refine below_set ?_ GE108.out | refine below_set ?_ GE115.out) | exact HB.out)) hb)
              clear HO106
              clear HO113
              clear BK108
              clear BK115
              clear HB
              have HO106 := n0_
              have HO113 := n1_
              have BK108 := n2_
              have BK115 := n3_
              have HB := n4_
              clear n0_ n1_ n2_ n3_ n4_
              (try clear hb)
              (try clear hb2)
              (try clear hk)
              (try clear hi)
              refine hK.out _ _ ⟨(blk_cell BK108.out 0).trans rfl, (blk_cell BK108.out 1).trans rfl, (blk_cell BK108.out 2).trans rfl, (blk_cell BK115.out 0).trans rfl, (blk_cell BK115.out 1).trans rfl, (blk_cell BK115.out 2).trans rfl⟩ (fun hHeld => ?_)
              clear hK K
              refine norm_ (a' := ?_) ?_ ?_
              rotate_left
              · show Act.put _ (some 34) _ = _
                simp only [Act.put, List.setIfInBounds_toArray, List.set_cons_zero, List.set_cons_succ, i64_w, i32_w]
                rfl
              refine pure_ (i := 16) (N := some 35) (v := ?_) (a' := ?_) #[true, true, true, true, true, true, true, true, true, true, true, true, true, true, true, true, true, false, false, false, false, false, false, false, false, false, false, false, false, false, false, false, false, false, false, false, false] rfl rfl (any_of HT_.out (by kernel_rfl)) (fun _ _ _ h => h) (Or.inl ⟨by rfl, ?_⟩) ?_ ?_
              rotate_left
              · intro w'
                go_simp
                with_reducible rfl
              rotate_left
              · simp only [Act.put, List.setIfInBounds_toArray, List.set_cons_zero, List.set_cons_succ, i64_w, i32_w]
                rfl
              refine pure_ (i := 17) (N := some 36) (v := ?_) (a' := ?_) #[true, true, true, true, true, true, true, true, true, true, true, true, true, true, true, true, true, true, false, false, false, false, false, false, false, false, false, false, false, false, false, false, false, false, false, false, false] rfl rfl (any_of HT_.out (by kernel_rfl)) (fun _ _ _ h => h) (Or.inl ⟨by rfl, ?_⟩) ?_ ?_
              rotate_left
              · intro w'
                go_simp
                with_reducible rfl
              rotate_left
              · simp only [Act.put, List.setIfInBounds_toArray, List.set_cons_zero, List.set_cons_succ, i64_w, i32_w]
                rfl
              refine take_ (i := 18) (N := some 37) (v := ?_) (a' := ?_) #[true, true, true, true, true, true, true, true, true, true, true, true, true, true, true, true, true, true, true, false, false, false, false, false, false, false, false, false, false, false, false, false, false, false, false, false, false] rfl rfl (take_ofW HT_.out HW_.out (by kernel_rfl)) (fun _ _ _ h => h) (Or.inl ⟨by rfl, ?_⟩) hHeld ?_ ?_
              rotate_left
              · rintro w' ⟨s0, s1, s2, s3, s4, s5⟩
                go_simp
                with_reducible rfl
              rotate_left
              · simp only [Act.put, List.setIfInBounds_toArray, List.set_cons_zero, List.set_cons_succ, i64_w, i32_w]
                rfl
              refine take_ (i := 20) (N := some 39) (v := ?_) (a' := ?_) #[true, true, true, true, true, true, true, true, true, true, true, true, true, true, true, true, true, true, true, false, true, false, false, false, false, false, false, false, false, false, false, false, false, false, false, false, false] rfl rfl (take_ofW HT_.out HW_.out (by kernel_rfl)) (fun _ _ _ h => h) (Or.inl ⟨by rfl, ?_⟩) hHeld ?_ ?_
              rotate_left
              · rintro w' ⟨s0, s1, s2, s3, s4, s5⟩
                go_simp
                with_reducible rfl
              rotate_left
              · simp only [Act.put, List.setIfInBounds_toArray, List.set_cons_zero, List.set_cons_succ, i64_w, i32_w]
                rfl
              refine one_ (i := 19) (N := some 38) #[true, true, true, true, true, true, true, true, true, true, true, true, true, true, true, true, true, true, true, true, true, false, false, false, false, false, false, false, false, false, false, false, false, false, false, false, false] rfl rfl (one_of HT_.out (by kernel_rfl)) (by decide) (fun K hK => ?_)
              refine goes_ Tryz.func29 (by kernel_rfl) rfl #[.agg #[.string t102, .string t103, .slice Ao22 t104.length co22]] (by rfl) rfl rfl (by (try simp only [List.map_toArray, List.map_cons, List.map_nil]); first | done | rfl | (simp only [List.length_drop, List.length_take]; rfl)) ?_
              with_reducible refine (mime_Essence.calls t102 t103 _ _ t104 t119 _ ?side1 ?side2 A12.out).mono ?_
              (case side1 => repeat (first | exact (Kd.R_reads' HO106.out).2.2 | (with_reducible refine Kd.C_alloc ?_ _) | (with_reducible refine Kd.C_drewN ?_ _) | (with_reducible refine Kd.C_drew ?_)))
              (case side2 => exact (Kd.R_reads' HO106.out).2.1)
              rintro e w33 ⟨rfl, hb⟩
              refine ⟨_, rfl, ?_⟩
              have n0_ := Aside0.mk (Kd.R_below (by (with_reducible repeat (first | apply Kd.R_alloc | apply Kd.R_drewN | apply Kd.R_drew)); exact HO106.out) hb)
              have n1_ := Aside0.mk (Kd.R_below (by (with_reducible repeat (first | apply Kd.R_alloc | apply Kd.R_drewN | apply Kd.R_drew)); exact HO113.out) hb)
              have n2_ := Aside0.mk (blk_below (g := gb108) (o := .cells #[.string t102, .string t103, .slice Ao22 t104.length co22] 24 (0, 0)) (by (with_reducible repeat (first | refine blk_drewN ?_ _ | refine blk_drew ?_ | refine blk_alloc ?_ _)); exact BK108.out) hb)
              have n3_ := Aside0.mk (blk_below (g := gb115) (o := .cells #[.string t109, .string t110, .slice Ao27 t111.length co27] 48 (0, 0)) (by (with_reducible repeat (first | refine blk_drewN ?_ _ | refine blk_drew ?_ | refine blk_alloc ?_ _)); exact BK115.out) hb)
              have n4_ := Aside0.mk (below_step (by repeat (first | (with_reducible first | exact HB.out | apply below_alloc | apply pw_below_drewN | apply below_drew1 | refine below_set ?_ GE108.out | refine below_set ?_ GE115.out) | exact HB.out)) hb)
              clear HO106
              clear HO113
              clear BK108
              clear BK115
              clear HB
              have HO106 := n0_
              have HO113 := n1_
              have BK108 := n2_
              have BK115 := n3_
              have HB := n4_
              clear n0_ n1_ n2_ n3_ n4_
              (try clear hb)
              (try clear hb2)
              (try clear hk)
              (try clear hi)
              refine hK.out _ _ ⟨(blk_cell BK108.out 0).trans rfl, (blk_cell BK108.out 1).trans rfl, (blk_cell BK108.out 2).trans rfl, (blk_cell BK115.out 0).trans rfl, (blk_cell BK115.out 1).trans rfl, (blk_cell BK115.out 2).trans rfl⟩ (fun hHeld => ?_)
              clear hK K
              refine norm_ (a' := ?_) ?_ ?_
              rotate_left
              · show Act.put _ (some 38) _ = _
                simp only [Act.put, List.setIfInBounds_toArray, List.set_cons_zero, List.set_cons_succ, i64_w, i32_w]
                rfl
              refine one_ (i := 21) (N := some 40) #[true, true, true, true, true, true, true, true, true, true, true, true, true, true, true, true, true, true, true, true, true, true, false, false, false, false, false, false, false, false, false, false, false, false, false, false, false] rfl rfl (one_of HT_.out (by kernel_rfl)) (by decide) (fun K hK => ?_)
              refine goes_ Tryz.func30 (by kernel_rfl) rfl #[.agg #[.string t109, .string t110, .slice Ao27 t111.length co27]] (by rfl) rfl rfl (by (try simp only [List.map_toArray, List.map_cons, List.map_nil]); first | done | rfl | (simp only [List.length_drop, List.length_take]; rfl)) ?_
              with_reducible refine (ostiaryref6_Essence.calls t109 t110 _ _ t111 t120 _ ?side1 ?side2 A13.out).mono ?_
              (case side1 => repeat (first | exact (Kd.R_reads' HO113.out).2.2 | (with_reducible refine Kd.C_alloc ?_ _) | (with_reducible refine Kd.C_drewN ?_ _) | (with_reducible refine Kd.C_drew ?_)))
              (case side2 => exact (Kd.R_reads' HO113.out).2.1)
              rintro e w34 ⟨rfl, hb⟩
              refine ⟨_, rfl, ?_⟩
              have n0_ := Aside0.mk (Kd.R_below (by (with_reducible repeat (first | apply Kd.R_alloc | apply Kd.R_drewN | apply Kd.R_drew)); exact HO106.out) hb)
              have n1_ := Aside0.mk (Kd.R_below (by (with_reducible repeat (first | apply Kd.R_alloc | apply Kd.R_drewN | apply Kd.R_drew)); exact HO113.out) hb)
              have n2_ := Aside0.mk (blk_below (g := gb108) (o := .cells #[.string t102, .string t103, .slice Ao22 t104.length co22] 24 (0, 0)) (by (with_reducible repeat (first | refine blk_drewN ?_ _ | refine blk_drew ?_ | refine blk_alloc ?_ _)); exact BK108.out) hb)
              have n3_ := Aside0.mk (blk_below (g := gb115) (o := .cells #[.string t109, .string t110, .slice Ao27 t111.length co27] 48 (0, 0)) (by (with_reducible repeat (first | refine blk_drewN ?_ _ | refine blk_drew ?_ | refine blk_alloc ?_ _)); exact BK115.out) hb)
              have n4_ := Aside0.mk (below_step (by repeat (first | (with_reducible first | exact HB.out | apply below_alloc | apply pw_below_drewN | apply below_drew1 | refine below_set ?_ GE108.out | refine below_set ?_ GE115.out) | exact HB.out)) hb)
              clear HO106
              clear HO113
              clear BK108
              clear BK115
              clear HB
              have HO106 := n0_
              have HO113 := n1_
              have BK108 := n2_
              have BK115 := n3_
              have HB := n4_
              clear n0_ n1_ n2_ n3_ n4_
              (try clear hb)
              (try clear hb2)
              (try clear hk)
              (try clear hi)
              refine hK.out _ _ ⟨(blk_cell BK108.out 0).trans rfl, (blk_cell BK108.out 1).trans rfl, (blk_cell BK108.out 2).trans rfl, (blk_cell BK115.out 0).trans rfl, (blk_cell BK115.out 1).trans rfl, (blk_cell BK115.out 2).trans rfl⟩ (fun hHeld => ?_)
              clear hK K
              refine norm_ (a' := ?_) ?_ ?_
              rotate_left
              · show Act.put _ (some 40) _ = _
                simp only [Act.put, List.setIfInBounds_toArray, List.set_cons_zero, List.set_cons_succ, i64_w, i32_w]
                rfl
              refine pure_ (i := 22) (N := some 41) (v := ?_) (a' := ?_) #[true, true, true, true, true, true, true, true, true, true, true, true, true, true, true, true, true, true, true, true, true, true, true, false, false, false, false, false, false, false, false, false, false, false, false, false, false] rfl rfl (any_of HT_.out (by kernel_rfl)) (fun _ _ _ h => h) (Or.inl ⟨by rfl, ?_⟩) ?_ ?_
              rotate_left
              · intro w'
                go_simp
                with_reducible rfl
              rotate_left
              · simp only [Act.put, List.setIfInBounds_toArray, List.set_cons_zero, List.set_cons_succ, i64_w, i32_w]
                rfl
              refine pure_ (i := 23) (N := some 42) (v := ?_) (a' := ?_) #[true, true, true, true, true, true, true, true, true, true, true, true, true, true, true, true, true, true, true, true, true, true, true, true, false, false, false, false, false, false, false, false, false, false, false, false, false] rfl rfl (any_of HT_.out (by kernel_rfl)) (fun _ _ _ h => h) (Or.inl ⟨by rfl, ?_⟩) ?_ ?_
              rotate_left
              · intro w'
                go_simp
                with_reducible rfl
              rotate_left
              · simp only [Act.put, List.setIfInBounds_toArray, List.set_cons_zero, List.set_cons_succ, i64_w, i32_w]
                rfl
              refine pure_ (i := 24) (N := some 43) (v := ?_) (a' := ?_) #[true, true, true, true, true, true, true, true, true, true, true, true, true, true, true, true, true, true, true, true, true, true, true, true, true, false, false, false, false, false, false, false, false, false, false, false, false] rfl rfl (any_of HT_.out (by kernel_rfl)) (fun _ _ _ h => h) (Or.inl ⟨by rfl, ?_⟩) ?_ ?_
              rotate_left
              · intro w'
                go_simp
                with_reducible rfl
              rotate_left
              · simp only [Act.put, List.setIfInBounds_toArray, List.set_cons_zero, List.set_cons_succ, i64_w, i32_w]
                rfl
              refine take_ (i := 25) (N := some 44) (v := ?_) (a' := ?_) #[true, true, true, true, true, true, true, true, true, true, true, true, true, true, true, true, true, true, true, true, true, true, true, true, true, true, false, false, false, false, false, false, false, false, false, false, false] rfl rfl (take_ofW HT_.out HW_.out (by kernel_rfl)) (fun _ _ _ h => h) (Or.inl ⟨by rfl, ?_⟩) hHeld ?_ ?_
              rotate_left
              · rintro w' ⟨s0, s1, s2, s3, s4, s5⟩
                go_simp
                with_reducible rfl
              rotate_left
              · simp only [Act.put, List.setIfInBounds_toArray, List.set_cons_zero, List.set_cons_succ, i64_w, i32_w]
                rfl
              refine take_ (i := 27) (N := some 46) (v := ?_) (a' := ?_) #[true, true, true, true, true, true, true, true, true, true, true, true, true, true, true, true, true, true, true, true, true, true, true, true, true, true, false, true, false, false, false, false, false, false, false, false, false] rfl rfl (take_ofW HT_.out HW_.out (by kernel_rfl)) (fun _ _ _ h => h) (Or.inl ⟨by rfl, ?_⟩) hHeld ?_ ?_
              rotate_left
              · rintro w' ⟨s0, s1, s2, s3, s4, s5⟩
                go_simp
                with_reducible rfl
              rotate_left
              · simp only [Act.put, List.setIfInBounds_toArray, List.set_cons_zero, List.set_cons_succ, i64_w, i32_w]
                rfl
              refine one_ (i := 26) (N := some 45) #[true, true, true, true, true, true, true, true, true, true, true, true, true, true, true, true, true, true, true, true, true, true, true, true, true, true, true, true, false, false, false, false, false, false, false, false, false] rfl rfl (one_of HT_.out (by kernel_rfl)) (by decide) (fun K hK => ?_)
              refine goes_ Tryz.func31 (by kernel_rfl) rfl #[.agg #[.string t102, .string t103, .slice Ao22 t104.length co22]] (by rfl) rfl rfl (by (try simp only [List.map_toArray, List.map_cons, List.map_nil]); first | done | rfl | (simp only [List.length_drop, List.length_take]; rfl)) ?_
              with_reducible refine (mime_Group.calls k t102 t103 _ _ t104 t121 _ ?side1 ?side2 A15.out).mono ?_
              (case side1 => repeat (first | exact (Kd.R_reads' HO106.out).2.2 | (with_reducible refine Kd.C_alloc ?_ _) | (with_reducible refine Kd.C_drewN ?_ _) | (with_reducible refine Kd.C_drew ?_)))
              (case side2 => exact (Kd.R_reads' HO106.out).2.1)
              rintro e w35 ⟨rfl, hb⟩
              refine ⟨_, rfl, ?_⟩
              have n0_ := Aside0.mk (Kd.R_below (by (with_reducible repeat (first | apply Kd.R_alloc | apply Kd.R_drewN | apply Kd.R_drew)); exact HO106.out) hb)
              have n1_ := Aside0.mk (Kd.R_below (by (with_reducible repeat (first | apply Kd.R_alloc | apply Kd.R_drewN | apply Kd.R_drew)); exact HO113.out) hb)
              have n2_ := Aside0.mk (blk_below (g := gb108) (o := .cells #[.string t102, .string t103, .slice Ao22 t104.length co22] 24 (0, 0)) (by (with_reducible repeat (first | refine blk_drewN ?_ _ | refine blk_drew ?_ | refine blk_alloc ?_ _)); exact BK108.out) hb)
              have n3_ := Aside0.mk (blk_below (g := gb115) (o := .cells #[.string t109, .string t110, .slice Ao27 t111.length co27] 48 (0, 0)) (by (with_reducible repeat (first | refine blk_drewN ?_ _ | refine blk_drew ?_ | refine blk_alloc ?_ _)); exact BK115.out) hb)
              have n4_ := Aside0.mk (below_step (by repeat (first | (with_reducible first | exact HB.out | apply below_alloc | apply pw_below_drewN | apply below_drew1 | refine below_set ?_ GE108.out | refine below_set ?_ GE115.out) | exact HB.out)) hb)
              clear HO106
              clear HO113
              clear BK108
              clear BK115
              clear HB
              have HO106 := n0_
              have HO113 := n1_
              have BK108 := n2_
              have BK115 := n3_
              have HB := n4_
              clear n0_ n1_ n2_ n3_ n4_
              (try clear hb)
              (try clear hb2)
              (try clear hk)
              (try clear hi)
              refine hK.out _ _ ⟨(blk_cell BK108.out 0).trans rfl, (blk_cell BK108.out 1).trans rfl, (blk_cell BK108.out 2).trans rfl, (blk_cell BK115.out 0).trans rfl, (blk_cell BK115.out 1).trans rfl, (blk_cell BK115.out 2).trans rfl⟩ (fun hHeld => ?_)
              clear hK K
              refine norm_ (a' := ?_) ?_ ?_
              rotate_left
              · show Act.put _ (some 45) _ = _
                simp only [Act.put, List.setIfInBounds_toArray, List.set_cons_zero, List.set_cons_succ, i64_w, i32_w]
                rfl
              refine one_ (i := 28) (N := some 47) #[true, true, true, true, true, true, true, true, true, true, true, true, true, true, true, true, true, true, true, true, true, true, true, true, true, true, true, true, true, false, false, false, false, false, false, false, false] rfl rfl (one_of HT_.out (by kernel_rfl)) (by decide) (fun K hK => ?_)
              refine goes_ Tryz.func32 (by kernel_rfl) rfl #[.agg #[.string t109, .string t110, .slice Ao27 t111.length co27]] (by rfl) rfl rfl (by (try simp only [List.map_toArray, List.map_cons, List.map_nil]); first | done | rfl | (simp only [List.length_drop, List.length_take]; rfl)) ?_
              with_reducible refine (ostiaryref6_Group.calls t109 t110 _ _ t111 t122 _ ?side1 ?side2 A16.out).mono ?_
              (case side1 => repeat (first | exact (Kd.R_reads' HO113.out).2.2 | (with_reducible refine Kd.C_alloc ?_ _) | (with_reducible refine Kd.C_drewN ?_ _) | (with_reducible refine Kd.C_drew ?_)))
              (case side2 => exact (Kd.R_reads' HO113.out).2.1)
              rintro e w36 ⟨rfl, hb⟩
              refine ⟨_, rfl, ?_⟩
              have n0_ := Aside0.mk (Kd.R_below (by (with_reducible repeat (first | apply Kd.R_alloc | apply Kd.R_drewN | apply Kd.R_drew)); exact HO106.out) hb)
              have n1_ := Aside0.mk (Kd.R_below (by (with_reducible repeat (first | apply Kd.R_alloc | apply Kd.R_drewN | apply Kd.R_drew)); exact HO113.out) hb)
              have n2_ := Aside0.mk (blk_below (g := gb108) (o := .cells #[.string t102, .string t103, .slice Ao22 t104.length co22] 24 (0, 0)) (by (with_reducible repeat (first | refine blk_drewN ?_ _ | refine blk_drew ?_ | refine blk_alloc ?_ _)); exact BK108.out) hb)
              have n3_ := Aside0.mk (blk_below (g := gb115) (o := .cells #[.string t109, .string t110, .slice Ao27 t111.length co27] 48 (0, 0)) (by (with_reducible repeat (first | refine blk_drewN ?_ _ | refine blk_drew ?_ | refine blk_alloc ?_ _)); exact BK115.out) hb)
              have n4_ := Aside0.mk (below_step (by repeat (first | (with_reducible first | exact HB.out | apply below_alloc | apply pw_below_drewN | apply below_drew1 | refine below_set ?_ GE108.out | refine below_set ?_ GE115.out) | exact HB.out)) hb)
              clear HO106
              clear HO113
              clear BK108
              clear BK115
              clear HB
              have HO106 := n0_
              have HO113 := n1_
              have BK108 := n2_
              have BK115 := n3_
              have HB := n4_
              clear n0_ n1_ n2_ n3_ n4_
              (try clear hb)
              (try clear hb2)
              (try clear hk)
              (try clear hi)
              refine hK.out _ _ ⟨(blk_cell BK108.out 0).trans rfl, (blk_cell BK108.out 1).trans rfl, (blk_cell BK108.out 2).trans rfl, (blk_cell BK115.out 0).trans rfl, (blk_cell BK115.out 1).trans rfl, (blk_cell BK115.out 2).trans rfl⟩ (fun hHeld => ?_)
              clear hK K
              refine norm_ (a' := ?_) ?_ ?_
              rotate_left
              · show Act.put _ (some 47) _ = _
                simp only [Act.put, List.setIfInBounds_toArray, List.set_cons_zero, List.set_cons_succ, i64_w, i32_w]
                rfl
              refine pure_ (i := 29) (N := some 48) (v := ?_) (a' := ?_) #[true, true, true, true, true, true, true, true, true, true, true, true, true, true, true, true, true, true, true, true, true, true, true, true, true, true, true, true, true, true, false, false, false, false, false, false, false] rfl rfl (any_of HT_.out (by kernel_rfl)) (fun _ _ _ h => h) (Or.inl ⟨by rfl, ?_⟩) ?_ ?_
              rotate_left
              · intro w'
                go_simp
                with_reducible rfl
              rotate_left
              · simp only [Act.put, List.setIfInBounds_toArray, List.set_cons_zero, List.set_cons_succ, i64_w, i32_w]
                rfl
              refine pure_ (i := 30) (N := some 49) (v := ?_) (a' := ?_) #[true, true, true, true, true, true, true, true, true, true, true, true, true, true, true, true, true, true, true, true, true, true, true, true, true, true, true, true, true, true, true, false, false, false, false, false, false] rfl rfl (any_of HT_.out (by kernel_rfl)) (fun _ _ _ h => h) (Or.inl ⟨by rfl, ?_⟩) ?_ ?_
              rotate_left
              · intro w'
                go_simp
                with_reducible rfl
              rotate_left
              · simp only [Act.put, List.setIfInBounds_toArray, List.set_cons_zero, List.set_cons_succ, i64_w, i32_w]
                rfl
              refine pure_ (i := 31) (N := some 50) (v := ?_) (a' := ?_) #[true, true, true, true, true, true, true, true, true, true, true, true, true, true, true, true, true, true, true, true, true, true, true, true, true, true, true, true, true, true, true, true, false, false, false, false, false] rfl rfl (any_of HT_.out (by kernel_rfl)) (fun _ _ _ h => h) (Or.inl ⟨by rfl, ?_⟩) ?_ ?_
              rotate_left
              · intro w'
                go_simp
                with_reducible rfl
              rotate_left
              · simp only [Act.put, List.setIfInBounds_toArray, List.set_cons_zero, List.set_cons_succ, i64_w, i32_w]
                rfl
              refine pure_ (i := 32) (N := some 51) (v := ?_) (a' := ?_) #[true, true, true, true, true, true, true, true, true, true, true, true, true, true, true, true, true, true, true, true, true, true, true, true, true, true, true, true, true, true, true, true, true, false, false, false, false] rfl rfl (any_of HT_.out (by kernel_rfl)) (fun _ _ _ h => h) (Or.inl ⟨by rfl, ?_⟩) ?_ ?_
              rotate_left
              · intro w'
                go_simp
                with_reducible rfl
              rotate_left
              · simp only [Act.put, List.setIfInBounds_toArray, List.set_cons_zero, List.set_cons_succ, i64_w, i32_w]
                rfl
              refine pure_ (i := 33) (N := some 52) (v := ?_) (a' := ?_) #[true, true, true, true, true, true, true, true, true, true, true, true, true, true, true, true, true, true, true, true, true, true, true, true, true, true, true, true, true, true, true, true, true, true, false, false, false] rfl rfl (any_of HT_.out (by kernel_rfl)) (fun _ _ _ h => h) (Or.inl ⟨by rfl, ?_⟩) ?_ ?_
              rotate_left
              · intro w'
                go_simp
                with_reducible rfl
              rotate_left
              · simp only [Act.put, List.setIfInBounds_toArray, List.set_cons_zero, List.set_cons_succ, i64_w, i32_w]
                rfl
              refine one_ (i := 34) (N := some 53) #[true, true, true, true, true, true, true, true, true, true, true, true, true, true, true, true, true, true, true, true, true, true, true, true, true, true, true, true, true, true, true, true, true, true, true, false, false] rfl rfl (one_of HT_.out (by kernel_rfl)) (by decide) (fun K hK => ?_)
              refine goes_ Tryz.func17 (by kernel_rfl) rfl #[] (by rfl) rfl rfl (by (try simp only [List.map_toArray, List.map_cons, List.map_nil]); first | done | rfl | (simp only [List.length_drop, List.length_take]; rfl)) ?_
              with_reducible refine (ostiarylaw6_known.calls k  t123 _ A18.out).mono ?_
              rintro e w37 ⟨rfl, hb⟩
              refine ⟨_, rfl, ?_⟩
              have n0_ := Aside0.mk (Kd.R_below (by (with_reducible repeat (first | apply Kd.R_alloc | apply Kd.R_drewN | apply Kd.R_drew)); exact HO106.out) hb)
              have n1_ := Aside0.mk (Kd.R_below (by (with_reducible repeat (first | apply Kd.R_alloc | apply Kd.R_drewN | apply Kd.R_drew)); exact HO113.out) hb)
              have n2_ := Aside0.mk (blk_below (g := gb108) (o := .cells #[.string t102, .string t103, .slice Ao22 t104.length co22] 24 (0, 0)) (by (with_reducible repeat (first | refine blk_drewN ?_ _ | refine blk_drew ?_ | refine blk_alloc ?_ _)); exact BK108.out) hb)
              have n3_ := Aside0.mk (blk_below (g := gb115) (o := .cells #[.string t109, .string t110, .slice Ao27 t111.length co27] 48 (0, 0)) (by (with_reducible repeat (first | refine blk_drewN ?_ _ | refine blk_drew ?_ | refine blk_alloc ?_ _)); exact BK115.out) hb)
              have n4_ := Aside0.mk (below_step (by repeat (first | (with_reducible first | exact HB.out | apply below_alloc | apply pw_below_drewN | apply below_drew1 | refine below_set ?_ GE108.out | refine below_set ?_ GE115.out) | exact HB.out)) hb)
              clear HO106
              clear HO113
              clear BK108
              clear BK115
              clear HB
              have HO106 := n0_
              have HO113 := n1_
              have BK108 := n2_
              have BK115 := n3_
              have HB := n4_
              clear n0_ n1_ n2_ n3_ n4_
              (try clear hb)
              (try clear hb2)
              (try clear hk)
              (try clear hi)
              refine hK.out _ _ ⟨(blk_cell BK108.out 0).trans rfl, (blk_cell BK108.out 1).trans rfl, (blk_cell BK108.out 2).trans rfl, (blk_cell BK115.out 0).trans rfl, (blk_cell BK115.out 1).trans rfl, (blk_cell BK115.out 2).trans rfl⟩ (fun hHeld => ?_)
              clear hK K
              refine norm_ (a' := ?_) ?_ ?_
              rotate_left
              · show Act.put _ (some 53) _ = _
                simp only [Act.put, List.setIfInBounds_toArray, List.set_cons_zero, List.set_cons_succ, i64_w, i32_w]
                rfl
              refine pure_ (i := 35) (N := some 54) (v := ?_) (a' := ?_) #[true, true, true, true, true, true, true, true, true, true, true, true, true, true, true, true, true, true, true, true, true, true, true, true, true, true, true, true, true, true, true, true, true, true, true, true, false] rfl rfl (any_of HT_.out (by kernel_rfl)) (fun _ _ _ h => h) (Or.inl ⟨by rfl, ?_⟩) ?_ ?_
              rotate_left
              · intro w'
                go_simp
                with_reducible rfl
              rotate_left
              · simp only [Act.put, List.setIfInBounds_toArray, List.set_cons_zero, List.set_cons_succ, i64_w, i32_w]
                rfl
              refine pure_ (i := 36) (N := some 2) (v := ?_) (a' := ?_) #[true, true, true, true, true, true, true, true, true, true, true, true, true, true, true, true, true, true, true, true, true, true, true, true, true, true, true, true, true, true, true, true, true, true, true, true, true] rfl rfl (any_of HT_.out (by kernel_rfl)) (fun _ _ _ h => h) (Or.inl ⟨by rfl, ?_⟩) ?_ ?_
              rotate_left
              · intro w'
                go_simp
                with_reducible rfl
              rotate_left
              · simp only [Act.put, List.setIfInBounds_toArray, List.set_cons_zero, List.set_cons_succ, i64_w, i32_w]
                rfl
              refine done_ (done_of HT_.out (by kernel_rfl)) ?_
              try go_wp2
              go_ret
              rw [HTT.out]
              exact ⟨by first | rfl | (simp [errW_none, errW_some] <;> rfl) | (simp [*, errW_none, errW_some] <;> rfl), by repeat (first | (with_reducible first | exact HB.out | apply below_alloc | apply pw_below_drewN | apply below_drew1 | refine below_set ?_ GE108.out | refine below_set ?_ GE115.out) | exact HB.out)⟩
            · rw [if_neg c17] at H
              have c17b0 : (t121 == t122) = false := beq_eq_false_iff_ne.mpr c17
              have c17b1 : (t121 != t122) = true := bne_iff_ne.mpr c17
              exact absurd H (by simp)
          · rw [if_neg c14] at H
            have c14b0 : (t119.toList == t120.toList) = false := beq_eq_false_iff_ne.mpr c14
            have c14b1 : (t119.toList != t120.toList) = true := bne_iff_ne.mpr c14
            exact absurd H (by simp)
        · rw [if_neg c11] at H
          have c11b0 : (t117.toList == t118.toList) = false := beq_eq_false_iff_ne.mpr c11
          have c11b1 : (t117.toList != t118.toList) = true := bne_iff_ne.mpr c11
          exact absurd H (by simp)
      · replace c8 := Bool.eq_false_iff.mpr c8
        subst c8
        have H1 : ((ostiarylaw6_known.f k).bind fun t124 => (some t124)) = some true := by rw [if_neg (show ¬ (false = true) by decide)] at H; exact H
        clear H
        have H := H1
        clear H1
        replace H := Option.bind_eq_some_iff.mp H
        obtain ⟨t124, A860, H⟩ := H
        replace H : (some t124) = some true := H
        have A86 := Aside0.mk A860
        clear A860
        have HTT := Aside0.mk (Option.some.inj H)
        clear H
        go_enter Tryz.func7, Tryz.ntmps7
        try go_wp2_with (first | ((with_reducible refine gate_callee (f := 16) rfl ?_); refine goesL_ (some 8) rfl rfl Tryz.func16 (by kernel_rfl) rfl #[.string a0, .int .i64 500] rfl (by (try simp only [List.map_toArray, List.map_cons, List.map_nil]); first | done | rfl | (simp only [List.length_drop, List.length_take]; rfl)) ?_; (with_reducible refine (ostiarykeep_Few.calls a0 500 t101 _ A2.out).mono ?_); rintro e w' ⟨rfl, ⟨nd, rfl⟩⟩; refine ⟨_, rfl, ?_⟩) | ((with_reducible refine gate_callee (f := 15) rfl ?_); refine goesL_ (some 11) rfl rfl Tryz.func15 (by kernel_rfl) rfl #[.string t101] rfl (by (try simp only [List.map_toArray, List.map_cons, List.map_nil]); first | done | rfl | (simp only [List.length_drop, List.length_take]; rfl)) ?_; (with_reducible refine (mime_Parse.calls t101 t102 t103 t104 false _ A3.out).mono ?_); rintro e w87 ⟨v105, rfl, ho0, hb⟩; refine ⟨_, rfl, ?_⟩; have n0_ := Aside0.mk (Kd.R_lower ho0 (below_size (by repeat (first | (with_reducible first | exact HB.out | apply below_alloc | apply pw_below_drewN | apply below_drew1) | exact HB.out)))); have n1_ := Aside0.mk (below_step (by repeat (first | (with_reducible first | exact HB.out | apply below_alloc | apply pw_below_drewN | apply below_drew1) | exact HB.out)) hb); clear HB; have HO106 := n0_; have HB := n1_; clear n0_ n1_; (try clear hb); (try clear hb2); (try clear hk); (try clear hi); (try clear ho0)) | ((with_reducible refine gate_dst (N := 3) rfl ?_); refine box_event ?hg (N := 3) ?hd (cs := #[.string (⟨#[]⟩ : ByteArray), .string (⟨#[]⟩ : ByteArray), .slice none 0 0]) (t := 24) ?hr ?_; (case hd => rfl); (case hg => rfl); (case hr => first | (go_simp; done) | (go_simp; rfl)); intro gb108 hg w88 hbox hb; have n0_ := Aside0.mk (Kd.R_below (by (with_reducible repeat (first | apply Kd.R_alloc | apply Kd.R_drewN | apply Kd.R_drew)); exact HO106.out) hb); have n1_ := Aside0.mk (below_step (by repeat (first | (with_reducible first | exact HB.out | apply below_alloc | apply pw_below_drewN | apply below_drew1) | exact HB.out)) hb); have n2_ := Aside0.mk (hbox); have n3_ := Aside0.mk ((by rw [hg]; exact (below_size (by repeat (first | (with_reducible first | exact HB.out | apply below_alloc | apply pw_below_drewN | apply below_drew1) | exact HB.out))) : w.heap.size ≤ gb108)); have n4_ := Aside0.mk ((by rw [hg]; exact (below_size (by repeat (first | (with_reducible first | exact HB.out | apply below_alloc | apply pw_below_drewN | apply below_drew1) | exact HB.out))) : w.heap.size ≤ gb108)); clear HO106; clear HB; have HO106 := n0_; have HB := n1_; have BK108 := n2_; have GW108 := n3_; have GE108 := n4_; clear n0_ n1_ n2_ n3_ n4_; clear hb hbox hg; have hcz89_0 : w88.cell? ⟨gb108, 0, none⟩ = some (.string (⟨#[]⟩ : ByteArray)) := (blk_cell BK108.out 0).trans rfl; have hcz89_1 : w88.cell? ⟨gb108, 1, none⟩ = some (.string (⟨#[]⟩ : ByteArray)) := (blk_cell BK108.out 1).trans rfl; have hcz89_2 : w88.cell? ⟨gb108, 2, none⟩ = some (.slice none 0 0) := (blk_cell BK108.out 2).trans rfl; have hfz89_0 := blk_frozen BK108.out 0; have hfz89_1 := blk_frozen BK108.out 1; have hfz89_2 := blk_frozen BK108.out 2; obtain ⟨Ao90, co90, eo90⟩ := Kd.R_slice HO106.out; subst eo90) | ((with_reducible refine gate_callee (f := 26) rfl ?_); refine goesL_ (some 16) rfl rfl Tryz.func26 (by kernel_rfl) rfl #[.string t101] rfl (by (try simp only [List.map_toArray, List.map_cons, List.map_nil]); first | done | rfl | (simp only [List.length_drop, List.length_take]; rfl)) ?_; (with_reducible refine (ostiaryref6_Parse.calls k t101 t109 t110 t111 t114 _ A4.out).mono ?_); rintro e w91 ⟨v112, rfl, ho0, hb⟩; refine ⟨_, rfl, ?_⟩; have n0_ := Aside0.mk (Kd.R_below (by (with_reducible repeat (first | apply Kd.R_alloc | apply Kd.R_drewN | apply Kd.R_drew)); exact (Kd.R_mono (Kd.R_far (p := ⟨gb108, 2, none⟩) (Kd.R_far (p := ⟨gb108, 1, none⟩) (Kd.R_far (p := ⟨gb108, 0, none⟩) (Kd.R_types HO106.out BK108.out (by decide)) (fun _ hk => hk.2) (.string t102)) (fun _ hk => hk.2) (.string t103)) (fun _ hk => hk.2) (.slice Ao90 t104.length co90)) (fun _ h_ => h_.1))) hb); have n1_ := Aside0.mk (Kd.R_lower ho0 (below_size (by repeat (first | (with_reducible first | exact HB.out | apply below_alloc | apply pw_below_drewN | apply below_drew1 | refine below_set ?_ GE108.out) | exact HB.out)))); have n2_ := Aside0.mk (blk_below (g := gb108) (o := .cells #[.string t102, .string t103, .slice Ao90 t104.length co90] 24 (0, 0)) (by (with_reducible repeat (first | refine blk_drewN ?_ _ | refine blk_drew ?_ | refine blk_alloc ?_ _)); refine blk_put (cs := #[.string t102, .string t103, .slice none 0 0]) ?_ 2 _ rfl; (with_reducible repeat (first | refine blk_drewN ?_ _ | refine blk_drew ?_ | refine blk_alloc ?_ _)); refine blk_put (cs := #[.string t102, .string (⟨#[]⟩ : ByteArray), .slice none 0 0]) ?_ 1 _ rfl; (with_reducible repeat (first | refine blk_drewN ?_ _ | refine blk_drew ?_ | refine blk_alloc ?_ _)); refine blk_put (cs := #[.string (⟨#[]⟩ : ByteArray), .string (⟨#[]⟩ : ByteArray), .slice none 0 0]) ?_ 0 _ rfl; (with_reducible repeat (first | refine blk_drewN ?_ _ | refine blk_drew ?_ | refine blk_alloc ?_ _)); exact BK108.out) hb); have n3_ := Aside0.mk (below_step (by repeat (first | (with_reducible first | exact HB.out | apply below_alloc | apply pw_below_drewN | apply below_drew1 | refine below_set ?_ GE108.out) | exact HB.out)) hb); clear HO106; clear BK108; clear HB; have HO106 := n0_; have HO113 := n1_; have BK108 := n2_; have HB := n3_; clear n0_ n1_ n2_ n3_; (try clear hb); (try clear hb2); (try clear hk); (try clear hi); (try clear ho0)) | ((with_reducible refine gate_dst (N := 5) rfl ?_); refine box_event ?hg (N := 5) ?hd (cs := #[.string (⟨#[]⟩ : ByteArray), .string (⟨#[]⟩ : ByteArray), .slice none 0 0]) (t := 48) ?hr ?_; (case hd => rfl); (case hg => rfl); (case hr => first | (go_simp; done) | (go_simp; rfl)); intro gb115 hg w92 hbox hb; have n0_ := Aside0.mk (Kd.R_below (by (with_reducible repeat (first | apply Kd.R_alloc | apply Kd.R_drewN | apply Kd.R_drew)); exact HO106.out) hb); have n1_ := Aside0.mk (Kd.R_below (by (with_reducible repeat (first | apply Kd.R_alloc | apply Kd.R_drewN | apply Kd.R_drew)); exact HO113.out) hb); have n2_ := Aside0.mk (blk_below (g := gb108) (o := .cells #[.string t102, .string t103, .slice Ao90 t104.length co90] 24 (0, 0)) (by (with_reducible repeat (first | refine blk_drewN ?_ _ | refine blk_drew ?_ | refine blk_alloc ?_ _)); exact BK108.out) hb); have n3_ := Aside0.mk (below_step (by repeat (first | (with_reducible first | exact HB.out | apply below_alloc | apply pw_below_drewN | apply below_drew1 | refine below_set ?_ GE108.out) | exact HB.out)) hb); have n4_ := Aside0.mk (hbox); have n5_ := Aside0.mk ((by rw [hg]; exact (below_size (by repeat (first | (with_reducible first | exact HB.out | apply below_alloc | apply pw_below_drewN | apply below_drew1 | refine below_set ?_ GE108.out) | exact HB.out))) : w.heap.size ≤ gb115)); have n6_ := Aside0.mk ((by rw [hg]; exact (below_size (by repeat (first | (with_reducible first | exact HB.out | apply below_alloc | apply pw_below_drewN | apply below_drew1 | refine below_set ?_ GE108.out) | exact HB.out))) : w.heap.size ≤ gb115)); have n7_ := Aside0.mk ((by rw [hg]; exact Nat.ne_of_lt (blk_lt (g := gb108) (o := .cells #[.string t102, .string t103, .slice Ao90 t104.length co90] 24 (0, 0)) (by (with_reducible repeat (first | refine blk_drewN ?_ _ | refine blk_drew ?_ | refine blk_alloc ?_ _)); exact BK108.out)) : gb108 ≠ gb115)); have n8_ := Aside0.mk ((by rw [hg]; exact Nat.ne_of_gt (blk_lt (g := gb108) (o := .cells #[.string t102, .string t103, .slice Ao90 t104.length co90] 24 (0, 0)) (by (with_reducible repeat (first | refine blk_drewN ?_ _ | refine blk_drew ?_ | refine blk_alloc ?_ _)); exact BK108.out)) : gb115 ≠ gb108)); clear HO106; clear HO113; clear BK108; clear HB; have HO106 := n0_; have HO113 := n1_; have BK108 := n2_; have HB := n3_; have BK115 := n4_; have GW115 := n5_; have GE115 := n6_; have NB108_115 := n7_; have NB115_108 := n8_; clear n0_ n1_ n2_ n3_ n4_ n5_ n6_ n7_ n8_; clear hb hbox hg; have hnb93 := NB115_108.out; have hnc93 := NB108_115.out; have hcz94_0 : w92.cell? ⟨gb115, 0, none⟩ = some (.string (⟨#[]⟩ : ByteArray)) := (blk_cell BK115.out 0).trans rfl; have hcz94_1 : w92.cell? ⟨gb115, 1, none⟩ = some (.string (⟨#[]⟩ : ByteArray)) := (blk_cell BK115.out 1).trans rfl; have hcz94_2 : w92.cell? ⟨gb115, 2, none⟩ = some (.slice none 0 0) := (blk_cell BK115.out 2).trans rfl; have hfz94_0 := blk_frozen BK115.out 0; have hfz94_1 := blk_frozen BK115.out 1; have hfz94_2 := blk_frozen BK115.out 2; obtain ⟨Ao95, co95, eo95⟩ := Kd.R_slice HO113.out; subst eo95))
        have n0_ : Aside0 (Kd.R k32 32 (((w92.setCell ⟨gb115, 0, none⟩ (.string t109)).setCell ⟨gb115, 1, none⟩ (.string t110)).setCell ⟨gb115, 2, none⟩ (.slice Ao95 t111.length co95)) w.heap.size (fun _ => True) (.slice Ao90 t104.length co90) t104) := ⟨by (with_reducible repeat (first | apply Kd.R_alloc | apply Kd.R_drewN | apply Kd.R_drew)); exact Kd.R_mono (Kd.R_far (p := ⟨gb115, 2, none⟩) (Kd.R_far (p := ⟨gb115, 1, none⟩) (Kd.R_far (p := ⟨gb115, 0, none⟩) (Kd.R_types HO106.out BK115.out (by decide)) (fun _ hk => hk.2) (.string t109)) (fun _ hk => hk.2) (.string t110)) (fun _ hk => hk.2) (.slice Ao95 t111.length co95)) (fun _ hk => trivial)⟩
        have n1_ : Aside0 (Kd.R k89 89 (((w92.setCell ⟨gb115, 0, none⟩ (.string t109)).setCell ⟨gb115, 1, none⟩ (.string t110)).setCell ⟨gb115, 2, none⟩ (.slice Ao95 t111.length co95)) w.heap.size (fun _ => True) (.slice Ao95 t111.length co95) t111) := ⟨by (with_reducible repeat (first | apply Kd.R_alloc | apply Kd.R_drewN | apply Kd.R_drew)); exact Kd.R_mono (Kd.R_far (p := ⟨gb115, 2, none⟩) (Kd.R_far (p := ⟨gb115, 1, none⟩) (Kd.R_far (p := ⟨gb115, 0, none⟩) (Kd.R_types HO113.out BK115.out (by decide)) (fun _ hk => hk.2) (.string t109)) (fun _ hk => hk.2) (.string t110)) (fun _ hk => hk.2) (.slice Ao95 t111.length co95)) (fun _ hk => trivial)⟩
        have n2_ : Aside0 ((((w92.setCell ⟨gb115, 0, none⟩ (.string t109)).setCell ⟨gb115, 1, none⟩ (.string t110)).setCell ⟨gb115, 2, none⟩ (.slice Ao95 t111.length co95)).heap[gb108]? = some (.cells #[.string t102, .string t103, .slice Ao90 t104.length co90] 24 (0, 0))) := ⟨by (with_reducible repeat (first | refine blk_drewN ?_ _ | refine blk_drew ?_ | refine blk_alloc ?_ _)); refine blk_far ?_ NB108_115.out _; (with_reducible repeat (first | refine blk_drewN ?_ _ | refine blk_drew ?_ | refine blk_alloc ?_ _)); refine blk_far ?_ NB108_115.out _; (with_reducible repeat (first | refine blk_drewN ?_ _ | refine blk_drew ?_ | refine blk_alloc ?_ _)); refine blk_far ?_ NB108_115.out _; (with_reducible repeat (first | refine blk_drewN ?_ _ | refine blk_drew ?_ | refine blk_alloc ?_ _)); exact BK108.out⟩
        have n3_ : Aside0 ((((w92.setCell ⟨gb115, 0, none⟩ (.string t109)).setCell ⟨gb115, 1, none⟩ (.string t110)).setCell ⟨gb115, 2, none⟩ (.slice Ao95 t111.length co95)).heap[gb115]? = some (.cells #[.string t109, .string t110, .slice Ao95 t111.length co95] 48 (0, 0))) := ⟨by (with_reducible repeat (first | refine blk_drewN ?_ _ | refine blk_drew ?_ | refine blk_alloc ?_ _)); refine blk_put (cs := #[.string t109, .string t110, .slice none 0 0]) ?_ 2 _ rfl; (with_reducible repeat (first | refine blk_drewN ?_ _ | refine blk_drew ?_ | refine blk_alloc ?_ _)); refine blk_put (cs := #[.string t109, .string (⟨#[]⟩ : ByteArray), .slice none 0 0]) ?_ 1 _ rfl; (with_reducible repeat (first | refine blk_drewN ?_ _ | refine blk_drew ?_ | refine blk_alloc ?_ _)); refine blk_put (cs := #[.string (⟨#[]⟩ : ByteArray), .string (⟨#[]⟩ : ByteArray), .slice none 0 0]) ?_ 0 _ rfl; (with_reducible repeat (first | refine blk_drewN ?_ _ | refine blk_drew ?_ | refine blk_alloc ?_ _)); exact BK115.out⟩
        have n4_ : Aside0 (Below w.heap.size w (((w92.setCell ⟨gb115, 0, none⟩ (.string t109)).setCell ⟨gb115, 1, none⟩ (.string t110)).setCell ⟨gb115, 2, none⟩ (.slice Ao95 t111.length co95))) := ⟨by repeat (first | (with_reducible first | exact HB.out | apply below_alloc | apply pw_below_drewN | apply below_drew1 | refine below_set ?_ GE108.out | refine below_set ?_ GE115.out) | exact HB.out)⟩
        (try clear HO106)
        (try clear HO113)
        (try clear BK108)
        (try clear BK115)
        (try clear HB)
        generalize (((w92.setCell ⟨gb115, 0, none⟩ (.string t109)).setCell ⟨gb115, 1, none⟩ (.string t110)).setCell ⟨gb115, 2, none⟩ (.slice Ao95 t111.length co95)) = w96 at n0_ n1_ n2_ n3_ n4_ ⊢
        have HO106 := n0_
        have HO113 := n1_
        have BK108 := n2_
        have BK115 := n3_
        have HB := n4_
        clear n0_ n1_ n2_ n3_ n4_
        have n0_ := Aside0.mk (Kd.R_drew HO106.out)
        have n1_ := Aside0.mk (Kd.R_drew HO113.out)
        have n2_ := Aside0.mk (blk_drew BK108.out)
        have n3_ := Aside0.mk (blk_drew BK115.out)
        have n4_ := Aside0.mk (below_drew1 HB.out)
        clear HO106
        clear HO113
        clear BK108
        clear BK115
        clear HB
        have HO106 := n0_
        have HO113 := n1_
        have BK108 := n2_
        have BK115 := n3_
        have HB := n4_
        clear n0_ n1_ n2_ n3_ n4_
        refine start_ (n := 37) (S := fun w' => w'.cell? ⟨gb108, 0, none⟩ = some (.string t102) ∧ w'.cell? ⟨gb108, 1, none⟩ = some (.string t103) ∧ w'.cell? ⟨gb108, 2, none⟩ = some (.slice Ao90 t104.length co90) ∧ w'.cell? ⟨gb115, 0, none⟩ = some (.string t109) ∧ w'.cell? ⟨gb115, 1, none⟩ = some (.string t110) ∧ w'.cell? ⟨gb115, 2, none⟩ = some (.slice Ao95 t111.length co95)) (ds := []) #[false, false, false, false, false, false, false, false, false, false, false, false, false, false, false, false, false, false, false, false, false, false, false, false, false, false, false, false, false, false, false, false, false, false, false, false, false] (by kernel_rfl) rfl rfl ⟨(blk_cell BK108.out 0).trans rfl, (blk_cell BK108.out 1).trans rfl, (blk_cell BK108.out 2).trans rfl, (blk_cell BK115.out 0).trans rfl, (blk_cell BK115.out 1).trans rfl, (blk_cell BK115.out 2).trans rfl⟩ (fun hHeld => ?_); refine with_tabW ostiarylaw6_MimeParses.tab4 ostiarylaw6_MimeParses.bits4 (fun HT_ HW_ => ?_)
        generalize w96.drew = w97 at HO106 HO113 BK108 BK115 HB hHeld ⊢
        refine pure_ (i := 0) (N := some 19) (v := ?_) (a' := ?_) #[true, false, false, false, false, false, false, false, false, false, false, false, false, false, false, false, false, false, false, false, false, false, false, false, false, false, false, false, false, false, false, false, false, false, false, false, false] rfl rfl (any_of HT_.out (by kernel_rfl)) (fun _ _ _ h => h) (Or.inl ⟨by rfl, ?_⟩) ?_ ?_
        rotate_left
        · intro w'
          go_simp
          with_reducible rfl
        rotate_left
        · simp only [Act.put, List.setIfInBounds_toArray, List.set_cons_zero, List.set_cons_succ, i64_w, i32_w]
          rfl
        refine pure_ (i := 1) (N := some 20) (v := ?_) (a' := ?_) #[true, true, false, false, false, false, false, false, false, false, false, false, false, false, false, false, false, false, false, false, false, false, false, false, false, false, false, false, false, false, false, false, false, false, false, false, false] rfl rfl (any_of HT_.out (by kernel_rfl)) (fun _ _ _ h => h) (Or.inl ⟨by rfl, ?_⟩) ?_ ?_
        rotate_left
        · intro w'
          go_simp
          with_reducible rfl
        rotate_left
        · simp only [Act.put, List.setIfInBounds_toArray, List.set_cons_zero, List.set_cons_succ, i64_w, i32_w]
          rfl
        refine pure_ (i := 2) (N := some 21) (v := ?_) (a' := ?_) #[true, true, true, false, false, false, false, false, false, false, false, false, false, false, false, false, false, false, false, false, false, false, false, false, false, false, false, false, false, false, false, false, false, false, false, false, false] rfl rfl (any_of HT_.out (by kernel_rfl)) (fun _ _ _ h => h) (Or.inl ⟨by rfl, ?_⟩) ?_ ?_
        rotate_left
        · intro w'
          go_simp
          with_reducible rfl
        rotate_left
        · simp only [Act.put, List.setIfInBounds_toArray, List.set_cons_zero, List.set_cons_succ, i64_w, i32_w]
          rfl
        refine pure_ (i := 3) (N := some 22) (v := ?_) (a' := ?_) #[true, true, true, true, false, false, false, false, false, false, false, false, false, false, false, false, false, false, false, false, false, false, false, false, false, false, false, false, false, false, false, false, false, false, false, false, false] rfl rfl (any_of HT_.out (by kernel_rfl)) (fun _ _ _ h => h) (Or.inl ⟨by rfl, ?_⟩) ?_ ?_
        rotate_left
        · intro w'
          go_simp
          with_reducible rfl
        rotate_left
        · simp only [Act.put, List.setIfInBounds_toArray, List.set_cons_zero, List.set_cons_succ, i64_w, i32_w]
          rfl
        refine take_ (i := 4) (N := some 23) (v := ?_) (a' := ?_) #[true, true, true, true, true, false, false, false, false, false, false, false, false, false, false, false, false, false, false, false, false, false, false, false, false, false, false, false, false, false, false, false, false, false, false, false, false] rfl rfl (take_ofW HT_.out HW_.out (by kernel_rfl)) (fun _ _ _ h => h) (Or.inl ⟨by rfl, ?_⟩) hHeld ?_ ?_
        rotate_left
        · rintro w' ⟨s0, s1, s2, s3, s4, s5⟩
          go_simp
          with_reducible rfl
        rotate_left
        · simp only [Act.put, List.setIfInBounds_toArray, List.set_cons_zero, List.set_cons_succ, i64_w, i32_w]
          rfl
        refine take_ (i := 5) (N := some 24) (v := ?_) (a' := ?_) #[true, true, true, true, true, true, false, false, false, false, false, false, false, false, false, false, false, false, false, false, false, false, false, false, false, false, false, false, false, false, false, false, false, false, false, false, false] rfl rfl (take_ofW HT_.out HW_.out (by kernel_rfl)) (fun _ _ _ h => h) (Or.inl ⟨by rfl, ?_⟩) hHeld ?_ ?_
        rotate_left
        · rintro w' ⟨s0, s1, s2, s3, s4, s5⟩
          go_simp
          with_reducible rfl
        rotate_left
        · simp only [Act.put, List.setIfInBounds_toArray, List.set_cons_zero, List.set_cons_succ, i64_w, i32_w]
          rfl
        refine one_ (i := 6) (N := some 25) #[true, true, true, true, true, true, true, false, false, false, false, false, false, false, false, false, false, false, false, false, false, false, false, false, false, false, false, false, false, false, false, false, false, false, false, false, false] rfl rfl (one_of HT_.out (by kernel_rfl)) (by decide) (fun K hK => ?_)
        refine goes_ Tryz.func27 (by kernel_rfl) rfl #[.agg #[.string t102, .string t103, .slice Ao90 t104.length co90], .agg #[.string t109, .string t110, .slice Ao95 t111.length co95]] (by rfl) rfl rfl (by (try simp only [List.map_toArray, List.map_cons, List.map_nil]); first | done | rfl | (simp only [List.length_drop, List.length_take]; rfl)) ?_
        with_reducible refine (ostiarylaw6_same.calls k t102 t103 _ _ t104 t109 t110 _ _ t111 true _ ?side1 ?side2 ?side3 ?side4 A6.out).mono ?_
        (case side1 => repeat (first | exact (Kd.R_reads' HO106.out).2.2 | (with_reducible refine Kd.C_alloc ?_ _) | (with_reducible refine Kd.C_drewN ?_ _) | (with_reducible refine Kd.C_drew ?_)))
        (case side2 => exact (Kd.R_reads' HO106.out).2.1)
        (case side3 => repeat (first | exact (Kd.R_reads' HO113.out).2.2 | (with_reducible refine Kd.C_alloc ?_ _) | (with_reducible refine Kd.C_drewN ?_ _) | (with_reducible refine Kd.C_drew ?_)))
        (case side4 => exact (Kd.R_reads' HO113.out).2.1)
        rintro e w98 ⟨rfl, hb⟩
        refine ⟨_, rfl, ?_⟩
        have n0_ := Aside0.mk (Kd.R_below (by (with_reducible repeat (first | apply Kd.R_alloc | apply Kd.R_drewN | apply Kd.R_drew)); exact HO106.out) hb)
        have n1_ := Aside0.mk (Kd.R_below (by (with_reducible repeat (first | apply Kd.R_alloc | apply Kd.R_drewN | apply Kd.R_drew)); exact HO113.out) hb)
        have n2_ := Aside0.mk (blk_below (g := gb108) (o := .cells #[.string t102, .string t103, .slice Ao90 t104.length co90] 24 (0, 0)) (by (with_reducible repeat (first | refine blk_drewN ?_ _ | refine blk_drew ?_ | refine blk_alloc ?_ _)); exact BK108.out) hb)
        have n3_ := Aside0.mk (blk_below (g := gb115) (o := .cells #[.string t109, .string t110, .slice Ao95 t111.length co95] 48 (0, 0)) (by (with_reducible repeat (first | refine blk_drewN ?_ _ | refine blk_drew ?_ | refine blk_alloc ?_ _)); exact BK115.out) hb)
        have n4_ := Aside0.mk (below_step (by repeat (first | (with_reducible first | exact HB.out | apply below_alloc | apply pw_below_drewN | apply below_drew1 | refine below_set ?_ GE108.out | refine below_set ?_ GE115.out) | exact HB.out)) hb)
        clear HO106
        clear HO113
        clear BK108
        clear BK115
        clear HB
        have HO106 := n0_
        have HO113 := n1_
        have BK108 := n2_
        have BK115 := n3_
        have HB := n4_
        clear n0_ n1_ n2_ n3_ n4_
        (try clear hb)
        (try clear hb2)
        (try clear hk)
        (try clear hi)
        refine hK.out _ _ ⟨(blk_cell BK108.out 0).trans rfl, (blk_cell BK108.out 1).trans rfl, (blk_cell BK108.out 2).trans rfl, (blk_cell BK115.out 0).trans rfl, (blk_cell BK115.out 1).trans rfl, (blk_cell BK115.out 2).trans rfl⟩ (fun hHeld => ?_)
        clear hK K
        refine norm_ (a' := ?_) ?_ ?_
        rotate_left
        · show Act.put _ (some 25) _ = _
          simp only [Act.put, List.setIfInBounds_toArray, List.set_cons_zero, List.set_cons_succ, i64_w, i32_w]
          rfl
        refine pure_ (i := 7) (N := some 26) (v := ?_) (a' := ?_) #[true, true, true, true, true, true, true, true, false, false, false, false, false, false, false, false, false, false, false, false, false, false, false, false, false, false, false, false, false, false, false, false, false, false, false, false, false] rfl rfl (any_of HT_.out (by kernel_rfl)) (fun _ _ _ h => h) (Or.inl ⟨by rfl, ?_⟩) ?_ ?_
        rotate_left
        · intro w'
          go_simp
          with_reducible rfl
        rotate_left
        · simp only [Act.put, List.setIfInBounds_toArray, List.set_cons_zero, List.set_cons_succ, i64_w, i32_w]
          rfl
        refine pure_ (i := 8) (N := some 27) (v := ?_) (a' := ?_) #[true, true, true, true, true, true, true, true, true, false, false, false, false, false, false, false, false, false, false, false, false, false, false, false, false, false, false, false, false, false, false, false, false, false, false, false, false] rfl rfl (any_of HT_.out (by kernel_rfl)) (fun _ _ _ h => h) (Or.inl ⟨by rfl, ?_⟩) ?_ ?_
        rotate_left
        · intro w'
          go_simp
          with_reducible rfl
        rotate_left
        · simp only [Act.put, List.setIfInBounds_toArray, List.set_cons_zero, List.set_cons_succ, i64_w, i32_w]
          rfl
        refine pure_ (i := 9) (N := some 28) (v := ?_) (a' := ?_) #[true, true, true, true, true, true, true, true, true, true, false, false, false, false, false, false, false, false, false, false, false, false, false, false, false, false, false, false, false, false, false, false, false, false, false, false, false] rfl rfl (any_of HT_.out (by kernel_rfl)) (fun _ _ _ h => h) (Or.inl ⟨by rfl, ?_⟩) ?_ ?_
        rotate_left
        · intro w'
          go_simp
          with_reducible rfl
        rotate_left
        · simp only [Act.put, List.setIfInBounds_toArray, List.set_cons_zero, List.set_cons_succ, i64_w, i32_w]
          rfl
        refine pure_ (i := 10) (N := some 29) (v := ?_) (a' := ?_) #[true, true, true, true, true, true, true, true, true, true, true, false, false, false, false, false, false, false, false, false, false, false, false, false, false, false, false, false, false, false, false, false, false, false, false, false, false] rfl rfl (any_of HT_.out (by kernel_rfl)) (fun _ _ _ h => h) (Or.inl ⟨by rfl, ?_⟩) ?_ ?_
        rotate_left
        · intro w'
          go_simp
          with_reducible rfl
        rotate_left
        · simp only [Act.put, List.setIfInBounds_toArray, List.set_cons_zero, List.set_cons_succ, i64_w, i32_w]
          rfl
        refine pure_ (i := 11) (N := some 30) (v := ?_) (a' := ?_) #[true, true, true, true, true, true, true, true, true, true, true, true, false, false, false, false, false, false, false, false, false, false, false, false, false, false, false, false, false, false, false, false, false, false, false, false, false] rfl rfl (any_of HT_.out (by kernel_rfl)) (fun _ _ _ h => h) (Or.inl ⟨by rfl, ?_⟩) ?_ ?_
        rotate_left
        · intro w'
          go_simp
          with_reducible rfl
        rotate_left
        · simp only [Act.put, List.setIfInBounds_toArray, List.set_cons_zero, List.set_cons_succ, i64_w, i32_w]
          rfl
        refine pure_ (i := 12) (N := some 31) (v := undef) (a' := ?_) #[true, true, true, true, true, true, true, true, true, true, true, true, true, false, false, false, false, false, false, false, false, false, false, false, false, false, false, false, false, false, false, false, false, false, false, false, false] rfl rfl (any_of HT_.out (by kernel_rfl)) (fun _ _ _ h => h) (Or.inr ⟨by rfl, rfl⟩) ?_ ?_
        rotate_left
        · simp only [Act.put, List.setIfInBounds_toArray, List.set_cons_zero, List.set_cons_succ, i64_w, i32_w]
          rfl
        refine pure_ (i := 13) (N := some 32) (v := undef) (a' := ?_) #[true, true, true, true, true, true, true, true, true, true, true, true, true, true, false, false, false, false, false, false, false, false, false, false, false, false, false, false, false, false, false, false, false, false, false, false, false] rfl rfl (any_of HT_.out (by kernel_rfl)) (fun _ _ _ h => h) (Or.inr ⟨by rfl, rfl⟩) ?_ ?_
        rotate_left
        · simp only [Act.put, List.setIfInBounds_toArray, List.set_cons_zero, List.set_cons_succ, i64_w, i32_w]
          rfl
        refine pure_ (i := 14) (N := some 33) (v := undef) (a' := ?_) #[true, true, true, true, true, true, true, true, true, true, true, true, true, true, true, false, false, false, false, false, false, false, false, false, false, false, false, false, false, false, false, false, false, false, false, false, false] rfl rfl (any_of HT_.out (by kernel_rfl)) (fun _ _ _ h => h) (Or.inr ⟨by rfl, rfl⟩) ?_ ?_
        rotate_left
        · simp only [Act.put, List.setIfInBounds_toArray, List.set_cons_zero, List.set_cons_succ, i64_w, i32_w]
          rfl
        refine pure_ (i := 15) (N := some 34) (v := undef) (a' := ?_) #[true, true, true, true, true, true, true, true, true, true, true, true, true, true, true, true, false, false, false, false, false, false, false, false, false, false, false, false, false, false, false, false, false, false, false, false, false] rfl rfl (any_of HT_.out (by kernel_rfl)) (fun _ _ _ h => h) (Or.inr ⟨by rfl, rfl⟩) ?_ ?_
        rotate_left
        · simp only [Act.put, List.setIfInBounds_toArray, List.set_cons_zero, List.set_cons_succ, i64_w, i32_w]
          rfl
        refine pure_ (i := 16) (N := some 35) (v := undef) (a' := ?_) #[true, true, true, true, true, true, true, true, true, true, true, true, true, true, true, true, true, false, false, false, false, false, false, false, false, false, false, false, false, false, false, false, false, false, false, false, false] rfl rfl (any_of HT_.out (by kernel_rfl)) (fun _ _ _ h => h) (Or.inr ⟨by rfl, rfl⟩) ?_ ?_
        rotate_left
        · simp only [Act.put, List.setIfInBounds_toArray, List.set_cons_zero, List.set_cons_succ, i64_w, i32_w]
          rfl
        refine pure_ (i := 17) (N := some 36) (v := undef) (a' := ?_) #[true, true, true, true, true, true, true, true, true, true, true, true, true, true, true, true, true, true, false, false, false, false, false, false, false, false, false, false, false, false, false, false, false, false, false, false, false] rfl rfl (any_of HT_.out (by kernel_rfl)) (fun _ _ _ h => h) (Or.inr ⟨by rfl, rfl⟩) ?_ ?_
        rotate_left
        · simp only [Act.put, List.setIfInBounds_toArray, List.set_cons_zero, List.set_cons_succ, i64_w, i32_w]
          rfl
        refine pure_ (i := 18) (N := some 37) (v := undef) (a' := ?_) #[true, true, true, true, true, true, true, true, true, true, true, true, true, true, true, true, true, true, true, false, false, false, false, false, false, false, false, false, false, false, false, false, false, false, false, false, false] rfl rfl (any_of HT_.out (by kernel_rfl)) (fun _ _ _ h => h) (Or.inr ⟨by rfl, rfl⟩) ?_ ?_
        rotate_left
        · simp only [Act.put, List.setIfInBounds_toArray, List.set_cons_zero, List.set_cons_succ, i64_w, i32_w]
          rfl
        refine pure_ (i := 19) (N := some 38) (v := undef) (a' := ?_) #[true, true, true, true, true, true, true, true, true, true, true, true, true, true, true, true, true, true, true, true, false, false, false, false, false, false, false, false, false, false, false, false, false, false, false, false, false] rfl rfl (any_of HT_.out (by kernel_rfl)) (fun _ _ _ h => h) (Or.inr ⟨by rfl, rfl⟩) ?_ ?_
        rotate_left
        · simp only [Act.put, List.setIfInBounds_toArray, List.set_cons_zero, List.set_cons_succ, i64_w, i32_w]
          rfl
        refine pure_ (i := 20) (N := some 39) (v := undef) (a' := ?_) #[true, true, true, true, true, true, true, true, true, true, true, true, true, true, true, true, true, true, true, true, true, false, false, false, false, false, false, false, false, false, false, false, false, false, false, false, false] rfl rfl (any_of HT_.out (by kernel_rfl)) (fun _ _ _ h => h) (Or.inr ⟨by rfl, rfl⟩) ?_ ?_
        rotate_left
        · simp only [Act.put, List.setIfInBounds_toArray, List.set_cons_zero, List.set_cons_succ, i64_w, i32_w]
          rfl
        refine pure_ (i := 21) (N := some 40) (v := undef) (a' := ?_) #[true, true, true, true, true, true, true, true, true, true, true, true, true, true, true, true, true, true, true, true, true, true, false, false, false, false, false, false, false, false, false, false, false, false, false, false, false] rfl rfl (any_of HT_.out (by kernel_rfl)) (fun _ _ _ h => h) (Or.inr ⟨by rfl, rfl⟩) ?_ ?_
        rotate_left
        · simp only [Act.put, List.setIfInBounds_toArray, List.set_cons_zero, List.set_cons_succ, i64_w, i32_w]
          rfl
        refine pure_ (i := 22) (N := some 41) (v := undef) (a' := ?_) #[true, true, true, true, true, true, true, true, true, true, true, true, true, true, true, true, true, true, true, true, true, true, true, false, false, false, false, false, false, false, false, false, false, false, false, false, false] rfl rfl (any_of HT_.out (by kernel_rfl)) (fun _ _ _ h => h) (Or.inr ⟨by rfl, rfl⟩) ?_ ?_
        rotate_left
        · simp only [Act.put, List.setIfInBounds_toArray, List.set_cons_zero, List.set_cons_succ, i64_w, i32_w]
          rfl
        refine pure_ (i := 23) (N := some 42) (v := undef) (a' := ?_) #[true, true, true, true, true, true, true, true, true, true, true, true, true, true, true, true, true, true, true, true, true, true, true, true, false, false, false, false, false, false, false, false, false, false, false, false, false] rfl rfl (any_of HT_.out (by kernel_rfl)) (fun _ _ _ h => h) (Or.inr ⟨by rfl, rfl⟩) ?_ ?_
        rotate_left
        · simp only [Act.put, List.setIfInBounds_toArray, List.set_cons_zero, List.set_cons_succ, i64_w, i32_w]
          rfl
        refine pure_ (i := 24) (N := some 43) (v := undef) (a' := ?_) #[true, true, true, true, true, true, true, true, true, true, true, true, true, true, true, true, true, true, true, true, true, true, true, true, true, false, false, false, false, false, false, false, false, false, false, false, false] rfl rfl (any_of HT_.out (by kernel_rfl)) (fun _ _ _ h => h) (Or.inr ⟨by rfl, rfl⟩) ?_ ?_
        rotate_left
        · simp only [Act.put, List.setIfInBounds_toArray, List.set_cons_zero, List.set_cons_succ, i64_w, i32_w]
          rfl
        refine pure_ (i := 25) (N := some 44) (v := undef) (a' := ?_) #[true, true, true, true, true, true, true, true, true, true, true, true, true, true, true, true, true, true, true, true, true, true, true, true, true, true, false, false, false, false, false, false, false, false, false, false, false] rfl rfl (any_of HT_.out (by kernel_rfl)) (fun _ _ _ h => h) (Or.inr ⟨by rfl, rfl⟩) ?_ ?_
        rotate_left
        · simp only [Act.put, List.setIfInBounds_toArray, List.set_cons_zero, List.set_cons_succ, i64_w, i32_w]
          rfl
        refine pure_ (i := 26) (N := some 45) (v := undef) (a' := ?_) #[true, true, true, true, true, true, true, true, true, true, true, true, true, true, true, true, true, true, true, true, true, true, true, true, true, true, true, false, false, false, false, false, false, false, false, false, false] rfl rfl (any_of HT_.out (by kernel_rfl)) (fun _ _ _ h => h) (Or.inr ⟨by rfl, rfl⟩) ?_ ?_
        rotate_left
        · simp only [Act.put, List.setIfInBounds_toArray, List.set_cons_zero, List.set_cons_succ, i64_w, i32_w]
          rfl
        refine pure_ (i := 27) (N := some 46) (v := undef) (a' := ?_) #[true, true, true, true, true, true, true, true, true, true, true, true, true, true, true, true, true, true, true, true, true, true, true, true, true, true, true, true, false, false, false, false, false, false, false, false, false] rfl rfl (any_of HT_.out (by kernel_rfl)) (fun _ _ _ h => h) (Or.inr ⟨by rfl, rfl⟩) ?_ ?_
        rotate_left
        · simp only [Act.put, List.setIfInBounds_toArray, List.set_cons_zero, List.set_cons_succ, i64_w, i32_w]
          rfl
        refine pure_ (i := 28) (N := some 47) (v := undef) (a' := ?_) #[true, true, true, true, true, true, true, true, true, true, true, true, true, true, true, true, true, true, true, true, true, true, true, true, true, true, true, true, true, false, false, false, false, false, false, false, false] rfl rfl (any_of HT_.out (by kernel_rfl)) (fun _ _ _ h => h) (Or.inr ⟨by rfl, rfl⟩) ?_ ?_
        rotate_left
        · simp only [Act.put, List.setIfInBounds_toArray, List.set_cons_zero, List.set_cons_succ, i64_w, i32_w]
          rfl
        refine pure_ (i := 29) (N := some 48) (v := undef) (a' := ?_) #[true, true, true, true, true, true, true, true, true, true, true, true, true, true, true, true, true, true, true, true, true, true, true, true, true, true, true, true, true, true, false, false, false, false, false, false, false] rfl rfl (any_of HT_.out (by kernel_rfl)) (fun _ _ _ h => h) (Or.inr ⟨by rfl, rfl⟩) ?_ ?_
        rotate_left
        · simp only [Act.put, List.setIfInBounds_toArray, List.set_cons_zero, List.set_cons_succ, i64_w, i32_w]
          rfl
        refine pure_ (i := 30) (N := some 49) (v := undef) (a' := ?_) #[true, true, true, true, true, true, true, true, true, true, true, true, true, true, true, true, true, true, true, true, true, true, true, true, true, true, true, true, true, true, true, false, false, false, false, false, false] rfl rfl (any_of HT_.out (by kernel_rfl)) (fun _ _ _ h => h) (Or.inr ⟨by rfl, rfl⟩) ?_ ?_
        rotate_left
        · simp only [Act.put, List.setIfInBounds_toArray, List.set_cons_zero, List.set_cons_succ, i64_w, i32_w]
          rfl
        refine pure_ (i := 31) (N := some 50) (v := ?_) (a' := ?_) #[true, true, true, true, true, true, true, true, true, true, true, true, true, true, true, true, true, true, true, true, true, true, true, true, true, true, true, true, true, true, true, true, false, false, false, false, false] rfl rfl (any_of HT_.out (by kernel_rfl)) (fun _ _ _ h => h) (Or.inl ⟨by rfl, ?_⟩) ?_ ?_
        rotate_left
        · intro w'
          go_simp
          with_reducible rfl
        rotate_left
        · simp only [Act.put, List.setIfInBounds_toArray, List.set_cons_zero, List.set_cons_succ, i64_w, i32_w]
          rfl
        refine pure_ (i := 32) (N := some 51) (v := ?_) (a' := ?_) #[true, true, true, true, true, true, true, true, true, true, true, true, true, true, true, true, true, true, true, true, true, true, true, true, true, true, true, true, true, true, true, true, true, false, false, false, false] rfl rfl (any_of HT_.out (by kernel_rfl)) (fun _ _ _ h => h) (Or.inl ⟨by rfl, ?_⟩) ?_ ?_
        rotate_left
        · intro w'
          go_simp
          with_reducible rfl
        rotate_left
        · simp only [Act.put, List.setIfInBounds_toArray, List.set_cons_zero, List.set_cons_succ, i64_w, i32_w]
          rfl
        refine pure_ (i := 33) (N := some 52) (v := ?_) (a' := ?_) #[true, true, true, true, true, true, true, true, true, true, true, true, true, true, true, true, true, true, true, true, true, true, true, true, true, true, true, true, true, true, true, true, true, true, false, false, false] rfl rfl (any_of HT_.out (by kernel_rfl)) (fun _ _ _ h => h) (Or.inl ⟨by rfl, ?_⟩) ?_ ?_
        rotate_left
        · intro w'
          go_simp
          with_reducible rfl
        rotate_left
        · simp only [Act.put, List.setIfInBounds_toArray, List.set_cons_zero, List.set_cons_succ, i64_w, i32_w]
          rfl
        refine one_ (i := 34) (N := some 53) #[true, true, true, true, true, true, true, true, true, true, true, true, true, true, true, true, true, true, true, true, true, true, true, true, true, true, true, true, true, true, true, true, true, true, true, false, false] rfl rfl (one_of HT_.out (by kernel_rfl)) (by decide) (fun K hK => ?_)
        refine goes_ Tryz.func17 (by kernel_rfl) rfl #[] (by rfl) rfl rfl (by (try simp only [List.map_toArray, List.map_cons, List.map_nil]); first | done | rfl | (simp only [List.length_drop, List.length_take]; rfl)) ?_
        with_reducible refine (ostiarylaw6_known.calls k  t124 _ A86.out).mono ?_
        rintro e w99 ⟨rfl, hb⟩
        refine ⟨_, rfl, ?_⟩
        have n0_ := Aside0.mk (Kd.R_below (by (with_reducible repeat (first | apply Kd.R_alloc | apply Kd.R_drewN | apply Kd.R_drew)); exact HO106.out) hb)
        have n1_ := Aside0.mk (Kd.R_below (by (with_reducible repeat (first | apply Kd.R_alloc | apply Kd.R_drewN | apply Kd.R_drew)); exact HO113.out) hb)
        have n2_ := Aside0.mk (blk_below (g := gb108) (o := .cells #[.string t102, .string t103, .slice Ao90 t104.length co90] 24 (0, 0)) (by (with_reducible repeat (first | refine blk_drewN ?_ _ | refine blk_drew ?_ | refine blk_alloc ?_ _)); exact BK108.out) hb)
        have n3_ := Aside0.mk (blk_below (g := gb115) (o := .cells #[.string t109, .string t110, .slice Ao95 t111.length co95] 48 (0, 0)) (by (with_reducible repeat (first | refine blk_drewN ?_ _ | refine blk_drew ?_ | refine blk_alloc ?_ _)); exact BK115.out) hb)
        have n4_ := Aside0.mk (below_step (by repeat (first | (with_reducible first | exact HB.out | apply below_alloc | apply pw_below_drewN | apply below_drew1 | refine below_set ?_ GE108.out | refine below_set ?_ GE115.out) | exact HB.out)) hb)
        clear HO106
        clear HO113
        clear BK108
        clear BK115
        clear HB
        have HO106 := n0_
        have HO113 := n1_
        have BK108 := n2_
        have BK115 := n3_
        have HB := n4_
        clear n0_ n1_ n2_ n3_ n4_
        (try clear hb)
        (try clear hb2)
        (try clear hk)
        (try clear hi)
        refine hK.out _ _ ⟨(blk_cell BK108.out 0).trans rfl, (blk_cell BK108.out 1).trans rfl, (blk_cell BK108.out 2).trans rfl, (blk_cell BK115.out 0).trans rfl, (blk_cell BK115.out 1).trans rfl, (blk_cell BK115.out 2).trans rfl⟩ (fun hHeld => ?_)
        clear hK K
        refine norm_ (a' := ?_) ?_ ?_
        rotate_left
        · show Act.put _ (some 53) _ = _
          simp only [Act.put, List.setIfInBounds_toArray, List.set_cons_zero, List.set_cons_succ, i64_w, i32_w]
          rfl
        refine pure_ (i := 35) (N := some 54) (v := ?_) (a' := ?_) #[true, true, true, true, true, true, true, true, true, true, true, true, true, true, true, true, true, true, true, true, true, true, true, true, true, true, true, true, true, true, true, true, true, true, true, true, false] rfl rfl (any_of HT_.out (by kernel_rfl)) (fun _ _ _ h => h) (Or.inl ⟨by rfl, ?_⟩) ?_ ?_
        rotate_left
        · intro w'
          go_simp
          with_reducible rfl
        rotate_left
        · simp only [Act.put, List.setIfInBounds_toArray, List.set_cons_zero, List.set_cons_succ, i64_w, i32_w]
          rfl
        refine pure_ (i := 36) (N := some 2) (v := ?_) (a' := ?_) #[true, true, true, true, true, true, true, true, true, true, true, true, true, true, true, true, true, true, true, true, true, true, true, true, true, true, true, true, true, true, true, true, true, true, true, true, true] rfl rfl (any_of HT_.out (by kernel_rfl)) (fun _ _ _ h => h) (Or.inl ⟨by rfl, ?_⟩) ?_ ?_
        rotate_left
        · intro w'
          go_simp
          with_reducible rfl
        rotate_left
        · simp only [Act.put, List.setIfInBounds_toArray, List.set_cons_zero, List.set_cons_succ, i64_w, i32_w]
          rfl
        refine done_ (done_of HT_.out (by kernel_rfl)) ?_
        try go_wp2
        go_ret
        rw [HTT.out]
        exact ⟨by first | rfl | (simp [errW_none, errW_some] <;> rfl) | (simp [*, errW_none, errW_some] <;> rfl), by repeat (first | (with_reducible first | exact HB.out | apply below_alloc | apply pw_below_drewN | apply below_drew1 | refine below_set ?_ GE108.out | refine below_set ?_ GE115.out) | exact HB.out)⟩
    · replace c7 := Bool.eq_false_iff.mpr c7
      subst c7
      have H1 : (some false) = some true := by rw [if_neg (show ¬ (false = true) by decide)] at H; exact H
      clear H
      have H := H1
      clear H1
      exact absurd H (by simp)
  · rw [if_neg c5] at H
    have c5b0 : (t107 == t114) = false := by simpa using c5
    (try (have c5b1 : decide (t107 = t114) = false := by simpa using c5))
    (try (have c5b2 : (t107 == t114) = false := by simpa using c5))
    (try (have c5b3 : ¬ (t107 = t114) := by simpa using c5))
    clear c5
    exact absurd H (by simp)
end Go.Proofs.YteehjlciajhdoaaGreatDoor.X
namespace Go.Proofs.YteehjlciajhdoaaGreatDoor.X
set_option linter.unusedVariables false
set_option linter.unusedSimpArgs false
open Go.RowKit Go.Proofs.YteehjlciajhdoaaGreatDoorW.PrintWords Go.Proofs.YteehjlciajhdoaaGreatDoorW.PrintLast Go.Proofs.YteehjlciajhdoaaGreatDoorW.PrintMore
theorem lawSame_l0 (mj mn mj' mn' : ByteArray) (ps : List Prm) (hl : ps.length ≤ 1000000) : ∀ (d i : Nat), i + d = ps.length → Ev (fun k => ostiarylaw6_same.l0 k (i : Int) mj mn ps mj' mn' (ps.map toR)) true
  | 0, i, h => by
    refine Ev.step (f := fun _ => some true) (fun k => ?_) (Ev.now _)
    simp only [ostiarylaw6_same.l0]
    rw [if_neg (by omega)]
  | d + 1, i, h => by
    have hi : i < ps.length := by omega
    have hil : i < (ps.map toR).length := by rw [List.length_map]; exact hi
    refine Ev.step (fun k => ?_) (lawSame_l0 mj mn mj' mn' ps hl d (i + 1) (by omega))
    simp only [ostiarylaw6_same.l0]
    rw [if_pos (by omega), if_pos (by omega), if_pos (by omega), rdT_at hi, rdR_at hil, List.getElem_map, if_neg (by simp [toR]), w64 (by omega) (by omega)]
    rfl
theorem lawSame_ev (mj mn : ByteArray) (ps : List Prm) (hl : ps.length ≤ 1000000) : Ev (fun k => ostiarylaw6_same.f k mj mn ps mj mn (ps.map toR)) true := by
  unfold ostiarylaw6_same.f
  refine Ev.ite_pos rfl (Ev.ite_pos rfl ?_)
  refine Ev.step (fun k => ?_) (lawSame_l0 mj mn mj mn ps hl ps.length 0 (by omega))
  simp only [ostiarylaw6_same.j0]
  rw [if_neg (by rw [List.length_map]; simp)]
  rfl
theorem refText_l1 (i : Int) (mj mn : ByteArray) (ps : List RPrm) {r : ByteArray} : ∀ (rest pre out : List UInt8), out.length + 2 * rest.length + 2 ≤ 1000000000000000 → (pre ++ rest).length ≤ 1000000000000000 →
    Ev (fun k => ostiaryref6_Text.l0 k (B (out ++ escB rest ++ [34])) (wrap64 (i + 1)) mj mn ps) r →
    Ev (fun k => ostiaryref6_Text.l1 k (B out) i (B (pre ++ rest)) (pre.length : Int) mj mn ps) r
  | [], pre, out, hb, hp, hk => by
    refine Ev.step (fun k => ?_) hk
    simp only [ostiaryref6_Text.l1]
    rw [if_neg (by rw [size_B]; simp), if_pos (by rw [size_B]; simp at hb; omega), escB_nil, List.append_nil, show B out ++ (⟨#[34]⟩ : ByteArray) = B (out ++ [34]) from B_append out [34]]
  | c :: rest, pre, out, hb, hp, hk => by
    have hb := hb; rw [List.length_cons] at hb
    have hll : (pre ++ c :: rest).length = pre.length + 1 + rest.length := by simp; omega
    have hbt : bt (B (pre ++ c :: rest)) (pre.length : Int) = (c.toNat : Int) := bt_mid pre rest c
    have hw : wrap64 ((pre.length : Int) + 1) = ((pre ++ [c]).length : Int) := by rw [w64 (by omega) (by omega)]; simp
    have hpl : ((pre ++ [c]).length : Int) = (pre.length : Int) + 1 := by simp
    have hlt : (pre.length : Int) < ((B (pre ++ c :: rest)).size : Int) := by rw [size_B]; omega
    have hle : ((pre ++ [c]).length : Int) ≤ ((B (pre ++ c :: rest)).size : Int) := by rw [size_B]; omega
    rw [escB_cons] at hk
    by_cases hc : c = 34 ∨ c = 92
    · rw [if_pos hc] at hk
      have ih := refText_l1 i mj mn ps rest (pre ++ [c]) (out ++ [92, c]) (by simp; omega) (by simpa using hp) (by simpa using hk)
      rw [show (pre ++ [c]) ++ rest = pre ++ c :: rest from by simp] at ih
      have hcat : B out ++ (⟨#[92]⟩ : ByteArray) = B (out ++ [92]) := B_append out [92]
      have hcat2 : B (out ++ [92]) ++ B [c] = B (out ++ [92, c]) := by rw [B_append]; simp
      refine Ev.step (fun k => ?_) ih
      simp only [ostiaryref6_Text.l1]
      rw [if_pos hlt, if_pos (by omega), hbt, hw, ext_seg, hcat, hcat2, if_pos (show (B out).size + 1 ≤ 9223372036854775807 from by rw [size_B]; omega), if_pos (show (pre.length : Int) ≤ ((pre ++ [c]).length : Int) from by omega), if_pos hle,
        if_pos (show (B (out ++ [92])).size + (B [c]).size ≤ 9223372036854775807 from by rw [size_B, size_B]; simp; omega)]
      rcases hc with h | h
      · rw [if_pos (by rw [h]; rfl)]
      · rw [if_neg (ne_int (c := c) (m := 34) (n := 34) (by rw [h]; decide) rfl), if_pos (by rw [h]; rfl)]
    · have hn := not_or.1 hc
      rw [if_neg hc] at hk
      have ih := refText_l1 i mj mn ps rest (pre ++ [c]) (out ++ [c]) (by simp; omega) (by simpa using hp) (by simpa using hk)
      rw [show (pre ++ [c]) ++ rest = pre ++ c :: rest from by simp] at ih
      refine Ev.step (fun k => ?_) ih
      simp only [ostiaryref6_Text.l1]
      rw [if_pos hlt, if_pos (by omega), hbt, if_neg (ne_int (n := 34) hn.1 rfl), if_neg (ne_int (n := 92) hn.2 rfl), hw, if_pos (by omega), if_pos hle, ext_seg, if_pos (by rw [size_B, size_B]; simp; omega), B_append]
theorem refText_step (mj mn : ByteArray) (ps : List RPrm) (i : Nat) (hi : i < ps.length) (hpl : ps.length ≤ 1000000) (out n v L1 : List UInt8) (hr : rd_T89 ps (i : Int) = (⟨B n, B v⟩ : RPrm)) (hL : L1 = out ++ [59] ++ n ++ [61]) (hb : out.length + n.length + v.length ≤ 1000000000000000) (k : Nat) :
    ostiaryref6_Text.l0 (k + 1) (B out) (i : Int) mj mn ps = (ostiaryref1_Token.f k (B v)).bind fun t105 => (if t105 = true then ostiaryref6_Text.l0 k (B (L1 ++ v)) ((i + 1 : Nat) : Int) mj mn ps else ostiaryref6_Text.l1 k (B (L1 ++ [34])) (i : Int) (B v) 0 mj mn ps) := by
  have hw : wrap64 ((i : Int) + 1) = ((i + 1 : Nat) : Int) := by rw [w64 (by omega) (by omega)]; rfl
  have c1 : B out ++ (⟨#[59]⟩ : ByteArray) = B (out ++ [59]) := B_append out [59]
  have c2 : B (out ++ [59]) ++ B n = B (out ++ [59] ++ n) := B_append _ _
  have c3 : B (out ++ [59] ++ n) ++ (⟨#[61]⟩ : ByteArray) = B L1 := by rw [hL]; exact B_append _ [61]
  have c4 : B L1 ++ B v = B (L1 ++ v) := B_append _ _
  have c5 : B L1 ++ (⟨#[34]⟩ : ByteArray) = B (L1 ++ [34]) := B_append _ [34]
  have l1 : L1.length = out.length + n.length + 2 := by rw [hL]; simp; omega
  have l2 : (out ++ [59]).length = out.length + 1 := by simp
  have l3 : (out ++ [59] ++ n).length = out.length + 1 + n.length := by simp; omega
  have z0 : (B out).size + 1 ≤ 9223372036854775807 := by rw [size_B]; omega
  have z1 : (B (out ++ [59])).size + (B n).size ≤ 9223372036854775807 := by rw [size_B, size_B]; omega
  have z2 : (B (out ++ [59] ++ n)).size + 1 ≤ 9223372036854775807 := by rw [size_B]; omega
  have z3 : (B L1).size + (B v).size ≤ 9223372036854775807 := by rw [size_B, size_B]; omega
  have z4 : (B L1).size + 1 ≤ 9223372036854775807 := by rw [size_B]; omega
  simp only [ostiaryref6_Text.l0]
  rw [if_pos (by omega), hr, if_pos z0, if_pos (by omega), c1, if_pos z1, c2, if_pos z2, c3, c4, c5, hw, if_pos z3, if_pos z4]
theorem refText_l0 (mj mn : ByteArray) (ps : List Prm) (hl : ps.length ≤ 1000000) (hv : ∀ p, p ∈ ps → p.f1.size ≤ 1000000) : ∀ (d i : Nat) (out : List UInt8), i + d = ps.length → (out ++ (ps.drop i).flatMap parT).length ≤ 100000000000000 →
    Ev (fun k => ostiaryref6_Text.l0 k (B out) (i : Int) mj mn (ps.map toR)) (B (out ++ (ps.drop i).flatMap parT))
  | 0, i, out, h, hb => by
    rw [List.drop_of_length_le (by omega), List.flatMap_nil, List.append_nil]
    refine Ev.step (f := fun _ => some (B out)) (fun k => ?_) (Ev.now _)
    simp only [ostiaryref6_Text.l0]
    rw [if_neg (by rw [List.length_map]; omega)]
  | d + 1, i, out, h, hb => by
    have hi : i < ps.length := by omega
    have hil : i < (ps.map toR).length := by rw [List.length_map]; exact hi
    obtain ⟨p, hp⟩ : ∃ p, p = ps[i] := ⟨_, rfl⟩
    obtain ⟨n, hn⟩ : ∃ n, n = Ls p.f0 := ⟨_, rfl⟩
    obtain ⟨v, hvv⟩ : ∃ v, v = Ls p.f1 := ⟨_, rfl⟩
    have hvl : v.length ≤ 1000000 := by rw [hvv, ← size_Ls, hp]; exact hv _ (List.getElem_mem hi)
    have hr : rd_T89 (ps.map toR) (i : Int) = (⟨B n, B v⟩ : RPrm) := by rw [rdR_at hil, List.getElem_map, ← hp, hn, hvv, B_Ls, B_Ls]; rfl
    have hpt : parT p = 59 :: n ++ 61 :: valT v := by rw [hn, hvv]; rfl
    rw [List.drop_eq_getElem_cons hi, List.flatMap_cons, ← hp] at hb ⊢
    obtain ⟨tl, htl⟩ : ∃ tl, tl = (ps.drop (i + 1)).flatMap parT := ⟨_, rfl⟩
    rw [← htl] at hb ⊢
    have hlen : (out ++ (parT p ++ tl)).length = out.length + n.length + 2 + (valT v).length + tl.length := by rw [hpt]; simp only [List.length_append, List.length_cons]; omega
    rw [hlen] at hb
    have hlen2 : (out ++ parT p ++ tl).length ≤ 100000000000000 := by rw [List.append_assoc, hlen]; exact hb
    have ih := refText_l0 mj mn ps hl hv d (i + 1) (out ++ parT p) (by omega) (by rw [← htl]; exact hlen2)
    rw [← htl] at ih
    rw [← List.append_assoc]
    obtain ⟨L1, hL⟩ : ∃ L1, L1 = out ++ [59] ++ n ++ [61] := ⟨_, rfl⟩
    have hL1 : L1.length = out.length + n.length + 2 := by rw [hL]; simp; omega
    have hL2 : L1 ++ valT v = out ++ parT p := by rw [hL, hpt]; simp
    refine Ev.step (refText_step mj mn (ps.map toR) i hil (by rw [List.length_map]; exact hl) out n v L1 hr hL (by omega)) ?_
    refine Ev.bnd (refToken_ev v (by omega)) ?_
    cases ht : isTok v with
    | true =>
      refine Ev.ite_pos rfl ?_
      rw [show L1 ++ v = out ++ parT p from by rw [← hL2, valT, if_pos ht]]
      exact ih
    | false =>
      refine Ev.ite_neg (by decide) ?_
      have hw : wrap64 ((i : Int) + 1) = ((i + 1 : Nat) : Int) := by rw [w64 (by omega) (by omega)]; rfl
      refine refText_l1 (i : Int) mj mn (ps.map toR) v [] (L1 ++ [34]) (by simp only [List.length_append, List.length_cons, List.length_nil]; omega) (by simp only [List.nil_append]; omega) ?_
      rw [hw, show L1 ++ [34] ++ escB v ++ [34] = out ++ parT p from by rw [← hL2, valT, if_neg (by rw [ht]; decide)]; simp]
      exact ih
theorem refEssence_f (mj mn : List UInt8) (ps : List RPrm) (h : mj.length + mn.length ≤ 1000000000000) : ostiaryref6_Essence.f (B mj) (B mn) ps = some (B (mj ++ 47 :: mn)) := by
  unfold ostiaryref6_Essence.f
  have he : B mj ++ (⟨#[47]⟩ : ByteArray) = B (mj ++ [47]) := B_append mj [47]
  rw [if_pos (by rw [size_B]; omega), he, if_pos (by rw [size_B, size_B]; simp; omega), B_append]
  simp
theorem impEssence_f (mj mn : List UInt8) (ps : List Prm) (h : mj.length + mn.length ≤ 1000000000000) : mime_Essence.f (B mj) (B mn) ps = some (B (mj ++ 47 :: mn)) := by
  unfold mime_Essence.f
  have he : B mj ++ (⟨#[47]⟩ : ByteArray) = B (mj ++ [47]) := B_append mj [47]
  rw [if_pos (by rw [size_B]; omega), he, if_pos (by rw [size_B, size_B]; simp; omega), B_append]
  simp
theorem refText_ev (mj mn : List UInt8) (ps : List Prm) (hl : ps.length ≤ 1000000) (hv : ∀ p, p ∈ ps → p.f1.size ≤ 1000000) (hb : (textL mj mn ps).length ≤ 100000000000) :
    Ev (fun k => ostiaryref6_Text.f k (B mj) (B mn) (ps.map toR)) (B (textL mj mn ps)) := by
  unfold ostiaryref6_Text.f
  unfold textL at hb ⊢
  have hb2 := hb
  rw [List.length_append, List.length_append, List.length_cons] at hb2
  refine Ev.bnd0 (refEssence_f mj mn _ (by omega)) ?_
  have := refText_l0 (B mj) (B mn) ps hl hv ps.length 0 (mj ++ 47 :: mn) (by omega) (by rw [List.drop_zero]; omega)
  rw [List.drop_zero] at this
  exact this
theorem suffix_ev (l p : List UInt8) (h : l.length ≤ 1000000000000) : strings_HasSuffix.f (B l) (B p) = some (endsR l p) := by
  have := endsR_ev l p h
  unfold ostiaryref1_Ends.f at this
  unfold strings_HasSuffix.f stringslite_HasSuffix.f
  rw [this]
  rfl
theorem rdB_at {l : List ByteArray} {i : Nat} (h : i < l.length) : rdOf ByteArray.empty l (i : Int) = l[i] := by
  unfold rdOf
  rw [Int.toNat_natCast, List.getD_eq_getElem?_getD, List.getElem?_eq_getElem h]; rfl
theorem index_l0 (l : List ByteArray) (x : ByteArray) (hl : l.length ≤ 1000000) : ∀ (d i : Nat), i + d = l.length → ∃ r : Int, Ev (fun k => slices_Index.l0 k l x (l.length : Int) (i : Int)) r ∧ decide (r ≥ 0) = hasRB (l.drop i) x
  | 0, i, h => by
    rw [List.drop_of_length_le (by omega)]
    refine ⟨-1, Ev.step (f := fun _ => some (-1)) (fun k => ?_) (Ev.now _), rfl⟩
    simp only [slices_Index.l0]
    rw [if_neg (by omega)]
  | d + 1, i, h => by
    have hi : i < l.length := by omega
    obtain ⟨r, ih, hr⟩ := index_l0 l x hl d (i + 1) (by omega)
    rw [List.drop_eq_getElem_cons hi]
    unfold hasRB at hr ⊢
    rw [List.any_cons]
    have hst : ∀ k, slices_Index.l0 (k + 1) l x (l.length : Int) (i : Int) = if x.toList = l[i].toList then some (i : Int) else slices_Index.l0 k l x (l.length : Int) ((i + 1 : Nat) : Int) := fun k => by
      simp only [slices_Index.l0]
      rw [if_pos (by omega), if_pos (by omega), if_pos (by omega), rdB_at hi, w64 (by omega) (by omega)]
      rfl
    by_cases hc : x.toList = l[i].toList
    · refine ⟨(i : Int), Ev.step hst (Ev.ite_pos hc (Ev.now _)), ?_⟩
      rw [beq_iff_eq.2 hc.symm, Bool.true_or]
      exact decide_eq_true (by omega)
    · refine ⟨r, Ev.step hst (Ev.ite_neg hc ih), ?_⟩
      rw [beq_eq_false_iff_ne.2 (Ne.symm hc), Bool.false_or, hr]
theorem contains_ev (l : List ByteArray) (x : ByteArray) (hl : l.length ≤ 1000000) : Ev (fun k => slices_Contains.f k l x) (hasRB l x) := by
  obtain ⟨r, h, hr⟩ := index_l0 l x hl l.length 0 (by omega)
  rw [List.drop_zero] at hr
  unfold slices_Contains.f slices_Index.f
  rw [← hr]
  exact Ev.bnd h (Ev.now _)
theorem Ev.ite2 {α : Type} {c : Prop} [Decidable c] {g f : Nat → Option α} {r s : α} (h : Ev g r) (h2 : Ev f s) : Ev (fun k => if c then g k else f k) (if c then r else s) := by
  by_cases hc : c
  · rw [if_pos hc]; exact Ev.ite_pos hc h
  · rw [if_neg hc]; exact Ev.ite_neg hc h2
abbrev appL : List UInt8 := [97, 112, 112, 108, 105, 99, 97, 116, 105, 111, 110]
abbrev txtL : List UInt8 := [116, 101, 120, 116]
abbrev jsonL : List UInt8 := [106, 115, 111, 110]
abbrev xmlL : List UInt8 := [120, 109, 108]
abbrev cssL : List UInt8 := [99, 115, 115]
abbrev jscL : List UInt8 := [106, 115, 99, 114, 105, 112, 116]
abbrev pJson : List UInt8 := [43, 106, 115, 111, 110]
abbrev pXml : List UInt8 := [43, 120, 109, 108]
abbrev imgL : List UInt8 := [105, 109, 97, 103, 101]
abbrev audL : List UInt8 := [97, 117, 100, 105, 111]
abbrev vidL : List UInt8 := [118, 105, 100, 101, 111]
def groupL (mj mn : List UInt8) : Int :=
  if ((mj = appL ∨ mj = txtL) ∧ hasRB jsR (B mn) = true) ∨ (mj = txtL ∧ mn = jscL) then 1
  else if ((mj = appL ∨ mj = txtL) ∧ mn = jsonL) ∨ endsR mn pJson = true then 2
  else if ((mj = appL ∨ mj = txtL) ∧ mn = xmlL) ∨ endsR mn pXml = true then 3
  else if mj = imgL then 4
  else if mj = txtL ∧ mn = cssL then 5
  else if mj = audL ∨ mj = vidL then 6
  else 0
theorem ess_iff {mj x mn y : List UInt8} (h : ∀ c, c ∈ mj → c ≠ 47) (hx : ∀ c, c ∈ x → c ≠ 47) : mj ++ 47 :: mn = x ++ 47 :: y ↔ mj = x ∧ mn = y := by
  constructor
  · intro e
    have h1 := cutc_hit 47 mj mn h
    have h2 := cutc_hit 47 x y hx
    rw [e, h2] at h1
    simp only [Prod.mk.injEq, and_true] at h1
    exact ⟨h1.1.symm, h1.2.symm⟩
  · rintro ⟨rfl, rfl⟩; rfl
end Go.Proofs.YteehjlciajhdoaaGreatDoor.X
namespace Go.Proofs.YteehjlciajhdoaaGreatDoor.X
set_option linter.unusedVariables false
set_option linter.unusedSimpArgs false
open Go.RowKit Go.Proofs.YteehjlciajhdoaaGreatDoorW.PrintWords Go.Proofs.YteehjlciajhdoaaGreatDoorW.PrintLast Go.Proofs.YteehjlciajhdoaaGreatDoorW.PrintMore
theorem iteS {α : Type} {c : Prop} [Decidable c] (a b : α) : (if c then some a else some b) = some (if c then a else b) := by split <;> rfl
section
variable (mj mn : List UInt8)
def g3 (b : Bool) : Int := if b = true then 3 else if mj = imgL then 4 else if mj = txtL ∧ mn = cssL then 5 else if mj = audL ∨ mj = vidL then 6 else 0
def g2 (b : Bool) : Int := if b = true then 2 else g3 mj mn (decide ((mj = appL ∨ mj = txtL) ∧ mn = xmlL) || endsR mn pXml)
def g1 (b : Bool) : Int := if b = true then 1 else g2 mj mn (decide ((mj = appL ∨ mj = txtL) ∧ mn = jsonL) || endsR mn pJson)
theorem group_g1 : groupL mj mn = g1 mj mn (decide (((mj = appL ∨ mj = txtL) ∧ hasRB jsR (B mn) = true) ∨ (mj = txtL ∧ mn = jscL))) := by
  unfold groupL g1 g2 g3
  simp only [decide_eq_true_eq, Bool.or_eq_true]
end
theorem group_ev (mj mn : List UInt8) (ps : List Prm) (h : mj.length + mn.length ≤ 1000000000) (hm : ∀ c, c ∈ mj → c ≠ 47) : Ev (fun k => mime_Group.f k (B mj) (B mn) ps) (groupL mj mn) := by
  have e1 : (mj ++ 47 :: mn = [116, 101, 120, 116, 47, 106, 115, 99, 114, 105, 112, 116]) ↔ (mj = txtL ∧ mn = jscL) := ess_iff (x := txtL) (y := jscL) hm (by decide)
  have e2 : (mj ++ 47 :: mn = [97, 112, 112, 108, 105, 99, 97, 116, 105, 111, 110, 47, 106, 115, 111, 110]) ↔ (mj = appL ∧ mn = jsonL) := ess_iff (x := appL) (y := jsonL) hm (by decide)
  have e3 : (mj ++ 47 :: mn = [116, 101, 120, 116, 47, 106, 115, 111, 110]) ↔ (mj = txtL ∧ mn = jsonL) := ess_iff (x := txtL) (y := jsonL) hm (by decide)
  have e4 : (mj ++ 47 :: mn = [97, 112, 112, 108, 105, 99, 97, 116, 105, 111, 110, 47, 120, 109, 108]) ↔ (mj = appL ∧ mn = xmlL) := ess_iff (x := appL) (y := xmlL) hm (by decide)
  have e5 : (mj ++ 47 :: mn = [116, 101, 120, 116, 47, 120, 109, 108]) ↔ (mj = txtL ∧ mn = xmlL) := ess_iff (x := txtL) (y := xmlL) hm (by decide)
  have e6 : (mj ++ 47 :: mn = [116, 101, 120, 116, 47, 99, 115, 115]) ↔ (mj = txtL ∧ mn = cssL) := ess_iff (x := txtL) (y := cssL) hm (by decide)
  have s1 : strings_HasSuffix.f (B mn) (⟨#[43, 106, 115, 111, 110]⟩ : ByteArray) = some (endsR mn pJson) := suffix_ev mn pJson (by omega)
  have s2 : strings_HasSuffix.f (B mn) (⟨#[43, 120, 109, 108]⟩ : ByteArray) = some (endsR mn pXml) := suffix_ev mn pXml (by omega)
  have hj3 : ∀ b : Bool, Ev (fun k => mime_Group.j3 k (B (mj ++ 47 :: mn)) b (B mj) (B mn) ps) (g3 mj mn b) := fun b => by
    refine Ev.step (f := fun _ => some (g3 mj mn b)) (fun k => ?_) (Ev.now _)
    simp only [mime_Group.j3, toList_B, e6]
    unfold g3
    by_cases h4 : mj = audL
    · rw [if_pos h4, if_pos (show mj = audL ∨ mj = vidL from .inl h4)]; simp only [iteS]
    · rw [if_neg h4]
      by_cases h5 : mj = vidL
      · rw [if_pos h5, if_pos (show mj = audL ∨ mj = vidL from .inr h5)]; simp only [iteS]
      · rw [if_neg h5, if_neg (show ¬ (mj = audL ∨ mj = vidL) from not_or.2 ⟨h4, h5⟩)]; simp only [iteS]
  have hj2 : ∀ b : Bool, Ev (fun k => mime_Group.j2 k (B (mj ++ 47 :: mn)) b (B mj) (B mn) ps) (g2 mj mn b) := fun b => by
    refine Ev.step (f := fun k => if b = true then some 2 else mime_Group.j3 k (B (mj ++ 47 :: mn)) (decide ((mj = appL ∨ mj = txtL) ∧ mn = xmlL) || endsR mn pXml) (B mj) (B mn) ps) (fun k => ?_) ?_
    · simp only [mime_Group.j2, toList_B, e4, e5, s2, Option.bind_some]
      by_cases h1 : mj = appL ∧ mn = xmlL
      · rw [if_pos h1, beq_iff_eq.2 (e4.2 h1), decide_eq_true (show (mj = appL ∨ mj = txtL) ∧ mn = xmlL from ⟨.inl h1.1, h1.2⟩), Bool.true_or]
      · rw [if_neg h1]
        by_cases h2 : mj = txtL ∧ mn = xmlL
        · rw [if_pos h2, beq_iff_eq.2 (e5.2 h2), decide_eq_true (show (mj = appL ∨ mj = txtL) ∧ mn = xmlL from ⟨.inr h2.1, h2.2⟩), Bool.true_or]
        · rw [if_neg h2, decide_eq_false (show ¬ ((mj = appL ∨ mj = txtL) ∧ mn = xmlL) from by rintro ⟨h3 | h3, h4⟩; exact h1 ⟨h3, h4⟩; exact h2 ⟨h3, h4⟩), Bool.false_or]
    · unfold g2
      exact Ev.ite2 (Ev.now _) (hj3 _)
  have hj1 : ∀ b : Bool, Ev (fun k => mime_Group.j1 k (B (mj ++ 47 :: mn)) b (B mj) (B mn) ps) (g1 mj mn b) := fun b => by
    refine Ev.step (f := fun k => if b = true then some 1 else mime_Group.j2 k (B (mj ++ 47 :: mn)) (decide ((mj = appL ∨ mj = txtL) ∧ mn = jsonL) || endsR mn pJson) (B mj) (B mn) ps) (fun k => ?_) ?_
    · simp only [mime_Group.j1, toList_B, e2, e3, s1, Option.bind_some]
      by_cases h1 : mj = appL ∧ mn = jsonL
      · rw [if_pos h1, beq_iff_eq.2 (e2.2 h1), decide_eq_true (show (mj = appL ∨ mj = txtL) ∧ mn = jsonL from ⟨.inl h1.1, h1.2⟩), Bool.true_or]
      · rw [if_neg h1]
        by_cases h2 : mj = txtL ∧ mn = jsonL
        · rw [if_pos h2, beq_iff_eq.2 (e3.2 h2), decide_eq_true (show (mj = appL ∨ mj = txtL) ∧ mn = jsonL from ⟨.inr h2.1, h2.2⟩), Bool.true_or]
        · rw [if_neg h2, decide_eq_false (show ¬ ((mj = appL ∨ mj = txtL) ∧ mn = jsonL) from by rintro ⟨h3 | h3, h4⟩; exact h1 ⟨h3, h4⟩; exact h2 ⟨h3, h4⟩), Bool.false_or]
    · unfold g1
      exact Ev.ite2 (Ev.now _) (hj2 _)
  have hj0 : ∀ b : Bool, Ev (fun k => mime_Group.j0 k (B (mj ++ 47 :: mn)) b (B mj) (B mn) ps) (g1 mj mn (b || decide (mj = txtL ∧ mn = jscL))) := fun b => by
    refine Ev.step (f := fun k => mime_Group.j1 k (B (mj ++ 47 :: mn)) (b || decide (mj = txtL ∧ mn = jscL)) (B mj) (B mn) ps) (fun k => ?_) (hj1 _)
    simp only [mime_Group.j0, toList_B]
    cases b
    · rw [if_neg (by decide), Bool.false_or]
      congr 1
      rw [Bool.eq_iff_iff, beq_iff_eq, decide_eq_true_eq]
      exact e1
    · rw [if_pos rfl, Bool.true_or]
  unfold mime_Group.f
  refine Ev.bnd0 (impEssence_f mj mn ps (by omega)) ?_
  refine Ev.bnd (contains_ev jsR (B mn) (by decide)) ?_
  rw [group_g1]
  simp only [toList_B]
  cases hc : hasRB jsR (B mn) with
  | false =>
    refine Ev.ite_neg (by decide) ?_
    have := hj0 false
    rw [Bool.false_or] at this
    simpa using this
  | true =>
    refine Ev.ite_pos rfl ?_
    by_cases h1 : mj = appL
    · refine Ev.ite_pos h1 ?_
      have := hj0 true
      rw [Bool.true_or] at this
      rwa [decide_eq_true (show (((mj = appL ∨ mj = txtL) ∧ true = true) ∨ (mj = txtL ∧ mn = jscL)) from .inl ⟨.inl h1, rfl⟩)]
    · refine Ev.ite_neg h1 ?_
      have := hj0 (mj == txtL)
      have he : ((mj == txtL) || decide (mj = txtL ∧ mn = jscL)) = decide (((mj = appL ∨ mj = txtL) ∧ true = true) ∨ (mj = txtL ∧ mn = jscL)) := by
        by_cases h2 : mj = txtL
        · rw [beq_iff_eq.2 h2, Bool.true_or, decide_eq_true (show (((mj = appL ∨ mj = txtL) ∧ true = true) ∨ (mj = txtL ∧ mn = jscL)) from .inl ⟨.inr h2, rfl⟩)]
        · rw [beq_eq_false_iff_ne.2 h2, Bool.false_or]
          congr 1
          simp [h1, h2]
      rwa [he] at this
theorem refGroup_f (mj mn : List UInt8) (ps : List RPrm) (h : mj.length + mn.length ≤ 1000000000) : ostiaryref6_Group.f (B mj) (B mn) ps = some (groupL mj mn) := by
  unfold ostiaryref6_Group.f
  rw [size_B, if_pos (by omega), Ls_B, Ls_B]
  congr 1
  unfold refGroupP gB groupL
  simp only [Bool.and_eq_true, Bool.or_eq_true, beq_iff_eq]
  cases hc : hasRB jsR (B mn) <;> cases h1 : endsR mn pJson <;> cases h2 : endsR mn pXml <;>
    by_cases a1 : mj = appL <;> first
      | (subst a1; by_cases b1 : mn = jsonL <;> by_cases b2 : mn = xmlL <;> simp [b1, b2])
      | (by_cases a2 : mj = txtL <;> first
          | (subst a2; by_cases b0 : mn = jscL <;> by_cases b1 : mn = jsonL <;> by_cases b2 : mn = xmlL <;> by_cases b3 : mn = cssL <;> simp [b0, b1, b2, b3])
          | (by_cases a3 : mj = imgL <;> by_cases a4 : mj = audL <;> by_cases a5 : mj = vidL <;> simp [a1, a2, a3, a4, a5]))
theorem parses_ev (a0 : ByteArray) : Ev (fun k => ostiarylaw6_MimeParses.f k a0) true := by
  obtain ⟨l, hl, hll, _⟩ := few_f a0 500 (by omega)
  have hp := parse_f l (by omega)
  have hr := refParse_ev l (by omega)
  unfold ostiarylaw6_MimeParses.f
  refine Ev.bnd0 hl (Ev.bnd0 hp (Ev.bnd hr ?_))
  refine Ev.ite_pos (by simp) ?_
  rcases parse_good l with h1 | ⟨mj, mn, ps, h1, t1, t2, l1, l2, hg, h2, h3, h4⟩
  · rw [h1]
    refine Ev.bnd (lawSame_ev (B []) (B []) [] (by simp)) (Ev.ite_pos rfl (Ev.ite_neg (by decide) (Ev.bnd known_ev (Ev.now _))))
  · rw [h1]
    have hb := textL_bound mj mn l.length ps hg
    have hb2 : ps.length * (3 * l.length + 4) ≤ 501 * 1504 := Nat.mul_le_mul (by omega) (by omega)
    have htl : (textL mj mn ps).length ≤ 1000000 := by
      unfold textL
      rw [List.length_append, List.length_append, List.length_cons]
      omega
    have hv : ∀ p, p ∈ ps → p.f1.size ≤ 1000000 := fun p hp => by
      have := (hg.small p hp).2
      rw [size_Ls]; omega
    have hm : ∀ c, c ∈ mj → c ≠ 47 := fun c hc => (tokc_ne c (((isTok_iff mj).1 t1).1 c hc)).2.1
    refine Ev.bnd (lawSame_ev (B mj) (B mn) ps (by omega)) (Ev.ite_pos rfl (Ev.ite_pos rfl ?_))
    refine Ev.bnd0 (text_f mj mn ps (fun p hp => by have := hv p hp; omega) (by omega)) (Ev.bnd (refText_ev mj mn ps (by omega) hv (by omega)) (Ev.ite_pos rfl ?_))
    refine Ev.bnd0 (impEssence_f mj mn ps (by omega)) (Ev.bnd0 (refEssence_f mj mn _ (by omega)) (Ev.ite_pos rfl ?_))
    exact Ev.bnd (group_ev mj mn ps (by omega) hm) (Ev.bnd0 (refGroup_f mj mn _ (by omega)) (Ev.ite_pos rfl (Ev.bnd known_ev (Ev.now _))))
end Go.Proofs.YteehjlciajhdoaaGreatDoor.X
