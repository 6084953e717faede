/- F17, F138, F78, F139, F79, F31, F34, F35: this session's texts, joined; what the claim does not name is left out. -/
import Derived.Test.YteehjlciajhdoaaGreatDoorZc3
namespace Go.Proofs.YteehjlciajhdoaaGreatDoor.X
open Go.RowKit Go.Proofs.YteehjlciajhdoaaGreatDoorW.PrintWords Go.Proofs.YteehjlciajhdoaaGreatDoorW.PrintLast Go.Proofs.YteehjlciajhdoaaGreatDoorW.PrintMore
attribute [local go_sem] max2_int min2_int max_two min_two max_three min_three max_four min_four
set_option linter.unusedVariables false
set_option linter.unusedSimpArgs false
def ostiarylaw6_known.f (k : Nat)  : Option (Bool) := (ostiarylaw6_kinds.f k (([(⟨#[116, 101, 120, 116, 47, 97, 59, 99, 104, 97, 114, 115, 101, 116, 61, 120]⟩ : ByteArray), (⟨#[116, 101, 120, 116, 47, 97]⟩ : ByteArray)] : List ByteArray))).bind fun t104 => ((mime_Extract.f k t104).bind fun bt107 => ((ostiarylaw6_text.f (⟨#[84, 101, 120, 116, 47, 72, 84, 77, 76, 32, 59, 32, 67, 104, 97, 114, 115, 101, 116, 61, 34, 97, 92, 34, 98, 34, 32, 59, 120]⟩ : ByteArray)).bind fun t114 => (if t114.toList = ([116, 101, 120, 116, 47, 104, 116, 109, 108, 59, 99, 104, 97, 114, 115, 101, 116, 61, 34, 97, 92, 34, 98, 34] : List UInt8) then (if bt107.2.2.2 = true then ((mime_Text.f bt107.1 bt107.2.1 bt107.2.2.1).bind fun t115 => (if t115.toList = ([116, 101, 120, 116, 47, 97, 59, 99, 104, 97, 114, 115, 101, 116, 61, 120] : List UInt8) then ((ostiarylaw6_text.f (⟨#[97, 47]⟩ : ByteArray)).bind fun t116 => (some (t116.toList == ([] : List UInt8)))) else (some false))) else (some false)) else (some false))))
theorem ostiarylaw6_known.mono : ∀ k, LeO (ostiarylaw6_known.f k ) (ostiarylaw6_known.f (k + 1) ) := by
  intro  k
  unfold ostiarylaw6_known.f
  repeat' first
      | (with_reducible exact mime_Extract.mono _ _)
      | (with_reducible exact ostiarylaw6_kinds.mono _ _)
      | (with_reducible exact LeO.refl _)
      | (with_reducible exact LeO.none _)
      | (with_reducible refine LeO.ite ?_ ?_)
      | (with_reducible refine LeO.bind ?_ (fun _ => ?_))
      | exact mime_Extract.mono _ _
      | exact ostiarylaw6_kinds.mono _ _
      | exact LeO.none _
      | refine LeO.ite ?_ ?_
      | refine LeO.bind ?_ (fun _ => ?_)
set_option maxHeartbeats 8000000 in
set_option maxRecDepth 100000 in
theorem ostiarylaw6_known.calls (k : Nat)  (r : Bool) (w : World) (h : ostiarylaw6_known.f k  = some r) :
    Calls Tryz.prog 17 #[] w fun e w' => e = .returned (.bool r) ∧ Below w.heap.size w w' := by
  have hu24 := Tryz.underlying24
  have HB := Aside0.mk (Below.refl w.heap.size w)
  have H : ((ostiarylaw6_kinds.f k (([(⟨#[116, 101, 120, 116, 47, 97, 59, 99, 104, 97, 114, 115, 101, 116, 61, 120]⟩ : ByteArray), (⟨#[116, 101, 120, 116, 47, 97]⟩ : ByteArray)] : List ByteArray))).bind fun t104 => ((mime_Extract.f k t104).bind fun bt107 => ((ostiarylaw6_text.f (⟨#[84, 101, 120, 116, 47, 72, 84, 77, 76, 32, 59, 32, 67, 104, 97, 114, 115, 101, 116, 61, 34, 97, 92, 34, 98, 34, 32, 59, 120]⟩ : ByteArray)).bind fun t114 => (if t114.toList = ([116, 101, 120, 116, 47, 104, 116, 109, 108, 59, 99, 104, 97, 114, 115, 101, 116, 61, 34, 97, 92, 34, 98, 34] : List UInt8) then (if bt107.2.2.2 = true then ((mime_Text.f bt107.1 bt107.2.1 bt107.2.2.1).bind fun t115 => (if t115.toList = ([116, 101, 120, 116, 47, 97, 59, 99, 104, 97, 114, 115, 101, 116, 61, 120] : List UInt8) then ((ostiarylaw6_text.f (⟨#[97, 47]⟩ : ByteArray)).bind fun t116 => (some (t116.toList == ([] : List UInt8)))) else (some false))) else (some false)) else (some false))))) = some r := h
  clear h
  obtain ⟨y101, hy101⟩ : ∃ y_ : List ByteArray, y_ = (([(⟨#[116, 101, 120, 116, 47, 97, 59, 99, 104, 97, 114, 115, 101, 116, 61, 120]⟩ : ByteArray), (⟨#[116, 101, 120, 116, 47, 97]⟩ : ByteArray)] : List ByteArray)) := ⟨_, rfl⟩
  replace H : ((ostiarylaw6_kinds.f k y101).bind fun t104 => ((mime_Extract.f k t104).bind fun bt107 => ((ostiarylaw6_text.f (⟨#[84, 101, 120, 116, 47, 72, 84, 77, 76, 32, 59, 32, 67, 104, 97, 114, 115, 101, 116, 61, 34, 97, 92, 34, 98, 34, 32, 59, 120]⟩ : ByteArray)).bind fun t114 => (if t114.toList = ([116, 101, 120, 116, 47, 104, 116, 109, 108, 59, 99, 104, 97, 114, 115, 101, 116, 61, 34, 97, 92, 34, 98, 34] : List UInt8) then (if bt107.2.2.2 = true then ((mime_Text.f bt107.1 bt107.2.1 bt107.2.2.1).bind fun t115 => (if t115.toList = ([116, 101, 120, 116, 47, 97, 59, 99, 104, 97, 114, 115, 101, 116, 61, 120] : List UInt8) then ((ostiarylaw6_text.f (⟨#[97, 47]⟩ : ByteArray)).bind fun t116 => (some (t116.toList == ([] : List UInt8)))) else (some false))) else (some false)) else (some false))))) = some r := by first | (rw [hy101]; with_reducible exact H) | (have H2_ := (Option.bind_some _ _).symm.trans H; rw [hy101]; with_reducible exact H2_) | (have H2_ := (Option.bind_some _ _).symm.trans H; with_reducible exact H2_) | with_reducible exact H | (rw [hy101]; exact H) | exact H
  have Ny101 := Aside0.mk hy101
  clear hy101
  replace H := Option.bind_eq_some_iff.mp H
  obtain ⟨t104, A10, H⟩ := H
  replace H : ((mime_Extract.f k t104).bind fun bt107 => ((ostiarylaw6_text.f (⟨#[84, 101, 120, 116, 47, 72, 84, 77, 76, 32, 59, 32, 67, 104, 97, 114, 115, 101, 116, 61, 34, 97, 92, 34, 98, 34, 32, 59, 120]⟩ : ByteArray)).bind fun t114 => (if t114.toList = ([116, 101, 120, 116, 47, 104, 116, 109, 108, 59, 99, 104, 97, 114, 115, 101, 116, 61, 34, 97, 92, 34, 98, 34] : List UInt8) then (if bt107.2.2.2 = true then ((mime_Text.f bt107.1 bt107.2.1 bt107.2.2.1).bind fun t115 => (if t115.toList = ([116, 101, 120, 116, 47, 97, 59, 99, 104, 97, 114, 115, 101, 116, 61, 120] : List UInt8) then ((ostiarylaw6_text.f (⟨#[97, 47]⟩ : ByteArray)).bind fun t116 => (some (t116.toList == ([] : List UInt8)))) else (some false))) else (some false)) else (some false)))) = some r := H
  have A1 := Aside0.mk A10
  clear A10
  replace H := Option.bind_eq_some_iff.mp H
  obtain ⟨⟨t107, t108, t109, t112⟩, A20, H⟩ := H
  replace H : ((ostiarylaw6_text.f (⟨#[84, 101, 120, 116, 47, 72, 84, 77, 76, 32, 59, 32, 67, 104, 97, 114, 115, 101, 116, 61, 34, 97, 92, 34, 98, 34, 32, 59, 120]⟩ : ByteArray)).bind fun t114 => (if t114.toList = ([116, 101, 120, 116, 47, 104, 116, 109, 108, 59, 99, 104, 97, 114, 115, 101, 116, 61, 34, 97, 92, 34, 98, 34] : List UInt8) then (if t112 = true then ((mime_Text.f t107 t108 t109).bind fun t115 => (if t115.toList = ([116, 101, 120, 116, 47, 97, 59, 99, 104, 97, 114, 115, 101, 116, 61, 120] : List UInt8) then ((ostiarylaw6_text.f (⟨#[97, 47]⟩ : ByteArray)).bind fun t116 => (some (t116.toList == ([] : List UInt8)))) else (some false))) else (some false)) else (some false))) = some r := H
  have A2 := Aside0.mk A20
  clear A20
  replace H := Option.bind_eq_some_iff.mp H
  obtain ⟨t114, A30, H⟩ := H
  replace H : (if t114.toList = ([116, 101, 120, 116, 47, 104, 116, 109, 108, 59, 99, 104, 97, 114, 115, 101, 116, 61, 34, 97, 92, 34, 98, 34] : List UInt8) then (if t112 = true then ((mime_Text.f t107 t108 t109).bind fun t115 => (if t115.toList = ([116, 101, 120, 116, 47, 97, 59, 99, 104, 97, 114, 115, 101, 116, 61, 120] : List UInt8) then ((ostiarylaw6_text.f (⟨#[97, 47]⟩ : ByteArray)).bind fun t116 => (some (t116.toList == ([] : List UInt8)))) else (some false))) else (some false)) else (some false)) = some r := H
  have A3 := Aside0.mk A30
  clear A30
  by_cases c4 : t114.toList = ([116, 101, 120, 116, 47, 104, 116, 109, 108, 59, 99, 104, 97, 114, 115, 101, 116, 61, 34, 97, 92, 34, 98, 34] : List UInt8)
  · rw [if_pos c4] at H
    have c4b0 : (t114.toList == ([116, 101, 120, 116, 47, 104, 116, 109, 108, 59, 99, 104, 97, 114, 115, 101, 116, 61, 34, 97, 92, 34, 98, 34] : List UInt8)) = true := beq_iff_eq.mpr c4
    have c4b1 : (t114.toList != ([116, 101, 120, 116, 47, 104, 116, 109, 108, 59, 99, 104, 97, 114, 115, 101, 116, 61, 34, 97, 92, 34, 98, 34] : List UInt8)) = false := bne_eq_false_iff_eq.mpr c4
    clear c4
    by_cases c5 : t112 = true
    · subst c5
      have H1 : ((mime_Text.f t107 t108 t109).bind fun t115 => (if t115.toList = ([116, 101, 120, 116, 47, 97, 59, 99, 104, 97, 114, 115, 101, 116, 61, 120] : List UInt8) then ((ostiarylaw6_text.f (⟨#[97, 47]⟩ : ByteArray)).bind fun t116 => (some (t116.toList == ([] : List UInt8)))) else (some false))) = some r := by rw [if_pos rfl] at H; exact H
      clear H
      have H := H1
      clear H1
      replace H := Option.bind_eq_some_iff.mp H
      obtain ⟨t115, A60, H⟩ := H
      replace H : (if t115.toList = ([116, 101, 120, 116, 47, 97, 59, 99, 104, 97, 114, 115, 101, 116, 61, 120] : List UInt8) then ((ostiarylaw6_text.f (⟨#[97, 47]⟩ : ByteArray)).bind fun t116 => (some (t116.toList == ([] : List UInt8)))) else (some false)) = some r := H
      have A6 := Aside0.mk A60
      clear A60
      by_cases c7 : t115.toList = ([116, 101, 120, 116, 47, 97, 59, 99, 104, 97, 114, 115, 101, 116, 61, 120] : List UInt8)
      · rw [if_pos c7] at H
        have c7b0 : (t115.toList == ([116, 101, 120, 116, 47, 97, 59, 99, 104, 97, 114, 115, 101, 116, 61, 120] : List UInt8)) = true := beq_iff_eq.mpr c7
        have c7b1 : (t115.toList != ([116, 101, 120, 116, 47, 97, 59, 99, 104, 97, 114, 115, 101, 116, 61, 120] : List UInt8)) = false := bne_eq_false_iff_eq.mpr c7
        clear c7
        replace H := Option.bind_eq_some_iff.mp H
        obtain ⟨t116, A80, H⟩ := H
        replace H : (some (t116.toList == ([] : List UInt8))) = some r := H
        have A8 := Aside0.mk A80
        clear A80
        obtain rfl := Option.some.inj H
        go_enter Tryz.func17, Tryz.ntmps17
        go_wp2_with (first | ((with_reducible refine gate_dst (N := 4) rfl ?_); refine Kd.R_lit Kd.string _ 9 ?hg (N := 4) ?hd (xs := ([(⟨#[116, 101, 120, 116, 47, 97, 59, 99, 104, 97, 114, 115, 101, 116, 61, 120]⟩ : ByteArray), (⟨#[116, 101, 120, 116, 47, 97]⟩ : ByteArray)] : List ByteArray)) (inner := [.string (⟨#[116, 101, 120, 116, 47, 97, 59, 99, 104, 97, 114, 115, 101, 116, 61, 120]⟩ : ByteArray), .string (⟨#[116, 101, 120, 116, 47, 97]⟩ : ByteArray)]) (ok := fun _ => True) (okp := fun _ => True) ?hr ?hp (fun _ hk => hk) trivial (Below.refl _ _) (Nat.le_refl _) (by simp) ?_; (case hd => rfl); (case hg => rfl); (case hr => first | (go_simp; done) | (go_simp; rfl)); (case hp => exact (Reps.one (show Kd.M Kd.string _ _ _ (⟨#[116, 101, 120, 116, 47, 97, 59, 99, 104, 97, 114, 115, 101, 116, 61, 120]⟩ : ByteArray) [.string (⟨#[116, 101, 120, 116, 47, 97, 59, 99, 104, 97, 114, 115, 101, 116, 61, 120]⟩ : ByteArray)] from rfl) (Reps.one (show Kd.M Kd.string _ _ _ (⟨#[116, 101, 120, 116, 47, 97]⟩ : ByteArray) [.string (⟨#[116, 101, 120, 116, 47, 97]⟩ : ByteArray)] from rfl) (Reps.none _ _)))); intro v102 w9 ho10 hb hg_ hnew_; clear hg_ hnew_; (first | rw [← Ny101.out] at ho10 | (simp only [Int.reduceToNat] at ho10; rw [← Ny101.out] at ho10)); have n0_ := Aside0.mk (Kd.R_lower ho10 (below_size (by repeat (first | (with_reducible first | exact HB.out | apply below_alloc | apply pw_below_drewN | apply below_drew1) | exact HB.out)))); have n1_ := Aside0.mk (below_step (by repeat (first | (with_reducible first | exact HB.out | apply below_alloc | apply pw_below_drewN | apply below_drew1) | exact HB.out)) hb); clear HB; have HO103 := n0_; have HB := n1_; clear n0_ n1_; clear hb ho10; obtain ⟨Ao11, co11, eo11⟩ := Kd.R_slice HO103.out; subst eo11) | ((with_reducible refine gate_callee (f := 21) rfl ?_); refine goesL_ (some 5) rfl rfl Tryz.func21 (by kernel_rfl) rfl #[.slice Ao11 y101.length co11] rfl (by (try simp only [List.map_toArray, List.map_cons, List.map_nil]); first | done | rfl | (simp only [List.length_drop, List.length_take]; rfl)) ?_; (with_reducible refine (ostiarylaw6_kinds.calls k _ _ y101 t104 _ ?side1 ?side2 A1.out).mono ?_); (case side1 => repeat (first | exact (Kd.R_reads' HO103.out).2.2 | (with_reducible refine Kd.C_alloc ?_ _) | (with_reducible refine Kd.C_drewN ?_ _) | (with_reducible refine Kd.C_drew ?_))); (case side2 => exact (Kd.R_reads' HO103.out).2.1); rintro e w12 ⟨v105, rfl, ho0, hb⟩; refine ⟨_, rfl, ?_⟩; have n0_ := Aside0.mk (Kd.R_below (by (with_reducible repeat (first | apply Kd.R_alloc | apply Kd.R_drewN | apply Kd.R_drew)); exact HO103.out) hb); have n1_ := Aside0.mk (Kd.R_lower ho0 (below_size (by repeat (first | (with_reducible first | exact HB.out | apply below_alloc | apply pw_below_drewN | apply below_drew1) | exact HB.out)))); have n2_ := Aside0.mk (below_step (by repeat (first | (with_reducible first | exact HB.out | apply below_alloc | apply pw_below_drewN | apply below_drew1) | exact HB.out)) hb); clear HO103; clear HB; have HO103 := n0_; have HO106 := n1_; have HB := n2_; clear n0_ n1_ n2_; (try clear hb); (try clear hb2); (try clear hk); (try clear hi); (try clear ho0); obtain ⟨Ao13, co13, eo13⟩ := Kd.R_slice HO106.out; subst eo13) | ((with_reducible refine gate_callee (f := 20) rfl ?_); refine goesL_ (some 6) rfl rfl Tryz.func20 (by kernel_rfl) rfl #[.slice Ao13 t104.length co13] rfl (by (try simp only [List.map_toArray, List.map_cons, List.map_nil]); first | done | rfl | (simp only [List.length_drop, List.length_take]; rfl)) ?_; (with_reducible refine (mime_Extract.calls k _ _ t104 t107 t108 t109 true _ ?side1 ?side2 A2.out).mono ?_); (case side1 => repeat (first | exact (Kd.R_reads' HO106.out).2.2 | (with_reducible refine Kd.C_alloc ?_ _) | (with_reducible refine Kd.C_drewN ?_ _) | (with_reducible refine Kd.C_drew ?_))); (case side2 => exact (Kd.R_reads' HO106.out).2.1); rintro e w14 ⟨v110, rfl, ho0, hb⟩; refine ⟨_, rfl, ?_⟩; have n0_ := Aside0.mk (Kd.R_below (by (with_reducible repeat (first | apply Kd.R_alloc | apply Kd.R_drewN | apply Kd.R_drew)); exact HO103.out) hb); have n1_ := Aside0.mk (Kd.R_below (by (with_reducible repeat (first | apply Kd.R_alloc | apply Kd.R_drewN | apply Kd.R_drew)); exact HO106.out) hb); have n2_ := Aside0.mk (Kd.R_lower ho0 (below_size (by repeat (first | (with_reducible first | exact HB.out | apply below_alloc | apply pw_below_drewN | apply below_drew1) | exact HB.out)))); have n3_ := Aside0.mk (below_step (by repeat (first | (with_reducible first | exact HB.out | apply below_alloc | apply pw_below_drewN | apply below_drew1) | exact HB.out)) hb); clear HO103; clear HO106; clear HB; have HO103 := n0_; have HO106 := n1_; have HO111 := n2_; have HB := n3_; clear n0_ n1_ n2_ n3_; (try clear hb); (try clear hb2); (try clear hk); (try clear hi); (try clear ho0)) | ((with_reducible refine gate_dst (N := 1) rfl ?_); refine box_event ?hg (N := 1) ?hd (cs := #[.string (⟨#[]⟩ : ByteArray), .string (⟨#[]⟩ : ByteArray), .slice none 0 0]) (t := 24) ?hr ?_; (case hd => rfl); (case hg => rfl); (case hr => first | (go_simp; done) | (go_simp; rfl)); intro gb113 hg w15 hbox hb; have n0_ := Aside0.mk (Kd.R_below (by (with_reducible repeat (first | apply Kd.R_alloc | apply Kd.R_drewN | apply Kd.R_drew)); exact HO103.out) hb); have n1_ := Aside0.mk (Kd.R_below (by (with_reducible repeat (first | apply Kd.R_alloc | apply Kd.R_drewN | apply Kd.R_drew)); exact HO106.out) hb); have n2_ := Aside0.mk (Kd.R_below (by (with_reducible repeat (first | apply Kd.R_alloc | apply Kd.R_drewN | apply Kd.R_drew)); exact HO111.out) hb); have n3_ := Aside0.mk (below_step (by repeat (first | (with_reducible first | exact HB.out | apply below_alloc | apply pw_below_drewN | apply below_drew1) | exact HB.out)) hb); have n4_ := Aside0.mk (hbox); have n5_ := Aside0.mk ((by rw [hg]; exact (below_size (by repeat (first | (with_reducible first | exact HB.out | apply below_alloc | apply pw_below_drewN | apply below_drew1) | exact HB.out))) : w.heap.size ≤ gb113)); have n6_ := Aside0.mk ((by rw [hg]; exact (below_size (by repeat (first | (with_reducible first | exact HB.out | apply below_alloc | apply pw_below_drewN | apply below_drew1) | exact HB.out))) : w.heap.size ≤ gb113)); clear HO103; clear HO106; clear HO111; clear HB; have HO103 := n0_; have HO106 := n1_; have HO111 := n2_; have HB := n3_; have BK113 := n4_; have GW113 := n5_; have GE113 := n6_; clear n0_ n1_ n2_ n3_ n4_ n5_ n6_; clear hb hbox hg; have hcz16_0 : w15.cell? ⟨gb113, 0, none⟩ = some (.string (⟨#[]⟩ : ByteArray)) := (blk_cell BK113.out 0).trans rfl; have hcz16_1 : w15.cell? ⟨gb113, 1, none⟩ = some (.string (⟨#[]⟩ : ByteArray)) := (blk_cell BK113.out 1).trans rfl; have hcz16_2 : w15.cell? ⟨gb113, 2, none⟩ = some (.slice none 0 0) := (blk_cell BK113.out 2).trans rfl; have hfz16_0 := blk_frozen BK113.out 0; have hfz16_1 := blk_frozen BK113.out 1; have hfz16_2 := blk_frozen BK113.out 2; obtain ⟨Ao17, co17, eo17⟩ := Kd.R_slice HO111.out; subst eo17) | ((with_reducible refine gate_callee (f := 33) rfl ?_); refine goesL_ (some 9) rfl rfl Tryz.func33 (by kernel_rfl) rfl #[.string (⟨#[84, 101, 120, 116, 47, 72, 84, 77, 76, 32, 59, 32, 67, 104, 97, 114, 115, 101, 116, 61, 34, 97, 92, 34, 98, 34, 32, 59, 120]⟩ : ByteArray)] rfl (by (try simp only [List.map_toArray, List.map_cons, List.map_nil]); first | done | rfl | (simp only [List.length_drop, List.length_take]; rfl)) ?_; (with_reducible refine (ostiarylaw6_text.calls (⟨#[84, 101, 120, 116, 47, 72, 84, 77, 76, 32, 59, 32, 67, 104, 97, 114, 115, 101, 116, 61, 34, 97, 92, 34, 98, 34, 32, 59, 120]⟩ : ByteArray) t114 _ A3.out).mono ?_); rintro e w18 ⟨rfl, hb⟩; refine ⟨_, rfl, ?_⟩; have n0_ := Aside0.mk (Kd.R_below (by (with_reducible repeat (first | apply Kd.R_alloc | apply Kd.R_drewN | apply Kd.R_drew)); exact (Kd.R_mono (Kd.R_far (p := ⟨gb113, 2, none⟩) (Kd.R_far (p := ⟨gb113, 1, none⟩) (Kd.R_far (p := ⟨gb113, 0, none⟩) (Kd.R_types HO103.out BK113.out (by decide)) (fun _ hk => hk.2) (.string t107)) (fun _ hk => hk.2) (.string t108)) (fun _ hk => hk.2) (.slice Ao17 t109.length co17)) (fun _ h_ => h_.1))) hb); have n1_ := Aside0.mk (Kd.R_below (by (with_reducible repeat (first | apply Kd.R_alloc | apply Kd.R_drewN | apply Kd.R_drew)); exact (Kd.R_mono (Kd.R_far (p := ⟨gb113, 2, none⟩) (Kd.R_far (p := ⟨gb113, 1, none⟩) (Kd.R_far (p := ⟨gb113, 0, none⟩) (Kd.R_types HO106.out BK113.out (by decide)) (fun _ hk => hk.2) (.string t107)) (fun _ hk => hk.2) (.string t108)) (fun _ hk => hk.2) (.slice Ao17 t109.length co17)) (fun _ h_ => h_.1))) hb); have n2_ := Aside0.mk (Kd.R_below (by (with_reducible repeat (first | apply Kd.R_alloc | apply Kd.R_drewN | apply Kd.R_drew)); exact (Kd.R_mono (Kd.R_far (p := ⟨gb113, 2, none⟩) (Kd.R_far (p := ⟨gb113, 1, none⟩) (Kd.R_far (p := ⟨gb113, 0, none⟩) (Kd.R_types HO111.out BK113.out (by decide)) (fun _ hk => hk.2) (.string t107)) (fun _ hk => hk.2) (.string t108)) (fun _ hk => hk.2) (.slice Ao17 t109.length co17)) (fun _ h_ => h_.1))) hb); have n3_ := Aside0.mk (blk_below (g := gb113) (o := .cells #[.string t107, .string t108, .slice Ao17 t109.length co17] 24 (0, 0)) (by (with_reducible repeat (first | refine blk_drewN ?_ _ | refine blk_drew ?_ | refine blk_alloc ?_ _)); refine blk_put (cs := #[.string t107, .string t108, .slice none 0 0]) ?_ 2 _ rfl; (with_reducible repeat (first | refine blk_drewN ?_ _ | refine blk_drew ?_ | refine blk_alloc ?_ _)); refine blk_put (cs := #[.string t107, .string (⟨#[]⟩ : ByteArray), .slice none 0 0]) ?_ 1 _ rfl; (with_reducible repeat (first | refine blk_drewN ?_ _ | refine blk_drew ?_ | refine blk_alloc ?_ _)); refine blk_put (cs := #[.string (⟨#[]⟩ : ByteArray), .string (⟨#[]⟩ : ByteArray), .slice none 0 0]) ?_ 0 _ rfl; (with_reducible repeat (first | refine blk_drewN ?_ _ | refine blk_drew ?_ | refine blk_alloc ?_ _)); exact BK113.out) hb); have n4_ := Aside0.mk (below_step (by repeat (first | (with_reducible first | exact HB.out | apply below_alloc | apply pw_below_drewN | apply below_drew1 | refine below_set ?_ GE113.out) | exact HB.out)) hb); clear HO103; clear HO106; clear HO111; clear BK113; clear HB; have HO103 := n0_; have HO106 := n1_; have HO111 := n2_; have BK113 := n3_; have HB := n4_; clear n0_ n1_ n2_ n3_ n4_; (try clear hb); (try clear hb2); (try clear hk); (try clear hi); have hcz19_0 : w18.cell? ⟨gb113, 0, none⟩ = some (.string t107) := (blk_cell BK113.out 0).trans rfl; have hcz19_1 : w18.cell? ⟨gb113, 1, none⟩ = some (.string t108) := (blk_cell BK113.out 1).trans rfl; have hcz19_2 : w18.cell? ⟨gb113, 2, none⟩ = some (.slice Ao17 t109.length co17) := (blk_cell BK113.out 2).trans rfl; have hfz19_0 := blk_frozen BK113.out 0; have hfz19_1 := blk_frozen BK113.out 1; have hfz19_2 := blk_frozen BK113.out 2) | (go_at_call 18; (with_reducible refine (mime_Text.calls t107 t108 _ _ t109 t115 _ ?side1 ?side2 A6.out).mono ?_); (case side1 => repeat (first | exact (Kd.R_reads' HO111.out).2.2 | (with_reducible refine Kd.C_alloc ?_ _) | (with_reducible refine Kd.C_drewN ?_ _) | (with_reducible refine Kd.C_drew ?_))); (case side2 => exact (Kd.R_reads' HO111.out).2.1); rintro e w20 ⟨rfl, hb⟩; have n0_ := Aside0.mk (Kd.R_below (by (with_reducible repeat (first | apply Kd.R_alloc | apply Kd.R_drewN | apply Kd.R_drew)); exact HO103.out) hb); have n1_ := Aside0.mk (Kd.R_below (by (with_reducible repeat (first | apply Kd.R_alloc | apply Kd.R_drewN | apply Kd.R_drew)); exact HO106.out) hb); have n2_ := Aside0.mk (Kd.R_below (by (with_reducible repeat (first | apply Kd.R_alloc | apply Kd.R_drewN | apply Kd.R_drew)); exact HO111.out) hb); have n3_ := Aside0.mk (blk_below (g := gb113) (o := .cells #[.string t107, .string t108, .slice Ao17 t109.length co17] 24 (0, 0)) (by (with_reducible repeat (first | refine blk_drewN ?_ _ | refine blk_drew ?_ | refine blk_alloc ?_ _)); exact BK113.out) hb); have n4_ := Aside0.mk (below_step (by repeat (first | (with_reducible first | exact HB.out | apply below_alloc | apply pw_below_drewN | apply below_drew1 | refine below_set ?_ GE113.out) | exact HB.out)) hb); clear HO103; clear HO106; clear HO111; clear BK113; clear HB; have HO103 := n0_; have HO106 := n1_; have HO111 := n2_; have BK113 := n3_; have HB := n4_; clear n0_ n1_ n2_ n3_ n4_; (try clear hb); (try clear hb2); (try clear hk); (try clear hi)) | (go_at_call 33; (with_reducible refine (ostiarylaw6_text.calls (⟨#[97, 47]⟩ : ByteArray) t116 _ A8.out).mono ?_); rintro e w21 ⟨rfl, hb⟩; have n0_ := Aside0.mk (Kd.R_below (by (with_reducible repeat (first | apply Kd.R_alloc | apply Kd.R_drewN | apply Kd.R_drew)); exact HO103.out) hb); have n1_ := Aside0.mk (Kd.R_below (by (with_reducible repeat (first | apply Kd.R_alloc | apply Kd.R_drewN | apply Kd.R_drew)); exact HO106.out) hb); have n2_ := Aside0.mk (Kd.R_below (by (with_reducible repeat (first | apply Kd.R_alloc | apply Kd.R_drewN | apply Kd.R_drew)); exact HO111.out) hb); have n3_ := Aside0.mk (blk_below (g := gb113) (o := .cells #[.string t107, .string t108, .slice Ao17 t109.length co17] 24 (0, 0)) (by (with_reducible repeat (first | refine blk_drewN ?_ _ | refine blk_drew ?_ | refine blk_alloc ?_ _)); exact BK113.out) hb); have n4_ := Aside0.mk (below_step (by repeat (first | (with_reducible first | exact HB.out | apply below_alloc | apply pw_below_drewN | apply below_drew1 | refine below_set ?_ GE113.out) | exact HB.out)) hb); clear HO103; clear HO106; clear HO111; clear BK113; clear HB; have HO103 := n0_; have HO106 := n1_; have HO111 := n2_; have BK113 := n3_; have HB := n4_; clear n0_ n1_ n2_ n3_ n4_; (try clear hb); (try clear hb2); (try clear hk); (try clear hi)))
        go_ret
        exact ⟨by first | rfl | (simp [errW_none, errW_some] <;> rfl) | (simp [*, errW_none, errW_some] <;> rfl), by repeat (first | (with_reducible first | exact HB.out | apply below_alloc | apply pw_below_drewN | apply below_drew1 | refine below_set ?_ GE113.out) | exact HB.out)⟩
      · rw [if_neg c7] at H
        have c7b0 : (t115.toList == ([116, 101, 120, 116, 47, 97, 59, 99, 104, 97, 114, 115, 101, 116, 61, 120] : List UInt8)) = false := beq_eq_false_iff_ne.mpr c7
        have c7b1 : (t115.toList != ([116, 101, 120, 116, 47, 97, 59, 99, 104, 97, 114, 115, 101, 116, 61, 120] : List UInt8)) = true := bne_iff_ne.mpr c7
        obtain rfl := Option.some.inj H
        go_enter Tryz.func17, Tryz.ntmps17
        go_wp2_with (first | ((with_reducible refine gate_dst (N := 4) rfl ?_); refine Kd.R_lit Kd.string _ 9 ?hg (N := 4) ?hd (xs := ([(⟨#[116, 101, 120, 116, 47, 97, 59, 99, 104, 97, 114, 115, 101, 116, 61, 120]⟩ : ByteArray), (⟨#[116, 101, 120, 116, 47, 97]⟩ : ByteArray)] : List ByteArray)) (inner := [.string (⟨#[116, 101, 120, 116, 47, 97, 59, 99, 104, 97, 114, 115, 101, 116, 61, 120]⟩ : ByteArray), .string (⟨#[116, 101, 120, 116, 47, 97]⟩ : ByteArray)]) (ok := fun _ => True) (okp := fun _ => True) ?hr ?hp (fun _ hk => hk) trivial (Below.refl _ _) (Nat.le_refl _) (by simp) ?_; (case hd => rfl); (case hg => rfl); (case hr => first | (go_simp; done) | (go_simp; rfl)); (case hp => exact (Reps.one (show Kd.M Kd.string _ _ _ (⟨#[116, 101, 120, 116, 47, 97, 59, 99, 104, 97, 114, 115, 101, 116, 61, 120]⟩ : ByteArray) [.string (⟨#[116, 101, 120, 116, 47, 97, 59, 99, 104, 97, 114, 115, 101, 116, 61, 120]⟩ : ByteArray)] from rfl) (Reps.one (show Kd.M Kd.string _ _ _ (⟨#[116, 101, 120, 116, 47, 97]⟩ : ByteArray) [.string (⟨#[116, 101, 120, 116, 47, 97]⟩ : ByteArray)] from rfl) (Reps.none _ _)))); intro v102 w22 ho23 hb hg_ hnew_; clear hg_ hnew_; (first | rw [← Ny101.out] at ho23 | (simp only [Int.reduceToNat] at ho23; rw [← Ny101.out] at ho23)); have n0_ := Aside0.mk (Kd.R_lower ho23 (below_size (by repeat (first | (with_reducible first | exact HB.out | apply below_alloc | apply pw_below_drewN | apply below_drew1) | exact HB.out)))); have n1_ := Aside0.mk (below_step (by repeat (first | (with_reducible first | exact HB.out | apply below_alloc | apply pw_below_drewN | apply below_drew1) | exact HB.out)) hb); clear HB; have HO103 := n0_; have HB := n1_; clear n0_ n1_; clear hb ho23; obtain ⟨Ao24, co24, eo24⟩ := Kd.R_slice HO103.out; subst eo24) | ((with_reducible refine gate_callee (f := 21) rfl ?_); refine goesL_ (some 5) rfl rfl Tryz.func21 (by kernel_rfl) rfl #[.slice Ao24 y101.length co24] rfl (by (try simp only [List.map_toArray, List.map_cons, List.map_nil]); first | done | rfl | (simp only [List.length_drop, List.length_take]; rfl)) ?_; (with_reducible refine (ostiarylaw6_kinds.calls k _ _ y101 t104 _ ?side1 ?side2 A1.out).mono ?_); (case side1 => repeat (first | exact (Kd.R_reads' HO103.out).2.2 | (with_reducible refine Kd.C_alloc ?_ _) | (with_reducible refine Kd.C_drewN ?_ _) | (with_reducible refine Kd.C_drew ?_))); (case side2 => exact (Kd.R_reads' HO103.out).2.1); rintro e w25 ⟨v105, rfl, ho0, hb⟩; refine ⟨_, rfl, ?_⟩; have n0_ := Aside0.mk (Kd.R_below (by (with_reducible repeat (first | apply Kd.R_alloc | apply Kd.R_drewN | apply Kd.R_drew)); exact HO103.out) hb); have n1_ := Aside0.mk (Kd.R_lower ho0 (below_size (by repeat (first | (with_reducible first | exact HB.out | apply below_alloc | apply pw_below_drewN | apply below_drew1) | exact HB.out)))); have n2_ := Aside0.mk (below_step (by repeat (first | (with_reducible first | exact HB.out | apply below_alloc | apply pw_below_drewN | apply below_drew1) | exact HB.out)) hb); clear HO103; clear HB; have HO103 := n0_; have HO106 := n1_; have HB := n2_; clear n0_ n1_ n2_; (try clear hb); (try clear hb2); (try clear hk); (try clear hi); (try clear ho0); obtain ⟨Ao26, co26, eo26⟩ := Kd.R_slice HO106.out; subst eo26) | ((with_reducible refine gate_callee (f := 20) rfl ?_); refine goesL_ (some 6) rfl rfl Tryz.func20 (by kernel_rfl) rfl #[.slice Ao26 t104.length co26] rfl (by (try simp only [List.map_toArray, List.map_cons, List.map_nil]); first | done | rfl | (simp only [List.length_drop, List.length_take]; rfl)) ?_; (with_reducible refine (mime_Extract.calls k _ _ t104 t107 t108 t109 true _ ?side1 ?side2 A2.out).mono ?_); (case side1 => repeat (first | exact (Kd.R_reads' HO106.out).2.2 | (with_reducible refine Kd.C_alloc ?_ _) | (with_reducible refine Kd.C_drewN ?_ _) | (with_reducible refine Kd.C_drew ?_))); (case side2 => exact (Kd.R_reads' HO106.out).2.1); rintro e w27 ⟨v110, rfl, ho0, hb⟩; refine ⟨_, rfl, ?_⟩; have n0_ := Aside0.mk (Kd.R_below (by (with_reducible repeat (first | apply Kd.R_alloc | apply Kd.R_drewN | apply Kd.R_drew)); exact HO103.out) hb); have n1_ := Aside0.mk (Kd.R_below (by (with_reducible repeat (first | apply Kd.R_alloc | apply Kd.R_drewN | apply Kd.R_drew)); exact HO106.out) hb); have n2_ := Aside0.mk (Kd.R_lower ho0 (below_size (by repeat (first | (with_reducible first | exact HB.out | apply below_alloc | apply pw_below_drewN | apply below_drew1) | exact HB.out)))); have n3_ := Aside0.mk (below_step (by repeat (first | (with_reducible first | exact HB.out | apply below_alloc | apply pw_below_drewN | apply below_drew1) | exact HB.out)) hb); clear HO103; clear HO106; clear HB; have HO103 := n0_; have HO106 := n1_; have HO111 := n2_; have HB := n3_; clear n0_ n1_ n2_ n3_; (try clear hb); (try clear hb2); (try clear hk); (try clear hi); (try clear ho0)) | ((with_reducible refine gate_dst (N := 1) rfl ?_); refine box_event ?hg (N := 1) ?hd (cs := #[.string (⟨#[]⟩ : ByteArray), .string (⟨#[]⟩ : ByteArray), .slice none 0 0]) (t := 24) ?hr ?_; (case hd => rfl); (case hg => rfl); (case hr => first | (go_simp; done) | (go_simp; rfl)); intro gb113 hg w28 hbox hb; have n0_ := Aside0.mk (Kd.R_below (by (with_reducible repeat (first | apply Kd.R_alloc | apply Kd.R_drewN | apply Kd.R_drew)); exact HO103.out) hb); have n1_ := Aside0.mk (Kd.R_below (by (with_reducible repeat (first | apply Kd.R_alloc | apply Kd.R_drewN | apply Kd.R_drew)); exact HO106.out) hb); have n2_ := Aside0.mk (Kd.R_below (by (with_reducible repeat (first | apply Kd.R_alloc | apply Kd.R_drewN | apply Kd.R_drew)); exact HO111.out) hb); have n3_ := Aside0.mk (below_step (by repeat (first | (with_reducible first | exact HB.out | apply below_alloc | apply pw_below_drewN | apply below_drew1) | exact HB.out)) hb); have n4_ := Aside0.mk (hbox); have n5_ := Aside0.mk ((by rw [hg]; exact (below_size (by repeat (first | (with_reducible first | exact HB.out | apply below_alloc | apply pw_below_drewN | apply below_drew1) | exact HB.out))) : w.heap.size ≤ gb113)); have n6_ := Aside0.mk ((by rw [hg]; exact (below_size (by repeat (first | (with_reducible first | exact HB.out | apply below_alloc | apply pw_below_drewN | apply below_drew1) | exact HB.out))) : w.heap.size ≤ gb113)); clear HO103; clear HO106; clear HO111; clear HB; have HO103 := n0_; have HO106 := n1_; have HO111 := n2_; have HB := n3_; have BK113 := n4_; have GW113 := n5_; have GE113 := n6_; clear n0_ n1_ n2_ n3_ n4_ n5_ n6_; clear hb hbox hg; have hcz29_0 : w28.cell? ⟨gb113, 0, none⟩ = some (.string (⟨#[]⟩ : ByteArray)) := (blk_cell BK113.out 0).trans rfl; have hcz29_1 : w28.cell? ⟨gb113, 1, none⟩ = some (.string (⟨#[]⟩ : ByteArray)) := (blk_cell BK113.out 1).trans rfl; have hcz29_2 : w28.cell? ⟨gb113, 2, none⟩ = some (.slice none 0 0) := (blk_cell BK113.out 2).trans rfl; have hfz29_0 := blk_frozen BK113.out 0; have hfz29_1 := blk_frozen BK113.out 1; have hfz29_2 := blk_frozen BK113.out 2; obtain ⟨Ao30, co30, eo30⟩ := Kd.R_slice HO111.out; subst eo30) | ((with_reducible refine gate_callee (f := 33) rfl ?_); refine goesL_ (some 9) rfl rfl Tryz.func33 (by kernel_rfl) rfl #[.string (⟨#[84, 101, 120, 116, 47, 72, 84, 77, 76, 32, 59, 32, 67, 104, 97, 114, 115, 101, 116, 61, 34, 97, 92, 34, 98, 34, 32, 59, 120]⟩ : ByteArray)] rfl (by (try simp only [List.map_toArray, List.map_cons, List.map_nil]); first | done | rfl | (simp only [List.length_drop, List.length_take]; rfl)) ?_; (with_reducible refine (ostiarylaw6_text.calls (⟨#[84, 101, 120, 116, 47, 72, 84, 77, 76, 32, 59, 32, 67, 104, 97, 114, 115, 101, 116, 61, 34, 97, 92, 34, 98, 34, 32, 59, 120]⟩ : ByteArray) t114 _ A3.out).mono ?_); rintro e w31 ⟨rfl, hb⟩; refine ⟨_, rfl, ?_⟩; have n0_ := Aside0.mk (Kd.R_below (by (with_reducible repeat (first | apply Kd.R_alloc | apply Kd.R_drewN | apply Kd.R_drew)); exact (Kd.R_mono (Kd.R_far (p := ⟨gb113, 2, none⟩) (Kd.R_far (p := ⟨gb113, 1, none⟩) (Kd.R_far (p := ⟨gb113, 0, none⟩) (Kd.R_types HO103.out BK113.out (by decide)) (fun _ hk => hk.2) (.string t107)) (fun _ hk => hk.2) (.string t108)) (fun _ hk => hk.2) (.slice Ao30 t109.length co30)) (fun _ h_ => h_.1))) hb); have n1_ := Aside0.mk (Kd.R_below (by (with_reducible repeat (first | apply Kd.R_alloc | apply Kd.R_drewN | apply Kd.R_drew)); exact (Kd.R_mono (Kd.R_far (p := ⟨gb113, 2, none⟩) (Kd.R_far (p := ⟨gb113, 1, none⟩) (Kd.R_far (p := ⟨gb113, 0, none⟩) (Kd.R_types HO106.out BK113.out (by decide)) (fun _ hk => hk.2) (.string t107)) (fun _ hk => hk.2) (.string t108)) (fun _ hk => hk.2) (.slice Ao30 t109.length co30)) (fun _ h_ => h_.1))) hb); have n2_ := Aside0.mk (Kd.R_below (by (with_reducible repeat (first | apply Kd.R_alloc | apply Kd.R_drewN | apply Kd.R_drew)); exact (Kd.R_mono (Kd.R_far (p := ⟨gb113, 2, none⟩) (Kd.R_far (p := ⟨gb113, 1, none⟩) (Kd.R_far (p := ⟨gb113, 0, none⟩) (Kd.R_types HO111.out BK113.out (by decide)) (fun _ hk => hk.2) (.string t107)) (fun _ hk => hk.2) (.string t108)) (fun _ hk => hk.2) (.slice Ao30 t109.length co30)) (fun _ h_ => h_.1))) hb); have n3_ := Aside0.mk (blk_below (g := gb113) (o := .cells #[.string t107, .string t108, .slice Ao30 t109.length co30] 24 (0, 0)) (by (with_reducible repeat (first | refine blk_drewN ?_ _ | refine blk_drew ?_ | refine blk_alloc ?_ _)); refine blk_put (cs := #[.string t107, .string t108, .slice none 0 0]) ?_ 2 _ rfl; (with_reducible repeat (first | refine blk_drewN ?_ _ | refine blk_drew ?_ | refine blk_alloc ?_ _)); refine blk_put (cs := #[.string t107, .string (⟨#[]⟩ : ByteArray), .slice none 0 0]) ?_ 1 _ rfl; (with_reducible repeat (first | refine blk_drewN ?_ _ | refine blk_drew ?_ | refine blk_alloc ?_ _)); refine blk_put (cs := #[.string (⟨#[]⟩ : ByteArray), .string (⟨#[]⟩ : ByteArray), .slice none 0 0]) ?_ 0 _ rfl; (with_reducible repeat (first | refine blk_drewN ?_ _ | refine blk_drew ?_ | refine blk_alloc ?_ _)); exact BK113.out) hb); have n4_ := Aside0.mk (below_step (by repeat (first | (with_reducible first | exact HB.out | apply below_alloc | apply pw_below_drewN | apply below_drew1 | refine below_set ?_ GE113.out) | exact HB.out)) hb); clear HO103; clear HO106; clear HO111; clear BK113; clear HB; have HO103 := n0_; have HO106 := n1_; have HO111 := n2_; have BK113 := n3_; have HB := n4_; clear n0_ n1_ n2_ n3_ n4_; (try clear hb); (try clear hb2); (try clear hk); (try clear hi); have hcz32_0 : w31.cell? ⟨gb113, 0, none⟩ = some (.string t107) := (blk_cell BK113.out 0).trans rfl; have hcz32_1 : w31.cell? ⟨gb113, 1, none⟩ = some (.string t108) := (blk_cell BK113.out 1).trans rfl; have hcz32_2 : w31.cell? ⟨gb113, 2, none⟩ = some (.slice Ao30 t109.length co30) := (blk_cell BK113.out 2).trans rfl; have hfz32_0 := blk_frozen BK113.out 0; have hfz32_1 := blk_frozen BK113.out 1; have hfz32_2 := blk_frozen BK113.out 2) | (go_at_call 18; (with_reducible refine (mime_Text.calls t107 t108 _ _ t109 t115 _ ?side1 ?side2 A6.out).mono ?_); (case side1 => repeat (first | exact (Kd.R_reads' HO111.out).2.2 | (with_reducible refine Kd.C_alloc ?_ _) | (with_reducible refine Kd.C_drewN ?_ _) | (with_reducible refine Kd.C_drew ?_))); (case side2 => exact (Kd.R_reads' HO111.out).2.1); rintro e w33 ⟨rfl, hb⟩; have n0_ := Aside0.mk (Kd.R_below (by (with_reducible repeat (first | apply Kd.R_alloc | apply Kd.R_drewN | apply Kd.R_drew)); exact HO103.out) hb); have n1_ := Aside0.mk (Kd.R_below (by (with_reducible repeat (first | apply Kd.R_alloc | apply Kd.R_drewN | apply Kd.R_drew)); exact HO106.out) hb); have n2_ := Aside0.mk (Kd.R_below (by (with_reducible repeat (first | apply Kd.R_alloc | apply Kd.R_drewN | apply Kd.R_drew)); exact HO111.out) hb); have n3_ := Aside0.mk (blk_below (g := gb113) (o := .cells #[.string t107, .string t108, .slice Ao30 t109.length co30] 24 (0, 0)) (by (with_reducible repeat (first | refine blk_drewN ?_ _ | refine blk_drew ?_ | refine blk_alloc ?_ _)); exact BK113.out) hb); have n4_ := Aside0.mk (below_step (by repeat (first | (with_reducible first | exact HB.out | apply below_alloc | apply pw_below_drewN | apply below_drew1 | refine below_set ?_ GE113.out) | exact HB.out)) hb); clear HO103; clear HO106; clear HO111; clear BK113; clear HB; have HO103 := n0_; have HO106 := n1_; have HO111 := n2_; have BK113 := n3_; have HB := n4_; clear n0_ n1_ n2_ n3_ n4_; (try clear hb); (try clear hb2); (try clear hk); (try clear hi)))
        go_ret
        exact ⟨by first | rfl | (simp [errW_none, errW_some] <;> rfl) | (simp [*, errW_none, errW_some] <;> rfl), by repeat (first | (with_reducible first | exact HB.out | apply below_alloc | apply pw_below_drewN | apply below_drew1 | refine below_set ?_ GE113.out) | exact HB.out)⟩
    · replace c5 := Bool.eq_false_iff.mpr c5
      subst c5
      have H1 : (some false) = some r := by rw [if_neg (show ¬ (false = true) by decide)] at H; exact H
      clear H
      have H := H1
      clear H1
      obtain rfl := Option.some.inj H
      go_enter Tryz.func17, Tryz.ntmps17
      go_wp2_with (first | ((with_reducible refine gate_dst (N := 4) rfl ?_); refine Kd.R_lit Kd.string _ 9 ?hg (N := 4) ?hd (xs := ([(⟨#[116, 101, 120, 116, 47, 97, 59, 99, 104, 97, 114, 115, 101, 116, 61, 120]⟩ : ByteArray), (⟨#[116, 101, 120, 116, 47, 97]⟩ : ByteArray)] : List ByteArray)) (inner := [.string (⟨#[116, 101, 120, 116, 47, 97, 59, 99, 104, 97, 114, 115, 101, 116, 61, 120]⟩ : ByteArray), .string (⟨#[116, 101, 120, 116, 47, 97]⟩ : ByteArray)]) (ok := fun _ => True) (okp := fun _ => True) ?hr ?hp (fun _ hk => hk) trivial (Below.refl _ _) (Nat.le_refl _) (by simp) ?_; (case hd => rfl); (case hg => rfl); (case hr => first | (go_simp; done) | (go_simp; rfl)); (case hp => exact (Reps.one (show Kd.M Kd.string _ _ _ (⟨#[116, 101, 120, 116, 47, 97, 59, 99, 104, 97, 114, 115, 101, 116, 61, 120]⟩ : ByteArray) [.string (⟨#[116, 101, 120, 116, 47, 97, 59, 99, 104, 97, 114, 115, 101, 116, 61, 120]⟩ : ByteArray)] from rfl) (Reps.one (show Kd.M Kd.string _ _ _ (⟨#[116, 101, 120, 116, 47, 97]⟩ : ByteArray) [.string (⟨#[116, 101, 120, 116, 47, 97]⟩ : ByteArray)] from rfl) (Reps.none _ _)))); intro v102 w34 ho35 hb hg_ hnew_; clear hg_ hnew_; (first | rw [← Ny101.out] at ho35 | (simp only [Int.reduceToNat] at ho35; rw [← Ny101.out] at ho35)); have n0_ := Aside0.mk (Kd.R_lower ho35 (below_size (by repeat (first | (with_reducible first | exact HB.out | apply below_alloc | apply pw_below_drewN | apply below_drew1) | exact HB.out)))); have n1_ := Aside0.mk (below_step (by repeat (first | (with_reducible first | exact HB.out | apply below_alloc | apply pw_below_drewN | apply below_drew1) | exact HB.out)) hb); clear HB; have HO103 := n0_; have HB := n1_; clear n0_ n1_; clear hb ho35; obtain ⟨Ao36, co36, eo36⟩ := Kd.R_slice HO103.out; subst eo36) | ((with_reducible refine gate_callee (f := 21) rfl ?_); refine goesL_ (some 5) rfl rfl Tryz.func21 (by kernel_rfl) rfl #[.slice Ao36 y101.length co36] rfl (by (try simp only [List.map_toArray, List.map_cons, List.map_nil]); first | done | rfl | (simp only [List.length_drop, List.length_take]; rfl)) ?_; (with_reducible refine (ostiarylaw6_kinds.calls k _ _ y101 t104 _ ?side1 ?side2 A1.out).mono ?_); (case side1 => repeat (first | exact (Kd.R_reads' HO103.out).2.2 | (with_reducible refine Kd.C_alloc ?_ _) | (with_reducible refine Kd.C_drewN ?_ _) | (with_reducible refine Kd.C_drew ?_))); (case side2 => exact (Kd.R_reads' HO103.out).2.1); rintro e w37 ⟨v105, rfl, ho0, hb⟩; refine ⟨_, rfl, ?_⟩; have n0_ := Aside0.mk (Kd.R_below (by (with_reducible repeat (first | apply Kd.R_alloc | apply Kd.R_drewN | apply Kd.R_drew)); exact HO103.out) hb); have n1_ := Aside0.mk (Kd.R_lower ho0 (below_size (by repeat (first | (with_reducible first | exact HB.out | apply below_alloc | apply pw_below_drewN | apply below_drew1) | exact HB.out)))); have n2_ := Aside0.mk (below_step (by repeat (first | (with_reducible first | exact HB.out | apply below_alloc | apply pw_below_drewN | apply below_drew1) | exact HB.out)) hb); clear HO103; clear HB; have HO103 := n0_; have HO106 := n1_; have HB := n2_; clear n0_ n1_ n2_; (try clear hb); (try clear hb2); (try clear hk); (try clear hi); (try clear ho0); obtain ⟨Ao38, co38, eo38⟩ := Kd.R_slice HO106.out; subst eo38) | ((with_reducible refine gate_callee (f := 20) rfl ?_); refine goesL_ (some 6) rfl rfl Tryz.func20 (by kernel_rfl) rfl #[.slice Ao38 t104.length co38] rfl (by (try simp only [List.map_toArray, List.map_cons, List.map_nil]); first | done | rfl | (simp only [List.length_drop, List.length_take]; rfl)) ?_; (with_reducible refine (mime_Extract.calls k _ _ t104 t107 t108 t109 false _ ?side1 ?side2 A2.out).mono ?_); (case side1 => repeat (first | exact (Kd.R_reads' HO106.out).2.2 | (with_reducible refine Kd.C_alloc ?_ _) | (with_reducible refine Kd.C_drewN ?_ _) | (with_reducible refine Kd.C_drew ?_))); (case side2 => exact (Kd.R_reads' HO106.out).2.1); rintro e w39 ⟨v110, rfl, ho0, hb⟩; refine ⟨_, rfl, ?_⟩; have n0_ := Aside0.mk (Kd.R_below (by (with_reducible repeat (first | apply Kd.R_alloc | apply Kd.R_drewN | apply Kd.R_drew)); exact HO103.out) hb); have n1_ := Aside0.mk (Kd.R_below (by (with_reducible repeat (first | apply Kd.R_alloc | apply Kd.R_drewN | apply Kd.R_drew)); exact HO106.out) hb); have n2_ := Aside0.mk (Kd.R_lower ho0 (below_size (by repeat (first | (with_reducible first | exact HB.out | apply below_alloc | apply pw_below_drewN | apply below_drew1) | exact HB.out)))); have n3_ := Aside0.mk (below_step (by repeat (first | (with_reducible first | exact HB.out | apply below_alloc | apply pw_below_drewN | apply below_drew1) | exact HB.out)) hb); clear HO103; clear HO106; clear HB; have HO103 := n0_; have HO106 := n1_; have HO111 := n2_; have HB := n3_; clear n0_ n1_ n2_ n3_; (try clear hb); (try clear hb2); (try clear hk); (try clear hi); (try clear ho0)) | ((with_reducible refine gate_dst (N := 1) rfl ?_); refine box_event ?hg (N := 1) ?hd (cs := #[.string (⟨#[]⟩ : ByteArray), .string (⟨#[]⟩ : ByteArray), .slice none 0 0]) (t := 24) ?hr ?_; (case hd => rfl); (case hg => rfl); (case hr => first | (go_simp; done) | (go_simp; rfl)); intro gb113 hg w40 hbox hb; have n0_ := Aside0.mk (Kd.R_below (by (with_reducible repeat (first | apply Kd.R_alloc | apply Kd.R_drewN | apply Kd.R_drew)); exact HO103.out) hb); have n1_ := Aside0.mk (Kd.R_below (by (with_reducible repeat (first | apply Kd.R_alloc | apply Kd.R_drewN | apply Kd.R_drew)); exact HO106.out) hb); have n2_ := Aside0.mk (Kd.R_below (by (with_reducible repeat (first | apply Kd.R_alloc | apply Kd.R_drewN | apply Kd.R_drew)); exact HO111.out) hb); have n3_ := Aside0.mk (below_step (by repeat (first | (with_reducible first | exact HB.out | apply below_alloc | apply pw_below_drewN | apply below_drew1) | exact HB.out)) hb); have n4_ := Aside0.mk (hbox); have n5_ := Aside0.mk ((by rw [hg]; exact (below_size (by repeat (first | (with_reducible first | exact HB.out | apply below_alloc | apply pw_below_drewN | apply below_drew1) | exact HB.out))) : w.heap.size ≤ gb113)); have n6_ := Aside0.mk ((by rw [hg]; exact (below_size (by repeat (first | (with_reducible first | exact HB.out | apply below_alloc | apply pw_below_drewN | apply below_drew1) | exact HB.out))) : w.heap.size ≤ gb113)); clear HO103; clear HO106; clear HO111; clear HB; have HO103 := n0_; have HO106 := n1_; have HO111 := n2_; have HB := n3_; have BK113 := n4_; have GW113 := n5_; have GE113 := n6_; clear n0_ n1_ n2_ n3_ n4_ n5_ n6_; clear hb hbox hg; have hcz41_0 : w40.cell? ⟨gb113, 0, none⟩ = some (.string (⟨#[]⟩ : ByteArray)) := (blk_cell BK113.out 0).trans rfl; have hcz41_1 : w40.cell? ⟨gb113, 1, none⟩ = some (.string (⟨#[]⟩ : ByteArray)) := (blk_cell BK113.out 1).trans rfl; have hcz41_2 : w40.cell? ⟨gb113, 2, none⟩ = some (.slice none 0 0) := (blk_cell BK113.out 2).trans rfl; have hfz41_0 := blk_frozen BK113.out 0; have hfz41_1 := blk_frozen BK113.out 1; have hfz41_2 := blk_frozen BK113.out 2; obtain ⟨Ao42, co42, eo42⟩ := Kd.R_slice HO111.out; subst eo42) | ((with_reducible refine gate_callee (f := 33) rfl ?_); refine goesL_ (some 9) rfl rfl Tryz.func33 (by kernel_rfl) rfl #[.string (⟨#[84, 101, 120, 116, 47, 72, 84, 77, 76, 32, 59, 32, 67, 104, 97, 114, 115, 101, 116, 61, 34, 97, 92, 34, 98, 34, 32, 59, 120]⟩ : ByteArray)] rfl (by (try simp only [List.map_toArray, List.map_cons, List.map_nil]); first | done | rfl | (simp only [List.length_drop, List.length_take]; rfl)) ?_; (with_reducible refine (ostiarylaw6_text.calls (⟨#[84, 101, 120, 116, 47, 72, 84, 77, 76, 32, 59, 32, 67, 104, 97, 114, 115, 101, 116, 61, 34, 97, 92, 34, 98, 34, 32, 59, 120]⟩ : ByteArray) t114 _ A3.out).mono ?_); rintro e w43 ⟨rfl, hb⟩; refine ⟨_, rfl, ?_⟩; have n0_ := Aside0.mk (Kd.R_below (by (with_reducible repeat (first | apply Kd.R_alloc | apply Kd.R_drewN | apply Kd.R_drew)); exact (Kd.R_mono (Kd.R_far (p := ⟨gb113, 2, none⟩) (Kd.R_far (p := ⟨gb113, 1, none⟩) (Kd.R_far (p := ⟨gb113, 0, none⟩) (Kd.R_types HO103.out BK113.out (by decide)) (fun _ hk => hk.2) (.string t107)) (fun _ hk => hk.2) (.string t108)) (fun _ hk => hk.2) (.slice Ao42 t109.length co42)) (fun _ h_ => h_.1))) hb); have n1_ := Aside0.mk (Kd.R_below (by (with_reducible repeat (first | apply Kd.R_alloc | apply Kd.R_drewN | apply Kd.R_drew)); exact (Kd.R_mono (Kd.R_far (p := ⟨gb113, 2, none⟩) (Kd.R_far (p := ⟨gb113, 1, none⟩) (Kd.R_far (p := ⟨gb113, 0, none⟩) (Kd.R_types HO106.out BK113.out (by decide)) (fun _ hk => hk.2) (.string t107)) (fun _ hk => hk.2) (.string t108)) (fun _ hk => hk.2) (.slice Ao42 t109.length co42)) (fun _ h_ => h_.1))) hb); have n2_ := Aside0.mk (Kd.R_below (by (with_reducible repeat (first | apply Kd.R_alloc | apply Kd.R_drewN | apply Kd.R_drew)); exact (Kd.R_mono (Kd.R_far (p := ⟨gb113, 2, none⟩) (Kd.R_far (p := ⟨gb113, 1, none⟩) (Kd.R_far (p := ⟨gb113, 0, none⟩) (Kd.R_types HO111.out BK113.out (by decide)) (fun _ hk => hk.2) (.string t107)) (fun _ hk => hk.2) (.string t108)) (fun _ hk => hk.2) (.slice Ao42 t109.length co42)) (fun _ h_ => h_.1))) hb); have n3_ := Aside0.mk (blk_below (g := gb113) (o := .cells #[.string t107, .string t108, .slice Ao42 t109.length co42] 24 (0, 0)) (by (with_reducible repeat (first | refine blk_drewN ?_ _ | refine blk_drew ?_ | refine blk_alloc ?_ _)); refine blk_put (cs := #[.string t107, .string t108, .slice none 0 0]) ?_ 2 _ rfl; (with_reducible repeat (first | refine blk_drewN ?_ _ | refine blk_drew ?_ | refine blk_alloc ?_ _)); refine blk_put (cs := #[.string t107, .string (⟨#[]⟩ : ByteArray), .slice none 0 0]) ?_ 1 _ rfl; (with_reducible repeat (first | refine blk_drewN ?_ _ | refine blk_drew ?_ | refine blk_alloc ?_ _)); refine blk_put (cs := #[.string (⟨#[]⟩ : ByteArray), .string (⟨#[]⟩ : ByteArray), .slice none 0 0]) ?_ 0 _ rfl; (with_reducible repeat (first | refine blk_drewN ?_ _ | refine blk_drew ?_ | refine blk_alloc ?_ _)); exact BK113.out) hb); have n4_ := Aside0.mk (below_step (by repeat (first | (with_reducible first | exact HB.out | apply below_alloc | apply pw_below_drewN | apply below_drew1 | refine below_set ?_ GE113.out) | exact HB.out)) hb); clear HO103; clear HO106; clear HO111; clear BK113; clear HB; have HO103 := n0_; have HO106 := n1_; have HO111 := n2_; have BK113 := n3_; have HB := n4_; clear n0_ n1_ n2_ n3_ n4_; (try clear hb); (try clear hb2); (try clear hk); (try clear hi)))
      go_ret
      exact ⟨by first | rfl | (simp [errW_none, errW_some] <;> rfl) | (simp [*, errW_none, errW_some] <;> rfl), by repeat (first | (with_reducible first | exact HB.out | apply below_alloc | apply pw_below_drewN | apply below_drew1 | refine below_set ?_ GE113.out) | exact HB.out)⟩
  · rw [if_neg c4] at H
    have c4b0 : (t114.toList == ([116, 101, 120, 116, 47, 104, 116, 109, 108, 59, 99, 104, 97, 114, 115, 101, 116, 61, 34, 97, 92, 34, 98, 34] : List UInt8)) = false := beq_eq_false_iff_ne.mpr c4
    have c4b1 : (t114.toList != ([116, 101, 120, 116, 47, 104, 116, 109, 108, 59, 99, 104, 97, 114, 115, 101, 116, 61, 34, 97, 92, 34, 98, 34] : List UInt8)) = true := bne_iff_ne.mpr c4
    obtain rfl := Option.some.inj H
    go_enter Tryz.func17, Tryz.ntmps17
    go_wp2_with (first | ((with_reducible refine gate_dst (N := 4) rfl ?_); refine Kd.R_lit Kd.string _ 9 ?hg (N := 4) ?hd (xs := ([(⟨#[116, 101, 120, 116, 47, 97, 59, 99, 104, 97, 114, 115, 101, 116, 61, 120]⟩ : ByteArray), (⟨#[116, 101, 120, 116, 47, 97]⟩ : ByteArray)] : List ByteArray)) (inner := [.string (⟨#[116, 101, 120, 116, 47, 97, 59, 99, 104, 97, 114, 115, 101, 116, 61, 120]⟩ : ByteArray), .string (⟨#[116, 101, 120, 116, 47, 97]⟩ : ByteArray)]) (ok := fun _ => True) (okp := fun _ => True) ?hr ?hp (fun _ hk => hk) trivial (Below.refl _ _) (Nat.le_refl _) (by simp) ?_; (case hd => rfl); (case hg => rfl); (case hr => first | (go_simp; done) | (go_simp; rfl)); (case hp => exact (Reps.one (show Kd.M Kd.string _ _ _ (⟨#[116, 101, 120, 116, 47, 97, 59, 99, 104, 97, 114, 115, 101, 116, 61, 120]⟩ : ByteArray) [.string (⟨#[116, 101, 120, 116, 47, 97, 59, 99, 104, 97, 114, 115, 101, 116, 61, 120]⟩ : ByteArray)] from rfl) (Reps.one (show Kd.M Kd.string _ _ _ (⟨#[116, 101, 120, 116, 47, 97]⟩ : ByteArray) [.string (⟨#[116, 101, 120, 116, 47, 97]⟩ : ByteArray)] from rfl) (Reps.none _ _)))); intro v102 w44 ho45 hb hg_ hnew_; clear hg_ hnew_; (first | rw [← Ny101.out] at ho45 | (simp only [Int.reduceToNat] at ho45; rw [← Ny101.out] at ho45)); have n0_ := Aside0.mk (Kd.R_lower ho45 (below_size (by repeat (first | (with_reducible first | exact HB.out | apply below_alloc | apply pw_below_drewN | apply below_drew1) | exact HB.out)))); have n1_ := Aside0.mk (below_step (by repeat (first | (with_reducible first | exact HB.out | apply below_alloc | apply pw_below_drewN | apply below_drew1) | exact HB.out)) hb); clear HB; have HO103 := n0_; have HB := n1_; clear n0_ n1_; clear hb ho45; obtain ⟨Ao46, co46, eo46⟩ := Kd.R_slice HO103.out; subst eo46) | ((with_reducible refine gate_callee (f := 21) rfl ?_); refine goesL_ (some 5) rfl rfl Tryz.func21 (by kernel_rfl) rfl #[.slice Ao46 y101.length co46] rfl (by (try simp only [List.map_toArray, List.map_cons, List.map_nil]); first | done | rfl | (simp only [List.length_drop, List.length_take]; rfl)) ?_; (with_reducible refine (ostiarylaw6_kinds.calls k _ _ y101 t104 _ ?side1 ?side2 A1.out).mono ?_); (case side1 => repeat (first | exact (Kd.R_reads' HO103.out).2.2 | (with_reducible refine Kd.C_alloc ?_ _) | (with_reducible refine Kd.C_drewN ?_ _) | (with_reducible refine Kd.C_drew ?_))); (case side2 => exact (Kd.R_reads' HO103.out).2.1); rintro e w47 ⟨v105, rfl, ho0, hb⟩; refine ⟨_, rfl, ?_⟩; have n0_ := Aside0.mk (Kd.R_below (by (with_reducible repeat (first | apply Kd.R_alloc | apply Kd.R_drewN | apply Kd.R_drew)); exact HO103.out) hb); have n1_ := Aside0.mk (Kd.R_lower ho0 (below_size (by repeat (first | (with_reducible first | exact HB.out | apply below_alloc | apply pw_below_drewN | apply below_drew1) | exact HB.out)))); have n2_ := Aside0.mk (below_step (by repeat (first | (with_reducible first | exact HB.out | apply below_alloc | apply pw_below_drewN | apply below_drew1) | exact HB.out)) hb); clear HO103; clear HB; have HO103 := n0_; have HO106 := n1_; have HB := n2_; clear n0_ n1_ n2_; (try clear hb); (try clear hb2); (try clear hk); (try clear hi); (try clear ho0); obtain ⟨Ao48, co48, eo48⟩ := Kd.R_slice HO106.out; subst eo48) | ((with_reducible refine gate_callee (f := 20) rfl ?_); refine goesL_ (some 6) rfl rfl Tryz.func20 (by kernel_rfl) rfl #[.slice Ao48 t104.length co48] rfl (by (try simp only [List.map_toArray, List.map_cons, List.map_nil]); first | done | rfl | (simp only [List.length_drop, List.length_take]; rfl)) ?_; (with_reducible refine (mime_Extract.calls k _ _ t104 t107 t108 t109 t112 _ ?side1 ?side2 A2.out).mono ?_); (case side1 => repeat (first | exact (Kd.R_reads' HO106.out).2.2 | (with_reducible refine Kd.C_alloc ?_ _) | (with_reducible refine Kd.C_drewN ?_ _) | (with_reducible refine Kd.C_drew ?_))); (case side2 => exact (Kd.R_reads' HO106.out).2.1); rintro e w49 ⟨v110, rfl, ho0, hb⟩; refine ⟨_, rfl, ?_⟩; have n0_ := Aside0.mk (Kd.R_below (by (with_reducible repeat (first | apply Kd.R_alloc | apply Kd.R_drewN | apply Kd.R_drew)); exact HO103.out) hb); have n1_ := Aside0.mk (Kd.R_below (by (with_reducible repeat (first | apply Kd.R_alloc | apply Kd.R_drewN | apply Kd.R_drew)); exact HO106.out) hb); have n2_ := Aside0.mk (Kd.R_lower ho0 (below_size (by repeat (first | (with_reducible first | exact HB.out | apply below_alloc | apply pw_below_drewN | apply below_drew1) | exact HB.out)))); have n3_ := Aside0.mk (below_step (by repeat (first | (with_reducible first | exact HB.out | apply below_alloc | apply pw_below_drewN | apply below_drew1) | exact HB.out)) hb); clear HO103; clear HO106; clear HB; have HO103 := n0_; have HO106 := n1_; have HO111 := n2_; have HB := n3_; clear n0_ n1_ n2_ n3_; (try clear hb); (try clear hb2); (try clear hk); (try clear hi); (try clear ho0)) | ((with_reducible refine gate_dst (N := 1) rfl ?_); refine box_event ?hg (N := 1) ?hd (cs := #[.string (⟨#[]⟩ : ByteArray), .string (⟨#[]⟩ : ByteArray), .slice none 0 0]) (t := 24) ?hr ?_; (case hd => rfl); (case hg => rfl); (case hr => first | (go_simp; done) | (go_simp; rfl)); intro gb113 hg w50 hbox hb; have n0_ := Aside0.mk (Kd.R_below (by (with_reducible repeat (first | apply Kd.R_alloc | apply Kd.R_drewN | apply Kd.R_drew)); exact HO103.out) hb); have n1_ := Aside0.mk (Kd.R_below (by (with_reducible repeat (first | apply Kd.R_alloc | apply Kd.R_drewN | apply Kd.R_drew)); exact HO106.out) hb); have n2_ := Aside0.mk (Kd.R_below (by (with_reducible repeat (first | apply Kd.R_alloc | apply Kd.R_drewN | apply Kd.R_drew)); exact HO111.out) hb); have n3_ := Aside0.mk (below_step (by repeat (first | (with_reducible first | exact HB.out | apply below_alloc | apply pw_below_drewN | apply below_drew1) | exact HB.out)) hb); have n4_ := Aside0.mk (hbox); have n5_ := Aside0.mk ((by rw [hg]; exact (below_size (by repeat (first | (with_reducible first | exact HB.out | apply below_alloc | apply pw_below_drewN | apply below_drew1) | exact HB.out))) : w.heap.size ≤ gb113)); have n6_ := Aside0.mk ((by rw [hg]; exact (below_size (by repeat (first | (with_reducible first | exact HB.out | apply below_alloc | apply pw_below_drewN | apply below_drew1) | exact HB.out))) : w.heap.size ≤ gb113)); clear HO103; clear HO106; clear HO111; clear HB; have HO103 := n0_; have HO106 := n1_; have HO111 := n2_; have HB := n3_; have BK113 := n4_; have GW113 := n5_; have GE113 := n6_; clear n0_ n1_ n2_ n3_ n4_ n5_ n6_; clear hb hbox hg; have hcz51_0 : w50.cell? ⟨gb113, 0, none⟩ = some (.string (⟨#[]⟩ : ByteArray)) := (blk_cell BK113.out 0).trans rfl; have hcz51_1 : w50.cell? ⟨gb113, 1, none⟩ = some (.string (⟨#[]⟩ : ByteArray)) := (blk_cell BK113.out 1).trans rfl; have hcz51_2 : w50.cell? ⟨gb113, 2, none⟩ = some (.slice none 0 0) := (blk_cell BK113.out 2).trans rfl; have hfz51_0 := blk_frozen BK113.out 0; have hfz51_1 := blk_frozen BK113.out 1; have hfz51_2 := blk_frozen BK113.out 2; obtain ⟨Ao52, co52, eo52⟩ := Kd.R_slice HO111.out; subst eo52) | ((with_reducible refine gate_callee (f := 33) rfl ?_); refine goesL_ (some 9) rfl rfl Tryz.func33 (by kernel_rfl) rfl #[.string (⟨#[84, 101, 120, 116, 47, 72, 84, 77, 76, 32, 59, 32, 67, 104, 97, 114, 115, 101, 116, 61, 34, 97, 92, 34, 98, 34, 32, 59, 120]⟩ : ByteArray)] rfl (by (try simp only [List.map_toArray, List.map_cons, List.map_nil]); first | done | rfl | (simp only [List.length_drop, List.length_take]; rfl)) ?_; (with_reducible refine (ostiarylaw6_text.calls (⟨#[84, 101, 120, 116, 47, 72, 84, 77, 76, 32, 59, 32, 67, 104, 97, 114, 115, 101, 116, 61, 34, 97, 92, 34, 98, 34, 32, 59, 120]⟩ : ByteArray) t114 _ A3.out).mono ?_); rintro e w53 ⟨rfl, hb⟩; refine ⟨_, rfl, ?_⟩; have n0_ := Aside0.mk (Kd.R_below (by (with_reducible repeat (first | apply Kd.R_alloc | apply Kd.R_drewN | apply Kd.R_drew)); exact (Kd.R_mono (Kd.R_far (p := ⟨gb113, 2, none⟩) (Kd.R_far (p := ⟨gb113, 1, none⟩) (Kd.R_far (p := ⟨gb113, 0, none⟩) (Kd.R_types HO103.out BK113.out (by decide)) (fun _ hk => hk.2) (.string t107)) (fun _ hk => hk.2) (.string t108)) (fun _ hk => hk.2) (.slice Ao52 t109.length co52)) (fun _ h_ => h_.1))) hb); have n1_ := Aside0.mk (Kd.R_below (by (with_reducible repeat (first | apply Kd.R_alloc | apply Kd.R_drewN | apply Kd.R_drew)); exact (Kd.R_mono (Kd.R_far (p := ⟨gb113, 2, none⟩) (Kd.R_far (p := ⟨gb113, 1, none⟩) (Kd.R_far (p := ⟨gb113, 0, none⟩) (Kd.R_types HO106.out BK113.out (by decide)) (fun _ hk => hk.2) (.string t107)) (fun _ hk => hk.2) (.string t108)) (fun _ hk => hk.2) (.slice Ao52 t109.length co52)) (fun _ h_ => h_.1))) hb); have n2_ := Aside0.mk (Kd.R_below (by (with_reducible repeat (first | apply Kd.R_alloc | apply Kd.R_drewN | apply Kd.R_drew)); exact (Kd.R_mono (Kd.R_far (p := ⟨gb113, 2, none⟩) (Kd.R_far (p := ⟨gb113, 1, none⟩) (Kd.R_far (p := ⟨gb113, 0, none⟩) (Kd.R_types HO111.out BK113.out (by decide)) (fun _ hk => hk.2) (.string t107)) (fun _ hk => hk.2) (.string t108)) (fun _ hk => hk.2) (.slice Ao52 t109.length co52)) (fun _ h_ => h_.1))) hb); have n3_ := Aside0.mk (blk_below (g := gb113) (o := .cells #[.string t107, .string t108, .slice Ao52 t109.length co52] 24 (0, 0)) (by (with_reducible repeat (first | refine blk_drewN ?_ _ | refine blk_drew ?_ | refine blk_alloc ?_ _)); refine blk_put (cs := #[.string t107, .string t108, .slice none 0 0]) ?_ 2 _ rfl; (with_reducible repeat (first | refine blk_drewN ?_ _ | refine blk_drew ?_ | refine blk_alloc ?_ _)); refine blk_put (cs := #[.string t107, .string (⟨#[]⟩ : ByteArray), .slice none 0 0]) ?_ 1 _ rfl; (with_reducible repeat (first | refine blk_drewN ?_ _ | refine blk_drew ?_ | refine blk_alloc ?_ _)); refine blk_put (cs := #[.string (⟨#[]⟩ : ByteArray), .string (⟨#[]⟩ : ByteArray), .slice none 0 0]) ?_ 0 _ rfl; (with_reducible repeat (first | refine blk_drewN ?_ _ | refine blk_drew ?_ | refine blk_alloc ?_ _)); exact BK113.out) hb); have n4_ := Aside0.mk (below_step (by repeat (first | (with_reducible first | exact HB.out | apply below_alloc | apply pw_below_drewN | apply below_drew1 | refine below_set ?_ GE113.out) | exact HB.out)) hb); clear HO103; clear HO106; clear HO111; clear BK113; clear HB; have HO103 := n0_; have HO106 := n1_; have HO111 := n2_; have BK113 := n3_; have HB := n4_; clear n0_ n1_ n2_ n3_ n4_; (try clear hb); (try clear hb2); (try clear hk); (try clear hi)))
    go_ret
    exact ⟨by first | rfl | (simp [errW_none, errW_some] <;> rfl) | (simp [*, errW_none, errW_some] <;> rfl), by repeat (first | (with_reducible first | exact HB.out | apply below_alloc | apply pw_below_drewN | apply below_drew1 | refine below_set ?_ GE113.out) | exact HB.out)⟩
end Go.Proofs.YteehjlciajhdoaaGreatDoor.X
namespace Go.Proofs.YteehjlciajhdoaaGreatDoor.X
open Go.RowKit Go.Proofs.YteehjlciajhdoaaGreatDoorW.PrintWords Go.Proofs.YteehjlciajhdoaaGreatDoorW.PrintLast Go.Proofs.YteehjlciajhdoaaGreatDoorW.PrintMore
attribute [local go_sem] max2_int min2_int max_two min_two max_three min_three max_four min_four
set_option linter.unusedVariables false
set_option linter.unusedSimpArgs false
def slices_Index.l0 : Nat → List ByteArray → ByteArray → Int → Int → Option (Int)
  | 0, _, _, _, _ => none
  | k + 1, x0, x1, x7, x8 => if x8 < x7 then (if 0 ≤ x8 then (if x8 < (x0.length : Int) then (if x1.toList = (rdOf ByteArray.empty x0 x8).toList then (some x8) else (slices_Index.l0 k x0 x1 x7 (wrap64 (x8 + 1)))) else (none)) else (none)) else (some (-1))
def slices_Index.f (k : Nat) (l0 : List ByteArray) (a1 : ByteArray) : Option (Int) := slices_Index.l0 k l0 a1 (l0.length : Int) 0
theorem slices_Index.mono_l : ∀ k, (∀ y0 y1 y2 y3, LeO (slices_Index.l0 k y0 y1 y2 y3) (slices_Index.l0 (k + 1) y0 y1 y2 y3))
  | 0 => fun _ _ _ _ r h => by simp [slices_Index.l0] at h
  | k + 1 => by
    have ih0 := slices_Index.mono_l k
    · intro y0 y1 y2 y3
      unfold slices_Index.l0
      repeat' first
      | (with_reducible exact ih0 _ _ _ _)
      | (with_reducible exact LeO.refl _)
      | (with_reducible exact LeO.none _)
      | (with_reducible refine LeO.ite ?_ ?_)
      | (with_reducible refine LeO.bind ?_ (fun _ => ?_))
      | exact ih0 _ _ _ _
      | exact LeO.none _
      | refine LeO.ite ?_ ?_
      | refine LeO.bind ?_ (fun _ => ?_)
theorem slices_Index.mono : ∀ a0 a1 k, LeO (slices_Index.f k a0 a1) (slices_Index.f (k + 1) a0 a1) := by
  intro a0 a1 k
  have ih0 := slices_Index.mono_l k
  unfold slices_Index.f
  repeat' first
      | (with_reducible exact ih0 _ _ _ _)
      | (with_reducible exact LeO.refl _)
      | (with_reducible exact LeO.none _)
      | (with_reducible refine LeO.ite ?_ ?_)
      | (with_reducible refine LeO.bind ?_ (fun _ => ?_))
      | exact ih0 _ _ _ _
      | exact LeO.none _
      | refine LeO.ite ?_ ?_
      | refine LeO.bind ?_ (fun _ => ?_)
set_option maxHeartbeats 8000000 in
set_option maxRecDepth 100000 in
theorem slices_Index.calls (k : Nat) (A0 : Option Addr) (c0 : Nat) (l0 : List ByteArray) (a1 : ByteArray) (r : Int) (w : World) (hr0 : Kd.C Kd.string w A0 l0.length l0) (hc0 : l0.length ≤ c0) (h : slices_Index.f k l0 a1 = some r) :
    Calls Tryz.prog 138 #[.slice A0 l0.length c0, .string a1] w fun e w' => e = .returned (.int .i64 r) ∧ Drawn0 w w' := by
  have HR0 := Aside0.mk hr0
  have HC0 := Aside0.mk hc0
  clear hr0 hc0
  have H : (slices_Index.l0 k l0 a1 (l0.length : Int) 0) = some r := h
  clear h
  have H' := Aside0.mk H
  clear H
  go_enter Tryz.func138, Tryz.ntmps138
  go_wp2
  go_loopg [8] k (fun kq v8 w' => ∃ (x8_1 : Int), v8 = .int .i64 x8_1 ∧ Aside0 (slices_Index.l0 kq l0 a1 (l0.length : Int) x8_1 = some r) ∧ Aside0 (kq ≤ k) ∧ Drawn0 w w')
  case atStart => exact ⟨(0), (by first | rfl | (simp; done) | (simp [*]; done)), H', ⟨Nat.le_refl _⟩, by repeat (first | exact Drawn0.refl _ | apply Drawn0.step)⟩
  case round =>
    clear H'
    try clear c1
    try clear p2
    obtain ⟨x8_1, rfl, HA, HK1, ⟨m1, rfl⟩⟩ := hrel
    cases gk with
    | zero => exact absurd HA.out (by simp [slices_Index.l0])
    | succ k1 =>
      have H := HA.out
      clear HA
      simp only [slices_Index.l0] at H
      by_cases c3 : x8_1 < (l0.length : Int)
      · rw [if_pos c3] at H
        have c3b0 : decide (x8_1 < (l0.length : Int)) = true := decide_eq_true c3
        clear c3
        by_cases c4 : 0 ≤ x8_1
        · rw [if_pos c4] at H
          have c4b0 : decide (0 ≤ x8_1) = true := decide_eq_true c4
          clear c4
          by_cases c5 : x8_1 < (l0.length : Int)
          · rw [if_pos c5] at H
            have c5b0 : decide (x8_1 < (l0.length : Int)) = true := decide_eq_true c5
            clear c5
            by_cases c6 : a1.toList = (rdOf ByteArray.empty l0 x8_1).toList
            · rw [if_pos c6] at H
              have c6b0 : (a1.toList == (rdOf ByteArray.empty l0 x8_1).toList) = true := beq_iff_eq.mpr c6
              have c6b1 : (a1.toList != (rdOf ByteArray.empty l0 x8_1).toList) = false := bne_eq_false_iff_eq.mpr c6
              clear c6
              obtain rfl := Option.some.inj H
              have p101 : 0 ≤ (x8_1 : Int) := of_decide_eq_true (by first | (with_reducible assumption) | assumption)
              have q101 : x8_1 < (l0.length : Int) := of_decide_eq_true (by first | (with_reducible assumption) | assumption)
              obtain ⟨ad101, e101, hx101_0⟩ := Kd.at_string HR0.out x8_1 p101 q101
              cases e101
              replace p101 := eq_true p101
              replace q101 := eq_true q101
              go_wp2
              go_ret
              exact ⟨by first | rfl | (simp; done) | (simp [*]; done), by repeat (first | exact Drawn0.refl _ | apply Drawn0.step)⟩
            · rw [if_neg c6] at H
              have c6b0 : (a1.toList == (rdOf ByteArray.empty l0 x8_1).toList) = false := beq_eq_false_iff_ne.mpr c6
              have c6b1 : (a1.toList != (rdOf ByteArray.empty l0 x8_1).toList) = true := bne_iff_ne.mpr c6
              have H' := Aside0.mk H
              clear H
              have p101 : 0 ≤ (x8_1 : Int) := of_decide_eq_true (by first | (with_reducible assumption) | assumption)
              have q101 : x8_1 < (l0.length : Int) := of_decide_eq_true (by first | (with_reducible assumption) | assumption)
              obtain ⟨ad101, e101, hx101_0⟩ := Kd.at_string HR0.out x8_1 p101 q101
              cases e101
              replace p101 := eq_true p101
              replace q101 := eq_true q101
              go_wp2
              go_roundg k1
              case measure => have := HK1.out; omega
              case rel => exact ⟨(wrap64 (x8_1 + 1)), (by first | rfl | (simp; done) | (simp [*]; done)), H', ⟨by have := HK1.out; omega⟩, by repeat (first | exact Drawn0.refl _ | apply Drawn0.step)⟩
          · rw [if_neg c5] at H
            exact absurd H (by simp)
        · rw [if_neg c4] at H
          exact absurd H (by simp)
      · rw [if_neg c3] at H
        have c3b0 : decide (x8_1 < (l0.length : Int)) = false := decide_eq_false c3
        clear c3
        obtain rfl := Option.some.inj H
        go_wp2
        go_ret
        exact ⟨by first | rfl | (simp; done) | (simp [*]; done), by repeat (first | exact Drawn0.refl _ | apply Drawn0.step)⟩
end Go.Proofs.YteehjlciajhdoaaGreatDoor.X
namespace Go.Proofs.YteehjlciajhdoaaGreatDoor.X
open Go.RowKit Go.Proofs.YteehjlciajhdoaaGreatDoorW.PrintWords Go.Proofs.YteehjlciajhdoaaGreatDoorW.PrintLast Go.Proofs.YteehjlciajhdoaaGreatDoorW.PrintMore
attribute [local go_sem] max2_int min2_int max_two min_two max_three min_three max_four min_four
set_option linter.unusedVariables false
set_option linter.unusedSimpArgs false
def slices_Contains.f (k : Nat) (l0 : List ByteArray) (a1 : ByteArray) : Option (Bool) := (slices_Index.f k l0 a1).bind fun t101 => (some (decide (t101 ≥ 0)))
theorem slices_Contains.mono : ∀ a0 a1 k, LeO (slices_Contains.f k a0 a1) (slices_Contains.f (k + 1) a0 a1) := by
  intro a0 a1 k
  unfold slices_Contains.f
  repeat' first
      | (with_reducible exact slices_Index.mono _ _ _)
      | (with_reducible exact LeO.refl _)
      | (with_reducible exact LeO.none _)
      | (with_reducible refine LeO.ite ?_ ?_)
      | (with_reducible refine LeO.bind ?_ (fun _ => ?_))
      | exact slices_Index.mono _ _ _
      | exact LeO.none _
      | refine LeO.ite ?_ ?_
      | refine LeO.bind ?_ (fun _ => ?_)
set_option maxHeartbeats 8000000 in
set_option maxRecDepth 100000 in
theorem slices_Contains.calls (k : Nat) (A0 : Option Addr) (c0 : Nat) (l0 : List ByteArray) (a1 : ByteArray) (r : Bool) (w : World) (hr0 : Kd.C Kd.string w A0 l0.length l0) (hc0 : l0.length ≤ c0) (h : slices_Contains.f k l0 a1 = some r) :
    Calls Tryz.prog 78 #[.slice A0 l0.length c0, .string a1] w fun e w' => e = .returned (.bool r) ∧ Drawn0 w w' := by
  have HR0 := Aside0.mk hr0
  have HC0 := Aside0.mk hc0
  clear hr0 hc0
  have H : ((slices_Index.f k l0 a1).bind fun t101 => (some (decide (t101 ≥ 0)))) = some r := h
  clear h
  replace H := Option.bind_eq_some_iff.mp H
  obtain ⟨t101, A30, H⟩ := H
  replace H : (some (decide (t101 ≥ 0))) = some r := H
  have A3 := Aside0.mk A30
  clear A30
  obtain rfl := Option.some.inj H
  go_enter Tryz.func78, Tryz.ntmps78
  go_wp2_with (first | ((with_reducible refine gate_callee (f := 138) rfl ?_); refine goesL_ (some 7) rfl rfl Tryz.func138 (by kernel_rfl) rfl #[.slice A0 l0.length c0, .string a1] rfl (by (try simp only [List.map_toArray, List.map_cons, List.map_nil]); first | done | rfl | (simp only [List.length_drop, List.length_take]; rfl)) ?_; (with_reducible refine (slices_Index.calls k _ _ l0 a1 t101 _ ?side1 ?side2 A3.out).mono ?_); (case side1 => repeat (first | exact HR0.out | (with_reducible refine Kd.C_alloc ?_ _) | (with_reducible refine Kd.C_drewN ?_ _) | (with_reducible refine Kd.C_drew ?_))); (case side2 => exact HC0.out); rintro e w' ⟨rfl, ⟨nd, rfl⟩⟩; refine ⟨_, rfl, ?_⟩))
  go_ret
  exact ⟨by first | rfl | (simp; done) | (simp [*]; done), by repeat (first | exact Drawn0.refl _ | apply Drawn0.step)⟩
end Go.Proofs.YteehjlciajhdoaaGreatDoor.X
namespace Go.Proofs.YteehjlciajhdoaaGreatDoor.X
open Go.RowKit Go.Proofs.YteehjlciajhdoaaGreatDoorW.PrintWords Go.Proofs.YteehjlciajhdoaaGreatDoorW.PrintLast Go.Proofs.YteehjlciajhdoaaGreatDoorW.PrintMore
attribute [local go_sem] max2_int min2_int max_two min_two max_three min_three max_four min_four
set_option linter.unusedVariables false
set_option linter.unusedSimpArgs false
def stringslite_HasSuffix.f (a0 : ByteArray) (a1 : ByteArray) : Option (Bool) := if (a0.size : Int) ≥ (a1.size : Int) then (if 0 ≤ (wrap64 ((a0.size : Int) - (a1.size : Int))) then (if (wrap64 ((a0.size : Int) - (a1.size : Int))) ≤ (a0.size : Int) then (some ((a0.extract ((wrap64 ((a0.size : Int) - (a1.size : Int))) : Int).toNat a0.size).toList == a1.toList)) else (none)) else (none)) else (some false)
set_option maxHeartbeats 8000000 in
set_option maxRecDepth 100000 in
theorem stringslite_HasSuffix.calls (a0 : ByteArray) (a1 : ByteArray) (r : Bool) (w : World) (h : stringslite_HasSuffix.f a0 a1 = some r) :
    Calls Tryz.prog 139 #[.string a0, .string a1] w fun e w' => e = .returned (.bool r) ∧ Drawn0 w w' := by
  have H : (if (a0.size : Int) ≥ (a1.size : Int) then (if 0 ≤ (wrap64 ((a0.size : Int) - (a1.size : Int))) then (if (wrap64 ((a0.size : Int) - (a1.size : Int))) ≤ (a0.size : Int) then (some ((a0.extract ((wrap64 ((a0.size : Int) - (a1.size : Int))) : Int).toNat a0.size).toList == a1.toList)) else (none)) else (none)) else (some false)) = some r := h
  clear h
  by_cases c3 : (a0.size : Int) ≥ (a1.size : Int)
  · rw [if_pos c3] at H
    have c3b0 : decide ((a1.size : Int) ≤ (a0.size : Int)) = true := decide_eq_true c3
    have c3b1 : decide (a1.size ≤ a0.size) = true := decide_eq_true (Int.ofNat_le.mp c3)
    clear c3
    obtain ⟨ji4, hji4⟩ : ∃ j_ : Int, (wrap64 ((a0.size : Int) - (a1.size : Int))) = j_ := ⟨_, rfl⟩
    replace H : (if 0 ≤ (ji4) then (if (ji4) ≤ (a0.size : Int) then (some ((a0.extract ((ji4) : Int).toNat a0.size).toList == a1.toList)) else (none)) else (none)) = some r := by first | (rw [hji4] at H; exact H) | (simp only [hji4] at H ⊢; exact H)
    have hji4w : (IntKind.i64.wrap ((a0.size : Int) - (a1.size : Int))) = ji4 := (i64_w _).trans hji4
    by_cases c5 : 0 ≤ (ji4)
    · rw [if_pos c5] at H
      have c5b0 := eq_true c5
      have c5b1 : decide (0 ≤ (ji4)) = true := decide_eq_true c5
      clear c5
      by_cases c6 : (ji4) ≤ (a0.size : Int)
      · rw [if_pos c6] at H
        have c6b0 := eq_true c6
        have c6b1 : decide ((ji4) ≤ (a0.size : Int)) = true := decide_eq_true c6
        clear c6
        obtain rfl := Option.some.inj H
        go_enter Tryz.func139, Tryz.ntmps139
        go_wp2
        go_ret
        exact ⟨by first | rfl | (simp; done) | (simp only [← hji4] <;> (first | rfl | simp)) | (simp [*]; done), by repeat (first | exact Drawn0.refl _ | apply Drawn0.step)⟩
      · rw [if_neg c6] at H
        exact absurd H (by simp)
    · rw [if_neg c5] at H
      exact absurd H (by simp)
  · rw [if_neg c3] at H
    have c3b0 : decide ((a1.size : Int) ≤ (a0.size : Int)) = false := decide_eq_false c3
    have c3b1 : decide (a1.size ≤ a0.size) = false := decide_eq_false (fun h => c3 (Int.ofNat_le.mpr h))
    clear c3
    obtain rfl := Option.some.inj H
    go_enter Tryz.func139, Tryz.ntmps139
    go_wp2
    go_ret
    exact ⟨by first | rfl | (simp; done) | (simp [*]; done), by repeat (first | exact Drawn0.refl _ | apply Drawn0.step)⟩
end Go.Proofs.YteehjlciajhdoaaGreatDoor.X
namespace Go.Proofs.YteehjlciajhdoaaGreatDoor.X
open Go.RowKit Go.Proofs.YteehjlciajhdoaaGreatDoorW.PrintWords Go.Proofs.YteehjlciajhdoaaGreatDoorW.PrintLast Go.Proofs.YteehjlciajhdoaaGreatDoorW.PrintMore
attribute [local go_sem] max2_int min2_int max_two min_two max_three min_three max_four min_four
set_option linter.unusedVariables false
set_option linter.unusedSimpArgs false
def strings_HasSuffix.f (a0 : ByteArray) (a1 : ByteArray) : Option (Bool) := (stringslite_HasSuffix.f a0 a1).bind fun t101 => (some t101)
set_option maxHeartbeats 8000000 in
set_option maxRecDepth 100000 in
theorem strings_HasSuffix.calls (a0 : ByteArray) (a1 : ByteArray) (r : Bool) (w : World) (h : strings_HasSuffix.f a0 a1 = some r) :
    Calls Tryz.prog 79 #[.string a0, .string a1] w fun e w' => e = .returned (.bool r) ∧ Drawn0 w w' := by
  have H : ((stringslite_HasSuffix.f a0 a1).bind fun t101 => (some t101)) = some r := h
  clear h
  replace H := Option.bind_eq_some_iff.mp H
  obtain ⟨t101, A30, H⟩ := H
  replace H : (some t101) = some r := H
  have A3 := Aside0.mk A30
  clear A30
  obtain rfl := Option.some.inj H
  go_enter Tryz.func79, Tryz.ntmps79
  go_wp2_with (first | ((with_reducible refine gate_callee (f := 139) rfl ?_); refine goesL_ (some 7) rfl rfl Tryz.func139 (by kernel_rfl) rfl #[.string a0, .string a1] rfl (by (try simp only [List.map_toArray, List.map_cons, List.map_nil]); first | done | rfl | (simp only [List.length_drop, List.length_take]; rfl)) ?_; (with_reducible refine (stringslite_HasSuffix.calls a0 a1 t101 _ A3.out).mono ?_); rintro e w' ⟨rfl, ⟨nd, rfl⟩⟩; refine ⟨_, rfl, ?_⟩))
  go_ret
  exact ⟨by first | rfl | (simp; done) | (simp [*]; done), by repeat (first | exact Drawn0.refl _ | apply Drawn0.step)⟩
end Go.Proofs.YteehjlciajhdoaaGreatDoor.X
namespace Go.Proofs.YteehjlciajhdoaaGreatDoor.X
open Go.RowKit Go.Proofs.YteehjlciajhdoaaGreatDoorW.PrintWords Go.Proofs.YteehjlciajhdoaaGreatDoorW.PrintLast Go.Proofs.YteehjlciajhdoaaGreatDoorW.PrintMore
attribute [local go_sem] max2_int min2_int max_two min_two max_three min_three max_four min_four
set_option linter.unusedVariables false
set_option linter.unusedSimpArgs false
mutual
def mime_Group.j0 : Nat → ByteArray → Bool → ByteArray → ByteArray → List (S32) → Option (Int)
  | 0, _, _, _, _, _ => none
  | k + 1, x3, x6, x102000, x102001, x102002 => if x6 = true then (mime_Group.j1 k x3 x6 x102000 x102001 x102002) else (mime_Group.j1 k x3 (x3.toList == ([116, 101, 120, 116, 47, 106, 115, 99, 114, 105, 112, 116] : List UInt8)) x102000 x102001 x102002)
def mime_Group.j1 : Nat → ByteArray → Bool → ByteArray → ByteArray → List (S32) → Option (Int)
  | 0, _, _, _, _, _ => none
  | k + 1, x3, x6, x102000, x102001, x102002 => if x6 = true then (some 1) else (if x3.toList = ([97, 112, 112, 108, 105, 99, 97, 116, 105, 111, 110, 47, 106, 115, 111, 110] : List UInt8) then (mime_Group.j2 k x3 (x3.toList == ([97, 112, 112, 108, 105, 99, 97, 116, 105, 111, 110, 47, 106, 115, 111, 110] : List UInt8)) x102000 x102001 x102002) else (if x3.toList = ([116, 101, 120, 116, 47, 106, 115, 111, 110] : List UInt8) then (mime_Group.j2 k x3 (x3.toList == ([116, 101, 120, 116, 47, 106, 115, 111, 110] : List UInt8)) x102000 x102001 x102002) else ((strings_HasSuffix.f x102001 (⟨#[43, 106, 115, 111, 110]⟩ : ByteArray)).bind fun t107 => (mime_Group.j2 k x3 t107 x102000 x102001 x102002))))
def mime_Group.j2 : Nat → ByteArray → Bool → ByteArray → ByteArray → List (S32) → Option (Int)
  | 0, _, _, _, _, _ => none
  | k + 1, x3, x23, x102000, x102001, x102002 => if x23 = true then (some 2) else (if x3.toList = ([97, 112, 112, 108, 105, 99, 97, 116, 105, 111, 110, 47, 120, 109, 108] : List UInt8) then (mime_Group.j3 k x3 (x3.toList == ([97, 112, 112, 108, 105, 99, 97, 116, 105, 111, 110, 47, 120, 109, 108] : List UInt8)) x102000 x102001 x102002) else (if x3.toList = ([116, 101, 120, 116, 47, 120, 109, 108] : List UInt8) then (mime_Group.j3 k x3 (x3.toList == ([116, 101, 120, 116, 47, 120, 109, 108] : List UInt8)) x102000 x102001 x102002) else ((strings_HasSuffix.f x102001 (⟨#[43, 120, 109, 108]⟩ : ByteArray)).bind fun t108 => (mime_Group.j3 k x3 t108 x102000 x102001 x102002))))
def mime_Group.j3 : Nat → ByteArray → Bool → ByteArray → ByteArray → List (S32) → Option (Int)
  | 0, _, _, _, _, _ => none
  | k + 1, x3, x31, x102000, x102001, x102002 => if x31 = true then (some 3) else (if x102000.toList = ([105, 109, 97, 103, 101] : List UInt8) then (some 4) else (if x3.toList = ([116, 101, 120, 116, 47, 99, 115, 115] : List UInt8) then (some 5) else (if x102000.toList = ([97, 117, 100, 105, 111] : List UInt8) then (some 6) else (if x102000.toList = ([118, 105, 100, 101, 111] : List UInt8) then (some 6) else (some 0)))))
end
def mime_Group.f (k : Nat) (a0_0 : ByteArray) (a0_1 : ByteArray) (l0_2 : List (S32)) : Option (Int) := (mime_Essence.f a0_0 a0_1 l0_2).bind fun t102 => ((slices_Contains.f k (([(⟨#[106, 97, 118, 97, 115, 99, 114, 105, 112, 116]⟩ : ByteArray), (⟨#[101, 99, 109, 97, 115, 99, 114, 105, 112, 116]⟩ : ByteArray), (⟨#[120, 45, 106, 97, 118, 97, 115, 99, 114, 105, 112, 116]⟩ : ByteArray), (⟨#[120, 45, 101, 99, 109, 97, 115, 99, 114, 105, 112, 116]⟩ : ByteArray)] : List ByteArray)) a0_1).bind fun t106 => (if t106 = true then (if a0_0.toList = ([97, 112, 112, 108, 105, 99, 97, 116, 105, 111, 110] : List UInt8) then (mime_Group.j0 k t102 true a0_0 a0_1 l0_2) else (mime_Group.j0 k t102 (a0_0.toList == ([116, 101, 120, 116] : List UInt8)) a0_0 a0_1 l0_2)) else (mime_Group.j0 k t102 false a0_0 a0_1 l0_2)))
theorem mime_Group.mono_l : ∀ k, (∀ y0 y1 y2 y3 y4, LeO (mime_Group.j0 k y0 y1 y2 y3 y4) (mime_Group.j0 (k + 1) y0 y1 y2 y3 y4)) ∧ (∀ y0 y1 y2 y3 y4, LeO (mime_Group.j1 k y0 y1 y2 y3 y4) (mime_Group.j1 (k + 1) y0 y1 y2 y3 y4)) ∧ (∀ y0 y1 y2 y3 y4, LeO (mime_Group.j2 k y0 y1 y2 y3 y4) (mime_Group.j2 (k + 1) y0 y1 y2 y3 y4)) ∧ (∀ y0 y1 y2 y3 y4, LeO (mime_Group.j3 k y0 y1 y2 y3 y4) (mime_Group.j3 (k + 1) y0 y1 y2 y3 y4))
  | 0 => ⟨fun _ _ _ _ _ r h => by simp [mime_Group.j0] at h, fun _ _ _ _ _ r h => by simp [mime_Group.j1] at h, fun _ _ _ _ _ r h => by simp [mime_Group.j2] at h, fun _ _ _ _ _ r h => by simp [mime_Group.j3] at h⟩
  | k + 1 => by
    obtain ⟨ih0, ih1, ih2, ih3⟩ := mime_Group.mono_l k
    refine ⟨?_, ?_, ?_, ?_⟩
    · intro y0 y1 y2 y3 y4
      unfold mime_Group.j0
      repeat' first
      | (with_reducible exact ih0 _ _ _ _ _)
      | (with_reducible exact ih1 _ _ _ _ _)
      | (with_reducible exact ih2 _ _ _ _ _)
      | (with_reducible exact ih3 _ _ _ _ _)
      | (with_reducible exact slices_Contains.mono _ _ _)
      | (with_reducible exact LeO.refl _)
      | (with_reducible exact LeO.none _)
      | (with_reducible refine LeO.ite ?_ ?_)
      | (with_reducible refine LeO.bind ?_ (fun _ => ?_))
      | exact ih0 _ _ _ _ _
      | exact ih1 _ _ _ _ _
      | exact ih2 _ _ _ _ _
      | exact ih3 _ _ _ _ _
      | exact slices_Contains.mono _ _ _
      | exact LeO.none _
      | refine LeO.ite ?_ ?_
      | refine LeO.bind ?_ (fun _ => ?_)
    · intro y0 y1 y2 y3 y4
      unfold mime_Group.j1
      repeat' first
      | (with_reducible exact ih0 _ _ _ _ _)
      | (with_reducible exact ih1 _ _ _ _ _)
      | (with_reducible exact ih2 _ _ _ _ _)
      | (with_reducible exact ih3 _ _ _ _ _)
      | (with_reducible exact slices_Contains.mono _ _ _)
      | (with_reducible exact LeO.refl _)
      | (with_reducible exact LeO.none _)
      | (with_reducible refine LeO.ite ?_ ?_)
      | (with_reducible refine LeO.bind ?_ (fun _ => ?_))
      | exact ih0 _ _ _ _ _
      | exact ih1 _ _ _ _ _
      | exact ih2 _ _ _ _ _
      | exact ih3 _ _ _ _ _
      | exact slices_Contains.mono _ _ _
      | exact LeO.none _
      | refine LeO.ite ?_ ?_
      | refine LeO.bind ?_ (fun _ => ?_)
    · intro y0 y1 y2 y3 y4
      unfold mime_Group.j2
      repeat' first
      | (with_reducible exact ih0 _ _ _ _ _)
      | (with_reducible exact ih1 _ _ _ _ _)
      | (with_reducible exact ih2 _ _ _ _ _)
      | (with_reducible exact ih3 _ _ _ _ _)
      | (with_reducible exact slices_Contains.mono _ _ _)
      | (with_reducible exact LeO.refl _)
      | (with_reducible exact LeO.none _)
      | (with_reducible refine LeO.ite ?_ ?_)
      | (with_reducible refine LeO.bind ?_ (fun _ => ?_))
      | exact ih0 _ _ _ _ _
      | exact ih1 _ _ _ _ _
      | exact ih2 _ _ _ _ _
      | exact ih3 _ _ _ _ _
      | exact slices_Contains.mono _ _ _
      | exact LeO.none _
      | refine LeO.ite ?_ ?_
      | refine LeO.bind ?_ (fun _ => ?_)
    · intro y0 y1 y2 y3 y4
      unfold mime_Group.j3
      repeat' first
      | (with_reducible exact ih0 _ _ _ _ _)
      | (with_reducible exact ih1 _ _ _ _ _)
      | (with_reducible exact ih2 _ _ _ _ _)
      | (with_reducible exact ih3 _ _ _ _ _)
      | (with_reducible exact slices_Contains.mono _ _ _)
      | (with_reducible exact LeO.refl _)
      | (with_reducible exact LeO.none _)
      | (with_reducible refine LeO.ite ?_ ?_)
      | (with_reducible refine LeO.bind ?_ (fun _ => ?_))
      | exact ih0 _ _ _ _ _
      | exact ih1 _ _ _ _ _
      | exact ih2 _ _ _ _ _
      | exact ih3 _ _ _ _ _
      | exact slices_Contains.mono _ _ _
      | exact LeO.none _
      | refine LeO.ite ?_ ?_
      | refine LeO.bind ?_ (fun _ => ?_)
theorem mime_Group.mono : ∀ a0 a1 a2 k, LeO (mime_Group.f k a0 a1 a2) (mime_Group.f (k + 1) a0 a1 a2) := by
  intro a0 a1 a2 k
  obtain ⟨ih0, ih1, ih2, ih3⟩ := mime_Group.mono_l k
  unfold mime_Group.f
  repeat' first
      | (with_reducible exact ih0 _ _ _ _ _)
      | (with_reducible exact ih1 _ _ _ _ _)
      | (with_reducible exact ih2 _ _ _ _ _)
      | (with_reducible exact ih3 _ _ _ _ _)
      | (with_reducible exact slices_Contains.mono _ _ _)
      | (with_reducible exact LeO.refl _)
      | (with_reducible exact LeO.none _)
      | (with_reducible refine LeO.ite ?_ ?_)
      | (with_reducible refine LeO.bind ?_ (fun _ => ?_))
      | exact ih0 _ _ _ _ _
      | exact ih1 _ _ _ _ _
      | exact ih2 _ _ _ _ _
      | exact ih3 _ _ _ _ _
      | exact slices_Contains.mono _ _ _
      | exact LeO.none _
      | refine LeO.ite ?_ ?_
      | refine LeO.bind ?_ (fun _ => ?_)
set_option maxHeartbeats 8000000 in
set_option maxRecDepth 100000 in
theorem mime_Group.calls (k : Nat) (a0_0 : ByteArray) (a0_1 : ByteArray) (A0_2 : Option Addr) (c0_2 : Nat) (l0_2 : List (S32)) (r : Int) (w : World) (hr0_2 : Kd.C k32 w A0_2 l0_2.length l0_2) (hc0_2 : l0_2.length ≤ c0_2) (h : mime_Group.f k a0_0 a0_1 l0_2 = some r) :
    Calls Tryz.prog 31 #[.agg #[.string a0_0, .string a0_1, .slice A0_2 l0_2.length c0_2]] w fun e w' => e = .returned (.int .i64 r) ∧ Below w.heap.size w w' := by
  have hu24 := Tryz.underlying24
  have HR0_2 := Aside0.mk hr0_2
  have HC0_2 := Aside0.mk hc0_2
  clear hr0_2 hc0_2
  have HB := Aside0.mk (Below.refl w.heap.size w)
  have H : ((mime_Essence.f a0_0 a0_1 l0_2).bind fun t102 => ((slices_Contains.f k (([(⟨#[106, 97, 118, 97, 115, 99, 114, 105, 112, 116]⟩ : ByteArray), (⟨#[101, 99, 109, 97, 115, 99, 114, 105, 112, 116]⟩ : ByteArray), (⟨#[120, 45, 106, 97, 118, 97, 115, 99, 114, 105, 112, 116]⟩ : ByteArray), (⟨#[120, 45, 101, 99, 109, 97, 115, 99, 114, 105, 112, 116]⟩ : ByteArray)] : List ByteArray)) a0_1).bind fun t106 => (if t106 = true then (if a0_0.toList = ([97, 112, 112, 108, 105, 99, 97, 116, 105, 111, 110] : List UInt8) then (mime_Group.j0 k t102 true a0_0 a0_1 l0_2) else (mime_Group.j0 k t102 (a0_0.toList == ([116, 101, 120, 116] : List UInt8)) a0_0 a0_1 l0_2)) else (mime_Group.j0 k t102 false a0_0 a0_1 l0_2)))) = some r := h
  clear h
  replace H := Option.bind_eq_some_iff.mp H
  obtain ⟨t102, A20, H⟩ := H
  replace H : ((slices_Contains.f k (([(⟨#[106, 97, 118, 97, 115, 99, 114, 105, 112, 116]⟩ : ByteArray), (⟨#[101, 99, 109, 97, 115, 99, 114, 105, 112, 116]⟩ : ByteArray), (⟨#[120, 45, 106, 97, 118, 97, 115, 99, 114, 105, 112, 116]⟩ : ByteArray), (⟨#[120, 45, 101, 99, 109, 97, 115, 99, 114, 105, 112, 116]⟩ : ByteArray)] : List ByteArray)) a0_1).bind fun t106 => (if t106 = true then (if a0_0.toList = ([97, 112, 112, 108, 105, 99, 97, 116, 105, 111, 110] : List UInt8) then (mime_Group.j0 k t102 true a0_0 a0_1 l0_2) else (mime_Group.j0 k t102 (a0_0.toList == ([116, 101, 120, 116] : List UInt8)) a0_0 a0_1 l0_2)) else (mime_Group.j0 k t102 false a0_0 a0_1 l0_2))) = some r := H
  have A2 := Aside0.mk A20
  clear A20
  have HC3 := Aside0.mk H
  clear H
  go_enter Tryz.func31, Tryz.ntmps31
  go_upto_region 2 with (first | ((with_reducible refine gate_dst (N := 1) rfl ?_); refine box_event ?hg (N := 1) ?hd (cs := #[.string a0_0, .string a0_1, .slice A0_2 l0_2.length c0_2]) (t := 24) ?hr ?_; (case hd => rfl); (case hg => rfl); (case hr => first | (go_simp; done) | (go_simp; rfl)); intro gb101 hg w4 hbox hb; have n0_ := Aside0.mk (below_step (by repeat (first | (with_reducible first | exact HB.out | apply below_alloc | apply pw_below_drewN | apply below_drew1) | exact HB.out)) hb); have n1_ := Aside0.mk (hbox); have n2_ := Aside0.mk ((by rw [hg]; exact (below_size (by repeat (first | (with_reducible first | exact HB.out | apply below_alloc | apply pw_below_drewN | apply below_drew1) | exact HB.out))) : w.heap.size ≤ gb101)); have n3_ := Aside0.mk ((by rw [hg]; exact (below_size (by repeat (first | (with_reducible first | exact HB.out | apply below_alloc | apply pw_below_drewN | apply below_drew1) | exact HB.out))) : w.heap.size ≤ gb101)); clear HB; have HB := n0_; have BK101 := n1_; have GW101 := n2_; have GE101 := n3_; clear n0_ n1_ n2_ n3_; clear hb hbox hg; have hcz5_0 : w4.cell? ⟨gb101, 0, none⟩ = some (.string a0_0) := (blk_cell BK101.out 0).trans rfl; have hcz5_1 : w4.cell? ⟨gb101, 1, none⟩ = some (.string a0_1) := (blk_cell BK101.out 1).trans rfl; have hcz5_2 : w4.cell? ⟨gb101, 2, none⟩ = some (.slice A0_2 l0_2.length c0_2) := (blk_cell BK101.out 2).trans rfl; have hfz5_0 := blk_frozen BK101.out 0; have hfz5_1 := blk_frozen BK101.out 1; have hfz5_2 := blk_frozen BK101.out 2) | ((with_reducible refine gate_callee (f := 29) rfl ?_); refine goesL_ (some 5) rfl rfl Tryz.func29 (by kernel_rfl) rfl #[.agg #[.string a0_0, .string a0_1, .slice A0_2 l0_2.length c0_2]] rfl (by (try simp only [List.map_toArray, List.map_cons, List.map_nil]); first | done | rfl | (simp only [List.length_drop, List.length_take]; rfl)) ?_; (with_reducible refine (mime_Essence.calls a0_0 a0_1 _ _ l0_2 t102 _ ?side1 ?side2 A2.out).mono ?_); (case side1 => repeat (first | exact (Kd.C_below HR0_2.out HB.out) | (with_reducible refine Kd.C_alloc ?_ _) | (with_reducible refine Kd.C_drewN ?_ _) | (with_reducible refine Kd.C_drew ?_))); (case side2 => exact HC0_2.out); rintro e w6 ⟨rfl, hb⟩; refine ⟨_, rfl, ?_⟩; have n0_ := Aside0.mk (blk_below (g := gb101) (o := .cells #[.string a0_0, .string a0_1, .slice A0_2 l0_2.length c0_2] 24 (0, 0)) (by (with_reducible repeat (first | refine blk_drewN ?_ _ | refine blk_drew ?_ | refine blk_alloc ?_ _)); exact BK101.out) hb); have n1_ := Aside0.mk (below_step (by repeat (first | (with_reducible first | exact HB.out | apply below_alloc | apply pw_below_drewN | apply below_drew1 | refine below_set ?_ GE101.out) | exact HB.out)) hb); clear BK101; clear HB; have BK101 := n0_; have HB := n1_; clear n0_ n1_; (try clear hb); (try clear hb2); (try clear hk); (try clear hi)))
  (try simp only [Act.put, List.setIfInBounds_toArray, List.set_cons_zero, List.set_cons_succ])
  go_cut [6] (fun v6 wc => ∃ (kq : Nat) (x6_2 : Bool), v6 = .bool x6_2 ∧ Aside0 (mime_Group.j0 kq t102 x6_2 a0_0 a0_1 l0_2 = some r) ∧ Aside0 (kq ≤ k) ∧ Aside0 (wc.heap[gb101]? = some (.cells #[.string a0_0, .string a0_1, (.slice A0_2 l0_2.length c0_2)] 24 (0, 0))) ∧ Aside0 (Below w.heap.size w wc))
  case first =>
    have H := HC3.out
    clear HC3
    obtain ⟨y103, hy103⟩ : ∃ y_ : List ByteArray, y_ = (([(⟨#[106, 97, 118, 97, 115, 99, 114, 105, 112, 116]⟩ : ByteArray), (⟨#[101, 99, 109, 97, 115, 99, 114, 105, 112, 116]⟩ : ByteArray), (⟨#[120, 45, 106, 97, 118, 97, 115, 99, 114, 105, 112, 116]⟩ : ByteArray), (⟨#[120, 45, 101, 99, 109, 97, 115, 99, 114, 105, 112, 116]⟩ : ByteArray)] : List ByteArray)) := ⟨_, rfl⟩
    replace H : ((slices_Contains.f k y103 a0_1).bind fun t106 => (if t106 = true then (if a0_0.toList = ([97, 112, 112, 108, 105, 99, 97, 116, 105, 111, 110] : List UInt8) then (mime_Group.j0 k t102 true a0_0 a0_1 l0_2) else (mime_Group.j0 k t102 (a0_0.toList == ([116, 101, 120, 116] : List UInt8)) a0_0 a0_1 l0_2)) else (mime_Group.j0 k t102 false a0_0 a0_1 l0_2))) = some r := by first | (rw [hy103]; with_reducible exact H) | (have H2_ := (Option.bind_some _ _).symm.trans H; rw [hy103]; with_reducible exact H2_) | (have H2_ := (Option.bind_some _ _).symm.trans H; with_reducible exact H2_) | with_reducible exact H | (rw [hy103]; exact H) | exact H
    have Ny103 := Aside0.mk hy103
    clear hy103
    replace H := Option.bind_eq_some_iff.mp H
    obtain ⟨t106, A70, H⟩ := H
    replace H : (if t106 = true then (if a0_0.toList = ([97, 112, 112, 108, 105, 99, 97, 116, 105, 111, 110] : List UInt8) then (mime_Group.j0 k t102 true a0_0 a0_1 l0_2) else (mime_Group.j0 k t102 (a0_0.toList == ([116, 101, 120, 116] : List UInt8)) a0_0 a0_1 l0_2)) else (mime_Group.j0 k t102 false a0_0 a0_1 l0_2)) = some r := H
    have A7 := Aside0.mk A70
    clear A70
    by_cases c8 : t106 = true
    · subst c8
      have H1 : (if a0_0.toList = ([97, 112, 112, 108, 105, 99, 97, 116, 105, 111, 110] : List UInt8) then (mime_Group.j0 k t102 true a0_0 a0_1 l0_2) else (mime_Group.j0 k t102 (a0_0.toList == ([116, 101, 120, 116] : List UInt8)) a0_0 a0_1 l0_2)) = some r := by rw [if_pos rfl] at H; exact H
      clear H
      have H := H1
      clear H1
      by_cases c9 : a0_0.toList = ([97, 112, 112, 108, 105, 99, 97, 116, 105, 111, 110] : List UInt8)
      · rw [if_pos c9] at H
        have c9b0 : (a0_0.toList == ([97, 112, 112, 108, 105, 99, 97, 116, 105, 111, 110] : List UInt8)) = true := beq_iff_eq.mpr c9
        have c9b1 : (a0_0.toList != ([97, 112, 112, 108, 105, 99, 97, 116, 105, 111, 110] : List UInt8)) = false := bne_eq_false_iff_eq.mpr c9
        clear c9
        (first | rw [c9b0] | (simp only [i64_w, i32_w]; rw [c9b0]) | skip)
        have H' := Aside0.mk H
        clear H
        go_wp2_with (first | ((with_reducible refine gate_dst (N := 7) rfl ?_); refine Kd.R_lit Kd.string _ 9 ?hg (N := 7) ?hd (xs := ([(⟨#[106, 97, 118, 97, 115, 99, 114, 105, 112, 116]⟩ : ByteArray), (⟨#[101, 99, 109, 97, 115, 99, 114, 105, 112, 116]⟩ : ByteArray), (⟨#[120, 45, 106, 97, 118, 97, 115, 99, 114, 105, 112, 116]⟩ : ByteArray), (⟨#[120, 45, 101, 99, 109, 97, 115, 99, 114, 105, 112, 116]⟩ : ByteArray)] : List ByteArray)) (inner := [.string (⟨#[106, 97, 118, 97, 115, 99, 114, 105, 112, 116]⟩ : ByteArray), .string (⟨#[101, 99, 109, 97, 115, 99, 114, 105, 112, 116]⟩ : ByteArray), .string (⟨#[120, 45, 106, 97, 118, 97, 115, 99, 114, 105, 112, 116]⟩ : ByteArray), .string (⟨#[120, 45, 101, 99, 109, 97, 115, 99, 114, 105, 112, 116]⟩ : ByteArray)]) (ok := fun _ => True) (okp := fun _ => True) ?hr ?hp (fun _ hk => hk) trivial (Below.refl _ _) (Nat.le_refl _) (by simp) ?_; (case hd => rfl); (case hg => rfl); (case hr => first | (go_simp; done) | (go_simp; rfl)); (case hp => exact (Reps.one (show Kd.M Kd.string _ _ _ (⟨#[106, 97, 118, 97, 115, 99, 114, 105, 112, 116]⟩ : ByteArray) [.string (⟨#[106, 97, 118, 97, 115, 99, 114, 105, 112, 116]⟩ : ByteArray)] from rfl) (Reps.one (show Kd.M Kd.string _ _ _ (⟨#[101, 99, 109, 97, 115, 99, 114, 105, 112, 116]⟩ : ByteArray) [.string (⟨#[101, 99, 109, 97, 115, 99, 114, 105, 112, 116]⟩ : ByteArray)] from rfl) (Reps.one (show Kd.M Kd.string _ _ _ (⟨#[120, 45, 106, 97, 118, 97, 115, 99, 114, 105, 112, 116]⟩ : ByteArray) [.string (⟨#[120, 45, 106, 97, 118, 97, 115, 99, 114, 105, 112, 116]⟩ : ByteArray)] from rfl) (Reps.one (show Kd.M Kd.string _ _ _ (⟨#[120, 45, 101, 99, 109, 97, 115, 99, 114, 105, 112, 116]⟩ : ByteArray) [.string (⟨#[120, 45, 101, 99, 109, 97, 115, 99, 114, 105, 112, 116]⟩ : ByteArray)] from rfl) (Reps.none _ _)))))); intro v104 w10 ho11 hb hg_ hnew_; clear hg_ hnew_; (first | rw [← Ny103.out] at ho11 | (simp only [Int.reduceToNat] at ho11; rw [← Ny103.out] at ho11)); have n0_ := Aside0.mk (Kd.R_lower ho11 (below_size (by repeat (first | (with_reducible first | exact HB.out | apply below_alloc | apply pw_below_drewN | apply below_drew1 | refine below_set ?_ GE101.out) | exact HB.out)))); have n1_ := Aside0.mk (blk_below (g := gb101) (o := .cells #[.string a0_0, .string a0_1, .slice A0_2 l0_2.length c0_2] 24 (0, 0)) (by (with_reducible repeat (first | refine blk_drewN ?_ _ | refine blk_drew ?_ | refine blk_alloc ?_ _)); exact BK101.out) hb); have n2_ := Aside0.mk (below_step (by repeat (first | (with_reducible first | exact HB.out | apply below_alloc | apply pw_below_drewN | apply below_drew1 | refine below_set ?_ GE101.out) | exact HB.out)) hb); clear BK101; clear HB; have HO105 := n0_; have BK101 := n1_; have HB := n2_; clear n0_ n1_ n2_; clear hb ho11; have hcz12_0 : w10.cell? ⟨gb101, 0, none⟩ = some (.string a0_0) := (blk_cell BK101.out 0).trans rfl; have hcz12_1 : w10.cell? ⟨gb101, 1, none⟩ = some (.string a0_1) := (blk_cell BK101.out 1).trans rfl; have hcz12_2 : w10.cell? ⟨gb101, 2, none⟩ = some (.slice A0_2 l0_2.length c0_2) := (blk_cell BK101.out 2).trans rfl; have hfz12_0 := blk_frozen BK101.out 0; have hfz12_1 := blk_frozen BK101.out 1; have hfz12_2 := blk_frozen BK101.out 2; obtain ⟨Ao13, co13, eo13⟩ := Kd.R_slice HO105.out; subst eo13) | ((with_reducible refine gate_callee (f := 78) rfl ?_); refine goesL_ (some 10) rfl rfl Tryz.func78 (by kernel_rfl) rfl #[.slice Ao13 y103.length co13, .string a0_1] rfl (by (try simp only [List.map_toArray, List.map_cons, List.map_nil]); first | done | rfl | (simp only [List.length_drop, List.length_take]; rfl)) ?_; (with_reducible refine (slices_Contains.calls k _ _ y103 a0_1 true _ ?side1 ?side2 A7.out).mono ?_); (case side1 => repeat (first | exact (Kd.R_reads' HO105.out).2.2 | (with_reducible refine Kd.C_alloc ?_ _) | (with_reducible refine Kd.C_drewN ?_ _) | (with_reducible refine Kd.C_drew ?_))); (case side2 => exact (Kd.R_reads' HO105.out).2.1); rintro e w' ⟨rfl, ⟨nd, rfl⟩⟩; refine ⟨_, rfl, ?_⟩))
        go_meet
        case rel => exact ⟨_, (true), (by first | rfl | (simp; done) | (simp [*]; done)), H', ⟨by first | omega | exact Nat.le_refl _⟩, ⟨by (with_reducible repeat (first | refine blk_drewN ?_ _ | refine blk_drew ?_ | refine blk_alloc ?_ _)); exact BK101.out⟩, ⟨by repeat (first | (with_reducible first | exact HB.out | apply below_alloc | apply pw_below_drewN | apply below_drew1 | refine below_set ?_ GE101.out) | exact HB.out)⟩⟩
      · rw [if_neg c9] at H
        have c9b0 : (a0_0.toList == ([97, 112, 112, 108, 105, 99, 97, 116, 105, 111, 110] : List UInt8)) = false := beq_eq_false_iff_ne.mpr c9
        have c9b1 : (a0_0.toList != ([97, 112, 112, 108, 105, 99, 97, 116, 105, 111, 110] : List UInt8)) = true := bne_iff_ne.mpr c9
        (first | rw [c9b0] | (simp only [i64_w, i32_w]; rw [c9b0]) | skip)
        have H' := Aside0.mk H
        clear H
        go_wp2_with (first | ((with_reducible refine gate_dst (N := 7) rfl ?_); refine Kd.R_lit Kd.string _ 9 ?hg (N := 7) ?hd (xs := ([(⟨#[106, 97, 118, 97, 115, 99, 114, 105, 112, 116]⟩ : ByteArray), (⟨#[101, 99, 109, 97, 115, 99, 114, 105, 112, 116]⟩ : ByteArray), (⟨#[120, 45, 106, 97, 118, 97, 115, 99, 114, 105, 112, 116]⟩ : ByteArray), (⟨#[120, 45, 101, 99, 109, 97, 115, 99, 114, 105, 112, 116]⟩ : ByteArray)] : List ByteArray)) (inner := [.string (⟨#[106, 97, 118, 97, 115, 99, 114, 105, 112, 116]⟩ : ByteArray), .string (⟨#[101, 99, 109, 97, 115, 99, 114, 105, 112, 116]⟩ : ByteArray), .string (⟨#[120, 45, 106, 97, 118, 97, 115, 99, 114, 105, 112, 116]⟩ : ByteArray), .string (⟨#[120, 45, 101, 99, 109, 97, 115, 99, 114, 105, 112, 116]⟩ : ByteArray)]) (ok := fun _ => True) (okp := fun _ => True) ?hr ?hp (fun _ hk => hk) trivial (Below.refl _ _) (Nat.le_refl _) (by simp) ?_; (case hd => rfl); (case hg => rfl); (case hr => first | (go_simp; done) | (go_simp; rfl)); (case hp => exact (Reps.one (show Kd.M Kd.string _ _ _ (⟨#[106, 97, 118, 97, 115, 99, 114, 105, 112, 116]⟩ : ByteArray) [.string (⟨#[106, 97, 118, 97, 115, 99, 114, 105, 112, 116]⟩ : ByteArray)] from rfl) (Reps.one (show Kd.M Kd.string _ _ _ (⟨#[101, 99, 109, 97, 115, 99, 114, 105, 112, 116]⟩ : ByteArray) [.string (⟨#[101, 99, 109, 97, 115, 99, 114, 105, 112, 116]⟩ : ByteArray)] from rfl) (Reps.one (show Kd.M Kd.string _ _ _ (⟨#[120, 45, 106, 97, 118, 97, 115, 99, 114, 105, 112, 116]⟩ : ByteArray) [.string (⟨#[120, 45, 106, 97, 118, 97, 115, 99, 114, 105, 112, 116]⟩ : ByteArray)] from rfl) (Reps.one (show Kd.M Kd.string _ _ _ (⟨#[120, 45, 101, 99, 109, 97, 115, 99, 114, 105, 112, 116]⟩ : ByteArray) [.string (⟨#[120, 45, 101, 99, 109, 97, 115, 99, 114, 105, 112, 116]⟩ : ByteArray)] from rfl) (Reps.none _ _)))))); intro v104 w14 ho15 hb hg_ hnew_; clear hg_ hnew_; (first | rw [← Ny103.out] at ho15 | (simp only [Int.reduceToNat] at ho15; rw [← Ny103.out] at ho15)); have n0_ := Aside0.mk (Kd.R_lower ho15 (below_size (by repeat (first | (with_reducible first | exact HB.out | apply below_alloc | apply pw_below_drewN | apply below_drew1 | refine below_set ?_ GE101.out) | exact HB.out)))); have n1_ := Aside0.mk (blk_below (g := gb101) (o := .cells #[.string a0_0, .string a0_1, .slice A0_2 l0_2.length c0_2] 24 (0, 0)) (by (with_reducible repeat (first | refine blk_drewN ?_ _ | refine blk_drew ?_ | refine blk_alloc ?_ _)); exact BK101.out) hb); have n2_ := Aside0.mk (below_step (by repeat (first | (with_reducible first | exact HB.out | apply below_alloc | apply pw_below_drewN | apply below_drew1 | refine below_set ?_ GE101.out) | exact HB.out)) hb); clear BK101; clear HB; have HO105 := n0_; have BK101 := n1_; have HB := n2_; clear n0_ n1_ n2_; clear hb ho15; have hcz16_0 : w14.cell? ⟨gb101, 0, none⟩ = some (.string a0_0) := (blk_cell BK101.out 0).trans rfl; have hcz16_1 : w14.cell? ⟨gb101, 1, none⟩ = some (.string a0_1) := (blk_cell BK101.out 1).trans rfl; have hcz16_2 : w14.cell? ⟨gb101, 2, none⟩ = some (.slice A0_2 l0_2.length c0_2) := (blk_cell BK101.out 2).trans rfl; have hfz16_0 := blk_frozen BK101.out 0; have hfz16_1 := blk_frozen BK101.out 1; have hfz16_2 := blk_frozen BK101.out 2; obtain ⟨Ao17, co17, eo17⟩ := Kd.R_slice HO105.out; subst eo17) | ((with_reducible refine gate_callee (f := 78) rfl ?_); refine goesL_ (some 10) rfl rfl Tryz.func78 (by kernel_rfl) rfl #[.slice Ao17 y103.length co17, .string a0_1] rfl (by (try simp only [List.map_toArray, List.map_cons, List.map_nil]); first | done | rfl | (simp only [List.length_drop, List.length_take]; rfl)) ?_; (with_reducible refine (slices_Contains.calls k _ _ y103 a0_1 true _ ?side1 ?side2 A7.out).mono ?_); (case side1 => repeat (first | exact (Kd.R_reads' HO105.out).2.2 | (with_reducible refine Kd.C_alloc ?_ _) | (with_reducible refine Kd.C_drewN ?_ _) | (with_reducible refine Kd.C_drew ?_))); (case side2 => exact (Kd.R_reads' HO105.out).2.1); rintro e w' ⟨rfl, ⟨nd, rfl⟩⟩; refine ⟨_, rfl, ?_⟩))
        go_meet
        case rel => exact ⟨_, ((a0_0.toList == ([116, 101, 120, 116] : List UInt8))), (by first | rfl | (simp; done) | (simp [*]; done)), H', ⟨by first | omega | exact Nat.le_refl _⟩, ⟨by (with_reducible repeat (first | refine blk_drewN ?_ _ | refine blk_drew ?_ | refine blk_alloc ?_ _)); exact BK101.out⟩, ⟨by repeat (first | (with_reducible first | exact HB.out | apply below_alloc | apply pw_below_drewN | apply below_drew1 | refine below_set ?_ GE101.out) | exact HB.out)⟩⟩
    · replace c8 := Bool.eq_false_iff.mpr c8
      subst c8
      have H1 : (mime_Group.j0 k t102 false a0_0 a0_1 l0_2) = some r := by rw [if_neg (show ¬ (false = true) by decide)] at H; exact H
      clear H
      have H := H1
      clear H1
      have H' := Aside0.mk H
      clear H
      go_wp2_with (first | ((with_reducible refine gate_dst (N := 7) rfl ?_); refine Kd.R_lit Kd.string _ 9 ?hg (N := 7) ?hd (xs := ([(⟨#[106, 97, 118, 97, 115, 99, 114, 105, 112, 116]⟩ : ByteArray), (⟨#[101, 99, 109, 97, 115, 99, 114, 105, 112, 116]⟩ : ByteArray), (⟨#[120, 45, 106, 97, 118, 97, 115, 99, 114, 105, 112, 116]⟩ : ByteArray), (⟨#[120, 45, 101, 99, 109, 97, 115, 99, 114, 105, 112, 116]⟩ : ByteArray)] : List ByteArray)) (inner := [.string (⟨#[106, 97, 118, 97, 115, 99, 114, 105, 112, 116]⟩ : ByteArray), .string (⟨#[101, 99, 109, 97, 115, 99, 114, 105, 112, 116]⟩ : ByteArray), .string (⟨#[120, 45, 106, 97, 118, 97, 115, 99, 114, 105, 112, 116]⟩ : ByteArray), .string (⟨#[120, 45, 101, 99, 109, 97, 115, 99, 114, 105, 112, 116]⟩ : ByteArray)]) (ok := fun _ => True) (okp := fun _ => True) ?hr ?hp (fun _ hk => hk) trivial (Below.refl _ _) (Nat.le_refl _) (by simp) ?_; (case hd => rfl); (case hg => rfl); (case hr => first | (go_simp; done) | (go_simp; rfl)); (case hp => exact (Reps.one (show Kd.M Kd.string _ _ _ (⟨#[106, 97, 118, 97, 115, 99, 114, 105, 112, 116]⟩ : ByteArray) [.string (⟨#[106, 97, 118, 97, 115, 99, 114, 105, 112, 116]⟩ : ByteArray)] from rfl) (Reps.one (show Kd.M Kd.string _ _ _ (⟨#[101, 99, 109, 97, 115, 99, 114, 105, 112, 116]⟩ : ByteArray) [.string (⟨#[101, 99, 109, 97, 115, 99, 114, 105, 112, 116]⟩ : ByteArray)] from rfl) (Reps.one (show Kd.M Kd.string _ _ _ (⟨#[120, 45, 106, 97, 118, 97, 115, 99, 114, 105, 112, 116]⟩ : ByteArray) [.string (⟨#[120, 45, 106, 97, 118, 97, 115, 99, 114, 105, 112, 116]⟩ : ByteArray)] from rfl) (Reps.one (show Kd.M Kd.string _ _ _ (⟨#[120, 45, 101, 99, 109, 97, 115, 99, 114, 105, 112, 116]⟩ : ByteArray) [.string (⟨#[120, 45, 101, 99, 109, 97, 115, 99, 114, 105, 112, 116]⟩ : ByteArray)] from rfl) (Reps.none _ _)))))); intro v104 w18 ho19 hb hg_ hnew_; clear hg_ hnew_; (first | rw [← Ny103.out] at ho19 | (simp only [Int.reduceToNat] at ho19; rw [← Ny103.out] at ho19)); have n0_ := Aside0.mk (Kd.R_lower ho19 (below_size (by repeat (first | (with_reducible first | exact HB.out | apply below_alloc | apply pw_below_drewN | apply below_drew1 | refine below_set ?_ GE101.out) | exact HB.out)))); have n1_ := Aside0.mk (blk_below (g := gb101) (o := .cells #[.string a0_0, .string a0_1, .slice A0_2 l0_2.length c0_2] 24 (0, 0)) (by (with_reducible repeat (first | refine blk_drewN ?_ _ | refine blk_drew ?_ | refine blk_alloc ?_ _)); exact BK101.out) hb); have n2_ := Aside0.mk (below_step (by repeat (first | (with_reducible first | exact HB.out | apply below_alloc | apply pw_below_drewN | apply below_drew1 | refine below_set ?_ GE101.out) | exact HB.out)) hb); clear BK101; clear HB; have HO105 := n0_; have BK101 := n1_; have HB := n2_; clear n0_ n1_ n2_; clear hb ho19; have hcz20_0 : w18.cell? ⟨gb101, 0, none⟩ = some (.string a0_0) := (blk_cell BK101.out 0).trans rfl; have hcz20_1 : w18.cell? ⟨gb101, 1, none⟩ = some (.string a0_1) := (blk_cell BK101.out 1).trans rfl; have hcz20_2 : w18.cell? ⟨gb101, 2, none⟩ = some (.slice A0_2 l0_2.length c0_2) := (blk_cell BK101.out 2).trans rfl; have hfz20_0 := blk_frozen BK101.out 0; have hfz20_1 := blk_frozen BK101.out 1; have hfz20_2 := blk_frozen BK101.out 2; obtain ⟨Ao21, co21, eo21⟩ := Kd.R_slice HO105.out; subst eo21) | ((with_reducible refine gate_callee (f := 78) rfl ?_); refine goesL_ (some 10) rfl rfl Tryz.func78 (by kernel_rfl) rfl #[.slice Ao21 y103.length co21, .string a0_1] rfl (by (try simp only [List.map_toArray, List.map_cons, List.map_nil]); first | done | rfl | (simp only [List.length_drop, List.length_take]; rfl)) ?_; (with_reducible refine (slices_Contains.calls k _ _ y103 a0_1 false _ ?side1 ?side2 A7.out).mono ?_); (case side1 => repeat (first | exact (Kd.R_reads' HO105.out).2.2 | (with_reducible refine Kd.C_alloc ?_ _) | (with_reducible refine Kd.C_drewN ?_ _) | (with_reducible refine Kd.C_drew ?_))); (case side2 => exact (Kd.R_reads' HO105.out).2.1); rintro e w' ⟨rfl, ⟨nd, rfl⟩⟩; refine ⟨_, rfl, ?_⟩))
      go_meet
      case rel => exact ⟨_, (false), (by first | rfl | (simp; done) | (simp [*]; done)), H', ⟨by first | omega | exact Nat.le_refl _⟩, ⟨by (with_reducible repeat (first | refine blk_drewN ?_ _ | refine blk_drew ?_ | refine blk_alloc ?_ _)); exact BK101.out⟩, ⟨by repeat (first | (with_reducible first | exact HB.out | apply below_alloc | apply pw_below_drewN | apply below_drew1 | refine below_set ?_ GE101.out) | exact HB.out)⟩⟩
  case rest =>
    clear HC3
    try clear c2
    try clear p2
    try clear c3
    try clear c7
    try clear c8
    try clear c9
    try clear c9b0
    try clear c9b1
    try clear hcz12_0
    try clear hcz12_1
    try clear hcz12_2
    try clear hcz16_0
    try clear hcz16_1
    try clear hcz16_2
    try clear hcz20_0
    try clear hcz20_1
    try clear hcz20_2
    try clear hcz5_0
    try clear hcz5_1
    try clear hcz5_2
    try clear hfz12_0
    try clear hfz12_1
    try clear hfz12_2
    try clear hfz16_0
    try clear hfz16_1
    try clear hfz16_2
    try clear hfz20_0
    try clear hfz20_1
    try clear hfz20_2
    try clear hfz5_0
    try clear hfz5_1
    try clear hfz5_2
    obtain ⟨kq, x6_2, rfl, HA, HJ2, BK101, HB⟩ := hcut
    cases kq with
    | zero => exact absurd HA.out (by simp [mime_Group.j0])
    | succ kj2 =>
      have H := HA.out
      clear HA
      simp only [mime_Group.j0] at H
      have HC22 := Aside0.mk H
      clear H
      go_upto_if 6 with (fail)
      go_cut [6] (fun v6 wc => ∃ (kq : Nat) (x6_21 : Bool), v6 = .bool x6_21 ∧ Aside0 (mime_Group.j1 kq t102 x6_21 a0_0 a0_1 l0_2 = some r) ∧ Aside0 (kq ≤ kj2) ∧ Aside0 (wc.heap[gb101]? = some (.cells #[.string a0_0, .string a0_1, (.slice A0_2 l0_2.length c0_2)] 24 (0, 0))) ∧ Aside0 (Below w.heap.size w wc))
      case first =>
        have H := HC22.out
        clear HC22
        by_cases c23 : x6_2 = true
        · subst c23
          have H1 : (mime_Group.j1 kj2 t102 true a0_0 a0_1 l0_2) = some r := by rw [if_pos rfl] at H; exact H
          clear H
          have H := H1
          clear H1
          have H' := Aside0.mk H
          clear H
          go_wp2
          go_meet
          case rel => exact ⟨_, (true), (by first | rfl | (simp; done) | (simp [*]; done)), H', ⟨by have := HJ2.out; first | omega | exact Nat.le_refl _⟩, ⟨by (with_reducible repeat (first | refine blk_drewN ?_ _ | refine blk_drew ?_ | refine blk_alloc ?_ _)); exact BK101.out⟩, ⟨by repeat (first | (with_reducible first | exact HB.out | apply below_alloc | apply pw_below_drewN | apply below_drew1 | refine below_set ?_ GE101.out) | exact HB.out)⟩⟩
        · replace c23 := Bool.eq_false_iff.mpr c23
          subst c23
          have H1 : (mime_Group.j1 kj2 t102 (t102.toList == ([116, 101, 120, 116, 47, 106, 115, 99, 114, 105, 112, 116] : List UInt8)) a0_0 a0_1 l0_2) = some r := by rw [if_neg (show ¬ (false = true) by decide)] at H; exact H
          clear H
          have H := H1
          clear H1
          have H' := Aside0.mk H
          clear H
          go_wp2
          go_meet
          case rel => exact ⟨_, ((t102.toList == ([116, 101, 120, 116, 47, 106, 115, 99, 114, 105, 112, 116] : List UInt8))), (by first | rfl | (simp; done) | (simp [*]; done)), H', ⟨by have := HJ2.out; first | omega | exact Nat.le_refl _⟩, ⟨by (with_reducible repeat (first | refine blk_drewN ?_ _ | refine blk_drew ?_ | refine blk_alloc ?_ _)); exact BK101.out⟩, ⟨by repeat (first | (with_reducible first | exact HB.out | apply below_alloc | apply pw_below_drewN | apply below_drew1 | refine below_set ?_ GE101.out) | exact HB.out)⟩⟩
      case rest =>
        clear HC22
        try clear c2
        try clear p2
        try clear c3
        try clear c7
        try clear c8
        try clear c9
        try clear c9b0
        try clear c9b1
        try clear c23
        try clear hcz12_0
        try clear hcz12_1
        try clear hcz12_2
        try clear hcz16_0
        try clear hcz16_1
        try clear hcz16_2
        try clear hcz20_0
        try clear hcz20_1
        try clear hcz20_2
        try clear hcz5_0
        try clear hcz5_1
        try clear hcz5_2
        try clear hfz12_0
        try clear hfz12_1
        try clear hfz12_2
        try clear hfz16_0
        try clear hfz16_1
        try clear hfz16_2
        try clear hfz20_0
        try clear hfz20_1
        try clear hfz20_2
        try clear hfz5_0
        try clear hfz5_1
        try clear hfz5_2
        try clear p2
        obtain ⟨kq, x6_21, rfl, HA, HJ21, BK101, HB⟩ := hcut
        cases kq with
        | zero => exact absurd HA.out (by simp [mime_Group.j1])
        | succ kj21 =>
          have H := HA.out
          clear HA
          simp only [mime_Group.j1] at H
          by_cases c24 : x6_21 = true
          · subst c24
            have H1 : (some 1) = some r := by rw [if_pos rfl] at H; exact H
            clear H
            have H := H1
            clear H1
            obtain rfl := Option.some.inj H
            go_wp2
            go_ret
            exact ⟨by first | rfl | (simp [errW_none, errW_some] <;> rfl) | (simp [*, errW_none, errW_some] <;> rfl), by repeat (first | (with_reducible first | exact HB.out | apply below_alloc | apply pw_below_drewN | apply below_drew1 | refine below_set ?_ GE101.out) | exact HB.out)⟩
          · replace c24 := Bool.eq_false_iff.mpr c24
            subst c24
            have H1 : (if t102.toList = ([97, 112, 112, 108, 105, 99, 97, 116, 105, 111, 110, 47, 106, 115, 111, 110] : List UInt8) then (mime_Group.j2 kj21 t102 (t102.toList == ([97, 112, 112, 108, 105, 99, 97, 116, 105, 111, 110, 47, 106, 115, 111, 110] : List UInt8)) a0_0 a0_1 l0_2) else (if t102.toList = ([116, 101, 120, 116, 47, 106, 115, 111, 110] : List UInt8) then (mime_Group.j2 kj21 t102 (t102.toList == ([116, 101, 120, 116, 47, 106, 115, 111, 110] : List UInt8)) a0_0 a0_1 l0_2) else ((strings_HasSuffix.f a0_1 (⟨#[43, 106, 115, 111, 110]⟩ : ByteArray)).bind fun t107 => (mime_Group.j2 kj21 t102 t107 a0_0 a0_1 l0_2)))) = some r := by rw [if_neg (show ¬ (false = true) by decide)] at H; exact H
            clear H
            have H := H1
            clear H1
            have HC25 := Aside0.mk H
            clear H
            go_upto_if 23 with (fail)
            go_cut [23] (fun v23 wc => ∃ (kq : Nat) (x23_24 : Bool), v23 = .bool x23_24 ∧ Aside0 (mime_Group.j2 kq t102 x23_24 a0_0 a0_1 l0_2 = some r) ∧ Aside0 (kq ≤ kj21) ∧ Aside0 (wc.heap[gb101]? = some (.cells #[.string a0_0, .string a0_1, (.slice A0_2 l0_2.length c0_2)] 24 (0, 0))) ∧ Aside0 (Below w.heap.size w wc))
            case first =>
              have H := HC25.out
              clear HC25
              by_cases c26 : t102.toList = ([97, 112, 112, 108, 105, 99, 97, 116, 105, 111, 110, 47, 106, 115, 111, 110] : List UInt8)
              · rw [if_pos c26] at H
                have c26b0 : (t102.toList == ([97, 112, 112, 108, 105, 99, 97, 116, 105, 111, 110, 47, 106, 115, 111, 110] : List UInt8)) = true := beq_iff_eq.mpr c26
                have c26b1 : (t102.toList != ([97, 112, 112, 108, 105, 99, 97, 116, 105, 111, 110, 47, 106, 115, 111, 110] : List UInt8)) = false := bne_eq_false_iff_eq.mpr c26
                clear c26
                (first | rw [c26b0] | (simp only [i64_w, i32_w]; rw [c26b0]) | skip)
                have H' := Aside0.mk H
                clear H
                go_wp2
                go_meet
                case rel => exact ⟨_, ((t102.toList == ([97, 112, 112, 108, 105, 99, 97, 116, 105, 111, 110, 47, 106, 115, 111, 110] : List UInt8))), (by first | rfl | (simp; done) | (simp [*]; done)), H', ⟨by have := HJ2.out; have := HJ21.out; first | omega | exact Nat.le_refl _⟩, ⟨by (with_reducible repeat (first | refine blk_drewN ?_ _ | refine blk_drew ?_ | refine blk_alloc ?_ _)); exact BK101.out⟩, ⟨by repeat (first | (with_reducible first | exact HB.out | apply below_alloc | apply pw_below_drewN | apply below_drew1 | refine below_set ?_ GE101.out) | exact HB.out)⟩⟩
              · rw [if_neg c26] at H
                have c26b0 : (t102.toList == ([97, 112, 112, 108, 105, 99, 97, 116, 105, 111, 110, 47, 106, 115, 111, 110] : List UInt8)) = false := beq_eq_false_iff_ne.mpr c26
                have c26b1 : (t102.toList != ([97, 112, 112, 108, 105, 99, 97, 116, 105, 111, 110, 47, 106, 115, 111, 110] : List UInt8)) = true := bne_iff_ne.mpr c26
                (first | rw [c26b0] | (simp only [i64_w, i32_w]; rw [c26b0]) | skip)
                by_cases c27 : t102.toList = ([116, 101, 120, 116, 47, 106, 115, 111, 110] : List UInt8)
                · rw [if_pos c27] at H
                  have c27b0 : (t102.toList == ([116, 101, 120, 116, 47, 106, 115, 111, 110] : List UInt8)) = true := beq_iff_eq.mpr c27
                  have c27b1 : (t102.toList != ([116, 101, 120, 116, 47, 106, 115, 111, 110] : List UInt8)) = false := bne_eq_false_iff_eq.mpr c27
                  clear c27
                  have H' := Aside0.mk H
                  clear H
                  go_wp2
                  go_meet
                  case rel => exact ⟨_, ((t102.toList == ([116, 101, 120, 116, 47, 106, 115, 111, 110] : List UInt8))), (by first | rfl | (simp; done) | (simp [*]; done)), H', ⟨by have := HJ2.out; have := HJ21.out; first | omega | exact Nat.le_refl _⟩, ⟨by (with_reducible repeat (first | refine blk_drewN ?_ _ | refine blk_drew ?_ | refine blk_alloc ?_ _)); exact BK101.out⟩, ⟨by repeat (first | (with_reducible first | exact HB.out | apply below_alloc | apply pw_below_drewN | apply below_drew1 | refine below_set ?_ GE101.out) | exact HB.out)⟩⟩
                · rw [if_neg c27] at H
                  have c27b0 : (t102.toList == ([116, 101, 120, 116, 47, 106, 115, 111, 110] : List UInt8)) = false := beq_eq_false_iff_ne.mpr c27
                  have c27b1 : (t102.toList != ([116, 101, 120, 116, 47, 106, 115, 111, 110] : List UInt8)) = true := bne_iff_ne.mpr c27
                  replace H := Option.bind_eq_some_iff.mp H
                  obtain ⟨t107, A280, H⟩ := H
                  replace H : (mime_Group.j2 kj21 t102 t107 a0_0 a0_1 l0_2) = some r := H
                  have A28 := Aside0.mk A280
                  clear A280
                  have H' := Aside0.mk H
                  clear H
                  have hcz29_0 : wc.cell? ⟨gb101, 0, none⟩ = some (.string a0_0) := (blk_cell BK101.out 0).trans rfl
                  have hcz29_1 : wc.cell? ⟨gb101, 1, none⟩ = some (.string a0_1) := (blk_cell BK101.out 1).trans rfl
                  have hcz29_2 : wc.cell? ⟨gb101, 2, none⟩ = some (.slice A0_2 l0_2.length c0_2) := (blk_cell BK101.out 2).trans rfl
                  have hfz29_0 := blk_frozen BK101.out 0
                  have hfz29_1 := blk_frozen BK101.out 1
                  have hfz29_2 := blk_frozen BK101.out 2
                  go_wp2_with (first | ((with_reducible refine gate_callee (f := 79) rfl ?_); refine goesL_ (some 30) rfl rfl Tryz.func79 (by kernel_rfl) rfl #[.string a0_1, .string (⟨#[43, 106, 115, 111, 110]⟩ : ByteArray)] rfl (by (try simp only [List.map_toArray, List.map_cons, List.map_nil]); first | done | rfl | (simp only [List.length_drop, List.length_take]; rfl)) ?_; (with_reducible refine (strings_HasSuffix.calls a0_1 (⟨#[43, 106, 115, 111, 110]⟩ : ByteArray) t107 _ A28.out).mono ?_); rintro e w' ⟨rfl, ⟨nd, rfl⟩⟩; refine ⟨_, rfl, ?_⟩))
                  go_meet
                  case rel => exact ⟨_, (t107), (by first | rfl | (simp; done) | (simp [*]; done)), H', ⟨by have := HJ2.out; have := HJ21.out; first | omega | exact Nat.le_refl _⟩, ⟨by (with_reducible repeat (first | refine blk_drewN ?_ _ | refine blk_drew ?_ | refine blk_alloc ?_ _)); exact BK101.out⟩, ⟨by repeat (first | (with_reducible first | exact HB.out | apply below_alloc | apply pw_below_drewN | apply below_drew1 | refine below_set ?_ GE101.out) | exact HB.out)⟩⟩
            case rest =>
              clear HC25
              try clear c2
              try clear p2
              try clear c3
              try clear c7
              try clear c8
              try clear c9
              try clear c9b0
              try clear c9b1
              try clear c23
              try clear c24
              try clear c26
              try clear c26b0
              try clear c26b1
              try clear c27
              try clear c27b0
              try clear c27b1
              try clear c29
              try clear hcz12_0
              try clear hcz12_1
              try clear hcz12_2
              try clear hcz16_0
              try clear hcz16_1
              try clear hcz16_2
              try clear hcz20_0
              try clear hcz20_1
              try clear hcz20_2
              try clear hcz29_0
              try clear hcz29_1
              try clear hcz29_2
              try clear hcz5_0
              try clear hcz5_1
              try clear hcz5_2
              try clear hfz12_0
              try clear hfz12_1
              try clear hfz12_2
              try clear hfz16_0
              try clear hfz16_1
              try clear hfz16_2
              try clear hfz20_0
              try clear hfz20_1
              try clear hfz20_2
              try clear hfz29_0
              try clear hfz29_1
              try clear hfz29_2
              try clear hfz5_0
              try clear hfz5_1
              try clear hfz5_2
              try clear p2
              obtain ⟨kq, x23_24, rfl, HA, HJ24, BK101, HB⟩ := hcut
              cases kq with
              | zero => exact absurd HA.out (by simp [mime_Group.j2])
              | succ kj24 =>
                have H := HA.out
                clear HA
                simp only [mime_Group.j2] at H
                by_cases c30 : x23_24 = true
                · subst c30
                  have H1 : (some 2) = some r := by rw [if_pos rfl] at H; exact H
                  clear H
                  have H := H1
                  clear H1
                  obtain rfl := Option.some.inj H
                  go_wp2
                  go_ret
                  exact ⟨by first | rfl | (simp [errW_none, errW_some] <;> rfl) | (simp [*, errW_none, errW_some] <;> rfl), by repeat (first | (with_reducible first | exact HB.out | apply below_alloc | apply pw_below_drewN | apply below_drew1 | refine below_set ?_ GE101.out) | exact HB.out)⟩
                · replace c30 := Bool.eq_false_iff.mpr c30
                  subst c30
                  have H1 : (if t102.toList = ([97, 112, 112, 108, 105, 99, 97, 116, 105, 111, 110, 47, 120, 109, 108] : List UInt8) then (mime_Group.j3 kj24 t102 (t102.toList == ([97, 112, 112, 108, 105, 99, 97, 116, 105, 111, 110, 47, 120, 109, 108] : List UInt8)) a0_0 a0_1 l0_2) else (if t102.toList = ([116, 101, 120, 116, 47, 120, 109, 108] : List UInt8) then (mime_Group.j3 kj24 t102 (t102.toList == ([116, 101, 120, 116, 47, 120, 109, 108] : List UInt8)) a0_0 a0_1 l0_2) else ((strings_HasSuffix.f a0_1 (⟨#[43, 120, 109, 108]⟩ : ByteArray)).bind fun t108 => (mime_Group.j3 kj24 t102 t108 a0_0 a0_1 l0_2)))) = some r := by rw [if_neg (show ¬ (false = true) by decide)] at H; exact H
                  clear H
                  have H := H1
                  clear H1
                  have HC31 := Aside0.mk H
                  clear H
                  go_upto_if 31 with (fail)
                  go_cut [31] (fun v31 wc => ∃ (kq : Nat) (x31_30 : Bool), v31 = .bool x31_30 ∧ Aside0 (mime_Group.j3 kq t102 x31_30 a0_0 a0_1 l0_2 = some r) ∧ Aside0 (kq ≤ kj24) ∧ Aside0 (wc.heap[gb101]? = some (.cells #[.string a0_0, .string a0_1, (.slice A0_2 l0_2.length c0_2)] 24 (0, 0))) ∧ Aside0 (Below w.heap.size w wc))
                  case first =>
                    have H := HC31.out
                    clear HC31
                    by_cases c32 : t102.toList = ([97, 112, 112, 108, 105, 99, 97, 116, 105, 111, 110, 47, 120, 109, 108] : List UInt8)
                    · rw [if_pos c32] at H
                      have c32b0 : (t102.toList == ([97, 112, 112, 108, 105, 99, 97, 116, 105, 111, 110, 47, 120, 109, 108] : List UInt8)) = true := beq_iff_eq.mpr c32
                      have c32b1 : (t102.toList != ([97, 112, 112, 108, 105, 99, 97, 116, 105, 111, 110, 47, 120, 109, 108] : List UInt8)) = false := bne_eq_false_iff_eq.mpr c32
                      clear c32
                      (first | rw [c32b0] | (simp only [i64_w, i32_w]; rw [c32b0]) | skip)
                      have H' := Aside0.mk H
                      clear H
                      go_wp2
                      go_meet
                      case rel => exact ⟨_, ((t102.toList == ([97, 112, 112, 108, 105, 99, 97, 116, 105, 111, 110, 47, 120, 109, 108] : List UInt8))), (by first | rfl | (simp; done) | (simp [*]; done)), H', ⟨by have := HJ2.out; have := HJ21.out; have := HJ24.out; first | omega | exact Nat.le_refl _⟩, ⟨by (with_reducible repeat (first | refine blk_drewN ?_ _ | refine blk_drew ?_ | refine blk_alloc ?_ _)); exact BK101.out⟩, ⟨by repeat (first | (with_reducible first | exact HB.out | apply below_alloc | apply pw_below_drewN | apply below_drew1 | refine below_set ?_ GE101.out) | exact HB.out)⟩⟩
                    · rw [if_neg c32] at H
                      have c32b0 : (t102.toList == ([97, 112, 112, 108, 105, 99, 97, 116, 105, 111, 110, 47, 120, 109, 108] : List UInt8)) = false := beq_eq_false_iff_ne.mpr c32
                      have c32b1 : (t102.toList != ([97, 112, 112, 108, 105, 99, 97, 116, 105, 111, 110, 47, 120, 109, 108] : List UInt8)) = true := bne_iff_ne.mpr c32
                      (first | rw [c32b0] | (simp only [i64_w, i32_w]; rw [c32b0]) | skip)
                      by_cases c33 : t102.toList = ([116, 101, 120, 116, 47, 120, 109, 108] : List UInt8)
                      · rw [if_pos c33] at H
                        have c33b0 : (t102.toList == ([116, 101, 120, 116, 47, 120, 109, 108] : List UInt8)) = true := beq_iff_eq.mpr c33
                        have c33b1 : (t102.toList != ([116, 101, 120, 116, 47, 120, 109, 108] : List UInt8)) = false := bne_eq_false_iff_eq.mpr c33
                        clear c33
                        have H' := Aside0.mk H
                        clear H
                        go_wp2
                        go_meet
                        case rel => exact ⟨_, ((t102.toList == ([116, 101, 120, 116, 47, 120, 109, 108] : List UInt8))), (by first | rfl | (simp; done) | (simp [*]; done)), H', ⟨by have := HJ2.out; have := HJ21.out; have := HJ24.out; first | omega | exact Nat.le_refl _⟩, ⟨by (with_reducible repeat (first | refine blk_drewN ?_ _ | refine blk_drew ?_ | refine blk_alloc ?_ _)); exact BK101.out⟩, ⟨by repeat (first | (with_reducible first | exact HB.out | apply below_alloc | apply pw_below_drewN | apply below_drew1 | refine below_set ?_ GE101.out) | exact HB.out)⟩⟩
                      · rw [if_neg c33] at H
                        have c33b0 : (t102.toList == ([116, 101, 120, 116, 47, 120, 109, 108] : List UInt8)) = false := beq_eq_false_iff_ne.mpr c33
                        have c33b1 : (t102.toList != ([116, 101, 120, 116, 47, 120, 109, 108] : List UInt8)) = true := bne_iff_ne.mpr c33
                        replace H := Option.bind_eq_some_iff.mp H
                        obtain ⟨t108, A340, H⟩ := H
                        replace H : (mime_Group.j3 kj24 t102 t108 a0_0 a0_1 l0_2) = some r := H
                        have A34 := Aside0.mk A340
                        clear A340
                        have H' := Aside0.mk H
                        clear H
                        have hcz35_0 : wc.cell? ⟨gb101, 0, none⟩ = some (.string a0_0) := (blk_cell BK101.out 0).trans rfl
                        have hcz35_1 : wc.cell? ⟨gb101, 1, none⟩ = some (.string a0_1) := (blk_cell BK101.out 1).trans rfl
                        have hcz35_2 : wc.cell? ⟨gb101, 2, none⟩ = some (.slice A0_2 l0_2.length c0_2) := (blk_cell BK101.out 2).trans rfl
                        have hfz35_0 := blk_frozen BK101.out 0
                        have hfz35_1 := blk_frozen BK101.out 1
                        have hfz35_2 := blk_frozen BK101.out 2
                        go_wp2_with (first | ((with_reducible refine gate_callee (f := 79) rfl ?_); refine goesL_ (some 38) rfl rfl Tryz.func79 (by kernel_rfl) rfl #[.string a0_1, .string (⟨#[43, 120, 109, 108]⟩ : ByteArray)] rfl (by (try simp only [List.map_toArray, List.map_cons, List.map_nil]); first | done | rfl | (simp only [List.length_drop, List.length_take]; rfl)) ?_; (with_reducible refine (strings_HasSuffix.calls a0_1 (⟨#[43, 120, 109, 108]⟩ : ByteArray) t108 _ A34.out).mono ?_); rintro e w' ⟨rfl, ⟨nd, rfl⟩⟩; refine ⟨_, rfl, ?_⟩))
                        go_meet
                        case rel => exact ⟨_, (t108), (by first | rfl | (simp; done) | (simp [*]; done)), H', ⟨by have := HJ2.out; have := HJ21.out; have := HJ24.out; first | omega | exact Nat.le_refl _⟩, ⟨by (with_reducible repeat (first | refine blk_drewN ?_ _ | refine blk_drew ?_ | refine blk_alloc ?_ _)); exact BK101.out⟩, ⟨by repeat (first | (with_reducible first | exact HB.out | apply below_alloc | apply pw_below_drewN | apply below_drew1 | refine below_set ?_ GE101.out) | exact HB.out)⟩⟩
                  case rest =>
                    clear HC31
                    try clear c2
                    try clear p2
                    try clear c3
                    try clear c7
                    try clear c8
                    try clear c9
                    try clear c9b0
                    try clear c9b1
                    try clear c23
                    try clear c24
                    try clear c26
                    try clear c26b0
                    try clear c26b1
                    try clear c27
                    try clear c27b0
                    try clear c27b1
                    try clear c29
                    try clear c30
                    try clear c31
                    try clear c32
                    try clear c32b0
                    try clear c32b1
                    try clear c33
                    try clear c33b0
                    try clear c33b1
                    try clear hcz12_0
                    try clear hcz12_1
                    try clear hcz12_2
                    try clear hcz16_0
                    try clear hcz16_1
                    try clear hcz16_2
                    try clear hcz20_0
                    try clear hcz20_1
                    try clear hcz20_2
                    try clear hcz29_0
                    try clear hcz29_1
                    try clear hcz29_2
                    try clear hcz35_0
                    try clear hcz35_1
                    try clear hcz35_2
                    try clear hcz5_0
                    try clear hcz5_1
                    try clear hcz5_2
                    try clear hfz12_0
                    try clear hfz12_1
                    try clear hfz12_2
                    try clear hfz16_0
                    try clear hfz16_1
                    try clear hfz16_2
                    try clear hfz20_0
                    try clear hfz20_1
                    try clear hfz20_2
                    try clear hfz29_0
                    try clear hfz29_1
                    try clear hfz29_2
                    try clear hfz35_0
                    try clear hfz35_1
                    try clear hfz35_2
                    try clear hfz5_0
                    try clear hfz5_1
                    try clear hfz5_2
                    try clear p2
                    obtain ⟨kq, x31_30, rfl, HA, HJ30, BK101, HB⟩ := hcut
                    cases kq with
                    | zero => exact absurd HA.out (by simp [mime_Group.j3])
                    | succ kj30 =>
                      have H := HA.out
                      clear HA
                      simp only [mime_Group.j3] at H
                      by_cases c36 : x31_30 = true
                      · subst c36
                        have H1 : (some 3) = some r := by rw [if_pos rfl] at H; exact H
                        clear H
                        have H := H1
                        clear H1
                        obtain rfl := Option.some.inj H
                        go_wp2
                        go_ret
                        exact ⟨by first | rfl | (simp [errW_none, errW_some] <;> rfl) | (simp [*, errW_none, errW_some] <;> rfl), by repeat (first | (with_reducible first | exact HB.out | apply below_alloc | apply pw_below_drewN | apply below_drew1 | refine below_set ?_ GE101.out) | exact HB.out)⟩
                      · replace c36 := Bool.eq_false_iff.mpr c36
                        subst c36
                        have H1 : (if a0_0.toList = ([105, 109, 97, 103, 101] : List UInt8) then (some 4) else (if t102.toList = ([116, 101, 120, 116, 47, 99, 115, 115] : List UInt8) then (some 5) else (if a0_0.toList = ([97, 117, 100, 105, 111] : List UInt8) then (some 6) else (if a0_0.toList = ([118, 105, 100, 101, 111] : List UInt8) then (some 6) else (some 0))))) = some r := by rw [if_neg (show ¬ (false = true) by decide)] at H; exact H
                        clear H
                        have H := H1
                        clear H1
                        by_cases c37 : a0_0.toList = ([105, 109, 97, 103, 101] : List UInt8)
                        · rw [if_pos c37] at H
                          have c37b0 : (a0_0.toList == ([105, 109, 97, 103, 101] : List UInt8)) = true := beq_iff_eq.mpr c37
                          have c37b1 : (a0_0.toList != ([105, 109, 97, 103, 101] : List UInt8)) = false := bne_eq_false_iff_eq.mpr c37
                          clear c37
                          obtain rfl := Option.some.inj H
                          have hcz38_0 : wc.cell? ⟨gb101, 0, none⟩ = some (.string a0_0) := (blk_cell BK101.out 0).trans rfl
                          have hcz38_1 : wc.cell? ⟨gb101, 1, none⟩ = some (.string a0_1) := (blk_cell BK101.out 1).trans rfl
                          have hcz38_2 : wc.cell? ⟨gb101, 2, none⟩ = some (.slice A0_2 l0_2.length c0_2) := (blk_cell BK101.out 2).trans rfl
                          have hfz38_0 := blk_frozen BK101.out 0
                          have hfz38_1 := blk_frozen BK101.out 1
                          have hfz38_2 := blk_frozen BK101.out 2
                          go_wp2
                          go_ret
                          exact ⟨by first | rfl | (simp [errW_none, errW_some] <;> rfl) | (simp [*, errW_none, errW_some] <;> rfl), by repeat (first | (with_reducible first | exact HB.out | apply below_alloc | apply pw_below_drewN | apply below_drew1 | refine below_set ?_ GE101.out) | exact HB.out)⟩
                        · rw [if_neg c37] at H
                          have c37b0 : (a0_0.toList == ([105, 109, 97, 103, 101] : List UInt8)) = false := beq_eq_false_iff_ne.mpr c37
                          have c37b1 : (a0_0.toList != ([105, 109, 97, 103, 101] : List UInt8)) = true := bne_iff_ne.mpr c37
                          by_cases c39 : t102.toList = ([116, 101, 120, 116, 47, 99, 115, 115] : List UInt8)
                          · rw [if_pos c39] at H
                            have c39b0 : (t102.toList == ([116, 101, 120, 116, 47, 99, 115, 115] : List UInt8)) = true := beq_iff_eq.mpr c39
                            have c39b1 : (t102.toList != ([116, 101, 120, 116, 47, 99, 115, 115] : List UInt8)) = false := bne_eq_false_iff_eq.mpr c39
                            clear c39
                            obtain rfl := Option.some.inj H
                            have hcz40_0 : wc.cell? ⟨gb101, 0, none⟩ = some (.string a0_0) := (blk_cell BK101.out 0).trans rfl
                            have hcz40_1 : wc.cell? ⟨gb101, 1, none⟩ = some (.string a0_1) := (blk_cell BK101.out 1).trans rfl
                            have hcz40_2 : wc.cell? ⟨gb101, 2, none⟩ = some (.slice A0_2 l0_2.length c0_2) := (blk_cell BK101.out 2).trans rfl
                            have hfz40_0 := blk_frozen BK101.out 0
                            have hfz40_1 := blk_frozen BK101.out 1
                            have hfz40_2 := blk_frozen BK101.out 2
                            go_wp2
                            go_ret
                            exact ⟨by first | rfl | (simp [errW_none, errW_some] <;> rfl) | (simp [*, errW_none, errW_some] <;> rfl), by repeat (first | (with_reducible first | exact HB.out | apply below_alloc | apply pw_below_drewN | apply below_drew1 | refine below_set ?_ GE101.out) | exact HB.out)⟩
                          · rw [if_neg c39] at H
                            have c39b0 : (t102.toList == ([116, 101, 120, 116, 47, 99, 115, 115] : List UInt8)) = false := beq_eq_false_iff_ne.mpr c39
                            have c39b1 : (t102.toList != ([116, 101, 120, 116, 47, 99, 115, 115] : List UInt8)) = true := bne_iff_ne.mpr c39
                            by_cases c41 : a0_0.toList = ([97, 117, 100, 105, 111] : List UInt8)
                            · rw [if_pos c41] at H
                              have c41b0 : (a0_0.toList == ([97, 117, 100, 105, 111] : List UInt8)) = true := beq_iff_eq.mpr c41
                              have c41b1 : (a0_0.toList != ([97, 117, 100, 105, 111] : List UInt8)) = false := bne_eq_false_iff_eq.mpr c41
                              clear c41
                              obtain rfl := Option.some.inj H
                              have hcz42_0 : wc.cell? ⟨gb101, 0, none⟩ = some (.string a0_0) := (blk_cell BK101.out 0).trans rfl
                              have hcz42_1 : wc.cell? ⟨gb101, 1, none⟩ = some (.string a0_1) := (blk_cell BK101.out 1).trans rfl
                              have hcz42_2 : wc.cell? ⟨gb101, 2, none⟩ = some (.slice A0_2 l0_2.length c0_2) := (blk_cell BK101.out 2).trans rfl
                              have hfz42_0 := blk_frozen BK101.out 0
                              have hfz42_1 := blk_frozen BK101.out 1
                              have hfz42_2 := blk_frozen BK101.out 2
                              go_wp2
                              go_ret
                              exact ⟨by first | rfl | (simp [errW_none, errW_some] <;> rfl) | (simp [*, errW_none, errW_some] <;> rfl), by repeat (first | (with_reducible first | exact HB.out | apply below_alloc | apply pw_below_drewN | apply below_drew1 | refine below_set ?_ GE101.out) | exact HB.out)⟩
                            · rw [if_neg c41] at H
                              have c41b0 : (a0_0.toList == ([97, 117, 100, 105, 111] : List UInt8)) = false := beq_eq_false_iff_ne.mpr c41
                              have c41b1 : (a0_0.toList != ([97, 117, 100, 105, 111] : List UInt8)) = true := bne_iff_ne.mpr c41
                              by_cases c43 : a0_0.toList = ([118, 105, 100, 101, 111] : List UInt8)
                              · rw [if_pos c43] at H
                                have c43b0 : (a0_0.toList == ([118, 105, 100, 101, 111] : List UInt8)) = true := beq_iff_eq.mpr c43
                                have c43b1 : (a0_0.toList != ([118, 105, 100, 101, 111] : List UInt8)) = false := bne_eq_false_iff_eq.mpr c43
                                clear c43
                                obtain rfl := Option.some.inj H
                                have hcz44_0 : wc.cell? ⟨gb101, 0, none⟩ = some (.string a0_0) := (blk_cell BK101.out 0).trans rfl
                                have hcz44_1 : wc.cell? ⟨gb101, 1, none⟩ = some (.string a0_1) := (blk_cell BK101.out 1).trans rfl
                                have hcz44_2 : wc.cell? ⟨gb101, 2, none⟩ = some (.slice A0_2 l0_2.length c0_2) := (blk_cell BK101.out 2).trans rfl
                                have hfz44_0 := blk_frozen BK101.out 0
                                have hfz44_1 := blk_frozen BK101.out 1
                                have hfz44_2 := blk_frozen BK101.out 2
                                go_wp2
                                go_ret
                                exact ⟨by first | rfl | (simp [errW_none, errW_some] <;> rfl) | (simp [*, errW_none, errW_some] <;> rfl), by repeat (first | (with_reducible first | exact HB.out | apply below_alloc | apply pw_below_drewN | apply below_drew1 | refine below_set ?_ GE101.out) | exact HB.out)⟩
                              · rw [if_neg c43] at H
                                have c43b0 : (a0_0.toList == ([118, 105, 100, 101, 111] : List UInt8)) = false := beq_eq_false_iff_ne.mpr c43
                                have c43b1 : (a0_0.toList != ([118, 105, 100, 101, 111] : List UInt8)) = true := bne_iff_ne.mpr c43
                                obtain rfl := Option.some.inj H
                                have hcz45_0 : wc.cell? ⟨gb101, 0, none⟩ = some (.string a0_0) := (blk_cell BK101.out 0).trans rfl
                                have hcz45_1 : wc.cell? ⟨gb101, 1, none⟩ = some (.string a0_1) := (blk_cell BK101.out 1).trans rfl
                                have hcz45_2 : wc.cell? ⟨gb101, 2, none⟩ = some (.slice A0_2 l0_2.length c0_2) := (blk_cell BK101.out 2).trans rfl
                                have hfz45_0 := blk_frozen BK101.out 0
                                have hfz45_1 := blk_frozen BK101.out 1
                                have hfz45_2 := blk_frozen BK101.out 2
                                go_wp2
                                go_ret
                                exact ⟨by first | rfl | (simp [errW_none, errW_some] <;> rfl) | (simp [*, errW_none, errW_some] <;> rfl), by repeat (first | (with_reducible first | exact HB.out | apply below_alloc | apply pw_below_drewN | apply below_drew1 | refine below_set ?_ GE101.out) | exact HB.out)⟩
end Go.Proofs.YteehjlciajhdoaaGreatDoor.X
namespace Go.Proofs.YteehjlciajhdoaaGreatDoor.X
open Go.RowKit Go.Proofs.YteehjlciajhdoaaGreatDoorW.PrintWords Go.Proofs.YteehjlciajhdoaaGreatDoorW.PrintLast Go.Proofs.YteehjlciajhdoaaGreatDoorW.PrintMore
attribute [local go_sem] max2_int min2_int max_two min_two max_three min_three max_four min_four
set_option linter.unusedVariables false
set_option linter.unusedSimpArgs false
def ostiarylaw6_group.f (k : Nat) (a0 : ByteArray) : Option (Int) := (mime_Parse.f a0).bind fun bt101 => ((mime_Group.f k bt101.1 bt101.2.1 bt101.2.2.1).bind fun t108 => (some t108))
theorem ostiarylaw6_group.mono : ∀ a0 k, LeO (ostiarylaw6_group.f k a0) (ostiarylaw6_group.f (k + 1) a0) := by
  intro a0 k
  unfold ostiarylaw6_group.f
  repeat' first
      | (with_reducible exact mime_Group.mono _ _ _ _)
      | (with_reducible exact LeO.refl _)
      | (with_reducible exact LeO.none _)
      | (with_reducible refine LeO.ite ?_ ?_)
      | (with_reducible refine LeO.bind ?_ (fun _ => ?_))
      | exact mime_Group.mono _ _ _ _
      | exact LeO.none _
      | refine LeO.ite ?_ ?_
      | refine LeO.bind ?_ (fun _ => ?_)
set_option maxHeartbeats 8000000 in
set_option maxRecDepth 100000 in
theorem ostiarylaw6_group.calls (k : Nat) (a0 : ByteArray) (r : Int) (w : World) (h : ostiarylaw6_group.f k a0 = some r) :
    Calls Tryz.prog 34 #[.string a0] w fun e w' => e = .returned (.int .i64 r) ∧ Below w.heap.size w w' := by
  have hu24 := Tryz.underlying24
  have HB := Aside0.mk (Below.refl w.heap.size w)
  have H : ((mime_Parse.f a0).bind fun bt101 => ((mime_Group.f k bt101.1 bt101.2.1 bt101.2.2.1).bind fun t108 => (some t108))) = some r := h
  clear h
  replace H := Option.bind_eq_some_iff.mp H
  obtain ⟨⟨t101, t102, t103, t106⟩, A20, H⟩ := H
  replace H : ((mime_Group.f k t101 t102 t103).bind fun t108 => (some t108)) = some r := H
  have A2 := Aside0.mk A20
  clear A20
  replace H := Option.bind_eq_some_iff.mp H
  obtain ⟨t108, A30, H⟩ := H
  replace H : (some t108) = some r := H
  have A3 := Aside0.mk A30
  clear A30
  obtain rfl := Option.some.inj H
  go_enter Tryz.func34, Tryz.ntmps34
  go_wp2_with (first | ((with_reducible refine gate_callee (f := 15) rfl ?_); refine goesL_ (some 7) rfl rfl Tryz.func15 (by kernel_rfl) rfl #[.string a0] rfl (by (try simp only [List.map_toArray, List.map_cons, List.map_nil]); first | done | rfl | (simp only [List.length_drop, List.length_take]; rfl)) ?_; (with_reducible refine (mime_Parse.calls a0 t101 t102 t103 t106 _ A2.out).mono ?_); rintro e w4 ⟨v104, rfl, ho0, hb⟩; refine ⟨_, rfl, ?_⟩; have n0_ := Aside0.mk (Kd.R_lower ho0 (below_size (by repeat (first | (with_reducible first | exact HB.out | apply below_alloc | apply pw_below_drewN | apply below_drew1) | exact HB.out)))); have n1_ := Aside0.mk (below_step (by repeat (first | (with_reducible first | exact HB.out | apply below_alloc | apply pw_below_drewN | apply below_drew1) | exact HB.out)) hb); clear HB; have HO105 := n0_; have HB := n1_; clear n0_ n1_; (try clear hb); (try clear hb2); (try clear hk); (try clear hi); (try clear ho0)) | ((with_reducible refine gate_dst (N := 3) rfl ?_); refine box_event ?hg (N := 3) ?hd (cs := #[.string (⟨#[]⟩ : ByteArray), .string (⟨#[]⟩ : ByteArray), .slice none 0 0]) (t := 24) ?hr ?_; (case hd => rfl); (case hg => rfl); (case hr => first | (go_simp; done) | (go_simp; rfl)); intro gb107 hg w5 hbox hb; have n0_ := Aside0.mk (Kd.R_below (by (with_reducible repeat (first | apply Kd.R_alloc | apply Kd.R_drewN | apply Kd.R_drew)); exact HO105.out) hb); have n1_ := Aside0.mk (below_step (by repeat (first | (with_reducible first | exact HB.out | apply below_alloc | apply pw_below_drewN | apply below_drew1) | exact HB.out)) hb); have n2_ := Aside0.mk (hbox); have n3_ := Aside0.mk ((by rw [hg]; exact (below_size (by repeat (first | (with_reducible first | exact HB.out | apply below_alloc | apply pw_below_drewN | apply below_drew1) | exact HB.out))) : w.heap.size ≤ gb107)); have n4_ := Aside0.mk ((by rw [hg]; exact (below_size (by repeat (first | (with_reducible first | exact HB.out | apply below_alloc | apply pw_below_drewN | apply below_drew1) | exact HB.out))) : w.heap.size ≤ gb107)); clear HO105; clear HB; have HO105 := n0_; have HB := n1_; have BK107 := n2_; have GW107 := n3_; have GE107 := n4_; clear n0_ n1_ n2_ n3_ n4_; clear hb hbox hg; have hcz6_0 : w5.cell? ⟨gb107, 0, none⟩ = some (.string (⟨#[]⟩ : ByteArray)) := (blk_cell BK107.out 0).trans rfl; have hcz6_1 : w5.cell? ⟨gb107, 1, none⟩ = some (.string (⟨#[]⟩ : ByteArray)) := (blk_cell BK107.out 1).trans rfl; have hcz6_2 : w5.cell? ⟨gb107, 2, none⟩ = some (.slice none 0 0) := (blk_cell BK107.out 2).trans rfl; have hfz6_0 := blk_frozen BK107.out 0; have hfz6_1 := blk_frozen BK107.out 1; have hfz6_2 := blk_frozen BK107.out 2; obtain ⟨Ao7, co7, eo7⟩ := Kd.R_slice HO105.out; subst eo7) | ((with_reducible refine gate_callee (f := 31) rfl ?_); refine goesL_ (some 11) rfl rfl Tryz.func31 (by kernel_rfl) rfl #[.agg #[.string t101, .string t102, .slice Ao7 t103.length co7]] rfl (by (try simp only [List.map_toArray, List.map_cons, List.map_nil]); first | done | rfl | (simp only [List.length_drop, List.length_take]; rfl)) ?_; (with_reducible refine (mime_Group.calls k t101 t102 _ _ t103 t108 _ ?side1 ?side2 A3.out).mono ?_); (case side1 => refine (Kd.R_reads' (e := 32) (base := w.heap.size) (ok := fun k_ => True) (n := t103.length) (c := co7) ?_).2.2; exact (by (with_reducible repeat (first | apply Kd.R_alloc | apply Kd.R_drewN | apply Kd.R_drew)); exact (Kd.R_mono (Kd.R_far (p := ⟨gb107, 2, none⟩) (Kd.R_far (p := ⟨gb107, 1, none⟩) (Kd.R_far (p := ⟨gb107, 0, none⟩) (Kd.R_types HO105.out BK107.out (by decide)) (fun _ hk => hk.2) (.string t101)) (fun _ hk => hk.2) (.string t102)) (fun _ hk => hk.2) (.slice Ao7 t103.length co7)) (fun _ h_ => h_.1)))); (case side2 => exact (Kd.R_reads' HO105.out).2.1); rintro e w8 ⟨rfl, hb⟩; refine ⟨_, rfl, ?_⟩; have n0_ := Aside0.mk (Kd.R_below (by (with_reducible repeat (first | apply Kd.R_alloc | apply Kd.R_drewN | apply Kd.R_drew)); exact (Kd.R_mono (Kd.R_far (p := ⟨gb107, 2, none⟩) (Kd.R_far (p := ⟨gb107, 1, none⟩) (Kd.R_far (p := ⟨gb107, 0, none⟩) (Kd.R_types HO105.out BK107.out (by decide)) (fun _ hk => hk.2) (.string t101)) (fun _ hk => hk.2) (.string t102)) (fun _ hk => hk.2) (.slice Ao7 t103.length co7)) (fun _ h_ => h_.1))) hb); have n1_ := Aside0.mk (blk_below (g := gb107) (o := .cells #[.string t101, .string t102, .slice Ao7 t103.length co7] 24 (0, 0)) (by (with_reducible repeat (first | refine blk_drewN ?_ _ | refine blk_drew ?_ | refine blk_alloc ?_ _)); refine blk_put (cs := #[.string t101, .string t102, .slice none 0 0]) ?_ 2 _ rfl; (with_reducible repeat (first | refine blk_drewN ?_ _ | refine blk_drew ?_ | refine blk_alloc ?_ _)); refine blk_put (cs := #[.string t101, .string (⟨#[]⟩ : ByteArray), .slice none 0 0]) ?_ 1 _ rfl; (with_reducible repeat (first | refine blk_drewN ?_ _ | refine blk_drew ?_ | refine blk_alloc ?_ _)); refine blk_put (cs := #[.string (⟨#[]⟩ : ByteArray), .string (⟨#[]⟩ : ByteArray), .slice none 0 0]) ?_ 0 _ rfl; (with_reducible repeat (first | refine blk_drewN ?_ _ | refine blk_drew ?_ | refine blk_alloc ?_ _)); exact BK107.out) hb); have n2_ := Aside0.mk (below_step (by repeat (first | (with_reducible first | exact HB.out | apply below_alloc | apply pw_below_drewN | apply below_drew1 | refine below_set ?_ GE107.out) | exact HB.out)) hb); clear HO105; clear BK107; clear HB; have HO105 := n0_; have BK107 := n1_; have HB := n2_; clear n0_ n1_ n2_; (try clear hb); (try clear hb2); (try clear hk); (try clear hi)))
  go_ret
  exact ⟨by first | rfl | (simp [errW_none, errW_some] <;> rfl) | (simp [*, errW_none, errW_some] <;> rfl), by repeat (first | (with_reducible first | exact HB.out | apply below_alloc | apply pw_below_drewN | apply below_drew1 | refine below_set ?_ GE107.out) | exact HB.out)⟩
end Go.Proofs.YteehjlciajhdoaaGreatDoor.X
namespace Go.Proofs.YteehjlciajhdoaaGreatDoor.X
open Go.RowKit Go.Proofs.YteehjlciajhdoaaGreatDoorW.PrintWords Go.Proofs.YteehjlciajhdoaaGreatDoorW.PrintLast Go.Proofs.YteehjlciajhdoaaGreatDoorW.PrintMore
attribute [local go_sem] max2_int min2_int max_two min_two max_three min_three max_four min_four
set_option linter.unusedVariables false
set_option linter.unusedSimpArgs false
def mime_Blocked.j0 : Nat → List (S55) → Int → Bool → Option (Bool)
  | 0, _, _, _ => none
  | k + 1, x0, x1, x22 => if x22 = true then (some false) else ((mime_Extract.f k x0).bind fun bt107 => (if x1 = 2 then ((mime_Group.f k bt107.1 bt107.2.1 bt107.2.2.1).bind fun t114 => (some (t114 != 1))) else (if x1 = 3 then ((mime_Essence.f bt107.1 bt107.2.1 bt107.2.2.1).bind fun t115 => (some (t115.toList != ([116, 101, 120, 116, 47, 99, 115, 115] : List UInt8)))) else (some false))))
def mime_Blocked.f (k : Nat) (l0 : List (S55)) (a1 : Int) : Option (Bool) := (headers_Split.f k l0 (⟨#[120, 45, 99, 111, 110, 116, 101, 110, 116, 45, 116, 121, 112, 101, 45, 111, 112, 116, 105, 111, 110, 115]⟩ : ByteArray)).bind fun bt101 => (if bt101.2 = true then (if 0 < (bt101.1.length : Int) then ((infra_Lower.f (rdOf ByteArray.empty bt101.1 0)).bind fun t106 => (mime_Blocked.j0 k l0 a1 (t106.toList != ([110, 111, 115, 110, 105, 102, 102] : List UInt8)))) else (none)) else (mime_Blocked.j0 k l0 a1 true))
theorem mime_Blocked.mono_l : ∀ k, (∀ y0 y1 y2, LeO (mime_Blocked.j0 k y0 y1 y2) (mime_Blocked.j0 (k + 1) y0 y1 y2))
  | 0 => fun _ _ _ r h => by simp [mime_Blocked.j0] at h
  | k + 1 => by
    have ih0 := mime_Blocked.mono_l k
    · intro y0 y1 y2
      unfold mime_Blocked.j0
      repeat' first
      | (with_reducible exact ih0 _ _ _)
      | (with_reducible exact headers_Split.mono _ _ _)
      | (with_reducible exact mime_Extract.mono _ _)
      | (with_reducible exact mime_Group.mono _ _ _ _)
      | (with_reducible exact LeO.refl _)
      | (with_reducible exact LeO.none _)
      | (with_reducible refine LeO.ite ?_ ?_)
      | (with_reducible refine LeO.bind ?_ (fun _ => ?_))
      | exact ih0 _ _ _
      | exact headers_Split.mono _ _ _
      | exact mime_Extract.mono _ _
      | exact mime_Group.mono _ _ _ _
      | exact LeO.none _
      | refine LeO.ite ?_ ?_
      | refine LeO.bind ?_ (fun _ => ?_)
theorem mime_Blocked.mono : ∀ a0 a1 k, LeO (mime_Blocked.f k a0 a1) (mime_Blocked.f (k + 1) a0 a1) := by
  intro a0 a1 k
  have ih0 := mime_Blocked.mono_l k
  unfold mime_Blocked.f
  repeat' first
      | (with_reducible exact ih0 _ _ _)
      | (with_reducible exact headers_Split.mono _ _ _)
      | (with_reducible exact mime_Extract.mono _ _)
      | (with_reducible exact mime_Group.mono _ _ _ _)
      | (with_reducible exact LeO.refl _)
      | (with_reducible exact LeO.none _)
      | (with_reducible refine LeO.ite ?_ ?_)
      | (with_reducible refine LeO.bind ?_ (fun _ => ?_))
      | exact ih0 _ _ _
      | exact headers_Split.mono _ _ _
      | exact mime_Extract.mono _ _
      | exact mime_Group.mono _ _ _ _
      | exact LeO.none _
      | refine LeO.ite ?_ ?_
      | refine LeO.bind ?_ (fun _ => ?_)
set_option maxHeartbeats 8000000 in
set_option maxRecDepth 100000 in
theorem mime_Blocked.calls (k : Nat) (A0 : Option Addr) (c0 : Nat) (l0 : List (S55)) (a1 : Int) (r : Bool) (w : World) (hr0 : Kd.C k55 w A0 l0.length l0) (hc0 : l0.length ≤ c0) (h : mime_Blocked.f k l0 a1 = some r) :
    Calls Tryz.prog 35 #[.slice A0 l0.length c0, .int .i64 a1] w fun e w' => e = .returned (.bool r) ∧ Below w.heap.size w w' := by
  have hu24 := Tryz.underlying24
  have HR0 := Aside0.mk hr0
  have HC0 := Aside0.mk hc0
  clear hr0 hc0
  have HB := Aside0.mk (Below.refl w.heap.size w)
  have H : ((headers_Split.f k l0 (⟨#[120, 45, 99, 111, 110, 116, 101, 110, 116, 45, 116, 121, 112, 101, 45, 111, 112, 116, 105, 111, 110, 115]⟩ : ByteArray)).bind fun bt101 => (if bt101.2 = true then (if 0 < (bt101.1.length : Int) then ((infra_Lower.f (rdOf ByteArray.empty bt101.1 0)).bind fun t106 => (mime_Blocked.j0 k l0 a1 (t106.toList != ([110, 111, 115, 110, 105, 102, 102] : List UInt8)))) else (none)) else (mime_Blocked.j0 k l0 a1 true))) = some r := h
  clear h
  replace H := Option.bind_eq_some_iff.mp H
  obtain ⟨⟨t101, t102⟩, A30, H⟩ := H
  replace H : (if t102 = true then (if 0 < (t101.length : Int) then ((infra_Lower.f (rdOf ByteArray.empty t101 0)).bind fun t106 => (mime_Blocked.j0 k l0 a1 (t106.toList != ([110, 111, 115, 110, 105, 102, 102] : List UInt8)))) else (none)) else (mime_Blocked.j0 k l0 a1 true)) = some r := H
  have A3 := Aside0.mk A30
  clear A30
  have HC4 := Aside0.mk H
  clear H
  go_enter Tryz.func35, Tryz.ntmps35
  go_upto_region 2 with (first | ((with_reducible refine gate_callee (f := 39) rfl ?_); refine goesL_ (some 11) rfl rfl Tryz.func39 (by kernel_rfl) rfl #[.slice A0 l0.length c0, .string (⟨#[120, 45, 99, 111, 110, 116, 101, 110, 116, 45, 116, 121, 112, 101, 45, 111, 112, 116, 105, 111, 110, 115]⟩ : ByteArray)] rfl (by (try simp only [List.map_toArray, List.map_cons, List.map_nil]); first | done | rfl | (simp only [List.length_drop, List.length_take]; rfl)) ?_; (with_reducible refine (headers_Split.calls k _ _ l0 (⟨#[120, 45, 99, 111, 110, 116, 101, 110, 116, 45, 116, 121, 112, 101, 45, 111, 112, 116, 105, 111, 110, 115]⟩ : ByteArray) t101 t102 _ ?side1 ?side2 A3.out).mono ?_); (case side1 => repeat (first | exact HR0.out | (with_reducible refine Kd.C_alloc ?_ _) | (with_reducible refine Kd.C_drewN ?_ _) | (with_reducible refine Kd.C_drew ?_))); (case side2 => exact HC0.out); rintro e w5 ⟨v103, rfl, ho0, hb⟩; refine ⟨_, rfl, ?_⟩; have n0_ := Aside0.mk (Kd.R_lower ho0 (below_size (by repeat (first | (with_reducible first | exact HB.out | apply below_alloc | apply pw_below_drewN | apply below_drew1) | exact HB.out)))); have n1_ := Aside0.mk (below_step (by repeat (first | (with_reducible first | exact HB.out | apply below_alloc | apply pw_below_drewN | apply below_drew1) | exact HB.out)) hb); clear HB; have HO104 := n0_; have HB := n1_; clear n0_ n1_; (try clear hb); (try clear hb2); (try clear hk); (try clear hi); (try clear ho0)))
  (try simp only [Act.put, List.setIfInBounds_toArray, List.set_cons_zero, List.set_cons_succ])
  go_cut [22] (fun v22 wc => ∃ (kq : Nat) (x22_3 : Bool), v22 = .bool x22_3 ∧ Aside0 (mime_Blocked.j0 kq l0 a1 x22_3 = some r) ∧ Aside0 (kq ≤ k) ∧ Aside0 (Below w.heap.size w wc))
  case first =>
    have H := HC4.out
    clear HC4
    by_cases c6 : t102 = true
    · subst c6
      have H1 : (if 0 < (t101.length : Int) then ((infra_Lower.f (rdOf ByteArray.empty t101 0)).bind fun t106 => (mime_Blocked.j0 k l0 a1 (t106.toList != ([110, 111, 115, 110, 105, 102, 102] : List UInt8)))) else (none)) = some r := by rw [if_pos rfl] at H; exact H
      clear H
      have H := H1
      clear H1
      by_cases c7 : 0 < (t101.length : Int)
      · rw [if_pos c7] at H
        have c7b0 : decide (0 < (t101.length : Int)) = true := decide_eq_true c7
        have c7b1 : decide (0 < t101.length) = true := decide_eq_true (by omega)
        clear c7
        (first | rw [c7b0] | (simp only [i64_w, i32_w]; rw [c7b0]) | skip)
        replace H := Option.bind_eq_some_iff.mp H
        obtain ⟨t106, A80, H⟩ := H
        replace H : (mime_Blocked.j0 k l0 a1 (t106.toList != ([110, 111, 115, 110, 105, 102, 102] : List UInt8))) = some r := H
        have A8 := Aside0.mk A80
        clear A80
        have H' := Aside0.mk H
        clear H
        obtain ⟨Ao9, co9, eo9⟩ := Kd.R_slice HO104.out
        subst eo9
        have p105 : 0 ≤ (0 : Int) := (by omega)
        have q105 : 0 < (t101.length : Int) := of_decide_eq_true (by first | (with_reducible assumption) | assumption)
        obtain ⟨ad105, e105, hx105_0⟩ := Kd.at_string (Kd.R_reads' HO104.out).2.2 0 p105 q105
        cases e105
        have qi105 : (0 < t101.length) = True := eq_true (by omega)
        (try rw [show ((0 : Int)).toNat = 0 from rfl] at hx105_0)
        (try rw [Addr.add_zero'] at hx105_0)
        replace p105 := eq_true p105
        replace q105 := eq_true q105
        go_wp2_with (first | (go_at_call 65; (with_reducible refine (infra_Lower.calls (rdOf ByteArray.empty t101 0) t106 _ A8.out).mono ?_); rintro e w10 ⟨rfl, hb⟩; have n0_ := Aside0.mk (Kd.R_below (by (with_reducible repeat (first | apply Kd.R_alloc | apply Kd.R_drewN | apply Kd.R_drew)); exact HO104.out) hb); have n1_ := Aside0.mk (below_step (by repeat (first | (with_reducible first | exact HB.out | apply below_alloc | apply pw_below_drewN | apply below_drew1) | exact HB.out)) hb); clear HO104; clear HB; have HO104 := n0_; have HB := n1_; clear n0_ n1_; (try clear hb); (try clear hb2); (try clear hk); (try clear hi)))
        go_meet
        case rel => exact ⟨_, ((t106.toList != ([110, 111, 115, 110, 105, 102, 102] : List UInt8))), (by first | rfl | (simp; done) | (simp [*]; done)), H', ⟨by first | omega | exact Nat.le_refl _⟩, ⟨by repeat (first | (with_reducible first | exact HB.out | apply below_alloc | apply pw_below_drewN | apply below_drew1) | exact HB.out)⟩⟩
      · rw [if_neg c7] at H
        exact absurd H (by simp)
    · replace c6 := Bool.eq_false_iff.mpr c6
      subst c6
      have H1 : (mime_Blocked.j0 k l0 a1 true) = some r := by rw [if_neg (show ¬ (false = true) by decide)] at H; exact H
      clear H
      have H := H1
      clear H1
      have H' := Aside0.mk H
      clear H
      go_wp2
      go_meet
      case rel => exact ⟨_, (true), (by first | rfl | (simp; done) | (simp [*]; done)), H', ⟨by first | omega | exact Nat.le_refl _⟩, ⟨by repeat (first | (with_reducible first | exact HB.out | apply below_alloc | apply pw_below_drewN | apply below_drew1) | exact HB.out)⟩⟩
  case rest =>
    clear HC4
    try clear p1
    try clear q1
    try clear hx1
    try clear qi1
    try clear p2
    try clear c3
    try clear c6
    try clear c7
    try clear c7b0
    try clear c7b1
    try clear p10
    try clear q10
    try clear hx10
    try clear qi10
    try clear hx105_0
    try clear p105
    try clear q105
    obtain ⟨kq, x22_3, rfl, HA, HJ3, HB⟩ := hcut
    cases kq with
    | zero => exact absurd HA.out (by simp [mime_Blocked.j0])
    | succ kj3 =>
      have H := HA.out
      clear HA
      simp only [mime_Blocked.j0] at H
      by_cases c11 : x22_3 = true
      · subst c11
        have H1 : (some false) = some r := by rw [if_pos rfl] at H; exact H
        clear H
        have H := H1
        clear H1
        obtain rfl := Option.some.inj H
        go_wp2
        go_ret
        exact ⟨by first | rfl | (simp [errW_none, errW_some] <;> rfl) | (simp [*, errW_none, errW_some] <;> rfl), by repeat (first | (with_reducible first | exact HB.out | apply below_alloc | apply pw_below_drewN | apply below_drew1) | exact HB.out)⟩
      · replace c11 := Bool.eq_false_iff.mpr c11
        subst c11
        have H1 : ((mime_Extract.f kj3 l0).bind fun bt107 => (if a1 = 2 then ((mime_Group.f kj3 bt107.1 bt107.2.1 bt107.2.2.1).bind fun t114 => (some (t114 != 1))) else (if a1 = 3 then ((mime_Essence.f bt107.1 bt107.2.1 bt107.2.2.1).bind fun t115 => (some (t115.toList != ([116, 101, 120, 116, 47, 99, 115, 115] : List UInt8)))) else (some false)))) = some r := by rw [if_neg (show ¬ (false = true) by decide)] at H; exact H
        clear H
        have H := H1
        clear H1
        replace H := Option.bind_eq_some_iff.mp H
        obtain ⟨⟨t107, t108, t109, t112⟩, A120, H⟩ := H
        replace H : (if a1 = 2 then ((mime_Group.f kj3 t107 t108 t109).bind fun t114 => (some (t114 != 1))) else (if a1 = 3 then ((mime_Essence.f t107 t108 t109).bind fun t115 => (some (t115.toList != ([116, 101, 120, 116, 47, 99, 115, 115] : List UInt8)))) else (some false))) = some r := H
        have A12 := Aside0.mk A120
        clear A120
        by_cases c13 : a1 = 2
        · rw [if_pos c13] at H
          have c13b0 : (a1 == 2) = true := beq_iff_eq.mpr c13
          have c13b1 : (a1 != 2) = false := bne_eq_false_iff_eq.mpr c13
          clear c13
          replace H := Option.bind_eq_some_iff.mp H
          obtain ⟨t114, A140, H⟩ := H
          replace H : (some (t114 != 1)) = some r := H
          have A14 := Aside0.mk A140
          clear A140
          obtain rfl := Option.some.inj H
          go_wp2_with (first | ((with_reducible refine gate_callee (f := 20) rfl ?_); refine goesL_ (some 25) rfl rfl Tryz.func20 (by kernel_rfl) rfl #[.slice A0 l0.length c0] rfl (by (try simp only [List.map_toArray, List.map_cons, List.map_nil]); first | done | rfl | (simp only [List.length_drop, List.length_take]; rfl)) ?_; (with_reducible refine (mime_Extract.calls kj3 _ _ l0 t107 t108 t109 t112 _ ?side1 ?side2 A12.out).mono ?_); (case side1 => repeat (first | exact (Kd.C_below HR0.out HB.out) | (with_reducible refine Kd.C_alloc ?_ _) | (with_reducible refine Kd.C_drewN ?_ _) | (with_reducible refine Kd.C_drew ?_))); (case side2 => exact HC0.out); rintro e w15 ⟨v110, rfl, ho0, hb⟩; refine ⟨_, rfl, ?_⟩; have n0_ := Aside0.mk (Kd.R_lower ho0 (below_size (by repeat (first | (with_reducible first | exact HB.out | apply below_alloc | apply pw_below_drewN | apply below_drew1) | exact HB.out)))); have n1_ := Aside0.mk (below_step (by repeat (first | (with_reducible first | exact HB.out | apply below_alloc | apply pw_below_drewN | apply below_drew1) | exact HB.out)) hb); clear HB; have HO111 := n0_; have HB := n1_; clear n0_ n1_; (try clear hb); (try clear hb2); (try clear hk); (try clear hi); (try clear ho0)) | ((with_reducible refine gate_dst (N := 7) rfl ?_); refine box_event ?hg (N := 7) ?hd (cs := #[.string (⟨#[]⟩ : ByteArray), .string (⟨#[]⟩ : ByteArray), .slice none 0 0]) (t := 24) ?hr ?_; (case hd => rfl); (case hg => rfl); (case hr => first | (go_simp; done) | (go_simp; rfl)); intro gb113 hg w16 hbox hb; have n0_ := Aside0.mk (Kd.R_below (by (with_reducible repeat (first | apply Kd.R_alloc | apply Kd.R_drewN | apply Kd.R_drew)); exact HO111.out) hb); have n1_ := Aside0.mk (below_step (by repeat (first | (with_reducible first | exact HB.out | apply below_alloc | apply pw_below_drewN | apply below_drew1) | exact HB.out)) hb); have n2_ := Aside0.mk (hbox); have n3_ := Aside0.mk ((by rw [hg]; exact (below_size (by repeat (first | (with_reducible first | exact HB.out | apply below_alloc | apply pw_below_drewN | apply below_drew1) | exact HB.out))) : w.heap.size ≤ gb113)); have n4_ := Aside0.mk ((by rw [hg]; exact (below_size (by repeat (first | (with_reducible first | exact HB.out | apply below_alloc | apply pw_below_drewN | apply below_drew1) | exact HB.out))) : w.heap.size ≤ gb113)); clear HO111; clear HB; have HO111 := n0_; have HB := n1_; have BK113 := n2_; have GW113 := n3_; have GE113 := n4_; clear n0_ n1_ n2_ n3_ n4_; clear hb hbox hg; have hcz17_0 : w16.cell? ⟨gb113, 0, none⟩ = some (.string (⟨#[]⟩ : ByteArray)) := (blk_cell BK113.out 0).trans rfl; have hcz17_1 : w16.cell? ⟨gb113, 1, none⟩ = some (.string (⟨#[]⟩ : ByteArray)) := (blk_cell BK113.out 1).trans rfl; have hcz17_2 : w16.cell? ⟨gb113, 2, none⟩ = some (.slice none 0 0) := (blk_cell BK113.out 2).trans rfl; have hfz17_0 := blk_frozen BK113.out 0; have hfz17_1 := blk_frozen BK113.out 1; have hfz17_2 := blk_frozen BK113.out 2; obtain ⟨Ao18, co18, eo18⟩ := Kd.R_slice HO111.out; subst eo18) | ((with_reducible refine gate_callee (f := 31) rfl ?_); refine goesL_ (some 32) rfl rfl Tryz.func31 (by kernel_rfl) rfl #[.agg #[.string t107, .string t108, .slice Ao18 t109.length co18]] rfl (by (try simp only [List.map_toArray, List.map_cons, List.map_nil]); first | done | rfl | (simp only [List.length_drop, List.length_take]; rfl)) ?_; (with_reducible refine (mime_Group.calls kj3 t107 t108 _ _ t109 t114 _ ?side1 ?side2 A14.out).mono ?_); (case side1 => refine (Kd.R_reads' (e := 32) (base := w.heap.size) (ok := fun k_ => True) (n := t109.length) (c := co18) ?_).2.2; exact (by (with_reducible repeat (first | apply Kd.R_alloc | apply Kd.R_drewN | apply Kd.R_drew)); exact (Kd.R_mono (Kd.R_far (p := ⟨gb113, 2, none⟩) (Kd.R_far (p := ⟨gb113, 1, none⟩) (Kd.R_far (p := ⟨gb113, 0, none⟩) (Kd.R_types HO111.out BK113.out (by decide)) (fun _ hk => hk.2) (.string t107)) (fun _ hk => hk.2) (.string t108)) (fun _ hk => hk.2) (.slice Ao18 t109.length co18)) (fun _ h_ => h_.1)))); (case side2 => exact (Kd.R_reads' HO111.out).2.1); rintro e w19 ⟨rfl, hb⟩; refine ⟨_, rfl, ?_⟩; have n0_ := Aside0.mk (Kd.R_below (by (with_reducible repeat (first | apply Kd.R_alloc | apply Kd.R_drewN | apply Kd.R_drew)); exact (Kd.R_mono (Kd.R_far (p := ⟨gb113, 2, none⟩) (Kd.R_far (p := ⟨gb113, 1, none⟩) (Kd.R_far (p := ⟨gb113, 0, none⟩) (Kd.R_types HO111.out BK113.out (by decide)) (fun _ hk => hk.2) (.string t107)) (fun _ hk => hk.2) (.string t108)) (fun _ hk => hk.2) (.slice Ao18 t109.length co18)) (fun _ h_ => h_.1))) hb); have n1_ := Aside0.mk (blk_below (g := gb113) (o := .cells #[.string t107, .string t108, .slice Ao18 t109.length co18] 24 (0, 0)) (by (with_reducible repeat (first | refine blk_drewN ?_ _ | refine blk_drew ?_ | refine blk_alloc ?_ _)); refine blk_put (cs := #[.string t107, .string t108, .slice none 0 0]) ?_ 2 _ rfl; (with_reducible repeat (first | refine blk_drewN ?_ _ | refine blk_drew ?_ | refine blk_alloc ?_ _)); refine blk_put (cs := #[.string t107, .string (⟨#[]⟩ : ByteArray), .slice none 0 0]) ?_ 1 _ rfl; (with_reducible repeat (first | refine blk_drewN ?_ _ | refine blk_drew ?_ | refine blk_alloc ?_ _)); refine blk_put (cs := #[.string (⟨#[]⟩ : ByteArray), .string (⟨#[]⟩ : ByteArray), .slice none 0 0]) ?_ 0 _ rfl; (with_reducible repeat (first | refine blk_drewN ?_ _ | refine blk_drew ?_ | refine blk_alloc ?_ _)); exact BK113.out) hb); have n2_ := Aside0.mk (below_step (by repeat (first | (with_reducible first | exact HB.out | apply below_alloc | apply pw_below_drewN | apply below_drew1 | refine below_set ?_ GE113.out) | exact HB.out)) hb); clear HO111; clear BK113; clear HB; have HO111 := n0_; have BK113 := n1_; have HB := n2_; clear n0_ n1_ n2_; (try clear hb); (try clear hb2); (try clear hk); (try clear hi)))
          go_ret
          exact ⟨by first | rfl | (simp [errW_none, errW_some] <;> rfl) | (simp [*, errW_none, errW_some] <;> rfl), by repeat (first | (with_reducible first | exact HB.out | apply below_alloc | apply pw_below_drewN | apply below_drew1 | refine below_set ?_ GE113.out) | exact HB.out)⟩
        · rw [if_neg c13] at H
          have c13b0 : (a1 == 2) = false := beq_eq_false_iff_ne.mpr c13
          have c13b1 : (a1 != 2) = true := bne_iff_ne.mpr c13
          by_cases c20 : a1 = 3
          · rw [if_pos c20] at H
            have c20b0 : (a1 == 3) = true := beq_iff_eq.mpr c20
            have c20b1 : (a1 != 3) = false := bne_eq_false_iff_eq.mpr c20
            clear c20
            replace H := Option.bind_eq_some_iff.mp H
            obtain ⟨t115, A210, H⟩ := H
            replace H : (some (t115.toList != ([116, 101, 120, 116, 47, 99, 115, 115] : List UInt8))) = some r := H
            have A21 := Aside0.mk A210
            clear A210
            obtain rfl := Option.some.inj H
            go_wp2_with (first | ((with_reducible refine gate_callee (f := 20) rfl ?_); refine goesL_ (some 25) rfl rfl Tryz.func20 (by kernel_rfl) rfl #[.slice A0 l0.length c0] rfl (by (try simp only [List.map_toArray, List.map_cons, List.map_nil]); first | done | rfl | (simp only [List.length_drop, List.length_take]; rfl)) ?_; (with_reducible refine (mime_Extract.calls kj3 _ _ l0 t107 t108 t109 t112 _ ?side1 ?side2 A12.out).mono ?_); (case side1 => repeat (first | exact (Kd.C_below HR0.out HB.out) | (with_reducible refine Kd.C_alloc ?_ _) | (with_reducible refine Kd.C_drewN ?_ _) | (with_reducible refine Kd.C_drew ?_))); (case side2 => exact HC0.out); rintro e w22 ⟨v110, rfl, ho0, hb⟩; refine ⟨_, rfl, ?_⟩; have n0_ := Aside0.mk (Kd.R_lower ho0 (below_size (by repeat (first | (with_reducible first | exact HB.out | apply below_alloc | apply pw_below_drewN | apply below_drew1) | exact HB.out)))); have n1_ := Aside0.mk (below_step (by repeat (first | (with_reducible first | exact HB.out | apply below_alloc | apply pw_below_drewN | apply below_drew1) | exact HB.out)) hb); clear HB; have HO111 := n0_; have HB := n1_; clear n0_ n1_; (try clear hb); (try clear hb2); (try clear hk); (try clear hi); (try clear ho0)) | ((with_reducible refine gate_dst (N := 7) rfl ?_); refine box_event ?hg (N := 7) ?hd (cs := #[.string (⟨#[]⟩ : ByteArray), .string (⟨#[]⟩ : ByteArray), .slice none 0 0]) (t := 24) ?hr ?_; (case hd => rfl); (case hg => rfl); (case hr => first | (go_simp; done) | (go_simp; rfl)); intro gb113 hg w23 hbox hb; have n0_ := Aside0.mk (Kd.R_below (by (with_reducible repeat (first | apply Kd.R_alloc | apply Kd.R_drewN | apply Kd.R_drew)); exact HO111.out) hb); have n1_ := Aside0.mk (below_step (by repeat (first | (with_reducible first | exact HB.out | apply below_alloc | apply pw_below_drewN | apply below_drew1) | exact HB.out)) hb); have n2_ := Aside0.mk (hbox); have n3_ := Aside0.mk ((by rw [hg]; exact (below_size (by repeat (first | (with_reducible first | exact HB.out | apply below_alloc | apply pw_below_drewN | apply below_drew1) | exact HB.out))) : w.heap.size ≤ gb113)); have n4_ := Aside0.mk ((by rw [hg]; exact (below_size (by repeat (first | (with_reducible first | exact HB.out | apply below_alloc | apply pw_below_drewN | apply below_drew1) | exact HB.out))) : w.heap.size ≤ gb113)); clear HO111; clear HB; have HO111 := n0_; have HB := n1_; have BK113 := n2_; have GW113 := n3_; have GE113 := n4_; clear n0_ n1_ n2_ n3_ n4_; clear hb hbox hg; have hcz24_0 : w23.cell? ⟨gb113, 0, none⟩ = some (.string (⟨#[]⟩ : ByteArray)) := (blk_cell BK113.out 0).trans rfl; have hcz24_1 : w23.cell? ⟨gb113, 1, none⟩ = some (.string (⟨#[]⟩ : ByteArray)) := (blk_cell BK113.out 1).trans rfl; have hcz24_2 : w23.cell? ⟨gb113, 2, none⟩ = some (.slice none 0 0) := (blk_cell BK113.out 2).trans rfl; have hfz24_0 := blk_frozen BK113.out 0; have hfz24_1 := blk_frozen BK113.out 1; have hfz24_2 := blk_frozen BK113.out 2; obtain ⟨Ao25, co25, eo25⟩ := Kd.R_slice HO111.out; subst eo25) | ((with_reducible refine gate_callee (f := 29) rfl ?_); refine goesL_ (some 37) rfl rfl Tryz.func29 (by kernel_rfl) rfl #[.agg #[.string t107, .string t108, .slice Ao25 t109.length co25]] rfl (by (try simp only [List.map_toArray, List.map_cons, List.map_nil]); first | done | rfl | (simp only [List.length_drop, List.length_take]; rfl)) ?_; (with_reducible refine (mime_Essence.calls t107 t108 _ _ t109 t115 _ ?side1 ?side2 A21.out).mono ?_); (case side1 => refine (Kd.R_reads' (e := 32) (base := w.heap.size) (ok := fun k_ => True) (n := t109.length) (c := co25) ?_).2.2; exact (by (with_reducible repeat (first | apply Kd.R_alloc | apply Kd.R_drewN | apply Kd.R_drew)); exact (Kd.R_mono (Kd.R_far (p := ⟨gb113, 2, none⟩) (Kd.R_far (p := ⟨gb113, 1, none⟩) (Kd.R_far (p := ⟨gb113, 0, none⟩) (Kd.R_types HO111.out BK113.out (by decide)) (fun _ hk => hk.2) (.string t107)) (fun _ hk => hk.2) (.string t108)) (fun _ hk => hk.2) (.slice Ao25 t109.length co25)) (fun _ h_ => h_.1)))); (case side2 => exact (Kd.R_reads' HO111.out).2.1); rintro e w26 ⟨rfl, hb⟩; refine ⟨_, rfl, ?_⟩; have n0_ := Aside0.mk (Kd.R_below (by (with_reducible repeat (first | apply Kd.R_alloc | apply Kd.R_drewN | apply Kd.R_drew)); exact (Kd.R_mono (Kd.R_far (p := ⟨gb113, 2, none⟩) (Kd.R_far (p := ⟨gb113, 1, none⟩) (Kd.R_far (p := ⟨gb113, 0, none⟩) (Kd.R_types HO111.out BK113.out (by decide)) (fun _ hk => hk.2) (.string t107)) (fun _ hk => hk.2) (.string t108)) (fun _ hk => hk.2) (.slice Ao25 t109.length co25)) (fun _ h_ => h_.1))) hb); have n1_ := Aside0.mk (blk_below (g := gb113) (o := .cells #[.string t107, .string t108, .slice Ao25 t109.length co25] 24 (0, 0)) (by (with_reducible repeat (first | refine blk_drewN ?_ _ | refine blk_drew ?_ | refine blk_alloc ?_ _)); refine blk_put (cs := #[.string t107, .string t108, .slice none 0 0]) ?_ 2 _ rfl; (with_reducible repeat (first | refine blk_drewN ?_ _ | refine blk_drew ?_ | refine blk_alloc ?_ _)); refine blk_put (cs := #[.string t107, .string (⟨#[]⟩ : ByteArray), .slice none 0 0]) ?_ 1 _ rfl; (with_reducible repeat (first | refine blk_drewN ?_ _ | refine blk_drew ?_ | refine blk_alloc ?_ _)); refine blk_put (cs := #[.string (⟨#[]⟩ : ByteArray), .string (⟨#[]⟩ : ByteArray), .slice none 0 0]) ?_ 0 _ rfl; (with_reducible repeat (first | refine blk_drewN ?_ _ | refine blk_drew ?_ | refine blk_alloc ?_ _)); exact BK113.out) hb); have n2_ := Aside0.mk (below_step (by repeat (first | (with_reducible first | exact HB.out | apply below_alloc | apply pw_below_drewN | apply below_drew1 | refine below_set ?_ GE113.out) | exact HB.out)) hb); clear HO111; clear BK113; clear HB; have HO111 := n0_; have BK113 := n1_; have HB := n2_; clear n0_ n1_ n2_; (try clear hb); (try clear hb2); (try clear hk); (try clear hi)))
            go_ret
            exact ⟨by first | rfl | (simp [errW_none, errW_some] <;> rfl) | (simp [*, errW_none, errW_some] <;> rfl), by repeat (first | (with_reducible first | exact HB.out | apply below_alloc | apply pw_below_drewN | apply below_drew1 | refine below_set ?_ GE113.out) | exact HB.out)⟩
          · rw [if_neg c20] at H
            have c20b0 : (a1 == 3) = false := beq_eq_false_iff_ne.mpr c20
            have c20b1 : (a1 != 3) = true := bne_iff_ne.mpr c20
            obtain rfl := Option.some.inj H
            go_wp2_with (first | ((with_reducible refine gate_callee (f := 20) rfl ?_); refine goesL_ (some 25) rfl rfl Tryz.func20 (by kernel_rfl) rfl #[.slice A0 l0.length c0] rfl (by (try simp only [List.map_toArray, List.map_cons, List.map_nil]); first | done | rfl | (simp only [List.length_drop, List.length_take]; rfl)) ?_; (with_reducible refine (mime_Extract.calls kj3 _ _ l0 t107 t108 t109 t112 _ ?side1 ?side2 A12.out).mono ?_); (case side1 => repeat (first | exact (Kd.C_below HR0.out HB.out) | (with_reducible refine Kd.C_alloc ?_ _) | (with_reducible refine Kd.C_drewN ?_ _) | (with_reducible refine Kd.C_drew ?_))); (case side2 => exact HC0.out); rintro e w27 ⟨v110, rfl, ho0, hb⟩; refine ⟨_, rfl, ?_⟩; have n0_ := Aside0.mk (Kd.R_lower ho0 (below_size (by repeat (first | (with_reducible first | exact HB.out | apply below_alloc | apply pw_below_drewN | apply below_drew1) | exact HB.out)))); have n1_ := Aside0.mk (below_step (by repeat (first | (with_reducible first | exact HB.out | apply below_alloc | apply pw_below_drewN | apply below_drew1) | exact HB.out)) hb); clear HB; have HO111 := n0_; have HB := n1_; clear n0_ n1_; (try clear hb); (try clear hb2); (try clear hk); (try clear hi); (try clear ho0)) | ((with_reducible refine gate_dst (N := 7) rfl ?_); refine box_event ?hg (N := 7) ?hd (cs := #[.string (⟨#[]⟩ : ByteArray), .string (⟨#[]⟩ : ByteArray), .slice none 0 0]) (t := 24) ?hr ?_; (case hd => rfl); (case hg => rfl); (case hr => first | (go_simp; done) | (go_simp; rfl)); intro gb113 hg w28 hbox hb; have n0_ := Aside0.mk (Kd.R_below (by (with_reducible repeat (first | apply Kd.R_alloc | apply Kd.R_drewN | apply Kd.R_drew)); exact HO111.out) hb); have n1_ := Aside0.mk (below_step (by repeat (first | (with_reducible first | exact HB.out | apply below_alloc | apply pw_below_drewN | apply below_drew1) | exact HB.out)) hb); have n2_ := Aside0.mk (hbox); have n3_ := Aside0.mk ((by rw [hg]; exact (below_size (by repeat (first | (with_reducible first | exact HB.out | apply below_alloc | apply pw_below_drewN | apply below_drew1) | exact HB.out))) : w.heap.size ≤ gb113)); have n4_ := Aside0.mk ((by rw [hg]; exact (below_size (by repeat (first | (with_reducible first | exact HB.out | apply below_alloc | apply pw_below_drewN | apply below_drew1) | exact HB.out))) : w.heap.size ≤ gb113)); clear HO111; clear HB; have HO111 := n0_; have HB := n1_; have BK113 := n2_; have GW113 := n3_; have GE113 := n4_; clear n0_ n1_ n2_ n3_ n4_; clear hb hbox hg; have hcz29_0 : w28.cell? ⟨gb113, 0, none⟩ = some (.string (⟨#[]⟩ : ByteArray)) := (blk_cell BK113.out 0).trans rfl; have hcz29_1 : w28.cell? ⟨gb113, 1, none⟩ = some (.string (⟨#[]⟩ : ByteArray)) := (blk_cell BK113.out 1).trans rfl; have hcz29_2 : w28.cell? ⟨gb113, 2, none⟩ = some (.slice none 0 0) := (blk_cell BK113.out 2).trans rfl; have hfz29_0 := blk_frozen BK113.out 0; have hfz29_1 := blk_frozen BK113.out 1; have hfz29_2 := blk_frozen BK113.out 2; obtain ⟨Ao30, co30, eo30⟩ := Kd.R_slice HO111.out; subst eo30))
            go_ret
            exact ⟨by first | rfl | (simp [errW_none, errW_some] <;> rfl) | (simp [*, errW_none, errW_some] <;> rfl), by repeat (first | (with_reducible first | exact HB.out | apply below_alloc | apply pw_below_drewN | apply below_drew1 | refine below_set ?_ GE113.out) | exact HB.out)⟩
end Go.Proofs.YteehjlciajhdoaaGreatDoor.X
