/- F21, F33, F17, Q32, F19, F3, P3, F25, F6, P4, P5: this session's texts, joined; what the claim does not name is left out. -/
import Derived.Test.YteehjlciajhdoaaGreatDoorZd3
namespace Go.Proofs.YteehjlciajhdoaaGreatDoor.X
open Go.RowKit Go.Proofs.YteehjlciajhdoaaGreatDoorW.PrintWords Go.Proofs.YteehjlciajhdoaaGreatDoorW.PrintLast Go.Proofs.YteehjlciajhdoaaGreatDoorW.PrintMore
attribute [local go_sem] max2_int min2_int max_two min_two max_three min_three max_four min_four
set_option linter.unusedVariables false
set_option linter.unusedSimpArgs false
def ostiarylaw6_kinds.l0 : Nat → List ByteArray → List (S55) → Int → Option ((List (S55)))
  | 0, _, _, _ => none
  | k + 1, x0, x3, x4 => if x4 < (x0.length : Int) then (if 0 ≤ x4 then (if x3.length < 4398046511104 then (ostiarylaw6_kinds.l0 k x0 (x3 ++ [(⟨(⟨#[67, 111, 110, 116, 101, 110, 116, 45, 84, 121, 112, 101]⟩ : ByteArray), rdOf ByteArray.empty x0 x4⟩ : S55)]) (wrap64 (x4 + 1))) else (none)) else (none)) else (some x3)
def ostiarylaw6_kinds.f (k : Nat) (l0 : List ByteArray) : Option ((List (S55))) := ostiarylaw6_kinds.l0 k l0 ([] : List (S55)) 0
theorem ostiarylaw6_kinds.mono_l : ∀ k, (∀ y0 y1 y2, LeO (ostiarylaw6_kinds.l0 k y0 y1 y2) (ostiarylaw6_kinds.l0 (k + 1) y0 y1 y2))
  | 0 => fun _ _ _ r h => by simp [ostiarylaw6_kinds.l0] at h
  | k + 1 => by
    have ih0 := ostiarylaw6_kinds.mono_l k
    · intro y0 y1 y2
      unfold ostiarylaw6_kinds.l0
      repeat' first
      | (with_reducible exact ih0 _ _ _)
      | (with_reducible exact LeO.refl _)
      | (with_reducible exact LeO.none _)
      | (with_reducible refine LeO.ite ?_ ?_)
      | (with_reducible refine LeO.bind ?_ (fun _ => ?_))
      | exact ih0 _ _ _
      | exact LeO.none _
      | refine LeO.ite ?_ ?_
      | refine LeO.bind ?_ (fun _ => ?_)
theorem ostiarylaw6_kinds.mono : ∀ a0 k, LeO (ostiarylaw6_kinds.f k a0) (ostiarylaw6_kinds.f (k + 1) a0) := by
  intro a0 k
  have ih0 := ostiarylaw6_kinds.mono_l k
  unfold ostiarylaw6_kinds.f
  repeat' first
      | (with_reducible exact ih0 _ _ _)
      | (with_reducible exact LeO.refl _)
      | (with_reducible exact LeO.none _)
      | (with_reducible refine LeO.ite ?_ ?_)
      | (with_reducible refine LeO.bind ?_ (fun _ => ?_))
      | exact ih0 _ _ _
      | exact LeO.none _
      | refine LeO.ite ?_ ?_
      | refine LeO.bind ?_ (fun _ => ?_)
set_option maxHeartbeats 8000000 in
set_option maxRecDepth 100000 in
theorem ostiarylaw6_kinds.calls (k : Nat) (A0 : Option Addr) (c0 : Nat) (l0 : List ByteArray) (r : List (S55)) (w : World) (hr0 : Kd.C Kd.string w A0 l0.length l0) (hc0 : l0.length ≤ c0) (h : ostiarylaw6_kinds.f k l0 = some r) :
    Calls Tryz.prog 21 #[.slice A0 l0.length c0] w fun e w' => ∃ v0_ : Value, e = .returned (v0_) ∧ Kd.R k55 55 w' w.heap.size (fun _ => True) v0_ r ∧ Below w.heap.size w w' := by
  have hu55 := Tryz.underlying55
  have HR0 := Aside0.mk hr0
  have HC0 := Aside0.mk hc0
  clear hr0 hc0
  have HB := Aside0.mk (Below.refl w.heap.size w)
  have H : (ostiarylaw6_kinds.l0 k l0 ([] : List (S55)) 0) = some r := h
  clear h
  have H' := Aside0.mk H
  clear H
  go_enter Tryz.func21, Tryz.ntmps21
  go_wp2
  go_loopg [3, 4] k (fun kq v3 v4 w' => ∃ (x3_1 : List (S55)) (x4_1 : Int), v4 = .int .i64 x4_1 ∧ Aside0 (ostiarylaw6_kinds.l0 kq l0 x3_1 x4_1 = some r) ∧ Aside0 (kq ≤ k) ∧ Aside0 (Kd.R k55 55 w' w.heap.size (fun _ => True) v3 x3_1) ∧ Aside0 (Below w.heap.size w w'))
  case atStart => exact ⟨(([] : List (S55))), (0), (by first | rfl | (simp; done) | (simp [*]; done)), H', ⟨Nat.le_refl _⟩, ⟨by first | exact Kd.R_nil _ _ _ _ _ | exact Kd.N_nil _ _ _ _ _ | exact Kd.V_nil _ _ _ _ _ | exact Kd.Q_nil _ _ _ _ _ | exact Kd.S_nil _ _ _ _ _⟩, ⟨by repeat (first | (with_reducible first | exact HB.out | apply below_alloc | apply pw_below_drewN | apply below_drew1) | exact HB.out)⟩⟩
  case round =>
    clear H'
    obtain ⟨x3_1, x4_1, rfl, HA, HK1, HO_3, HB⟩ := hrel
    cases gk with
    | zero => exact absurd HA.out (by simp [ostiarylaw6_kinds.l0])
    | succ k1 =>
      have H := HA.out
      clear HA
      simp only [ostiarylaw6_kinds.l0] at H
      by_cases c2 : x4_1 < (l0.length : Int)
      · rw [if_pos c2] at H
        have c2b0 : decide (x4_1 < (l0.length : Int)) = true := decide_eq_true c2
        clear c2
        by_cases c3 : 0 ≤ x4_1
        · rw [if_pos c3] at H
          have c3b0 : decide (0 ≤ x4_1) = true := decide_eq_true c3
          clear c3
          by_cases c4 : x3_1.length < 4398046511104
          · rw [if_pos c4] at H
            have LMc4 := Aside0.mk c4
            clear c4
            obtain ⟨y102, hy102⟩ : ∃ y_ : List (S55), y_ = (x3_1 ++ [(⟨(⟨#[67, 111, 110, 116, 101, 110, 116, 45, 84, 121, 112, 101]⟩ : ByteArray), rdOf ByteArray.empty l0 x4_1⟩ : S55)]) := ⟨_, rfl⟩
            replace H : (ostiarylaw6_kinds.l0 k1 l0 y102 (wrap64 (x4_1 + 1))) = some r := by first | (rw [hy102]; with_reducible exact H) | (have H2_ := (Option.bind_some _ _).symm.trans H; rw [hy102]; with_reducible exact H2_) | (have H2_ := (Option.bind_some _ _).symm.trans H; with_reducible exact H2_) | with_reducible exact H | (rw [hy102]; exact H) | exact H
            have Ny102 := Aside0.mk hy102
            clear hy102
            have H' := Aside0.mk H
            clear H
            have p101 : 0 ≤ (x4_1 : Int) := of_decide_eq_true (by first | (with_reducible assumption) | assumption)
            have q101 : x4_1 < (l0.length : Int) := of_decide_eq_true (by first | (with_reducible assumption) | assumption)
            obtain ⟨ad101, e101, hx101_0⟩ := Kd.at_string HR0.out x4_1 p101 q101
            cases e101
            replace hx101_0 := (HB.out.cell (World.block_lt_of_cell? w _ hx101_0)).trans hx101_0
            replace p101 := eq_true p101
            replace q101 := eq_true q101
            go_wp2_with (first | ((with_reducible refine gate_builtin (b := .append) (xs := #[.tmp 11, .tmp 17]) rfl ?_); at_builtin; refine Kd.R_append k55 (w0 := w) w.heap.size rfl (.tmp 11) (.tmp 17) 38 55 (.agg #[(.string ⟨#[]⟩), (.string ⟨#[]⟩)]) 32 rfl Tryz.underlying38 info55 rfl (by decide) (by omega) u3 x3_1 (⟨(⟨#[67, 111, 110, 116, 101, 110, 116, 45, 84, 121, 112, 101]⟩ : ByteArray), rdOf ByteArray.empty l0 x4_1⟩ : S55) [.string (⟨#[67, 111, 110, 116, 101, 110, 116, 45, 84, 121, 112, 101]⟩ : ByteArray), .string (rdOf ByteArray.empty l0 x4_1)] (fun _ => True) (fun _ => False) rfl rfl ?aP (fun _ hk => hk.elim) ?aF ?aO ?aB ?aS ?aL ?_; (case aP => exact k55_mkM _ _ _ (⟨(⟨#[67, 111, 110, 116, 101, 110, 116, 45, 84, 121, 112, 101]⟩ : ByteArray), rdOf ByteArray.empty l0 x4_1⟩ : S55)); (case aB => exact (by repeat (first | (with_reducible first | exact HB.out | apply below_alloc | apply pw_below_drewN | apply below_drew1) | exact HB.out))); (case aF => exact (fun _ _ => trivial)); (case aO => exact (by (with_reducible repeat (first | apply Kd.R_alloc | apply Kd.R_drewN | apply Kd.R_drew)); exact HO_3.out)); (case aS => exact (below_size (by repeat (first | (with_reducible first | exact HB.out | apply below_alloc | apply pw_below_drewN | apply below_drew1) | exact HB.out)))); (case aL => have := LMc4.out; omega); intro v103 w5 ho hb hg hat; rw [← Ny102.out] at ho; have n0_ := Aside0.mk (hb); have n1_ := Aside0.mk (ho); clear HB; clear HO_3; have HB := n0_; have HO104 := n1_; clear n0_ n1_; clear ho hb hg hat))
            go_roundg k1
            case measure => have := HK1.out; omega
            case rel => exact ⟨(y102), (wrap64 (x4_1 + 1)), (by first | rfl | (simp; done) | (simp [*]; done)), H', ⟨by have := HK1.out; omega⟩, ⟨by (with_reducible repeat (first | apply Kd.R_alloc | apply Kd.R_drewN | apply Kd.R_drew)); exact HO104.out⟩, ⟨by repeat (first | (with_reducible first | exact HB.out | apply below_alloc | apply pw_below_drewN | apply below_drew1) | exact HB.out)⟩⟩
          · rw [if_neg c4] at H
            exact absurd H (by simp)
        · rw [if_neg c3] at H
          exact absurd H (by simp)
      · rw [if_neg c2] at H
        have c2b0 : decide (x4_1 < (l0.length : Int)) = false := decide_eq_false c2
        clear c2
        obtain rfl := Option.some.inj H
        go_wp2
        go_ret
        exact ⟨_, by first | rfl | (simp [errW_none, errW_some] <;> rfl) | (simp [*, errW_none, errW_some] <;> rfl), by (with_reducible repeat (first | apply Kd.R_alloc | apply Kd.R_drewN | apply Kd.R_drew)); exact HO_3.out, by repeat (first | (with_reducible first | exact HB.out | apply below_alloc | apply pw_below_drewN | apply below_drew1) | exact HB.out)⟩
end Go.Proofs.YteehjlciajhdoaaGreatDoor.X
namespace Go.Proofs.YteehjlciajhdoaaGreatDoor.X
open Go.RowKit Go.Proofs.YteehjlciajhdoaaGreatDoorW.PrintWords Go.Proofs.YteehjlciajhdoaaGreatDoorW.PrintLast Go.Proofs.YteehjlciajhdoaaGreatDoorW.PrintMore
attribute [local go_sem] max2_int min2_int max_two min_two max_three min_three max_four min_four
set_option linter.unusedVariables false
set_option linter.unusedSimpArgs false
def ostiarylaw6_text.f (a0 : ByteArray) : Option (ByteArray) := (mime_Parse.f a0).bind fun bt101 => (if bt101.2.2.2 = true then ((mime_Text.f bt101.1 bt101.2.1 bt101.2.2.1).bind fun t108 => (some t108)) else (some (⟨#[]⟩ : ByteArray)))
set_option maxHeartbeats 8000000 in
set_option maxRecDepth 100000 in
theorem ostiarylaw6_text.calls (a0 : ByteArray) (r : ByteArray) (w : World) (h : ostiarylaw6_text.f a0 = some r) :
    Calls Tryz.prog 33 #[.string a0] w fun e w' => e = .returned (.string r) ∧ Below w.heap.size w w' := by
  have hu24 := Tryz.underlying24
  have HB := Aside0.mk (Below.refl w.heap.size w)
  have H : ((mime_Parse.f a0).bind fun bt101 => (if bt101.2.2.2 = true then ((mime_Text.f bt101.1 bt101.2.1 bt101.2.2.1).bind fun t108 => (some t108)) else (some (⟨#[]⟩ : ByteArray)))) = some r := h
  clear h
  replace H := Option.bind_eq_some_iff.mp H
  obtain ⟨⟨t101, t102, t103, t106⟩, A20, H⟩ := H
  replace H : (if t106 = true then ((mime_Text.f t101 t102 t103).bind fun t108 => (some t108)) else (some (⟨#[]⟩ : ByteArray))) = some r := H
  have A2 := Aside0.mk A20
  clear A20
  by_cases c3 : t106 = true
  · subst c3
    have H1 : ((mime_Text.f t101 t102 t103).bind fun t108 => (some t108)) = some r := by rw [if_pos rfl] at H; exact H
    clear H
    have H := H1
    clear H1
    replace H := Option.bind_eq_some_iff.mp H
    obtain ⟨t108, A40, H⟩ := H
    replace H : (some t108) = some r := H
    have A4 := Aside0.mk A40
    clear A40
    obtain rfl := Option.some.inj H
    go_enter Tryz.func33, Tryz.ntmps33
    go_wp2_with (first | ((with_reducible refine gate_callee (f := 15) rfl ?_); refine goesL_ (some 7) rfl rfl Tryz.func15 (by kernel_rfl) rfl #[.string a0] rfl (by (try simp only [List.map_toArray, List.map_cons, List.map_nil]); first | done | rfl | (simp only [List.length_drop, List.length_take]; rfl)) ?_; (with_reducible refine (mime_Parse.calls a0 t101 t102 t103 true _ A2.out).mono ?_); rintro e w5 ⟨v104, rfl, ho0, hb⟩; refine ⟨_, rfl, ?_⟩; have n0_ := Aside0.mk (Kd.R_lower ho0 (below_size (by repeat (first | (with_reducible first | exact HB.out | apply below_alloc | apply pw_below_drewN | apply below_drew1) | exact HB.out)))); have n1_ := Aside0.mk (below_step (by repeat (first | (with_reducible first | exact HB.out | apply below_alloc | apply pw_below_drewN | apply below_drew1) | exact HB.out)) hb); clear HB; have HO105 := n0_; have HB := n1_; clear n0_ n1_; (try clear hb); (try clear hb2); (try clear hk); (try clear hi); (try clear ho0)) | ((with_reducible refine gate_dst (N := 3) rfl ?_); refine box_event ?hg (N := 3) ?hd (cs := #[.string (⟨#[]⟩ : ByteArray), .string (⟨#[]⟩ : ByteArray), .slice none 0 0]) (t := 24) ?hr ?_; (case hd => rfl); (case hg => rfl); (case hr => first | (go_simp; done) | (go_simp; rfl)); intro gb107 hg w6 hbox hb; have n0_ := Aside0.mk (Kd.R_below (by (with_reducible repeat (first | apply Kd.R_alloc | apply Kd.R_drewN | apply Kd.R_drew)); exact HO105.out) hb); have n1_ := Aside0.mk (below_step (by repeat (first | (with_reducible first | exact HB.out | apply below_alloc | apply pw_below_drewN | apply below_drew1) | exact HB.out)) hb); have n2_ := Aside0.mk (hbox); have n3_ := Aside0.mk ((by rw [hg]; exact (below_size (by repeat (first | (with_reducible first | exact HB.out | apply below_alloc | apply pw_below_drewN | apply below_drew1) | exact HB.out))) : w.heap.size ≤ gb107)); have n4_ := Aside0.mk ((by rw [hg]; exact (below_size (by repeat (first | (with_reducible first | exact HB.out | apply below_alloc | apply pw_below_drewN | apply below_drew1) | exact HB.out))) : w.heap.size ≤ gb107)); clear HO105; clear HB; have HO105 := n0_; have HB := n1_; have BK107 := n2_; have GW107 := n3_; have GE107 := n4_; clear n0_ n1_ n2_ n3_ n4_; clear hb hbox hg; have hcz7_0 : w6.cell? ⟨gb107, 0, none⟩ = some (.string (⟨#[]⟩ : ByteArray)) := (blk_cell BK107.out 0).trans rfl; have hcz7_1 : w6.cell? ⟨gb107, 1, none⟩ = some (.string (⟨#[]⟩ : ByteArray)) := (blk_cell BK107.out 1).trans rfl; have hcz7_2 : w6.cell? ⟨gb107, 2, none⟩ = some (.slice none 0 0) := (blk_cell BK107.out 2).trans rfl; have hfz7_0 := blk_frozen BK107.out 0; have hfz7_1 := blk_frozen BK107.out 1; have hfz7_2 := blk_frozen BK107.out 2; obtain ⟨Ao8, co8, eo8⟩ := Kd.R_slice HO105.out; subst eo8) | ((with_reducible refine gate_callee (f := 18) rfl ?_); refine goesL_ (some 13) rfl rfl Tryz.func18 (by kernel_rfl) rfl #[.agg #[.string t101, .string t102, .slice Ao8 t103.length co8]] rfl (by (try simp only [List.map_toArray, List.map_cons, List.map_nil]); first | done | rfl | (simp only [List.length_drop, List.length_take]; rfl)) ?_; (with_reducible refine (mime_Text.calls t101 t102 _ _ t103 t108 _ ?side1 ?side2 A4.out).mono ?_); (case side1 => refine (Kd.R_reads' (e := 32) (base := w.heap.size) (ok := fun k_ => True) (n := t103.length) (c := co8) ?_).2.2; exact (by (with_reducible repeat (first | apply Kd.R_alloc | apply Kd.R_drewN | apply Kd.R_drew)); exact (Kd.R_mono (Kd.R_far (p := ⟨gb107, 2, none⟩) (Kd.R_far (p := ⟨gb107, 1, none⟩) (Kd.R_far (p := ⟨gb107, 0, none⟩) (Kd.R_types HO105.out BK107.out (by decide)) (fun _ hk => hk.2) (.string t101)) (fun _ hk => hk.2) (.string t102)) (fun _ hk => hk.2) (.slice Ao8 t103.length co8)) (fun _ h_ => h_.1)))); (case side2 => exact (Kd.R_reads' HO105.out).2.1); rintro e w9 ⟨rfl, hb⟩; refine ⟨_, rfl, ?_⟩; have n0_ := Aside0.mk (Kd.R_below (by (with_reducible repeat (first | apply Kd.R_alloc | apply Kd.R_drewN | apply Kd.R_drew)); exact (Kd.R_mono (Kd.R_far (p := ⟨gb107, 2, none⟩) (Kd.R_far (p := ⟨gb107, 1, none⟩) (Kd.R_far (p := ⟨gb107, 0, none⟩) (Kd.R_types HO105.out BK107.out (by decide)) (fun _ hk => hk.2) (.string t101)) (fun _ hk => hk.2) (.string t102)) (fun _ hk => hk.2) (.slice Ao8 t103.length co8)) (fun _ h_ => h_.1))) hb); have n1_ := Aside0.mk (blk_below (g := gb107) (o := .cells #[.string t101, .string t102, .slice Ao8 t103.length co8] 24 (0, 0)) (by (with_reducible repeat (first | refine blk_drewN ?_ _ | refine blk_drew ?_ | refine blk_alloc ?_ _)); refine blk_put (cs := #[.string t101, .string t102, .slice none 0 0]) ?_ 2 _ rfl; (with_reducible repeat (first | refine blk_drewN ?_ _ | refine blk_drew ?_ | refine blk_alloc ?_ _)); refine blk_put (cs := #[.string t101, .string (⟨#[]⟩ : ByteArray), .slice none 0 0]) ?_ 1 _ rfl; (with_reducible repeat (first | refine blk_drewN ?_ _ | refine blk_drew ?_ | refine blk_alloc ?_ _)); refine blk_put (cs := #[.string (⟨#[]⟩ : ByteArray), .string (⟨#[]⟩ : ByteArray), .slice none 0 0]) ?_ 0 _ rfl; (with_reducible repeat (first | refine blk_drewN ?_ _ | refine blk_drew ?_ | refine blk_alloc ?_ _)); exact BK107.out) hb); have n2_ := Aside0.mk (below_step (by repeat (first | (with_reducible first | exact HB.out | apply below_alloc | apply pw_below_drewN | apply below_drew1 | refine below_set ?_ GE107.out) | exact HB.out)) hb); clear HO105; clear BK107; clear HB; have HO105 := n0_; have BK107 := n1_; have HB := n2_; clear n0_ n1_ n2_; (try clear hb); (try clear hb2); (try clear hk); (try clear hi)))
    go_ret
    exact ⟨by first | rfl | (simp [errW_none, errW_some] <;> rfl) | (simp [*, errW_none, errW_some] <;> rfl), by repeat (first | (with_reducible first | exact HB.out | apply below_alloc | apply pw_below_drewN | apply below_drew1 | refine below_set ?_ GE107.out) | exact HB.out)⟩
  · replace c3 := Bool.eq_false_iff.mpr c3
    subst c3
    have H1 : (some (⟨#[]⟩ : ByteArray)) = some r := by rw [if_neg (show ¬ (false = true) by decide)] at H; exact H
    clear H
    have H := H1
    clear H1
    obtain rfl := Option.some.inj H
    go_enter Tryz.func33, Tryz.ntmps33
    go_wp2_with (first | ((with_reducible refine gate_callee (f := 15) rfl ?_); refine goesL_ (some 7) rfl rfl Tryz.func15 (by kernel_rfl) rfl #[.string a0] rfl (by (try simp only [List.map_toArray, List.map_cons, List.map_nil]); first | done | rfl | (simp only [List.length_drop, List.length_take]; rfl)) ?_; (with_reducible refine (mime_Parse.calls a0 t101 t102 t103 false _ A2.out).mono ?_); rintro e w10 ⟨v104, rfl, ho0, hb⟩; refine ⟨_, rfl, ?_⟩; have n0_ := Aside0.mk (Kd.R_lower ho0 (below_size (by repeat (first | (with_reducible first | exact HB.out | apply below_alloc | apply pw_below_drewN | apply below_drew1) | exact HB.out)))); have n1_ := Aside0.mk (below_step (by repeat (first | (with_reducible first | exact HB.out | apply below_alloc | apply pw_below_drewN | apply below_drew1) | exact HB.out)) hb); clear HB; have HO105 := n0_; have HB := n1_; clear n0_ n1_; (try clear hb); (try clear hb2); (try clear hk); (try clear hi); (try clear ho0)) | ((with_reducible refine gate_dst (N := 3) rfl ?_); refine box_event ?hg (N := 3) ?hd (cs := #[.string (⟨#[]⟩ : ByteArray), .string (⟨#[]⟩ : ByteArray), .slice none 0 0]) (t := 24) ?hr ?_; (case hd => rfl); (case hg => rfl); (case hr => first | (go_simp; done) | (go_simp; rfl)); intro gb107 hg w11 hbox hb; have n0_ := Aside0.mk (Kd.R_below (by (with_reducible repeat (first | apply Kd.R_alloc | apply Kd.R_drewN | apply Kd.R_drew)); exact HO105.out) hb); have n1_ := Aside0.mk (below_step (by repeat (first | (with_reducible first | exact HB.out | apply below_alloc | apply pw_below_drewN | apply below_drew1) | exact HB.out)) hb); have n2_ := Aside0.mk (hbox); have n3_ := Aside0.mk ((by rw [hg]; exact (below_size (by repeat (first | (with_reducible first | exact HB.out | apply below_alloc | apply pw_below_drewN | apply below_drew1) | exact HB.out))) : w.heap.size ≤ gb107)); have n4_ := Aside0.mk ((by rw [hg]; exact (below_size (by repeat (first | (with_reducible first | exact HB.out | apply below_alloc | apply pw_below_drewN | apply below_drew1) | exact HB.out))) : w.heap.size ≤ gb107)); clear HO105; clear HB; have HO105 := n0_; have HB := n1_; have BK107 := n2_; have GW107 := n3_; have GE107 := n4_; clear n0_ n1_ n2_ n3_ n4_; clear hb hbox hg; have hcz12_0 : w11.cell? ⟨gb107, 0, none⟩ = some (.string (⟨#[]⟩ : ByteArray)) := (blk_cell BK107.out 0).trans rfl; have hcz12_1 : w11.cell? ⟨gb107, 1, none⟩ = some (.string (⟨#[]⟩ : ByteArray)) := (blk_cell BK107.out 1).trans rfl; have hcz12_2 : w11.cell? ⟨gb107, 2, none⟩ = some (.slice none 0 0) := (blk_cell BK107.out 2).trans rfl; have hfz12_0 := blk_frozen BK107.out 0; have hfz12_1 := blk_frozen BK107.out 1; have hfz12_2 := blk_frozen BK107.out 2; obtain ⟨Ao13, co13, eo13⟩ := Kd.R_slice HO105.out; subst eo13))
    go_ret
    exact ⟨by first | rfl | (simp [errW_none, errW_some] <;> rfl) | (simp [*, errW_none, errW_some] <;> rfl), by repeat (first | (with_reducible first | exact HB.out | apply below_alloc | apply pw_below_drewN | apply below_drew1 | refine below_set ?_ GE107.out) | exact HB.out)⟩
end Go.Proofs.YteehjlciajhdoaaGreatDoor.X
namespace Go.Proofs.YteehjlciajhdoaaGreatDoor.X
open Go.RowKit Go.Proofs.YteehjlciajhdoaaGreatDoorW.PrintWords Go.Proofs.YteehjlciajhdoaaGreatDoorW.PrintLast Go.Proofs.YteehjlciajhdoaaGreatDoorW.PrintMore
attribute [local go_sem] max2_int min2_int max_two min_two max_three min_three max_four min_four
set_option linter.unusedVariables false
set_option linter.unusedSimpArgs false
def ostiarylaw6_known.f (k : Nat)  : Option (Bool) := (ostiarylaw6_kinds.f k (([(⟨#[116, 101, 120, 116, 47, 97, 59, 99, 104, 97, 114, 115, 101, 116, 61, 120]⟩ : ByteArray), (⟨#[116, 101, 120, 116, 47, 97]⟩ : ByteArray)] : List ByteArray))).bind fun t104 => ((mime_Extract.f k t104).bind fun bt107 => ((ostiarylaw6_text.f (⟨#[84, 101, 120, 116, 47, 72, 84, 77, 76, 32, 59, 32, 67, 104, 97, 114, 115, 101, 116, 61, 34, 97, 92, 34, 98, 34, 32, 59, 120]⟩ : ByteArray)).bind fun t114 => (if t114.toList = ([116, 101, 120, 116, 47, 104, 116, 109, 108, 59, 99, 104, 97, 114, 115, 101, 116, 61, 34, 97, 92, 34, 98, 34] : List UInt8) then (if bt107.2.2.2 = true then ((mime_Text.f bt107.1 bt107.2.1 bt107.2.2.1).bind fun t115 => (if t115.toList = ([116, 101, 120, 116, 47, 97, 59, 99, 104, 97, 114, 115, 101, 116, 61, 120] : List UInt8) then ((ostiarylaw6_text.f (⟨#[97, 47]⟩ : ByteArray)).bind fun t116 => (some (t116.toList == ([] : List UInt8)))) else (some false))) else (some false)) else (some false))))
theorem ostiarylaw6_known.mono : ∀ k, LeO (ostiarylaw6_known.f k ) (ostiarylaw6_known.f (k + 1) ) := by
  intro  k
  unfold ostiarylaw6_known.f
  repeat' first
      | (with_reducible exact mime_Extract.mono _ _)
      | (with_reducible exact ostiarylaw6_kinds.mono _ _)
      | (with_reducible exact LeO.refl _)
      | (with_reducible exact LeO.none _)
      | (with_reducible refine LeO.ite ?_ ?_)
      | (with_reducible refine LeO.bind ?_ (fun _ => ?_))
      | exact mime_Extract.mono _ _
      | exact ostiarylaw6_kinds.mono _ _
      | exact LeO.none _
      | refine LeO.ite ?_ ?_
      | refine LeO.bind ?_ (fun _ => ?_)
set_option maxHeartbeats 8000000 in
set_option maxRecDepth 100000 in
theorem ostiarylaw6_known.calls (k : Nat)  (r : Bool) (w : World) (h : ostiarylaw6_known.f k  = some r) :
    Calls Tryz.prog 17 #[] w fun e w' => e = .returned (.bool r) ∧ Below w.heap.size w w' := by
  have hu24 := Tryz.underlying24
  have HB := Aside0.mk (Below.refl w.heap.size w)
  have H : ((ostiarylaw6_kinds.f k (([(⟨#[116, 101, 120, 116, 47, 97, 59, 99, 104, 97, 114, 115, 101, 116, 61, 120]⟩ : ByteArray), (⟨#[116, 101, 120, 116, 47, 97]⟩ : ByteArray)] : List ByteArray))).bind fun t104 => ((mime_Extract.f k t104).bind fun bt107 => ((ostiarylaw6_text.f (⟨#[84, 101, 120, 116, 47, 72, 84, 77, 76, 32, 59, 32, 67, 104, 97, 114, 115, 101, 116, 61, 34, 97, 92, 34, 98, 34, 32, 59, 120]⟩ : ByteArray)).bind fun t114 => (if t114.toList = ([116, 101, 120, 116, 47, 104, 116, 109, 108, 59, 99, 104, 97, 114, 115, 101, 116, 61, 34, 97, 92, 34, 98, 34] : List UInt8) then (if bt107.2.2.2 = true then ((mime_Text.f bt107.1 bt107.2.1 bt107.2.2.1).bind fun t115 => (if t115.toList = ([116, 101, 120, 116, 47, 97, 59, 99, 104, 97, 114, 115, 101, 116, 61, 120] : List UInt8) then ((ostiarylaw6_text.f (⟨#[97, 47]⟩ : ByteArray)).bind fun t116 => (some (t116.toList == ([] : List UInt8)))) else (some false))) else (some false)) else (some false))))) = some r := h
  clear h
  obtain ⟨y101, hy101⟩ : ∃ y_ : List ByteArray, y_ = (([(⟨#[116, 101, 120, 116, 47, 97, 59, 99, 104, 97, 114, 115, 101, 116, 61, 120]⟩ : ByteArray), (⟨#[116, 101, 120, 116, 47, 97]⟩ : ByteArray)] : List ByteArray)) := ⟨_, rfl⟩
  replace H : ((ostiarylaw6_kinds.f k y101).bind fun t104 => ((mime_Extract.f k t104).bind fun bt107 => ((ostiarylaw6_text.f (⟨#[84, 101, 120, 116, 47, 72, 84, 77, 76, 32, 59, 32, 67, 104, 97, 114, 115, 101, 116, 61, 34, 97, 92, 34, 98, 34, 32, 59, 120]⟩ : ByteArray)).bind fun t114 => (if t114.toList = ([116, 101, 120, 116, 47, 104, 116, 109, 108, 59, 99, 104, 97, 114, 115, 101, 116, 61, 34, 97, 92, 34, 98, 34] : List UInt8) then (if bt107.2.2.2 = true then ((mime_Text.f bt107.1 bt107.2.1 bt107.2.2.1).bind fun t115 => (if t115.toList = ([116, 101, 120, 116, 47, 97, 59, 99, 104, 97, 114, 115, 101, 116, 61, 120] : List UInt8) then ((ostiarylaw6_text.f (⟨#[97, 47]⟩ : ByteArray)).bind fun t116 => (some (t116.toList == ([] : List UInt8)))) else (some false))) else (some false)) else (some false))))) = some r := by first | (rw [hy101]; with_reducible exact H) | (have H2_ := (Option.bind_some _ _).symm.trans H; rw [hy101]; with_reducible exact H2_) | (have H2_ := (Option.bind_some _ _).symm.trans H; with_reducible exact H2_) | with_reducible exact H | (rw [hy101]; exact H) | exact H
  have Ny101 := Aside0.mk hy101
  clear hy101
  replace H := Option.bind_eq_some_iff.mp H
  obtain ⟨t104, A10, H⟩ := H
  replace H : ((mime_Extract.f k t104).bind fun bt107 => ((ostiarylaw6_text.f (⟨#[84, 101, 120, 116, 47, 72, 84, 77, 76, 32, 59, 32, 67, 104, 97, 114, 115, 101, 116, 61, 34, 97, 92, 34, 98, 34, 32, 59, 120]⟩ : ByteArray)).bind fun t114 => (if t114.toList = ([116, 101, 120, 116, 47, 104, 116, 109, 108, 59, 99, 104, 97, 114, 115, 101, 116, 61, 34, 97, 92, 34, 98, 34] : List UInt8) then (if bt107.2.2.2 = true then ((mime_Text.f bt107.1 bt107.2.1 bt107.2.2.1).bind fun t115 => (if t115.toList = ([116, 101, 120, 116, 47, 97, 59, 99, 104, 97, 114, 115, 101, 116, 61, 120] : List UInt8) then ((ostiarylaw6_text.f (⟨#[97, 47]⟩ : ByteArray)).bind fun t116 => (some (t116.toList == ([] : List UInt8)))) else (some false))) else (some false)) else (some false)))) = some r := H
  have A1 := Aside0.mk A10
  clear A10
  replace H := Option.bind_eq_some_iff.mp H
  obtain ⟨⟨t107, t108, t109, t112⟩, A20, H⟩ := H
  replace H : ((ostiarylaw6_text.f (⟨#[84, 101, 120, 116, 47, 72, 84, 77, 76, 32, 59, 32, 67, 104, 97, 114, 115, 101, 116, 61, 34, 97, 92, 34, 98, 34, 32, 59, 120]⟩ : ByteArray)).bind fun t114 => (if t114.toList = ([116, 101, 120, 116, 47, 104, 116, 109, 108, 59, 99, 104, 97, 114, 115, 101, 116, 61, 34, 97, 92, 34, 98, 34] : List UInt8) then (if t112 = true then ((mime_Text.f t107 t108 t109).bind fun t115 => (if t115.toList = ([116, 101, 120, 116, 47, 97, 59, 99, 104, 97, 114, 115, 101, 116, 61, 120] : List UInt8) then ((ostiarylaw6_text.f (⟨#[97, 47]⟩ : ByteArray)).bind fun t116 => (some (t116.toList == ([] : List UInt8)))) else (some false))) else (some false)) else (some false))) = some r := H
  have A2 := Aside0.mk A20
  clear A20
  replace H := Option.bind_eq_some_iff.mp H
  obtain ⟨t114, A30, H⟩ := H
  replace H : (if t114.toList = ([116, 101, 120, 116, 47, 104, 116, 109, 108, 59, 99, 104, 97, 114, 115, 101, 116, 61, 34, 97, 92, 34, 98, 34] : List UInt8) then (if t112 = true then ((mime_Text.f t107 t108 t109).bind fun t115 => (if t115.toList = ([116, 101, 120, 116, 47, 97, 59, 99, 104, 97, 114, 115, 101, 116, 61, 120] : List UInt8) then ((ostiarylaw6_text.f (⟨#[97, 47]⟩ : ByteArray)).bind fun t116 => (some (t116.toList == ([] : List UInt8)))) else (some false))) else (some false)) else (some false)) = some r := H
  have A3 := Aside0.mk A30
  clear A30
  by_cases c4 : t114.toList = ([116, 101, 120, 116, 47, 104, 116, 109, 108, 59, 99, 104, 97, 114, 115, 101, 116, 61, 34, 97, 92, 34, 98, 34] : List UInt8)
  · rw [if_pos c4] at H
    have c4b0 : (t114.toList == ([116, 101, 120, 116, 47, 104, 116, 109, 108, 59, 99, 104, 97, 114, 115, 101, 116, 61, 34, 97, 92, 34, 98, 34] : List UInt8)) = true := beq_iff_eq.mpr c4
    have c4b1 : (t114.toList != ([116, 101, 120, 116, 47, 104, 116, 109, 108, 59, 99, 104, 97, 114, 115, 101, 116, 61, 34, 97, 92, 34, 98, 34] : List UInt8)) = false := bne_eq_false_iff_eq.mpr c4
    clear c4
    by_cases c5 : t112 = true
    · subst c5
      have H1 : ((mime_Text.f t107 t108 t109).bind fun t115 => (if t115.toList = ([116, 101, 120, 116, 47, 97, 59, 99, 104, 97, 114, 115, 101, 116, 61, 120] : List UInt8) then ((ostiarylaw6_text.f (⟨#[97, 47]⟩ : ByteArray)).bind fun t116 => (some (t116.toList == ([] : List UInt8)))) else (some false))) = some r := by rw [if_pos rfl] at H; exact H
      clear H
      have H := H1
      clear H1
      replace H := Option.bind_eq_some_iff.mp H
      obtain ⟨t115, A60, H⟩ := H
      replace H : (if t115.toList = ([116, 101, 120, 116, 47, 97, 59, 99, 104, 97, 114, 115, 101, 116, 61, 120] : List UInt8) then ((ostiarylaw6_text.f (⟨#[97, 47]⟩ : ByteArray)).bind fun t116 => (some (t116.toList == ([] : List UInt8)))) else (some false)) = some r := H
      have A6 := Aside0.mk A60
      clear A60
      by_cases c7 : t115.toList = ([116, 101, 120, 116, 47, 97, 59, 99, 104, 97, 114, 115, 101, 116, 61, 120] : List UInt8)
      · rw [if_pos c7] at H
        have c7b0 : (t115.toList == ([116, 101, 120, 116, 47, 97, 59, 99, 104, 97, 114, 115, 101, 116, 61, 120] : List UInt8)) = true := beq_iff_eq.mpr c7
        have c7b1 : (t115.toList != ([116, 101, 120, 116, 47, 97, 59, 99, 104, 97, 114, 115, 101, 116, 61, 120] : List UInt8)) = false := bne_eq_false_iff_eq.mpr c7
        clear c7
        replace H := Option.bind_eq_some_iff.mp H
        obtain ⟨t116, A80, H⟩ := H
        replace H : (some (t116.toList == ([] : List UInt8))) = some r := H
        have A8 := Aside0.mk A80
        clear A80
        obtain rfl := Option.some.inj H
        go_enter Tryz.func17, Tryz.ntmps17
        go_wp2_with (first | ((with_reducible refine gate_dst (N := 4) rfl ?_); refine Kd.R_lit Kd.string _ 9 ?hg (N := 4) ?hd (xs := ([(⟨#[116, 101, 120, 116, 47, 97, 59, 99, 104, 97, 114, 115, 101, 116, 61, 120]⟩ : ByteArray), (⟨#[116, 101, 120, 116, 47, 97]⟩ : ByteArray)] : List ByteArray)) (inner := [.string (⟨#[116, 101, 120, 116, 47, 97, 59, 99, 104, 97, 114, 115, 101, 116, 61, 120]⟩ : ByteArray), .string (⟨#[116, 101, 120, 116, 47, 97]⟩ : ByteArray)]) (ok := fun _ => True) (okp := fun _ => True) ?hr ?hp (fun _ hk => hk) trivial (Below.refl _ _) (Nat.le_refl _) (by simp) ?_; (case hd => rfl); (case hg => rfl); (case hr => first | (go_simp; done) | (go_simp; rfl)); (case hp => exact (Reps.one (show Kd.M Kd.string _ _ _ (⟨#[116, 101, 120, 116, 47, 97, 59, 99, 104, 97, 114, 115, 101, 116, 61, 120]⟩ : ByteArray) [.string (⟨#[116, 101, 120, 116, 47, 97, 59, 99, 104, 97, 114, 115, 101, 116, 61, 120]⟩ : ByteArray)] from rfl) (Reps.one (show Kd.M Kd.string _ _ _ (⟨#[116, 101, 120, 116, 47, 97]⟩ : ByteArray) [.string (⟨#[116, 101, 120, 116, 47, 97]⟩ : ByteArray)] from rfl) (Reps.none _ _)))); intro v102 w9 ho10 hb hg_ hnew_; clear hg_ hnew_; (first | rw [← Ny101.out] at ho10 | (simp only [Int.reduceToNat] at ho10; rw [← Ny101.out] at ho10)); have n0_ := Aside0.mk (Kd.R_lower ho10 (below_size (by repeat (first | (with_reducible first | exact HB.out | apply below_alloc | apply pw_below_drewN | apply below_drew1) | exact HB.out)))); have n1_ := Aside0.mk (below_step (by repeat (first | (with_reducible first | exact HB.out | apply below_alloc | apply pw_below_drewN | apply below_drew1) | exact HB.out)) hb); clear HB; have HO103 := n0_; have HB := n1_; clear n0_ n1_; clear hb ho10; obtain ⟨Ao11, co11, eo11⟩ := Kd.R_slice HO103.out; subst eo11) | ((with_reducible refine gate_callee (f := 21) rfl ?_); refine goesL_ (some 5) rfl rfl Tryz.func21 (by kernel_rfl) rfl #[.slice Ao11 y101.length co11] rfl (by (try simp only [List.map_toArray, List.map_cons, List.map_nil]); first | done | rfl | (simp only [List.length_drop, List.length_take]; rfl)) ?_; (with_reducible refine (ostiarylaw6_kinds.calls k _ _ y101 t104 _ ?side1 ?side2 A1.out).mono ?_); (case side1 => repeat (first | exact (Kd.R_reads' HO103.out).2.2 | (with_reducible refine Kd.C_alloc ?_ _) | (with_reducible refine Kd.C_drewN ?_ _) | (with_reducible refine Kd.C_drew ?_))); (case side2 => exact (Kd.R_reads' HO103.out).2.1); rintro e w12 ⟨v105, rfl, ho0, hb⟩; refine ⟨_, rfl, ?_⟩; have n0_ := Aside0.mk (Kd.R_below (by (with_reducible repeat (first | apply Kd.R_alloc | apply Kd.R_drewN | apply Kd.R_drew)); exact HO103.out) hb); have n1_ := Aside0.mk (Kd.R_lower ho0 (below_size (by repeat (first | (with_reducible first | exact HB.out | apply below_alloc | apply pw_below_drewN | apply below_drew1) | exact HB.out)))); have n2_ := Aside0.mk (below_step (by repeat (first | (with_reducible first | exact HB.out | apply below_alloc | apply pw_below_drewN | apply below_drew1) | exact HB.out)) hb); clear HO103; clear HB; have HO103 := n0_; have HO106 := n1_; have HB := n2_; clear n0_ n1_ n2_; (try clear hb); (try clear hb2); (try clear hk); (try clear hi); (try clear ho0); obtain ⟨Ao13, co13, eo13⟩ := Kd.R_slice HO106.out; subst eo13) | ((with_reducible refine gate_callee (f := 20) rfl ?_); refine goesL_ (some 6) rfl rfl Tryz.func20 (by kernel_rfl) rfl #[.slice Ao13 t104.length co13] rfl (by (try simp only [List.map_toArray, List.map_cons, List.map_nil]); first | done | rfl | (simp only [List.length_drop, List.length_take]; rfl)) ?_; (with_reducible refine (mime_Extract.calls k _ _ t104 t107 t108 t109 true _ ?side1 ?side2 A2.out).mono ?_); (case side1 => repeat (first | exact (Kd.R_reads' HO106.out).2.2 | (with_reducible refine Kd.C_alloc ?_ _) | (with_reducible refine Kd.C_drewN ?_ _) | (with_reducible refine Kd.C_drew ?_))); (case side2 => exact (Kd.R_reads' HO106.out).2.1); rintro e w14 ⟨v110, rfl, ho0, hb⟩; refine ⟨_, rfl, ?_⟩; have n0_ := Aside0.mk (Kd.R_below (by (with_reducible repeat (first | apply Kd.R_alloc | apply Kd.R_drewN | apply Kd.R_drew)); exact HO103.out) hb); have n1_ := Aside0.mk (Kd.R_below (by (with_reducible repeat (first | apply Kd.R_alloc | apply Kd.R_drewN | apply Kd.R_drew)); exact HO106.out) hb); have n2_ := Aside0.mk (Kd.R_lower ho0 (below_size (by repeat (first | (with_reducible first | exact HB.out | apply below_alloc | apply pw_below_drewN | apply below_drew1) | exact HB.out)))); have n3_ := Aside0.mk (below_step (by repeat (first | (with_reducible first | exact HB.out | apply below_alloc | apply pw_below_drewN | apply below_drew1) | exact HB.out)) hb); clear HO103; clear HO106; clear HB; have HO103 := n0_; have HO106 := n1_; have HO111 := n2_; have HB := n3_; clear n0_ n1_ n2_ n3_; (try clear hb); (try clear hb2); (try clear hk); (try clear hi); (try clear ho0)) | ((with_reducible refine gate_dst (N := 1) rfl ?_); refine box_event ?hg (N := 1) ?hd (cs := #[.string (⟨#[]⟩ : ByteArray), .string (⟨#[]⟩ : ByteArray), .slice none 0 0]) (t := 24) ?hr ?_; (case hd => rfl); (case hg => rfl); (case hr => first | (go_simp; done) | (go_simp; rfl)); intro gb113 hg w15 hbox hb; have n0_ := Aside0.mk (Kd.R_below (by (with_reducible repeat (first | apply Kd.R_alloc | apply Kd.R_drewN | apply Kd.R_drew)); exact HO103.out) hb); have n1_ := Aside0.mk (Kd.R_below (by (with_reducible repeat (first | apply Kd.R_alloc | apply Kd.R_drewN | apply Kd.R_drew)); exact HO106.out) hb); have n2_ := Aside0.mk (Kd.R_below (by (with_reducible repeat (first | apply Kd.R_alloc | apply Kd.R_drewN | apply Kd.R_drew)); exact HO111.out) hb); have n3_ := Aside0.mk (below_step (by repeat (first | (with_reducible first | exact HB.out | apply below_alloc | apply pw_below_drewN | apply below_drew1) | exact HB.out)) hb); have n4_ := Aside0.mk (hbox); have n5_ := Aside0.mk ((by rw [hg]; exact (below_size (by repeat (first | (with_reducible first | exact HB.out | apply below_alloc | apply pw_below_drewN | apply below_drew1) | exact HB.out))) : w.heap.size ≤ gb113)); have n6_ := Aside0.mk ((by rw [hg]; exact (below_size (by repeat (first | (with_reducible first | exact HB.out | apply below_alloc | apply pw_below_drewN | apply below_drew1) | exact HB.out))) : w.heap.size ≤ gb113)); clear HO103; clear HO106; clear HO111; clear HB; have HO103 := n0_; have HO106 := n1_; have HO111 := n2_; have HB := n3_; have BK113 := n4_; have GW113 := n5_; have GE113 := n6_; clear n0_ n1_ n2_ n3_ n4_ n5_ n6_; clear hb hbox hg; have hcz16_0 : w15.cell? ⟨gb113, 0, none⟩ = some (.string (⟨#[]⟩ : ByteArray)) := (blk_cell BK113.out 0).trans rfl; have hcz16_1 : w15.cell? ⟨gb113, 1, none⟩ = some (.string (⟨#[]⟩ : ByteArray)) := (blk_cell BK113.out 1).trans rfl; have hcz16_2 : w15.cell? ⟨gb113, 2, none⟩ = some (.slice none 0 0) := (blk_cell BK113.out 2).trans rfl; have hfz16_0 := blk_frozen BK113.out 0; have hfz16_1 := blk_frozen BK113.out 1; have hfz16_2 := blk_frozen BK113.out 2; obtain ⟨Ao17, co17, eo17⟩ := Kd.R_slice HO111.out; subst eo17) | ((with_reducible refine gate_callee (f := 33) rfl ?_); refine goesL_ (some 9) rfl rfl Tryz.func33 (by kernel_rfl) rfl #[.string (⟨#[84, 101, 120, 116, 47, 72, 84, 77, 76, 32, 59, 32, 67, 104, 97, 114, 115, 101, 116, 61, 34, 97, 92, 34, 98, 34, 32, 59, 120]⟩ : ByteArray)] rfl (by (try simp only [List.map_toArray, List.map_cons, List.map_nil]); first | done | rfl | (simp only [List.length_drop, List.length_take]; rfl)) ?_; (with_reducible refine (ostiarylaw6_text.calls (⟨#[84, 101, 120, 116, 47, 72, 84, 77, 76, 32, 59, 32, 67, 104, 97, 114, 115, 101, 116, 61, 34, 97, 92, 34, 98, 34, 32, 59, 120]⟩ : ByteArray) t114 _ A3.out).mono ?_); rintro e w18 ⟨rfl, hb⟩; refine ⟨_, rfl, ?_⟩; have n0_ := Aside0.mk (Kd.R_below (by (with_reducible repeat (first | apply Kd.R_alloc | apply Kd.R_drewN | apply Kd.R_drew)); exact (Kd.R_mono (Kd.R_far (p := ⟨gb113, 2, none⟩) (Kd.R_far (p := ⟨gb113, 1, none⟩) (Kd.R_far (p := ⟨gb113, 0, none⟩) (Kd.R_types HO103.out BK113.out (by decide)) (fun _ hk => hk.2) (.string t107)) (fun _ hk => hk.2) (.string t108)) (fun _ hk => hk.2) (.slice Ao17 t109.length co17)) (fun _ h_ => h_.1))) hb); have n1_ := Aside0.mk (Kd.R_below (by (with_reducible repeat (first | apply Kd.R_alloc | apply Kd.R_drewN | apply Kd.R_drew)); exact (Kd.R_mono (Kd.R_far (p := ⟨gb113, 2, none⟩) (Kd.R_far (p := ⟨gb113, 1, none⟩) (Kd.R_far (p := ⟨gb113, 0, none⟩) (Kd.R_types HO106.out BK113.out (by decide)) (fun _ hk => hk.2) (.string t107)) (fun _ hk => hk.2) (.string t108)) (fun _ hk => hk.2) (.slice Ao17 t109.length co17)) (fun _ h_ => h_.1))) hb); have n2_ := Aside0.mk (Kd.R_below (by (with_reducible repeat (first | apply Kd.R_alloc | apply Kd.R_drewN | apply Kd.R_drew)); exact (Kd.R_mono (Kd.R_far (p := ⟨gb113, 2, none⟩) (Kd.R_far (p := ⟨gb113, 1, none⟩) (Kd.R_far (p := ⟨gb113, 0, none⟩) (Kd.R_types HO111.out BK113.out (by decide)) (fun _ hk => hk.2) (.string t107)) (fun _ hk => hk.2) (.string t108)) (fun _ hk => hk.2) (.slice Ao17 t109.length co17)) (fun _ h_ => h_.1))) hb); have n3_ := Aside0.mk (blk_below (g := gb113) (o := .cells #[.string t107, .string t108, .slice Ao17 t109.length co17] 24 (0, 0)) (by (with_reducible repeat (first | refine blk_drewN ?_ _ | refine blk_drew ?_ | refine blk_alloc ?_ _)); refine blk_put (cs := #[.string t107, .string t108, .slice none 0 0]) ?_ 2 _ rfl; (with_reducible repeat (first | refine blk_drewN ?_ _ | refine blk_drew ?_ | refine blk_alloc ?_ _)); refine blk_put (cs := #[.string t107, .string (⟨#[]⟩ : ByteArray), .slice none 0 0]) ?_ 1 _ rfl; (with_reducible repeat (first | refine blk_drewN ?_ _ | refine blk_drew ?_ | refine blk_alloc ?_ _)); refine blk_put (cs := #[.string (⟨#[]⟩ : ByteArray), .string (⟨#[]⟩ : ByteArray), .slice none 0 0]) ?_ 0 _ rfl; (with_reducible repeat (first | refine blk_drewN ?_ _ | refine blk_drew ?_ | refine blk_alloc ?_ _)); exact BK113.out) hb); have n4_ := Aside0.mk (below_step (by repeat (first | (with_reducible first | exact HB.out | apply below_alloc | apply pw_below_drewN | apply below_drew1 | refine below_set ?_ GE113.out) | exact HB.out)) hb); clear HO103; clear HO106; clear HO111; clear BK113; clear HB; have HO103 := n0_; have HO106 := n1_; have HO111 := n2_; have BK113 := n3_; have HB := n4_; clear n0_ n1_ n2_ n3_ n4_; (try clear hb); (try clear hb2); (try clear hk); (try clear hi); have hcz19_0 : w18.cell? ⟨gb113, 0, none⟩ = some (.string t107) := (blk_cell BK113.out 0).trans rfl; have hcz19_1 : w18.cell? ⟨gb113, 1, none⟩ = some (.string t108) := (blk_cell BK113.out 1).trans rfl; have hcz19_2 : w18.cell? ⟨gb113, 2, none⟩ = some (.slice Ao17 t109.length co17) := (blk_cell BK113.out 2).trans rfl; have hfz19_0 := blk_frozen BK113.out 0; have hfz19_1 := blk_frozen BK113.out 1; have hfz19_2 := blk_frozen BK113.out 2) | (go_at_call 18; (with_reducible refine (mime_Text.calls t107 t108 _ _ t109 t115 _ ?side1 ?side2 A6.out).mono ?_); (case side1 => repeat (first | exact (Kd.R_reads' HO111.out).2.2 | (with_reducible refine Kd.C_alloc ?_ _) | (with_reducible refine Kd.C_drewN ?_ _) | (with_reducible refine Kd.C_drew ?_))); (case side2 => exact (Kd.R_reads' HO111.out).2.1); rintro e w20 ⟨rfl, hb⟩; have n0_ := Aside0.mk (Kd.R_below (by (with_reducible repeat (first | apply Kd.R_alloc | apply Kd.R_drewN | apply Kd.R_drew)); exact HO103.out) hb); have n1_ := Aside0.mk (Kd.R_below (by (with_reducible repeat (first | apply Kd.R_alloc | apply Kd.R_drewN | apply Kd.R_drew)); exact HO106.out) hb); have n2_ := Aside0.mk (Kd.R_below (by (with_reducible repeat (first | apply Kd.R_alloc | apply Kd.R_drewN | apply Kd.R_drew)); exact HO111.out) hb); have n3_ := Aside0.mk (blk_below (g := gb113) (o := .cells #[.string t107, .string t108, .slice Ao17 t109.length co17] 24 (0, 0)) (by (with_reducible repeat (first | refine blk_drewN ?_ _ | refine blk_drew ?_ | refine blk_alloc ?_ _)); exact BK113.out) hb); have n4_ := Aside0.mk (below_step (by repeat (first | (with_reducible first | exact HB.out | apply below_alloc | apply pw_below_drewN | apply below_drew1 | refine below_set ?_ GE113.out) | exact HB.out)) hb); clear HO103; clear HO106; clear HO111; clear BK113; clear HB; have HO103 := n0_; have HO106 := n1_; have HO111 := n2_; have BK113 := n3_; have HB := n4_; clear n0_ n1_ n2_ n3_ n4_; (try clear hb); (try clear hb2); (try clear hk); (try clear hi)) | (go_at_call 33; (with_reducible refine (ostiarylaw6_text.calls (⟨#[97, 47]⟩ : ByteArray) t116 _ A8.out).mono ?_); rintro e w21 ⟨rfl, hb⟩; have n0_ := Aside0.mk (Kd.R_below (by (with_reducible repeat (first | apply Kd.R_alloc | apply Kd.R_drewN | apply Kd.R_drew)); exact HO103.out) hb); have n1_ := Aside0.mk (Kd.R_below (by (with_reducible repeat (first | apply Kd.R_alloc | apply Kd.R_drewN | apply Kd.R_drew)); exact HO106.out) hb); have n2_ := Aside0.mk (Kd.R_below (by (with_reducible repeat (first | apply Kd.R_alloc | apply Kd.R_drewN | apply Kd.R_drew)); exact HO111.out) hb); have n3_ := Aside0.mk (blk_below (g := gb113) (o := .cells #[.string t107, .string t108, .slice Ao17 t109.length co17] 24 (0, 0)) (by (with_reducible repeat (first | refine blk_drewN ?_ _ | refine blk_drew ?_ | refine blk_alloc ?_ _)); exact BK113.out) hb); have n4_ := Aside0.mk (below_step (by repeat (first | (with_reducible first | exact HB.out | apply below_alloc | apply pw_below_drewN | apply below_drew1 | refine below_set ?_ GE113.out) | exact HB.out)) hb); clear HO103; clear HO106; clear HO111; clear BK113; clear HB; have HO103 := n0_; have HO106 := n1_; have HO111 := n2_; have BK113 := n3_; have HB := n4_; clear n0_ n1_ n2_ n3_ n4_; (try clear hb); (try clear hb2); (try clear hk); (try clear hi)))
        go_ret
        exact ⟨by first | rfl | (simp [errW_none, errW_some] <;> rfl) | (simp [*, errW_none, errW_some] <;> rfl), by repeat (first | (with_reducible first | exact HB.out | apply below_alloc | apply pw_below_drewN | apply below_drew1 | refine below_set ?_ GE113.out) | exact HB.out)⟩
      · rw [if_neg c7] at H
        have c7b0 : (t115.toList == ([116, 101, 120, 116, 47, 97, 59, 99, 104, 97, 114, 115, 101, 116, 61, 120] : List UInt8)) = false := beq_eq_false_iff_ne.mpr c7
        have c7b1 : (t115.toList != ([116, 101, 120, 116, 47, 97, 59, 99, 104, 97, 114, 115, 101, 116, 61, 120] : List UInt8)) = true := bne_iff_ne.mpr c7
        obtain rfl := Option.some.inj H
        go_enter Tryz.func17, Tryz.ntmps17
        go_wp2_with (first | ((with_reducible refine gate_dst (N := 4) rfl ?_); refine Kd.R_lit Kd.string _ 9 ?hg (N := 4) ?hd (xs := ([(⟨#[116, 101, 120, 116, 47, 97, 59, 99, 104, 97, 114, 115, 101, 116, 61, 120]⟩ : ByteArray), (⟨#[116, 101, 120, 116, 47, 97]⟩ : ByteArray)] : List ByteArray)) (inner := [.string (⟨#[116, 101, 120, 116, 47, 97, 59, 99, 104, 97, 114, 115, 101, 116, 61, 120]⟩ : ByteArray), .string (⟨#[116, 101, 120, 116, 47, 97]⟩ : ByteArray)]) (ok := fun _ => True) (okp := fun _ => True) ?hr ?hp (fun _ hk => hk) trivial (Below.refl _ _) (Nat.le_refl _) (by simp) ?_; (case hd => rfl); (case hg => rfl); (case hr => first | (go_simp; done) | (go_simp; rfl)); (case hp => exact (Reps.one (show Kd.M Kd.string _ _ _ (⟨#[116, 101, 120, 116, 47, 97, 59, 99, 104, 97, 114, 115, 101, 116, 61, 120]⟩ : ByteArray) [.string (⟨#[116, 101, 120, 116, 47, 97, 59, 99, 104, 97, 114, 115, 101, 116, 61, 120]⟩ : ByteArray)] from rfl) (Reps.one (show Kd.M Kd.string _ _ _ (⟨#[116, 101, 120, 116, 47, 97]⟩ : ByteArray) [.string (⟨#[116, 101, 120, 116, 47, 97]⟩ : ByteArray)] from rfl) (Reps.none _ _)))); intro v102 w22 ho23 hb hg_ hnew_; clear hg_ hnew_; (first | rw [← Ny101.out] at ho23 | (simp only [Int.reduceToNat] at ho23; rw [← Ny101.out] at ho23)); have n0_ := Aside0.mk (Kd.R_lower ho23 (below_size (by repeat (first | (with_reducible first | exact HB.out | apply below_alloc | apply pw_below_drewN | apply below_drew1) | exact HB.out)))); have n1_ := Aside0.mk (below_step (by repeat (first | (with_reducible first | exact HB.out | apply below_alloc | apply pw_below_drewN | apply below_drew1) | exact HB.out)) hb); clear HB; have HO103 := n0_; have HB := n1_; clear n0_ n1_; clear hb ho23; obtain ⟨Ao24, co24, eo24⟩ := Kd.R_slice HO103.out; subst eo24) | ((with_reducible refine gate_callee (f := 21) rfl ?_); refine goesL_ (some 5) rfl rfl Tryz.func21 (by kernel_rfl) rfl #[.slice Ao24 y101.length co24] rfl (by (try simp only [List.map_toArray, List.map_cons, List.map_nil]); first | done | rfl | (simp only [List.length_drop, List.length_take]; rfl)) ?_; (with_reducible refine (ostiarylaw6_kinds.calls k _ _ y101 t104 _ ?side1 ?side2 A1.out).mono ?_); (case side1 => repeat (first | exact (Kd.R_reads' HO103.out).2.2 | (with_reducible refine Kd.C_alloc ?_ _) | (with_reducible refine Kd.C_drewN ?_ _) | (with_reducible refine Kd.C_drew ?_))); (case side2 => exact (Kd.R_reads' HO103.out).2.1); rintro e w25 ⟨v105, rfl, ho0, hb⟩; refine ⟨_, rfl, ?_⟩; have n0_ := Aside0.mk (Kd.R_below (by (with_reducible repeat (first | apply Kd.R_alloc | apply Kd.R_drewN | apply Kd.R_drew)); exact HO103.out) hb); have n1_ := Aside0.mk (Kd.R_lower ho0 (below_size (by repeat (first | (with_reducible first | exact HB.out | apply below_alloc | apply pw_below_drewN | apply below_drew1) | exact HB.out)))); have n2_ := Aside0.mk (below_step (by repeat (first | (with_reducible first | exact HB.out | apply below_alloc | apply pw_below_drewN | apply below_drew1) | exact HB.out)) hb); clear HO103; clear HB; have HO103 := n0_; have HO106 := n1_; have HB := n2_; clear n0_ n1_ n2_; (try clear hb); (try clear hb2); (try clear hk); (try clear hi); (try clear ho0); obtain ⟨Ao26, co26, eo26⟩ := Kd.R_slice HO106.out; subst eo26) | ((with_reducible refine gate_callee (f := 20) rfl ?_); refine goesL_ (some 6) rfl rfl Tryz.func20 (by kernel_rfl) rfl #[.slice Ao26 t104.length co26] rfl (by (try simp only [List.map_toArray, List.map_cons, List.map_nil]); first | done | rfl | (simp only [List.length_drop, List.length_take]; rfl)) ?_; (with_reducible refine (mime_Extract.calls k _ _ t104 t107 t108 t109 true _ ?side1 ?side2 A2.out).mono ?_); (case side1 => repeat (first | exact (Kd.R_reads' HO106.out).2.2 | (with_reducible refine Kd.C_alloc ?_ _) | (with_reducible refine Kd.C_drewN ?_ _) | (with_reducible refine Kd.C_drew ?_))); (case side2 => exact (Kd.R_reads' HO106.out).2.1); rintro e w27 ⟨v110, rfl, ho0, hb⟩; refine ⟨_, rfl, ?_⟩; have n0_ := Aside0.mk (Kd.R_below (by (with_reducible repeat (first | apply Kd.R_alloc | apply Kd.R_drewN | apply Kd.R_drew)); exact HO103.out) hb); have n1_ := Aside0.mk (Kd.R_below (by (with_reducible repeat (first | apply Kd.R_alloc | apply Kd.R_drewN | apply Kd.R_drew)); exact HO106.out) hb); have n2_ := Aside0.mk (Kd.R_lower ho0 (below_size (by repeat (first | (with_reducible first | exact HB.out | apply below_alloc | apply pw_below_drewN | apply below_drew1) | exact HB.out)))); have n3_ := Aside0.mk (below_step (by repeat (first | (with_reducible first | exact HB.out | apply below_alloc | apply pw_below_drewN | apply below_drew1) | exact HB.out)) hb); clear HO103; clear HO106; clear HB; have HO103 := n0_; have HO106 := n1_; have HO111 := n2_; have HB := n3_; clear n0_ n1_ n2_ n3_; (try clear hb); (try clear hb2); (try clear hk); (try clear hi); (try clear ho0)) | ((with_reducible refine gate_dst (N := 1) rfl ?_); refine box_event ?hg (N := 1) ?hd (cs := #[.string (⟨#[]⟩ : ByteArray), .string (⟨#[]⟩ : ByteArray), .slice none 0 0]) (t := 24) ?hr ?_; (case hd => rfl); (case hg => rfl); (case hr => first | (go_simp; done) | (go_simp; rfl)); intro gb113 hg w28 hbox hb; have n0_ := Aside0.mk (Kd.R_below (by (with_reducible repeat (first | apply Kd.R_alloc | apply Kd.R_drewN | apply Kd.R_drew)); exact HO103.out) hb); have n1_ := Aside0.mk (Kd.R_below (by (with_reducible repeat (first | apply Kd.R_alloc | apply Kd.R_drewN | apply Kd.R_drew)); exact HO106.out) hb); have n2_ := Aside0.mk (Kd.R_below (by (with_reducible repeat (first | apply Kd.R_alloc | apply Kd.R_drewN | apply Kd.R_drew)); exact HO111.out) hb); have n3_ := Aside0.mk (below_step (by repeat (first | (with_reducible first | exact HB.out | apply below_alloc | apply pw_below_drewN | apply below_drew1) | exact HB.out)) hb); have n4_ := Aside0.mk (hbox); have n5_ := Aside0.mk ((by rw [hg]; exact (below_size (by repeat (first | (with_reducible first | exact HB.out | apply below_alloc | apply pw_below_drewN | apply below_drew1) | exact HB.out))) : w.heap.size ≤ gb113)); have n6_ := Aside0.mk ((by rw [hg]; exact (below_size (by repeat (first | (with_reducible first | exact HB.out | apply below_alloc | apply pw_below_drewN | apply below_drew1) | exact HB.out))) : w.heap.size ≤ gb113)); clear HO103; clear HO106; clear HO111; clear HB; have HO103 := n0_; have HO106 := n1_; have HO111 := n2_; have HB := n3_; have BK113 := n4_; have GW113 := n5_; have GE113 := n6_; clear n0_ n1_ n2_ n3_ n4_ n5_ n6_; clear hb hbox hg; have hcz29_0 : w28.cell? ⟨gb113, 0, none⟩ = some (.string (⟨#[]⟩ : ByteArray)) := (blk_cell BK113.out 0).trans rfl; have hcz29_1 : w28.cell? ⟨gb113, 1, none⟩ = some (.string (⟨#[]⟩ : ByteArray)) := (blk_cell BK113.out 1).trans rfl; have hcz29_2 : w28.cell? ⟨gb113, 2, none⟩ = some (.slice none 0 0) := (blk_cell BK113.out 2).trans rfl; have hfz29_0 := blk_frozen BK113.out 0; have hfz29_1 := blk_frozen BK113.out 1; have hfz29_2 := blk_frozen BK113.out 2; obtain ⟨Ao30, co30, eo30⟩ := Kd.R_slice HO111.out; subst eo30) | ((with_reducible refine gate_callee (f := 33) rfl ?_); refine goesL_ (some 9) rfl rfl Tryz.func33 (by kernel_rfl) rfl #[.string (⟨#[84, 101, 120, 116, 47, 72, 84, 77, 76, 32, 59, 32, 67, 104, 97, 114, 115, 101, 116, 61, 34, 97, 92, 34, 98, 34, 32, 59, 120]⟩ : ByteArray)] rfl (by (try simp only [List.map_toArray, List.map_cons, List.map_nil]); first | done | rfl | (simp only [List.length_drop, List.length_take]; rfl)) ?_; (with_reducible refine (ostiarylaw6_text.calls (⟨#[84, 101, 120, 116, 47, 72, 84, 77, 76, 32, 59, 32, 67, 104, 97, 114, 115, 101, 116, 61, 34, 97, 92, 34, 98, 34, 32, 59, 120]⟩ : ByteArray) t114 _ A3.out).mono ?_); rintro e w31 ⟨rfl, hb⟩; refine ⟨_, rfl, ?_⟩; have n0_ := Aside0.mk (Kd.R_below (by (with_reducible repeat (first | apply Kd.R_alloc | apply Kd.R_drewN | apply Kd.R_drew)); exact (Kd.R_mono (Kd.R_far (p := ⟨gb113, 2, none⟩) (Kd.R_far (p := ⟨gb113, 1, none⟩) (Kd.R_far (p := ⟨gb113, 0, none⟩) (Kd.R_types HO103.out BK113.out (by decide)) (fun _ hk => hk.2) (.string t107)) (fun _ hk => hk.2) (.string t108)) (fun _ hk => hk.2) (.slice Ao30 t109.length co30)) (fun _ h_ => h_.1))) hb); have n1_ := Aside0.mk (Kd.R_below (by (with_reducible repeat (first | apply Kd.R_alloc | apply Kd.R_drewN | apply Kd.R_drew)); exact (Kd.R_mono (Kd.R_far (p := ⟨gb113, 2, none⟩) (Kd.R_far (p := ⟨gb113, 1, none⟩) (Kd.R_far (p := ⟨gb113, 0, none⟩) (Kd.R_types HO106.out BK113.out (by decide)) (fun _ hk => hk.2) (.string t107)) (fun _ hk => hk.2) (.string t108)) (fun _ hk => hk.2) (.slice Ao30 t109.length co30)) (fun _ h_ => h_.1))) hb); have n2_ := Aside0.mk (Kd.R_below (by (with_reducible repeat (first | apply Kd.R_alloc | apply Kd.R_drewN | apply Kd.R_drew)); exact (Kd.R_mono (Kd.R_far (p := ⟨gb113, 2, none⟩) (Kd.R_far (p := ⟨gb113, 1, none⟩) (Kd.R_far (p := ⟨gb113, 0, none⟩) (Kd.R_types HO111.out BK113.out (by decide)) (fun _ hk => hk.2) (.string t107)) (fun _ hk => hk.2) (.string t108)) (fun _ hk => hk.2) (.slice Ao30 t109.length co30)) (fun _ h_ => h_.1))) hb); have n3_ := Aside0.mk (blk_below (g := gb113) (o := .cells #[.string t107, .string t108, .slice Ao30 t109.length co30] 24 (0, 0)) (by (with_reducible repeat (first | refine blk_drewN ?_ _ | refine blk_drew ?_ | refine blk_alloc ?_ _)); refine blk_put (cs := #[.string t107, .string t108, .slice none 0 0]) ?_ 2 _ rfl; (with_reducible repeat (first | refine blk_drewN ?_ _ | refine blk_drew ?_ | refine blk_alloc ?_ _)); refine blk_put (cs := #[.string t107, .string (⟨#[]⟩ : ByteArray), .slice none 0 0]) ?_ 1 _ rfl; (with_reducible repeat (first | refine blk_drewN ?_ _ | refine blk_drew ?_ | refine blk_alloc ?_ _)); refine blk_put (cs := #[.string (⟨#[]⟩ : ByteArray), .string (⟨#[]⟩ : ByteArray), .slice none 0 0]) ?_ 0 _ rfl; (with_reducible repeat (first | refine blk_drewN ?_ _ | refine blk_drew ?_ | refine blk_alloc ?_ _)); exact BK113.out) hb); have n4_ := Aside0.mk (below_step (by repeat (first | (with_reducible first | exact HB.out | apply below_alloc | apply pw_below_drewN | apply below_drew1 | refine below_set ?_ GE113.out) | exact HB.out)) hb); clear HO103; clear HO106; clear HO111; clear BK113; clear HB; have HO103 := n0_; have HO106 := n1_; have HO111 := n2_; have BK113 := n3_; have HB := n4_; clear n0_ n1_ n2_ n3_ n4_; (try clear hb); (try clear hb2); (try clear hk); (try clear hi); have hcz32_0 : w31.cell? ⟨gb113, 0, none⟩ = some (.string t107) := (blk_cell BK113.out 0).trans rfl; have hcz32_1 : w31.cell? ⟨gb113, 1, none⟩ = some (.string t108) := (blk_cell BK113.out 1).trans rfl; have hcz32_2 : w31.cell? ⟨gb113, 2, none⟩ = some (.slice Ao30 t109.length co30) := (blk_cell BK113.out 2).trans rfl; have hfz32_0 := blk_frozen BK113.out 0; have hfz32_1 := blk_frozen BK113.out 1; have hfz32_2 := blk_frozen BK113.out 2) | (go_at_call 18; (with_reducible refine (mime_Text.calls t107 t108 _ _ t109 t115 _ ?side1 ?side2 A6.out).mono ?_); (case side1 => repeat (first | exact (Kd.R_reads' HO111.out).2.2 | (with_reducible refine Kd.C_alloc ?_ _) | (with_reducible refine Kd.C_drewN ?_ _) | (with_reducible refine Kd.C_drew ?_))); (case side2 => exact (Kd.R_reads' HO111.out).2.1); rintro e w33 ⟨rfl, hb⟩; have n0_ := Aside0.mk (Kd.R_below (by (with_reducible repeat (first | apply Kd.R_alloc | apply Kd.R_drewN | apply Kd.R_drew)); exact HO103.out) hb); have n1_ := Aside0.mk (Kd.R_below (by (with_reducible repeat (first | apply Kd.R_alloc | apply Kd.R_drewN | apply Kd.R_drew)); exact HO106.out) hb); have n2_ := Aside0.mk (Kd.R_below (by (with_reducible repeat (first | apply Kd.R_alloc | apply Kd.R_drewN | apply Kd.R_drew)); exact HO111.out) hb); have n3_ := Aside0.mk (blk_below (g := gb113) (o := .cells #[.string t107, .string t108, .slice Ao30 t109.length co30] 24 (0, 0)) (by (with_reducible repeat (first | refine blk_drewN ?_ _ | refine blk_drew ?_ | refine blk_alloc ?_ _)); exact BK113.out) hb); have n4_ := Aside0.mk (below_step (by repeat (first | (with_reducible first | exact HB.out | apply below_alloc | apply pw_below_drewN | apply below_drew1 | refine below_set ?_ GE113.out) | exact HB.out)) hb); clear HO103; clear HO106; clear HO111; clear BK113; clear HB; have HO103 := n0_; have HO106 := n1_; have HO111 := n2_; have BK113 := n3_; have HB := n4_; clear n0_ n1_ n2_ n3_ n4_; (try clear hb); (try clear hb2); (try clear hk); (try clear hi)))
        go_ret
        exact ⟨by first | rfl | (simp [errW_none, errW_some] <;> rfl) | (simp [*, errW_none, errW_some] <;> rfl), by repeat (first | (with_reducible first | exact HB.out | apply below_alloc | apply pw_below_drewN | apply below_drew1 | refine below_set ?_ GE113.out) | exact HB.out)⟩
    · replace c5 := Bool.eq_false_iff.mpr c5
      subst c5
      have H1 : (some false) = some r := by rw [if_neg (show ¬ (false = true) by decide)] at H; exact H
      clear H
      have H := H1
      clear H1
      obtain rfl := Option.some.inj H
      go_enter Tryz.func17, Tryz.ntmps17
      go_wp2_with (first | ((with_reducible refine gate_dst (N := 4) rfl ?_); refine Kd.R_lit Kd.string _ 9 ?hg (N := 4) ?hd (xs := ([(⟨#[116, 101, 120, 116, 47, 97, 59, 99, 104, 97, 114, 115, 101, 116, 61, 120]⟩ : ByteArray), (⟨#[116, 101, 120, 116, 47, 97]⟩ : ByteArray)] : List ByteArray)) (inner := [.string (⟨#[116, 101, 120, 116, 47, 97, 59, 99, 104, 97, 114, 115, 101, 116, 61, 120]⟩ : ByteArray), .string (⟨#[116, 101, 120, 116, 47, 97]⟩ : ByteArray)]) (ok := fun _ => True) (okp := fun _ => True) ?hr ?hp (fun _ hk => hk) trivial (Below.refl _ _) (Nat.le_refl _) (by simp) ?_; (case hd => rfl); (case hg => rfl); (case hr => first | (go_simp; done) | (go_simp; rfl)); (case hp => exact (Reps.one (show Kd.M Kd.string _ _ _ (⟨#[116, 101, 120, 116, 47, 97, 59, 99, 104, 97, 114, 115, 101, 116, 61, 120]⟩ : ByteArray) [.string (⟨#[116, 101, 120, 116, 47, 97, 59, 99, 104, 97, 114, 115, 101, 116, 61, 120]⟩ : ByteArray)] from rfl) (Reps.one (show Kd.M Kd.string _ _ _ (⟨#[116, 101, 120, 116, 47, 97]⟩ : ByteArray) [.string (⟨#[116, 101, 120, 116, 47, 97]⟩ : ByteArray)] from rfl) (Reps.none _ _)))); intro v102 w34 ho35 hb hg_ hnew_; clear hg_ hnew_; (first | rw [← Ny101.out] at ho35 | (simp only [Int.reduceToNat] at ho35; rw [← Ny101.out] at ho35)); have n0_ := Aside0.mk (Kd.R_lower ho35 (below_size (by repeat (first | (with_reducible first | exact HB.out | apply below_alloc | apply pw_below_drewN | apply below_drew1) | exact HB.out)))); have n1_ := Aside0.mk (below_step (by repeat (first | (with_reducible first | exact HB.out | apply below_alloc | apply pw_below_drewN | apply below_drew1) | exact HB.out)) hb); clear HB; have HO103 := n0_; have HB := n1_; clear n0_ n1_; clear hb ho35; obtain ⟨Ao36, co36, eo36⟩ := Kd.R_slice HO103.out; subst eo36) | ((with_reducible refine gate_callee (f := 21) rfl ?_); refine goesL_ (some 5) rfl rfl Tryz.func21 (by kernel_rfl) rfl #[.slice Ao36 y101.length co36] rfl (by (try simp only [List.map_toArray, List.map_cons, List.map_nil]); first | done | rfl | (simp only [List.length_drop, List.length_take]; rfl)) ?_; (with_reducible refine (ostiarylaw6_kinds.calls k _ _ y101 t104 _ ?side1 ?side2 A1.out).mono ?_); (case side1 => repeat (first | exact (Kd.R_reads' HO103.out).2.2 | (with_reducible refine Kd.C_alloc ?_ _) | (with_reducible refine Kd.C_drewN ?_ _) | (with_reducible refine Kd.C_drew ?_))); (case side2 => exact (Kd.R_reads' HO103.out).2.1); rintro e w37 ⟨v105, rfl, ho0, hb⟩; refine ⟨_, rfl, ?_⟩; have n0_ := Aside0.mk (Kd.R_below (by (with_reducible repeat (first | apply Kd.R_alloc | apply Kd.R_drewN | apply Kd.R_drew)); exact HO103.out) hb); have n1_ := Aside0.mk (Kd.R_lower ho0 (below_size (by repeat (first | (with_reducible first | exact HB.out | apply below_alloc | apply pw_below_drewN | apply below_drew1) | exact HB.out)))); have n2_ := Aside0.mk (below_step (by repeat (first | (with_reducible first | exact HB.out | apply below_alloc | apply pw_below_drewN | apply below_drew1) | exact HB.out)) hb); clear HO103; clear HB; have HO103 := n0_; have HO106 := n1_; have HB := n2_; clear n0_ n1_ n2_; (try clear hb); (try clear hb2); (try clear hk); (try clear hi); (try clear ho0); obtain ⟨Ao38, co38, eo38⟩ := Kd.R_slice HO106.out; subst eo38) | ((with_reducible refine gate_callee (f := 20) rfl ?_); refine goesL_ (some 6) rfl rfl Tryz.func20 (by kernel_rfl) rfl #[.slice Ao38 t104.length co38] rfl (by (try simp only [List.map_toArray, List.map_cons, List.map_nil]); first | done | rfl | (simp only [List.length_drop, List.length_take]; rfl)) ?_; (with_reducible refine (mime_Extract.calls k _ _ t104 t107 t108 t109 false _ ?side1 ?side2 A2.out).mono ?_); (case side1 => repeat (first | exact (Kd.R_reads' HO106.out).2.2 | (with_reducible refine Kd.C_alloc ?_ _) | (with_reducible refine Kd.C_drewN ?_ _) | (with_reducible refine Kd.C_drew ?_))); (case side2 => exact (Kd.R_reads' HO106.out).2.1); rintro e w39 ⟨v110, rfl, ho0, hb⟩; refine ⟨_, rfl, ?_⟩; have n0_ := Aside0.mk (Kd.R_below (by (with_reducible repeat (first | apply Kd.R_alloc | apply Kd.R_drewN | apply Kd.R_drew)); exact HO103.out) hb); have n1_ := Aside0.mk (Kd.R_below (by (with_reducible repeat (first | apply Kd.R_alloc | apply Kd.R_drewN | apply Kd.R_drew)); exact HO106.out) hb); have n2_ := Aside0.mk (Kd.R_lower ho0 (below_size (by repeat (first | (with_reducible first | exact HB.out | apply below_alloc | apply pw_below_drewN | apply below_drew1) | exact HB.out)))); have n3_ := Aside0.mk (below_step (by repeat (first | (with_reducible first | exact HB.out | apply below_alloc | apply pw_below_drewN | apply below_drew1) | exact HB.out)) hb); clear HO103; clear HO106; clear HB; have HO103 := n0_; have HO106 := n1_; have HO111 := n2_; have HB := n3_; clear n0_ n1_ n2_ n3_; (try clear hb); (try clear hb2); (try clear hk); (try clear hi); (try clear ho0)) | ((with_reducible refine gate_dst (N := 1) rfl ?_); refine box_event ?hg (N := 1) ?hd (cs := #[.string (⟨#[]⟩ : ByteArray), .string (⟨#[]⟩ : ByteArray), .slice none 0 0]) (t := 24) ?hr ?_; (case hd => rfl); (case hg => rfl); (case hr => first | (go_simp; done) | (go_simp; rfl)); intro gb113 hg w40 hbox hb; have n0_ := Aside0.mk (Kd.R_below (by (with_reducible repeat (first | apply Kd.R_alloc | apply Kd.R_drewN | apply Kd.R_drew)); exact HO103.out) hb); have n1_ := Aside0.mk (Kd.R_below (by (with_reducible repeat (first | apply Kd.R_alloc | apply Kd.R_drewN | apply Kd.R_drew)); exact HO106.out) hb); have n2_ := Aside0.mk (Kd.R_below (by (with_reducible repeat (first | apply Kd.R_alloc | apply Kd.R_drewN | apply Kd.R_drew)); exact HO111.out) hb); have n3_ := Aside0.mk (below_step (by repeat (first | (with_reducible first | exact HB.out | apply below_alloc | apply pw_below_drewN | apply below_drew1) | exact HB.out)) hb); have n4_ := Aside0.mk (hbox); have n5_ := Aside0.mk ((by rw [hg]; exact (below_size (by repeat (first | (with_reducible first | exact HB.out | apply below_alloc | apply pw_below_drewN | apply below_drew1) | exact HB.out))) : w.heap.size ≤ gb113)); have n6_ := Aside0.mk ((by rw [hg]; exact (below_size (by repeat (first | (with_reducible first | exact HB.out | apply below_alloc | apply pw_below_drewN | apply below_drew1) | exact HB.out))) : w.heap.size ≤ gb113)); clear HO103; clear HO106; clear HO111; clear HB; have HO103 := n0_; have HO106 := n1_; have HO111 := n2_; have HB := n3_; have BK113 := n4_; have GW113 := n5_; have GE113 := n6_; clear n0_ n1_ n2_ n3_ n4_ n5_ n6_; clear hb hbox hg; have hcz41_0 : w40.cell? ⟨gb113, 0, none⟩ = some (.string (⟨#[]⟩ : ByteArray)) := (blk_cell BK113.out 0).trans rfl; have hcz41_1 : w40.cell? ⟨gb113, 1, none⟩ = some (.string (⟨#[]⟩ : ByteArray)) := (blk_cell BK113.out 1).trans rfl; have hcz41_2 : w40.cell? ⟨gb113, 2, none⟩ = some (.slice none 0 0) := (blk_cell BK113.out 2).trans rfl; have hfz41_0 := blk_frozen BK113.out 0; have hfz41_1 := blk_frozen BK113.out 1; have hfz41_2 := blk_frozen BK113.out 2; obtain ⟨Ao42, co42, eo42⟩ := Kd.R_slice HO111.out; subst eo42) | ((with_reducible refine gate_callee (f := 33) rfl ?_); refine goesL_ (some 9) rfl rfl Tryz.func33 (by kernel_rfl) rfl #[.string (⟨#[84, 101, 120, 116, 47, 72, 84, 77, 76, 32, 59, 32, 67, 104, 97, 114, 115, 101, 116, 61, 34, 97, 92, 34, 98, 34, 32, 59, 120]⟩ : ByteArray)] rfl (by (try simp only [List.map_toArray, List.map_cons, List.map_nil]); first | done | rfl | (simp only [List.length_drop, List.length_take]; rfl)) ?_; (with_reducible refine (ostiarylaw6_text.calls (⟨#[84, 101, 120, 116, 47, 72, 84, 77, 76, 32, 59, 32, 67, 104, 97, 114, 115, 101, 116, 61, 34, 97, 92, 34, 98, 34, 32, 59, 120]⟩ : ByteArray) t114 _ A3.out).mono ?_); rintro e w43 ⟨rfl, hb⟩; refine ⟨_, rfl, ?_⟩; have n0_ := Aside0.mk (Kd.R_below (by (with_reducible repeat (first | apply Kd.R_alloc | apply Kd.R_drewN | apply Kd.R_drew)); exact (Kd.R_mono (Kd.R_far (p := ⟨gb113, 2, none⟩) (Kd.R_far (p := ⟨gb113, 1, none⟩) (Kd.R_far (p := ⟨gb113, 0, none⟩) (Kd.R_types HO103.out BK113.out (by decide)) (fun _ hk => hk.2) (.string t107)) (fun _ hk => hk.2) (.string t108)) (fun _ hk => hk.2) (.slice Ao42 t109.length co42)) (fun _ h_ => h_.1))) hb); have n1_ := Aside0.mk (Kd.R_below (by (with_reducible repeat (first | apply Kd.R_alloc | apply Kd.R_drewN | apply Kd.R_drew)); exact (Kd.R_mono (Kd.R_far (p := ⟨gb113, 2, none⟩) (Kd.R_far (p := ⟨gb113, 1, none⟩) (Kd.R_far (p := ⟨gb113, 0, none⟩) (Kd.R_types HO106.out BK113.out (by decide)) (fun _ hk => hk.2) (.string t107)) (fun _ hk => hk.2) (.string t108)) (fun _ hk => hk.2) (.slice Ao42 t109.length co42)) (fun _ h_ => h_.1))) hb); have n2_ := Aside0.mk (Kd.R_below (by (with_reducible repeat (first | apply Kd.R_alloc | apply Kd.R_drewN | apply Kd.R_drew)); exact (Kd.R_mono (Kd.R_far (p := ⟨gb113, 2, none⟩) (Kd.R_far (p := ⟨gb113, 1, none⟩) (Kd.R_far (p := ⟨gb113, 0, none⟩) (Kd.R_types HO111.out BK113.out (by decide)) (fun _ hk => hk.2) (.string t107)) (fun _ hk => hk.2) (.string t108)) (fun _ hk => hk.2) (.slice Ao42 t109.length co42)) (fun _ h_ => h_.1))) hb); have n3_ := Aside0.mk (blk_below (g := gb113) (o := .cells #[.string t107, .string t108, .slice Ao42 t109.length co42] 24 (0, 0)) (by (with_reducible repeat (first | refine blk_drewN ?_ _ | refine blk_drew ?_ | refine blk_alloc ?_ _)); refine blk_put (cs := #[.string t107, .string t108, .slice none 0 0]) ?_ 2 _ rfl; (with_reducible repeat (first | refine blk_drewN ?_ _ | refine blk_drew ?_ | refine blk_alloc ?_ _)); refine blk_put (cs := #[.string t107, .string (⟨#[]⟩ : ByteArray), .slice none 0 0]) ?_ 1 _ rfl; (with_reducible repeat (first | refine blk_drewN ?_ _ | refine blk_drew ?_ | refine blk_alloc ?_ _)); refine blk_put (cs := #[.string (⟨#[]⟩ : ByteArray), .string (⟨#[]⟩ : ByteArray), .slice none 0 0]) ?_ 0 _ rfl; (with_reducible repeat (first | refine blk_drewN ?_ _ | refine blk_drew ?_ | refine blk_alloc ?_ _)); exact BK113.out) hb); have n4_ := Aside0.mk (below_step (by repeat (first | (with_reducible first | exact HB.out | apply below_alloc | apply pw_below_drewN | apply below_drew1 | refine below_set ?_ GE113.out) | exact HB.out)) hb); clear HO103; clear HO106; clear HO111; clear BK113; clear HB; have HO103 := n0_; have HO106 := n1_; have HO111 := n2_; have BK113 := n3_; have HB := n4_; clear n0_ n1_ n2_ n3_ n4_; (try clear hb); (try clear hb2); (try clear hk); (try clear hi)))
      go_ret
      exact ⟨by first | rfl | (simp [errW_none, errW_some] <;> rfl) | (simp [*, errW_none, errW_some] <;> rfl), by repeat (first | (with_reducible first | exact HB.out | apply below_alloc | apply pw_below_drewN | apply below_drew1 | refine below_set ?_ GE113.out) | exact HB.out)⟩
  · rw [if_neg c4] at H
    have c4b0 : (t114.toList == ([116, 101, 120, 116, 47, 104, 116, 109, 108, 59, 99, 104, 97, 114, 115, 101, 116, 61, 34, 97, 92, 34, 98, 34] : List UInt8)) = false := beq_eq_false_iff_ne.mpr c4
    have c4b1 : (t114.toList != ([116, 101, 120, 116, 47, 104, 116, 109, 108, 59, 99, 104, 97, 114, 115, 101, 116, 61, 34, 97, 92, 34, 98, 34] : List UInt8)) = true := bne_iff_ne.mpr c4
    obtain rfl := Option.some.inj H
    go_enter Tryz.func17, Tryz.ntmps17
    go_wp2_with (first | ((with_reducible refine gate_dst (N := 4) rfl ?_); refine Kd.R_lit Kd.string _ 9 ?hg (N := 4) ?hd (xs := ([(⟨#[116, 101, 120, 116, 47, 97, 59, 99, 104, 97, 114, 115, 101, 116, 61, 120]⟩ : ByteArray), (⟨#[116, 101, 120, 116, 47, 97]⟩ : ByteArray)] : List ByteArray)) (inner := [.string (⟨#[116, 101, 120, 116, 47, 97, 59, 99, 104, 97, 114, 115, 101, 116, 61, 120]⟩ : ByteArray), .string (⟨#[116, 101, 120, 116, 47, 97]⟩ : ByteArray)]) (ok := fun _ => True) (okp := fun _ => True) ?hr ?hp (fun _ hk => hk) trivial (Below.refl _ _) (Nat.le_refl _) (by simp) ?_; (case hd => rfl); (case hg => rfl); (case hr => first | (go_simp; done) | (go_simp; rfl)); (case hp => exact (Reps.one (show Kd.M Kd.string _ _ _ (⟨#[116, 101, 120, 116, 47, 97, 59, 99, 104, 97, 114, 115, 101, 116, 61, 120]⟩ : ByteArray) [.string (⟨#[116, 101, 120, 116, 47, 97, 59, 99, 104, 97, 114, 115, 101, 116, 61, 120]⟩ : ByteArray)] from rfl) (Reps.one (show Kd.M Kd.string _ _ _ (⟨#[116, 101, 120, 116, 47, 97]⟩ : ByteArray) [.string (⟨#[116, 101, 120, 116, 47, 97]⟩ : ByteArray)] from rfl) (Reps.none _ _)))); intro v102 w44 ho45 hb hg_ hnew_; clear hg_ hnew_; (first | rw [← Ny101.out] at ho45 | (simp only [Int.reduceToNat] at ho45; rw [← Ny101.out] at ho45)); have n0_ := Aside0.mk (Kd.R_lower ho45 (below_size (by repeat (first | (with_reducible first | exact HB.out | apply below_alloc | apply pw_below_drewN | apply below_drew1) | exact HB.out)))); have n1_ := Aside0.mk (below_step (by repeat (first | (with_reducible first | exact HB.out | apply below_alloc | apply pw_below_drewN | apply below_drew1) | exact HB.out)) hb); clear HB; have HO103 := n0_; have HB := n1_; clear n0_ n1_; clear hb ho45; obtain ⟨Ao46, co46, eo46⟩ := Kd.R_slice HO103.out; subst eo46) | ((with_reducible refine gate_callee (f := 21) rfl ?_); refine goesL_ (some 5) rfl rfl Tryz.func21 (by kernel_rfl) rfl #[.slice Ao46 y101.length co46] rfl (by (try simp only [List.map_toArray, List.map_cons, List.map_nil]); first | done | rfl | (simp only [List.length_drop, List.length_take]; rfl)) ?_; (with_reducible refine (ostiarylaw6_kinds.calls k _ _ y101 t104 _ ?side1 ?side2 A1.out).mono ?_); (case side1 => repeat (first | exact (Kd.R_reads' HO103.out).2.2 | (with_reducible refine Kd.C_alloc ?_ _) | (with_reducible refine Kd.C_drewN ?_ _) | (with_reducible refine Kd.C_drew ?_))); (case side2 => exact (Kd.R_reads' HO103.out).2.1); rintro e w47 ⟨v105, rfl, ho0, hb⟩; refine ⟨_, rfl, ?_⟩; have n0_ := Aside0.mk (Kd.R_below (by (with_reducible repeat (first | apply Kd.R_alloc | apply Kd.R_drewN | apply Kd.R_drew)); exact HO103.out) hb); have n1_ := Aside0.mk (Kd.R_lower ho0 (below_size (by repeat (first | (with_reducible first | exact HB.out | apply below_alloc | apply pw_below_drewN | apply below_drew1) | exact HB.out)))); have n2_ := Aside0.mk (below_step (by repeat (first | (with_reducible first | exact HB.out | apply below_alloc | apply pw_below_drewN | apply below_drew1) | exact HB.out)) hb); clear HO103; clear HB; have HO103 := n0_; have HO106 := n1_; have HB := n2_; clear n0_ n1_ n2_; (try clear hb); (try clear hb2); (try clear hk); (try clear hi); (try clear ho0); obtain ⟨Ao48, co48, eo48⟩ := Kd.R_slice HO106.out; subst eo48) | ((with_reducible refine gate_callee (f := 20) rfl ?_); refine goesL_ (some 6) rfl rfl Tryz.func20 (by kernel_rfl) rfl #[.slice Ao48 t104.length co48] rfl (by (try simp only [List.map_toArray, List.map_cons, List.map_nil]); first | done | rfl | (simp only [List.length_drop, List.length_take]; rfl)) ?_; (with_reducible refine (mime_Extract.calls k _ _ t104 t107 t108 t109 t112 _ ?side1 ?side2 A2.out).mono ?_); (case side1 => repeat (first | exact (Kd.R_reads' HO106.out).2.2 | (with_reducible refine Kd.C_alloc ?_ _) | (with_reducible refine Kd.C_drewN ?_ _) | (with_reducible refine Kd.C_drew ?_))); (case side2 => exact (Kd.R_reads' HO106.out).2.1); rintro e w49 ⟨v110, rfl, ho0, hb⟩; refine ⟨_, rfl, ?_⟩; have n0_ := Aside0.mk (Kd.R_below (by (with_reducible repeat (first | apply Kd.R_alloc | apply Kd.R_drewN | apply Kd.R_drew)); exact HO103.out) hb); have n1_ := Aside0.mk (Kd.R_below (by (with_reducible repeat (first | apply Kd.R_alloc | apply Kd.R_drewN | apply Kd.R_drew)); exact HO106.out) hb); have n2_ := Aside0.mk (Kd.R_lower ho0 (below_size (by repeat (first | (with_reducible first | exact HB.out | apply below_alloc | apply pw_below_drewN | apply below_drew1) | exact HB.out)))); have n3_ := Aside0.mk (below_step (by repeat (first | (with_reducible first | exact HB.out | apply below_alloc | apply pw_below_drewN | apply below_drew1) | exact HB.out)) hb); clear HO103; clear HO106; clear HB; have HO103 := n0_; have HO106 := n1_; have HO111 := n2_; have HB := n3_; clear n0_ n1_ n2_ n3_; (try clear hb); (try clear hb2); (try clear hk); (try clear hi); (try clear ho0)) | ((with_reducible refine gate_dst (N := 1) rfl ?_); refine box_event ?hg (N := 1) ?hd (cs := #[.string (⟨#[]⟩ : ByteArray), .string (⟨#[]⟩ : ByteArray), .slice none 0 0]) (t := 24) ?hr ?_; (case hd => rfl); (case hg => rfl); (case hr => first | (go_simp; done) | (go_simp; rfl)); intro gb113 hg w50 hbox hb; have n0_ := Aside0.mk (Kd.R_below (by (with_reducible repeat (first | apply Kd.R_alloc | apply Kd.R_drewN | apply Kd.R_drew)); exact HO103.out) hb); have n1_ := Aside0.mk (Kd.R_below (by (with_reducible repeat (first | apply Kd.R_alloc | apply Kd.R_drewN | apply Kd.R_drew)); exact HO106.out) hb); have n2_ := Aside0.mk (Kd.R_below (by (with_reducible repeat (first | apply Kd.R_alloc | apply Kd.R_drewN | apply Kd.R_drew)); exact HO111.out) hb); have n3_ := Aside0.mk (below_step (by repeat (first | (with_reducible first | exact HB.out | apply below_alloc | apply pw_below_drewN | apply below_drew1) | exact HB.out)) hb); have n4_ := Aside0.mk (hbox); have n5_ := Aside0.mk ((by rw [hg]; exact (below_size (by repeat (first | (with_reducible first | exact HB.out | apply below_alloc | apply pw_below_drewN | apply below_drew1) | exact HB.out))) : w.heap.size ≤ gb113)); have n6_ := Aside0.mk ((by rw [hg]; exact (below_size (by repeat (first | (with_reducible first | exact HB.out | apply below_alloc | apply pw_below_drewN | apply below_drew1) | exact HB.out))) : w.heap.size ≤ gb113)); clear HO103; clear HO106; clear HO111; clear HB; have HO103 := n0_; have HO106 := n1_; have HO111 := n2_; have HB := n3_; have BK113 := n4_; have GW113 := n5_; have GE113 := n6_; clear n0_ n1_ n2_ n3_ n4_ n5_ n6_; clear hb hbox hg; have hcz51_0 : w50.cell? ⟨gb113, 0, none⟩ = some (.string (⟨#[]⟩ : ByteArray)) := (blk_cell BK113.out 0).trans rfl; have hcz51_1 : w50.cell? ⟨gb113, 1, none⟩ = some (.string (⟨#[]⟩ : ByteArray)) := (blk_cell BK113.out 1).trans rfl; have hcz51_2 : w50.cell? ⟨gb113, 2, none⟩ = some (.slice none 0 0) := (blk_cell BK113.out 2).trans rfl; have hfz51_0 := blk_frozen BK113.out 0; have hfz51_1 := blk_frozen BK113.out 1; have hfz51_2 := blk_frozen BK113.out 2; obtain ⟨Ao52, co52, eo52⟩ := Kd.R_slice HO111.out; subst eo52) | ((with_reducible refine gate_callee (f := 33) rfl ?_); refine goesL_ (some 9) rfl rfl Tryz.func33 (by kernel_rfl) rfl #[.string (⟨#[84, 101, 120, 116, 47, 72, 84, 77, 76, 32, 59, 32, 67, 104, 97, 114, 115, 101, 116, 61, 34, 97, 92, 34, 98, 34, 32, 59, 120]⟩ : ByteArray)] rfl (by (try simp only [List.map_toArray, List.map_cons, List.map_nil]); first | done | rfl | (simp only [List.length_drop, List.length_take]; rfl)) ?_; (with_reducible refine (ostiarylaw6_text.calls (⟨#[84, 101, 120, 116, 47, 72, 84, 77, 76, 32, 59, 32, 67, 104, 97, 114, 115, 101, 116, 61, 34, 97, 92, 34, 98, 34, 32, 59, 120]⟩ : ByteArray) t114 _ A3.out).mono ?_); rintro e w53 ⟨rfl, hb⟩; refine ⟨_, rfl, ?_⟩; have n0_ := Aside0.mk (Kd.R_below (by (with_reducible repeat (first | apply Kd.R_alloc | apply Kd.R_drewN | apply Kd.R_drew)); exact (Kd.R_mono (Kd.R_far (p := ⟨gb113, 2, none⟩) (Kd.R_far (p := ⟨gb113, 1, none⟩) (Kd.R_far (p := ⟨gb113, 0, none⟩) (Kd.R_types HO103.out BK113.out (by decide)) (fun _ hk => hk.2) (.string t107)) (fun _ hk => hk.2) (.string t108)) (fun _ hk => hk.2) (.slice Ao52 t109.length co52)) (fun _ h_ => h_.1))) hb); have n1_ := Aside0.mk (Kd.R_below (by (with_reducible repeat (first | apply Kd.R_alloc | apply Kd.R_drewN | apply Kd.R_drew)); exact (Kd.R_mono (Kd.R_far (p := ⟨gb113, 2, none⟩) (Kd.R_far (p := ⟨gb113, 1, none⟩) (Kd.R_far (p := ⟨gb113, 0, none⟩) (Kd.R_types HO106.out BK113.out (by decide)) (fun _ hk => hk.2) (.string t107)) (fun _ hk => hk.2) (.string t108)) (fun _ hk => hk.2) (.slice Ao52 t109.length co52)) (fun _ h_ => h_.1))) hb); have n2_ := Aside0.mk (Kd.R_below (by (with_reducible repeat (first | apply Kd.R_alloc | apply Kd.R_drewN | apply Kd.R_drew)); exact (Kd.R_mono (Kd.R_far (p := ⟨gb113, 2, none⟩) (Kd.R_far (p := ⟨gb113, 1, none⟩) (Kd.R_far (p := ⟨gb113, 0, none⟩) (Kd.R_types HO111.out BK113.out (by decide)) (fun _ hk => hk.2) (.string t107)) (fun _ hk => hk.2) (.string t108)) (fun _ hk => hk.2) (.slice Ao52 t109.length co52)) (fun _ h_ => h_.1))) hb); have n3_ := Aside0.mk (blk_below (g := gb113) (o := .cells #[.string t107, .string t108, .slice Ao52 t109.length co52] 24 (0, 0)) (by (with_reducible repeat (first | refine blk_drewN ?_ _ | refine blk_drew ?_ | refine blk_alloc ?_ _)); refine blk_put (cs := #[.string t107, .string t108, .slice none 0 0]) ?_ 2 _ rfl; (with_reducible repeat (first | refine blk_drewN ?_ _ | refine blk_drew ?_ | refine blk_alloc ?_ _)); refine blk_put (cs := #[.string t107, .string (⟨#[]⟩ : ByteArray), .slice none 0 0]) ?_ 1 _ rfl; (with_reducible repeat (first | refine blk_drewN ?_ _ | refine blk_drew ?_ | refine blk_alloc ?_ _)); refine blk_put (cs := #[.string (⟨#[]⟩ : ByteArray), .string (⟨#[]⟩ : ByteArray), .slice none 0 0]) ?_ 0 _ rfl; (with_reducible repeat (first | refine blk_drewN ?_ _ | refine blk_drew ?_ | refine blk_alloc ?_ _)); exact BK113.out) hb); have n4_ := Aside0.mk (below_step (by repeat (first | (with_reducible first | exact HB.out | apply below_alloc | apply pw_below_drewN | apply below_drew1 | refine below_set ?_ GE113.out) | exact HB.out)) hb); clear HO103; clear HO106; clear HO111; clear BK113; clear HB; have HO103 := n0_; have HO106 := n1_; have HO111 := n2_; have BK113 := n3_; have HB := n4_; clear n0_ n1_ n2_ n3_ n4_; (try clear hb); (try clear hb2); (try clear hk); (try clear hi)))
    go_ret
    exact ⟨by first | rfl | (simp [errW_none, errW_some] <;> rfl) | (simp [*, errW_none, errW_some] <;> rfl), by repeat (first | (with_reducible first | exact HB.out | apply below_alloc | apply pw_below_drewN | apply below_drew1 | refine below_set ?_ GE113.out) | exact HB.out)⟩
end Go.Proofs.YteehjlciajhdoaaGreatDoor.X
namespace Go.Proofs.YteehjlciajhdoaaGreatDoor.X
open Go.RowKit Go.Proofs.YteehjlciajhdoaaGreatDoorW.PrintWords Go.Proofs.YteehjlciajhdoaaGreatDoorW.PrintLast Go.Proofs.YteehjlciajhdoaaGreatDoorW.PrintMore
attribute [local go_sem] max2_int min2_int max_two min_two max_three min_three max_four min_four
set_option linter.unusedVariables false
set_option linter.unusedSimpArgs false
theorem eqA32 (d : Nat) (w : World) (x0 y0 : ByteArray) (x1 y1 : ByteArray) :
    (Op.equalIn (d + 2) 32 (.agg #[.string x0, .string x1]) (.agg #[.string y0, .string y1])).run Tryz.prog w = .ok (x0.toList == y0.toList && (x1.toList == y1.toList)) w := by
  refine eqA_of Tryz.underlying32 (by kernel_rfl) ?_
  refine eqf_cons (by rfl) (by go_simp; rfl) (by go_simp; rfl) (by go_simp) ?_
  exact eqf_last (by rfl) (by go_simp; rfl) (by go_simp; rfl) (by go_simp)
end Go.Proofs.YteehjlciajhdoaaGreatDoor.X
namespace Go.Proofs.YteehjlciajhdoaaGreatDoor.X
open Go.RowKit Go.Proofs.YteehjlciajhdoaaGreatDoorW.PrintWords Go.Proofs.YteehjlciajhdoaaGreatDoorW.PrintLast Go.Proofs.YteehjlciajhdoaaGreatDoorW.PrintMore
attribute [local go_sem] max2_int min2_int max_two min_two max_three min_three max_four min_four
set_option linter.unusedVariables false
set_option linter.unusedSimpArgs false
attribute [local go_sem high] eqA32
def ostiarybook_Same_19.l0 : Nat → List (S32) → List (S32) → Int → Option (Bool)
  | 0, _, _, _ => none
  | k + 1, x0, x1, x5 => if x5 < (x0.length : Int) then (if 0 ≤ x5 then (if x5 < (x1.length : Int) then (if (!((((rd_T32 x0 x5).f0).toList) == (((rd_T32 x1 x5).f0).toList)) || (!((((rd_T32 x0 x5).f1).toList) == (((rd_T32 x1 x5).f1).toList)))) = true then (some false) else (ostiarybook_Same_19.l0 k x0 x1 (wrap64 (x5 + 1)))) else (none)) else (none)) else (some true)
def ostiarybook_Same_19.f (k : Nat) (l0 : List (S32)) (l1 : List (S32)) : Option (Bool) := if (l0.length : Int) = (l1.length : Int) then (ostiarybook_Same_19.l0 k l0 l1 0) else (some false)
theorem ostiarybook_Same_19.mono_l : ∀ k, (∀ y0 y1 y2, LeO (ostiarybook_Same_19.l0 k y0 y1 y2) (ostiarybook_Same_19.l0 (k + 1) y0 y1 y2))
  | 0 => fun _ _ _ r h => by simp [ostiarybook_Same_19.l0] at h
  | k + 1 => by
    have ih0 := ostiarybook_Same_19.mono_l k
    · intro y0 y1 y2
      unfold ostiarybook_Same_19.l0
      repeat' first
      | (with_reducible exact ih0 _ _ _)
      | (with_reducible exact LeO.refl _)
      | (with_reducible exact LeO.none _)
      | (with_reducible refine LeO.ite ?_ ?_)
      | (with_reducible refine LeO.bind ?_ (fun _ => ?_))
      | exact ih0 _ _ _
      | exact LeO.none _
      | refine LeO.ite ?_ ?_
      | refine LeO.bind ?_ (fun _ => ?_)
theorem ostiarybook_Same_19.mono : ∀ a0 a1 k, LeO (ostiarybook_Same_19.f k a0 a1) (ostiarybook_Same_19.f (k + 1) a0 a1) := by
  intro a0 a1 k
  have ih0 := ostiarybook_Same_19.mono_l k
  unfold ostiarybook_Same_19.f
  repeat' first
      | (with_reducible exact ih0 _ _ _)
      | (with_reducible exact LeO.refl _)
      | (with_reducible exact LeO.none _)
      | (with_reducible refine LeO.ite ?_ ?_)
      | (with_reducible refine LeO.bind ?_ (fun _ => ?_))
      | exact ih0 _ _ _
      | exact LeO.none _
      | refine LeO.ite ?_ ?_
      | refine LeO.bind ?_ (fun _ => ?_)
end Go.Proofs.YteehjlciajhdoaaGreatDoor.X
namespace Go.Proofs.YteehjlciajhdoaaGreatDoor.X
open Go.RowKit Go.Proofs.YteehjlciajhdoaaGreatDoorW.PrintWords Go.Proofs.YteehjlciajhdoaaGreatDoorW.PrintLast Go.Proofs.YteehjlciajhdoaaGreatDoorW.PrintMore
attribute [local go_sem] max2_int min2_int max_two min_two max_three min_three max_four min_four
set_option linter.unusedVariables false
set_option linter.unusedSimpArgs false
mutual
def ostiarylaw6_MimeBack.j0 : Nat → Bool → ByteArray → ByteArray → List (S32) → Option (Bool)
  | 0, _, _, _, _ => none
  | k + 1, x63, x109000, x109001, x109002 => if x63 = true then (some false) else (ostiarylaw6_MimeBack.l0 k 0 x109000 x109001 x109002)
def ostiarylaw6_MimeBack.l0 : Nat → Int → ByteArray → ByteArray → List (S32) → Option (Bool)
  | 0, _, _, _, _ => none
  | k + 1, x7, x109000, x109001, x109002 => if x7 < (x109002.length : Int) then (ostiarylaw6_MimeBack.l1 k x7 0 x109000 x109001 x109002) else ((ostiarylaw6_known.f k).bind fun t119 => (some t119))
def ostiarylaw6_MimeBack.l1 : Nat → Int → Int → ByteArray → ByteArray → List (S32) → Option (Bool)
  | 0, _, _, _, _, _ => none
  | k + 1, x7, x8, x109000, x109001, x109002 => if x8 < x7 then (if 0 ≤ x8 then (if x8 < (x109002.length : Int) then (if 0 ≤ x7 then (if x7 < (x109002.length : Int) then (if ((rd_T32 x109002 x8).f0).toList = ((rd_T32 x109002 x7).f0).toList then (some false) else (ostiarylaw6_MimeBack.l1 k x7 (wrap64 (x8 + 1)) x109000 x109001 x109002)) else (none)) else (none)) else (none)) else (none)) else (ostiarylaw6_MimeBack.l0 k (wrap64 (x7 + 1)) x109000 x109001 x109002)
end
def ostiarylaw6_MimeBack.f (k : Nat) (a0 : ByteArray) : Option (Bool) := (ostiarykeep_Few.f a0 500).bind fun t101 => ((mime_Parse.f t101).bind fun bt102 => (if bt102.2.2.2 = true then ((mime_Text.f bt102.1 bt102.2.1 bt102.2.2.1).bind fun t110 => ((mime_Parse.f t110).bind fun bt111 => (if bt111.2.2.2 = true then (if bt111.1.toList = bt102.1.toList then (if bt111.2.1.toList = bt102.2.1.toList then ((ostiarybook_Same_19.f k bt111.2.2.1 bt102.2.2.1).bind fun t118 => (ostiarylaw6_MimeBack.j0 k (!t118) bt102.1 bt102.2.1 bt102.2.2.1)) else (ostiarylaw6_MimeBack.j0 k true bt102.1 bt102.2.1 bt102.2.2.1)) else (ostiarylaw6_MimeBack.j0 k true bt102.1 bt102.2.1 bt102.2.2.1)) else (ostiarylaw6_MimeBack.j0 k true bt102.1 bt102.2.1 bt102.2.2.1)))) else (if bt102.1.toList = ([] : List UInt8) then (if bt102.2.1.toList = ([] : List UInt8) then (if (bt102.2.2.1.length : Int) = 0 then ((ostiarylaw6_known.f k).bind fun t109 => (some t109)) else (some false)) else (some false)) else (some false))))
theorem ostiarylaw6_MimeBack.mono_l : ∀ k, (∀ y0 y1 y2 y3, LeO (ostiarylaw6_MimeBack.j0 k y0 y1 y2 y3) (ostiarylaw6_MimeBack.j0 (k + 1) y0 y1 y2 y3)) ∧ (∀ y0 y1 y2 y3, LeO (ostiarylaw6_MimeBack.l0 k y0 y1 y2 y3) (ostiarylaw6_MimeBack.l0 (k + 1) y0 y1 y2 y3)) ∧ (∀ y0 y1 y2 y3 y4, LeO (ostiarylaw6_MimeBack.l1 k y0 y1 y2 y3 y4) (ostiarylaw6_MimeBack.l1 (k + 1) y0 y1 y2 y3 y4))
  | 0 => ⟨fun _ _ _ _ r h => by simp [ostiarylaw6_MimeBack.j0] at h, fun _ _ _ _ r h => by simp [ostiarylaw6_MimeBack.l0] at h, fun _ _ _ _ _ r h => by simp [ostiarylaw6_MimeBack.l1] at h⟩
  | k + 1 => by
    obtain ⟨ih0, ih1, ih2⟩ := ostiarylaw6_MimeBack.mono_l k
    refine ⟨?_, ?_, ?_⟩
    · intro y0 y1 y2 y3
      unfold ostiarylaw6_MimeBack.j0
      repeat' first
      | (with_reducible exact ih0 _ _ _ _)
      | (with_reducible exact ih1 _ _ _ _)
      | (with_reducible exact ih2 _ _ _ _ _)
      | (with_reducible exact ostiarybook_Same_19.mono _ _ _)
      | (with_reducible exact ostiarylaw6_known.mono _)
      | (with_reducible exact LeO.refl _)
      | (with_reducible exact LeO.none _)
      | (with_reducible refine LeO.ite ?_ ?_)
      | (with_reducible refine LeO.bind ?_ (fun _ => ?_))
      | exact ih0 _ _ _ _
      | exact ih1 _ _ _ _
      | exact ih2 _ _ _ _ _
      | exact ostiarybook_Same_19.mono _ _ _
      | exact ostiarylaw6_known.mono _
      | exact LeO.none _
      | refine LeO.ite ?_ ?_
      | refine LeO.bind ?_ (fun _ => ?_)
    · intro y0 y1 y2 y3
      unfold ostiarylaw6_MimeBack.l0
      repeat' first
      | (with_reducible exact ih0 _ _ _ _)
      | (with_reducible exact ih1 _ _ _ _)
      | (with_reducible exact ih2 _ _ _ _ _)
      | (with_reducible exact ostiarybook_Same_19.mono _ _ _)
      | (with_reducible exact ostiarylaw6_known.mono _)
      | (with_reducible exact LeO.refl _)
      | (with_reducible exact LeO.none _)
      | (with_reducible refine LeO.ite ?_ ?_)
      | (with_reducible refine LeO.bind ?_ (fun _ => ?_))
      | exact ih0 _ _ _ _
      | exact ih1 _ _ _ _
      | exact ih2 _ _ _ _ _
      | exact ostiarybook_Same_19.mono _ _ _
      | exact ostiarylaw6_known.mono _
      | exact LeO.none _
      | refine LeO.ite ?_ ?_
      | refine LeO.bind ?_ (fun _ => ?_)
    · intro y0 y1 y2 y3 y4
      unfold ostiarylaw6_MimeBack.l1
      repeat' first
      | (with_reducible exact ih0 _ _ _ _)
      | (with_reducible exact ih1 _ _ _ _)
      | (with_reducible exact ih2 _ _ _ _ _)
      | (with_reducible exact ostiarybook_Same_19.mono _ _ _)
      | (with_reducible exact ostiarylaw6_known.mono _)
      | (with_reducible exact LeO.refl _)
      | (with_reducible exact LeO.none _)
      | (with_reducible refine LeO.ite ?_ ?_)
      | (with_reducible refine LeO.bind ?_ (fun _ => ?_))
      | exact ih0 _ _ _ _
      | exact ih1 _ _ _ _
      | exact ih2 _ _ _ _ _
      | exact ostiarybook_Same_19.mono _ _ _
      | exact ostiarylaw6_known.mono _
      | exact LeO.none _
      | refine LeO.ite ?_ ?_
      | refine LeO.bind ?_ (fun _ => ?_)
theorem ostiarylaw6_MimeBack.mono : ∀ a0 k, LeO (ostiarylaw6_MimeBack.f k a0) (ostiarylaw6_MimeBack.f (k + 1) a0) := by
  intro a0 k
  obtain ⟨ih0, ih1, ih2⟩ := ostiarylaw6_MimeBack.mono_l k
  unfold ostiarylaw6_MimeBack.f
  repeat' first
      | (with_reducible exact ih0 _ _ _ _)
      | (with_reducible exact ih1 _ _ _ _)
      | (with_reducible exact ih2 _ _ _ _ _)
      | (with_reducible exact ostiarybook_Same_19.mono _ _ _)
      | (with_reducible exact ostiarylaw6_known.mono _)
      | (with_reducible exact LeO.refl _)
      | (with_reducible exact LeO.none _)
      | (with_reducible refine LeO.ite ?_ ?_)
      | (with_reducible refine LeO.bind ?_ (fun _ => ?_))
      | exact ih0 _ _ _ _
      | exact ih1 _ _ _ _
      | exact ih2 _ _ _ _ _
      | exact ostiarybook_Same_19.mono _ _ _
      | exact ostiarylaw6_known.mono _
      | exact LeO.none _
      | refine LeO.ite ?_ ?_
      | refine LeO.bind ?_ (fun _ => ?_)
end Go.Proofs.YteehjlciajhdoaaGreatDoor.X
namespace Go.Proofs.YteehjlciajhdoaaGreatDoor.X
set_option linter.unusedVariables false
set_option linter.unusedSimpArgs false
open Go.RowKit Go.Proofs.YteehjlciajhdoaaGreatDoorW.PrintWords Go.Proofs.YteehjlciajhdoaaGreatDoorW.PrintLast Go.Proofs.YteehjlciajhdoaaGreatDoorW.PrintMore
theorem known_ev : Ev (fun k => ostiarylaw6_known.f k) true := by
  have h : ostiarylaw6_known.f 100 = some true := by kernel_rfl
  exact Ev.of (fun k => ostiarylaw6_known.mono k) h
theorem parse_f (l : List UInt8) (hl : l.length ≤ 900000000) : mime_Parse.f (B l) = some (B (parseP l).1, B (parseP l).2.1, (parseP l).2.2.1, (parseP l).2.2.2) := by
  unfold mime_Parse.f
  rw [if_pos (by rw [size_B]; exact hl), Ls_B]
theorem text_f (mj mn : List UInt8) (ps : List Prm) (hv : ∀ p, p ∈ ps → p.f1.size ≤ 1000000000) (hl : (textL mj mn ps).length ≤ 1000000000000000) : mime_Text.f (B mj) (B mn) ps = some (B (textL mj mn ps)) := by
  unfold mime_Text.f
  rw [if_pos (by rw [List.all_eq_true]; exact fun p hp => decide_eq_true (hv p hp)), Ls_B, Ls_B, if_pos hl]
end Go.Proofs.YteehjlciajhdoaaGreatDoor.X
namespace Go.Proofs.YteehjlciajhdoaaGreatDoor.X
open Go.RowKit Go.Proofs.YteehjlciajhdoaaGreatDoorW.PrintWords Go.Proofs.YteehjlciajhdoaaGreatDoorW.PrintLast Go.Proofs.YteehjlciajhdoaaGreatDoorW.PrintMore
attribute [local go_sem] max2_int min2_int max_two min_two max_three min_three max_four min_four
set_option linter.unusedVariables false
set_option linter.unusedSimpArgs false
mutual
def ostiarylaw6_word.l0 : Nat → ByteArray → ByteArray → Int → Option (ByteArray)
  | 0, _, _, _ => none
  | k + 1, x0, x3, x4 => if x4 < (x0.size : Int) then (ostiarylaw6_word.j1 k x0 x3 x4 (decide ((x3.size : Int) < 12))) else (ostiarylaw6_word.j1 k x0 x3 x4 false)
def ostiarylaw6_word.j1 : Nat → ByteArray → ByteArray → Int → Bool → Option (ByteArray)
  | 0, _, _, _, _ => none
  | k + 1, x0, x3, x4, x13 => if x13 = true then (if 0 ≤ x4 then (if x4 < (x0.size : Int) then (if (bt x0 x4) ≥ 97 then (if (bt x0 x4) ≤ 122 then (if x4 ≤ (wrap64 (x4 + 1)) then (if (wrap64 (x4 + 1)) ≤ (x0.size : Int) then (if x3.size + (x0.extract (x4 : Int).toNat ((wrap64 (x4 + 1)) : Int).toNat).size ≤ 9223372036854775807 then (ostiarylaw6_word.l0 k x0 (x3 ++ (x0.extract (x4 : Int).toNat ((wrap64 (x4 + 1)) : Int).toNat)) (wrap64 (x4 + 1))) else (none)) else (none)) else (none)) else (ostiarylaw6_word.l0 k x0 x3 (wrap64 (x4 + 1)))) else (ostiarylaw6_word.l0 k x0 x3 (wrap64 (x4 + 1)))) else (none)) else (none)) else (some x3)
end
def ostiarylaw6_word.f (k : Nat) (a0 : ByteArray) : Option (ByteArray) := ostiarylaw6_word.l0 k a0 (⟨#[113]⟩ : ByteArray) 0
theorem ostiarylaw6_word.mono_l : ∀ k, (∀ y0 y1 y2, LeO (ostiarylaw6_word.l0 k y0 y1 y2) (ostiarylaw6_word.l0 (k + 1) y0 y1 y2)) ∧ (∀ y0 y1 y2 y3, LeO (ostiarylaw6_word.j1 k y0 y1 y2 y3) (ostiarylaw6_word.j1 (k + 1) y0 y1 y2 y3))
  | 0 => ⟨fun _ _ _ r h => by simp [ostiarylaw6_word.l0] at h, fun _ _ _ _ r h => by simp [ostiarylaw6_word.j1] at h⟩
  | k + 1 => by
    obtain ⟨ih0, ih1⟩ := ostiarylaw6_word.mono_l k
    refine ⟨?_, ?_⟩
    · intro y0 y1 y2
      unfold ostiarylaw6_word.l0
      repeat' first
      | (with_reducible exact ih0 _ _ _)
      | (with_reducible exact ih1 _ _ _ _)
      | (with_reducible exact LeO.refl _)
      | (with_reducible exact LeO.none _)
      | (with_reducible refine LeO.ite ?_ ?_)
      | (with_reducible refine LeO.bind ?_ (fun _ => ?_))
      | exact ih0 _ _ _
      | exact ih1 _ _ _ _
      | exact LeO.none _
      | refine LeO.ite ?_ ?_
      | refine LeO.bind ?_ (fun _ => ?_)
    · intro y0 y1 y2 y3
      unfold ostiarylaw6_word.j1
      repeat' first
      | (with_reducible exact ih0 _ _ _)
      | (with_reducible exact ih1 _ _ _ _)
      | (with_reducible exact LeO.refl _)
      | (with_reducible exact LeO.none _)
      | (with_reducible refine LeO.ite ?_ ?_)
      | (with_reducible refine LeO.bind ?_ (fun _ => ?_))
      | exact ih0 _ _ _
      | exact ih1 _ _ _ _
      | exact LeO.none _
      | refine LeO.ite ?_ ?_
      | refine LeO.bind ?_ (fun _ => ?_)
theorem ostiarylaw6_word.mono : ∀ a0 k, LeO (ostiarylaw6_word.f k a0) (ostiarylaw6_word.f (k + 1) a0) := by
  intro a0 k
  obtain ⟨ih0, ih1⟩ := ostiarylaw6_word.mono_l k
  unfold ostiarylaw6_word.f
  repeat' first
      | (with_reducible exact ih0 _ _ _)
      | (with_reducible exact ih1 _ _ _ _)
      | (with_reducible exact LeO.refl _)
      | (with_reducible exact LeO.none _)
      | (with_reducible refine LeO.ite ?_ ?_)
      | (with_reducible refine LeO.bind ?_ (fun _ => ?_))
      | exact ih0 _ _ _
      | exact ih1 _ _ _ _
      | exact LeO.none _
      | refine LeO.ite ?_ ?_
      | refine LeO.bind ?_ (fun _ => ?_)
set_option maxHeartbeats 8000000 in
set_option maxRecDepth 100000 in
theorem ostiarylaw6_word.calls (k : Nat) (a0 : ByteArray) (r : ByteArray) (w : World) (h : ostiarylaw6_word.f k a0 = some r) :
    Calls Tryz.prog 25 #[.string a0] w fun e w' => e = .returned (.string r) ∧ Drawn0 w w' := by
  have H : (ostiarylaw6_word.l0 k a0 (⟨#[113]⟩ : ByteArray) 0) = some r := h
  clear h
  have H' := Aside0.mk H
  clear H
  go_enter Tryz.func25, Tryz.ntmps25
  go_wp2
  go_loopg [3, 4] k (fun kq v3 v4 w' => ∃ (x3_1 : ByteArray) (x4_1 : Int), v3 = .string x3_1 ∧ v4 = .int .i64 x4_1 ∧ Aside0 (ostiarylaw6_word.l0 kq a0 x3_1 x4_1 = some r) ∧ Aside0 (kq ≤ k) ∧ Drawn0 w w')
  case atStart => exact ⟨((⟨#[113]⟩ : ByteArray)), (0), (by first | rfl | (simp; done) | (simp [*]; done)), (by first | rfl | (simp; done) | (simp [*]; done)), H', ⟨Nat.le_refl _⟩, by repeat (first | exact Drawn0.refl _ | apply Drawn0.step)⟩
  case round =>
    clear H'
    obtain ⟨x3_1, x4_1, rfl, rfl, HA, HK1, ⟨m1, rfl⟩⟩ := hrel
    cases gk with
    | zero => exact absurd HA.out (by simp [ostiarylaw6_word.l0])
    | succ k1 =>
      have H := HA.out
      clear HA
      simp only [ostiarylaw6_word.l0] at H
      have HC2 := Aside0.mk H
      clear H
      go_upto_region 3 with (fail)
      go_cut [13] (fun v13 wc => ∃ (kq : Nat) (x13_1 : Bool), v13 = .bool x13_1 ∧ Aside0 (ostiarylaw6_word.j1 kq a0 x3_1 x4_1 x13_1 = some r) ∧ Aside0 (kq ≤ k1) ∧ Drawn0 w wc)
      case first =>
        have H := HC2.out
        clear HC2
        by_cases c3 : x4_1 < (a0.size : Int)
        · rw [if_pos c3] at H
          have c3b0 : decide (x4_1 < (a0.size : Int)) = true := decide_eq_true c3
          clear c3
          (first | rw [c3b0] | (simp only [i64_w, i32_w]; rw [c3b0]) | skip)
          have H' := Aside0.mk H
          clear H
          go_wp2
          go_meet
          case rel => exact ⟨_, (decide ((x3_1.size : Int) < 12)), (by first | rfl | (simp; done) | (simp [*]; done)), H', ⟨by have := HK1.out; first | omega | exact Nat.le_refl _⟩, by repeat (first | exact Drawn0.refl _ | apply Drawn0.step)⟩
        · rw [if_neg c3] at H
          have c3b0 : decide (x4_1 < (a0.size : Int)) = false := decide_eq_false c3
          clear c3
          (first | rw [c3b0] | (simp only [i64_w, i32_w]; rw [c3b0]) | skip)
          have H' := Aside0.mk H
          clear H
          go_wp2
          go_meet
          case rel => exact ⟨_, (false), (by first | rfl | (simp; done) | (simp [*]; done)), H', ⟨by have := HK1.out; first | omega | exact Nat.le_refl _⟩, by repeat (first | exact Drawn0.refl _ | apply Drawn0.step)⟩
      case rest =>
        clear HC2
        try clear c2
        try clear p2
        try clear c3
        try clear c3b0
        obtain ⟨kq, x13_1, rfl, HA, HJ1, ⟨mc1, rfl⟩⟩ := hcut
        cases kq with
        | zero => exact absurd HA.out (by simp [ostiarylaw6_word.j1])
        | succ kj1 =>
          have H := HA.out
          clear HA
          simp only [ostiarylaw6_word.j1] at H
          by_cases c4 : x13_1 = true
          · subst c4
            have H1 : (if 0 ≤ x4_1 then (if x4_1 < (a0.size : Int) then (if (bt a0 x4_1) ≥ 97 then (if (bt a0 x4_1) ≤ 122 then (if x4_1 ≤ (wrap64 (x4_1 + 1)) then (if (wrap64 (x4_1 + 1)) ≤ (a0.size : Int) then (if x3_1.size + (a0.extract (x4_1 : Int).toNat ((wrap64 (x4_1 + 1)) : Int).toNat).size ≤ 9223372036854775807 then (ostiarylaw6_word.l0 kj1 a0 (x3_1 ++ (a0.extract (x4_1 : Int).toNat ((wrap64 (x4_1 + 1)) : Int).toNat)) (wrap64 (x4_1 + 1))) else (none)) else (none)) else (none)) else (ostiarylaw6_word.l0 kj1 a0 x3_1 (wrap64 (x4_1 + 1)))) else (ostiarylaw6_word.l0 kj1 a0 x3_1 (wrap64 (x4_1 + 1)))) else (none)) else (none)) = some r := by rw [if_pos rfl] at H; exact H
            clear H
            have H := H1
            clear H1
            by_cases c5 : 0 ≤ x4_1
            · rw [if_pos c5] at H
              have c5b0 : decide (0 ≤ x4_1) = true := decide_eq_true c5
              clear c5
              by_cases c6 : x4_1 < (a0.size : Int)
              · rw [if_pos c6] at H
                have c6b0 : decide (x4_1 < (a0.size : Int)) = true := decide_eq_true c6
                clear c6
                by_cases c8 : (bt a0 x4_1) ≥ 97
                · rw [if_pos c8] at H
                  have c8b0 : decide (97 ≤ (bt a0 x4_1)) = true := decide_eq_true c8
                  clear c8
                  by_cases c10 : (bt a0 x4_1) ≤ 122
                  · rw [if_pos c10] at H
                    have c10b0 : decide ((bt a0 x4_1) ≤ 122) = true := decide_eq_true c10
                    clear c10
                    have c11b0 := eq_true (of_decide_eq_true (by first | (with_reducible assumption) | assumption) : 0 ≤ x4_1)
                    by_cases c12 : x4_1 ≤ (wrap64 (x4_1 + 1))
                    · rw [if_pos c12] at H
                      have c12b0 := eq_true c12
                      have c12b1 : decide (x4_1 ≤ (wrap64 (x4_1 + 1))) = true := decide_eq_true c12
                      by_cases c13 : (wrap64 (x4_1 + 1)) ≤ (a0.size : Int)
                      · rw [if_pos c13] at H
                        have c13b0 := eq_true c13
                        have c13b1 : decide ((wrap64 (x4_1 + 1)) ≤ (a0.size : Int)) = true := decide_eq_true c13
                        by_cases c14 : x3_1.size + (a0.extract (x4_1 : Int).toNat ((wrap64 (x4_1 + 1)) : Int).toNat).size ≤ 9223372036854775807
                        · rw [if_pos c14] at H
                          have c14b0 := eq_true c14
                          have c14b1 : decide (x3_1.size + (a0.extract (x4_1 : Int).toNat ((wrap64 (x4_1 + 1)) : Int).toNat).size ≤ 9223372036854775807) = true := decide_eq_true c14
                          try have c14b2 : (9223372036854775807 < x3_1.size + (a0.extract (x4_1 : Int).toNat ((wrap64 (x4_1 + 1)) : Int).toNat).size) = False := eq_false (Nat.not_lt.2 c14)
                          have H' := Aside0.mk H
                          clear H
                          have p7 : 0 ≤ (x4_1 : Int) := of_decide_eq_true (by first | (with_reducible assumption) | assumption)
                          have q7 : x4_1 < (a0.size : Int) := of_decide_eq_true (by first | (with_reducible assumption) | assumption)
                          have hx7 := bt_at a0 x4_1
                          replace p7 := eq_true p7
                          replace q7 := eq_true q7
                          have p9 : 0 ≤ (x4_1 : Int) := of_decide_eq_true (by first | (with_reducible assumption) | assumption)
                          have q9 : x4_1 < (a0.size : Int) := of_decide_eq_true (by first | (with_reducible assumption) | assumption)
                          have hx9 := bt_at a0 x4_1
                          replace p9 := eq_true p9
                          replace q9 := eq_true q9
                          go_wp2
                          go_roundg kj1
                          case measure => have := HK1.out; have := HJ1.out; omega
                          case rel => exact ⟨(x3_1 ++ (a0.extract (x4_1 : Int).toNat ((wrap64 (x4_1 + 1)) : Int).toNat)), (wrap64 (x4_1 + 1)), (by first | rfl | (simp; done) | (simp [*]; done)), (by first | rfl | (simp; done) | (simp [*]; done)), H', ⟨by have := HK1.out; have := HJ1.out; omega⟩, by repeat (first | exact Drawn0.refl _ | apply Drawn0.step)⟩
                        · rw [if_neg c14] at H
                          exact absurd H (by simp)
                      · rw [if_neg c13] at H
                        exact absurd H (by simp)
                    · rw [if_neg c12] at H
                      exact absurd H (by simp)
                  · rw [if_neg c10] at H
                    have c10b0 : decide ((bt a0 x4_1) ≤ 122) = false := decide_eq_false c10
                    clear c10
                    have H' := Aside0.mk H
                    clear H
                    have p7 : 0 ≤ (x4_1 : Int) := of_decide_eq_true (by first | (with_reducible assumption) | assumption)
                    have q7 : x4_1 < (a0.size : Int) := of_decide_eq_true (by first | (with_reducible assumption) | assumption)
                    have hx7 := bt_at a0 x4_1
                    replace p7 := eq_true p7
                    replace q7 := eq_true q7
                    have p9 : 0 ≤ (x4_1 : Int) := of_decide_eq_true (by first | (with_reducible assumption) | assumption)
                    have q9 : x4_1 < (a0.size : Int) := of_decide_eq_true (by first | (with_reducible assumption) | assumption)
                    have hx9 := bt_at a0 x4_1
                    replace p9 := eq_true p9
                    replace q9 := eq_true q9
                    go_wp2
                    go_roundg kj1
                    case measure => have := HK1.out; have := HJ1.out; omega
                    case rel => exact ⟨(x3_1), (wrap64 (x4_1 + 1)), (by first | rfl | (simp; done) | (simp [*]; done)), (by first | rfl | (simp; done) | (simp [*]; done)), H', ⟨by have := HK1.out; have := HJ1.out; omega⟩, by repeat (first | exact Drawn0.refl _ | apply Drawn0.step)⟩
                · rw [if_neg c8] at H
                  have c8b0 : decide (97 ≤ (bt a0 x4_1)) = false := decide_eq_false c8
                  clear c8
                  have H' := Aside0.mk H
                  clear H
                  have p7 : 0 ≤ (x4_1 : Int) := of_decide_eq_true (by first | (with_reducible assumption) | assumption)
                  have q7 : x4_1 < (a0.size : Int) := of_decide_eq_true (by first | (with_reducible assumption) | assumption)
                  have hx7 := bt_at a0 x4_1
                  replace p7 := eq_true p7
                  replace q7 := eq_true q7
                  go_wp2
                  go_roundg kj1
                  case measure => have := HK1.out; have := HJ1.out; omega
                  case rel => exact ⟨(x3_1), (wrap64 (x4_1 + 1)), (by first | rfl | (simp; done) | (simp [*]; done)), (by first | rfl | (simp; done) | (simp [*]; done)), H', ⟨by have := HK1.out; have := HJ1.out; omega⟩, by repeat (first | exact Drawn0.refl _ | apply Drawn0.step)⟩
              · rw [if_neg c6] at H
                exact absurd H (by simp)
            · rw [if_neg c5] at H
              exact absurd H (by simp)
          · replace c4 := Bool.eq_false_iff.mpr c4
            subst c4
            have H1 : (some x3_1) = some r := by rw [if_neg (show ¬ (false = true) by decide)] at H; exact H
            clear H
            have H := H1
            clear H1
            obtain rfl := Option.some.inj H
            go_wp2
            go_ret
            exact ⟨by first | rfl | (simp; done) | (simp [*]; done), by repeat (first | exact Drawn0.refl _ | apply Drawn0.step)⟩
end Go.Proofs.YteehjlciajhdoaaGreatDoor.X
namespace Go.Proofs.YteehjlciajhdoaaGreatDoor.X
open Go.RowKit Go.Proofs.YteehjlciajhdoaaGreatDoorW.PrintWords Go.Proofs.YteehjlciajhdoaaGreatDoorW.PrintLast Go.Proofs.YteehjlciajhdoaaGreatDoorW.PrintMore
attribute [local go_sem] max2_int min2_int max_two min_two max_three min_three max_four min_four
set_option linter.unusedVariables false
set_option linter.unusedSimpArgs false
mutual
def ostiarylaw6_MimeParams.l0 : Nat → ByteArray → ByteArray → ByteArray → Int → Option (Bool)
  | 0, _, _, _, _ => none
  | k + 1, x0, x1, x5, x6 => if x6 < (x1.size : Int) then (ostiarylaw6_MimeParams.j1 k x0 x1 x5 x6 (decide ((x5.size : Int) < 60))) else (ostiarylaw6_MimeParams.j1 k x0 x1 x5 x6 false)
def ostiarylaw6_MimeParams.j1 : Nat → ByteArray → ByteArray → ByteArray → Int → Bool → Option (Bool)
  | 0, _, _, _, _, _ => none
  | k + 1, x0, x1, x5, x6, x18 => if x18 = true then (if 0 ≤ x6 then (if x6 < (x1.size : Int) then (if (bt x1 x6) = 9 then (if x6 ≤ (wrap64 (x6 + 1)) then (if (wrap64 (x6 + 1)) ≤ (x1.size : Int) then (if x5.size + (x1.extract (x6 : Int).toNat ((wrap64 (x6 + 1)) : Int).toNat).size ≤ 9223372036854775807 then (ostiarylaw6_MimeParams.l0 k x0 x1 (x5 ++ (x1.extract (x6 : Int).toNat ((wrap64 (x6 + 1)) : Int).toNat)) (wrap64 (x6 + 1))) else (none)) else (none)) else (none)) else (if (bt x1 x6) ≥ 32 then (if (bt x1 x6) = 127 then (ostiarylaw6_MimeParams.l0 k x0 x1 x5 (wrap64 (x6 + 1))) else (if x6 ≤ (wrap64 (x6 + 1)) then (if (wrap64 (x6 + 1)) ≤ (x1.size : Int) then (if x5.size + (x1.extract (x6 : Int).toNat ((wrap64 (x6 + 1)) : Int).toNat).size ≤ 9223372036854775807 then (ostiarylaw6_MimeParams.l0 k x0 x1 (x5 ++ (x1.extract (x6 : Int).toNat ((wrap64 (x6 + 1)) : Int).toNat)) (wrap64 (x6 + 1))) else (none)) else (none)) else (none))) else (ostiarylaw6_MimeParams.l0 k x0 x1 x5 (wrap64 (x6 + 1))))) else (none)) else (none)) else ((ostiarylaw6_word.f k x0).bind fun t101 => ((some (([(⟨t101, x5⟩ : S32)] : List (S32)) : List (S32))).bind fun y102 => ((mime_Text.f (⟨#[97]⟩ : ByteArray) (⟨#[98]⟩ : ByteArray) y102).bind fun t106 => ((mime_Parse.f t106).bind fun bt107 => (if bt107.2.2.2 = true then ((ostiarybook_Same_19.f k bt107.2.2.1 y102).bind fun t114 => (if t114 = true then ((ostiarylaw6_known.f k).bind fun t115 => (some t115)) else (some false))) else (some false))))))
end
def ostiarylaw6_MimeParams.f (k : Nat) (a0 : ByteArray) (a1 : ByteArray) : Option (Bool) := ostiarylaw6_MimeParams.l0 k a0 a1 (⟨#[]⟩ : ByteArray) 0
theorem ostiarylaw6_MimeParams.mono_l : ∀ k, (∀ y0 y1 y2 y3, LeO (ostiarylaw6_MimeParams.l0 k y0 y1 y2 y3) (ostiarylaw6_MimeParams.l0 (k + 1) y0 y1 y2 y3)) ∧ (∀ y0 y1 y2 y3 y4, LeO (ostiarylaw6_MimeParams.j1 k y0 y1 y2 y3 y4) (ostiarylaw6_MimeParams.j1 (k + 1) y0 y1 y2 y3 y4))
  | 0 => ⟨fun _ _ _ _ r h => by simp [ostiarylaw6_MimeParams.l0] at h, fun _ _ _ _ _ r h => by simp [ostiarylaw6_MimeParams.j1] at h⟩
  | k + 1 => by
    obtain ⟨ih0, ih1⟩ := ostiarylaw6_MimeParams.mono_l k
    refine ⟨?_, ?_⟩
    · intro y0 y1 y2 y3
      unfold ostiarylaw6_MimeParams.l0
      repeat' first
      | (with_reducible exact ih0 _ _ _ _)
      | (with_reducible exact ih1 _ _ _ _ _)
      | (with_reducible exact ostiarybook_Same_19.mono _ _ _)
      | (with_reducible exact ostiarylaw6_known.mono _)
      | (with_reducible exact ostiarylaw6_word.mono _ _)
      | (with_reducible exact LeO.refl _)
      | (with_reducible exact LeO.none _)
      | (with_reducible refine LeO.ite ?_ ?_)
      | (with_reducible refine LeO.bind ?_ (fun _ => ?_))
      | exact ih0 _ _ _ _
      | exact ih1 _ _ _ _ _
      | exact ostiarybook_Same_19.mono _ _ _
      | exact ostiarylaw6_known.mono _
      | exact ostiarylaw6_word.mono _ _
      | exact LeO.none _
      | refine LeO.ite ?_ ?_
      | refine LeO.bind ?_ (fun _ => ?_)
    · intro y0 y1 y2 y3 y4
      unfold ostiarylaw6_MimeParams.j1
      repeat' first
      | (with_reducible exact ih0 _ _ _ _)
      | (with_reducible exact ih1 _ _ _ _ _)
      | (with_reducible exact ostiarybook_Same_19.mono _ _ _)
      | (with_reducible exact ostiarylaw6_known.mono _)
      | (with_reducible exact ostiarylaw6_word.mono _ _)
      | (with_reducible exact LeO.refl _)
      | (with_reducible exact LeO.none _)
      | (with_reducible refine LeO.ite ?_ ?_)
      | (with_reducible refine LeO.bind ?_ (fun _ => ?_))
      | exact ih0 _ _ _ _
      | exact ih1 _ _ _ _ _
      | exact ostiarybook_Same_19.mono _ _ _
      | exact ostiarylaw6_known.mono _
      | exact ostiarylaw6_word.mono _ _
      | exact LeO.none _
      | refine LeO.ite ?_ ?_
      | refine LeO.bind ?_ (fun _ => ?_)
theorem ostiarylaw6_MimeParams.mono : ∀ a0 a1 k, LeO (ostiarylaw6_MimeParams.f k a0 a1) (ostiarylaw6_MimeParams.f (k + 1) a0 a1) := by
  intro a0 a1 k
  obtain ⟨ih0, ih1⟩ := ostiarylaw6_MimeParams.mono_l k
  unfold ostiarylaw6_MimeParams.f
  repeat' first
      | (with_reducible exact ih0 _ _ _ _)
      | (with_reducible exact ih1 _ _ _ _ _)
      | (with_reducible exact ostiarybook_Same_19.mono _ _ _)
      | (with_reducible exact ostiarylaw6_known.mono _)
      | (with_reducible exact ostiarylaw6_word.mono _ _)
      | (with_reducible exact LeO.refl _)
      | (with_reducible exact LeO.none _)
      | (with_reducible refine LeO.ite ?_ ?_)
      | (with_reducible refine LeO.bind ?_ (fun _ => ?_))
      | exact ih0 _ _ _ _
      | exact ih1 _ _ _ _ _
      | exact ostiarybook_Same_19.mono _ _ _
      | exact ostiarylaw6_known.mono _
      | exact ostiarylaw6_word.mono _ _
      | exact LeO.none _
      | refine LeO.ite ?_ ?_
      | refine LeO.bind ?_ (fun _ => ?_)
end Go.Proofs.YteehjlciajhdoaaGreatDoor.X
namespace Go.Proofs.YteehjlciajhdoaaGreatDoor.X
set_option linter.unusedVariables false
set_option linter.unusedSimpArgs false
open Go.RowKit Go.Proofs.YteehjlciajhdoaaGreatDoorW.PrintWords Go.Proofs.YteehjlciajhdoaaGreatDoorW.PrintLast Go.Proofs.YteehjlciajhdoaaGreatDoorW.PrintMore
theorem extract_one (a : List UInt8) (i : Nat) (h : i < a.length) : (B a).extract (i : Int).toNat (((i + 1 : Nat) : Int)).toNat = B [a[i]] := by
  rw [Int.toNat_natCast, Int.toNat_natCast, B_extract, List.take_succ_eq_append_getElem h, List.drop_append, List.drop_of_length_le (by simp; omega)]
  simp [List.length_take, Nat.min_eq_left (Nat.le_of_lt h)]
structure Wd (l : List UInt8) : Prop where
  small : ∀ c, c ∈ l → 97 ≤ c.toNat ∧ c.toNat ≤ 122
  ne : l ≠ []
  len : l.length ≤ 12
theorem letter_tok : ∀ c : UInt8, 97 ≤ c.toNat ∧ c.toNat ≤ 122 → tokc c = true ∧ lowc c = c := u8_all (by decide +kernel)
theorem Wd.tok {l : List UInt8} (h : Wd l) : isTok l = true := (isTok_iff l).2 ⟨fun c hc => (letter_tok c (h.small c hc)).1, h.ne⟩
theorem Wd.low {l : List UInt8} (h : Wd l) : lows l = l := by
  unfold lows
  conv => rhs; rw [← List.map_id l]
  exact List.map_congr_left (fun c hc => (letter_tok c (h.small c hc)).2)
theorem word_l0 (a : List UInt8) (ha : a.length ≤ 4611686018427387904) : ∀ (n i : Nat) (out : List UInt8), i + n = a.length → Wd out → ∃ l, Wd l ∧ Ev (fun k => ostiarylaw6_word.l0 k (B a) (B out) (i : Int)) (B l)
  | 0, i, out, h, hw => by
    refine ⟨out, hw, Ev.step (f := fun k => ostiarylaw6_word.j1 k (B a) (B out) (i : Int) false) (fun k => ?_) (Ev.step (f := fun _ => some (B out)) (fun k => ?_) (Ev.now _))⟩
    · simp only [ostiarylaw6_word.l0]
      rw [if_neg (by rw [size_B]; omega)]
    · simp only [ostiarylaw6_word.j1]
      rw [if_neg (by decide)]
  | n + 1, i, out, h, hw => by
    have hi : i < a.length := by omega
    by_cases hl : out.length < 12
    · have hstep : ∀ k, ostiarylaw6_word.l0 (k + 1) (B a) (B out) (i : Int) = ostiarylaw6_word.j1 k (B a) (B out) (i : Int) true := fun k => by
        simp only [ostiarylaw6_word.l0]
        rw [if_pos (by rw [size_B]; omega), decide_eq_true (by rw [size_B]; omega)]
      have hb : bt (B a) (i : Int) = ((a[i]).toNat : Int) := bt_B a i hi
      have hw1 : wrap64 ((i : Int) + 1) = ((i + 1 : Nat) : Int) := by rw [w64 (by omega) (by omega)]; rfl
      by_cases hc : 97 ≤ (a[i]).toNat ∧ (a[i]).toNat ≤ 122
      · obtain ⟨l, h1, h2⟩ := word_l0 a ha n (i + 1) (out ++ [a[i]]) (by omega) ⟨fun c hc2 => by
          rcases List.mem_append.1 hc2 with h3 | h3
          · exact hw.small c h3
          · rw [List.mem_singleton.1 h3]; exact hc, by simp, by simp; omega⟩
        refine ⟨l, h1, Ev.step hstep (Ev.step (f := fun k => ostiarylaw6_word.l0 k (B a) (B (out ++ [a[i]])) ((i + 1 : Nat) : Int)) (fun k => ?_) h2)⟩
        simp only [ostiarylaw6_word.j1]
        rw [if_pos trivial, if_pos (by omega), if_pos (by rw [size_B]; omega), hb, if_pos (by omega), if_pos (by omega), hw1, if_pos (by omega), if_pos (by rw [size_B]; omega), extract_one a i hi, if_pos (by rw [size_B, size_B]; simp; omega), B_append]
      · obtain ⟨l, h1, h2⟩ := word_l0 a ha n (i + 1) out (by omega) hw
        refine ⟨l, h1, Ev.step hstep (Ev.step (f := fun k => ostiarylaw6_word.l0 k (B a) (B out) ((i + 1 : Nat) : Int)) (fun k => ?_) h2)⟩
        simp only [ostiarylaw6_word.j1]
        rw [if_pos trivial, if_pos (by omega), if_pos (by rw [size_B]; omega), hb, hw1]
        by_cases h97 : 97 ≤ (a[i]).toNat
        · rw [if_pos (by omega), if_neg (by omega)]
        · rw [if_neg (by omega)]
    · refine ⟨out, hw, Ev.step (f := fun k => ostiarylaw6_word.j1 k (B a) (B out) (i : Int) false) (fun k => ?_) (Ev.step (f := fun _ => some (B out)) (fun k => ?_) (Ev.now _))⟩
      · simp only [ostiarylaw6_word.l0]
        rw [if_pos (by rw [size_B]; omega), decide_eq_false (by rw [size_B]; omega)]
      · simp only [ostiarylaw6_word.j1]
        rw [if_neg (by decide)]
theorem word_ev (a : ByteArray) (ha : a.size ≤ 4611686018427387904) : ∃ l, Wd l ∧ Ev (fun k => ostiarylaw6_word.f k a) (B l) := by
  have := word_l0 (Ls a) (by rw [← size_Ls]; exact ha) (Ls a).length 0 [113] (by omega) ⟨by decide, by decide, by decide⟩
  rw [B_Ls] at this
  exact this
end Go.Proofs.YteehjlciajhdoaaGreatDoor.X
namespace Go.Proofs.YteehjlciajhdoaaGreatDoor.X
set_option linter.unusedVariables false
set_option linter.unusedSimpArgs false
open Go.RowKit Go.Proofs.YteehjlciajhdoaaGreatDoorW.PrintWords Go.Proofs.YteehjlciajhdoaaGreatDoorW.PrintLast Go.Proofs.YteehjlciajhdoaaGreatDoorW.PrintMore
abbrev Hdr := S55
abbrev tight : List UInt8 := [9, 32]
theorem tight_ev (l : List UInt8) (h : l.length ≤ 9223372036854775807) : strings_Trim.f (B l) (B tight) = some (B (Lib.trimS l tight)) := by
  unfold strings_Trim.f
  rw [if_pos (by rw [size_B]; exact h), if_pos (by decide), if_pos (by decide)]
def splitQ : Bool → List UInt8 → List UInt8 → List (List UInt8)
  | _, cur, [] => [Lib.trimS cur tight]
  | q, cur, c :: r => if c = 34 then splitQ (!q) (cur ++ [c]) r else if q = true then (if c = 92 then (match r with
      | [] => [Lib.trimS (cur ++ [c]) tight]
      | d :: r' => splitQ q (cur ++ [c, d]) r') else splitQ q (cur ++ [c]) r) else if c = 44 then Lib.trimS cur tight :: splitQ false [] r else splitQ q (cur ++ [c]) r
theorem splitQ_nil (q : Bool) (cur : List UInt8) : splitQ q cur [] = [Lib.trimS cur tight] := by unfold splitQ; rfl
theorem splitQ_quote (q : Bool) (cur r : List UInt8) {c : UInt8} (h : c = 34) : splitQ q cur (c :: r) = splitQ (!q) (cur ++ [c]) r := by
  conv => lhs; unfold splitQ
  rw [if_pos h]
theorem splitQ_last (cur : List UInt8) {c : UInt8} (h : c = 92) : splitQ true cur [c] = [Lib.trimS (cur ++ [c]) tight] := by
  subst h
  conv => lhs; unfold splitQ
  rfl
theorem splitQ_esc (cur r : List UInt8) {c : UInt8} (d : UInt8) (h : c = 92) : splitQ true cur (c :: d :: r) = splitQ true (cur ++ [c, d]) r := by
  subst h
  conv => lhs; unfold splitQ
  rfl
theorem splitQ_in (cur r : List UInt8) {c : UInt8} (h1 : c ≠ 34) (h2 : c ≠ 92) : splitQ true cur (c :: r) = splitQ true (cur ++ [c]) r := by
  conv => lhs; unfold splitQ
  rw [if_neg h1, if_pos rfl, if_neg h2]
theorem splitQ_com (cur r : List UInt8) {c : UInt8} (h : c = 44) : splitQ false cur (c :: r) = Lib.trimS cur tight :: splitQ false [] r := by
  subst h
  conv => lhs; unfold splitQ
  rfl
theorem splitQ_out (cur r : List UInt8) {c : UInt8} (h1 : c ≠ 34) (h2 : c ≠ 44) : splitQ false cur (c :: r) = splitQ false (cur ++ [c]) r := by
  conv => lhs; unfold splitQ
  rw [if_neg h1, if_neg (by decide), if_neg h2]
theorem ne_int' {c m : UInt8} {n : Int} (h : c ≠ m) (hm : (m.toNat : Int) = n) : ¬ ((c.toNat : Int) = n) := fun e => h (u8_ext (e.trans hm.symm))
theorem extract_drop (a : List UInt8) (i : Nat) : (B a).extract (i : Int).toNat (B a).size = B (a.drop i) := by
  rw [Int.toNat_natCast, B_extract, size_B, List.take_length]
theorem extract_mid (pre cur r : List UInt8) : (B (pre ++ (cur ++ r))).extract (pre.length : Int).toNat ((pre.length + cur.length : Nat) : Int).toNat = B cur := by
  rw [Int.toNat_natCast, Int.toNat_natCast, B_extract]
  congr 2
  rw [List.take_append, List.take_of_length_le (by omega), show pre.length + cur.length - pre.length = cur.length from by omega, List.take_append, List.take_of_length_le (Nat.le_refl _), Nat.sub_self]
  simp
section
variable (pre cur r : List UInt8) (ps : List ByteArray) (c d : UInt8) (R : List ByteArray × Bool)
theorem spl_bt : bt (B (pre ++ (cur ++ c :: r))) ((pre.length + cur.length : Nat) : Int) = (c.toNat : Int) := by
  rw [show pre ++ (cur ++ c :: r) = (pre ++ cur) ++ c :: r from by simp]
  exact bt_mid' _ _ _ _ (by simp)
theorem spl_lt : ((pre.length + cur.length : Nat) : Int) < ((B (pre ++ (cur ++ c :: r))).size : Int) := by rw [size_B]; simp; omega
theorem spl_w (hs : pre.length + cur.length + 1 ≤ 1000000000000) : wrap64 (((pre.length + cur.length : Nat) : Int) + 1) = ((pre.length + (cur ++ [c]).length : Nat) : Int) := by rw [w64 (by omega) (by omega)]; simp; omega
theorem spl_end (q : Bool) (i : Nat) (hi : (pre ++ cur).length ≤ i) (hc : cur.length ≤ 1000000000010) (hp : ps.length ≤ 1000000000000) :
    Ev (fun k => headers_Split.l0 k (B (pre ++ cur)) ps q (pre.length : Int) (i : Int)) (ps ++ [B (Lib.trimS cur tight)], true) := by
  have h0 : ¬ ((i : Int) < ((B (pre ++ cur)).size : Int)) := by rw [size_B]; omega
  have h1 : (pre.length : Int) ≤ ((B (pre ++ cur)).size : Int) := by rw [size_B, List.length_append]; omega
  refine Ev.step (f := fun _ => some (ps ++ [B (Lib.trimS cur tight)], true)) (fun k => ?_) (Ev.now _)
  simp only [headers_Split.l0]
  rw [if_neg h0, if_pos (by omega), if_pos h1, extract_drop, List.drop_left, tight_ev _ (by omega)]
  simp only [Option.bind_some]
  rw [if_pos (by omega)]
variable {pre cur r ps c d R}
theorem spl_quote {q : Bool} (h : c = 34) (hs : pre.length + cur.length + 1 ≤ 1000000000000)
    (hk : Ev (fun k => headers_Split.l0 k (B (pre ++ (cur ++ c :: r))) ps (!q) (pre.length : Int) ((pre.length + (cur ++ [c]).length : Nat) : Int)) R) :
    Ev (fun k => headers_Split.l0 k (B (pre ++ (cur ++ c :: r))) ps q (pre.length : Int) ((pre.length + cur.length : Nat) : Int)) R := by
  refine Ev.step (fun k => ?_) hk
  simp only [headers_Split.l0]
  rw [if_pos (spl_lt ..), if_pos (by omega), spl_bt, if_pos (by rw [h]; rfl), spl_w _ _ c hs]
theorem spl_j (q : Bool) {b : Bool} (h : c ≠ 34) (hb : b = (q && ((c.toNat : Int) == 92)))
    (hk : Ev (fun k => headers_Split.j1 k (B (pre ++ (cur ++ c :: r))) ps q (pre.length : Int) ((pre.length + cur.length : Nat) : Int) b) R) :
    Ev (fun k => headers_Split.l0 k (B (pre ++ (cur ++ c :: r))) ps q (pre.length : Int) ((pre.length + cur.length : Nat) : Int)) R := by
  refine Ev.step (fun k => ?_) hk
  simp only [headers_Split.l0]
  rw [if_pos (spl_lt ..), if_pos (by omega), spl_bt, if_neg (ne_int' (n := 34) h rfl), hb]
  cases q
  · rw [if_neg (by decide), Bool.false_and]
  · rw [if_pos rfl, Bool.true_and]
theorem spl_in (h : c ≠ 34) (h2 : c ≠ 92) (hs : pre.length + cur.length + 1 ≤ 1000000000000)
    (hk : Ev (fun k => headers_Split.l0 k (B (pre ++ (cur ++ c :: r))) ps true (pre.length : Int) ((pre.length + (cur ++ [c]).length : Nat) : Int)) R) :
    Ev (fun k => headers_Split.l0 k (B (pre ++ (cur ++ c :: r))) ps true (pre.length : Int) ((pre.length + cur.length : Nat) : Int)) R := by
  refine spl_j true (b := false) h (by rw [beq_eq_false_iff_ne.2 (ne_int' (n := 92) h2 rfl)]; rfl) (Ev.step (fun k => ?_) hk)
  simp only [headers_Split.j1]
  rw [if_neg (by decide), if_pos trivial, spl_w _ _ c hs]
theorem spl_esc (h : c = 92) (hs : pre.length + cur.length + 1 ≤ 1000000000000)
    (hk : Ev (fun k => headers_Split.l0 k (B (pre ++ (cur ++ c :: r))) ps true (pre.length : Int) ((pre.length + cur.length + 2 : Nat) : Int)) R) :
    Ev (fun k => headers_Split.l0 k (B (pre ++ (cur ++ c :: r))) ps true (pre.length : Int) ((pre.length + cur.length : Nat) : Int)) R := by
  refine spl_j true (b := true) (by rw [h]; decide) (by rw [h]; rfl) (Ev.step (fun k => ?_) hk)
  have hw : wrap64 (wrap64 (((pre.length + cur.length : Nat) : Int) + 1) + 1) = ((pre.length + cur.length + 2 : Nat) : Int) := by
    rw [w64 (i := ((pre.length + cur.length : Nat) : Int) + 1) (by omega) (by omega), w64 (by omega) (by omega)]; omega
  simp only [headers_Split.j1]
  rw [if_pos trivial, hw]
theorem spl_out (h : c ≠ 34) (h2 : c ≠ 44) (hs : pre.length + cur.length + 1 ≤ 1000000000000)
    (hk : Ev (fun k => headers_Split.l0 k (B (pre ++ (cur ++ c :: r))) ps false (pre.length : Int) ((pre.length + (cur ++ [c]).length : Nat) : Int)) R) :
    Ev (fun k => headers_Split.l0 k (B (pre ++ (cur ++ c :: r))) ps false (pre.length : Int) ((pre.length + cur.length : Nat) : Int)) R := by
  refine spl_j false (b := false) h rfl (Ev.step (fun k => ?_) hk)
  simp only [headers_Split.j1]
  rw [if_neg (by decide), if_neg (by decide), if_pos (by omega), if_pos (spl_lt ..), spl_bt, if_neg (ne_int' (n := 44) h2 rfl), spl_w _ _ c hs]
theorem spl_com (h : c = 44) (hs : pre.length + cur.length + 1 ≤ 1000000000000) (hp : ps.length ≤ 1000000000000)
    (hk : Ev (fun k => headers_Split.l0 k (B (pre ++ (cur ++ c :: r))) (ps ++ [B (Lib.trimS cur tight)]) false ((pre.length + (cur ++ [c]).length : Nat) : Int) ((pre.length + (cur ++ [c]).length : Nat) : Int)) R) :
    Ev (fun k => headers_Split.l0 k (B (pre ++ (cur ++ c :: r))) ps false (pre.length : Int) ((pre.length + cur.length : Nat) : Int)) R := by
  refine spl_j false (b := false) (by rw [h]; decide) rfl (Ev.step (fun k => ?_) hk)
  have hlt := spl_lt pre cur r c
  simp only [headers_Split.j1]
  rw [if_neg (by decide), if_neg (by decide), if_pos (by omega), if_pos hlt, spl_bt, if_pos (by rw [h]; rfl), if_pos (by omega), if_pos (by omega), if_pos (by omega), extract_mid, tight_ev _ (by omega)]
  simp only [Option.bind_some]
  rw [if_pos (by omega), spl_w _ _ c hs]
end
theorem split_l0 : ∀ (n : Nat) (r pre cur : List UInt8) (q : Bool) (ps : List ByteArray), r.length ≤ n → pre.length + cur.length + r.length ≤ 1000000000000 → ps.length ≤ pre.length →
    Ev (fun k => headers_Split.l0 k (B (pre ++ (cur ++ r))) ps q (pre.length : Int) ((pre.length + cur.length : Nat) : Int)) (ps ++ (splitQ q cur r).map B, true) := by
  intro n
  induction n with
  | zero =>
    intro r pre cur q ps hr hs hp
    obtain rfl := List.eq_nil_of_length_eq_zero (Nat.le_zero.1 hr)
    rw [List.append_nil, splitQ_nil, List.map_cons, List.map_nil]
    exact spl_end _ _ _ _ _ (by simp) (by omega) (by omega)
  | succ n ih =>
    intro r pre cur q ps hr hs hp
    cases r with
    | nil =>
      rw [List.append_nil, splitQ_nil, List.map_cons, List.map_nil]
      exact spl_end _ _ _ _ _ (by simp) (by omega) (by omega)
    | cons c r =>
      simp only [List.length_cons] at hr hs
      have hgo : ∀ q', Ev (fun k => headers_Split.l0 k (B (pre ++ (cur ++ c :: r))) ps q' (pre.length : Int) ((pre.length + (cur ++ [c]).length : Nat) : Int)) (ps ++ (splitQ q' (cur ++ [c]) r).map B, true) := fun q' => by
        have := ih r pre (cur ++ [c]) q' ps (by omega) (by simp; omega) hp
        rwa [show pre ++ ((cur ++ [c]) ++ r) = pre ++ (cur ++ c :: r) from by simp] at this
      by_cases h34 : c = 34
      · rw [splitQ_quote _ _ _ h34]
        exact spl_quote h34 (by omega) (hgo _)
      · cases q with
        | true =>
          by_cases h92 : c = 92
          · cases r with
            | nil =>
              rw [splitQ_last _ h92, List.map_cons, List.map_nil]
              exact spl_esc h92 (by omega) (spl_end pre (cur ++ [c]) ps true (pre.length + cur.length + 2) (by simp; omega) (by simp; omega) (by omega))
            | cons d r' =>
              simp only [List.length_cons] at hr hs
              have := ih r' pre (cur ++ [c, d]) true ps (by omega) (by simp; omega) hp
              rw [show pre ++ ((cur ++ [c, d]) ++ r') = pre ++ (cur ++ c :: d :: r') from by simp, show pre.length + (cur ++ [c, d]).length = pre.length + cur.length + 2 from by simp; omega] at this
              rw [splitQ_esc _ _ _ h92]
              exact spl_esc h92 (by omega) this
          · rw [splitQ_in _ _ h34 h92]
            exact spl_in h34 h92 (by omega) (hgo _)
        | false =>
          by_cases h44 : c = 44
          · have hst := ih r (pre ++ (cur ++ [c])) [] false (ps ++ [B (Lib.trimS cur tight)]) (by omega) (by simp; omega) (by simp; omega)
            rw [show (pre ++ (cur ++ [c])) ++ ([] ++ r) = pre ++ (cur ++ c :: r) from by simp, show (pre ++ (cur ++ [c])).length + ([] : List UInt8).length = pre.length + (cur ++ [c]).length from by simp, show (pre ++ (cur ++ [c])).length = pre.length + (cur ++ [c]).length from by simp] at hst
            rw [splitQ_com _ _ h44, List.map_cons, show ps ++ B (Lib.trimS cur tight) :: (splitQ false [] r).map B = (ps ++ [B (Lib.trimS cur tight)]) ++ (splitQ false [] r).map B from by simp]
            exact spl_com h44 (by omega) (by omega) hst
          · rw [splitQ_out _ _ h34 h44]
            exact spl_out h34 h44 (by omega) (hgo _)
def named (n : List UInt8) (h : Hdr) : Bool := lows (Ls h.f0) == lows n
def valsOf (l : List Hdr) (n : List UInt8) : List ByteArray := (l.filter (named n)).map (·.f1)
theorem lower_f (s : ByteArray) (h : s.size ≤ 140737488355328) : infra_Lower.f s = some (B (lows (Ls s))) := by
  have := infra_Lower_ev (Ls s) (by rw [← size_Ls]; exact h)
  rwa [B_Ls] at this
theorem is_f (h : Hdr) (n : List UInt8) (h0 : h.f0.size ≤ 140737488355328) (hn : n.length ≤ 140737488355328) : headers_is.f h.f0 h.f1 (B n) = some (named n h) := by
  unfold headers_is.f
  rw [lower_f _ h0, infra_Lower_ev n hn]
  simp only [Option.bind_some, toList_B]
  rfl
theorem rdH_at {l : List Hdr} {i : Nat} (h : i < l.length) : rd_T55 l (i : Int) = l[i] := by
  unfold rd_T55
  rw [Int.toNat_natCast, List.getD_eq_getElem?_getD, List.getElem?_eq_getElem h]; rfl
structure OkH (l : List Hdr) : Prop where
  len : l.length ≤ 1000000000
  nm : ∀ h, h ∈ l → h.f0.size ≤ 140737488355328
theorem get_l0 {r : ByteArray} (n : List UInt8) (hn : n.length ≤ 140737488355328) (l : List Hdr) (hl : OkH l) : ∀ (d i : Nat) (acc : List ByteArray), i + d = l.length → acc.length ≤ i →
    strings_Join.f (acc ++ valsOf (l.drop i) n) (B [44, 32]) = some r →
    Ev (fun k => headers_Get.l0 k (B n) acc l (l.length : Int) (i : Int)) (r, decide (((acc ++ valsOf (l.drop i) n).length : Int) > 0))
  | 0, i, acc, h, ha, hj => by
    have hd : l.drop i = [] := List.drop_of_length_le (by omega)
    rw [hd] at hj ⊢
    simp only [valsOf, List.filter_nil, List.map_nil, List.append_nil] at hj ⊢
    refine Ev.step (f := fun _ => some (r, decide ((acc.length : Int) > 0))) (fun k => ?_) (Ev.now _)
    simp only [headers_Get.l0]
    rw [if_neg (by omega), hj]
    rfl
  | d + 1, i, acc, h, ha, hj => by
    have hi : i < l.length := by omega
    have hd : l.drop i = l[i] :: l.drop (i + 1) := List.drop_eq_getElem_cons hi
    have hw : wrap64 ((i : Int) + 1) = ((i + 1 : Nat) : Int) := by have := hl.len; rw [w64 (by omega) (by omega)]; rfl
    have his := is_f l[i] n (hl.nm _ (List.getElem_mem hi)) hn
    cases hc : named n l[i] with
    | true =>
      have hv : valsOf (l.drop i) n = l[i].f1 :: valsOf (l.drop (i + 1)) n := by unfold valsOf; rw [hd, List.filter_cons_of_pos hc]; rfl
      have h2 : acc ++ valsOf (l.drop i) n = (acc ++ [l[i].f1]) ++ valsOf (l.drop (i + 1)) n := by rw [hv]; simp
      rw [h2] at hj ⊢
      refine Ev.step (fun k => ?_) (get_l0 n hn l hl d (i + 1) (acc ++ [l[i].f1]) (by omega) (by simp; omega) hj)
      simp only [headers_Get.l0]
      rw [if_pos (by omega), if_pos (by omega), if_pos (by omega), rdH_at hi, his, hc]
      simp only [Option.bind_some, if_true]
      rw [if_pos (by have := hl.len; omega), hw]
    | false =>
      have hv : valsOf (l.drop i) n = valsOf (l.drop (i + 1)) n := by unfold valsOf; rw [hd, List.filter_cons_of_neg (by rw [hc]; decide)]
      rw [hv] at hj ⊢
      refine Ev.step (fun k => ?_) (get_l0 n hn l hl d (i + 1) acc (by omega) (by omega) hj)
      simp only [headers_Get.l0]
      rw [if_pos (by omega), if_pos (by omega), if_pos (by omega), rdH_at hi, his, hc]
      simp only [Option.bind_some]
      rw [if_neg (by decide), hw]
def getP (l : List Hdr) (n : List UInt8) : List UInt8 := Lib.join ((valsOf l n).map Ls) [44, 32]
theorem join_f (vs : List ByteArray) (h0 : vs.length ≤ 140737488355328) (h : (Lib.join (vs.map Ls) [44, 32]).length ≤ 140737488355328) : strings_Join.f vs (B [44, 32]) = some (B (Lib.join (vs.map Ls) [44, 32])) := by
  have he : joinB vs (B [44, 32]) = B (Lib.join (vs.map Ls) [44, 32]) := rfl
  unfold strings_Join.f
  rw [if_pos h0, he, if_pos (by rw [size_B]; exact h)]
theorem get_ev (l : List Hdr) (n : List UInt8) (hl : OkH l) (hn : n.length ≤ 140737488355328) (hs : (getP l n).length ≤ 140737488355328) :
    Ev (fun k => headers_Get.f k l (B n)) (B (getP l n), !(valsOf l n).isEmpty) := by
  have hlen : (valsOf l n).length ≤ l.length := by unfold valsOf; rw [List.length_map]; exact List.length_filter_le _ _
  have := get_l0 n hn l hl l.length 0 [] (by omega) (by simp) (r := B (getP l n)) (by
    rw [List.nil_append, List.drop_zero]
    exact join_f _ (by have := hl.len; omega) hs)
  unfold headers_Get.f
  rw [List.nil_append, List.drop_zero] at this
  have hb : decide (((valsOf l n).length : Int) > 0) = !(valsOf l n).isEmpty := by cases valsOf l n <;> simp
  rw [hb] at this
  exact this
def splitP (l : List Hdr) (n : List UInt8) : List (List UInt8) := if (valsOf l n).isEmpty = true then [] else splitQ false [] (getP l n)
theorem split_ev (l : List Hdr) (n : List UInt8) (hl : OkH l) (hn : n.length ≤ 140737488355328) (hs : (getP l n).length ≤ 1000000000000) :
    Ev (fun k => headers_Split.f k l (B n)) ((splitP l n).map B, !(valsOf l n).isEmpty) := by
  unfold headers_Split.f splitP
  refine Ev.bnd (get_ev l n hl hn (by omega)) ?_
  cases hv : (valsOf l n).isEmpty with
  | true => exact Ev.ite_neg (by simp) (Ev.now _)
  | false =>
    refine Ev.ite_pos rfl ?_
    have := split_l0 (getP l n).length (getP l n) [] [] false [] (Nat.le_refl _) (by simpa using hs) (by simp)
    simpa using this
structure Piece (p : List UInt8) : Prop where
  pl : ∀ b, b ∈ p → b ≠ 34 ∧ b ≠ 44
  tr : Lib.trimS p tight = p
  tr' : Lib.trimS (32 :: p) tight = p
theorem splitQ_plain : ∀ (p cur r : List UInt8), (∀ b, b ∈ p → b ≠ 34 ∧ b ≠ 44) → splitQ false cur (p ++ r) = splitQ false (cur ++ p) r
  | [], cur, r, _ => by simp
  | c :: p, cur, r, h => by
    have hc := h c (List.mem_cons_self)
    rw [List.cons_append, splitQ_out _ _ hc.1 hc.2, splitQ_plain p (cur ++ [c]) r (fun b hb => h b (List.mem_cons_of_mem _ hb))]
    simp
theorem splitQ_pieces : ∀ (ps : List (List UInt8)) (p : List UInt8) (b : Bool), Piece p → (∀ x, x ∈ ps → Piece x) → splitQ false (if b then [32] else []) (Lib.join (p :: ps) [44, 32]) = p :: ps
  | [], p, b, h, _ => by
    have e : Lib.join [p] [44, 32] = p ++ [] := by simp [Lib.join]
    rw [e, splitQ_plain p _ [] h.pl, splitQ_nil]
    cases b
    · rw [if_neg (by decide), List.nil_append, h.tr]
    · rw [if_pos rfl, List.singleton_append, h.tr']
  | x :: ps, p, b, h, hp => by
    have e : Lib.join (p :: x :: ps) [44, 32] = p ++ 44 :: 32 :: Lib.join (x :: ps) [44, 32] := by simp [Lib.join]
    have ih := splitQ_pieces ps x true (hp x List.mem_cons_self) (fun y hy => hp y (List.mem_cons_of_mem _ hy))
    rw [if_pos rfl] at ih
    have h32 : ∀ r, splitQ false [] (32 :: r) = splitQ false [32] r := fun r => splitQ_out [] r (by decide) (by decide)
    rw [e, splitQ_plain p _ _ h.pl, splitQ_com _ _ rfl, h32, ih]
    cases b
    · rw [if_neg (by decide), List.nil_append, h.tr]
    · rw [if_pos rfl, List.singleton_append, h.tr']
end Go.Proofs.YteehjlciajhdoaaGreatDoor.X
