/- F71, F72, F73, F110, F137, F135, F136, F74, F77, P6, E16, F26, P7, F80, F81: this session's texts, joined; what the claim does not name is left out. -/
import Derived.Test.YteehjlciajhdoaaGreatDoorZe4
namespace Go.Proofs.YteehjlciajhdoaaGreatDoor.X
open Go.RowKit Go.Proofs.YteehjlciajhdoaaGreatDoorW.PrintWords Go.Proofs.YteehjlciajhdoaaGreatDoorW.PrintLast Go.Proofs.YteehjlciajhdoaaGreatDoorW.PrintMore
attribute [local go_sem] max2_int min2_int max_two min_two max_three min_three max_four min_four
set_option linter.unusedVariables false
set_option linter.unusedSimpArgs false
mutual
def ostiaryref1_Trim.j1 : Nat → ByteArray → Bool → Option (ByteArray)
  | 0, _, _ => none
  | k + 1, x0, x1 => ostiaryref1_Trim.l1 k x0 x1
def ostiaryref1_Trim.l1 : Nat → ByteArray → Bool → Option (ByteArray)
  | 0, _, _ => none
  | k + 1, x0, x1 => if (x0.size : Int) > 0 then (if 0 ≤ (wrap64 ((x0.size : Int) - 1)) then (if (wrap64 ((x0.size : Int) - 1)) < (x0.size : Int) then ((ostiaryref1_ends.f (bt x0 (wrap64 ((x0.size : Int) - 1))) x1).bind fun t102 => (if t102 = true then (if (wrap64 ((x0.size : Int) - 1)) ≤ (x0.size : Int) then (ostiaryref1_Trim.l1 k (x0.extract 0 ((wrap64 ((x0.size : Int) - 1)) : Int).toNat) x1) else (none)) else (some x0))) else (none)) else (none)) else (some x0)
def ostiaryref1_Trim.l0 : Nat → ByteArray → Bool → Option (ByteArray)
  | 0, _, _ => none
  | k + 1, x0, x1 => if (x0.size : Int) > 0 then (if 0 < (x0.size : Int) then ((ostiaryref1_ends.f (bt x0 0) x1).bind fun t101 => (if t101 = true then (if 1 ≤ (x0.size : Int) then (ostiaryref1_Trim.l0 k (x0.extract 1 x0.size) x1) else (none)) else (ostiaryref1_Trim.j1 k x0 x1))) else (none)) else (ostiaryref1_Trim.j1 k x0 x1)
end
def ostiaryref1_Trim.f (k : Nat) (a0 : ByteArray) (a1 : Bool) : Option (ByteArray) := ostiaryref1_Trim.l0 k a0 a1
theorem ostiaryref1_Trim.mono_l : ∀ k, (∀ y0 y1, LeO (ostiaryref1_Trim.j1 k y0 y1) (ostiaryref1_Trim.j1 (k + 1) y0 y1)) ∧ (∀ y0 y1, LeO (ostiaryref1_Trim.l1 k y0 y1) (ostiaryref1_Trim.l1 (k + 1) y0 y1)) ∧ (∀ y0 y1, LeO (ostiaryref1_Trim.l0 k y0 y1) (ostiaryref1_Trim.l0 (k + 1) y0 y1))
  | 0 => ⟨fun _ _ r h => by simp [ostiaryref1_Trim.j1] at h, fun _ _ r h => by simp [ostiaryref1_Trim.l1] at h, fun _ _ r h => by simp [ostiaryref1_Trim.l0] at h⟩
  | k + 1 => by
    obtain ⟨ih0, ih1, ih2⟩ := ostiaryref1_Trim.mono_l k
    refine ⟨?_, ?_, ?_⟩
    · intro y0 y1
      unfold ostiaryref1_Trim.j1
      repeat' first
      | (with_reducible exact ih0 _ _)
      | (with_reducible exact ih1 _ _)
      | (with_reducible exact ih2 _ _)
      | (with_reducible exact LeO.refl _)
      | (with_reducible exact LeO.none _)
      | (with_reducible refine LeO.ite ?_ ?_)
      | (with_reducible refine LeO.bind ?_ (fun _ => ?_))
      | exact ih0 _ _
      | exact ih1 _ _
      | exact ih2 _ _
      | exact LeO.none _
      | refine LeO.ite ?_ ?_
      | refine LeO.bind ?_ (fun _ => ?_)
    · intro y0 y1
      unfold ostiaryref1_Trim.l1
      repeat' first
      | (with_reducible exact ih0 _ _)
      | (with_reducible exact ih1 _ _)
      | (with_reducible exact ih2 _ _)
      | (with_reducible exact LeO.refl _)
      | (with_reducible exact LeO.none _)
      | (with_reducible refine LeO.ite ?_ ?_)
      | (with_reducible refine LeO.bind ?_ (fun _ => ?_))
      | exact ih0 _ _
      | exact ih1 _ _
      | exact ih2 _ _
      | exact LeO.none _
      | refine LeO.ite ?_ ?_
      | refine LeO.bind ?_ (fun _ => ?_)
    · intro y0 y1
      unfold ostiaryref1_Trim.l0
      repeat' first
      | (with_reducible exact ih0 _ _)
      | (with_reducible exact ih1 _ _)
      | (with_reducible exact ih2 _ _)
      | (with_reducible exact LeO.refl _)
      | (with_reducible exact LeO.none _)
      | (with_reducible refine LeO.ite ?_ ?_)
      | (with_reducible refine LeO.bind ?_ (fun _ => ?_))
      | exact ih0 _ _
      | exact ih1 _ _
      | exact ih2 _ _
      | exact LeO.none _
      | refine LeO.ite ?_ ?_
      | refine LeO.bind ?_ (fun _ => ?_)
theorem ostiaryref1_Trim.mono : ∀ a0 a1 k, LeO (ostiaryref1_Trim.f k a0 a1) (ostiaryref1_Trim.f (k + 1) a0 a1) := by
  intro a0 a1 k
  obtain ⟨ih0, ih1, ih2⟩ := ostiaryref1_Trim.mono_l k
  unfold ostiaryref1_Trim.f
  repeat' first
      | (with_reducible exact ih0 _ _)
      | (with_reducible exact ih1 _ _)
      | (with_reducible exact ih2 _ _)
      | (with_reducible exact LeO.refl _)
      | (with_reducible exact LeO.none _)
      | (with_reducible refine LeO.ite ?_ ?_)
      | (with_reducible refine LeO.bind ?_ (fun _ => ?_))
      | exact ih0 _ _
      | exact ih1 _ _
      | exact ih2 _ _
      | exact LeO.none _
      | refine LeO.ite ?_ ?_
      | refine LeO.bind ?_ (fun _ => ?_)
set_option maxHeartbeats 8000000 in
set_option maxRecDepth 100000 in
theorem ostiaryref1_Trim.calls (k : Nat) (a0 : ByteArray) (a1 : Bool) (r : ByteArray) (w : World) (h : ostiaryref1_Trim.f k a0 a1 = some r) :
    Calls Tryz.prog 71 #[.string a0, .bool a1] w fun e w' => e = .returned (.string r) ∧ Drawn0 w w' := by
  have H : (ostiaryref1_Trim.l0 k a0 a1) = some r := h
  clear h
  have HC3 := Aside0.mk H
  clear H
  go_enter Tryz.func71, Tryz.ntmps71
  go_upto_block 0 with (fail)
  go_cut [0] (fun v0 wc => ∃ (kq : Nat) (x0_2 : ByteArray), v0 = .string x0_2 ∧ Aside0 (ostiaryref1_Trim.j1 kq x0_2 a1 = some r) ∧ Aside0 (kq ≤ k) ∧ Drawn0 w wc)
  case first =>
    have H := HC3.out
    clear HC3
    have H' := Aside0.mk H
    clear H
    go_wp2
    go_loopg [0] k (fun kq v0 w' => ∃ (x0_1 : ByteArray), v0 = .string x0_1 ∧ Aside0 (ostiaryref1_Trim.l0 kq x0_1 a1 = some r) ∧ Aside0 (kq ≤ k) ∧ Drawn0 w w')
    case atStart => exact ⟨(a0), (by first | rfl | (simp; done) | (simp [*]; done)), H', ⟨Nat.le_refl _⟩, by repeat (first | exact Drawn0.refl _ | apply Drawn0.step)⟩
    case round =>
      clear H'
      try clear p2
      obtain ⟨x0_1, rfl, HA, HK1, ⟨m1, rfl⟩⟩ := hrel
      cases gk with
      | zero => exact absurd HA.out (by simp [ostiaryref1_Trim.l0])
      | succ k1 =>
        have H := HA.out
        clear HA
        simp only [ostiaryref1_Trim.l0] at H
        by_cases c4 : (x0_1.size : Int) > 0
        · rw [if_pos c4] at H
          have c4b0 : decide (0 < (x0_1.size : Int)) = true := decide_eq_true c4
          have c4b1 : decide (0 < x0_1.size) = true := decide_eq_true (by omega)
          clear c4
          (first | rw [c4b0] | (simp only [i64_w, i32_w]; rw [c4b0]) | skip)
          by_cases c5 : 0 < (x0_1.size : Int)
          · rw [if_pos c5] at H
            have c5b0 : decide (0 < (x0_1.size : Int)) = true := decide_eq_true c5
            have c5b1 : decide (0 < x0_1.size) = true := decide_eq_true (by omega)
            clear c5
            replace H := Option.bind_eq_some_iff.mp H
            obtain ⟨t101, A70, H⟩ := H
            replace H : (if t101 = true then (if 1 ≤ (x0_1.size : Int) then (ostiaryref1_Trim.l0 k1 (x0_1.extract 1 x0_1.size) a1) else (none)) else (ostiaryref1_Trim.j1 k1 x0_1 a1)) = some r := H
            have A7 := Aside0.mk A70
            clear A70
            by_cases c8 : t101 = true
            · subst c8
              have H1 : (if 1 ≤ (x0_1.size : Int) then (ostiaryref1_Trim.l0 k1 (x0_1.extract 1 x0_1.size) a1) else (none)) = some r := by rw [if_pos rfl] at H; exact H
              clear H
              have H := H1
              clear H1
              by_cases c9 : 1 ≤ (x0_1.size : Int)
              · rw [if_pos c9] at H
                have c9b0 := eq_true c9
                have c9b1 : decide (1 ≤ (x0_1.size : Int)) = true := decide_eq_true c9
                clear c9
                have H' := Aside0.mk H
                clear H
                have p6 : 0 ≤ (0 : Int) := (by omega)
                have q6 : 0 < x0_1.size := (by have : (0 : Int) < (x0_1.size : Int) := of_decide_eq_true (by first | (with_reducible assumption) | assumption); omega)
                have hx6 : ∀ h : 0 < x0_1.size, ((x0_1[0]'h).toNat : Int) = bt x0_1 0 := bt_at x0_1 0
                clear p6
                have qi6 : (0 < (x0_1.size : Int)) = True := eq_true (of_decide_eq_true (by first | (with_reducible assumption) | assumption))
                replace q6 := eq_true q6
                go_wp2_with (first | (go_at_call 134; (with_reducible refine (ostiaryref1_ends.calls (bt x0_1 0) a1 true _ A7.out).mono ?_); rintro e w' ⟨rfl, ⟨nd, rfl⟩⟩))
                go_roundg k1
                case measure => have := HK1.out; omega
                case rel => exact ⟨(x0_1.extract 1 x0_1.size), (by first | rfl | (simp; done) | (simp [*]; done)), H', ⟨by have := HK1.out; omega⟩, by repeat (first | exact Drawn0.refl _ | apply Drawn0.step)⟩
              · rw [if_neg c9] at H
                exact absurd H (by simp)
            · replace c8 := Bool.eq_false_iff.mpr c8
              subst c8
              have H1 : (ostiaryref1_Trim.j1 k1 x0_1 a1) = some r := by rw [if_neg (show ¬ (false = true) by decide)] at H; exact H
              clear H
              have H := H1
              clear H1
              have H' := Aside0.mk H
              clear H
              have p6 : 0 ≤ (0 : Int) := (by omega)
              have q6 : 0 < x0_1.size := (by have : (0 : Int) < (x0_1.size : Int) := of_decide_eq_true (by first | (with_reducible assumption) | assumption); omega)
              have hx6 : ∀ h : 0 < x0_1.size, ((x0_1[0]'h).toNat : Int) = bt x0_1 0 := bt_at x0_1 0
              clear p6
              have qi6 : (0 < (x0_1.size : Int)) = True := eq_true (of_decide_eq_true (by first | (with_reducible assumption) | assumption))
              replace q6 := eq_true q6
              go_wp2_with (first | (go_at_call 134; (with_reducible refine (ostiaryref1_ends.calls (bt x0_1 0) a1 false _ A7.out).mono ?_); rintro e w' ⟨rfl, ⟨nd, rfl⟩⟩))
              go_meet
              case rel => exact ⟨_, (x0_1), (by first | rfl | (simp; done) | (simp [*]; done)), H', ⟨by have := HK1.out; first | omega | exact Nat.le_refl _⟩, by repeat (first | exact Drawn0.refl _ | apply Drawn0.step)⟩
          · rw [if_neg c5] at H
            exact absurd H (by simp)
        · rw [if_neg c4] at H
          have c4b0 : decide (0 < (x0_1.size : Int)) = false := decide_eq_false c4
          have c4b1 : decide (0 < x0_1.size) = false := decide_eq_false (by omega)
          clear c4
          (first | rw [c4b0] | (simp only [i64_w, i32_w]; rw [c4b0]) | skip)
          have H' := Aside0.mk H
          clear H
          go_wp2
          go_meet
          case rel => exact ⟨_, (x0_1), (by first | rfl | (simp; done) | (simp [*]; done)), H', ⟨by have := HK1.out; first | omega | exact Nat.le_refl _⟩, by repeat (first | exact Drawn0.refl _ | apply Drawn0.step)⟩
  case rest =>
    clear HC3
    try clear p2
    try clear c4
    try clear c4b0
    try clear c4b1
    try clear c5
    try clear c5b0
    try clear c5b1
    try clear p6
    try clear q6
    try clear hx6
    try clear qi6
    try clear c7
    try clear c8
    try clear c9
    try clear c9b0
    try clear c9b1
    try clear p2
    try clear p6
    try clear q6
    obtain ⟨kq, x0_2, rfl, HA, HJ2, ⟨mc2, rfl⟩⟩ := hcut
    cases kq with
    | zero => exact absurd HA.out (by simp [ostiaryref1_Trim.j1])
    | succ kj2 =>
      have H := HA.out
      clear HA
      simp only [ostiaryref1_Trim.j1] at H
      have H' := Aside0.mk H
      clear H
      go_wp2
      go_loopg [0] kj2 (fun kq v0 w' => ∃ (x0_2 : ByteArray), v0 = .string x0_2 ∧ Aside0 (ostiaryref1_Trim.l1 kq x0_2 a1 = some r) ∧ Aside0 (kq ≤ kj2) ∧ Drawn0 w w')
      case atStart => exact ⟨(x0_2), (by first | rfl | (simp; done) | (simp [*]; done)), H', ⟨Nat.le_refl _⟩, by repeat (first | exact Drawn0.refl _ | apply Drawn0.step)⟩
      case round =>
        clear H'
        try clear c2
        try clear p2
        try clear c4
        try clear c4b0
        try clear c4b1
        try clear c5
        try clear c5b0
        try clear c5b1
        try clear p6
        try clear q6
        try clear hx6
        try clear qi6
        try clear c7
        try clear c8
        try clear c9
        try clear c9b0
        try clear c9b1
        try clear p2
        try clear p6
        try clear q6
        obtain ⟨x0_2, rfl, HA, HK2, ⟨m2, rfl⟩⟩ := hrel
        cases gk with
        | zero => exact absurd HA.out (by simp [ostiaryref1_Trim.l1])
        | succ k2 =>
          have H := HA.out
          clear HA
          simp only [ostiaryref1_Trim.l1] at H
          by_cases c10 : (x0_2.size : Int) > 0
          · rw [if_pos c10] at H
            have c10b0 : decide (0 < (x0_2.size : Int)) = true := decide_eq_true c10
            have c10b1 : decide (0 < x0_2.size) = true := decide_eq_true (by omega)
            clear c10
            obtain ⟨ji11, hji11⟩ : ∃ j_ : Int, (wrap64 ((x0_2.size : Int) - 1)) = j_ := ⟨_, rfl⟩
            replace H : (if 0 ≤ (ji11) then (if (ji11) < (x0_2.size : Int) then ((ostiaryref1_ends.f (bt x0_2 (ji11)) a1).bind fun t102 => (if t102 = true then (if (ji11) ≤ (x0_2.size : Int) then (ostiaryref1_Trim.l1 k2 (x0_2.extract 0 ((ji11) : Int).toNat) a1) else (none)) else (some x0_2))) else (none)) else (none)) = some r := by first | (rw [hji11] at H; exact H) | (simp only [hji11] at H ⊢; exact H)
            have hji11w : (IntKind.i64.wrap ((x0_2.size : Int) - 1)) = ji11 := (i64_w _).trans hji11
            by_cases c12 : 0 ≤ (ji11)
            · rw [if_pos c12] at H
              have c12b0 : decide (0 ≤ (ji11)) = true := decide_eq_true c12
              clear c12
              by_cases c13 : (ji11) < (x0_2.size : Int)
              · rw [if_pos c13] at H
                have c13b0 : decide ((ji11) < (x0_2.size : Int)) = true := decide_eq_true c13
                clear c13
                replace H := Option.bind_eq_some_iff.mp H
                obtain ⟨t102, A150, H⟩ := H
                replace H : (if t102 = true then (if (ji11) ≤ (x0_2.size : Int) then (ostiaryref1_Trim.l1 k2 (x0_2.extract 0 ((ji11) : Int).toNat) a1) else (none)) else (some x0_2)) = some r := H
                have A15 := Aside0.mk A150
                clear A150
                by_cases c16 : t102 = true
                · subst c16
                  have H1 : (if (ji11) ≤ (x0_2.size : Int) then (ostiaryref1_Trim.l1 k2 (x0_2.extract 0 ((ji11) : Int).toNat) a1) else (none)) = some r := by rw [if_pos rfl] at H; exact H
                  clear H
                  have H := H1
                  clear H1
                  have c17b0 := eq_true (of_decide_eq_true (by first | (with_reducible assumption) | assumption) : 0 ≤ (ji11))
                  by_cases c18 : (ji11) ≤ (x0_2.size : Int)
                  · rw [if_pos c18] at H
                    have c18b0 := eq_true c18
                    have c18b1 : decide ((ji11) ≤ (x0_2.size : Int)) = true := decide_eq_true c18
                    clear c18
                    have H' := Aside0.mk H
                    clear H
                    have p14 : 0 ≤ ((ji11) : Int) := of_decide_eq_true (by first | (with_reducible assumption) | assumption)
                    have q14 : (ji11) < (x0_2.size : Int) := of_decide_eq_true (by first | (with_reducible assumption) | assumption)
                    have hx14 := bt_at x0_2 (ji11)
                    replace p14 := eq_true p14
                    replace q14 := eq_true q14
                    go_wp2_with (first | (go_at_call 134; (with_reducible refine (ostiaryref1_ends.calls (bt x0_2 (ji11)) a1 true _ A15.out).mono ?_); rintro e w' ⟨rfl, ⟨nd, rfl⟩⟩))
                    go_roundg k2
                    case measure => have := HJ2.out; have := HK2.out; omega
                    case rel => exact ⟨(x0_2.extract 0 ((ji11) : Int).toNat), (by first | rfl | (simp; done) | (simp only [← hji11] <;> (first | rfl | simp)) | (simp [*]; done)), H', ⟨by have := HJ2.out; have := HK2.out; omega⟩, by repeat (first | exact Drawn0.refl _ | apply Drawn0.step)⟩
                  · rw [if_neg c18] at H
                    exact absurd H (by simp)
                · replace c16 := Bool.eq_false_iff.mpr c16
                  subst c16
                  have H1 : (some x0_2) = some r := by rw [if_neg (show ¬ (false = true) by decide)] at H; exact H
                  clear H
                  have H := H1
                  clear H1
                  obtain rfl := Option.some.inj H
                  have p14 : 0 ≤ ((ji11) : Int) := of_decide_eq_true (by first | (with_reducible assumption) | assumption)
                  have q14 : (ji11) < (x0_2.size : Int) := of_decide_eq_true (by first | (with_reducible assumption) | assumption)
                  have hx14 := bt_at x0_2 (ji11)
                  replace p14 := eq_true p14
                  replace q14 := eq_true q14
                  go_wp2_with (first | (go_at_call 134; (with_reducible refine (ostiaryref1_ends.calls (bt x0_2 (ji11)) a1 false _ A15.out).mono ?_); rintro e w' ⟨rfl, ⟨nd, rfl⟩⟩))
                  go_ret
                  exact ⟨by first | rfl | (simp; done) | (simp only [← hji11] <;> (first | rfl | simp)) | (simp [*]; done), by repeat (first | exact Drawn0.refl _ | apply Drawn0.step)⟩
              · rw [if_neg c13] at H
                exact absurd H (by simp)
            · rw [if_neg c12] at H
              exact absurd H (by simp)
          · rw [if_neg c10] at H
            have c10b0 : decide (0 < (x0_2.size : Int)) = false := decide_eq_false c10
            have c10b1 : decide (0 < x0_2.size) = false := decide_eq_false (by omega)
            clear c10
            obtain rfl := Option.some.inj H
            go_wp2
            go_ret
            exact ⟨by first | rfl | (simp; done) | (simp [*]; done), by repeat (first | exact Drawn0.refl _ | apply Drawn0.step)⟩
end Go.Proofs.YteehjlciajhdoaaGreatDoor.X
namespace Go.Proofs.YteehjlciajhdoaaGreatDoor.X
open Go.RowKit Go.Proofs.YteehjlciajhdoaaGreatDoorW.PrintWords Go.Proofs.YteehjlciajhdoaaGreatDoorW.PrintLast Go.Proofs.YteehjlciajhdoaaGreatDoorW.PrintMore
attribute [local go_sem] max2_int min2_int max_two min_two max_three min_three max_four min_four
set_option linter.unusedVariables false
set_option linter.unusedSimpArgs false
def ostiaryref1_Part.l0 : Nat → ByteArray → Int → Int → Option (ByteArray × ByteArray × Bool)
  | 0, _, _, _ => none
  | k + 1, x0, x1, x7 => if x7 < (x0.size : Int) then (if 0 ≤ x7 then (if (bt x0 x7) = x1 then (if x7 ≤ (x0.size : Int) then (if 0 ≤ (wrap64 (x7 + 1)) then (if (wrap64 (x7 + 1)) ≤ (x0.size : Int) then (some (x0.extract 0 (x7 : Int).toNat, x0.extract ((wrap64 (x7 + 1)) : Int).toNat x0.size, true)) else (none)) else (none)) else (none)) else (ostiaryref1_Part.l0 k x0 x1 (wrap64 (x7 + 1)))) else (none)) else (some (x0, (⟨#[]⟩ : ByteArray), false))
def ostiaryref1_Part.f (k : Nat) (a0 : ByteArray) (a1 : Int) : Option (ByteArray × ByteArray × Bool) := ostiaryref1_Part.l0 k a0 a1 0
theorem ostiaryref1_Part.mono_l : ∀ k, (∀ y0 y1 y2, LeO (ostiaryref1_Part.l0 k y0 y1 y2) (ostiaryref1_Part.l0 (k + 1) y0 y1 y2))
  | 0 => fun _ _ _ r h => by simp [ostiaryref1_Part.l0] at h
  | k + 1 => by
    have ih0 := ostiaryref1_Part.mono_l k
    · intro y0 y1 y2
      unfold ostiaryref1_Part.l0
      repeat' first
      | (with_reducible exact ih0 _ _ _)
      | (with_reducible exact LeO.refl _)
      | (with_reducible exact LeO.none _)
      | (with_reducible refine LeO.ite ?_ ?_)
      | (with_reducible refine LeO.bind ?_ (fun _ => ?_))
      | exact ih0 _ _ _
      | exact LeO.none _
      | refine LeO.ite ?_ ?_
      | refine LeO.bind ?_ (fun _ => ?_)
theorem ostiaryref1_Part.mono : ∀ a0 a1 k, LeO (ostiaryref1_Part.f k a0 a1) (ostiaryref1_Part.f (k + 1) a0 a1) := by
  intro a0 a1 k
  have ih0 := ostiaryref1_Part.mono_l k
  unfold ostiaryref1_Part.f
  repeat' first
      | (with_reducible exact ih0 _ _ _)
      | (with_reducible exact LeO.refl _)
      | (with_reducible exact LeO.none _)
      | (with_reducible refine LeO.ite ?_ ?_)
      | (with_reducible refine LeO.bind ?_ (fun _ => ?_))
      | exact ih0 _ _ _
      | exact LeO.none _
      | refine LeO.ite ?_ ?_
      | refine LeO.bind ?_ (fun _ => ?_)
set_option maxHeartbeats 8000000 in
set_option maxRecDepth 100000 in
theorem ostiaryref1_Part.calls (k : Nat) (a0 : ByteArray) (a1 : Int) (r1 : ByteArray) (r2 : ByteArray) (r3 : Bool) (w : World) (h : ostiaryref1_Part.f k a0 a1 = some (r1, r2, r3)) :
    Calls Tryz.prog 72 #[.string a0, .int .u8 a1] w fun e w' => e = .returned (.tuple #[.string r1, .string r2, .bool r3]) ∧ Drawn0 w w' := by
  have H : (ostiaryref1_Part.l0 k a0 a1 0) = some (r1, r2, r3) := h
  clear h
  have H' := Aside0.mk H
  clear H
  go_enter Tryz.func72, Tryz.ntmps72
  go_wp2
  repeat (go_quiet (fail); try go_wp2)
  go_loopg [7] k (fun kq v7 w' => ∃ (x7_1 : Int), v7 = .int .i64 x7_1 ∧ Aside0 (ostiaryref1_Part.l0 kq a0 a1 x7_1 = some (r1, r2, r3)) ∧ Aside0 (kq ≤ k) ∧ Drawn0 w w')
  case atStart => exact ⟨(0), (by first | rfl | (simp; done) | (simp [*]; done)), H', ⟨Nat.le_refl _⟩, by repeat (first | exact Drawn0.refl _ | apply Drawn0.step)⟩
  case round =>
    clear H'
    try clear p2
    obtain ⟨x7_1, rfl, HA, HK1, ⟨m1, rfl⟩⟩ := hrel
    cases gk with
    | zero => exact absurd HA.out (by simp [ostiaryref1_Part.l0])
    | succ k1 =>
      have H := HA.out
      clear HA
      simp only [ostiaryref1_Part.l0] at H
      by_cases c3 : x7_1 < (a0.size : Int)
      · rw [if_pos c3] at H
        have c3b0 : decide (x7_1 < (a0.size : Int)) = true := decide_eq_true c3
        clear c3
        by_cases c4 : 0 ≤ x7_1
        · rw [if_pos c4] at H
          have c4b0 : decide (0 ≤ x7_1) = true := decide_eq_true c4
          clear c4
          by_cases c6 : (bt a0 x7_1) = a1
          · rw [if_pos c6] at H
            have c6b0 : ((bt a0 x7_1) == a1) = true := beq_iff_eq.mpr c6
            have c6b1 : ((bt a0 x7_1) != a1) = false := bne_eq_false_iff_eq.mpr c6
            clear c6
            have c7b0 := eq_true (of_decide_eq_true (by first | (with_reducible assumption) | assumption) : 0 ≤ x7_1)
            by_cases c8 : x7_1 ≤ (a0.size : Int)
            · rw [if_pos c8] at H
              have c8b0 := eq_true c8
              have c8b1 : decide (x7_1 ≤ (a0.size : Int)) = true := decide_eq_true c8
              clear c8
              obtain ⟨ji9, hji9⟩ : ∃ j_ : Int, (wrap64 (x7_1 + 1)) = j_ := ⟨_, rfl⟩
              replace H : (if 0 ≤ (ji9) then (if (ji9) ≤ (a0.size : Int) then (some (a0.extract 0 (x7_1 : Int).toNat, a0.extract ((ji9) : Int).toNat a0.size, true)) else (none)) else (none)) = some (r1, r2, r3) := by first | (rw [hji9] at H; exact H) | (simp only [hji9] at H ⊢; exact H)
              have hji9w : (IntKind.i64.wrap (x7_1 + 1)) = ji9 := (i64_w _).trans hji9
              by_cases c10 : 0 ≤ (ji9)
              · rw [if_pos c10] at H
                have c10b0 := eq_true c10
                have c10b1 : decide (0 ≤ (ji9)) = true := decide_eq_true c10
                clear c10
                by_cases c11 : (ji9) ≤ (a0.size : Int)
                · rw [if_pos c11] at H
                  have c11b0 := eq_true c11
                  have c11b1 : decide ((ji9) ≤ (a0.size : Int)) = true := decide_eq_true c11
                  clear c11
                  simp only [Option.some.injEq, Prod.mk.injEq] at H
                  obtain ⟨rfl, rfl, rfl⟩ := H
                  have p5 : 0 ≤ (x7_1 : Int) := of_decide_eq_true (by first | (with_reducible assumption) | assumption)
                  have q5 : x7_1 < (a0.size : Int) := of_decide_eq_true (by first | (with_reducible assumption) | assumption)
                  have hx5 := bt_at a0 x7_1
                  replace p5 := eq_true p5
                  replace q5 := eq_true q5
                  go_wp2
                  repeat (go_quiet (fail); try go_wp2)
                  go_ret3
                  exact ⟨by first | rfl | (simp; done) | (simp only [← hji9] <;> (first | rfl | simp)) | (simp [*]; done), by repeat (first | exact Drawn0.refl _ | apply Drawn0.step)⟩
                · rw [if_neg c11] at H
                  exact absurd H (by simp)
              · rw [if_neg c10] at H
                exact absurd H (by simp)
            · rw [if_neg c8] at H
              exact absurd H (by simp)
          · rw [if_neg c6] at H
            have c6b0 : ((bt a0 x7_1) == a1) = false := beq_eq_false_iff_ne.mpr c6
            have c6b1 : ((bt a0 x7_1) != a1) = true := bne_iff_ne.mpr c6
            have H' := Aside0.mk H
            clear H
            have p5 : 0 ≤ (x7_1 : Int) := of_decide_eq_true (by first | (with_reducible assumption) | assumption)
            have q5 : x7_1 < (a0.size : Int) := of_decide_eq_true (by first | (with_reducible assumption) | assumption)
            have hx5 := bt_at a0 x7_1
            replace p5 := eq_true p5
            replace q5 := eq_true q5
            go_wp2
            repeat (go_quiet (fail); try go_wp2)
            go_roundg k1
            case measure => have := HK1.out; omega
            case rel => exact ⟨(wrap64 (x7_1 + 1)), (by first | rfl | (simp; done) | (simp [*]; done)), H', ⟨by have := HK1.out; omega⟩, by repeat (first | exact Drawn0.refl _ | apply Drawn0.step)⟩
        · rw [if_neg c4] at H
          exact absurd H (by simp)
      · rw [if_neg c3] at H
        have c3b0 : decide (x7_1 < (a0.size : Int)) = false := decide_eq_false c3
        clear c3
        simp only [Option.some.injEq, Prod.mk.injEq] at H
        obtain ⟨rfl, rfl, rfl⟩ := H
        go_wp2
        repeat (go_quiet (fail); try go_wp2)
        go_ret3
        exact ⟨by first | rfl | (simp; done) | (simp [*]; done), by repeat (first | exact Drawn0.refl _ | apply Drawn0.step)⟩
end Go.Proofs.YteehjlciajhdoaaGreatDoor.X
namespace Go.Proofs.YteehjlciajhdoaaGreatDoor.X
open Go.RowKit Go.Proofs.YteehjlciajhdoaaGreatDoorW.PrintWords Go.Proofs.YteehjlciajhdoaaGreatDoorW.PrintLast Go.Proofs.YteehjlciajhdoaaGreatDoorW.PrintMore
attribute [local go_sem] max2_int min2_int max_two min_two max_three min_three max_four min_four
set_option linter.unusedVariables false
set_option linter.unusedSimpArgs false
def ostiaryref6_back.f (k : Nat) (a0 : ByteArray) : Option (ByteArray) := if 1 + a0.size ≤ 9223372036854775807 then ((ostiaryref1_Trim.f k ((⟨#[120]⟩ : ByteArray) ++ a0) false).bind fun t101 => (if 1 ≤ (t101.size : Int) then (some (t101.extract 1 t101.size)) else (none))) else (none)
theorem ostiaryref6_back.mono : ∀ a0 k, LeO (ostiaryref6_back.f k a0) (ostiaryref6_back.f (k + 1) a0) := by
  intro a0 k
  unfold ostiaryref6_back.f
  repeat' first
      | (with_reducible exact ostiaryref1_Trim.mono _ _ _)
      | (with_reducible exact LeO.refl _)
      | (with_reducible exact LeO.none _)
      | (with_reducible refine LeO.ite ?_ ?_)
      | (with_reducible refine LeO.bind ?_ (fun _ => ?_))
      | exact ostiaryref1_Trim.mono _ _ _
      | exact LeO.none _
      | refine LeO.ite ?_ ?_
      | refine LeO.bind ?_ (fun _ => ?_)
set_option maxHeartbeats 8000000 in
set_option maxRecDepth 100000 in
theorem ostiaryref6_back.calls (k : Nat) (a0 : ByteArray) (r : ByteArray) (w : World) (h : ostiaryref6_back.f k a0 = some r) :
    Calls Tryz.prog 73 #[.string a0] w fun e w' => e = .returned (.string r) ∧ Drawn0 w w' := by
  have H : (if 1 + a0.size ≤ 9223372036854775807 then ((ostiaryref1_Trim.f k ((⟨#[120]⟩ : ByteArray) ++ a0) false).bind fun t101 => (if 1 ≤ (t101.size : Int) then (some (t101.extract 1 t101.size)) else (none))) else (none)) = some r := h
  clear h
  by_cases c2 : 1 + a0.size ≤ 9223372036854775807
  · rw [if_pos c2] at H
    have c2b0 := eq_true c2
    have c2b1 : decide (1 + a0.size ≤ 9223372036854775807) = true := decide_eq_true c2
    try have c2b2 : (9223372036854775807 < 1 + a0.size) = False := eq_false (Nat.not_lt.2 c2)
    replace H := Option.bind_eq_some_iff.mp H
    obtain ⟨t101, A30, H⟩ := H
    replace H : (if 1 ≤ (t101.size : Int) then (some (t101.extract 1 t101.size)) else (none)) = some r := H
    have A3 := Aside0.mk A30
    clear A30
    by_cases c4 : 1 ≤ (t101.size : Int)
    · rw [if_pos c4] at H
      have c4b0 := eq_true c4
      have c4b1 : decide (1 ≤ (t101.size : Int)) = true := decide_eq_true c4
      clear c4
      obtain rfl := Option.some.inj H
      go_enter Tryz.func73, Tryz.ntmps73
      go_wp2_with (first | ((with_reducible refine gate_callee (f := 71) rfl ?_); refine goesL_ (some 6) rfl rfl Tryz.func71 (by kernel_rfl) rfl #[.string ((⟨#[120]⟩ : ByteArray) ++ a0), .bool false] rfl (by (try simp only [List.map_toArray, List.map_cons, List.map_nil]); first | done | rfl | (simp only [List.length_drop, List.length_take]; rfl)) ?_; (with_reducible refine (ostiaryref1_Trim.calls k ((⟨#[120]⟩ : ByteArray) ++ a0) false t101 _ A3.out).mono ?_); rintro e w' ⟨rfl, ⟨nd, rfl⟩⟩; refine ⟨_, rfl, ?_⟩))
      go_ret
      exact ⟨by first | rfl | (simp; done) | (simp [*]; done), by repeat (first | exact Drawn0.refl _ | apply Drawn0.step)⟩
    · rw [if_neg c4] at H
      exact absurd H (by simp)
  · rw [if_neg c2] at H
    exact absurd H (by simp)
end Go.Proofs.YteehjlciajhdoaaGreatDoor.X
namespace Go.Proofs.YteehjlciajhdoaaGreatDoor.X
open Go.RowKit Go.Proofs.YteehjlciajhdoaaGreatDoorW.PrintWords Go.Proofs.YteehjlciajhdoaaGreatDoorW.PrintLast Go.Proofs.YteehjlciajhdoaaGreatDoorW.PrintMore
attribute [local go_sem] max2_int min2_int max_two min_two max_three min_three max_four min_four
set_option linter.unusedVariables false
set_option linter.unusedSimpArgs false
def ostiaryref1_Begins.f (a0 : ByteArray) (a1 : ByteArray) : Option (Bool) := if (a0.size : Int) ≥ (a1.size : Int) then (if 0 ≤ (a1.size : Int) then (if (a1.size : Int) ≤ (a0.size : Int) then (some ((a0.extract 0 ((a1.size : Int) : Int).toNat).toList == a1.toList)) else (none)) else (none)) else (some false)
set_option maxHeartbeats 8000000 in
set_option maxRecDepth 100000 in
theorem ostiaryref1_Begins.calls (a0 : ByteArray) (a1 : ByteArray) (r : Bool) (w : World) (h : ostiaryref1_Begins.f a0 a1 = some r) :
    Calls Tryz.prog 110 #[.string a0, .string a1] w fun e w' => e = .returned (.bool r) ∧ Drawn0 w w' := by
  have H : (if (a0.size : Int) ≥ (a1.size : Int) then (if 0 ≤ (a1.size : Int) then (if (a1.size : Int) ≤ (a0.size : Int) then (some ((a0.extract 0 ((a1.size : Int) : Int).toNat).toList == a1.toList)) else (none)) else (none)) else (some false)) = some r := h
  clear h
  by_cases c3 : (a0.size : Int) ≥ (a1.size : Int)
  · rw [if_pos c3] at H
    have c3b0 : decide ((a1.size : Int) ≤ (a0.size : Int)) = true := decide_eq_true c3
    have c3b1 : decide (a1.size ≤ a0.size) = true := decide_eq_true (Int.ofNat_le.mp c3)
    clear c3
    by_cases c4 : 0 ≤ (a1.size : Int)
    · rw [if_pos c4] at H
      have c4b0 := eq_true c4
      have c4b1 : decide (0 ≤ (a1.size : Int)) = true := decide_eq_true c4
      clear c4
      by_cases c5 : (a1.size : Int) ≤ (a0.size : Int)
      · rw [if_pos c5] at H
        have c5b0 := eq_true c5
        have c5b1 : decide ((a1.size : Int) ≤ (a0.size : Int)) = true := decide_eq_true c5
        clear c5
        obtain rfl := Option.some.inj H
        go_enter Tryz.func110, Tryz.ntmps110
        go_wp2
        go_ret
        exact ⟨by first | rfl | (simp; done) | (simp [*]; done), by repeat (first | exact Drawn0.refl _ | apply Drawn0.step)⟩
      · rw [if_neg c5] at H
        exact absurd H (by simp)
    · rw [if_neg c4] at H
      exact absurd H (by simp)
  · rw [if_neg c3] at H
    have c3b0 : decide ((a1.size : Int) ≤ (a0.size : Int)) = false := decide_eq_false c3
    have c3b1 : decide (a1.size ≤ a0.size) = false := decide_eq_false (fun h => c3 (Int.ofNat_le.mpr h))
    clear c3
    obtain rfl := Option.some.inj H
    go_enter Tryz.func110, Tryz.ntmps110
    go_wp2
    go_ret
    exact ⟨by first | rfl | (simp; done) | (simp [*]; done), by repeat (first | exact Drawn0.refl _ | apply Drawn0.step)⟩
end Go.Proofs.YteehjlciajhdoaaGreatDoor.X
namespace Go.Proofs.YteehjlciajhdoaaGreatDoor.X
open Go.RowKit Go.Proofs.YteehjlciajhdoaaGreatDoorW.PrintWords Go.Proofs.YteehjlciajhdoaaGreatDoorW.PrintLast Go.Proofs.YteehjlciajhdoaaGreatDoorW.PrintMore
attribute [local go_sem] max2_int min2_int max_two min_two max_three min_three max_four min_four
set_option linter.unusedVariables false
set_option linter.unusedSimpArgs false
mutual
def ostiaryref6_quoted.l0 : Nat → ByteArray → ByteArray → Int → Option (ByteArray × ByteArray)
  | 0, _, _, _ => none
  | k + 1, x0, x4, x5 => if x5 < (x0.size : Int) then (if 0 ≤ x5 then (if (bt x0 x5) = 92 then (ostiaryref6_quoted.j1 k x0 x4 x5 (decide ((wrap64 (x5 + 1)) < (x0.size : Int)))) else (ostiaryref6_quoted.j1 k x0 x4 x5 false)) else (none)) else (some (x4, (⟨#[]⟩ : ByteArray)))
def ostiaryref6_quoted.j1 : Nat → ByteArray → ByteArray → Int → Bool → Option (ByteArray × ByteArray)
  | 0, _, _, _, _ => none
  | k + 1, x0, x4, x5, x19 => if x19 = true then (if 0 ≤ (wrap64 (x5 + 1)) then (if (wrap64 (x5 + 1)) ≤ (wrap64 ((wrap64 (x5 + 1)) + 1)) then (if (wrap64 ((wrap64 (x5 + 1)) + 1)) ≤ (x0.size : Int) then (if x4.size + (x0.extract ((wrap64 (x5 + 1)) : Int).toNat ((wrap64 ((wrap64 (x5 + 1)) + 1)) : Int).toNat).size ≤ 9223372036854775807 then (ostiaryref6_quoted.l0 k x0 (x4 ++ (x0.extract ((wrap64 (x5 + 1)) : Int).toNat ((wrap64 ((wrap64 (x5 + 1)) + 1)) : Int).toNat)) (wrap64 ((wrap64 (x5 + 1)) + 1))) else (none)) else (none)) else (none)) else (none)) else (if 0 ≤ x5 then (if x5 < (x0.size : Int) then (if (bt x0 x5) = 34 then (if 0 ≤ (wrap64 (x5 + 1)) then (if (wrap64 (x5 + 1)) ≤ (x0.size : Int) then (some (x4, x0.extract ((wrap64 (x5 + 1)) : Int).toNat x0.size)) else (none)) else (none)) else (if x5 ≤ (wrap64 (x5 + 1)) then (if (wrap64 (x5 + 1)) ≤ (x0.size : Int) then (if x4.size + (x0.extract (x5 : Int).toNat ((wrap64 (x5 + 1)) : Int).toNat).size ≤ 9223372036854775807 then (ostiaryref6_quoted.l0 k x0 (x4 ++ (x0.extract (x5 : Int).toNat ((wrap64 (x5 + 1)) : Int).toNat)) (wrap64 (x5 + 1))) else (none)) else (none)) else (none))) else (none)) else (none))
end
def ostiaryref6_quoted.f (k : Nat) (a0 : ByteArray) : Option (ByteArray × ByteArray) := ostiaryref6_quoted.l0 k a0 (⟨#[]⟩ : ByteArray) 0
theorem ostiaryref6_quoted.mono_l : ∀ k, (∀ y0 y1 y2, LeO (ostiaryref6_quoted.l0 k y0 y1 y2) (ostiaryref6_quoted.l0 (k + 1) y0 y1 y2)) ∧ (∀ y0 y1 y2 y3, LeO (ostiaryref6_quoted.j1 k y0 y1 y2 y3) (ostiaryref6_quoted.j1 (k + 1) y0 y1 y2 y3))
  | 0 => ⟨fun _ _ _ r h => by simp [ostiaryref6_quoted.l0] at h, fun _ _ _ _ r h => by simp [ostiaryref6_quoted.j1] at h⟩
  | k + 1 => by
    obtain ⟨ih0, ih1⟩ := ostiaryref6_quoted.mono_l k
    refine ⟨?_, ?_⟩
    · intro y0 y1 y2
      unfold ostiaryref6_quoted.l0
      repeat' first
      | (with_reducible exact ih0 _ _ _)
      | (with_reducible exact ih1 _ _ _ _)
      | (with_reducible exact LeO.refl _)
      | (with_reducible exact LeO.none _)
      | (with_reducible refine LeO.ite ?_ ?_)
      | (with_reducible refine LeO.bind ?_ (fun _ => ?_))
      | exact ih0 _ _ _
      | exact ih1 _ _ _ _
      | exact LeO.none _
      | refine LeO.ite ?_ ?_
      | refine LeO.bind ?_ (fun _ => ?_)
    · intro y0 y1 y2 y3
      unfold ostiaryref6_quoted.j1
      repeat' first
      | (with_reducible exact ih0 _ _ _)
      | (with_reducible exact ih1 _ _ _ _)
      | (with_reducible exact LeO.refl _)
      | (with_reducible exact LeO.none _)
      | (with_reducible refine LeO.ite ?_ ?_)
      | (with_reducible refine LeO.bind ?_ (fun _ => ?_))
      | exact ih0 _ _ _
      | exact ih1 _ _ _ _
      | exact LeO.none _
      | refine LeO.ite ?_ ?_
      | refine LeO.bind ?_ (fun _ => ?_)
theorem ostiaryref6_quoted.mono : ∀ a0 k, LeO (ostiaryref6_quoted.f k a0) (ostiaryref6_quoted.f (k + 1) a0) := by
  intro a0 k
  obtain ⟨ih0, ih1⟩ := ostiaryref6_quoted.mono_l k
  unfold ostiaryref6_quoted.f
  repeat' first
      | (with_reducible exact ih0 _ _ _)
      | (with_reducible exact ih1 _ _ _ _)
      | (with_reducible exact LeO.refl _)
      | (with_reducible exact LeO.none _)
      | (with_reducible refine LeO.ite ?_ ?_)
      | (with_reducible refine LeO.bind ?_ (fun _ => ?_))
      | exact ih0 _ _ _
      | exact ih1 _ _ _ _
      | exact LeO.none _
      | refine LeO.ite ?_ ?_
      | refine LeO.bind ?_ (fun _ => ?_)
set_option maxHeartbeats 8000000 in
set_option maxRecDepth 100000 in
theorem ostiaryref6_quoted.calls (k : Nat) (a0 : ByteArray) (r1 : ByteArray) (r2 : ByteArray) (w : World) (h : ostiaryref6_quoted.f k a0 = some (r1, r2)) :
    Calls Tryz.prog 137 #[.string a0] w fun e w' => e = .returned (.tuple #[.string r1, .string r2]) ∧ Drawn0 w w' := by
  have H : (ostiaryref6_quoted.l0 k a0 (⟨#[]⟩ : ByteArray) 0) = some (r1, r2) := h
  clear h
  have H' := Aside0.mk H
  clear H
  go_enter Tryz.func137, Tryz.ntmps137
  go_wp2
  repeat (go_quiet (fail); try go_wp2)
  go_loopg [4, 5] k (fun kq v4 v5 w' => ∃ (x4_1 : ByteArray) (x5_1 : Int), v4 = .string x4_1 ∧ v5 = .int .i64 x5_1 ∧ Aside0 (ostiaryref6_quoted.l0 kq a0 x4_1 x5_1 = some (r1, r2)) ∧ Aside0 (kq ≤ k) ∧ Drawn0 w w')
  case atStart => exact ⟨((⟨#[]⟩ : ByteArray)), (0), (by first | rfl | (simp; done) | (simp [*]; done)), (by first | rfl | (simp; done) | (simp [*]; done)), H', ⟨Nat.le_refl _⟩, by repeat (first | exact Drawn0.refl _ | apply Drawn0.step)⟩
  case round =>
    clear H'
    try clear c1
    obtain ⟨x4_1, x5_1, rfl, rfl, HA, HK1, ⟨m1, rfl⟩⟩ := hrel
    cases gk with
    | zero => exact absurd HA.out (by simp [ostiaryref6_quoted.l0])
    | succ k1 =>
      have H := HA.out
      clear HA
      simp only [ostiaryref6_quoted.l0] at H
      by_cases c2 : x5_1 < (a0.size : Int)
      · rw [if_pos c2] at H
        have c2b0 : decide (x5_1 < (a0.size : Int)) = true := decide_eq_true c2
        clear c2
        have HC3 := Aside0.mk H
        clear H
        go_upto_region 6 with (fail)
        repeat (go_quiet (fail); go_upto_region 6 with (fail))
        go_cut [19] (fun v19 wc => ∃ (kq : Nat) (x19_2 : Bool), v19 = .bool x19_2 ∧ Aside0 (ostiaryref6_quoted.j1 kq a0 x4_1 x5_1 x19_2 = some (r1, r2)) ∧ Aside0 (kq ≤ k1) ∧ Drawn0 w wc)
        case first =>
          have H := HC3.out
          clear HC3
          by_cases c4 : 0 ≤ x5_1
          · rw [if_pos c4] at H
            have c4b0 : decide (0 ≤ x5_1) = true := decide_eq_true c4
            clear c4
            (first | rw [c4b0] | (simp only [i64_w, i32_w]; rw [c4b0]) | skip)
            by_cases c6 : (bt a0 x5_1) = 92
            · rw [if_pos c6] at H
              have c6b0 : ((bt a0 x5_1) == 92) = true := beq_iff_eq.mpr c6
              have c6b1 : ((bt a0 x5_1) != 92) = false := bne_eq_false_iff_eq.mpr c6
              clear c6
              have H' := Aside0.mk H
              clear H
              have p5 : 0 ≤ (x5_1 : Int) := of_decide_eq_true (by first | (with_reducible assumption) | assumption)
              have q5 : x5_1 < (a0.size : Int) := of_decide_eq_true (by first | (with_reducible assumption) | assumption)
              have hx5 := bt_at a0 x5_1
              replace p5 := eq_true p5
              replace q5 := eq_true q5
              go_wp2
              repeat (go_quiet (fail); try go_wp2)
              go_meet
              case rel => exact ⟨_, (decide ((wrap64 (x5_1 + 1)) < (a0.size : Int))), (by first | rfl | (simp; done) | (simp [*]; done)), H', ⟨by have := HK1.out; first | omega | exact Nat.le_refl _⟩, by repeat (first | exact Drawn0.refl _ | apply Drawn0.step)⟩
            · rw [if_neg c6] at H
              have c6b0 : ((bt a0 x5_1) == 92) = false := beq_eq_false_iff_ne.mpr c6
              have c6b1 : ((bt a0 x5_1) != 92) = true := bne_iff_ne.mpr c6
              have H' := Aside0.mk H
              clear H
              have p5 : 0 ≤ (x5_1 : Int) := of_decide_eq_true (by first | (with_reducible assumption) | assumption)
              have q5 : x5_1 < (a0.size : Int) := of_decide_eq_true (by first | (with_reducible assumption) | assumption)
              have hx5 := bt_at a0 x5_1
              replace p5 := eq_true p5
              replace q5 := eq_true q5
              go_wp2
              repeat (go_quiet (fail); try go_wp2)
              go_meet
              case rel => exact ⟨_, (false), (by first | rfl | (simp; done) | (simp [*]; done)), H', ⟨by have := HK1.out; first | omega | exact Nat.le_refl _⟩, by repeat (first | exact Drawn0.refl _ | apply Drawn0.step)⟩
          · rw [if_neg c4] at H
            exact absurd H (by simp)
        case rest =>
          clear HC3
          try clear c1
          try clear c2
          try clear c2b0
          try clear p2
          try clear c4
          try clear c4b0
          try clear p5
          try clear q5
          try clear hx5
          try clear c6
          try clear c6b0
          try clear c6b1
          try clear p6
          try clear p5
          try clear q5
          obtain ⟨kq, x19_2, rfl, HA, HJ2, ⟨mc2, rfl⟩⟩ := hcut
          cases kq with
          | zero => exact absurd HA.out (by simp [ostiaryref6_quoted.j1])
          | succ kj2 =>
            have H := HA.out
            clear HA
            simp only [ostiaryref6_quoted.j1] at H
            by_cases c7 : x19_2 = true
            · subst c7
              have H1 : (if 0 ≤ (wrap64 (x5_1 + 1)) then (if (wrap64 (x5_1 + 1)) ≤ (wrap64 ((wrap64 (x5_1 + 1)) + 1)) then (if (wrap64 ((wrap64 (x5_1 + 1)) + 1)) ≤ (a0.size : Int) then (if x4_1.size + (a0.extract ((wrap64 (x5_1 + 1)) : Int).toNat ((wrap64 ((wrap64 (x5_1 + 1)) + 1)) : Int).toNat).size ≤ 9223372036854775807 then (ostiaryref6_quoted.l0 kj2 a0 (x4_1 ++ (a0.extract ((wrap64 (x5_1 + 1)) : Int).toNat ((wrap64 ((wrap64 (x5_1 + 1)) + 1)) : Int).toNat)) (wrap64 ((wrap64 (x5_1 + 1)) + 1))) else (none)) else (none)) else (none)) else (none)) = some (r1, r2) := by rw [if_pos rfl] at H; exact H
              clear H
              have H := H1
              clear H1
              obtain ⟨ji8, hji8⟩ : ∃ j_ : Int, (wrap64 (x5_1 + 1)) = j_ := ⟨_, rfl⟩
              replace H : (if 0 ≤ (ji8) then (if (ji8) ≤ (wrap64 ((ji8) + 1)) then (if (wrap64 ((ji8) + 1)) ≤ (a0.size : Int) then (if x4_1.size + (a0.extract ((ji8) : Int).toNat ((wrap64 ((ji8) + 1)) : Int).toNat).size ≤ 9223372036854775807 then (ostiaryref6_quoted.l0 kj2 a0 (x4_1 ++ (a0.extract ((ji8) : Int).toNat ((wrap64 ((ji8) + 1)) : Int).toNat)) (wrap64 ((ji8) + 1))) else (none)) else (none)) else (none)) else (none)) = some (r1, r2) := by first | (rw [hji8] at H; exact H) | (simp only [hji8] at H ⊢; exact H)
              have hji8w : (IntKind.i64.wrap (x5_1 + 1)) = ji8 := (i64_w _).trans hji8
              by_cases c9 : 0 ≤ (ji8)
              · rw [if_pos c9] at H
                have c9b0 := eq_true c9
                have c9b1 : decide (0 ≤ (ji8)) = true := decide_eq_true c9
                clear c9
                by_cases c10 : (ji8) ≤ (wrap64 ((ji8) + 1))
                · rw [if_pos c10] at H
                  have c10b0 := eq_true c10
                  have c10b1 : decide ((ji8) ≤ (wrap64 ((ji8) + 1))) = true := decide_eq_true c10
                  by_cases c11 : (wrap64 ((ji8) + 1)) ≤ (a0.size : Int)
                  · rw [if_pos c11] at H
                    have c11b0 := eq_true c11
                    have c11b1 : decide ((wrap64 ((ji8) + 1)) ≤ (a0.size : Int)) = true := decide_eq_true c11
                    by_cases c12 : x4_1.size + (a0.extract ((ji8) : Int).toNat ((wrap64 ((ji8) + 1)) : Int).toNat).size ≤ 9223372036854775807
                    · rw [if_pos c12] at H
                      have c12b0 := eq_true c12
                      have c12b1 : decide (x4_1.size + (a0.extract ((ji8) : Int).toNat ((wrap64 ((ji8) + 1)) : Int).toNat).size ≤ 9223372036854775807) = true := decide_eq_true c12
                      try have c12b2 : (9223372036854775807 < x4_1.size + (a0.extract ((ji8) : Int).toNat ((wrap64 ((ji8) + 1)) : Int).toNat).size) = False := eq_false (Nat.not_lt.2 c12)
                      have H' := Aside0.mk H
                      clear H
                      go_wp2
                      repeat (go_quiet (fail); try go_wp2)
                      go_roundg kj2
                      case measure => have := HK1.out; have := HJ2.out; omega
                      case rel => exact ⟨(x4_1 ++ (a0.extract ((ji8) : Int).toNat ((wrap64 ((ji8) + 1)) : Int).toNat)), (wrap64 ((ji8) + 1)), (by first | rfl | (simp; done) | (simp only [← hji8] <;> (first | rfl | simp)) | (simp [*]; done)), (by first | rfl | (simp; done) | (simp only [← hji8] <;> (first | rfl | simp)) | (simp [*]; done)), H', ⟨by have := HK1.out; have := HJ2.out; omega⟩, by repeat (first | exact Drawn0.refl _ | apply Drawn0.step)⟩
                    · rw [if_neg c12] at H
                      exact absurd H (by simp)
                  · rw [if_neg c11] at H
                    exact absurd H (by simp)
                · rw [if_neg c10] at H
                  exact absurd H (by simp)
              · rw [if_neg c9] at H
                exact absurd H (by simp)
            · replace c7 := Bool.eq_false_iff.mpr c7
              subst c7
              have H1 : (if 0 ≤ x5_1 then (if x5_1 < (a0.size : Int) then (if (bt a0 x5_1) = 34 then (if 0 ≤ (wrap64 (x5_1 + 1)) then (if (wrap64 (x5_1 + 1)) ≤ (a0.size : Int) then (some (x4_1, a0.extract ((wrap64 (x5_1 + 1)) : Int).toNat a0.size)) else (none)) else (none)) else (if x5_1 ≤ (wrap64 (x5_1 + 1)) then (if (wrap64 (x5_1 + 1)) ≤ (a0.size : Int) then (if x4_1.size + (a0.extract (x5_1 : Int).toNat ((wrap64 (x5_1 + 1)) : Int).toNat).size ≤ 9223372036854775807 then (ostiaryref6_quoted.l0 kj2 a0 (x4_1 ++ (a0.extract (x5_1 : Int).toNat ((wrap64 (x5_1 + 1)) : Int).toNat)) (wrap64 (x5_1 + 1))) else (none)) else (none)) else (none))) else (none)) else (none)) = some (r1, r2) := by rw [if_neg (show ¬ (false = true) by decide)] at H; exact H
              clear H
              have H := H1
              clear H1
              by_cases c13 : 0 ≤ x5_1
              · rw [if_pos c13] at H
                have c13b0 : decide (0 ≤ x5_1) = true := decide_eq_true c13
                clear c13
                by_cases c14 : x5_1 < (a0.size : Int)
                · rw [if_pos c14] at H
                  have c14b0 : decide (x5_1 < (a0.size : Int)) = true := decide_eq_true c14
                  clear c14
                  by_cases c16 : (bt a0 x5_1) = 34
                  · rw [if_pos c16] at H
                    have c16b0 : ((bt a0 x5_1) == 34) = true := beq_iff_eq.mpr c16
                    have c16b1 : ((bt a0 x5_1) != 34) = false := bne_eq_false_iff_eq.mpr c16
                    clear c16
                    obtain ⟨ji17, hji17⟩ : ∃ j_ : Int, (wrap64 (x5_1 + 1)) = j_ := ⟨_, rfl⟩
                    replace H : (if 0 ≤ (ji17) then (if (ji17) ≤ (a0.size : Int) then (some (x4_1, a0.extract ((ji17) : Int).toNat a0.size)) else (none)) else (none)) = some (r1, r2) := by first | (rw [hji17] at H; exact H) | (simp only [hji17] at H ⊢; exact H)
                    have hji17w : (IntKind.i64.wrap (x5_1 + 1)) = ji17 := (i64_w _).trans hji17
                    by_cases c18 : 0 ≤ (ji17)
                    · rw [if_pos c18] at H
                      have c18b0 := eq_true c18
                      have c18b1 : decide (0 ≤ (ji17)) = true := decide_eq_true c18
                      clear c18
                      by_cases c19 : (ji17) ≤ (a0.size : Int)
                      · rw [if_pos c19] at H
                        have c19b0 := eq_true c19
                        have c19b1 : decide ((ji17) ≤ (a0.size : Int)) = true := decide_eq_true c19
                        clear c19
                        simp only [Option.some.injEq, Prod.mk.injEq] at H
                        obtain ⟨rfl, rfl⟩ := H
                        have p15 : 0 ≤ (x5_1 : Int) := of_decide_eq_true (by first | (with_reducible assumption) | assumption)
                        have q15 : x5_1 < (a0.size : Int) := of_decide_eq_true (by first | (with_reducible assumption) | assumption)
                        have hx15 := bt_at a0 x5_1
                        replace p15 := eq_true p15
                        replace q15 := eq_true q15
                        go_wp2
                        repeat (go_quiet (fail); try go_wp2)
                        go_ret2
                        exact ⟨by first | rfl | (simp; done) | (simp only [← hji17] <;> (first | rfl | simp)) | (simp [*]; done), by repeat (first | exact Drawn0.refl _ | apply Drawn0.step)⟩
                      · rw [if_neg c19] at H
                        exact absurd H (by simp)
                    · rw [if_neg c18] at H
                      exact absurd H (by simp)
                  · rw [if_neg c16] at H
                    have c16b0 : ((bt a0 x5_1) == 34) = false := beq_eq_false_iff_ne.mpr c16
                    have c16b1 : ((bt a0 x5_1) != 34) = true := bne_iff_ne.mpr c16
                    have c20b0 := eq_true (of_decide_eq_true (by first | (with_reducible assumption) | assumption) : 0 ≤ x5_1)
                    by_cases c21 : x5_1 ≤ (wrap64 (x5_1 + 1))
                    · rw [if_pos c21] at H
                      have c21b0 := eq_true c21
                      have c21b1 : decide (x5_1 ≤ (wrap64 (x5_1 + 1))) = true := decide_eq_true c21
                      by_cases c22 : (wrap64 (x5_1 + 1)) ≤ (a0.size : Int)
                      · rw [if_pos c22] at H
                        have c22b0 := eq_true c22
                        have c22b1 : decide ((wrap64 (x5_1 + 1)) ≤ (a0.size : Int)) = true := decide_eq_true c22
                        by_cases c23 : x4_1.size + (a0.extract (x5_1 : Int).toNat ((wrap64 (x5_1 + 1)) : Int).toNat).size ≤ 9223372036854775807
                        · rw [if_pos c23] at H
                          have c23b0 := eq_true c23
                          have c23b1 : decide (x4_1.size + (a0.extract (x5_1 : Int).toNat ((wrap64 (x5_1 + 1)) : Int).toNat).size ≤ 9223372036854775807) = true := decide_eq_true c23
                          try have c23b2 : (9223372036854775807 < x4_1.size + (a0.extract (x5_1 : Int).toNat ((wrap64 (x5_1 + 1)) : Int).toNat).size) = False := eq_false (Nat.not_lt.2 c23)
                          have H' := Aside0.mk H
                          clear H
                          have p15 : 0 ≤ (x5_1 : Int) := of_decide_eq_true (by first | (with_reducible assumption) | assumption)
                          have q15 : x5_1 < (a0.size : Int) := of_decide_eq_true (by first | (with_reducible assumption) | assumption)
                          have hx15 := bt_at a0 x5_1
                          replace p15 := eq_true p15
                          replace q15 := eq_true q15
                          go_wp2
                          repeat (go_quiet (fail); try go_wp2)
                          go_roundg kj2
                          case measure => have := HK1.out; have := HJ2.out; omega
                          case rel => exact ⟨(x4_1 ++ (a0.extract (x5_1 : Int).toNat ((wrap64 (x5_1 + 1)) : Int).toNat)), (wrap64 (x5_1 + 1)), (by first | rfl | (simp; done) | (simp [*]; done)), (by first | rfl | (simp; done) | (simp [*]; done)), H', ⟨by have := HK1.out; have := HJ2.out; omega⟩, by repeat (first | exact Drawn0.refl _ | apply Drawn0.step)⟩
                        · rw [if_neg c23] at H
                          exact absurd H (by simp)
                      · rw [if_neg c22] at H
                        exact absurd H (by simp)
                    · rw [if_neg c21] at H
                      exact absurd H (by simp)
                · rw [if_neg c14] at H
                  exact absurd H (by simp)
              · rw [if_neg c13] at H
                exact absurd H (by simp)
      · rw [if_neg c2] at H
        have c2b0 : decide (x5_1 < (a0.size : Int)) = false := decide_eq_false c2
        clear c2
        simp only [Option.some.injEq, Prod.mk.injEq] at H
        obtain ⟨rfl, rfl⟩ := H
        go_wp2
        repeat (go_quiet (fail); try go_wp2)
        go_ret2
        exact ⟨by first | rfl | (simp; done) | (simp [*]; done), by repeat (first | exact Drawn0.refl _ | apply Drawn0.step)⟩
end Go.Proofs.YteehjlciajhdoaaGreatDoor.X
namespace Go.Proofs.YteehjlciajhdoaaGreatDoor.X
open Go.RowKit Go.Proofs.YteehjlciajhdoaaGreatDoorW.PrintWords Go.Proofs.YteehjlciajhdoaaGreatDoorW.PrintLast Go.Proofs.YteehjlciajhdoaaGreatDoorW.PrintMore
attribute [local go_sem] max2_int min2_int max_two min_two max_three min_three max_four min_four
set_option linter.unusedVariables false
set_option linter.unusedSimpArgs false
def ostiaryref1_Letter.f (a0 : Int) : Option (Bool) := if a0 ≥ 97 then (if a0 ≤ 122 then (some true) else (if a0 ≥ 65 then (some (decide (a0 ≤ 90))) else (some false))) else (if a0 ≥ 65 then (some (decide (a0 ≤ 90))) else (some false))
set_option maxHeartbeats 8000000 in
set_option maxRecDepth 100000 in
theorem ostiaryref1_Letter.calls (a0 : Int) (r : Bool) (w : World) (h : ostiaryref1_Letter.f a0 = some r) :
    Calls Tryz.prog 135 #[.int .u8 a0] w fun e w' => e = .returned (.bool r) ∧ Drawn0 w w' := by
  have H : (if a0 ≥ 97 then (if a0 ≤ 122 then (some true) else (if a0 ≥ 65 then (some (decide (a0 ≤ 90))) else (some false))) else (if a0 ≥ 65 then (some (decide (a0 ≤ 90))) else (some false))) = some r := h
  clear h
  by_cases c2 : a0 ≥ 97
  · rw [if_pos c2] at H
    have c2b0 : decide (97 ≤ a0) = true := decide_eq_true c2
    clear c2
    by_cases c3 : a0 ≤ 122
    · rw [if_pos c3] at H
      have c3b0 : decide (a0 ≤ 122) = true := decide_eq_true c3
      clear c3
      obtain rfl := Option.some.inj H
      go_enter Tryz.func135, Tryz.ntmps135
      go_wp2
      go_ret
      exact ⟨by first | rfl | (simp; done) | (simp [*]; done), by repeat (first | exact Drawn0.refl _ | apply Drawn0.step)⟩
    · rw [if_neg c3] at H
      have c3b0 : decide (a0 ≤ 122) = false := decide_eq_false c3
      clear c3
      by_cases c4 : a0 ≥ 65
      · rw [if_pos c4] at H
        have c4b0 : decide (65 ≤ a0) = true := decide_eq_true c4
        clear c4
        obtain rfl := Option.some.inj H
        go_enter Tryz.func135, Tryz.ntmps135
        go_wp2
        go_ret
        exact ⟨by first | rfl | (simp; done) | (simp [*]; done), by repeat (first | exact Drawn0.refl _ | apply Drawn0.step)⟩
      · rw [if_neg c4] at H
        have c4b0 : decide (65 ≤ a0) = false := decide_eq_false c4
        clear c4
        obtain rfl := Option.some.inj H
        go_enter Tryz.func135, Tryz.ntmps135
        go_wp2
        go_ret
        exact ⟨by first | rfl | (simp; done) | (simp [*]; done), by repeat (first | exact Drawn0.refl _ | apply Drawn0.step)⟩
  · rw [if_neg c2] at H
    have c2b0 : decide (97 ≤ a0) = false := decide_eq_false c2
    clear c2
    by_cases c5 : a0 ≥ 65
    · rw [if_pos c5] at H
      have c5b0 : decide (65 ≤ a0) = true := decide_eq_true c5
      clear c5
      obtain rfl := Option.some.inj H
      go_enter Tryz.func135, Tryz.ntmps135
      go_wp2
      go_ret
      exact ⟨by first | rfl | (simp; done) | (simp [*]; done), by repeat (first | exact Drawn0.refl _ | apply Drawn0.step)⟩
    · rw [if_neg c5] at H
      have c5b0 : decide (65 ≤ a0) = false := decide_eq_false c5
      clear c5
      obtain rfl := Option.some.inj H
      go_enter Tryz.func135, Tryz.ntmps135
      go_wp2
      go_ret
      exact ⟨by first | rfl | (simp; done) | (simp [*]; done), by repeat (first | exact Drawn0.refl _ | apply Drawn0.step)⟩
end Go.Proofs.YteehjlciajhdoaaGreatDoor.X
namespace Go.Proofs.YteehjlciajhdoaaGreatDoor.X
open Go.RowKit Go.Proofs.YteehjlciajhdoaaGreatDoorW.PrintWords Go.Proofs.YteehjlciajhdoaaGreatDoorW.PrintLast Go.Proofs.YteehjlciajhdoaaGreatDoorW.PrintMore
attribute [local go_sem] max2_int min2_int max_two min_two max_three min_three max_four min_four
set_option linter.unusedVariables false
set_option linter.unusedSimpArgs false
def ostiaryref1_Digit.f (a0 : Int) : Option (Bool) := if a0 ≥ 48 then (some (decide (a0 ≤ 57))) else (some false)
set_option maxHeartbeats 8000000 in
set_option maxRecDepth 100000 in
theorem ostiaryref1_Digit.calls (a0 : Int) (r : Bool) (w : World) (h : ostiaryref1_Digit.f a0 = some r) :
    Calls Tryz.prog 136 #[.int .u8 a0] w fun e w' => e = .returned (.bool r) ∧ Drawn0 w w' := by
  have H : (if a0 ≥ 48 then (some (decide (a0 ≤ 57))) else (some false)) = some r := h
  clear h
  by_cases c2 : a0 ≥ 48
  · rw [if_pos c2] at H
    have c2b0 : decide (48 ≤ a0) = true := decide_eq_true c2
    clear c2
    obtain rfl := Option.some.inj H
    go_enter Tryz.func136, Tryz.ntmps136
    go_wp2
    go_ret
    exact ⟨by first | rfl | (simp; done) | (simp [*]; done), by repeat (first | exact Drawn0.refl _ | apply Drawn0.step)⟩
  · rw [if_neg c2] at H
    have c2b0 : decide (48 ≤ a0) = false := decide_eq_false c2
    clear c2
    obtain rfl := Option.some.inj H
    go_enter Tryz.func136, Tryz.ntmps136
    go_wp2
    go_ret
    exact ⟨by first | rfl | (simp; done) | (simp [*]; done), by repeat (first | exact Drawn0.refl _ | apply Drawn0.step)⟩
end Go.Proofs.YteehjlciajhdoaaGreatDoor.X
namespace Go.Proofs.YteehjlciajhdoaaGreatDoor.X
open Go.RowKit Go.Proofs.YteehjlciajhdoaaGreatDoorW.PrintWords Go.Proofs.YteehjlciajhdoaaGreatDoorW.PrintLast Go.Proofs.YteehjlciajhdoaaGreatDoorW.PrintMore
attribute [local go_sem] max2_int min2_int max_two min_two max_three min_three max_four min_four
set_option linter.unusedVariables false
set_option linter.unusedSimpArgs false
mutual
def ostiaryref1_Token.l0 : Nat → ByteArray → Int → Option (Bool)
  | 0, _, _ => none
  | k + 1, x0, x3 => if x3 < (x0.size : Int) then (if 0 ≤ x3 then ((ostiaryref1_Letter.f (bt x0 x3)).bind fun t101 => (if t101 = true then (ostiaryref1_Token.j1 k x0 x3 (bt x0 x3) true) else ((ostiaryref1_Digit.f (bt x0 x3)).bind fun t102 => (ostiaryref1_Token.j1 k x0 x3 (bt x0 x3) t102)))) else (none)) else (some (decide ((x0.size : Int) > 0)))
def ostiaryref1_Token.j1 : Nat → ByteArray → Int → Int → Bool → Option (Bool)
  | 0, _, _, _, _ => none
  | k + 1, x0, x3, x4, x5 => ostiaryref1_Token.l1 k x0 x3 x4 x5 0
def ostiaryref1_Token.l1 : Nat → ByteArray → Int → Int → Bool → Int → Option (Bool)
  | 0, _, _, _, _, _ => none
  | k + 1, x0, x3, x4, x5, x6 => if x6 < 15 then (if x5 = true then (ostiaryref1_Token.l1 k x0 x3 x4 true (wrap64 (x6 + 1))) else (if 0 ≤ x6 then (ostiaryref1_Token.l1 k x0 x3 x4 (x4 == (bt (⟨#[33, 35, 36, 37, 38, 39, 42, 43, 45, 46, 94, 95, 96, 124, 126]⟩ : ByteArray) x6)) (wrap64 (x6 + 1))) else (none))) else (if x5 = true then (ostiaryref1_Token.l0 k x0 (wrap64 (x3 + 1))) else (some false))
end
def ostiaryref1_Token.f (k : Nat) (a0 : ByteArray) : Option (Bool) := ostiaryref1_Token.l0 k a0 0
theorem ostiaryref1_Token.mono_l : ∀ k, (∀ y0 y1, LeO (ostiaryref1_Token.l0 k y0 y1) (ostiaryref1_Token.l0 (k + 1) y0 y1)) ∧ (∀ y0 y1 y2 y3, LeO (ostiaryref1_Token.j1 k y0 y1 y2 y3) (ostiaryref1_Token.j1 (k + 1) y0 y1 y2 y3)) ∧ (∀ y0 y1 y2 y3 y4, LeO (ostiaryref1_Token.l1 k y0 y1 y2 y3 y4) (ostiaryref1_Token.l1 (k + 1) y0 y1 y2 y3 y4))
  | 0 => ⟨fun _ _ r h => by simp [ostiaryref1_Token.l0] at h, fun _ _ _ _ r h => by simp [ostiaryref1_Token.j1] at h, fun _ _ _ _ _ r h => by simp [ostiaryref1_Token.l1] at h⟩
  | k + 1 => by
    obtain ⟨ih0, ih1, ih2⟩ := ostiaryref1_Token.mono_l k
    refine ⟨?_, ?_, ?_⟩
    · intro y0 y1
      unfold ostiaryref1_Token.l0
      repeat' first
      | (with_reducible exact ih0 _ _)
      | (with_reducible exact ih1 _ _ _ _)
      | (with_reducible exact ih2 _ _ _ _ _)
      | (with_reducible exact LeO.refl _)
      | (with_reducible exact LeO.none _)
      | (with_reducible refine LeO.ite ?_ ?_)
      | (with_reducible refine LeO.bind ?_ (fun _ => ?_))
      | exact ih0 _ _
      | exact ih1 _ _ _ _
      | exact ih2 _ _ _ _ _
      | exact LeO.none _
      | refine LeO.ite ?_ ?_
      | refine LeO.bind ?_ (fun _ => ?_)
    · intro y0 y1 y2 y3
      unfold ostiaryref1_Token.j1
      repeat' first
      | (with_reducible exact ih0 _ _)
      | (with_reducible exact ih1 _ _ _ _)
      | (with_reducible exact ih2 _ _ _ _ _)
      | (with_reducible exact LeO.refl _)
      | (with_reducible exact LeO.none _)
      | (with_reducible refine LeO.ite ?_ ?_)
      | (with_reducible refine LeO.bind ?_ (fun _ => ?_))
      | exact ih0 _ _
      | exact ih1 _ _ _ _
      | exact ih2 _ _ _ _ _
      | exact LeO.none _
      | refine LeO.ite ?_ ?_
      | refine LeO.bind ?_ (fun _ => ?_)
    · intro y0 y1 y2 y3 y4
      unfold ostiaryref1_Token.l1
      repeat' first
      | (with_reducible exact ih0 _ _)
      | (with_reducible exact ih1 _ _ _ _)
      | (with_reducible exact ih2 _ _ _ _ _)
      | (with_reducible exact LeO.refl _)
      | (with_reducible exact LeO.none _)
      | (with_reducible refine LeO.ite ?_ ?_)
      | (with_reducible refine LeO.bind ?_ (fun _ => ?_))
      | exact ih0 _ _
      | exact ih1 _ _ _ _
      | exact ih2 _ _ _ _ _
      | exact LeO.none _
      | refine LeO.ite ?_ ?_
      | refine LeO.bind ?_ (fun _ => ?_)
theorem ostiaryref1_Token.mono : ∀ a0 k, LeO (ostiaryref1_Token.f k a0) (ostiaryref1_Token.f (k + 1) a0) := by
  intro a0 k
  obtain ⟨ih0, ih1, ih2⟩ := ostiaryref1_Token.mono_l k
  unfold ostiaryref1_Token.f
  repeat' first
      | (with_reducible exact ih0 _ _)
      | (with_reducible exact ih1 _ _ _ _)
      | (with_reducible exact ih2 _ _ _ _ _)
      | (with_reducible exact LeO.refl _)
      | (with_reducible exact LeO.none _)
      | (with_reducible refine LeO.ite ?_ ?_)
      | (with_reducible refine LeO.bind ?_ (fun _ => ?_))
      | exact ih0 _ _
      | exact ih1 _ _ _ _
      | exact ih2 _ _ _ _ _
      | exact LeO.none _
      | refine LeO.ite ?_ ?_
      | refine LeO.bind ?_ (fun _ => ?_)
set_option maxHeartbeats 8000000 in
set_option maxRecDepth 100000 in
theorem ostiaryref1_Token.calls (k : Nat) (a0 : ByteArray) (r : Bool) (w : World) (h : ostiaryref1_Token.f k a0 = some r) :
    Calls Tryz.prog 74 #[.string a0] w fun e w' => e = .returned (.bool r) ∧ Drawn0 w w' := by
  have H : (ostiaryref1_Token.l0 k a0 0) = some r := h
  clear h
  have H' := Aside0.mk H
  clear H
  go_enter Tryz.func74, Tryz.ntmps74
  go_wp2
  go_loopg [3] k (fun kq v3 w' => ∃ (x3_1 : Int), v3 = .int .i64 x3_1 ∧ Aside0 (ostiaryref1_Token.l0 kq a0 x3_1 = some r) ∧ Aside0 (kq ≤ k) ∧ Drawn0 w w')
  case atStart => exact ⟨(0), (by first | rfl | (simp; done) | (simp [*]; done)), H', ⟨Nat.le_refl _⟩, by repeat (first | exact Drawn0.refl _ | apply Drawn0.step)⟩
  case round =>
    clear H'
    obtain ⟨x3_1, rfl, HA, HK1, ⟨m1, rfl⟩⟩ := hrel
    cases gk with
    | zero => exact absurd HA.out (by simp [ostiaryref1_Token.l0])
    | succ k1 =>
      have H := HA.out
      clear HA
      simp only [ostiaryref1_Token.l0] at H
      by_cases c2 : x3_1 < (a0.size : Int)
      · rw [if_pos c2] at H
        have c2b0 : decide (x3_1 < (a0.size : Int)) = true := decide_eq_true c2
        clear c2
        by_cases c3 : 0 ≤ x3_1
        · rw [if_pos c3] at H
          have c3b0 : decide (0 ≤ x3_1) = true := decide_eq_true c3
          clear c3
          have HC5 := Aside0.mk H
          clear H
          have p4 : 0 ≤ (x3_1 : Int) := of_decide_eq_true (by first | (with_reducible assumption) | assumption)
          have q4 : x3_1 < (a0.size : Int) := of_decide_eq_true (by first | (with_reducible assumption) | assumption)
          have hx4 := bt_at a0 x3_1
          replace p4 := eq_true p4
          replace q4 := eq_true q4
          go_upto_region 5 with (fail)
          go_cut [5] (fun v5 wc => ∃ (kq : Nat) (x5_4 : Bool), v5 = .bool x5_4 ∧ Aside0 (ostiaryref1_Token.j1 kq a0 x3_1 (bt a0 x3_1) x5_4 = some r) ∧ Aside0 (kq ≤ k1) ∧ Drawn0 w wc)
          case first =>
            have H := HC5.out
            clear HC5
            replace H := Option.bind_eq_some_iff.mp H
            obtain ⟨t101, A60, H⟩ := H
            replace H : (if t101 = true then (ostiaryref1_Token.j1 k1 a0 x3_1 (bt a0 x3_1) true) else ((ostiaryref1_Digit.f (bt a0 x3_1)).bind fun t102 => (ostiaryref1_Token.j1 k1 a0 x3_1 (bt a0 x3_1) t102))) = some r := H
            have A6 := Aside0.mk A60
            clear A60
            by_cases c7 : t101 = true
            · subst c7
              have H1 : (ostiaryref1_Token.j1 k1 a0 x3_1 (bt a0 x3_1) true) = some r := by rw [if_pos rfl] at H; exact H
              clear H
              have H := H1
              clear H1
              have H' := Aside0.mk H
              clear H
              go_wp2_with (first | ((with_reducible refine gate_callee (f := 135) rfl ?_); refine goesL_ (some 17) rfl rfl Tryz.func135 (by kernel_rfl) rfl #[.int .u8 (bt a0 x3_1)] rfl (by (try simp only [List.map_toArray, List.map_cons, List.map_nil]); first | done | rfl | (simp only [List.length_drop, List.length_take]; rfl)) ?_; (with_reducible refine (ostiaryref1_Letter.calls (bt a0 x3_1) true _ A6.out).mono ?_); rintro e w' ⟨rfl, ⟨nd, rfl⟩⟩; refine ⟨_, rfl, ?_⟩))
              go_meet
              case rel => exact ⟨_, (true), (by first | rfl | (simp; done) | (simp [*]; done)), H', ⟨by have := HK1.out; first | omega | exact Nat.le_refl _⟩, by repeat (first | exact Drawn0.refl _ | apply Drawn0.step)⟩
            · replace c7 := Bool.eq_false_iff.mpr c7
              subst c7
              have H1 : ((ostiaryref1_Digit.f (bt a0 x3_1)).bind fun t102 => (ostiaryref1_Token.j1 k1 a0 x3_1 (bt a0 x3_1) t102)) = some r := by rw [if_neg (show ¬ (false = true) by decide)] at H; exact H
              clear H
              have H := H1
              clear H1
              replace H := Option.bind_eq_some_iff.mp H
              obtain ⟨t102, A80, H⟩ := H
              replace H : (ostiaryref1_Token.j1 k1 a0 x3_1 (bt a0 x3_1) t102) = some r := H
              have A8 := Aside0.mk A80
              clear A80
              have H' := Aside0.mk H
              clear H
              go_wp2_with (first | ((with_reducible refine gate_callee (f := 135) rfl ?_); refine goesL_ (some 17) rfl rfl Tryz.func135 (by kernel_rfl) rfl #[.int .u8 (bt a0 x3_1)] rfl (by (try simp only [List.map_toArray, List.map_cons, List.map_nil]); first | done | rfl | (simp only [List.length_drop, List.length_take]; rfl)) ?_; (with_reducible refine (ostiaryref1_Letter.calls (bt a0 x3_1) false _ A6.out).mono ?_); rintro e w' ⟨rfl, ⟨nd, rfl⟩⟩; refine ⟨_, rfl, ?_⟩) | (go_at_call 136; (with_reducible refine (ostiaryref1_Digit.calls (bt a0 x3_1) t102 _ A8.out).mono ?_); rintro e w' ⟨rfl, ⟨nd, rfl⟩⟩))
              go_meet
              case rel => exact ⟨_, (t102), (by first | rfl | (simp; done) | (simp [*]; done)), H', ⟨by have := HK1.out; first | omega | exact Nat.le_refl _⟩, by repeat (first | exact Drawn0.refl _ | apply Drawn0.step)⟩
          case rest =>
            clear HC5
            try clear c1
            try clear c2
            try clear c2b0
            try clear p2
            try clear c3
            try clear c3b0
            try clear p4
            try clear q4
            try clear hx4
            try clear c7
            try clear p4
            try clear q4
            obtain ⟨kq, x5_4, rfl, HA, HJ4, ⟨mc4, rfl⟩⟩ := hcut
            cases kq with
            | zero => exact absurd HA.out (by simp [ostiaryref1_Token.j1])
            | succ kj4 =>
              have H := HA.out
              clear HA
              simp only [ostiaryref1_Token.j1] at H
              have H' := Aside0.mk H
              clear H
              go_wp2
              go_loopg [5, 6] kj4 (fun kq v5 v6 w' => ∃ (x5_3 : Bool) (x6_3 : Int), v5 = .bool x5_3 ∧ v6 = .int .i64 x6_3 ∧ Aside0 (ostiaryref1_Token.l1 kq a0 x3_1 (bt a0 x3_1) x5_3 x6_3 = some r) ∧ Aside0 (kq ≤ kj4) ∧ Drawn0 w w')
              case atStart => exact ⟨(x5_4), (0), (by first | rfl | (simp; done) | (simp [*]; done)), (by first | rfl | (simp; done) | (simp [*]; done)), H', ⟨Nat.le_refl _⟩, by repeat (first | exact Drawn0.refl _ | apply Drawn0.step)⟩
              case round =>
                clear H'
                try clear c1
                try clear c2
                try clear c2b0
                try clear p2
                try clear c3
                try clear c3b0
                try clear c4
                try clear p4
                try clear q4
                try clear hx4
                try clear c7
                try clear p2
                try clear p4
                try clear q4
                obtain ⟨x5_3, x6_3, rfl, rfl, HA, HK3, ⟨m3, rfl⟩⟩ := hrel
                cases gk with
                | zero => exact absurd HA.out (by simp [ostiaryref1_Token.l1])
                | succ k3 =>
                  have H := HA.out
                  clear HA
                  simp only [ostiaryref1_Token.l1] at H
                  by_cases c9 : x6_3 < 15
                  · rw [if_pos c9] at H
                    have c9b0 : decide (x6_3 < 15) = true := decide_eq_true c9
                    clear c9
                    by_cases c10 : x5_3 = true
                    · subst c10
                      have H1 : (ostiaryref1_Token.l1 k3 a0 x3_1 (bt a0 x3_1) true (wrap64 (x6_3 + 1))) = some r := by rw [if_pos rfl] at H; exact H
                      clear H
                      have H := H1
                      clear H1
                      have H' := Aside0.mk H
                      clear H
                      go_wp2
                      go_roundg k3
                      case measure => have := HK1.out; have := HJ4.out; have := HK3.out; omega
                      case rel => exact ⟨(true), (wrap64 (x6_3 + 1)), (by first | rfl | (simp; done) | (simp [*]; done)), (by first | rfl | (simp; done) | (simp [*]; done)), H', ⟨by have := HK1.out; have := HJ4.out; have := HK3.out; omega⟩, by repeat (first | exact Drawn0.refl _ | apply Drawn0.step)⟩
                    · replace c10 := Bool.eq_false_iff.mpr c10
                      subst c10
                      have H1 : (if 0 ≤ x6_3 then (ostiaryref1_Token.l1 k3 a0 x3_1 (bt a0 x3_1) ((bt a0 x3_1) == (bt (⟨#[33, 35, 36, 37, 38, 39, 42, 43, 45, 46, 94, 95, 96, 124, 126]⟩ : ByteArray) x6_3)) (wrap64 (x6_3 + 1))) else (none)) = some r := by rw [if_neg (show ¬ (false = true) by decide)] at H; exact H
                      clear H
                      have H := H1
                      clear H1
                      by_cases c11 : 0 ≤ x6_3
                      · rw [if_pos c11] at H
                        have c11b0 : decide (0 ≤ x6_3) = true := decide_eq_true c11
                        clear c11
                        have H' := Aside0.mk H
                        clear H
                        have p12 : 0 ≤ (x6_3 : Int) := of_decide_eq_true (by first | (with_reducible assumption) | assumption)
                        have q12 : x6_3 < (15 : Int) := of_decide_eq_true (by first | (with_reducible assumption) | assumption)
                        have hx12 := bt_at (⟨#[33, 35, 36, 37, 38, 39, 42, 43, 45, 46, 94, 95, 96, 124, 126]⟩ : ByteArray) x6_3
                        replace p12 := eq_true p12
                        replace q12 := eq_true q12
                        go_wp2
                        go_roundg k3
                        case measure => have := HK1.out; have := HJ4.out; have := HK3.out; omega
                        case rel => exact ⟨(((bt a0 x3_1) == (bt (⟨#[33, 35, 36, 37, 38, 39, 42, 43, 45, 46, 94, 95, 96, 124, 126]⟩ : ByteArray) x6_3))), (wrap64 (x6_3 + 1)), (by first | rfl | (simp; done) | (simp [*]; done)), (by first | rfl | (simp; done) | (simp [*]; done)), H', ⟨by have := HK1.out; have := HJ4.out; have := HK3.out; omega⟩, by repeat (first | exact Drawn0.refl _ | apply Drawn0.step)⟩
                      · rw [if_neg c11] at H
                        exact absurd H (by simp)
                  · rw [if_neg c9] at H
                    have c9b0 : decide (x6_3 < 15) = false := decide_eq_false c9
                    clear c9
                    by_cases c13 : x5_3 = true
                    · subst c13
                      have H1 : (ostiaryref1_Token.l0 k3 a0 (wrap64 (x3_1 + 1))) = some r := by rw [if_pos rfl] at H; exact H
                      clear H
                      have H := H1
                      clear H1
                      have H' := Aside0.mk H
                      clear H
                      go_wp2
                      go_roundg k3
                      case measure => have := HK1.out; have := HJ4.out; have := HK3.out; omega
                      case rel => exact ⟨(wrap64 (x3_1 + 1)), (by first | rfl | (simp; done) | (simp [*]; done)), H', ⟨by have := HK1.out; have := HJ4.out; have := HK3.out; omega⟩, by repeat (first | exact Drawn0.refl _ | apply Drawn0.step)⟩
                    · replace c13 := Bool.eq_false_iff.mpr c13
                      subst c13
                      have H1 : (some false) = some r := by rw [if_neg (show ¬ (false = true) by decide)] at H; exact H
                      clear H
                      have H := H1
                      clear H1
                      obtain rfl := Option.some.inj H
                      go_wp2
                      go_ret
                      exact ⟨by first | rfl | (simp; done) | (simp [*]; done), by repeat (first | exact Drawn0.refl _ | apply Drawn0.step)⟩
        · rw [if_neg c3] at H
          exact absurd H (by simp)
      · rw [if_neg c2] at H
        have c2b0 : decide (x3_1 < (a0.size : Int)) = false := decide_eq_false c2
        clear c2
        obtain rfl := Option.some.inj H
        go_wp2
        go_ret
        exact ⟨by first | rfl | (simp; done) | (simp [*]; done), by repeat (first | exact Drawn0.refl _ | apply Drawn0.step)⟩
end Go.Proofs.YteehjlciajhdoaaGreatDoor.X
namespace Go.Proofs.YteehjlciajhdoaaGreatDoor.X
open Go.RowKit Go.Proofs.YteehjlciajhdoaaGreatDoorW.PrintWords Go.Proofs.YteehjlciajhdoaaGreatDoorW.PrintLast Go.Proofs.YteehjlciajhdoaaGreatDoorW.PrintMore
attribute [local go_sem] max2_int min2_int max_two min_two max_three min_three max_four min_four
set_option linter.unusedVariables false
set_option linter.unusedSimpArgs false
def ostiaryref6_value.l0 : Nat → ByteArray → Int → Option (Bool)
  | 0, _, _ => none
  | k + 1, x0, x3 => if x3 < (x0.size : Int) then (if 0 ≤ x3 then (if (bt x0 x3) = 9 then (ostiaryref6_value.l0 k x0 (wrap64 (x3 + 1))) else (if (bt x0 x3) < 32 then (some false) else (if (bt x0 x3) = 127 then (some false) else (ostiaryref6_value.l0 k x0 (wrap64 (x3 + 1)))))) else (none)) else (some true)
def ostiaryref6_value.f (k : Nat) (a0 : ByteArray) : Option (Bool) := ostiaryref6_value.l0 k a0 0
theorem ostiaryref6_value.mono_l : ∀ k, (∀ y0 y1, LeO (ostiaryref6_value.l0 k y0 y1) (ostiaryref6_value.l0 (k + 1) y0 y1))
  | 0 => fun _ _ r h => by simp [ostiaryref6_value.l0] at h
  | k + 1 => by
    have ih0 := ostiaryref6_value.mono_l k
    · intro y0 y1
      unfold ostiaryref6_value.l0
      repeat' first
      | (with_reducible exact ih0 _ _)
      | (with_reducible exact LeO.refl _)
      | (with_reducible exact LeO.none _)
      | (with_reducible refine LeO.ite ?_ ?_)
      | (with_reducible refine LeO.bind ?_ (fun _ => ?_))
      | exact ih0 _ _
      | exact LeO.none _
      | refine LeO.ite ?_ ?_
      | refine LeO.bind ?_ (fun _ => ?_)
theorem ostiaryref6_value.mono : ∀ a0 k, LeO (ostiaryref6_value.f k a0) (ostiaryref6_value.f (k + 1) a0) := by
  intro a0 k
  have ih0 := ostiaryref6_value.mono_l k
  unfold ostiaryref6_value.f
  repeat' first
      | (with_reducible exact ih0 _ _)
      | (with_reducible exact LeO.refl _)
      | (with_reducible exact LeO.none _)
      | (with_reducible refine LeO.ite ?_ ?_)
      | (with_reducible refine LeO.bind ?_ (fun _ => ?_))
      | exact ih0 _ _
      | exact LeO.none _
      | refine LeO.ite ?_ ?_
      | refine LeO.bind ?_ (fun _ => ?_)
set_option maxHeartbeats 8000000 in
set_option maxRecDepth 100000 in
theorem ostiaryref6_value.calls (k : Nat) (a0 : ByteArray) (r : Bool) (w : World) (h : ostiaryref6_value.f k a0 = some r) :
    Calls Tryz.prog 77 #[.string a0] w fun e w' => e = .returned (.bool r) ∧ Drawn0 w w' := by
  have H : (ostiaryref6_value.l0 k a0 0) = some r := h
  clear h
  have H' := Aside0.mk H
  clear H
  go_enter Tryz.func77, Tryz.ntmps77
  go_wp2
  go_loopg [3] k (fun kq v3 w' => ∃ (x3_1 : Int), v3 = .int .i64 x3_1 ∧ Aside0 (ostiaryref6_value.l0 kq a0 x3_1 = some r) ∧ Aside0 (kq ≤ k) ∧ Drawn0 w w')
  case atStart => exact ⟨(0), (by first | rfl | (simp; done) | (simp [*]; done)), H', ⟨Nat.le_refl _⟩, by repeat (first | exact Drawn0.refl _ | apply Drawn0.step)⟩
  case round =>
    clear H'
    obtain ⟨x3_1, rfl, HA, HK1, ⟨m1, rfl⟩⟩ := hrel
    cases gk with
    | zero => exact absurd HA.out (by simp [ostiaryref6_value.l0])
    | succ k1 =>
      have H := HA.out
      clear HA
      simp only [ostiaryref6_value.l0] at H
      by_cases c2 : x3_1 < (a0.size : Int)
      · rw [if_pos c2] at H
        have c2b0 : decide (x3_1 < (a0.size : Int)) = true := decide_eq_true c2
        clear c2
        by_cases c3 : 0 ≤ x3_1
        · rw [if_pos c3] at H
          have c3b0 : decide (0 ≤ x3_1) = true := decide_eq_true c3
          clear c3
          by_cases c5 : (bt a0 x3_1) = 9
          · rw [if_pos c5] at H
            have c5b0 : ((bt a0 x3_1) == 9) = true := beq_iff_eq.mpr c5
            have c5b1 : ((bt a0 x3_1) != 9) = false := bne_eq_false_iff_eq.mpr c5
            clear c5
            have H' := Aside0.mk H
            clear H
            have p4 : 0 ≤ (x3_1 : Int) := of_decide_eq_true (by first | (with_reducible assumption) | assumption)
            have q4 : x3_1 < (a0.size : Int) := of_decide_eq_true (by first | (with_reducible assumption) | assumption)
            have hx4 := bt_at a0 x3_1
            replace p4 := eq_true p4
            replace q4 := eq_true q4
            go_wp2
            go_roundg k1
            case measure => have := HK1.out; omega
            case rel => exact ⟨(wrap64 (x3_1 + 1)), (by first | rfl | (simp; done) | (simp [*]; done)), H', ⟨by have := HK1.out; omega⟩, by repeat (first | exact Drawn0.refl _ | apply Drawn0.step)⟩
          · rw [if_neg c5] at H
            have c5b0 : ((bt a0 x3_1) == 9) = false := beq_eq_false_iff_ne.mpr c5
            have c5b1 : ((bt a0 x3_1) != 9) = true := bne_iff_ne.mpr c5
            by_cases c7 : (bt a0 x3_1) < 32
            · rw [if_pos c7] at H
              have c7b0 : decide ((bt a0 x3_1) < 32) = true := decide_eq_true c7
              clear c7
              obtain rfl := Option.some.inj H
              have p4 : 0 ≤ (x3_1 : Int) := of_decide_eq_true (by first | (with_reducible assumption) | assumption)
              have q4 : x3_1 < (a0.size : Int) := of_decide_eq_true (by first | (with_reducible assumption) | assumption)
              have hx4 := bt_at a0 x3_1
              replace p4 := eq_true p4
              replace q4 := eq_true q4
              have p6 : 0 ≤ (x3_1 : Int) := of_decide_eq_true (by first | (with_reducible assumption) | assumption)
              have q6 : x3_1 < (a0.size : Int) := of_decide_eq_true (by first | (with_reducible assumption) | assumption)
              have hx6 := bt_at a0 x3_1
              replace p6 := eq_true p6
              replace q6 := eq_true q6
              go_wp2
              go_ret
              exact ⟨by first | rfl | (simp; done) | (simp [*]; done), by repeat (first | exact Drawn0.refl _ | apply Drawn0.step)⟩
            · rw [if_neg c7] at H
              have c7b0 : decide ((bt a0 x3_1) < 32) = false := decide_eq_false c7
              clear c7
              by_cases c9 : (bt a0 x3_1) = 127
              · rw [if_pos c9] at H
                have c9b0 : ((bt a0 x3_1) == 127) = true := beq_iff_eq.mpr c9
                have c9b1 : ((bt a0 x3_1) != 127) = false := bne_eq_false_iff_eq.mpr c9
                clear c9
                obtain rfl := Option.some.inj H
                have p4 : 0 ≤ (x3_1 : Int) := of_decide_eq_true (by first | (with_reducible assumption) | assumption)
                have q4 : x3_1 < (a0.size : Int) := of_decide_eq_true (by first | (with_reducible assumption) | assumption)
                have hx4 := bt_at a0 x3_1
                replace p4 := eq_true p4
                replace q4 := eq_true q4
                have p6 : 0 ≤ (x3_1 : Int) := of_decide_eq_true (by first | (with_reducible assumption) | assumption)
                have q6 : x3_1 < (a0.size : Int) := of_decide_eq_true (by first | (with_reducible assumption) | assumption)
                have hx6 := bt_at a0 x3_1
                replace p6 := eq_true p6
                replace q6 := eq_true q6
                have p8 : 0 ≤ (x3_1 : Int) := of_decide_eq_true (by first | (with_reducible assumption) | assumption)
                have q8 : x3_1 < (a0.size : Int) := of_decide_eq_true (by first | (with_reducible assumption) | assumption)
                have hx8 := bt_at a0 x3_1
                replace p8 := eq_true p8
                replace q8 := eq_true q8
                go_wp2
                go_ret
                exact ⟨by first | rfl | (simp; done) | (simp [*]; done), by repeat (first | exact Drawn0.refl _ | apply Drawn0.step)⟩
              · rw [if_neg c9] at H
                have c9b0 : ((bt a0 x3_1) == 127) = false := beq_eq_false_iff_ne.mpr c9
                have c9b1 : ((bt a0 x3_1) != 127) = true := bne_iff_ne.mpr c9
                have H' := Aside0.mk H
                clear H
                have p4 : 0 ≤ (x3_1 : Int) := of_decide_eq_true (by first | (with_reducible assumption) | assumption)
                have q4 : x3_1 < (a0.size : Int) := of_decide_eq_true (by first | (with_reducible assumption) | assumption)
                have hx4 := bt_at a0 x3_1
                replace p4 := eq_true p4
                replace q4 := eq_true q4
                have p6 : 0 ≤ (x3_1 : Int) := of_decide_eq_true (by first | (with_reducible assumption) | assumption)
                have q6 : x3_1 < (a0.size : Int) := of_decide_eq_true (by first | (with_reducible assumption) | assumption)
                have hx6 := bt_at a0 x3_1
                replace p6 := eq_true p6
                replace q6 := eq_true q6
                have p8 : 0 ≤ (x3_1 : Int) := of_decide_eq_true (by first | (with_reducible assumption) | assumption)
                have q8 : x3_1 < (a0.size : Int) := of_decide_eq_true (by first | (with_reducible assumption) | assumption)
                have hx8 := bt_at a0 x3_1
                replace p8 := eq_true p8
                replace q8 := eq_true q8
                go_wp2
                go_roundg k1
                case measure => have := HK1.out; omega
                case rel => exact ⟨(wrap64 (x3_1 + 1)), (by first | rfl | (simp; done) | (simp [*]; done)), H', ⟨by have := HK1.out; omega⟩, by repeat (first | exact Drawn0.refl _ | apply Drawn0.step)⟩
        · rw [if_neg c3] at H
          exact absurd H (by simp)
      · rw [if_neg c2] at H
        have c2b0 : decide (x3_1 < (a0.size : Int)) = false := decide_eq_false c2
        clear c2
        obtain rfl := Option.some.inj H
        go_wp2
        go_ret
        exact ⟨by first | rfl | (simp; done) | (simp [*]; done), by repeat (first | exact Drawn0.refl _ | apply Drawn0.step)⟩
end Go.Proofs.YteehjlciajhdoaaGreatDoor.X
namespace Go.Proofs.YteehjlciajhdoaaGreatDoor.X
set_option linter.unusedVariables false
set_option linter.unusedSimpArgs false
open Go.RowKit Go.Proofs.YteehjlciajhdoaaGreatDoorW.PrintWords Go.Proofs.YteehjlciajhdoaaGreatDoorW.PrintLast Go.Proofs.YteehjlciajhdoaaGreatDoorW.PrintMore
theorem ext_head (pre rest : List UInt8) : (B (pre ++ rest)).extract 0 (pre.length : Int).toNat = B pre := by
  rw [Int.toNat_natCast, B_extract, List.take_left]; rfl
theorem ext_from (l : List UInt8) (i : Nat) : (B l).extract (i : Int).toNat (B l).size = B (l.drop i) := by
  rw [Int.toNat_natCast, B_extract, size_B, List.take_length]
theorem ne_int {c m : UInt8} {n : Int} (h : c ≠ m) (hm : (m.toNat : Int) = n) : ¬ ((c.toNat : Int) = n) := fun e => h (u8_ext (e.trans hm.symm))
theorem part_l0 (c : UInt8) : ∀ (rest pre : List UInt8), (pre ++ rest).length ≤ 4611686018427387904 →
    Ev (fun k => ostiaryref1_Part.l0 k (B (pre ++ rest)) (c.toNat : Int) (pre.length : Int)) (B (pre ++ (cutc c rest).1), B (cutc c rest).2.1, (cutc c rest).2.2)
  | [], pre, h => by
    refine Ev.step (f := fun _ => some (B (pre ++ []), B [], false)) (fun k => ?_) (Ev.now _)
    simp only [ostiaryref1_Part.l0]
    rw [if_neg (by rw [size_B]; simp)]
  | b :: rest, pre, h => by
    have hl : (pre ++ b :: rest).length = pre.length + 1 + rest.length := by simp; omega
    have hb : bt (B (pre ++ b :: rest)) (pre.length : Int) = (b.toNat : Int) := bt_mid pre rest b
    have hw : wrap64 ((pre.length : Int) + 1) = ((pre ++ [b]).length : Int) := by rw [w64 (by omega) (by omega)]; simp
    by_cases hbc : b = c
    · refine Ev.step (f := fun _ => some (B (pre ++ (cutc c (b :: rest)).1), B (cutc c (b :: rest)).2.1, (cutc c (b :: rest)).2.2)) (fun k => ?_) (Ev.now _)
      simp only [ostiaryref1_Part.l0]
      rw [if_pos (by rw [size_B]; omega), if_pos (by omega), hb, if_pos (by rw [hbc]), if_pos (by rw [size_B]; omega), hw, if_pos (by omega), if_pos (by rw [size_B]; simp; omega), ext_head, ext_from]
      unfold cutc
      rw [if_pos hbc]
      simp
    · have ih := part_l0 c rest (pre ++ [b]) (by simpa using h)
      rw [show (pre ++ [b]) ++ rest = pre ++ b :: rest from by simp] at ih
      have hc : cutc c (b :: rest) = (b :: (cutc c rest).1, (cutc c rest).2) := by
        conv => lhs; unfold cutc
        rw [if_neg hbc]
      rw [hc]
      refine Ev.step (f := fun k => ostiaryref1_Part.l0 k (B (pre ++ b :: rest)) (c.toNat : Int) ((pre ++ [b]).length : Int)) (fun k => ?_) (by simpa using ih)
      simp only [ostiaryref1_Part.l0]
      rw [if_pos (by rw [size_B]; omega), if_pos (by omega), hb, if_neg (fun e => hbc (u8_ext e)), hw]
theorem part_ev (c : UInt8) (l : List UInt8) (h : l.length ≤ 4611686018427387904) :
    Ev (fun k => ostiaryref1_Part.f k (B l) (c.toNat : Int)) (B (cutc c l).1, B (cutc c l).2.1, (cutc c l).2.2) := by
  have := part_l0 c l [] (by simpa using h)
  unfold ostiaryref1_Part.f
  simpa using this
theorem begins_ev (l p : List UInt8) : ostiaryref1_Begins.f (B l) (B p) = some (p.isPrefixOf l) := by
  unfold ostiaryref1_Begins.f
  simp only [size_B]
  by_cases h : l.length ≥ p.length
  · rw [if_pos (by omega), if_pos (by omega), if_pos (by omega), Int.toNat_natCast, B_extract, toList_B, toList_B, List.drop_zero]
    congr 1
    rw [Bool.eq_iff_iff, beq_iff_eq, List.isPrefixOf_iff_prefix, List.prefix_iff_eq_take]
    exact eq_comm
  · rw [if_neg (by omega)]
    congr 1
    symm
    rw [Bool.eq_false_iff]
    intro e
    have := (List.isPrefixOf_iff_prefix.1 e).length_le
    omega
def blankS (t : Bool) : List UInt8 := if t = true then [9, 32] else blanksL
theorem ends_f (c : UInt8) (t : Bool) : ostiaryref1_ends.f (c.toNat : Int) t = some ((blankS t).contains c) := by
  have hne : ∀ m : UInt8, ((c.toNat : Int) = (m.toNat : Int)) ↔ c = m := fun m => ⟨u8_ext, fun e => by rw [e]⟩
  have h9 : ((c.toNat : Int) = 9) ↔ c = 9 := hne 9
  have h32 : ((c.toNat : Int) = 32) ↔ c = 32 := hne 32
  have h10 : ((c.toNat : Int) = 10) ↔ c = 10 := hne 10
  have h13 : ((c.toNat : Int) = 13) ↔ c = 13 := hne 13
  unfold ostiaryref1_ends.f blankS
  by_cases e9 : c = 9
  · rw [if_pos (h9.2 e9), e9]; cases t <;> rfl
  · rw [if_neg (fun e => e9 (h9.1 e))]
    by_cases e32 : c = 32
    · rw [if_pos (h32.2 e32), e32]; cases t <;> rfl
    · rw [if_neg (fun e => e32 (h32.1 e))]
      cases t
      · rw [if_neg (by decide)]
        by_cases e10 : c = 10
        · rw [if_pos (h10.2 e10), e10]; rfl
        · rw [if_neg (fun e => e10 (h10.1 e))]
          by_cases e13 : c = 13
          · rw [e13]; rfl
          · rw [show ((c.toNat : Int) == 13) = false from beq_eq_false_iff_ne.2 (fun e => e13 (h13.1 e))]
            simp [e9, e32, e10, e13]
      · simp [e9, e32]
theorem dropWhile_none (p : UInt8 → Bool) : ∀ l : List UInt8, l.dropWhile p = [] ↔ ∀ x, x ∈ l → p x = true
  | [] => by simp
  | c :: l => by
    rw [List.dropWhile_cons]
    split
    · rename_i h; rw [dropWhile_none p l]; simp [h]
    · rename_i h; simp [h]
theorem trim_swap (p : UInt8 → Bool) : ∀ l : List UInt8, ((l.reverse.dropWhile p).reverse).dropWhile p = ((l.dropWhile p).reverse.dropWhile p).reverse
  | [] => rfl
  | c :: l => by
    have ih := trim_swap p l
    by_cases hc : p c = true
    · have h2 : (c :: l).dropWhile p = l.dropWhile p := List.dropWhile_cons_of_pos hc
      rw [h2, List.reverse_cons, List.dropWhile_append]
      cases he : (l.reverse.dropWhile p).isEmpty with
      | true =>
        have h3 := (dropWhile_none p l.reverse).1 (List.isEmpty_iff.1 he)
        have h4 : l.dropWhile p = [] := (dropWhile_none p l).2 (fun x hx => h3 x (by simpa using hx))
        have h5 : [c].dropWhile p = [] := (dropWhile_none p [c]).2 (fun x hx => by rw [List.mem_singleton.1 hx]; exact hc)
        rw [if_pos rfl, h4, h5]
        rfl
      | false =>
        rw [if_neg (by decide), List.reverse_append, List.reverse_singleton, List.singleton_append, List.dropWhile_cons_of_pos hc, ih]
    · have h2 : (c :: l).dropWhile p = c :: l := List.dropWhile_cons_of_neg hc
      have h5 : [c].dropWhile p = [c] := List.dropWhile_cons_of_neg hc
      rw [h2, List.reverse_cons, List.dropWhile_append]
      cases he : (l.reverse.dropWhile p).isEmpty with
      | true => rw [if_pos rfl, h5, List.reverse_singleton, h5]
      | false => rw [if_neg (by decide), List.reverse_append, List.reverse_singleton, List.singleton_append, List.dropWhile_cons_of_neg hc]
theorem trim_l1 (t : Bool) : ∀ (n : Nat) (l : List UInt8), l.length = n → n ≤ 4611686018427387904 → Ev (fun k => ostiaryref1_Trim.l1 k (B l) t) (B (Lib.trimRightS l (blankS t))) := by
  intro n
  induction n with
  | zero =>
    intro l h hn
    obtain rfl := List.eq_nil_of_length_eq_zero h
    exact Ev.step (f := fun _ => some (B [])) (fun k => by simp only [ostiaryref1_Trim.l1]; rw [if_neg (by rw [size_B]; simp)]) (Ev.now _)
  | succ n ih =>
    intro l h hn
    rcases List.eq_nil_or_concat l with rfl | ⟨m, c, rfl⟩
    · simp at h
    rw [List.concat_eq_append] at h ⊢
    have hm : m.length = n := by simpa using h
    have hw : wrap64 (((B (m ++ [c])).size : Int) - 1) = (m.length : Int) := by rw [size_B, w64 (by omega) (by omega)]; simp
    have hb : bt (B (m ++ [c])) (m.length : Int) = (c.toNat : Int) := bt_mid m [] c
    have hr : Lib.trimRightS (m ++ [c]) (blankS t) = if (blankS t).contains c = true then Lib.trimRightS m (blankS t) else m ++ [c] := by
      unfold Lib.trimRightS
      rw [List.reverse_append, List.reverse_singleton, List.singleton_append, List.dropWhile_cons]
      split
      · rfl
      · simp
    rw [hr]
    cases hc : (blankS t).contains c with
    | true =>
      rw [if_pos rfl]
      refine Ev.step (fun k => ?_) (ih m hm (by omega))
      simp only [ostiaryref1_Trim.l1]
      rw [if_pos (by rw [size_B]; omega), hw, if_pos (by omega), if_pos (by rw [size_B]; omega), hb, ends_f]
      simp only [Option.bind_some]
      rw [if_pos hc, if_pos (by rw [size_B]; omega), ext_head]
    | false =>
      rw [if_neg (by decide)]
      refine Ev.step (f := fun _ => some (B (m ++ [c]))) (fun k => ?_) (Ev.now _)
      simp only [ostiaryref1_Trim.l1]
      rw [if_pos (by rw [size_B]; omega), hw, if_pos (by omega), if_pos (by rw [size_B]; omega), hb, ends_f]
      simp only [Option.bind_some]
      rw [if_neg (by rw [hc]; decide)]
theorem trim_l0 (t : Bool) : ∀ (l : List UInt8), l.length ≤ 4611686018427387904 → Ev (fun k => ostiaryref1_Trim.l0 k (B l) t) (B (Lib.trimRightS (Lib.trimLeftS l (blankS t)) (blankS t)))
  | [], _ => Ev.step (f := fun k => ostiaryref1_Trim.j1 k (B []) t) (fun k => by simp only [ostiaryref1_Trim.l0]; rw [if_neg (by rw [size_B]; simp)])
      (Ev.step (f := fun k => ostiaryref1_Trim.l1 k (B []) t) (fun k => by simp only [ostiaryref1_Trim.j1]) (trim_l1 t 0 [] rfl (by omega)))
  | c :: l, h => by
    have hb : bt (B (c :: l)) 0 = (c.toNat : Int) := bt_mid [] l c
    have hr : Lib.trimLeftS (c :: l) (blankS t) = if (blankS t).contains c = true then Lib.trimLeftS l (blankS t) else c :: l := by
      unfold Lib.trimLeftS
      rw [List.dropWhile_cons]
    have h1 : (B (c :: l)).extract 1 (B (c :: l)).size = B l := ext_from (c :: l) 1
    have hst : ∀ k, ostiaryref1_Trim.l0 (k + 1) (B (c :: l)) t = if (blankS t).contains c = true then ostiaryref1_Trim.l0 k (B l) t else ostiaryref1_Trim.j1 k (B (c :: l)) t := fun k => by
      simp only [ostiaryref1_Trim.l0]
      rw [if_pos (by rw [size_B]; simp), if_pos (by rw [size_B]; simp), hb, ends_f]
      simp only [Option.bind_some]
      rw [h1]
      split
      · rw [if_pos (by rw [size_B]; simp; omega)]
      · rfl
    rw [hr]
    refine Ev.step hst ?_
    cases hc : (blankS t).contains c with
    | true => rw [if_pos rfl]; exact Ev.ite_pos rfl (trim_l0 t l (by simp at h; omega))
    | false => rw [if_neg (by decide)]; exact Ev.ite_neg (by decide) (Ev.step (f := fun k => ostiaryref1_Trim.l1 k (B (c :: l)) t) (fun k => by simp only [ostiaryref1_Trim.j1]) (trim_l1 t _ (c :: l) rfl h))
theorem refTrim_ev (l : List UInt8) (t : Bool) (h : l.length ≤ 4611686018427387904) : Ev (fun k => ostiaryref1_Trim.f k (B l) t) (B (Lib.trimS l (blankS t))) := by
  have := trim_l0 t l h
  unfold ostiaryref1_Trim.f
  have he : Lib.trimS l (blankS t) = Lib.trimRightS (Lib.trimLeftS l (blankS t)) (blankS t) := by
    unfold Lib.trimS Lib.trimLeftS Lib.trimRightS
    exact trim_swap _ l
  rw [he]
  exact this
theorem back_ev (l : List UInt8) (h : l.length ≤ 4611686018427387000) : Ev (fun k => ostiaryref6_back.f k (B l)) (B (Lib.trimRightS l blanksL)) := by
  unfold ostiaryref6_back.f
  refine Ev.ite_pos (by rw [size_B]; omega) ?_
  have he : (⟨#[120]⟩ : ByteArray) ++ B l = B (120 :: l) := by rw [show (⟨#[120]⟩ : ByteArray) = B [120] from rfl, B_append]; rfl
  have ht : Lib.trimS (120 :: l) blanksL = 120 :: Lib.trimRightS l blanksL := by
    unfold Lib.trimS Lib.trimRightS Lib.trimLeftS
    rw [trim_swap, List.dropWhile_cons_of_neg (by decide), List.reverse_cons, List.dropWhile_append]
    split
    · rename_i h2
      rw [List.isEmpty_iff.1 h2, List.dropWhile_cons_of_neg (by decide)]; rfl
    · simp
  have h1 := refTrim_ev (120 :: l) false (by simp; omega)
  rw [show blankS false = blanksL from rfl, ht] at h1
  refine Ev.bnd (by simpa only [he] using h1) ?_
  refine Ev.ite_pos (by rw [size_B]; simp; omega) ?_
  have := ext_from (120 :: Lib.trimRightS l blanksL) 1
  rw [show ((1 : Nat) : Int).toNat = 1 from rfl] at this
  rw [this]
  exact Ev.now _
theorem ext_seg (pre rest : List UInt8) (c : UInt8) : (B (pre ++ c :: rest)).extract (pre.length : Int).toNat ((pre ++ [c]).length : Int).toNat = B [c] := by
  rw [Int.toNat_natCast, Int.toNat_natCast, B_extract, show pre ++ c :: rest = (pre ++ [c]) ++ rest from by simp, List.take_left, List.drop_left]
theorem refQuoted_l0 : ∀ (n : Nat) (rest pre out : List UInt8), rest.length ≤ n → (pre ++ rest).length ≤ 1000000000000 → out.length ≤ pre.length →
    Ev (fun k => ostiaryref6_quoted.l0 k (B (pre ++ rest)) (B out) (pre.length : Int)) (B (out ++ (qv rest).1), B ((qv rest).2.drop 1)) := by
  intro n
  induction n with
  | zero =>
    intro rest pre out hr hl ho
    obtain rfl := List.eq_nil_of_length_eq_zero (Nat.le_zero.1 hr)
    refine Ev.step (f := fun _ => some (B out, B [])) (fun k => ?_) (by simpa [qv] using Ev.now _)
    simp only [ostiaryref6_quoted.l0]
    rw [if_neg (by rw [size_B]; simp)]
  | succ n ih =>
    intro rest pre out hr hl ho
    cases rest with
    | nil =>
      refine Ev.step (f := fun _ => some (B out, B [])) (fun k => ?_) (by simpa [qv] using Ev.now _)
      simp only [ostiaryref6_quoted.l0]
      rw [if_neg (by rw [size_B]; simp)]
    | cons c rest =>
      have hll : (pre ++ c :: rest).length = pre.length + 1 + rest.length := by simp; omega
      have hb : bt (B (pre ++ c :: rest)) (pre.length : Int) = (c.toNat : Int) := bt_mid pre rest c
      have hw : wrap64 ((pre.length : Int) + 1) = ((pre ++ [c]).length : Int) := by rw [w64 (by omega) (by omega)]; simp
      have hpl : ((pre ++ [c]).length : Int) = (pre.length : Int) + 1 := by simp
      simp only [List.length_cons] at hr
      have hplain : c ≠ 34 → qv (c :: rest) = (c :: (qv rest).1, (qv rest).2) → Ev (fun k => ostiaryref6_quoted.j1 k (B (pre ++ c :: rest)) (B out) (pre.length : Int) false) (B (out ++ (qv (c :: rest)).1), B ((qv (c :: rest)).2.drop 1)) := by
        intro h34 hq
        have ih1 := ih rest (pre ++ [c]) (out ++ [c]) (by omega) (by simpa using hl) (by simp; omega)
        rw [show (pre ++ [c]) ++ rest = pre ++ c :: rest from by simp] at ih1
        rw [hq]
        refine Ev.step (f := fun k => ostiaryref6_quoted.l0 k (B (pre ++ c :: rest)) (B (out ++ [c])) ((pre ++ [c]).length : Int)) (fun k => ?_) (by simpa using ih1)
        simp only [ostiaryref6_quoted.j1]
        rw [if_neg (by decide), if_pos (by omega), if_pos (by rw [size_B]; omega), hb, if_neg (ne_int (n := 34) h34 rfl), hw, if_pos (by omega), if_pos (by rw [size_B]; omega), ext_seg, if_pos (by rw [size_B, size_B]; simp; omega), B_append]
      by_cases h92 : c = 92
      · cases rest with
        | nil =>
          refine Ev.step (f := fun k => ostiaryref6_quoted.j1 k (B (pre ++ [c])) (B out) (pre.length : Int) false) (fun k => ?_) (hplain (by rw [h92]; decide) (by rw [h92]; rfl))
          simp only [ostiaryref6_quoted.l0]
          rw [if_pos (by rw [size_B]; simp; omega), if_pos (by omega), hb, if_pos (by rw [h92]; rfl), hw, decide_eq_false (by rw [size_B]; omega)]
        | cons d rest =>
          simp only [List.length_cons] at hr hll
          have ih1 := ih rest (pre ++ [c] ++ [d]) (out ++ [d]) (by omega) (by simpa using hl) (by simp; omega)
          rw [show (pre ++ [c] ++ [d]) ++ rest = pre ++ c :: d :: rest from by simp] at ih1
          have hw2 : wrap64 (((pre ++ [c]).length : Int) + 1) = ((pre ++ [c] ++ [d]).length : Int) := by rw [w64 (by omega) (by omega)]; simp; omega
          have hpl2 : ((pre ++ [c] ++ [d]).length : Int) = (pre.length : Int) + 2 := by simp
          have hseg : (B (pre ++ c :: d :: rest)).extract ((pre ++ [c]).length : Int).toNat ((pre ++ [c] ++ [d]).length : Int).toNat = B [d] := by
            have := ext_seg (pre ++ [c]) rest d
            rwa [show (pre ++ [c]) ++ d :: rest = pre ++ c :: d :: rest from by simp] at this
          refine Ev.step (f := fun k => ostiaryref6_quoted.j1 k (B (pre ++ c :: d :: rest)) (B out) (pre.length : Int) true) (fun k => ?_) ?_
          · simp only [ostiaryref6_quoted.l0]
            rw [if_pos (by rw [size_B]; omega), if_pos (by omega), hb, if_pos (by rw [h92]; rfl), hw, decide_eq_true (by rw [size_B]; omega)]
          · rw [h92, qv_b]
            rw [h92] at ih1 hw hw2 hseg hpl hpl2 hll hl
            refine Ev.step (f := fun k => ostiaryref6_quoted.l0 k (B (pre ++ 92 :: d :: rest)) (B (out ++ [d])) ((pre ++ [92] ++ [d]).length : Int)) (fun k => ?_) (by simpa using ih1)
            simp only [ostiaryref6_quoted.j1]
            rw [if_pos trivial, hw, if_pos (by omega), hw2, if_pos (by omega), if_pos (by rw [size_B]; omega), hseg, if_pos (by rw [size_B, size_B]; simp; omega), B_append]
      · refine Ev.step (f := fun k => ostiaryref6_quoted.j1 k (B (pre ++ c :: rest)) (B out) (pre.length : Int) false) (fun k => ?_) ?_
        · simp only [ostiaryref6_quoted.l0]
          rw [if_pos (by rw [size_B]; omega), if_pos (by omega), hb, if_neg (ne_int (n := 92) h92 rfl)]
        · by_cases h34 : c = 34
          · rw [h34, qv_q]
            rw [h34] at hb hw hpl hll
            refine Ev.step (f := fun _ => some (B out, B rest)) (fun k => ?_) (by simpa using Ev.now _)
            simp only [ostiaryref6_quoted.j1]
            have hx : (B (pre ++ 34 :: rest)).extract ((pre ++ [34]).length : Int).toNat (B (pre ++ 34 :: rest)).size = B rest := by
              rw [ext_from, show pre ++ 34 :: rest = (pre ++ [34]) ++ rest from by simp, List.drop_left]
            rw [if_neg (by decide), if_pos (by omega), if_pos (by rw [size_B]; omega), hb, if_pos (by rfl), hw, if_pos (by omega), if_pos (by rw [size_B]; omega), hx]
          · exact hplain h34 (qv_c c rest h34 h92)
theorem refQuoted_ev (l : List UInt8) (h : l.length ≤ 1000000000000) : Ev (fun k => ostiaryref6_quoted.f k (B l)) (B (qv l).1, B ((qv l).2.drop 1)) := by
  have := refQuoted_l0 l.length l [] [] (Nat.le_refl _) (by simpa using h) (by simp)
  unfold ostiaryref6_quoted.f
  simpa using this
abbrev signsL : List UInt8 := [33, 35, 36, 37, 38, 39, 42, 43, 45, 46, 94, 95, 96, 124, 126]
theorem letter_f (c : Int) : ostiaryref1_Letter.f c = some ((decide (97 ≤ c) && decide (c ≤ 122)) || (decide (65 ≤ c) && decide (c ≤ 90))) := by
  unfold ostiaryref1_Letter.f
  by_cases h1 : c ≥ 97 <;> by_cases h2 : c ≤ 122 <;> by_cases h3 : c ≥ 65 <;> by_cases h4 : c ≤ 90 <;> simp [h1, h2, h3, h4] <;> omega
theorem digit_f (c : Int) : ostiaryref1_Digit.f c = some (decide (48 ≤ c) && decide (c ≤ 57)) := by
  unfold ostiaryref1_Digit.f
  by_cases h1 : c ≥ 48 <;> by_cases h2 : c ≤ 57 <;> simp [h1, h2] <;> omega
theorem refToken_l1 (s : ByteArray) (i : Int) (c : UInt8) (g : Bool) (hg : Ev (fun k => ostiaryref1_Token.l0 k s (wrap64 (i + 1))) g) : ∀ (n j : Nat) (ok : Bool), j + n = 15 →
    Ev (fun k => ostiaryref1_Token.l1 k s i (c.toNat : Int) ok (j : Int)) ((ok || (signsL.drop j).contains c) && g)
  | 0, j, ok, h => by
    have hd : signsL.drop j = [] := List.drop_of_length_le (by simp; omega)
    rw [hd, List.contains_nil, Bool.or_false]
    refine Ev.step (f := fun k => if ok = true then ostiaryref1_Token.l0 k s (wrap64 (i + 1)) else some false) (fun k => ?_) ?_
    · simp only [ostiaryref1_Token.l1]
      rw [if_neg (by omega)]
    · cases ok
      · exact Ev.ite_neg (by decide) (Ev.now _)
      · exact Ev.ite_pos rfl hg
  | n + 1, j, ok, h => by
    have hj : j < signsL.length := by simp; omega
    have hw : wrap64 ((j : Int) + 1) = ((j + 1 : Nat) : Int) := by rw [w64 (by omega) (by omega)]; rfl
    have hd : signsL.drop j = signsL[j] :: signsL.drop (j + 1) := List.drop_eq_getElem_cons hj
    cases ok with
    | true =>
      refine Ev.step (fun k => ?_) (by simpa using refToken_l1 s i c g hg n (j + 1) true (by omega))
      simp only [ostiaryref1_Token.l1]
      rw [if_pos (by omega), if_pos trivial, hw]
      rfl
    | false =>
      have hb : bt (⟨#[33, 35, 36, 37, 38, 39, 42, 43, 45, 46, 94, 95, 96, 124, 126]⟩ : ByteArray) (j : Int) = (signsL[j].toNat : Int) := bt_B signsL j hj
      have ih := refToken_l1 s i c g hg n (j + 1) ((c.toNat : Int) == (signsL[j].toNat : Int)) (by omega)
      have he : (((c.toNat : Int) == (signsL[j].toNat : Int)) || (signsL.drop (j + 1)).contains c) = (signsL.drop j).contains c := by
        rw [hd, List.contains_cons]
        congr 1
        rw [Bool.eq_iff_iff, beq_iff_eq, beq_iff_eq]
        exact ⟨u8_ext, fun e => by rw [e]⟩
      rw [he] at ih
      rw [Bool.false_or]
      refine Ev.step (fun k => ?_) ih
      simp only [ostiaryref1_Token.l1]
      rw [if_pos (by omega), if_neg (by decide), if_pos (by omega), hb, hw]
theorem refToken_l0 : ∀ (rest pre : List UInt8), (pre ++ rest).length ≤ 4611686018427387904 → Ev (fun k => ostiaryref1_Token.l0 k (B (pre ++ rest)) (pre.length : Int)) (rest.all tokc && !(pre ++ rest).isEmpty)
  | [], pre, h => by
    refine Ev.step (f := fun _ => some (!(pre ++ []).isEmpty)) (fun k => ?_) (by simpa using Ev.now _)
    simp only [ostiaryref1_Token.l0]
    rw [if_neg (by rw [size_B]; simp), size_B]
    congr 1
    cases pre <;> simp
  | c :: rest, pre, h => by
    have hl : (pre ++ c :: rest).length = pre.length + 1 + rest.length := by simp; omega
    have hb : bt (B (pre ++ c :: rest)) (pre.length : Int) = (c.toNat : Int) := bt_mid pre rest c
    have hw : wrap64 ((pre.length : Int) + 1) = ((pre ++ [c]).length : Int) := by rw [w64 (by omega) (by omega)]; simp
    have ih := refToken_l0 rest (pre ++ [c]) (by simpa using h)
    rw [show (pre ++ [c]) ++ rest = pre ++ c :: rest from by simp, ← hw] at ih
    have h1 := fun ok => refToken_l1 (B (pre ++ c :: rest)) (pre.length : Int) c _ ih 15 0 ok rfl
    have hne : (!(pre ++ c :: rest).isEmpty) = true := by simp
    have ht : tokc c = (((decide (97 ≤ (c.toNat : Int)) && decide ((c.toNat : Int) ≤ 122)) || (decide (65 ≤ (c.toNat : Int)) && decide ((c.toNat : Int) ≤ 90))) || (decide (48 ≤ (c.toNat : Int)) && decide ((c.toNat : Int) ≤ 57)) || signsL.contains c) := by
      unfold tokc
      congr 1
      rw [Bool.eq_iff_iff]
      simp only [Bool.or_eq_true, Bool.and_eq_true, decide_eq_true_eq]
      omega
    rw [hne, Bool.and_true] at h1 ⊢
    rw [List.all_cons, ht]
    refine Ev.step (f := fun k => ostiaryref1_Token.j1 k (B (pre ++ c :: rest)) (pre.length : Int) (c.toNat : Int) (((decide (97 ≤ (c.toNat : Int)) && decide ((c.toNat : Int) ≤ 122)) || (decide (65 ≤ (c.toNat : Int)) && decide ((c.toNat : Int) ≤ 90))) || (decide (48 ≤ (c.toNat : Int)) && decide ((c.toNat : Int) ≤ 57)))) (fun k => ?_) ?_
    · simp only [ostiaryref1_Token.l0]
      rw [if_pos (by rw [size_B]; omega), if_pos (by omega), hb, letter_f]
      simp only [Option.bind_some]
      split
      · rename_i hh; rw [hh, Bool.true_or]
      · rename_i hh
        rw [digit_f]
        simp only [Option.bind_some]
        rw [Bool.eq_false_iff.2 hh, Bool.false_or]
    · exact Ev.step (fun k => by simp only [ostiaryref1_Token.j1]; rfl) (h1 _)
theorem refToken_ev (l : List UInt8) (h : l.length ≤ 4611686018427387904) : Ev (fun k => ostiaryref1_Token.f k (B l)) (isTok l) := by
  have := refToken_l0 l [] (by simpa using h)
  unfold ostiaryref1_Token.f isTok
  simpa using this
theorem refValue_l0 : ∀ (rest pre : List UInt8), (pre ++ rest).length ≤ 4611686018427387904 → Ev (fun k => ostiaryref6_value.l0 k (B (pre ++ rest)) (pre.length : Int)) (rest.all finec)
  | [], pre, h => by
    refine Ev.step (f := fun _ => some true) (fun k => ?_) (Ev.now _)
    simp only [ostiaryref6_value.l0]
    rw [if_neg (by rw [size_B]; simp)]
  | c :: rest, pre, h => by
    have hl : (pre ++ c :: rest).length = pre.length + 1 + rest.length := by simp; omega
    have hb : bt (B (pre ++ c :: rest)) (pre.length : Int) = (c.toNat : Int) := bt_mid pre rest c
    have hw : wrap64 ((pre.length : Int) + 1) = ((pre ++ [c]).length : Int) := by rw [w64 (by omega) (by omega)]; simp
    have ih := refValue_l0 rest (pre ++ [c]) (by simpa using h)
    rw [show (pre ++ [c]) ++ rest = pre ++ c :: rest from by simp] at ih
    rw [List.all_cons]
    refine Ev.step (f := fun k => if finec c = true then ostiaryref6_value.l0 k (B (pre ++ c :: rest)) ((pre ++ [c]).length : Int) else some false) (fun k => ?_) ?_
    · simp only [ostiaryref6_value.l0]
      rw [if_pos (by rw [size_B]; omega), if_pos (by omega), hb, hw]
      unfold finec
      by_cases h9 : (c.toNat : Int) = 9
      · rw [if_pos h9, if_pos (by simp; left; omega)]
      · rw [if_neg h9]
        by_cases h32 : (c.toNat : Int) < 32
        · rw [if_pos h32, if_neg (by simp; omega)]
        · rw [if_neg h32]
          by_cases h127 : (c.toNat : Int) = 127
          · rw [if_pos h127, if_neg (by simp; omega)]
          · rw [if_neg h127, if_pos (by simp; omega)]
    · cases hf : finec c with
      | true => rw [Bool.true_and]; exact Ev.ite_pos rfl ih
      | false => rw [Bool.false_and]; exact Ev.ite_neg (by decide) (Ev.now _)
theorem refValue_ev (l : List UInt8) (h : l.length ≤ 4611686018427387904) : Ev (fun k => ostiaryref6_value.f k (B l)) (isFine l) := by
  have := refValue_l0 l [] (by simpa using h)
  unfold ostiaryref6_value.f isFine
  simpa using this
theorem refLower_f (l : List UInt8) (h : l.length ≤ 140737488355328) : ostiaryref1_Lower.f (B l) = some (B (lows l)) := by
  unfold ostiaryref1_Lower.f
  rw [if_pos (by rw [size_B]; exact h), lowB_B]
end Go.Proofs.YteehjlciajhdoaaGreatDoor.X
namespace Go.Proofs.YteehjlciajhdoaaGreatDoor.X
set_option linter.unusedVariables false
set_option linter.unusedSimpArgs false
open Go.RowKit Go.Proofs.YteehjlciajhdoaaGreatDoorW.PrintWords Go.Proofs.YteehjlciajhdoaaGreatDoorW.PrintLast Go.Proofs.YteehjlciajhdoaaGreatDoorW.PrintMore
def signAt : List UInt8 → Nat
  | [] => 0
  | c :: l => if c = 59 ∨ c = 61 then 0 else signAt l + 1
def refParam (l : List UInt8) : List UInt8 × List UInt8 × List UInt8 × Bool :=
  let s := Lib.trimLeftS l blanksL
  let i := signAt s
  if i = s.length ∨ s[i]? = some 59 then ([], [], (cutc 59 s).2.1, (cutc 59 s).2.2)
  else
    let t := s.drop (i + 1)
    if [34].isPrefixOf t = true then (lows (s.take i), (qv t.tail).1, (cutc 59 ((qv t.tail).2.drop 1)).2.1, (cutc 59 ((qv t.tail).2.drop 1)).2.2)
    else if (Lib.trimRightS (cutc 59 t).1 blanksL).isEmpty = true then ([], [], (cutc 59 t).2.1, (cutc 59 t).2.2)
    else (lows (s.take i), Lib.trimRightS (cutc 59 t).1 blanksL, (cutc 59 t).2.1, (cutc 59 t).2.2)
def ostiaryref6_param.f (a0 : ByteArray) : Option (ByteArray × ByteArray × ByteArray × Bool) :=
  if a0.size ≤ 900000000 then some (B (refParam (Ls a0)).1, B (refParam (Ls a0)).2.1, B (refParam (Ls a0)).2.2.1, (refParam (Ls a0)).2.2.2) else none
theorem signAt_at : ∀ (l : List UInt8) (k : Nat), k ≤ l.length → (∀ j, j < k → l[j]? ≠ some 59 ∧ l[j]? ≠ some 61) → (k = l.length ∨ l[k]? = some 59 ∨ l[k]? = some 61) → signAt l = k
  | [], k, h, _, _ => by simp at h; rw [h]; rfl
  | c :: l, 0, h, _, h2 => by
    unfold signAt
    rw [if_pos]
    rcases h2 with h2 | h2 | h2
    · simp at h2
    · left; simpa using h2
    · right; simpa using h2
  | c :: l, k + 1, h, h1, h2 => by
    unfold signAt
    have h0 := h1 0 (by omega)
    rw [if_neg (by simpa using h0), signAt_at l k (by simpa using h) (fun j hj => by simpa using h1 (j + 1) (by omega)) (by simpa using h2)]
abbrev ZP : Obj := .cells #[.string (⟨#[]⟩ : ByteArray), .string (⟨#[]⟩ : ByteArray)] 89 (0, 0)
theorem dropW_step (c : UInt8) (l : List UInt8) (h : blanksL.contains c = true) : Lib.trimLeftS (c :: l) blanksL = Lib.trimLeftS l blanksL := by
  unfold Lib.trimLeftS; rw [List.dropWhile_cons_of_pos h]
theorem dropW_stop (c : UInt8) (l : List UInt8) (h : blanksL.contains c = false) : Lib.trimLeftS (c :: l) blanksL = c :: l := by
  unfold Lib.trimLeftS; rw [List.dropWhile_cons_of_neg (by rw [h]; decide)]
theorem blank_yes {c : UInt8} (h : blanksL.contains c = true) : c = 9 ∨ (c ≠ 9 ∧ c = 10) ∨ (c ≠ 9 ∧ c ≠ 10 ∧ c = 13) ∨ (c ≠ 9 ∧ c ≠ 10 ∧ c ≠ 13 ∧ c = 32) := by
  by_cases h9 : c = 9
  · exact .inl h9
  · by_cases h10 : c = 10
    · exact .inr (.inl ⟨h9, h10⟩)
    · by_cases h13 : c = 13
      · exact .inr (.inr (.inl ⟨h9, h10, h13⟩))
      · by_cases h32 : c = 32
        · exact .inr (.inr (.inr ⟨h9, h10, h13, h32⟩))
        · simp [h9, h10, h13, h32] at h
theorem blank_no {c : UInt8} (h : blanksL.contains c = false) : c ≠ 9 ∧ c ≠ 10 ∧ c ≠ 13 ∧ c ≠ 32 :=
  ⟨fun e => by rw [e] at h; exact absurd h (by decide), fun e => by rw [e] at h; exact absurd h (by decide), fun e => by rw [e] at h; exact absurd h (by decide), fun e => by rw [e] at h; exact absurd h (by decide)⟩
theorem eqI {c m : UInt8} {n : Int} (h : c = m) (hm : (m.toNat : Int) = n) : ((c.toNat : Int) == n) = true := by rw [h, hm]; exact beq_self_eq_true _
theorem neI {c m : UInt8} {n : Int} (h : c ≠ m) (hm : (m.toNat : Int) = n) : ((c.toNat : Int) == n) = false := beq_eq_false_iff_ne.2 (ne_int h hm)
theorem eqN {c m : UInt8} {n : Int} (h : c = m) (hm : (m.toNat : Int) = n) : ((c.toNat : Int) != n) = false := by rw [bne_eq_false_iff_eq, h, hm]
theorem neN {c m : UInt8} {n : Int} (h : c ≠ m) (hm : (m.toNat : Int) = n) : ((c.toNat : Int) != n) = true := bne_iff_ne.2 (ne_int h hm)
set_option maxHeartbeats 4000000 in
set_option maxRecDepth 100000 in
theorem refParam_calls (l : List UInt8) (hl : l.length ≤ 900000000) (w : World) :
    Calls Tryz.prog 76 #[.string (B l)] w fun e w' => e = .returned (.tuple #[.agg #[.string (B (refParam l).1), .string (B (refParam l).2.1)], .string (B (refParam l).2.2.1), .bool (refParam l).2.2.2]) ∧ Below w.heap.size w w' := by
  have hu := Tryz.underlying89
  obtain ⟨S, hS⟩ : ∃ S, S = Lib.trimLeftS l blanksL := ⟨_, rfl⟩
  have HS := Aside0.mk hS
  clear hS
  obtain ⟨R, hR⟩ : ∃ R, R = refParam l := ⟨_, rfl⟩
  have HR := Aside0.mk (p := R = refParam l) hR
  rw [← hR]
  clear hR
  obtain ⟨g, hg⟩ : ∃ g, g = w.heap.size := ⟨_, rfl⟩
  have HG := Aside0.mk hg
  have HBW := Aside0.mk (p := Below w.heap.size w (w.alloc ZP)) (below_alloc (Below.refl _ _) _)
  have HBK := Aside0.mk (p := (w.alloc ZP).heap[g]? = some ZP) (by rw [hg]; exact blk_new w _)
  go_enter Tryz.func76, Tryz.ntmps76
  go_upto_block 0 with (fail)
  rw [← hg]
  clear hg
  go_cut [0] (fun s0 wx => s0 = .string (B S) ∧ Aside0 (Below w.heap.size w wx) ∧ Aside0 (wx.heap[g]? = some ZP))
  case first =>
    go_wp2
    go_loop [0] (fun s0 => ∃ l' : List UInt8, s0 = .string (B l') ∧ l'.length ≤ l.length ∧ Aside0 (Lib.trimLeftS l' blanksL = S)) (fun s0 => match s0 with | .string s => s.size | _ => 0)
    case atStart => exact ⟨l, rfl, Nat.le_refl _, ⟨HS.out.symm⟩⟩
    case round =>
      obtain ⟨l', rfl, hl', HL⟩ := hrel
      obtain ⟨s, hs⟩ : ∃ s, s = B l' := ⟨_, rfl⟩
      have hsz : s.size = l'.length := by rw [hs, size_B]
      have hsl : s.size ≤ 900000000 := by omega
      by_cases h0 : 0 < s.size
      · obtain ⟨c, r, rfl⟩ : ∃ c r, l' = c :: r := by cases l' with | nil => rw [List.length_nil] at hsz; omega | cons c r => exact ⟨c, r, rfl⟩
        have hc : s[0]'h0 = c := by subst hs; rfl
        have hx : s.extract 1 s.size = B r := by rw [hs]; exact ext_from (c :: r) 1
        have hrl : r.length < s.size := by rw [hsz]; simp
        rw [← hs]
        have HX := Aside0.mk hx
        have hrl2 : r.length ≤ l.length := by simp at hl'; omega
        cases hb : blanksL.contains (s[0]'h0) with
        | false =>
          obtain ⟨h9, h10, h13, h32⟩ := blank_no hb
          have HSS := Aside0.mk (p := s = B S) (by rw [← HL.out, dropW_stop _ _ (by rw [← hc]; exact hb), hs])
          have e9 := neI (n := 9) h9 rfl
          have e10 := neI (n := 10) h10 rfl
          have e13 := neI (n := 13) h13 rfl
          have e32 := neI (n := 32) h32 rfl
          clear hb hc hs hx h9 h10 h13 h32 hsz HL HX hl' hrl hrl2
          go_wp2
          go_meet
          case rel => exact ⟨by rw [HSS.out], HBW, HBK⟩
        | true =>
          have HL' := Aside0.mk (p := Lib.trimLeftS r blanksL = S) (by rw [← HL.out, dropW_step _ _ (by rw [← hc]; exact hb)])
          rcases blank_yes hb with h9 | ⟨h9, h10⟩ | ⟨h9, h10, h13⟩ | ⟨h9, h10, h13, h32⟩
          all_goals
            first | have e9 := eqI (n := 9) h9 rfl | have e9 := neI (n := 9) h9 rfl
            try (first | have e10 := eqI (n := 10) h10 rfl | have e10 := neI (n := 10) h10 rfl)
            try (first | have e13 := eqI (n := 13) h13 rfl | have e13 := neI (n := 13) h13 rfl)
            try have e32 := eqI (n := 32) h32 rfl
            clear hb hc hs hx h9 hsz HL hl'
            try clear h10
            try clear h13
            try clear h32
            go_wp2
            go_round
            case rel => exact ⟨r, by rw [HX.out], hrl2, HL'⟩
            case measure => simp; omega
      · obtain rfl : l' = [] := by cases l' with | nil => rfl | cons c r => rw [List.length_cons] at hsz; omega
        have HSS := Aside0.mk (p := s = B S) (by rw [← HL.out, hs]; rfl)
        have hs0 : s.size = 0 := by omega
        rw [← hs]
        clear hs hsz HL hl' h0
        go_wp2
        go_meet
        case rel => exact ⟨by rw [HSS.out], HBW, HBK⟩
  case rest =>
    obtain ⟨rfl, HB1, HK1⟩ := hcut
    clear HBW HBK
    have hSl : S.length ≤ 900000000 := by rw [HS.out]; have := trimLeft_len' l blanksL; omega
    obtain ⟨s, hs⟩ : ∃ s, s = B S := ⟨_, rfl⟩
    have hsz : s.size = S.length := by rw [hs, size_B]
    have hat : ∀ (k : Nat) (h : k < s.size), S[k]? = some (s[k]'h) := by
      intro k h
      subst hs
      exact Lib.data_getElem? _ k h
    rw [← hs]
    have hsl : s.size ≤ 900000000 := by omega
    have HSS := Aside0.mk hs
    have HAT := Aside0.mk hat
    have HSZ := Aside0.mk hsz
    clear hs hsz hat
    go_upto_block 2 with (fail)
    go_cut [5] (fun s5 wx => ∃ k : Nat, s5 = .int .i64 k ∧ k ≤ s.size ∧ Aside0 (signAt S = k) ∧ Aside0 (Below w.heap.size w wx) ∧ Aside0 (wx.heap[g]? = some ZP))
    case first =>
      go_wp2
      go_loop [5] (fun s5 => ∃ k : Nat, s5 = .int .i64 k ∧ k ≤ s.size ∧ Aside0 (∀ j, j < k → S[j]? ≠ some 59 ∧ S[j]? ≠ some 61)) (fun s5 => s.size - (intOf s5).toNat)
      case atStart => exact ⟨0, rfl, Nat.zero_le _, ⟨fun j hj => absurd hj (by omega)⟩⟩
      case round =>
        obtain ⟨k, rfl, hk, HN⟩ := hrel
        by_cases hlt : k < s.size
        · have hc := HAT.out k hlt
          by_cases h59 : s[k]'hlt = 59
          · have HSG := Aside0.mk (signAt_at S k (by have := HSZ.out; omega) HN.out (.inr (.inl (by rw [hc, h59]))))
            have e59 := eqN (n := 59) h59 rfl
            clear hc h59 HN
            go_wp2
            go_meet
            case rel => exact ⟨k, rfl, hk, HSG, HB1, HK1⟩
          · have e59 := neN (n := 59) h59 rfl
            by_cases h61 : s[k]'hlt = 61
            · have HSG := Aside0.mk (signAt_at S k (by have := HSZ.out; omega) HN.out (.inr (.inr (by rw [hc, h61]))))
              have e61 := eqN (n := 61) h61 rfl
              clear hc h59 h61 HN
              go_wp2
              go_meet
              case rel => exact ⟨k, rfl, hk, HSG, HB1, HK1⟩
            · have e61 := neN (n := 61) h61 rfl
              have HN' := Aside0.mk (p := ∀ j, j < k + 1 → S[j]? ≠ some 59 ∧ S[j]? ≠ some 61) (fun j hj => by
                rcases Nat.lt_or_ge j k with h | h
                · exact HN.out j h
                · obtain rfl : j = k := by omega
                  rw [hc]
                  exact ⟨fun e => h59 (Option.some.inj e), fun e => h61 (Option.some.inj e)⟩)
              clear hc h59 h61 HN
              go_wp2
              go_round
              case rel => exact ⟨k + 1, by go_num, by omega, HN'⟩
              case measure => simp [intOf]; omega
        · obtain rfl : k = s.size := by omega
          have HSG := Aside0.mk (signAt_at S s.size (by have := HSZ.out; omega) HN.out (.inl HSZ.out))
          clear HN
          go_wp2
          go_meet
          case rel => exact ⟨s.size, rfl, Nat.le_refl _, HSG, HB1, HK1⟩
    case rest =>
      obtain ⟨k, rfl, hk, HSG, HB2, HK2⟩ := hcut
      clear HB1 HK1
      have HRR := Aside0.mk (p := R = if k = S.length ∨ S[k]? = some 59 then ([], [], (cutc 59 S).2.1, (cutc 59 S).2.2)
        else if [34].isPrefixOf (S.drop (k + 1)) = true then (lows (S.take k), (qv (S.drop (k + 1)).tail).1, (cutc 59 ((qv (S.drop (k + 1)).tail).2.drop 1)).2.1, (cutc 59 ((qv (S.drop (k + 1)).tail).2.drop 1)).2.2)
        else if (Lib.trimRightS (cutc 59 (S.drop (k + 1))).1 blanksL).isEmpty = true then ([], [], (cutc 59 (S.drop (k + 1))).2.1, (cutc 59 (S.drop (k + 1))).2.2)
        else (lows (S.take k), Lib.trimRightS (cutc 59 (S.drop (k + 1))).1 blanksL, (cutc 59 (S.drop (k + 1))).2.1, (cutc 59 (S.drop (k + 1))).2.2)) (by
          rw [HR.out]; unfold refParam; simp only [← HS.out, HSG.out])
      clear HR HSG
      have hext : s.extract 0 k = B (S.take k) := by rw [HSS.out, B_extract]; rfl
      have HLW := Aside0.mk (p := ostiaryref1_Lower.f (s.extract 0 k) = some (B (lows (S.take k)))) (by rw [hext]; exact refLower_f _ (by simp; omega))
      obtain ⟨nm, hnm⟩ : ∃ nm, nm = B (lows (S.take k)) := ⟨_, rfl⟩
      have HNM := Aside0.mk hnm
      rw [← hnm] at HLW
      clear hext hnm
      obtain ⟨k1, hk1⟩ := Ev.rounds (part_ev 59 S (by omega))
      have HP1 := Aside0.mk (p := ostiaryref1_Part.f k1 s 59 = some (B (cutc 59 S).1, B (cutc 59 S).2.1, (cutc 59 S).2.2)) (by rw [HSS.out]; exact hk1)
      clear hk1
      go_upto_region 7 with (go_at_call 75; refine (ostiaryref1_Lower.calls _ _ _ HLW.out).mono ?_; rintro e w1 ⟨rfl, hb1⟩)
      have HB3 := Aside0.mk (below_then HB2.out HB2.out.size hb1)
      have hbk3 : w1.heap[g]? = some ZP := blk_below HK2.out hb1
      have HK3 := Aside0.mk hbk3
      have hg3 : w.heap.size ≤ g := by have := HG.out; omega
      clear hb1 hbk3 HB2 HK2
      by_cases hA : k = S.length ∨ S[k]? = some 59
      · have HRA := Aside0.mk (p := R = ([], [], (cutc 59 S).2.1, (cutc 59 S).2.2)) (by rw [HRR.out, if_pos hA])
        clear HRR
        have hf0 := blk_frozen HK3.out 0
        have hf1 := blk_frozen HK3.out 1
        have hz0 : w1.cell? ⟨g, 0, none⟩ = some (.string (⟨#[]⟩ : ByteArray)) := (blk_cell HK3.out 0).trans rfl
        have hz1 : w1.cell? ⟨g, 1, none⟩ = some (.string (⟨#[]⟩ : ByteArray)) := (blk_cell HK3.out 1).trans rfl
        have hcs : (k = s.size) ∨ ∃ h : k < s.size, s[k]'h = 59 := by
          rcases hA with h | h
          · left; have := HSZ.out; omega
          · right
            obtain ⟨h1, h2⟩ := List.getElem?_eq_some_iff.1 h
            have h3 : k < s.size := by have := HSZ.out; omega
            refine ⟨h3, ?_⟩
            have := HAT.out k h3
            rw [h] at this
            exact (Option.some.inj this).symm
        clear hA
        rcases hcs with rfl | ⟨hlt, h59⟩
        · go_wp2_with (go_at_call 72; refine (ostiaryref1_Part.calls _ _ _ _ _ _ _ HP1.out).mono ?_; rintro e w2 ⟨rfl, ⟨nd, rfl⟩⟩)
          refine bodyPost_ret (results_ctt rfl _ _ g 89 #[.string (⟨#[]⟩ : ByteArray), .string (⟨#[]⟩ : ByteArray)] (0, 0) _ rfl (blk_put (cs := #[.string (⟨#[]⟩ : ByteArray), .string (⟨#[]⟩ : ByteArray)]) (blk_put (cs := #[.string (⟨#[]⟩ : ByteArray), .string (⟨#[]⟩ : ByteArray)]) (blk_drewN HK3.out _) 0 _ rfl) 1 _ rfl) Tryz.underlying89 rfl (by kernel_rfl)) rfl ?_
          rw [HRA.out]
          exact ⟨rfl, ((pw_below_drewN HB3.out _).setCell hg3 _).setCell hg3 _⟩
        · have hne : ((k : Int) == (s.size : Int)) = false := beq_eq_false_iff_ne.2 (by omega)
          have e59 := eqI (n := 59) h59 rfl
          clear h59
          go_wp2_with (go_at_call 72; refine (ostiaryref1_Part.calls _ _ _ _ _ _ _ HP1.out).mono ?_; rintro e w2 ⟨rfl, ⟨nd, rfl⟩⟩)
          refine bodyPost_ret (results_ctt rfl _ _ g 89 #[.string (⟨#[]⟩ : ByteArray), .string (⟨#[]⟩ : ByteArray)] (0, 0) _ rfl (blk_put (cs := #[.string (⟨#[]⟩ : ByteArray), .string (⟨#[]⟩ : ByteArray)]) (blk_put (cs := #[.string (⟨#[]⟩ : ByteArray), .string (⟨#[]⟩ : ByteArray)]) (blk_drewN HK3.out _) 0 _ rfl) 1 _ rfl) Tryz.underlying89 rfl (by kernel_rfl)) rfl ?_
          rw [HRA.out]
          exact ⟨rfl, ((pw_below_drewN HB3.out _).setCell hg3 _).setCell hg3 _⟩
      · have hlt : k < s.size := by
          have h1 := HSZ.out
          have h2 : k ≠ S.length := fun e => hA (.inl e)
          omega
        have h59 : s[k]'hlt ≠ 59 := fun e => hA (.inr (by rw [HAT.out k hlt, e]))
        obtain ⟨T, hT⟩ : ∃ T, T = S.drop (k + 1) := ⟨_, rfl⟩
        have hTl : T.length ≤ 900000000 := by rw [hT]; simp; omega
        have hext2 : s.extract (k + 1) s.size = B T := by rw [hT, HSS.out]; exact ext_from S (k + 1)
        have HRA := Aside0.mk (p := R = if [34].isPrefixOf T = true then (lows (S.take k), (qv T.tail).1, (cutc 59 ((qv T.tail).2.drop 1)).2.1, (cutc 59 ((qv T.tail).2.drop 1)).2.2)
          else if (Lib.trimRightS (cutc 59 T).1 blanksL).isEmpty = true then ([], [], (cutc 59 T).2.1, (cutc 59 T).2.2)
          else (lows (S.take k), Lib.trimRightS (cutc 59 T).1 blanksL, (cutc 59 T).2.1, (cutc 59 T).2.2)) (by rw [HRR.out, if_neg hA, hT])
        have hne : ((k : Int) == (s.size : Int)) = false := beq_eq_false_iff_ne.2 (by omega)
        have e59 := neI (n := 59) h59 rfl
        have HX := Aside0.mk hext2
        clear HRR hA h59 hT hext2
        go_upto_region 11 with (fail)
        rw [HX.out]
        clear e59 hne HP1 HX HAT
        obtain ⟨t, ht⟩ : ∃ t, t = B T := ⟨_, rfl⟩
        have htz : t.size = T.length := by rw [ht, size_B]
        have HBG := Aside0.mk (begins_ev T [34])
        rw [← ht] at HBG ⊢
        have HTT := Aside0.mk ht
        clear ht
        have hf0 := blk_frozen HK3.out 0
        have hf1 := blk_frozen HK3.out 1
        have hz0 : w1.cell? ⟨g, 0, none⟩ = some (.string (⟨#[]⟩ : ByteArray)) := (blk_cell HK3.out 0).trans rfl
        have hz1 : w1.cell? ⟨g, 1, none⟩ = some (.string (⟨#[]⟩ : ByteArray)) := (blk_cell HK3.out 1).trans rfl
        cases hp : [34].isPrefixOf T with
        | true =>
          have hT0 : 0 < T.length := by cases T with | nil => simp at hp | cons b l => simp
          have ht1 : 1 ≤ t.size := by omega
          have hx1 : t.extract 1 t.size = B T.tail := by rw [HTT.out, show T.tail = T.drop 1 from by cases T <;> rfl]; exact ext_from T 1
          have HRB := Aside0.mk (p := R = (lows (S.take k), (qv T.tail).1, (cutc 59 ((qv T.tail).2.drop 1)).2.1, (cutc 59 ((qv T.tail).2.drop 1)).2.2)) (by rw [HRA.out, if_pos hp])
          rw [hp] at HBG
          have hql := qv_len _ T.tail (Nat.le_refl _)
          rw [List.length_tail] at hql
          obtain ⟨kq, hkq⟩ := Ev.rounds (refQuoted_ev T.tail (by rw [List.length_tail]; omega))
          obtain ⟨Q1, hQ1⟩ : ∃ Q1, Q1 = (qv T.tail).1 := ⟨_, rfl⟩
          obtain ⟨Q2, hQ2⟩ : ∃ Q2, Q2 = (qv T.tail).2.drop 1 := ⟨_, rfl⟩
          have hq2l : Q2.length ≤ 900000000 := by rw [hQ2, List.length_drop]; omega
          rw [← hQ1, ← hQ2] at hkq HRB
          have HQ := Aside0.mk (p := ostiaryref6_quoted.f kq (t.extract 1 t.size) = some (B Q1, B Q2)) (by rw [hx1]; exact hkq)
          obtain ⟨kp, hkp⟩ := Ev.rounds (part_ev 59 Q2 (by omega))
          have HP := Aside0.mk (p := ostiaryref1_Part.f kp (B Q2) 59 = some (B (cutc 59 Q2).1, B (cutc 59 Q2).2.1, (cutc 59 Q2).2.2)) hkp
          clear hp hx1 HRA hql hkq hQ1 hQ2 hkp hT0 htz
          go_wp2_with (first | (go_at_call 110; refine (ostiaryref1_Begins.calls _ _ _ _ HBG.out).mono ?_; rintro e w2 ⟨rfl, ⟨nd, rfl⟩⟩) | (go_at_call 137; refine (ostiaryref6_quoted.calls _ _ _ _ _ HQ.out).mono ?_; rintro e w2 ⟨rfl, ⟨nd2, rfl⟩⟩) | (go_at_call 72; refine (ostiaryref1_Part.calls _ _ _ _ _ _ _ HP.out).mono ?_; rintro e w2 ⟨rfl, ⟨nd3, rfl⟩⟩))
          have HN := HNM.out
          refine bodyPost_ret (results_ctt rfl _ _ g 89 #[.string nm, .string (B Q1)] (0, 0) _ rfl (blk_put (cs := #[.string nm, .string (⟨#[]⟩ : ByteArray)]) (blk_put (cs := #[.string (⟨#[]⟩ : ByteArray), .string (⟨#[]⟩ : ByteArray)]) (blk_drewN HK3.out _) 0 _ rfl) 1 _ rfl) Tryz.underlying89 rfl (by kernel_rfl)) rfl ?_
          rw [HRB.out, HN]
          exact ⟨rfl, ((pw_below_drewN HB3.out _).setCell hg3 _).setCell hg3 _⟩
        | false =>
          have HRB := Aside0.mk (p := R = if (Lib.trimRightS (cutc 59 T).1 blanksL).isEmpty = true then ([], [], (cutc 59 T).2.1, (cutc 59 T).2.2) else (lows (S.take k), Lib.trimRightS (cutc 59 T).1 blanksL, (cutc 59 T).2.1, (cutc 59 T).2.2)) (by rw [HRA.out, if_neg (by rw [hp]; decide)])
          rw [hp] at HBG
          have hcl := cutc_len' 59 T
          obtain ⟨kp, hkp⟩ := Ev.rounds (part_ev 59 T (by omega))
          have HP := Aside0.mk (p := ostiaryref1_Part.f kp t 59 = some (B (cutc 59 T).1, B (cutc 59 T).2.1, (cutc 59 T).2.2)) (by rw [HTT.out]; exact hkp)
          obtain ⟨kb, hkb⟩ := Ev.rounds (back_ev (cutc 59 T).1 (by omega))
          obtain ⟨V, hV⟩ : ∃ V, V = Lib.trimRightS (cutc 59 T).1 blanksL := ⟨_, rfl⟩
          rw [← hV] at hkb HRB
          have HBK := Aside0.mk hkb
          clear hp HRA hkp hkb hV hcl htz
          cases hv : V.isEmpty with
          | true =>
            obtain rfl : V = [] := List.isEmpty_iff.1 hv
            have HRC := Aside0.mk (p := R = ([], [], (cutc 59 T).2.1, (cutc 59 T).2.2)) (by rw [HRB.out, if_pos hv])
            clear hv HRB
            go_wp2_with (first | (go_at_call 110; refine (ostiaryref1_Begins.calls _ _ _ _ HBG.out).mono ?_; rintro e w2 ⟨rfl, ⟨nd, rfl⟩⟩) | (go_at_call 72; refine (ostiaryref1_Part.calls _ _ _ _ _ _ _ HP.out).mono ?_; rintro e w2 ⟨rfl, ⟨nd3, rfl⟩⟩) | (go_at_call 73; refine (ostiaryref6_back.calls _ _ _ _ HBK.out).mono ?_; rintro e w2 ⟨rfl, ⟨nd2, rfl⟩⟩))
            refine bodyPost_ret (results_ctt rfl _ _ g 89 #[.string (⟨#[]⟩ : ByteArray), .string (⟨#[]⟩ : ByteArray)] (0, 0) _ rfl (blk_put (cs := #[.string (⟨#[]⟩ : ByteArray), .string (⟨#[]⟩ : ByteArray)]) (blk_put (cs := #[.string (⟨#[]⟩ : ByteArray), .string (⟨#[]⟩ : ByteArray)]) (blk_drewN HK3.out _) 0 _ rfl) 1 _ rfl) Tryz.underlying89 rfl (by kernel_rfl)) rfl ?_
            rw [HRC.out]
            exact ⟨rfl, ((pw_below_drewN HB3.out _).setCell hg3 _).setCell hg3 _⟩
          | false =>
            have HRC := Aside0.mk (p := R = (lows (S.take k), V, (cutc 59 T).2.1, (cutc 59 T).2.2)) (by rw [HRB.out, if_neg (by rw [hv]; decide)])
            have hve : (B V).toList = [] ↔ False := by
              rw [toList_B]
              constructor
              · intro e; rw [e] at hv; simp at hv
              · exact False.elim
            have hv1 : (B V).toList.isEmpty = false := by rw [toList_B]; exact hv
            have hv2 : ((B V).toList == []) = false := by rw [toList_B]; cases V with | nil => simp at hv | cons a b => rfl
            obtain ⟨v, hvv⟩ : ∃ v, v = B V := ⟨_, rfl⟩
            rw [← hvv] at hve hv1 hv2 HBK
            have HVV := Aside0.mk hvv
            clear hv HRB hvv
            go_wp2_with (first | (go_at_call 110; refine (ostiaryref1_Begins.calls _ _ _ _ HBG.out).mono ?_; rintro e w2 ⟨rfl, ⟨nd, rfl⟩⟩) | (go_at_call 72; refine (ostiaryref1_Part.calls _ _ _ _ _ _ _ HP.out).mono ?_; rintro e w2 ⟨rfl, ⟨nd3, rfl⟩⟩) | (go_at_call 73; refine (ostiaryref6_back.calls _ _ _ _ HBK.out).mono ?_; rintro e w2 ⟨rfl, ⟨nd2, rfl⟩⟩))
            have HN := HNM.out
            have HV := HVV.out
            refine bodyPost_ret (results_ctt rfl _ _ g 89 #[.string nm, .string v] (0, 0) _ rfl (blk_put (cs := #[.string nm, .string (⟨#[]⟩ : ByteArray)]) (blk_put (cs := #[.string (⟨#[]⟩ : ByteArray), .string (⟨#[]⟩ : ByteArray)]) (blk_drewN HK3.out _) 0 _ rfl) 1 _ rfl) Tryz.underlying89 rfl (by kernel_rfl)) rfl ?_
            rw [HRC.out, HN, HV]
            exact ⟨rfl, ((pw_below_drewN HB3.out _).setCell hg3 _).setCell hg3 _⟩
theorem ostiaryref6_param.calls (a0 : ByteArray) (r1 : ByteArray) (r2 : ByteArray) (r3 : ByteArray) (r4 : Bool) (w : World) (h : ostiaryref6_param.f a0 = some (r1, r2, r3, r4)) :
    Calls Tryz.prog 76 #[.string a0] w fun e w' => e = .returned (.tuple #[.agg #[.string r1, .string r2], .string r3, .bool r4]) ∧ Below w.heap.size w w' := by
  unfold ostiaryref6_param.f at h
  split at h
  · rename_i hs
    simp only [Option.some.injEq, Prod.mk.injEq] at h
    obtain ⟨rfl, rfl, rfl, rfl⟩ := h
    have := refParam_calls (Ls a0) (by rw [← size_Ls]; exact hs) w
    rwa [B_Ls] at this
  · cases h
end Go.Proofs.YteehjlciajhdoaaGreatDoor.X
namespace Go.Proofs.YteehjlciajhdoaaGreatDoor.X
open Go.RowKit Go.Proofs.YteehjlciajhdoaaGreatDoorW.PrintWords Go.Proofs.YteehjlciajhdoaaGreatDoorW.PrintLast Go.Proofs.YteehjlciajhdoaaGreatDoorW.PrintMore
attribute [local go_sem] max2_int min2_int max_two min_two max_three min_three max_four min_four
set_option linter.unusedVariables false
set_option linter.unusedSimpArgs false
mutual
def ostiaryref6_Parse.j0 : Nat → ByteArray → ByteArray → ByteArray → Bool → Bool → Option (ByteArray × ByteArray × (List (S89)) × Bool)
  | 0, _, _, _, _, _ => none
  | k + 1, x4, x7, x8, x9, x41 => if x41 = true then (some ((⟨#[]⟩ : ByteArray), (⟨#[]⟩ : ByteArray), ([] : List (S89)), false)) else ((ostiaryref1_Lower.f x4).bind fun t112 => ((ostiaryref1_Lower.f x7).bind fun t113 => (ostiaryref6_Parse.l0 k x8 x9 t112 t113 ([] : List (S89)))))
def ostiaryref6_Parse.l0 : Nat → ByteArray → Bool → ByteArray → ByteArray → List (S89) → Option (ByteArray × ByteArray × (List (S89)) × Bool)
  | 0, _, _, _, _, _ => none
  | k + 1, x8, x9, x115000, x115001, x115002 => if x9 = true then ((ostiaryref6_param.f x8).bind fun bt116 => (ostiaryref6_Parse.l1 k bt116.2.2.1 bt116.2.2.2 false 0 x115000 x115001 x115002 bt116.1 bt116.2.1)) else (some (x115000, x115001, x115002, true))
def ostiaryref6_Parse.l1 : Nat → ByteArray → Bool → Bool → Int → ByteArray → ByteArray → List (S89) → ByteArray → ByteArray → Option (ByteArray × ByteArray × (List (S89)) × Bool)
  | 0, _, _, _, _, _, _, _, _, _ => none
  | k + 1, x8, x9, x12, x13, x115000, x115001, x115002, x116000, x116001 => if x13 < (x115002.length : Int) then (if x12 = true then (ostiaryref6_Parse.l1 k x8 x9 true (wrap64 (x13 + 1)) x115000 x115001 x115002 x116000 x116001) else (if 0 ≤ x13 then (ostiaryref6_Parse.l1 k x8 x9 (((rd_T89 x115002 x13).f0).toList == x116000.toList) (wrap64 (x13 + 1)) x115000 x115001 x115002 x116000 x116001) else (none))) else ((ostiaryref1_Token.f k x116000).bind fun t121 => (if t121 = true then ((ostiaryref6_value.f k x116001).bind fun t122 => (if t122 = true then (if x12 = true then (ostiaryref6_Parse.l0 k x8 x9 x115000 x115001 x115002) else (if x115002.length < 4398046511104 then (ostiaryref6_Parse.l0 k x8 x9 x115000 x115001 (x115002 ++ [(⟨x116000, x116001⟩ : S89)])) else (none))) else (ostiaryref6_Parse.l0 k x8 x9 x115000 x115001 x115002))) else (ostiaryref6_Parse.l0 k x8 x9 x115000 x115001 x115002)))
end
def ostiaryref6_Parse.f (k : Nat) (a0 : ByteArray) : Option (ByteArray × ByteArray × (List (S89)) × Bool) := (ostiaryref1_Trim.f k a0 false).bind fun t102 => ((ostiaryref1_Part.f k t102 47).bind fun bt103 => ((ostiaryref1_Part.f k bt103.2.1 59).bind fun bt106 => ((ostiaryref6_back.f k bt106.1).bind fun t109 => (if bt103.2.2 = true then ((ostiaryref1_Token.f k bt103.1).bind fun t110 => (if t110 = true then ((ostiaryref1_Token.f k t109).bind fun t111 => (ostiaryref6_Parse.j0 k bt103.1 t109 bt106.2.1 bt106.2.2 (!t111))) else (ostiaryref6_Parse.j0 k bt103.1 t109 bt106.2.1 bt106.2.2 true))) else (ostiaryref6_Parse.j0 k bt103.1 t109 bt106.2.1 bt106.2.2 true)))))
theorem ostiaryref6_Parse.mono_l : ∀ k, (∀ y0 y1 y2 y3 y4, LeO (ostiaryref6_Parse.j0 k y0 y1 y2 y3 y4) (ostiaryref6_Parse.j0 (k + 1) y0 y1 y2 y3 y4)) ∧ (∀ y0 y1 y2 y3 y4, LeO (ostiaryref6_Parse.l0 k y0 y1 y2 y3 y4) (ostiaryref6_Parse.l0 (k + 1) y0 y1 y2 y3 y4)) ∧ (∀ y0 y1 y2 y3 y4 y5 y6 y7 y8, LeO (ostiaryref6_Parse.l1 k y0 y1 y2 y3 y4 y5 y6 y7 y8) (ostiaryref6_Parse.l1 (k + 1) y0 y1 y2 y3 y4 y5 y6 y7 y8))
  | 0 => ⟨fun _ _ _ _ _ r h => by simp [ostiaryref6_Parse.j0] at h, fun _ _ _ _ _ r h => by simp [ostiaryref6_Parse.l0] at h, fun _ _ _ _ _ _ _ _ _ r h => by simp [ostiaryref6_Parse.l1] at h⟩
  | k + 1 => by
    obtain ⟨ih0, ih1, ih2⟩ := ostiaryref6_Parse.mono_l k
    refine ⟨?_, ?_, ?_⟩
    · intro y0 y1 y2 y3 y4
      unfold ostiaryref6_Parse.j0
      repeat' first
      | (with_reducible exact ih0 _ _ _ _ _)
      | (with_reducible exact ih1 _ _ _ _ _)
      | (with_reducible exact ih2 _ _ _ _ _ _ _ _ _)
      | (with_reducible exact ostiaryref1_Part.mono _ _ _)
      | (with_reducible exact ostiaryref1_Token.mono _ _)
      | (with_reducible exact ostiaryref1_Trim.mono _ _ _)
      | (with_reducible exact ostiaryref6_back.mono _ _)
      | (with_reducible exact ostiaryref6_value.mono _ _)
      | (with_reducible exact LeO.refl _)
      | (with_reducible exact LeO.none _)
      | (with_reducible refine LeO.ite ?_ ?_)
      | (with_reducible refine LeO.bind ?_ (fun _ => ?_))
      | exact ih0 _ _ _ _ _
      | exact ih1 _ _ _ _ _
      | exact ih2 _ _ _ _ _ _ _ _ _
      | exact ostiaryref1_Part.mono _ _ _
      | exact ostiaryref1_Token.mono _ _
      | exact ostiaryref1_Trim.mono _ _ _
      | exact ostiaryref6_back.mono _ _
      | exact ostiaryref6_value.mono _ _
      | exact LeO.none _
      | refine LeO.ite ?_ ?_
      | refine LeO.bind ?_ (fun _ => ?_)
    · intro y0 y1 y2 y3 y4
      unfold ostiaryref6_Parse.l0
      repeat' first
      | (with_reducible exact ih0 _ _ _ _ _)
      | (with_reducible exact ih1 _ _ _ _ _)
      | (with_reducible exact ih2 _ _ _ _ _ _ _ _ _)
      | (with_reducible exact ostiaryref1_Part.mono _ _ _)
      | (with_reducible exact ostiaryref1_Token.mono _ _)
      | (with_reducible exact ostiaryref1_Trim.mono _ _ _)
      | (with_reducible exact ostiaryref6_back.mono _ _)
      | (with_reducible exact ostiaryref6_value.mono _ _)
      | (with_reducible exact LeO.refl _)
      | (with_reducible exact LeO.none _)
      | (with_reducible refine LeO.ite ?_ ?_)
      | (with_reducible refine LeO.bind ?_ (fun _ => ?_))
      | exact ih0 _ _ _ _ _
      | exact ih1 _ _ _ _ _
      | exact ih2 _ _ _ _ _ _ _ _ _
      | exact ostiaryref1_Part.mono _ _ _
      | exact ostiaryref1_Token.mono _ _
      | exact ostiaryref1_Trim.mono _ _ _
      | exact ostiaryref6_back.mono _ _
      | exact ostiaryref6_value.mono _ _
      | exact LeO.none _
      | refine LeO.ite ?_ ?_
      | refine LeO.bind ?_ (fun _ => ?_)
    · intro y0 y1 y2 y3 y4 y5 y6 y7 y8
      unfold ostiaryref6_Parse.l1
      repeat' first
      | (with_reducible exact ih0 _ _ _ _ _)
      | (with_reducible exact ih1 _ _ _ _ _)
      | (with_reducible exact ih2 _ _ _ _ _ _ _ _ _)
      | (with_reducible exact ostiaryref1_Part.mono _ _ _)
      | (with_reducible exact ostiaryref1_Token.mono _ _)
      | (with_reducible exact ostiaryref1_Trim.mono _ _ _)
      | (with_reducible exact ostiaryref6_back.mono _ _)
      | (with_reducible exact ostiaryref6_value.mono _ _)
      | (with_reducible exact LeO.refl _)
      | (with_reducible exact LeO.none _)
      | (with_reducible refine LeO.ite ?_ ?_)
      | (with_reducible refine LeO.bind ?_ (fun _ => ?_))
      | exact ih0 _ _ _ _ _
      | exact ih1 _ _ _ _ _
      | exact ih2 _ _ _ _ _ _ _ _ _
      | exact ostiaryref1_Part.mono _ _ _
      | exact ostiaryref1_Token.mono _ _
      | exact ostiaryref1_Trim.mono _ _ _
      | exact ostiaryref6_back.mono _ _
      | exact ostiaryref6_value.mono _ _
      | exact LeO.none _
      | refine LeO.ite ?_ ?_
      | refine LeO.bind ?_ (fun _ => ?_)
theorem ostiaryref6_Parse.mono : ∀ a0 k, LeO (ostiaryref6_Parse.f k a0) (ostiaryref6_Parse.f (k + 1) a0) := by
  intro a0 k
  obtain ⟨ih0, ih1, ih2⟩ := ostiaryref6_Parse.mono_l k
  unfold ostiaryref6_Parse.f
  repeat' first
      | (with_reducible exact ih0 _ _ _ _ _)
      | (with_reducible exact ih1 _ _ _ _ _)
      | (with_reducible exact ih2 _ _ _ _ _ _ _ _ _)
      | (with_reducible exact ostiaryref1_Part.mono _ _ _)
      | (with_reducible exact ostiaryref1_Token.mono _ _)
      | (with_reducible exact ostiaryref1_Trim.mono _ _ _)
      | (with_reducible exact ostiaryref6_back.mono _ _)
      | (with_reducible exact ostiaryref6_value.mono _ _)
      | (with_reducible exact LeO.refl _)
      | (with_reducible exact LeO.none _)
      | (with_reducible refine LeO.ite ?_ ?_)
      | (with_reducible refine LeO.bind ?_ (fun _ => ?_))
      | exact ih0 _ _ _ _ _
      | exact ih1 _ _ _ _ _
      | exact ih2 _ _ _ _ _ _ _ _ _
      | exact ostiaryref1_Part.mono _ _ _
      | exact ostiaryref1_Token.mono _ _
      | exact ostiaryref1_Trim.mono _ _ _
      | exact ostiaryref6_back.mono _ _
      | exact ostiaryref6_value.mono _ _
      | exact LeO.none _
      | refine LeO.ite ?_ ?_
      | refine LeO.bind ?_ (fun _ => ?_)
set_option maxHeartbeats 8000000 in
set_option maxRecDepth 100000 in
theorem ostiaryref6_Parse.calls (k : Nat) (a0 : ByteArray) (r1 : ByteArray) (r2 : ByteArray) (r3 : List (S89)) (r4 : Bool) (w : World) (h : ostiaryref6_Parse.f k a0 = some (r1, r2, r3, r4)) :
    Calls Tryz.prog 26 #[.string a0] w fun e w' => ∃ v2_ : Value, e = .returned (.tuple #[.agg #[.string r1, .string r2, v2_], .bool r4]) ∧ Kd.R k89 89 w' w.heap.size (fun _ => True) v2_ r3 ∧ Below w.heap.size w w' := by
  have hu48 := Tryz.underlying48
  have hu89 := Tryz.underlying89
  have HB := Aside0.mk (Below.refl w.heap.size w)
  have H : ((ostiaryref1_Trim.f k a0 false).bind fun t102 => ((ostiaryref1_Part.f k t102 47).bind fun bt103 => ((ostiaryref1_Part.f k bt103.2.1 59).bind fun bt106 => ((ostiaryref6_back.f k bt106.1).bind fun t109 => (if bt103.2.2 = true then ((ostiaryref1_Token.f k bt103.1).bind fun t110 => (if t110 = true then ((ostiaryref1_Token.f k t109).bind fun t111 => (ostiaryref6_Parse.j0 k bt103.1 t109 bt106.2.1 bt106.2.2 (!t111))) else (ostiaryref6_Parse.j0 k bt103.1 t109 bt106.2.1 bt106.2.2 true))) else (ostiaryref6_Parse.j0 k bt103.1 t109 bt106.2.1 bt106.2.2 true)))))) = some (r1, r2, r3, r4) := h
  clear h
  replace H := Option.bind_eq_some_iff.mp H
  obtain ⟨t102, A20, H⟩ := H
  replace H : ((ostiaryref1_Part.f k t102 47).bind fun bt103 => ((ostiaryref1_Part.f k bt103.2.1 59).bind fun bt106 => ((ostiaryref6_back.f k bt106.1).bind fun t109 => (if bt103.2.2 = true then ((ostiaryref1_Token.f k bt103.1).bind fun t110 => (if t110 = true then ((ostiaryref1_Token.f k t109).bind fun t111 => (ostiaryref6_Parse.j0 k bt103.1 t109 bt106.2.1 bt106.2.2 (!t111))) else (ostiaryref6_Parse.j0 k bt103.1 t109 bt106.2.1 bt106.2.2 true))) else (ostiaryref6_Parse.j0 k bt103.1 t109 bt106.2.1 bt106.2.2 true))))) = some (r1, r2, r3, r4) := H
  have A2 := Aside0.mk A20
  clear A20
  replace H := Option.bind_eq_some_iff.mp H
  obtain ⟨⟨t103, t104, t105⟩, A30, H⟩ := H
  replace H : ((ostiaryref1_Part.f k t104 59).bind fun bt106 => ((ostiaryref6_back.f k bt106.1).bind fun t109 => (if t105 = true then ((ostiaryref1_Token.f k t103).bind fun t110 => (if t110 = true then ((ostiaryref1_Token.f k t109).bind fun t111 => (ostiaryref6_Parse.j0 k t103 t109 bt106.2.1 bt106.2.2 (!t111))) else (ostiaryref6_Parse.j0 k t103 t109 bt106.2.1 bt106.2.2 true))) else (ostiaryref6_Parse.j0 k t103 t109 bt106.2.1 bt106.2.2 true)))) = some (r1, r2, r3, r4) := H
  have A3 := Aside0.mk A30
  clear A30
  replace H := Option.bind_eq_some_iff.mp H
  obtain ⟨⟨t106, t107, t108⟩, A40, H⟩ := H
  replace H : ((ostiaryref6_back.f k t106).bind fun t109 => (if t105 = true then ((ostiaryref1_Token.f k t103).bind fun t110 => (if t110 = true then ((ostiaryref1_Token.f k t109).bind fun t111 => (ostiaryref6_Parse.j0 k t103 t109 t107 t108 (!t111))) else (ostiaryref6_Parse.j0 k t103 t109 t107 t108 true))) else (ostiaryref6_Parse.j0 k t103 t109 t107 t108 true))) = some (r1, r2, r3, r4) := H
  have A4 := Aside0.mk A40
  clear A40
  replace H := Option.bind_eq_some_iff.mp H
  obtain ⟨t109, A50, H⟩ := H
  replace H : (if t105 = true then ((ostiaryref1_Token.f k t103).bind fun t110 => (if t110 = true then ((ostiaryref1_Token.f k t109).bind fun t111 => (ostiaryref6_Parse.j0 k t103 t109 t107 t108 (!t111))) else (ostiaryref6_Parse.j0 k t103 t109 t107 t108 true))) else (ostiaryref6_Parse.j0 k t103 t109 t107 t108 true)) = some (r1, r2, r3, r4) := H
  have A5 := Aside0.mk A50
  clear A50
  have HC6 := Aside0.mk H
  clear H
  go_enter Tryz.func26, Tryz.ntmps26
  go_upto_region 5 with (first | ((with_reducible refine gate_dst (N := 2) rfl ?_); refine box_event ?hg (N := 2) ?hd (cs := #[.string (⟨#[]⟩ : ByteArray), .string (⟨#[]⟩ : ByteArray), .slice none 0 0]) (t := 48) ?hr ?_; (case hd => rfl); (case hg => rfl); (case hr => first | (go_simp; done) | (go_simp; rfl)); intro gb101 hg w7 hbox hb; have n0_ := Aside0.mk (below_step (by repeat (first | (with_reducible first | exact HB.out | apply below_alloc | apply pw_below_drewN | apply below_drew1) | exact HB.out)) hb); have n1_ := Aside0.mk (hbox); have n2_ := Aside0.mk ((by rw [hg]; exact (below_size (by repeat (first | (with_reducible first | exact HB.out | apply below_alloc | apply pw_below_drewN | apply below_drew1) | exact HB.out))) : w.heap.size ≤ gb101)); have n3_ := Aside0.mk ((by rw [hg]; exact (below_size (by repeat (first | (with_reducible first | exact HB.out | apply below_alloc | apply pw_below_drewN | apply below_drew1) | exact HB.out))) : w.heap.size ≤ gb101)); clear HB; have HB := n0_; have BK101 := n1_; have GW101 := n2_; have GE101 := n3_; clear n0_ n1_ n2_ n3_; clear hb hbox hg) | (go_at_call 71; (with_reducible refine (ostiaryref1_Trim.calls k a0 false t102 _ A2.out).mono ?_); rintro e w' ⟨rfl, ⟨nd, rfl⟩⟩; (try first | exact ⟨rfl, _, World.drewN_drewN _ _ _⟩ | exact ⟨rfl, _, Eq.trans (World.drewN_drewN _ _ _) (congrArg (World.drewN _) (Nat.add_assoc _ _ _))⟩)) | (go_at_call 72; (with_reducible refine (ostiaryref1_Part.calls k t102 47 t103 t104 t105 _ A3.out).mono ?_); rintro e w' ⟨rfl, ⟨nd, rfl⟩⟩; (try first | exact ⟨rfl, _, World.drewN_drewN _ _ _⟩ | exact ⟨rfl, _, Eq.trans (World.drewN_drewN _ _ _) (congrArg (World.drewN _) (Nat.add_assoc _ _ _))⟩)) | (go_at_call 72; (with_reducible refine (ostiaryref1_Part.calls k t104 59 t106 t107 t108 _ A4.out).mono ?_); rintro e w' ⟨rfl, ⟨nd, rfl⟩⟩; (try first | exact ⟨rfl, _, World.drewN_drewN _ _ _⟩ | exact ⟨rfl, _, Eq.trans (World.drewN_drewN _ _ _) (congrArg (World.drewN _) (Nat.add_assoc _ _ _))⟩)) | (go_at_call 73; (with_reducible refine (ostiaryref6_back.calls k t106 t109 _ A5.out).mono ?_); rintro e w' ⟨rfl, ⟨nd, rfl⟩⟩; (try first | exact ⟨rfl, _, World.drewN_drewN _ _ _⟩ | exact ⟨rfl, _, Eq.trans (World.drewN_drewN _ _ _) (congrArg (World.drewN _) (Nat.add_assoc _ _ _))⟩)))
  repeat (go_quiet (first | ((with_reducible refine gate_dst (N := 2) rfl ?_); refine box_event ?hg (N := 2) ?hd (cs := #[.string (⟨#[]⟩ : ByteArray), .string (⟨#[]⟩ : ByteArray), .slice none 0 0]) (t := 48) ?hr ?_; (case hd => rfl); (case hg => rfl); (case hr => first | (go_simp; done) | (go_simp; rfl)); intro gb101 hg w7 hbox hb; have n0_ := Aside0.mk (below_step (by repeat (first | (with_reducible first | exact HB.out | apply below_alloc | apply pw_below_drewN | apply below_drew1) | exact HB.out)) hb); have n1_ := Aside0.mk (hbox); have n2_ := Aside0.mk ((by rw [hg]; exact (below_size (by repeat (first | (with_reducible first | exact HB.out | apply below_alloc | apply pw_below_drewN | apply below_drew1) | exact HB.out))) : w.heap.size ≤ gb101)); have n3_ := Aside0.mk ((by rw [hg]; exact (below_size (by repeat (first | (with_reducible first | exact HB.out | apply below_alloc | apply pw_below_drewN | apply below_drew1) | exact HB.out))) : w.heap.size ≤ gb101)); clear HB; have HB := n0_; have BK101 := n1_; have GW101 := n2_; have GE101 := n3_; clear n0_ n1_ n2_ n3_; clear hb hbox hg) | (go_at_call 71; (with_reducible refine (ostiaryref1_Trim.calls k a0 false t102 _ A2.out).mono ?_); rintro e w' ⟨rfl, ⟨nd, rfl⟩⟩; (try first | exact ⟨rfl, _, World.drewN_drewN _ _ _⟩ | exact ⟨rfl, _, Eq.trans (World.drewN_drewN _ _ _) (congrArg (World.drewN _) (Nat.add_assoc _ _ _))⟩)) | (go_at_call 72; (with_reducible refine (ostiaryref1_Part.calls k t102 47 t103 t104 t105 _ A3.out).mono ?_); rintro e w' ⟨rfl, ⟨nd, rfl⟩⟩; (try first | exact ⟨rfl, _, World.drewN_drewN _ _ _⟩ | exact ⟨rfl, _, Eq.trans (World.drewN_drewN _ _ _) (congrArg (World.drewN _) (Nat.add_assoc _ _ _))⟩)) | (go_at_call 72; (with_reducible refine (ostiaryref1_Part.calls k t104 59 t106 t107 t108 _ A4.out).mono ?_); rintro e w' ⟨rfl, ⟨nd, rfl⟩⟩; (try first | exact ⟨rfl, _, World.drewN_drewN _ _ _⟩ | exact ⟨rfl, _, Eq.trans (World.drewN_drewN _ _ _) (congrArg (World.drewN _) (Nat.add_assoc _ _ _))⟩)) | (go_at_call 73; (with_reducible refine (ostiaryref6_back.calls k t106 t109 _ A5.out).mono ?_); rintro e w' ⟨rfl, ⟨nd, rfl⟩⟩; (try first | exact ⟨rfl, _, World.drewN_drewN _ _ _⟩ | exact ⟨rfl, _, Eq.trans (World.drewN_drewN _ _ _) (congrArg (World.drewN _) (Nat.add_assoc _ _ _))⟩))); go_upto_region 5 with (first | ((with_reducible refine gate_dst (N := 2) rfl ?_); refine box_event ?hg (N := 2) ?hd (cs := #[.string (⟨#[]⟩ : ByteArray), .string (⟨#[]⟩ : ByteArray), .slice none 0 0]) (t := 48) ?hr ?_; (case hd => rfl); (case hg => rfl); (case hr => first | (go_simp; done) | (go_simp; rfl)); intro gb101 hg w7 hbox hb; have n0_ := Aside0.mk (below_step (by repeat (first | (with_reducible first | exact HB.out | apply below_alloc | apply pw_below_drewN | apply below_drew1) | exact HB.out)) hb); have n1_ := Aside0.mk (hbox); have n2_ := Aside0.mk ((by rw [hg]; exact (below_size (by repeat (first | (with_reducible first | exact HB.out | apply below_alloc | apply pw_below_drewN | apply below_drew1) | exact HB.out))) : w.heap.size ≤ gb101)); have n3_ := Aside0.mk ((by rw [hg]; exact (below_size (by repeat (first | (with_reducible first | exact HB.out | apply below_alloc | apply pw_below_drewN | apply below_drew1) | exact HB.out))) : w.heap.size ≤ gb101)); clear HB; have HB := n0_; have BK101 := n1_; have GW101 := n2_; have GE101 := n3_; clear n0_ n1_ n2_ n3_; clear hb hbox hg) | (go_at_call 71; (with_reducible refine (ostiaryref1_Trim.calls k a0 false t102 _ A2.out).mono ?_); rintro e w' ⟨rfl, ⟨nd, rfl⟩⟩; (try first | exact ⟨rfl, _, World.drewN_drewN _ _ _⟩ | exact ⟨rfl, _, Eq.trans (World.drewN_drewN _ _ _) (congrArg (World.drewN _) (Nat.add_assoc _ _ _))⟩)) | (go_at_call 72; (with_reducible refine (ostiaryref1_Part.calls k t102 47 t103 t104 t105 _ A3.out).mono ?_); rintro e w' ⟨rfl, ⟨nd, rfl⟩⟩; (try first | exact ⟨rfl, _, World.drewN_drewN _ _ _⟩ | exact ⟨rfl, _, Eq.trans (World.drewN_drewN _ _ _) (congrArg (World.drewN _) (Nat.add_assoc _ _ _))⟩)) | (go_at_call 72; (with_reducible refine (ostiaryref1_Part.calls k t104 59 t106 t107 t108 _ A4.out).mono ?_); rintro e w' ⟨rfl, ⟨nd, rfl⟩⟩; (try first | exact ⟨rfl, _, World.drewN_drewN _ _ _⟩ | exact ⟨rfl, _, Eq.trans (World.drewN_drewN _ _ _) (congrArg (World.drewN _) (Nat.add_assoc _ _ _))⟩)) | (go_at_call 73; (with_reducible refine (ostiaryref6_back.calls k t106 t109 _ A5.out).mono ?_); rintro e w' ⟨rfl, ⟨nd, rfl⟩⟩; (try first | exact ⟨rfl, _, World.drewN_drewN _ _ _⟩ | exact ⟨rfl, _, Eq.trans (World.drewN_drewN _ _ _) (congrArg (World.drewN _) (Nat.add_assoc _ _ _))⟩))))
  (try simp only [Act.put, List.setIfInBounds_toArray, List.set_cons_zero, List.set_cons_succ])
  go_cut [41] (fun v41 wc => ∃ (kq : Nat) (x41_5 : Bool), v41 = .bool x41_5 ∧ Aside0 (ostiaryref6_Parse.j0 kq t103 t109 t107 t108 x41_5 = some (r1, r2, r3, r4)) ∧ Aside0 (kq ≤ k) ∧ Aside0 (wc.heap[gb101]? = some (.cells #[.string (⟨#[]⟩ : ByteArray), .string (⟨#[]⟩ : ByteArray), (.slice none 0 0)] 48 (0, 0))) ∧ Aside0 (Below w.heap.size w wc))
  case first =>
    have H := HC6.out
    clear HC6
    by_cases c8 : t105 = true
    · subst c8
      have H1 : ((ostiaryref1_Token.f k t103).bind fun t110 => (if t110 = true then ((ostiaryref1_Token.f k t109).bind fun t111 => (ostiaryref6_Parse.j0 k t103 t109 t107 t108 (!t111))) else (ostiaryref6_Parse.j0 k t103 t109 t107 t108 true))) = some (r1, r2, r3, r4) := by rw [if_pos rfl] at H; exact H
      clear H
      have H := H1
      clear H1
      replace H := Option.bind_eq_some_iff.mp H
      obtain ⟨t110, A90, H⟩ := H
      replace H : (if t110 = true then ((ostiaryref1_Token.f k t109).bind fun t111 => (ostiaryref6_Parse.j0 k t103 t109 t107 t108 (!t111))) else (ostiaryref6_Parse.j0 k t103 t109 t107 t108 true)) = some (r1, r2, r3, r4) := H
      have A9 := Aside0.mk A90
      clear A90
      by_cases c10 : t110 = true
      · subst c10
        have H1 : ((ostiaryref1_Token.f k t109).bind fun t111 => (ostiaryref6_Parse.j0 k t103 t109 t107 t108 (!t111))) = some (r1, r2, r3, r4) := by rw [if_pos rfl] at H; exact H
        clear H
        have H := H1
        clear H1
        replace H := Option.bind_eq_some_iff.mp H
        obtain ⟨t111, A110, H⟩ := H
        replace H : (ostiaryref6_Parse.j0 k t103 t109 t107 t108 (!t111)) = some (r1, r2, r3, r4) := H
        have A11 := Aside0.mk A110
        clear A110
        have H' := Aside0.mk H
        clear H
        go_wp2_with (first | (go_at_call 74; (with_reducible refine (ostiaryref1_Token.calls k t103 true _ A9.out).mono ?_); rintro e w' ⟨rfl, ⟨nd, rfl⟩⟩; (try first | exact ⟨rfl, _, World.drewN_drewN _ _ _⟩ | exact ⟨rfl, _, Eq.trans (World.drewN_drewN _ _ _) (congrArg (World.drewN _) (Nat.add_assoc _ _ _))⟩)) | (go_at_call 74; (with_reducible refine (ostiaryref1_Token.calls k t109 t111 _ A11.out).mono ?_); rintro e w' ⟨rfl, ⟨nd, rfl⟩⟩; (try first | exact ⟨rfl, _, World.drewN_drewN _ _ _⟩ | exact ⟨rfl, _, Eq.trans (World.drewN_drewN _ _ _) (congrArg (World.drewN _) (Nat.add_assoc _ _ _))⟩)))
        repeat (go_quiet (first | (go_at_call 74; (with_reducible refine (ostiaryref1_Token.calls k t103 true _ A9.out).mono ?_); rintro e w' ⟨rfl, ⟨nd, rfl⟩⟩; (try first | exact ⟨rfl, _, World.drewN_drewN _ _ _⟩ | exact ⟨rfl, _, Eq.trans (World.drewN_drewN _ _ _) (congrArg (World.drewN _) (Nat.add_assoc _ _ _))⟩)) | (go_at_call 74; (with_reducible refine (ostiaryref1_Token.calls k t109 t111 _ A11.out).mono ?_); rintro e w' ⟨rfl, ⟨nd, rfl⟩⟩; (try first | exact ⟨rfl, _, World.drewN_drewN _ _ _⟩ | exact ⟨rfl, _, Eq.trans (World.drewN_drewN _ _ _) (congrArg (World.drewN _) (Nat.add_assoc _ _ _))⟩))); try go_wp2_with (first | (go_at_call 74; (with_reducible refine (ostiaryref1_Token.calls k t103 true _ A9.out).mono ?_); rintro e w' ⟨rfl, ⟨nd, rfl⟩⟩; (try first | exact ⟨rfl, _, World.drewN_drewN _ _ _⟩ | exact ⟨rfl, _, Eq.trans (World.drewN_drewN _ _ _) (congrArg (World.drewN _) (Nat.add_assoc _ _ _))⟩)) | (go_at_call 74; (with_reducible refine (ostiaryref1_Token.calls k t109 t111 _ A11.out).mono ?_); rintro e w' ⟨rfl, ⟨nd, rfl⟩⟩; (try first | exact ⟨rfl, _, World.drewN_drewN _ _ _⟩ | exact ⟨rfl, _, Eq.trans (World.drewN_drewN _ _ _) (congrArg (World.drewN _) (Nat.add_assoc _ _ _))⟩))))
        go_meet
        case rel => exact ⟨_, (!t111), (by first | rfl | (simp; done) | (simp [*]; done)), H', ⟨by first | omega | exact Nat.le_refl _⟩, ⟨by (with_reducible repeat (first | refine blk_drewN ?_ _ | refine blk_drew ?_ | refine blk_alloc ?_ _)); exact BK101.out⟩, ⟨by repeat (first | (with_reducible first | exact HB.out | apply below_alloc | apply pw_below_drewN | apply below_drew1 | refine below_set ?_ GE101.out) | exact HB.out)⟩⟩
      · replace c10 := Bool.eq_false_iff.mpr c10
        subst c10
        have H1 : (ostiaryref6_Parse.j0 k t103 t109 t107 t108 true) = some (r1, r2, r3, r4) := by rw [if_neg (show ¬ (false = true) by decide)] at H; exact H
        clear H
        have H := H1
        clear H1
        have H' := Aside0.mk H
        clear H
        go_wp2_with (first | (go_at_call 74; (with_reducible refine (ostiaryref1_Token.calls k t103 false _ A9.out).mono ?_); rintro e w' ⟨rfl, ⟨nd, rfl⟩⟩; (try first | exact ⟨rfl, _, World.drewN_drewN _ _ _⟩ | exact ⟨rfl, _, Eq.trans (World.drewN_drewN _ _ _) (congrArg (World.drewN _) (Nat.add_assoc _ _ _))⟩)))
        repeat (go_quiet (first | (go_at_call 74; (with_reducible refine (ostiaryref1_Token.calls k t103 false _ A9.out).mono ?_); rintro e w' ⟨rfl, ⟨nd, rfl⟩⟩; (try first | exact ⟨rfl, _, World.drewN_drewN _ _ _⟩ | exact ⟨rfl, _, Eq.trans (World.drewN_drewN _ _ _) (congrArg (World.drewN _) (Nat.add_assoc _ _ _))⟩))); try go_wp2_with (first | (go_at_call 74; (with_reducible refine (ostiaryref1_Token.calls k t103 false _ A9.out).mono ?_); rintro e w' ⟨rfl, ⟨nd, rfl⟩⟩; (try first | exact ⟨rfl, _, World.drewN_drewN _ _ _⟩ | exact ⟨rfl, _, Eq.trans (World.drewN_drewN _ _ _) (congrArg (World.drewN _) (Nat.add_assoc _ _ _))⟩))))
        go_meet
        case rel => exact ⟨_, (true), (by first | rfl | (simp; done) | (simp [*]; done)), H', ⟨by first | omega | exact Nat.le_refl _⟩, ⟨by (with_reducible repeat (first | refine blk_drewN ?_ _ | refine blk_drew ?_ | refine blk_alloc ?_ _)); exact BK101.out⟩, ⟨by repeat (first | (with_reducible first | exact HB.out | apply below_alloc | apply pw_below_drewN | apply below_drew1 | refine below_set ?_ GE101.out) | exact HB.out)⟩⟩
    · replace c8 := Bool.eq_false_iff.mpr c8
      subst c8
      have H1 : (ostiaryref6_Parse.j0 k t103 t109 t107 t108 true) = some (r1, r2, r3, r4) := by rw [if_neg (show ¬ (false = true) by decide)] at H; exact H
      clear H
      have H := H1
      clear H1
      have H' := Aside0.mk H
      clear H
      go_wp2
      repeat (go_quiet (fail); try go_wp2)
      go_meet
      case rel => exact ⟨_, (true), (by first | rfl | (simp; done) | (simp [*]; done)), H', ⟨by first | omega | exact Nat.le_refl _⟩, ⟨by (with_reducible repeat (first | refine blk_drewN ?_ _ | refine blk_drew ?_ | refine blk_alloc ?_ _)); exact BK101.out⟩, ⟨by repeat (first | (with_reducible first | exact HB.out | apply below_alloc | apply pw_below_drewN | apply below_drew1 | refine below_set ?_ GE101.out) | exact HB.out)⟩⟩
  case rest =>
    clear HC6
    try clear c1
    try clear c2
    try clear p2
    try clear c8
    try clear c10
    obtain ⟨kq, x41_5, rfl, HA, HJ5, BK101, HB⟩ := hcut
    cases kq with
    | zero => exact absurd HA.out (by simp [ostiaryref6_Parse.j0])
    | succ kj5 =>
      have H := HA.out
      clear HA
      simp only [ostiaryref6_Parse.j0] at H
      by_cases c12 : x41_5 = true
      · subst c12
        have H1 : (some ((⟨#[]⟩ : ByteArray), (⟨#[]⟩ : ByteArray), ([] : List (S89)), false)) = some (r1, r2, r3, r4) := by rw [if_pos rfl] at H; exact H
        clear H
        have H := H1
        clear H1
        simp only [Option.some.injEq, Prod.mk.injEq] at H
        obtain ⟨rfl, rfl, rfl, rfl⟩ := H
        have hcz13_0 : wc.cell? ⟨gb101, 0, none⟩ = some (.string (⟨#[]⟩ : ByteArray)) := (blk_cell BK101.out 0).trans rfl
        have hcz13_1 : wc.cell? ⟨gb101, 1, none⟩ = some (.string (⟨#[]⟩ : ByteArray)) := (blk_cell BK101.out 1).trans rfl
        have hcz13_2 : wc.cell? ⟨gb101, 2, none⟩ = some (.slice none 0 0) := (blk_cell BK101.out 2).trans rfl
        have hfz13_0 := blk_frozen BK101.out 0
        have hfz13_1 := blk_frozen BK101.out 1
        have hfz13_2 := blk_frozen BK101.out 2
        go_wp2
        repeat (go_quiet (fail); try go_wp2)
        refine bodyPost_ret (results_ct rfl _ _ gb101 48 #[.string (⟨#[]⟩ : ByteArray), .string (⟨#[]⟩ : ByteArray), .slice none 0 0] (0, 0) _ rfl (by (with_reducible repeat (first | refine blk_drewN ?_ _ | refine blk_drew ?_ | refine blk_alloc ?_ _)); refine blk_put (cs := #[.string (⟨#[]⟩ : ByteArray), .string (⟨#[]⟩ : ByteArray), .slice none 0 0]) ?_ 2 _ rfl; (with_reducible repeat (first | refine blk_drewN ?_ _ | refine blk_drew ?_ | refine blk_alloc ?_ _)); refine blk_put (cs := #[.string (⟨#[]⟩ : ByteArray), .string (⟨#[]⟩ : ByteArray), .slice none 0 0]) ?_ 1 _ rfl; (with_reducible repeat (first | refine blk_drewN ?_ _ | refine blk_drew ?_ | refine blk_alloc ?_ _)); refine blk_put (cs := #[.string (⟨#[]⟩ : ByteArray), .string (⟨#[]⟩ : ByteArray), .slice none 0 0]) ?_ 0 _ rfl; (with_reducible repeat (first | refine blk_drewN ?_ _ | refine blk_drew ?_ | refine blk_alloc ?_ _)); exact BK101.out) Tryz.underlying48 rfl (by kernel_rfl)) rfl ?_
        exact ⟨_, by first | rfl | (simp [errW_none, errW_some] <;> rfl) | (simp [*, errW_none, errW_some] <;> rfl), by first | exact Kd.R_nil _ _ _ _ _ | exact Kd.N_nil _ _ _ _ _ | exact Kd.V_nil _ _ _ _ _ | exact Kd.Q_nil _ _ _ _ _ | exact Kd.S_nil _ _ _ _ _, by repeat (first | (with_reducible first | exact HB.out | apply below_alloc | apply pw_below_drewN | apply below_drew1 | refine below_set ?_ GE101.out) | exact HB.out)⟩
      · replace c12 := Bool.eq_false_iff.mpr c12
        subst c12
        have H1 : ((ostiaryref1_Lower.f t103).bind fun t112 => ((ostiaryref1_Lower.f t109).bind fun t113 => (ostiaryref6_Parse.l0 kj5 t107 t108 t112 t113 ([] : List (S89))))) = some (r1, r2, r3, r4) := by rw [if_neg (show ¬ (false = true) by decide)] at H; exact H
        clear H
        have H := H1
        clear H1
        replace H := Option.bind_eq_some_iff.mp H
        obtain ⟨t112, A140, H⟩ := H
        replace H : ((ostiaryref1_Lower.f t109).bind fun t113 => (ostiaryref6_Parse.l0 kj5 t107 t108 t112 t113 ([] : List (S89)))) = some (r1, r2, r3, r4) := H
        have A14 := Aside0.mk A140
        clear A140
        replace H := Option.bind_eq_some_iff.mp H
        obtain ⟨t113, A150, H⟩ := H
        replace H : (ostiaryref6_Parse.l0 kj5 t107 t108 t112 t113 ([] : List (S89))) = some (r1, r2, r3, r4) := H
        have A15 := Aside0.mk A150
        clear A150
        have H' := Aside0.mk H
        clear H
        go_wp2_with (first | (go_at_call 75; (with_reducible refine (ostiaryref1_Lower.calls t103 t112 _ A14.out).mono ?_); rintro e w16 ⟨rfl, hb⟩; have n0_ := Aside0.mk (blk_below (g := gb101) (o := .cells #[.string (⟨#[]⟩ : ByteArray), .string (⟨#[]⟩ : ByteArray), .slice none 0 0] 48 (0, 0)) (by (with_reducible repeat (first | refine blk_drewN ?_ _ | refine blk_drew ?_ | refine blk_alloc ?_ _)); exact BK101.out) hb); have n1_ := Aside0.mk (below_step (by repeat (first | (with_reducible first | exact HB.out | apply below_alloc | apply pw_below_drewN | apply below_drew1 | refine below_set ?_ GE101.out) | exact HB.out)) hb); clear BK101; clear HB; have BK101 := n0_; have HB := n1_; clear n0_ n1_; (try clear hb); (try clear hb2); (try clear hk); (try clear hi)) | (go_at_call 75; (with_reducible refine (ostiaryref1_Lower.calls t109 t113 _ A15.out).mono ?_); rintro e w17 ⟨rfl, hb⟩; have n0_ := Aside0.mk (blk_below (g := gb101) (o := .cells #[.string (⟨#[]⟩ : ByteArray), .string (⟨#[]⟩ : ByteArray), .slice none 0 0] 48 (0, 0)) (by (with_reducible repeat (first | refine blk_drewN ?_ _ | refine blk_drew ?_ | refine blk_alloc ?_ _)); exact BK101.out) hb); have n1_ := Aside0.mk (below_step (by repeat (first | (with_reducible first | exact HB.out | apply below_alloc | apply pw_below_drewN | apply below_drew1 | refine below_set ?_ GE101.out) | exact HB.out)) hb); clear BK101; clear HB; have BK101 := n0_; have HB := n1_; clear n0_ n1_; (try clear hb); (try clear hb2); (try clear hk); (try clear hi)) | ((with_reducible refine gate_dst (N := 10) rfl ?_); refine box_event ?hg (N := 10) ?hd (cs := #[.string (⟨#[]⟩ : ByteArray), .string (⟨#[]⟩ : ByteArray), .slice none 0 0]) (t := 48) ?hr ?_; (case hd => rfl); (case hg => rfl); (case hr => first | (go_simp; done) | (go_simp; rfl)); intro gb114 hg w18 hbox hb; have n0_ := Aside0.mk (blk_below (g := gb101) (o := .cells #[.string (⟨#[]⟩ : ByteArray), .string (⟨#[]⟩ : ByteArray), .slice none 0 0] 48 (0, 0)) (by (with_reducible repeat (first | refine blk_drewN ?_ _ | refine blk_drew ?_ | refine blk_alloc ?_ _)); exact BK101.out) hb); have n1_ := Aside0.mk (below_step (by repeat (first | (with_reducible first | exact HB.out | apply below_alloc | apply pw_below_drewN | apply below_drew1 | refine below_set ?_ GE101.out) | exact HB.out)) hb); have n2_ := Aside0.mk (hbox); have n3_ := Aside0.mk ((by rw [hg]; exact (below_size (by repeat (first | (with_reducible first | exact HB.out | apply below_alloc | apply pw_below_drewN | apply below_drew1 | refine below_set ?_ GE101.out) | exact HB.out))) : w.heap.size ≤ gb114)); have n4_ := Aside0.mk ((by rw [hg]; exact (below_size (by repeat (first | (with_reducible first | exact HB.out | apply below_alloc | apply pw_below_drewN | apply below_drew1 | refine below_set ?_ GE101.out) | exact HB.out))) : w.heap.size ≤ gb114)); have n5_ := Aside0.mk ((by rw [hg]; exact Nat.ne_of_lt (blk_lt (g := gb101) (o := .cells #[.string (⟨#[]⟩ : ByteArray), .string (⟨#[]⟩ : ByteArray), .slice none 0 0] 48 (0, 0)) (by (with_reducible repeat (first | refine blk_drewN ?_ _ | refine blk_drew ?_ | refine blk_alloc ?_ _)); exact BK101.out)) : gb101 ≠ gb114)); have n6_ := Aside0.mk ((by rw [hg]; exact Nat.ne_of_gt (blk_lt (g := gb101) (o := .cells #[.string (⟨#[]⟩ : ByteArray), .string (⟨#[]⟩ : ByteArray), .slice none 0 0] 48 (0, 0)) (by (with_reducible repeat (first | refine blk_drewN ?_ _ | refine blk_drew ?_ | refine blk_alloc ?_ _)); exact BK101.out)) : gb114 ≠ gb101)); clear BK101; clear HB; have BK101 := n0_; have HB := n1_; have BK114 := n2_; have GW114 := n3_; have GE114 := n4_; have NB101_114 := n5_; have NB114_101 := n6_; clear n0_ n1_ n2_ n3_ n4_ n5_ n6_; clear hb hbox hg; have hnb19 := NB114_101.out; have hnc19 := NB101_114.out; have hcz20_0 : w18.cell? ⟨gb114, 0, none⟩ = some (.string (⟨#[]⟩ : ByteArray)) := (blk_cell BK114.out 0).trans rfl; have hcz20_1 : w18.cell? ⟨gb114, 1, none⟩ = some (.string (⟨#[]⟩ : ByteArray)) := (blk_cell BK114.out 1).trans rfl; have hcz20_2 : w18.cell? ⟨gb114, 2, none⟩ = some (.slice none 0 0) := (blk_cell BK114.out 2).trans rfl; have hfz20_0 := blk_frozen BK114.out 0; have hfz20_1 := blk_frozen BK114.out 1; have hfz20_2 := blk_frozen BK114.out 2))
        repeat (go_quiet (first | (go_at_call 75; (with_reducible refine (ostiaryref1_Lower.calls t103 t112 _ A14.out).mono ?_); rintro e w16 ⟨rfl, hb⟩; have n0_ := Aside0.mk (blk_below (g := gb101) (o := .cells #[.string (⟨#[]⟩ : ByteArray), .string (⟨#[]⟩ : ByteArray), .slice none 0 0] 48 (0, 0)) (by (with_reducible repeat (first | refine blk_drewN ?_ _ | refine blk_drew ?_ | refine blk_alloc ?_ _)); exact BK101.out) hb); have n1_ := Aside0.mk (below_step (by repeat (first | (with_reducible first | exact HB.out | apply below_alloc | apply pw_below_drewN | apply below_drew1 | refine below_set ?_ GE101.out) | exact HB.out)) hb); clear BK101; clear HB; have BK101 := n0_; have HB := n1_; clear n0_ n1_; (try clear hb); (try clear hb2); (try clear hk); (try clear hi)) | (go_at_call 75; (with_reducible refine (ostiaryref1_Lower.calls t109 t113 _ A15.out).mono ?_); rintro e w17 ⟨rfl, hb⟩; have n0_ := Aside0.mk (blk_below (g := gb101) (o := .cells #[.string (⟨#[]⟩ : ByteArray), .string (⟨#[]⟩ : ByteArray), .slice none 0 0] 48 (0, 0)) (by (with_reducible repeat (first | refine blk_drewN ?_ _ | refine blk_drew ?_ | refine blk_alloc ?_ _)); exact BK101.out) hb); have n1_ := Aside0.mk (below_step (by repeat (first | (with_reducible first | exact HB.out | apply below_alloc | apply pw_below_drewN | apply below_drew1 | refine below_set ?_ GE101.out) | exact HB.out)) hb); clear BK101; clear HB; have BK101 := n0_; have HB := n1_; clear n0_ n1_; (try clear hb); (try clear hb2); (try clear hk); (try clear hi)) | ((with_reducible refine gate_dst (N := 10) rfl ?_); refine box_event ?hg (N := 10) ?hd (cs := #[.string (⟨#[]⟩ : ByteArray), .string (⟨#[]⟩ : ByteArray), .slice none 0 0]) (t := 48) ?hr ?_; (case hd => rfl); (case hg => rfl); (case hr => first | (go_simp; done) | (go_simp; rfl)); intro gb114 hg w18 hbox hb; have n0_ := Aside0.mk (blk_below (g := gb101) (o := .cells #[.string (⟨#[]⟩ : ByteArray), .string (⟨#[]⟩ : ByteArray), .slice none 0 0] 48 (0, 0)) (by (with_reducible repeat (first | refine blk_drewN ?_ _ | refine blk_drew ?_ | refine blk_alloc ?_ _)); exact BK101.out) hb); have n1_ := Aside0.mk (below_step (by repeat (first | (with_reducible first | exact HB.out | apply below_alloc | apply pw_below_drewN | apply below_drew1 | refine below_set ?_ GE101.out) | exact HB.out)) hb); have n2_ := Aside0.mk (hbox); have n3_ := Aside0.mk ((by rw [hg]; exact (below_size (by repeat (first | (with_reducible first | exact HB.out | apply below_alloc | apply pw_below_drewN | apply below_drew1 | refine below_set ?_ GE101.out) | exact HB.out))) : w.heap.size ≤ gb114)); have n4_ := Aside0.mk ((by rw [hg]; exact (below_size (by repeat (first | (with_reducible first | exact HB.out | apply below_alloc | apply pw_below_drewN | apply below_drew1 | refine below_set ?_ GE101.out) | exact HB.out))) : w.heap.size ≤ gb114)); have n5_ := Aside0.mk ((by rw [hg]; exact Nat.ne_of_lt (blk_lt (g := gb101) (o := .cells #[.string (⟨#[]⟩ : ByteArray), .string (⟨#[]⟩ : ByteArray), .slice none 0 0] 48 (0, 0)) (by (with_reducible repeat (first | refine blk_drewN ?_ _ | refine blk_drew ?_ | refine blk_alloc ?_ _)); exact BK101.out)) : gb101 ≠ gb114)); have n6_ := Aside0.mk ((by rw [hg]; exact Nat.ne_of_gt (blk_lt (g := gb101) (o := .cells #[.string (⟨#[]⟩ : ByteArray), .string (⟨#[]⟩ : ByteArray), .slice none 0 0] 48 (0, 0)) (by (with_reducible repeat (first | refine blk_drewN ?_ _ | refine blk_drew ?_ | refine blk_alloc ?_ _)); exact BK101.out)) : gb114 ≠ gb101)); clear BK101; clear HB; have BK101 := n0_; have HB := n1_; have BK114 := n2_; have GW114 := n3_; have GE114 := n4_; have NB101_114 := n5_; have NB114_101 := n6_; clear n0_ n1_ n2_ n3_ n4_ n5_ n6_; clear hb hbox hg; have hnb19 := NB114_101.out; have hnc19 := NB101_114.out; have hcz20_0 : w18.cell? ⟨gb114, 0, none⟩ = some (.string (⟨#[]⟩ : ByteArray)) := (blk_cell BK114.out 0).trans rfl; have hcz20_1 : w18.cell? ⟨gb114, 1, none⟩ = some (.string (⟨#[]⟩ : ByteArray)) := (blk_cell BK114.out 1).trans rfl; have hcz20_2 : w18.cell? ⟨gb114, 2, none⟩ = some (.slice none 0 0) := (blk_cell BK114.out 2).trans rfl; have hfz20_0 := blk_frozen BK114.out 0; have hfz20_1 := blk_frozen BK114.out 1; have hfz20_2 := blk_frozen BK114.out 2)); try go_wp2_with (first | (go_at_call 75; (with_reducible refine (ostiaryref1_Lower.calls t103 t112 _ A14.out).mono ?_); rintro e w16 ⟨rfl, hb⟩; have n0_ := Aside0.mk (blk_below (g := gb101) (o := .cells #[.string (⟨#[]⟩ : ByteArray), .string (⟨#[]⟩ : ByteArray), .slice none 0 0] 48 (0, 0)) (by (with_reducible repeat (first | refine blk_drewN ?_ _ | refine blk_drew ?_ | refine blk_alloc ?_ _)); exact BK101.out) hb); have n1_ := Aside0.mk (below_step (by repeat (first | (with_reducible first | exact HB.out | apply below_alloc | apply pw_below_drewN | apply below_drew1 | refine below_set ?_ GE101.out) | exact HB.out)) hb); clear BK101; clear HB; have BK101 := n0_; have HB := n1_; clear n0_ n1_; (try clear hb); (try clear hb2); (try clear hk); (try clear hi)) | (go_at_call 75; (with_reducible refine (ostiaryref1_Lower.calls t109 t113 _ A15.out).mono ?_); rintro e w17 ⟨rfl, hb⟩; have n0_ := Aside0.mk (blk_below (g := gb101) (o := .cells #[.string (⟨#[]⟩ : ByteArray), .string (⟨#[]⟩ : ByteArray), .slice none 0 0] 48 (0, 0)) (by (with_reducible repeat (first | refine blk_drewN ?_ _ | refine blk_drew ?_ | refine blk_alloc ?_ _)); exact BK101.out) hb); have n1_ := Aside0.mk (below_step (by repeat (first | (with_reducible first | exact HB.out | apply below_alloc | apply pw_below_drewN | apply below_drew1 | refine below_set ?_ GE101.out) | exact HB.out)) hb); clear BK101; clear HB; have BK101 := n0_; have HB := n1_; clear n0_ n1_; (try clear hb); (try clear hb2); (try clear hk); (try clear hi)) | ((with_reducible refine gate_dst (N := 10) rfl ?_); refine box_event ?hg (N := 10) ?hd (cs := #[.string (⟨#[]⟩ : ByteArray), .string (⟨#[]⟩ : ByteArray), .slice none 0 0]) (t := 48) ?hr ?_; (case hd => rfl); (case hg => rfl); (case hr => first | (go_simp; done) | (go_simp; rfl)); intro gb114 hg w18 hbox hb; have n0_ := Aside0.mk (blk_below (g := gb101) (o := .cells #[.string (⟨#[]⟩ : ByteArray), .string (⟨#[]⟩ : ByteArray), .slice none 0 0] 48 (0, 0)) (by (with_reducible repeat (first | refine blk_drewN ?_ _ | refine blk_drew ?_ | refine blk_alloc ?_ _)); exact BK101.out) hb); have n1_ := Aside0.mk (below_step (by repeat (first | (with_reducible first | exact HB.out | apply below_alloc | apply pw_below_drewN | apply below_drew1 | refine below_set ?_ GE101.out) | exact HB.out)) hb); have n2_ := Aside0.mk (hbox); have n3_ := Aside0.mk ((by rw [hg]; exact (below_size (by repeat (first | (with_reducible first | exact HB.out | apply below_alloc | apply pw_below_drewN | apply below_drew1 | refine below_set ?_ GE101.out) | exact HB.out))) : w.heap.size ≤ gb114)); have n4_ := Aside0.mk ((by rw [hg]; exact (below_size (by repeat (first | (with_reducible first | exact HB.out | apply below_alloc | apply pw_below_drewN | apply below_drew1 | refine below_set ?_ GE101.out) | exact HB.out))) : w.heap.size ≤ gb114)); have n5_ := Aside0.mk ((by rw [hg]; exact Nat.ne_of_lt (blk_lt (g := gb101) (o := .cells #[.string (⟨#[]⟩ : ByteArray), .string (⟨#[]⟩ : ByteArray), .slice none 0 0] 48 (0, 0)) (by (with_reducible repeat (first | refine blk_drewN ?_ _ | refine blk_drew ?_ | refine blk_alloc ?_ _)); exact BK101.out)) : gb101 ≠ gb114)); have n6_ := Aside0.mk ((by rw [hg]; exact Nat.ne_of_gt (blk_lt (g := gb101) (o := .cells #[.string (⟨#[]⟩ : ByteArray), .string (⟨#[]⟩ : ByteArray), .slice none 0 0] 48 (0, 0)) (by (with_reducible repeat (first | refine blk_drewN ?_ _ | refine blk_drew ?_ | refine blk_alloc ?_ _)); exact BK101.out)) : gb114 ≠ gb101)); clear BK101; clear HB; have BK101 := n0_; have HB := n1_; have BK114 := n2_; have GW114 := n3_; have GE114 := n4_; have NB101_114 := n5_; have NB114_101 := n6_; clear n0_ n1_ n2_ n3_ n4_ n5_ n6_; clear hb hbox hg; have hnb19 := NB114_101.out; have hnc19 := NB101_114.out; have hcz20_0 : w18.cell? ⟨gb114, 0, none⟩ = some (.string (⟨#[]⟩ : ByteArray)) := (blk_cell BK114.out 0).trans rfl; have hcz20_1 : w18.cell? ⟨gb114, 1, none⟩ = some (.string (⟨#[]⟩ : ByteArray)) := (blk_cell BK114.out 1).trans rfl; have hcz20_2 : w18.cell? ⟨gb114, 2, none⟩ = some (.slice none 0 0) := (blk_cell BK114.out 2).trans rfl; have hfz20_0 := blk_frozen BK114.out 0; have hfz20_1 := blk_frozen BK114.out 1; have hfz20_2 := blk_frozen BK114.out 2)))
        go_loopg [8, 9] kj5 (fun kq v8 v9 w' => ∃ (x8_2 : ByteArray) (x9_2 : Bool) (x115002_2 : List (S89)) (u115002 : Value), v8 = .string x8_2 ∧ v9 = .bool x9_2 ∧ Aside0 (ostiaryref6_Parse.l0 kq x8_2 x9_2 t112 t113 x115002_2 = some (r1, r2, r3, r4)) ∧ Aside0 (kq ≤ kj5) ∧ Aside0 (Kd.R k89 89 w' w.heap.size (fun _ => True) u115002 x115002_2) ∧ Aside0 (w'.heap[gb101]? = some (.cells #[.string (⟨#[]⟩ : ByteArray), .string (⟨#[]⟩ : ByteArray), (.slice none 0 0)] 48 (0, 0))) ∧ Aside0 (w'.heap[gb114]? = some (.cells #[.string t112, .string t113, u115002] 48 (0, 0))) ∧ Aside0 (Below w.heap.size w w'))
        case atStart => exact ⟨(t107), (t108), (([] : List (S89))), (.slice none 0 0), (by first | rfl | (simp; done) | (simp [*]; done)), (by first | rfl | (simp; done) | (simp [*]; done)), H', ⟨Nat.le_refl _⟩, ⟨by first | exact Kd.R_nil _ _ _ _ _ | exact Kd.N_nil _ _ _ _ _ | exact Kd.V_nil _ _ _ _ _ | exact Kd.Q_nil _ _ _ _ _ | exact Kd.S_nil _ _ _ _ _⟩, ⟨by (with_reducible repeat (first | refine blk_drewN ?_ _ | refine blk_drew ?_ | refine blk_alloc ?_ _)); refine blk_far ?_ NB101_114.out _; (with_reducible repeat (first | refine blk_drewN ?_ _ | refine blk_drew ?_ | refine blk_alloc ?_ _)); refine blk_far ?_ NB101_114.out _; (with_reducible repeat (first | refine blk_drewN ?_ _ | refine blk_drew ?_ | refine blk_alloc ?_ _)); refine blk_far ?_ NB101_114.out _; (with_reducible repeat (first | refine blk_drewN ?_ _ | refine blk_drew ?_ | refine blk_alloc ?_ _)); exact BK101.out⟩, ⟨by (with_reducible repeat (first | refine blk_drewN ?_ _ | refine blk_drew ?_ | refine blk_alloc ?_ _)); refine blk_put (cs := #[.string t112, .string t113, .slice none 0 0]) ?_ 2 _ rfl; (with_reducible repeat (first | refine blk_drewN ?_ _ | refine blk_drew ?_ | refine blk_alloc ?_ _)); refine blk_put (cs := #[.string t112, .string (⟨#[]⟩ : ByteArray), .slice none 0 0]) ?_ 1 _ rfl; (with_reducible repeat (first | refine blk_drewN ?_ _ | refine blk_drew ?_ | refine blk_alloc ?_ _)); refine blk_put (cs := #[.string (⟨#[]⟩ : ByteArray), .string (⟨#[]⟩ : ByteArray), .slice none 0 0]) ?_ 0 _ rfl; (with_reducible repeat (first | refine blk_drewN ?_ _ | refine blk_drew ?_ | refine blk_alloc ?_ _)); exact BK114.out⟩, ⟨by repeat (first | (with_reducible first | exact HB.out | apply below_alloc | apply pw_below_drewN | apply below_drew1 | refine below_set ?_ GE101.out | refine below_set ?_ GE114.out) | exact HB.out)⟩⟩
        case round =>
          clear H'
          try clear c1
          try clear c2
          try clear p2
          try clear c8
          try clear c10
          try clear c12
          try clear c19
          try clear hcz13_0
          try clear hcz13_1
          try clear hcz13_2
          try clear hcz20_0
          try clear hcz20_1
          try clear hcz20_2
          try clear hfz13_0
          try clear hfz13_1
          try clear hfz13_2
          try clear hfz20_0
          try clear hfz20_1
          try clear hfz20_2
          try clear p2
          obtain ⟨x8_2, x9_2, x115002_2, u115002, rfl, rfl, HA, HK2, HO_115002, BK101, BK114, HB⟩ := hrel
          cases gk with
          | zero => exact absurd HA.out (by simp [ostiaryref6_Parse.l0])
          | succ k2 =>
            have H := HA.out
            clear HA
            simp only [ostiaryref6_Parse.l0] at H
            by_cases c21 : x9_2 = true
            · subst c21
              have H1 : ((ostiaryref6_param.f x8_2).bind fun bt116 => (ostiaryref6_Parse.l1 k2 bt116.2.2.1 bt116.2.2.2 false 0 t112 t113 x115002_2 bt116.1 bt116.2.1)) = some (r1, r2, r3, r4) := by rw [if_pos rfl] at H; exact H
              clear H
              have H := H1
              clear H1
              replace H := Option.bind_eq_some_iff.mp H
              obtain ⟨⟨t116, t117, t118, t119⟩, A220, H⟩ := H
              replace H : (ostiaryref6_Parse.l1 k2 t118 t119 false 0 t112 t113 x115002_2 t116 t117) = some (r1, r2, r3, r4) := H
              have A22 := Aside0.mk A220
              clear A220
              have H' := Aside0.mk H
              clear H
              go_wp2_with (first | ((with_reducible refine gate_dst (N := 11) rfl ?_); refine box_event ?hg (N := 11) ?hd (cs := #[.string (⟨#[]⟩ : ByteArray), .string (⟨#[]⟩ : ByteArray)]) (t := 89) ?hr ?_; (case hd => rfl); (case hg => rfl); (case hr => first | (go_simp; done) | (go_simp; rfl)); intro gb115 hg w23 hbox hb; have n0_ := Aside0.mk (Kd.R_below (Kd.R_elderB (by (with_reducible repeat (first | apply Kd.R_alloc | apply Kd.R_drewN | apply Kd.R_drew)); exact HO_115002.out) gb115 (Nat.le_of_eq hg.symm)) hb); have n1_ := Aside0.mk (blk_below (g := gb101) (o := .cells #[.string (⟨#[]⟩ : ByteArray), .string (⟨#[]⟩ : ByteArray), .slice none 0 0] 48 (0, 0)) (by (with_reducible repeat (first | refine blk_drewN ?_ _ | refine blk_drew ?_ | refine blk_alloc ?_ _)); exact BK101.out) hb); have n2_ := Aside0.mk (blk_below (g := gb114) (o := .cells #[.string t112, .string t113, u115002] 48 (0, 0)) (by (with_reducible repeat (first | refine blk_drewN ?_ _ | refine blk_drew ?_ | refine blk_alloc ?_ _)); exact BK114.out) hb); have n3_ := Aside0.mk (below_step (by repeat (first | (with_reducible first | exact HB.out | apply below_alloc | apply pw_below_drewN | apply below_drew1 | refine below_set ?_ GE101.out | refine below_set ?_ GE114.out) | exact HB.out)) hb); have n4_ := Aside0.mk (hbox); have n5_ := Aside0.mk ((by rw [hg]; exact (below_size (by repeat (first | (with_reducible first | exact HB.out | apply below_alloc | apply pw_below_drewN | apply below_drew1 | refine below_set ?_ GE101.out | refine below_set ?_ GE114.out) | exact HB.out))) : w.heap.size ≤ gb115)); have n6_ := Aside0.mk ((by rw [hg]; exact (below_size (by repeat (first | (with_reducible first | exact HB.out | apply below_alloc | apply pw_below_drewN | apply below_drew1 | refine below_set ?_ GE101.out | refine below_set ?_ GE114.out) | exact HB.out))) : w.heap.size ≤ gb115)); have n7_ := Aside0.mk ((by rw [hg]; exact Nat.ne_of_lt (blk_lt (g := gb101) (o := .cells #[.string (⟨#[]⟩ : ByteArray), .string (⟨#[]⟩ : ByteArray), .slice none 0 0] 48 (0, 0)) (by (with_reducible repeat (first | refine blk_drewN ?_ _ | refine blk_drew ?_ | refine blk_alloc ?_ _)); exact BK101.out)) : gb101 ≠ gb115)); have n8_ := Aside0.mk ((by rw [hg]; exact Nat.ne_of_gt (blk_lt (g := gb101) (o := .cells #[.string (⟨#[]⟩ : ByteArray), .string (⟨#[]⟩ : ByteArray), .slice none 0 0] 48 (0, 0)) (by (with_reducible repeat (first | refine blk_drewN ?_ _ | refine blk_drew ?_ | refine blk_alloc ?_ _)); exact BK101.out)) : gb115 ≠ gb101)); have n9_ := Aside0.mk ((by rw [hg]; exact Nat.ne_of_lt (blk_lt (g := gb114) (o := .cells #[.string t112, .string t113, u115002] 48 (0, 0)) (by (with_reducible repeat (first | refine blk_drewN ?_ _ | refine blk_drew ?_ | refine blk_alloc ?_ _)); exact BK114.out)) : gb114 ≠ gb115)); have n10_ := Aside0.mk ((by rw [hg]; exact Nat.ne_of_gt (blk_lt (g := gb114) (o := .cells #[.string t112, .string t113, u115002] 48 (0, 0)) (by (with_reducible repeat (first | refine blk_drewN ?_ _ | refine blk_drew ?_ | refine blk_alloc ?_ _)); exact BK114.out)) : gb115 ≠ gb114)); clear HO_115002; clear BK101; clear BK114; clear HB; have HO_115002 := n0_; have BK101 := n1_; have BK114 := n2_; have HB := n3_; have BK115 := n4_; have GW115 := n5_; have GE115 := n6_; have NB101_115 := n7_; have NB115_101 := n8_; have NB114_115 := n9_; have NB115_114 := n10_; clear n0_ n1_ n2_ n3_ n4_ n5_ n6_ n7_ n8_ n9_ n10_; clear hb hbox hg) | (go_at_call 76; (with_reducible refine (ostiaryref6_param.calls x8_2 t116 t117 t118 t119 _ A22.out).mono ?_); rintro e w24 ⟨rfl, hb⟩; have n0_ := Aside0.mk (Kd.R_below (by (with_reducible repeat (first | apply Kd.R_alloc | apply Kd.R_drewN | apply Kd.R_drew)); exact HO_115002.out) hb); have n1_ := Aside0.mk (blk_below (g := gb101) (o := .cells #[.string (⟨#[]⟩ : ByteArray), .string (⟨#[]⟩ : ByteArray), .slice none 0 0] 48 (0, 0)) (by (with_reducible repeat (first | refine blk_drewN ?_ _ | refine blk_drew ?_ | refine blk_alloc ?_ _)); exact BK101.out) hb); have n2_ := Aside0.mk (blk_below (g := gb114) (o := .cells #[.string t112, .string t113, u115002] 48 (0, 0)) (by (with_reducible repeat (first | refine blk_drewN ?_ _ | refine blk_drew ?_ | refine blk_alloc ?_ _)); exact BK114.out) hb); have n3_ := Aside0.mk (blk_below (g := gb115) (o := .cells #[.string (⟨#[]⟩ : ByteArray), .string (⟨#[]⟩ : ByteArray)] 89 (0, 0)) (by (with_reducible repeat (first | refine blk_drewN ?_ _ | refine blk_drew ?_ | refine blk_alloc ?_ _)); exact BK115.out) hb); have n4_ := Aside0.mk (below_step (by repeat (first | (with_reducible first | exact HB.out | apply below_alloc | apply pw_below_drewN | apply below_drew1 | refine below_set ?_ GE101.out | refine below_set ?_ GE114.out | refine below_set ?_ GE115.out) | exact HB.out)) hb); clear HO_115002; clear BK101; clear BK114; clear BK115; clear HB; have HO_115002 := n0_; have BK101 := n1_; have BK114 := n2_; have BK115 := n3_; have HB := n4_; clear n0_ n1_ n2_ n3_ n4_; (try clear hb); (try clear hb2); (try clear hk); (try clear hi); have hnb25 := NB115_101.out; have hnc25 := NB101_115.out; have hnb26 := NB115_114.out; have hnc26 := NB114_115.out; have hcz27_0 : w24.cell? ⟨gb115, 0, none⟩ = some (.string (⟨#[]⟩ : ByteArray)) := (blk_cell BK115.out 0).trans rfl; have hcz27_1 : w24.cell? ⟨gb115, 1, none⟩ = some (.string (⟨#[]⟩ : ByteArray)) := (blk_cell BK115.out 1).trans rfl; have hfz27_0 := blk_frozen BK115.out 0; have hfz27_1 := blk_frozen BK115.out 1))
              repeat (go_quiet (first | ((with_reducible refine gate_dst (N := 11) rfl ?_); refine box_event ?hg (N := 11) ?hd (cs := #[.string (⟨#[]⟩ : ByteArray), .string (⟨#[]⟩ : ByteArray)]) (t := 89) ?hr ?_; (case hd => rfl); (case hg => rfl); (case hr => first | (go_simp; done) | (go_simp; rfl)); intro gb115 hg w23 hbox hb; have n0_ := Aside0.mk (Kd.R_below (Kd.R_elderB (by (with_reducible repeat (first | apply Kd.R_alloc | apply Kd.R_drewN | apply Kd.R_drew)); exact HO_115002.out) gb115 (Nat.le_of_eq hg.symm)) hb); have n1_ := Aside0.mk (blk_below (g := gb101) (o := .cells #[.string (⟨#[]⟩ : ByteArray), .string (⟨#[]⟩ : ByteArray), .slice none 0 0] 48 (0, 0)) (by (with_reducible repeat (first | refine blk_drewN ?_ _ | refine blk_drew ?_ | refine blk_alloc ?_ _)); exact BK101.out) hb); have n2_ := Aside0.mk (blk_below (g := gb114) (o := .cells #[.string t112, .string t113, u115002] 48 (0, 0)) (by (with_reducible repeat (first | refine blk_drewN ?_ _ | refine blk_drew ?_ | refine blk_alloc ?_ _)); exact BK114.out) hb); have n3_ := Aside0.mk (below_step (by repeat (first | (with_reducible first | exact HB.out | apply below_alloc | apply pw_below_drewN | apply below_drew1 | refine below_set ?_ GE101.out | refine below_set ?_ GE114.out) | exact HB.out)) hb); have n4_ := Aside0.mk (hbox); have n5_ := Aside0.mk ((by rw [hg]; exact (below_size (by repeat (first | (with_reducible first | exact HB.out | apply below_alloc | apply pw_below_drewN | apply below_drew1 | refine below_set ?_ GE101.out | refine below_set ?_ GE114.out) | exact HB.out))) : w.heap.size ≤ gb115)); have n6_ := Aside0.mk ((by rw [hg]; exact (below_size (by repeat (first | (with_reducible first | exact HB.out | apply below_alloc | apply pw_below_drewN | apply below_drew1 | refine below_set ?_ GE101.out | refine below_set ?_ GE114.out) | exact HB.out))) : w.heap.size ≤ gb115)); have n7_ := Aside0.mk ((by rw [hg]; exact Nat.ne_of_lt (blk_lt (g := gb101) (o := .cells #[.string (⟨#[]⟩ : ByteArray), .string (⟨#[]⟩ : ByteArray), .slice none 0 0] 48 (0, 0)) (by (with_reducible repeat (first | refine blk_drewN ?_ _ | refine blk_drew ?_ | refine blk_alloc ?_ _)); exact BK101.out)) : gb101 ≠ gb115)); have n8_ := Aside0.mk ((by rw [hg]; exact Nat.ne_of_gt (blk_lt (g := gb101) (o := .cells #[.string (⟨#[]⟩ : ByteArray), .string (⟨#[]⟩ : ByteArray), .slice none 0 0] 48 (0, 0)) (by (with_reducible repeat (first | refine blk_drewN ?_ _ | refine blk_drew ?_ | refine blk_alloc ?_ _)); exact BK101.out)) : gb115 ≠ gb101)); have n9_ := Aside0.mk ((by rw [hg]; exact Nat.ne_of_lt (blk_lt (g := gb114) (o := .cells #[.string t112, .string t113, u115002] 48 (0, 0)) (by (with_reducible repeat (first | refine blk_drewN ?_ _ | refine blk_drew ?_ | refine blk_alloc ?_ _)); exact BK114.out)) : gb114 ≠ gb115)); have n10_ := Aside0.mk ((by rw [hg]; exact Nat.ne_of_gt (blk_lt (g := gb114) (o := .cells #[.string t112, .string t113, u115002] 48 (0, 0)) (by (with_reducible repeat (first | refine blk_drewN ?_ _ | refine blk_drew ?_ | refine blk_alloc ?_ _)); exact BK114.out)) : gb115 ≠ gb114)); clear HO_115002; clear BK101; clear BK114; clear HB; have HO_115002 := n0_; have BK101 := n1_; have BK114 := n2_; have HB := n3_; have BK115 := n4_; have GW115 := n5_; have GE115 := n6_; have NB101_115 := n7_; have NB115_101 := n8_; have NB114_115 := n9_; have NB115_114 := n10_; clear n0_ n1_ n2_ n3_ n4_ n5_ n6_ n7_ n8_ n9_ n10_; clear hb hbox hg) | (go_at_call 76; (with_reducible refine (ostiaryref6_param.calls x8_2 t116 t117 t118 t119 _ A22.out).mono ?_); rintro e w24 ⟨rfl, hb⟩; have n0_ := Aside0.mk (Kd.R_below (by (with_reducible repeat (first | apply Kd.R_alloc | apply Kd.R_drewN | apply Kd.R_drew)); exact HO_115002.out) hb); have n1_ := Aside0.mk (blk_below (g := gb101) (o := .cells #[.string (⟨#[]⟩ : ByteArray), .string (⟨#[]⟩ : ByteArray), .slice none 0 0] 48 (0, 0)) (by (with_reducible repeat (first | refine blk_drewN ?_ _ | refine blk_drew ?_ | refine blk_alloc ?_ _)); exact BK101.out) hb); have n2_ := Aside0.mk (blk_below (g := gb114) (o := .cells #[.string t112, .string t113, u115002] 48 (0, 0)) (by (with_reducible repeat (first | refine blk_drewN ?_ _ | refine blk_drew ?_ | refine blk_alloc ?_ _)); exact BK114.out) hb); have n3_ := Aside0.mk (blk_below (g := gb115) (o := .cells #[.string (⟨#[]⟩ : ByteArray), .string (⟨#[]⟩ : ByteArray)] 89 (0, 0)) (by (with_reducible repeat (first | refine blk_drewN ?_ _ | refine blk_drew ?_ | refine blk_alloc ?_ _)); exact BK115.out) hb); have n4_ := Aside0.mk (below_step (by repeat (first | (with_reducible first | exact HB.out | apply below_alloc | apply pw_below_drewN | apply below_drew1 | refine below_set ?_ GE101.out | refine below_set ?_ GE114.out | refine below_set ?_ GE115.out) | exact HB.out)) hb); clear HO_115002; clear BK101; clear BK114; clear BK115; clear HB; have HO_115002 := n0_; have BK101 := n1_; have BK114 := n2_; have BK115 := n3_; have HB := n4_; clear n0_ n1_ n2_ n3_ n4_; (try clear hb); (try clear hb2); (try clear hk); (try clear hi); have hnb25 := NB115_101.out; have hnc25 := NB101_115.out; have hnb26 := NB115_114.out; have hnc26 := NB114_115.out; have hcz27_0 : w24.cell? ⟨gb115, 0, none⟩ = some (.string (⟨#[]⟩ : ByteArray)) := (blk_cell BK115.out 0).trans rfl; have hcz27_1 : w24.cell? ⟨gb115, 1, none⟩ = some (.string (⟨#[]⟩ : ByteArray)) := (blk_cell BK115.out 1).trans rfl; have hfz27_0 := blk_frozen BK115.out 0; have hfz27_1 := blk_frozen BK115.out 1)); try go_wp2_with (first | ((with_reducible refine gate_dst (N := 11) rfl ?_); refine box_event ?hg (N := 11) ?hd (cs := #[.string (⟨#[]⟩ : ByteArray), .string (⟨#[]⟩ : ByteArray)]) (t := 89) ?hr ?_; (case hd => rfl); (case hg => rfl); (case hr => first | (go_simp; done) | (go_simp; rfl)); intro gb115 hg w23 hbox hb; have n0_ := Aside0.mk (Kd.R_below (Kd.R_elderB (by (with_reducible repeat (first | apply Kd.R_alloc | apply Kd.R_drewN | apply Kd.R_drew)); exact HO_115002.out) gb115 (Nat.le_of_eq hg.symm)) hb); have n1_ := Aside0.mk (blk_below (g := gb101) (o := .cells #[.string (⟨#[]⟩ : ByteArray), .string (⟨#[]⟩ : ByteArray), .slice none 0 0] 48 (0, 0)) (by (with_reducible repeat (first | refine blk_drewN ?_ _ | refine blk_drew ?_ | refine blk_alloc ?_ _)); exact BK101.out) hb); have n2_ := Aside0.mk (blk_below (g := gb114) (o := .cells #[.string t112, .string t113, u115002] 48 (0, 0)) (by (with_reducible repeat (first | refine blk_drewN ?_ _ | refine blk_drew ?_ | refine blk_alloc ?_ _)); exact BK114.out) hb); have n3_ := Aside0.mk (below_step (by repeat (first | (with_reducible first | exact HB.out | apply below_alloc | apply pw_below_drewN | apply below_drew1 | refine below_set ?_ GE101.out | refine below_set ?_ GE114.out) | exact HB.out)) hb); have n4_ := Aside0.mk (hbox); have n5_ := Aside0.mk ((by rw [hg]; exact (below_size (by repeat (first | (with_reducible first | exact HB.out | apply below_alloc | apply pw_below_drewN | apply below_drew1 | refine below_set ?_ GE101.out | refine below_set ?_ GE114.out) | exact HB.out))) : w.heap.size ≤ gb115)); have n6_ := Aside0.mk ((by rw [hg]; exact (below_size (by repeat (first | (with_reducible first | exact HB.out | apply below_alloc | apply pw_below_drewN | apply below_drew1 | refine below_set ?_ GE101.out | refine below_set ?_ GE114.out) | exact HB.out))) : w.heap.size ≤ gb115)); have n7_ := Aside0.mk ((by rw [hg]; exact Nat.ne_of_lt (blk_lt (g := gb101) (o := .cells #[.string (⟨#[]⟩ : ByteArray), .string (⟨#[]⟩ : ByteArray), .slice none 0 0] 48 (0, 0)) (by (with_reducible repeat (first | refine blk_drewN ?_ _ | refine blk_drew ?_ | refine blk_alloc ?_ _)); exact BK101.out)) : gb101 ≠ gb115)); have n8_ := Aside0.mk ((by rw [hg]; exact Nat.ne_of_gt (blk_lt (g := gb101) (o := .cells #[.string (⟨#[]⟩ : ByteArray), .string (⟨#[]⟩ : ByteArray), .slice none 0 0] 48 (0, 0)) (by (with_reducible repeat (first | refine blk_drewN ?_ _ | refine blk_drew ?_ | refine blk_alloc ?_ _)); exact BK101.out)) : gb115 ≠ gb101)); have n9_ := Aside0.mk ((by rw [hg]; exact Nat.ne_of_lt (blk_lt (g := gb114) (o := .cells #[.string t112, .string t113, u115002] 48 (0, 0)) (by (with_reducible repeat (first | refine blk_drewN ?_ _ | refine blk_drew ?_ | refine blk_alloc ?_ _)); exact BK114.out)) : gb114 ≠ gb115)); have n10_ := Aside0.mk ((by rw [hg]; exact Nat.ne_of_gt (blk_lt (g := gb114) (o := .cells #[.string t112, .string t113, u115002] 48 (0, 0)) (by (with_reducible repeat (first | refine blk_drewN ?_ _ | refine blk_drew ?_ | refine blk_alloc ?_ _)); exact BK114.out)) : gb115 ≠ gb114)); clear HO_115002; clear BK101; clear BK114; clear HB; have HO_115002 := n0_; have BK101 := n1_; have BK114 := n2_; have HB := n3_; have BK115 := n4_; have GW115 := n5_; have GE115 := n6_; have NB101_115 := n7_; have NB115_101 := n8_; have NB114_115 := n9_; have NB115_114 := n10_; clear n0_ n1_ n2_ n3_ n4_ n5_ n6_ n7_ n8_ n9_ n10_; clear hb hbox hg) | (go_at_call 76; (with_reducible refine (ostiaryref6_param.calls x8_2 t116 t117 t118 t119 _ A22.out).mono ?_); rintro e w24 ⟨rfl, hb⟩; have n0_ := Aside0.mk (Kd.R_below (by (with_reducible repeat (first | apply Kd.R_alloc | apply Kd.R_drewN | apply Kd.R_drew)); exact HO_115002.out) hb); have n1_ := Aside0.mk (blk_below (g := gb101) (o := .cells #[.string (⟨#[]⟩ : ByteArray), .string (⟨#[]⟩ : ByteArray), .slice none 0 0] 48 (0, 0)) (by (with_reducible repeat (first | refine blk_drewN ?_ _ | refine blk_drew ?_ | refine blk_alloc ?_ _)); exact BK101.out) hb); have n2_ := Aside0.mk (blk_below (g := gb114) (o := .cells #[.string t112, .string t113, u115002] 48 (0, 0)) (by (with_reducible repeat (first | refine blk_drewN ?_ _ | refine blk_drew ?_ | refine blk_alloc ?_ _)); exact BK114.out) hb); have n3_ := Aside0.mk (blk_below (g := gb115) (o := .cells #[.string (⟨#[]⟩ : ByteArray), .string (⟨#[]⟩ : ByteArray)] 89 (0, 0)) (by (with_reducible repeat (first | refine blk_drewN ?_ _ | refine blk_drew ?_ | refine blk_alloc ?_ _)); exact BK115.out) hb); have n4_ := Aside0.mk (below_step (by repeat (first | (with_reducible first | exact HB.out | apply below_alloc | apply pw_below_drewN | apply below_drew1 | refine below_set ?_ GE101.out | refine below_set ?_ GE114.out | refine below_set ?_ GE115.out) | exact HB.out)) hb); clear HO_115002; clear BK101; clear BK114; clear BK115; clear HB; have HO_115002 := n0_; have BK101 := n1_; have BK114 := n2_; have BK115 := n3_; have HB := n4_; clear n0_ n1_ n2_ n3_ n4_; (try clear hb); (try clear hb2); (try clear hk); (try clear hi); have hnb25 := NB115_101.out; have hnc25 := NB101_115.out; have hnb26 := NB115_114.out; have hnc26 := NB114_115.out; have hcz27_0 : w24.cell? ⟨gb115, 0, none⟩ = some (.string (⟨#[]⟩ : ByteArray)) := (blk_cell BK115.out 0).trans rfl; have hcz27_1 : w24.cell? ⟨gb115, 1, none⟩ = some (.string (⟨#[]⟩ : ByteArray)) := (blk_cell BK115.out 1).trans rfl; have hfz27_0 := blk_frozen BK115.out 0; have hfz27_1 := blk_frozen BK115.out 1)))
              go_loopg [12, 13] k2 (fun kq v12 v13 w' => ∃ (x12_3 : Bool) (x13_3 : Int), v12 = .bool x12_3 ∧ v13 = .int .i64 x13_3 ∧ Aside0 (ostiaryref6_Parse.l1 kq t118 t119 x12_3 x13_3 t112 t113 x115002_2 t116 t117 = some (r1, r2, r3, r4)) ∧ Aside0 (kq ≤ k2) ∧ Aside0 (Kd.R k89 89 w' w.heap.size (fun k_ => k_ ≠ gb115) u115002 x115002_2) ∧ Aside0 (w'.heap[gb101]? = some (.cells #[.string (⟨#[]⟩ : ByteArray), .string (⟨#[]⟩ : ByteArray), (.slice none 0 0)] 48 (0, 0))) ∧ Aside0 (w'.heap[gb114]? = some (.cells #[.string t112, .string t113, u115002] 48 (0, 0))) ∧ Aside0 (w'.heap[gb115]? = some (.cells #[.string t116, .string t117] 89 (0, 0))) ∧ Aside0 (Below w.heap.size w w'))
              case atStart => exact ⟨(false), (0), (by first | rfl | (simp; done) | (simp [*]; done)), (by first | rfl | (simp; done) | (simp [*]; done)), H', ⟨Nat.le_refl _⟩, ⟨by (with_reducible repeat (first | apply Kd.R_alloc | apply Kd.R_drewN | apply Kd.R_drew)); exact Kd.R_mono (Kd.R_far (p := ⟨gb115, 1, none⟩) (Kd.R_far (p := ⟨gb115, 0, none⟩) (Kd.R_mono HO_115002.out (fun k_ hk => (⟨hk, hk.2⟩ : _ ∧ k_ ≠ gb115))) (fun _ hk => hk.2) (.string t116)) (fun _ hk => hk.2) (.string t117)) (fun _ hk => hk.1.2)⟩, ⟨by (with_reducible repeat (first | refine blk_drewN ?_ _ | refine blk_drew ?_ | refine blk_alloc ?_ _)); refine blk_far ?_ NB101_115.out _; (with_reducible repeat (first | refine blk_drewN ?_ _ | refine blk_drew ?_ | refine blk_alloc ?_ _)); refine blk_far ?_ NB101_115.out _; (with_reducible repeat (first | refine blk_drewN ?_ _ | refine blk_drew ?_ | refine blk_alloc ?_ _)); exact BK101.out⟩, ⟨by (with_reducible repeat (first | refine blk_drewN ?_ _ | refine blk_drew ?_ | refine blk_alloc ?_ _)); refine blk_far ?_ NB114_115.out _; (with_reducible repeat (first | refine blk_drewN ?_ _ | refine blk_drew ?_ | refine blk_alloc ?_ _)); refine blk_far ?_ NB114_115.out _; (with_reducible repeat (first | refine blk_drewN ?_ _ | refine blk_drew ?_ | refine blk_alloc ?_ _)); exact BK114.out⟩, ⟨by (with_reducible repeat (first | refine blk_drewN ?_ _ | refine blk_drew ?_ | refine blk_alloc ?_ _)); refine blk_put (cs := #[.string t116, .string (⟨#[]⟩ : ByteArray)]) ?_ 1 _ rfl; (with_reducible repeat (first | refine blk_drewN ?_ _ | refine blk_drew ?_ | refine blk_alloc ?_ _)); refine blk_put (cs := #[.string (⟨#[]⟩ : ByteArray), .string (⟨#[]⟩ : ByteArray)]) ?_ 0 _ rfl; (with_reducible repeat (first | refine blk_drewN ?_ _ | refine blk_drew ?_ | refine blk_alloc ?_ _)); exact BK115.out⟩, ⟨by repeat (first | (with_reducible first | exact HB.out | apply below_alloc | apply pw_below_drewN | apply below_drew1 | refine below_set ?_ GE101.out | refine below_set ?_ GE114.out | refine below_set ?_ GE115.out) | exact HB.out)⟩⟩
              case round =>
                clear H'
                try clear c1
                try clear c2
                try clear p2
                try clear c8
                try clear c10
                try clear c12
                try clear c19
                try clear c21
                try clear c25
                try clear c26
                try clear hcz13_0
                try clear hcz13_1
                try clear hcz13_2
                try clear hcz20_0
                try clear hcz20_1
                try clear hcz20_2
                try clear hcz27_0
                try clear hcz27_1
                try clear hfz13_0
                try clear hfz13_1
                try clear hfz13_2
                try clear hfz20_0
                try clear hfz20_1
                try clear hfz20_2
                try clear hfz27_0
                try clear hfz27_1
                try clear p2
                obtain ⟨x12_3, x13_3, rfl, rfl, HA, HK3, HO_115002, BK101, BK114, BK115, HB⟩ := hrel
                cases gk with
                | zero => exact absurd HA.out (by simp [ostiaryref6_Parse.l1])
                | succ k3 =>
                  have H := HA.out
                  clear HA
                  simp only [ostiaryref6_Parse.l1] at H
                  by_cases c28 : x13_3 < (x115002_2.length : Int)
                  · rw [if_pos c28] at H
                    have c28b0 : decide (x13_3 < (x115002_2.length : Int)) = true := decide_eq_true c28
                    clear c28
                    by_cases c29 : x12_3 = true
                    · subst c29
                      have H1 : (ostiaryref6_Parse.l1 k3 t118 t119 true (wrap64 (x13_3 + 1)) t112 t113 x115002_2 t116 t117) = some (r1, r2, r3, r4) := by rw [if_pos rfl] at H; exact H
                      clear H
                      have H := H1
                      clear H1
                      have H' := Aside0.mk H
                      clear H
                      have hnb30 := NB114_101.out
                      have hnc30 := NB101_114.out
                      have hnb31 := NB114_115.out
                      have hnc31 := NB115_114.out
                      have hcz32_0 : wr.cell? ⟨gb114, 0, none⟩ = some (.string t112) := (blk_cell BK114.out 0).trans rfl
                      have hcz32_1 : wr.cell? ⟨gb114, 1, none⟩ = some (.string t113) := (blk_cell BK114.out 1).trans rfl
                      have hcz32_2 : wr.cell? ⟨gb114, 2, none⟩ = some (u115002) := (blk_cell BK114.out 2).trans rfl
                      have hfz32_0 := blk_frozen BK114.out 0
                      have hfz32_1 := blk_frozen BK114.out 1
                      have hfz32_2 := blk_frozen BK114.out 2
                      obtain ⟨Ao33, co33, eo33⟩ := Kd.R_slice HO_115002.out
                      subst eo33
                      go_wp2
                      repeat (go_quiet (fail); try go_wp2)
                      go_roundg k3
                      case measure => have := HJ5.out; have := HK2.out; have := HK3.out; omega
                      case rel => exact ⟨(true), (wrap64 (x13_3 + 1)), (by first | rfl | (simp; done) | (simp [*]; done)), (by first | rfl | (simp; done) | (simp [*]; done)), H', ⟨by have := HJ5.out; have := HK2.out; have := HK3.out; omega⟩, ⟨by (with_reducible repeat (first | apply Kd.R_alloc | apply Kd.R_drewN | apply Kd.R_drew)); exact HO_115002.out⟩, ⟨by (with_reducible repeat (first | refine blk_drewN ?_ _ | refine blk_drew ?_ | refine blk_alloc ?_ _)); exact BK101.out⟩, ⟨by (with_reducible repeat (first | refine blk_drewN ?_ _ | refine blk_drew ?_ | refine blk_alloc ?_ _)); exact BK114.out⟩, ⟨by (with_reducible repeat (first | refine blk_drewN ?_ _ | refine blk_drew ?_ | refine blk_alloc ?_ _)); exact BK115.out⟩, ⟨by repeat (first | (with_reducible first | exact HB.out | apply below_alloc | apply pw_below_drewN | apply below_drew1 | refine below_set ?_ GE101.out | refine below_set ?_ GE114.out | refine below_set ?_ GE115.out) | exact HB.out)⟩⟩
                    · replace c29 := Bool.eq_false_iff.mpr c29
                      subst c29
                      have H1 : (if 0 ≤ x13_3 then (ostiaryref6_Parse.l1 k3 t118 t119 (((rd_T89 x115002_2 x13_3).f0).toList == t116.toList) (wrap64 (x13_3 + 1)) t112 t113 x115002_2 t116 t117) else (none)) = some (r1, r2, r3, r4) := by rw [if_neg (show ¬ (false = true) by decide)] at H; exact H
                      clear H
                      have H := H1
                      clear H1
                      by_cases c34 : 0 ≤ x13_3
                      · rw [if_pos c34] at H
                        have c34b0 : decide (0 ≤ x13_3) = true := decide_eq_true c34
                        clear c34
                        have H' := Aside0.mk H
                        clear H
                        have hnb35 := NB114_101.out
                        have hnc35 := NB101_114.out
                        have hnb36 := NB114_115.out
                        have hnc36 := NB115_114.out
                        have hcz37_0 : wr.cell? ⟨gb114, 0, none⟩ = some (.string t112) := (blk_cell BK114.out 0).trans rfl
                        have hcz37_1 : wr.cell? ⟨gb114, 1, none⟩ = some (.string t113) := (blk_cell BK114.out 1).trans rfl
                        have hcz37_2 : wr.cell? ⟨gb114, 2, none⟩ = some (u115002) := (blk_cell BK114.out 2).trans rfl
                        have hfz37_0 := blk_frozen BK114.out 0
                        have hfz37_1 := blk_frozen BK114.out 1
                        have hfz37_2 := blk_frozen BK114.out 2
                        obtain ⟨Ao38, co38, eo38⟩ := Kd.R_slice HO_115002.out
                        subst eo38
                        have p120 : 0 ≤ (x13_3 : Int) := of_decide_eq_true (by first | (with_reducible assumption) | assumption)
                        have q120 : x13_3 < (x115002_2.length : Int) := of_decide_eq_true (by first | (with_reducible assumption) | assumption)
                        obtain ⟨ad120, e120, hx120_0, hx120_1⟩ := at_T89 (Kd.R_reads' HO_115002.out).2.2 x13_3 p120 q120
                        cases e120
                        replace p120 := eq_true p120
                        replace q120 := eq_true q120
                        have hnb39 := NB115_101.out
                        have hnc39 := NB101_115.out
                        have hcz40_0 : wr.cell? ⟨gb115, 0, none⟩ = some (.string t116) := (blk_cell BK115.out 0).trans rfl
                        have hcz40_1 : wr.cell? ⟨gb115, 1, none⟩ = some (.string t117) := (blk_cell BK115.out 1).trans rfl
                        have hfz40_0 := blk_frozen BK115.out 0
                        have hfz40_1 := blk_frozen BK115.out 1
                        go_wp2
                        repeat (go_quiet (fail); try go_wp2)
                        go_roundg k3
                        case measure => have := HJ5.out; have := HK2.out; have := HK3.out; omega
                        case rel => exact ⟨((((rd_T89 x115002_2 x13_3).f0).toList == t116.toList)), (wrap64 (x13_3 + 1)), (by first | rfl | (simp; done) | (simp [*]; done)), (by first | rfl | (simp; done) | (simp [*]; done)), H', ⟨by have := HJ5.out; have := HK2.out; have := HK3.out; omega⟩, ⟨by (with_reducible repeat (first | apply Kd.R_alloc | apply Kd.R_drewN | apply Kd.R_drew)); exact HO_115002.out⟩, ⟨by (with_reducible repeat (first | refine blk_drewN ?_ _ | refine blk_drew ?_ | refine blk_alloc ?_ _)); exact BK101.out⟩, ⟨by (with_reducible repeat (first | refine blk_drewN ?_ _ | refine blk_drew ?_ | refine blk_alloc ?_ _)); exact BK114.out⟩, ⟨by (with_reducible repeat (first | refine blk_drewN ?_ _ | refine blk_drew ?_ | refine blk_alloc ?_ _)); exact BK115.out⟩, ⟨by repeat (first | (with_reducible first | exact HB.out | apply below_alloc | apply pw_below_drewN | apply below_drew1 | refine below_set ?_ GE101.out | refine below_set ?_ GE114.out | refine below_set ?_ GE115.out) | exact HB.out)⟩⟩
                      · rw [if_neg c34] at H
                        exact absurd H (by simp)
                  · rw [if_neg c28] at H
                    have c28b0 : decide (x13_3 < (x115002_2.length : Int)) = false := decide_eq_false c28
                    clear c28
                    replace H := Option.bind_eq_some_iff.mp H
                    obtain ⟨t121, A410, H⟩ := H
                    replace H : (if t121 = true then ((ostiaryref6_value.f k3 t117).bind fun t122 => (if t122 = true then (if x12_3 = true then (ostiaryref6_Parse.l0 k3 t118 t119 t112 t113 x115002_2) else (if x115002_2.length < 4398046511104 then (ostiaryref6_Parse.l0 k3 t118 t119 t112 t113 (x115002_2 ++ [(⟨t116, t117⟩ : S89)])) else (none))) else (ostiaryref6_Parse.l0 k3 t118 t119 t112 t113 x115002_2))) else (ostiaryref6_Parse.l0 k3 t118 t119 t112 t113 x115002_2)) = some (r1, r2, r3, r4) := H
                    have A41 := Aside0.mk A410
                    clear A410
                    by_cases c42 : t121 = true
                    · subst c42
                      have H1 : ((ostiaryref6_value.f k3 t117).bind fun t122 => (if t122 = true then (if x12_3 = true then (ostiaryref6_Parse.l0 k3 t118 t119 t112 t113 x115002_2) else (if x115002_2.length < 4398046511104 then (ostiaryref6_Parse.l0 k3 t118 t119 t112 t113 (x115002_2 ++ [(⟨t116, t117⟩ : S89)])) else (none))) else (ostiaryref6_Parse.l0 k3 t118 t119 t112 t113 x115002_2))) = some (r1, r2, r3, r4) := by rw [if_pos rfl] at H; exact H
                      clear H
                      have H := H1
                      clear H1
                      replace H := Option.bind_eq_some_iff.mp H
                      obtain ⟨t122, A430, H⟩ := H
                      replace H : (if t122 = true then (if x12_3 = true then (ostiaryref6_Parse.l0 k3 t118 t119 t112 t113 x115002_2) else (if x115002_2.length < 4398046511104 then (ostiaryref6_Parse.l0 k3 t118 t119 t112 t113 (x115002_2 ++ [(⟨t116, t117⟩ : S89)])) else (none))) else (ostiaryref6_Parse.l0 k3 t118 t119 t112 t113 x115002_2)) = some (r1, r2, r3, r4) := H
                      have A43 := Aside0.mk A430
                      clear A430
                      by_cases c44 : t122 = true
                      · subst c44
                        have H1 : (if x12_3 = true then (ostiaryref6_Parse.l0 k3 t118 t119 t112 t113 x115002_2) else (if x115002_2.length < 4398046511104 then (ostiaryref6_Parse.l0 k3 t118 t119 t112 t113 (x115002_2 ++ [(⟨t116, t117⟩ : S89)])) else (none))) = some (r1, r2, r3, r4) := by rw [if_pos rfl] at H; exact H
                        clear H
                        have H := H1
                        clear H1
                        by_cases c45 : x12_3 = true
                        · subst c45
                          have H1 : (ostiaryref6_Parse.l0 k3 t118 t119 t112 t113 x115002_2) = some (r1, r2, r3, r4) := by rw [if_pos rfl] at H; exact H
                          clear H
                          have H := H1
                          clear H1
                          have H' := Aside0.mk H
                          clear H
                          have hnb46 := NB114_101.out
                          have hnc46 := NB101_114.out
                          have hnb47 := NB114_115.out
                          have hnc47 := NB115_114.out
                          have hcz48_0 : wr.cell? ⟨gb114, 0, none⟩ = some (.string t112) := (blk_cell BK114.out 0).trans rfl
                          have hcz48_1 : wr.cell? ⟨gb114, 1, none⟩ = some (.string t113) := (blk_cell BK114.out 1).trans rfl
                          have hcz48_2 : wr.cell? ⟨gb114, 2, none⟩ = some (u115002) := (blk_cell BK114.out 2).trans rfl
                          have hfz48_0 := blk_frozen BK114.out 0
                          have hfz48_1 := blk_frozen BK114.out 1
                          have hfz48_2 := blk_frozen BK114.out 2
                          obtain ⟨Ao49, co49, eo49⟩ := Kd.R_slice HO_115002.out
                          subst eo49
                          have hnb50 := NB115_101.out
                          have hnc50 := NB101_115.out
                          have hcz51_0 : wr.cell? ⟨gb115, 0, none⟩ = some (.string t116) := (blk_cell BK115.out 0).trans rfl
                          have hcz51_1 : wr.cell? ⟨gb115, 1, none⟩ = some (.string t117) := (blk_cell BK115.out 1).trans rfl
                          have hfz51_0 := blk_frozen BK115.out 0
                          have hfz51_1 := blk_frozen BK115.out 1
                          go_wp2_with (first | (go_at_call 74; (with_reducible refine (ostiaryref1_Token.calls k3 t116 true _ A41.out).mono ?_); rintro e w' ⟨rfl, ⟨nd, rfl⟩⟩; (try first | exact ⟨rfl, _, World.drewN_drewN _ _ _⟩ | exact ⟨rfl, _, Eq.trans (World.drewN_drewN _ _ _) (congrArg (World.drewN _) (Nat.add_assoc _ _ _))⟩)) | (go_at_call 77; (with_reducible refine (ostiaryref6_value.calls k3 t117 true _ A43.out).mono ?_); rintro e w' ⟨rfl, ⟨nd, rfl⟩⟩; (try first | exact ⟨rfl, _, World.drewN_drewN _ _ _⟩ | exact ⟨rfl, _, Eq.trans (World.drewN_drewN _ _ _) (congrArg (World.drewN _) (Nat.add_assoc _ _ _))⟩)))
                          repeat (go_quiet (first | (go_at_call 74; (with_reducible refine (ostiaryref1_Token.calls k3 t116 true _ A41.out).mono ?_); rintro e w' ⟨rfl, ⟨nd, rfl⟩⟩; (try first | exact ⟨rfl, _, World.drewN_drewN _ _ _⟩ | exact ⟨rfl, _, Eq.trans (World.drewN_drewN _ _ _) (congrArg (World.drewN _) (Nat.add_assoc _ _ _))⟩)) | (go_at_call 77; (with_reducible refine (ostiaryref6_value.calls k3 t117 true _ A43.out).mono ?_); rintro e w' ⟨rfl, ⟨nd, rfl⟩⟩; (try first | exact ⟨rfl, _, World.drewN_drewN _ _ _⟩ | exact ⟨rfl, _, Eq.trans (World.drewN_drewN _ _ _) (congrArg (World.drewN _) (Nat.add_assoc _ _ _))⟩))); try go_wp2_with (first | (go_at_call 74; (with_reducible refine (ostiaryref1_Token.calls k3 t116 true _ A41.out).mono ?_); rintro e w' ⟨rfl, ⟨nd, rfl⟩⟩; (try first | exact ⟨rfl, _, World.drewN_drewN _ _ _⟩ | exact ⟨rfl, _, Eq.trans (World.drewN_drewN _ _ _) (congrArg (World.drewN _) (Nat.add_assoc _ _ _))⟩)) | (go_at_call 77; (with_reducible refine (ostiaryref6_value.calls k3 t117 true _ A43.out).mono ?_); rintro e w' ⟨rfl, ⟨nd, rfl⟩⟩; (try first | exact ⟨rfl, _, World.drewN_drewN _ _ _⟩ | exact ⟨rfl, _, Eq.trans (World.drewN_drewN _ _ _) (congrArg (World.drewN _) (Nat.add_assoc _ _ _))⟩))))
                          go_roundg k3
                          case measure => have := HJ5.out; have := HK2.out; have := HK3.out; omega
                          case rel => exact ⟨(t118), (t119), (x115002_2), (.slice Ao49 x115002_2.length co49), (by first | rfl | (simp; done) | (simp [*]; done)), (by first | rfl | (simp; done) | (simp [*]; done)), H', ⟨by have := HJ5.out; have := HK2.out; have := HK3.out; omega⟩, ⟨by (with_reducible repeat (first | apply Kd.R_alloc | apply Kd.R_drewN | apply Kd.R_drew)); exact Kd.R_mono HO_115002.out (fun _ hk => trivial)⟩, ⟨by (with_reducible repeat (first | refine blk_drewN ?_ _ | refine blk_drew ?_ | refine blk_alloc ?_ _)); exact BK101.out⟩, ⟨by (with_reducible repeat (first | refine blk_drewN ?_ _ | refine blk_drew ?_ | refine blk_alloc ?_ _)); exact BK114.out⟩, ⟨by repeat (first | (with_reducible first | exact HB.out | apply below_alloc | apply pw_below_drewN | apply below_drew1 | refine below_set ?_ GE101.out | refine below_set ?_ GE114.out | refine below_set ?_ GE115.out) | exact HB.out)⟩⟩
                        · replace c45 := Bool.eq_false_iff.mpr c45
                          subst c45
                          have H1 : (if x115002_2.length < 4398046511104 then (ostiaryref6_Parse.l0 k3 t118 t119 t112 t113 (x115002_2 ++ [(⟨t116, t117⟩ : S89)])) else (none)) = some (r1, r2, r3, r4) := by rw [if_neg (show ¬ (false = true) by decide)] at H; exact H
                          clear H
                          have H := H1
                          clear H1
                          by_cases c52 : x115002_2.length < 4398046511104
                          · rw [if_pos c52] at H
                            have LMc52 := Aside0.mk c52
                            clear c52
                            obtain ⟨y123, hy123⟩ : ∃ y_ : List (S89), y_ = (x115002_2 ++ [(⟨t116, t117⟩ : S89)]) := ⟨_, rfl⟩
                            replace H : (ostiaryref6_Parse.l0 k3 t118 t119 t112 t113 y123) = some (r1, r2, r3, r4) := by first | (rw [hy123]; with_reducible exact H) | (have H2_ := (Option.bind_some _ _).symm.trans H; rw [hy123]; with_reducible exact H2_) | (have H2_ := (Option.bind_some _ _).symm.trans H; with_reducible exact H2_) | with_reducible exact H | (rw [hy123]; exact H) | exact H
                            have Ny123 := Aside0.mk hy123
                            clear hy123
                            have H' := Aside0.mk H
                            clear H
                            have hnb53 := NB114_101.out
                            have hnc53 := NB101_114.out
                            have hnb54 := NB114_115.out
                            have hnc54 := NB115_114.out
                            have hcz55_0 : wr.cell? ⟨gb114, 0, none⟩ = some (.string t112) := (blk_cell BK114.out 0).trans rfl
                            have hcz55_1 : wr.cell? ⟨gb114, 1, none⟩ = some (.string t113) := (blk_cell BK114.out 1).trans rfl
                            have hcz55_2 : wr.cell? ⟨gb114, 2, none⟩ = some (u115002) := (blk_cell BK114.out 2).trans rfl
                            have hfz55_0 := blk_frozen BK114.out 0
                            have hfz55_1 := blk_frozen BK114.out 1
                            have hfz55_2 := blk_frozen BK114.out 2
                            obtain ⟨Ao56, co56, eo56⟩ := Kd.R_slice HO_115002.out
                            subst eo56
                            have hnb57 := NB115_101.out
                            have hnc57 := NB101_115.out
                            have hcz58_0 : wr.cell? ⟨gb115, 0, none⟩ = some (.string t116) := (blk_cell BK115.out 0).trans rfl
                            have hcz58_1 : wr.cell? ⟨gb115, 1, none⟩ = some (.string t117) := (blk_cell BK115.out 1).trans rfl
                            have hfz58_0 := blk_frozen BK115.out 0
                            have hfz58_1 := blk_frozen BK115.out 1
                            go_wp2_with (first | (go_at_call 74; (with_reducible refine (ostiaryref1_Token.calls k3 t116 true _ A41.out).mono ?_); rintro e w' ⟨rfl, ⟨nd, rfl⟩⟩; (try first | exact ⟨rfl, _, World.drewN_drewN _ _ _⟩ | exact ⟨rfl, _, Eq.trans (World.drewN_drewN _ _ _) (congrArg (World.drewN _) (Nat.add_assoc _ _ _))⟩)) | (go_at_call 77; (with_reducible refine (ostiaryref6_value.calls k3 t117 true _ A43.out).mono ?_); rintro e w' ⟨rfl, ⟨nd, rfl⟩⟩; (try first | exact ⟨rfl, _, World.drewN_drewN _ _ _⟩ | exact ⟨rfl, _, Eq.trans (World.drewN_drewN _ _ _) (congrArg (World.drewN _) (Nat.add_assoc _ _ _))⟩)) | ((with_reducible refine gate_builtin (b := .append) (xs := #[.tmp 87, .tmp 89]) rfl ?_); at_builtin; refine Kd.R_append k89 (w0 := w) w.heap.size rfl (.tmp 87) (.tmp 89) 46 89 (.agg #[(.string ⟨#[]⟩), (.string ⟨#[]⟩)]) 32 rfl Tryz.underlying46 info89 rfl (by decide) (by omega) (.slice Ao56 x115002_2.length co56) x115002_2 (⟨t116, t117⟩ : S89) [.string t116, .string t117] (fun k_ => k_ ≠ gb115) (fun _ => False) rfl rfl ?aP (fun _ hk => hk.elim) ?aF ?aO ?aB ?aS ?aL ?_; (case aP => exact k89_mkM _ _ _ (⟨t116, t117⟩ : S89)); (case aB => exact (by repeat (first | (with_reducible first | exact HB.out | apply below_alloc | apply pw_below_drewN | apply below_drew1 | refine below_set ?_ GE101.out | refine below_set ?_ GE114.out | refine below_set ?_ GE115.out) | exact HB.out))); (case aF => exact (fun k_ hk => Kd.freshB (g := gb115) (o := .cells #[.string t116, .string t117] 89 (0, 0)) (by (with_reducible repeat (first | refine blk_drewN ?_ _ | refine blk_drew ?_ | refine blk_alloc ?_ _)); exact BK115.out) k_ hk)); (case aO => exact (by (with_reducible repeat (first | apply Kd.R_alloc | apply Kd.R_drewN | apply Kd.R_drew)); exact HO_115002.out)); (case aS => exact (below_size (by repeat (first | (with_reducible first | exact HB.out | apply below_alloc | apply pw_below_drewN | apply below_drew1 | refine below_set ?_ GE101.out | refine below_set ?_ GE114.out | refine below_set ?_ GE115.out) | exact HB.out)))); (case aL => have := LMc52.out; omega); intro v124 w59 ho hb hg hat; rw [← Ny123.out] at ho; have n0_ := Aside0.mk (blk_grown (g := gb101) (o := .cells #[.string (⟨#[]⟩ : ByteArray), .string (⟨#[]⟩ : ByteArray), .slice none 0 0] 48 (0, 0)) (by (with_reducible repeat (first | refine blk_drewN ?_ _ | refine blk_drew ?_ | refine blk_alloc ?_ _)); exact BK101.out) hg (Kd.R_ne HO_115002.out BK101.out (by decide))); have n1_ := Aside0.mk (blk_grown (g := gb114) (o := .cells #[.string t112, .string t113, .slice Ao56 x115002_2.length co56] 48 (0, 0)) (by (with_reducible repeat (first | refine blk_drewN ?_ _ | refine blk_drew ?_ | refine blk_alloc ?_ _)); exact BK114.out) hg (Kd.R_ne HO_115002.out BK114.out (by decide))); have n2_ := Aside0.mk (blk_grown (g := gb115) (o := .cells #[.string t116, .string t117] 89 (0, 0)) (by (with_reducible repeat (first | refine blk_drewN ?_ _ | refine blk_drew ?_ | refine blk_alloc ?_ _)); exact BK115.out) hg (Kd.R_away HO_115002.out (fun _ hk => hk))); have n3_ := Aside0.mk (hb); have n4_ := Aside0.mk (ho); clear BK101; clear BK114; clear BK115; clear HB; clear HO_115002; have BK101 := n0_; have BK114 := n1_; have BK115 := n2_; have HB := n3_; have HO125 := n4_; clear n0_ n1_ n2_ n3_ n4_; clear ho hb hg hat; obtain ⟨Ao60, co60, eo60⟩ := Kd.R_slice HO125.out; subst eo60; have hcz61_0 : w59.cell? ⟨gb114, 0, none⟩ = some (.string t112) := (blk_cell BK114.out 0).trans rfl; have hcz61_1 : w59.cell? ⟨gb114, 1, none⟩ = some (.string t113) := (blk_cell BK114.out 1).trans rfl; have hcz61_2 : w59.cell? ⟨gb114, 2, none⟩ = some (.slice Ao56 x115002_2.length co56) := (blk_cell BK114.out 2).trans rfl; have hfz61_0 := blk_frozen BK114.out 0; have hfz61_1 := blk_frozen BK114.out 1; have hfz61_2 := blk_frozen BK114.out 2))
                            repeat (go_quiet (first | (go_at_call 74; (with_reducible refine (ostiaryref1_Token.calls k3 t116 true _ A41.out).mono ?_); rintro e w' ⟨rfl, ⟨nd, rfl⟩⟩; (try first | exact ⟨rfl, _, World.drewN_drewN _ _ _⟩ | exact ⟨rfl, _, Eq.trans (World.drewN_drewN _ _ _) (congrArg (World.drewN _) (Nat.add_assoc _ _ _))⟩)) | (go_at_call 77; (with_reducible refine (ostiaryref6_value.calls k3 t117 true _ A43.out).mono ?_); rintro e w' ⟨rfl, ⟨nd, rfl⟩⟩; (try first | exact ⟨rfl, _, World.drewN_drewN _ _ _⟩ | exact ⟨rfl, _, Eq.trans (World.drewN_drewN _ _ _) (congrArg (World.drewN _) (Nat.add_assoc _ _ _))⟩)) | ((with_reducible refine gate_builtin (b := .append) (xs := #[.tmp 87, .tmp 89]) rfl ?_); at_builtin; refine Kd.R_append k89 (w0 := w) w.heap.size rfl (.tmp 87) (.tmp 89) 46 89 (.agg #[(.string ⟨#[]⟩), (.string ⟨#[]⟩)]) 32 rfl Tryz.underlying46 info89 rfl (by decide) (by omega) (.slice Ao56 x115002_2.length co56) x115002_2 (⟨t116, t117⟩ : S89) [.string t116, .string t117] (fun k_ => k_ ≠ gb115) (fun _ => False) rfl rfl ?aP (fun _ hk => hk.elim) ?aF ?aO ?aB ?aS ?aL ?_; (case aP => exact k89_mkM _ _ _ (⟨t116, t117⟩ : S89)); (case aB => exact (by repeat (first | (with_reducible first | exact HB.out | apply below_alloc | apply pw_below_drewN | apply below_drew1 | refine below_set ?_ GE101.out | refine below_set ?_ GE114.out | refine below_set ?_ GE115.out) | exact HB.out))); (case aF => exact (fun k_ hk => Kd.freshB (g := gb115) (o := .cells #[.string t116, .string t117] 89 (0, 0)) (by (with_reducible repeat (first | refine blk_drewN ?_ _ | refine blk_drew ?_ | refine blk_alloc ?_ _)); exact BK115.out) k_ hk)); (case aO => exact (by (with_reducible repeat (first | apply Kd.R_alloc | apply Kd.R_drewN | apply Kd.R_drew)); exact HO_115002.out)); (case aS => exact (below_size (by repeat (first | (with_reducible first | exact HB.out | apply below_alloc | apply pw_below_drewN | apply below_drew1 | refine below_set ?_ GE101.out | refine below_set ?_ GE114.out | refine below_set ?_ GE115.out) | exact HB.out)))); (case aL => have := LMc52.out; omega); intro v124 w59 ho hb hg hat; rw [← Ny123.out] at ho; have n0_ := Aside0.mk (blk_grown (g := gb101) (o := .cells #[.string (⟨#[]⟩ : ByteArray), .string (⟨#[]⟩ : ByteArray), .slice none 0 0] 48 (0, 0)) (by (with_reducible repeat (first | refine blk_drewN ?_ _ | refine blk_drew ?_ | refine blk_alloc ?_ _)); exact BK101.out) hg (Kd.R_ne HO_115002.out BK101.out (by decide))); have n1_ := Aside0.mk (blk_grown (g := gb114) (o := .cells #[.string t112, .string t113, .slice Ao56 x115002_2.length co56] 48 (0, 0)) (by (with_reducible repeat (first | refine blk_drewN ?_ _ | refine blk_drew ?_ | refine blk_alloc ?_ _)); exact BK114.out) hg (Kd.R_ne HO_115002.out BK114.out (by decide))); have n2_ := Aside0.mk (blk_grown (g := gb115) (o := .cells #[.string t116, .string t117] 89 (0, 0)) (by (with_reducible repeat (first | refine blk_drewN ?_ _ | refine blk_drew ?_ | refine blk_alloc ?_ _)); exact BK115.out) hg (Kd.R_away HO_115002.out (fun _ hk => hk))); have n3_ := Aside0.mk (hb); have n4_ := Aside0.mk (ho); clear BK101; clear BK114; clear BK115; clear HB; clear HO_115002; have BK101 := n0_; have BK114 := n1_; have BK115 := n2_; have HB := n3_; have HO125 := n4_; clear n0_ n1_ n2_ n3_ n4_; clear ho hb hg hat; obtain ⟨Ao60, co60, eo60⟩ := Kd.R_slice HO125.out; subst eo60; have hcz61_0 : w59.cell? ⟨gb114, 0, none⟩ = some (.string t112) := (blk_cell BK114.out 0).trans rfl; have hcz61_1 : w59.cell? ⟨gb114, 1, none⟩ = some (.string t113) := (blk_cell BK114.out 1).trans rfl; have hcz61_2 : w59.cell? ⟨gb114, 2, none⟩ = some (.slice Ao56 x115002_2.length co56) := (blk_cell BK114.out 2).trans rfl; have hfz61_0 := blk_frozen BK114.out 0; have hfz61_1 := blk_frozen BK114.out 1; have hfz61_2 := blk_frozen BK114.out 2)); try go_wp2_with (first | (go_at_call 74; (with_reducible refine (ostiaryref1_Token.calls k3 t116 true _ A41.out).mono ?_); rintro e w' ⟨rfl, ⟨nd, rfl⟩⟩; (try first | exact ⟨rfl, _, World.drewN_drewN _ _ _⟩ | exact ⟨rfl, _, Eq.trans (World.drewN_drewN _ _ _) (congrArg (World.drewN _) (Nat.add_assoc _ _ _))⟩)) | (go_at_call 77; (with_reducible refine (ostiaryref6_value.calls k3 t117 true _ A43.out).mono ?_); rintro e w' ⟨rfl, ⟨nd, rfl⟩⟩; (try first | exact ⟨rfl, _, World.drewN_drewN _ _ _⟩ | exact ⟨rfl, _, Eq.trans (World.drewN_drewN _ _ _) (congrArg (World.drewN _) (Nat.add_assoc _ _ _))⟩)) | ((with_reducible refine gate_builtin (b := .append) (xs := #[.tmp 87, .tmp 89]) rfl ?_); at_builtin; refine Kd.R_append k89 (w0 := w) w.heap.size rfl (.tmp 87) (.tmp 89) 46 89 (.agg #[(.string ⟨#[]⟩), (.string ⟨#[]⟩)]) 32 rfl Tryz.underlying46 info89 rfl (by decide) (by omega) (.slice Ao56 x115002_2.length co56) x115002_2 (⟨t116, t117⟩ : S89) [.string t116, .string t117] (fun k_ => k_ ≠ gb115) (fun _ => False) rfl rfl ?aP (fun _ hk => hk.elim) ?aF ?aO ?aB ?aS ?aL ?_; (case aP => exact k89_mkM _ _ _ (⟨t116, t117⟩ : S89)); (case aB => exact (by repeat (first | (with_reducible first | exact HB.out | apply below_alloc | apply pw_below_drewN | apply below_drew1 | refine below_set ?_ GE101.out | refine below_set ?_ GE114.out | refine below_set ?_ GE115.out) | exact HB.out))); (case aF => exact (fun k_ hk => Kd.freshB (g := gb115) (o := .cells #[.string t116, .string t117] 89 (0, 0)) (by (with_reducible repeat (first | refine blk_drewN ?_ _ | refine blk_drew ?_ | refine blk_alloc ?_ _)); exact BK115.out) k_ hk)); (case aO => exact (by (with_reducible repeat (first | apply Kd.R_alloc | apply Kd.R_drewN | apply Kd.R_drew)); exact HO_115002.out)); (case aS => exact (below_size (by repeat (first | (with_reducible first | exact HB.out | apply below_alloc | apply pw_below_drewN | apply below_drew1 | refine below_set ?_ GE101.out | refine below_set ?_ GE114.out | refine below_set ?_ GE115.out) | exact HB.out)))); (case aL => have := LMc52.out; omega); intro v124 w59 ho hb hg hat; rw [← Ny123.out] at ho; have n0_ := Aside0.mk (blk_grown (g := gb101) (o := .cells #[.string (⟨#[]⟩ : ByteArray), .string (⟨#[]⟩ : ByteArray), .slice none 0 0] 48 (0, 0)) (by (with_reducible repeat (first | refine blk_drewN ?_ _ | refine blk_drew ?_ | refine blk_alloc ?_ _)); exact BK101.out) hg (Kd.R_ne HO_115002.out BK101.out (by decide))); have n1_ := Aside0.mk (blk_grown (g := gb114) (o := .cells #[.string t112, .string t113, .slice Ao56 x115002_2.length co56] 48 (0, 0)) (by (with_reducible repeat (first | refine blk_drewN ?_ _ | refine blk_drew ?_ | refine blk_alloc ?_ _)); exact BK114.out) hg (Kd.R_ne HO_115002.out BK114.out (by decide))); have n2_ := Aside0.mk (blk_grown (g := gb115) (o := .cells #[.string t116, .string t117] 89 (0, 0)) (by (with_reducible repeat (first | refine blk_drewN ?_ _ | refine blk_drew ?_ | refine blk_alloc ?_ _)); exact BK115.out) hg (Kd.R_away HO_115002.out (fun _ hk => hk))); have n3_ := Aside0.mk (hb); have n4_ := Aside0.mk (ho); clear BK101; clear BK114; clear BK115; clear HB; clear HO_115002; have BK101 := n0_; have BK114 := n1_; have BK115 := n2_; have HB := n3_; have HO125 := n4_; clear n0_ n1_ n2_ n3_ n4_; clear ho hb hg hat; obtain ⟨Ao60, co60, eo60⟩ := Kd.R_slice HO125.out; subst eo60; have hcz61_0 : w59.cell? ⟨gb114, 0, none⟩ = some (.string t112) := (blk_cell BK114.out 0).trans rfl; have hcz61_1 : w59.cell? ⟨gb114, 1, none⟩ = some (.string t113) := (blk_cell BK114.out 1).trans rfl; have hcz61_2 : w59.cell? ⟨gb114, 2, none⟩ = some (.slice Ao56 x115002_2.length co56) := (blk_cell BK114.out 2).trans rfl; have hfz61_0 := blk_frozen BK114.out 0; have hfz61_1 := blk_frozen BK114.out 1; have hfz61_2 := blk_frozen BK114.out 2)))
                            go_roundg k3
                            case measure => have := HJ5.out; have := HK2.out; have := HK3.out; omega
                            case rel => exact ⟨(t118), (t119), (y123), (.slice Ao60 y123.length co60), (by first | rfl | (simp; done) | (simp [*]; done)), (by first | rfl | (simp; done) | (simp [*]; done)), H', ⟨by have := HJ5.out; have := HK2.out; have := HK3.out; omega⟩, ⟨by (with_reducible repeat (first | apply Kd.R_alloc | apply Kd.R_drewN | apply Kd.R_drew)); exact Kd.R_mono (Kd.R_far (p := ⟨gb114, 2, none⟩) (Kd.R_types HO125.out BK114.out (by decide)) (fun _ hk => hk.2) (.slice Ao60 y123.length co60)) (fun _ hk => trivial)⟩, ⟨by (with_reducible repeat (first | refine blk_drewN ?_ _ | refine blk_drew ?_ | refine blk_alloc ?_ _)); refine blk_far ?_ NB101_114.out _; (with_reducible repeat (first | refine blk_drewN ?_ _ | refine blk_drew ?_ | refine blk_alloc ?_ _)); exact BK101.out⟩, ⟨by (with_reducible repeat (first | refine blk_drewN ?_ _ | refine blk_drew ?_ | refine blk_alloc ?_ _)); refine blk_put (cs := #[.string t112, .string t113, .slice Ao56 x115002_2.length co56]) ?_ 2 _ rfl; (with_reducible repeat (first | refine blk_drewN ?_ _ | refine blk_drew ?_ | refine blk_alloc ?_ _)); exact BK114.out⟩, ⟨by repeat (first | (with_reducible first | exact HB.out | apply below_alloc | apply pw_below_drewN | apply below_drew1 | refine below_set ?_ GE101.out | refine below_set ?_ GE114.out | refine below_set ?_ GE115.out) | exact HB.out)⟩⟩
                          · rw [if_neg c52] at H
                            exact absurd H (by simp)
                      · replace c44 := Bool.eq_false_iff.mpr c44
                        subst c44
                        have H1 : (ostiaryref6_Parse.l0 k3 t118 t119 t112 t113 x115002_2) = some (r1, r2, r3, r4) := by rw [if_neg (show ¬ (false = true) by decide)] at H; exact H
                        clear H
                        have H := H1
                        clear H1
                        have H' := Aside0.mk H
                        clear H
                        have hnb62 := NB114_101.out
                        have hnc62 := NB101_114.out
                        have hnb63 := NB114_115.out
                        have hnc63 := NB115_114.out
                        have hcz64_0 : wr.cell? ⟨gb114, 0, none⟩ = some (.string t112) := (blk_cell BK114.out 0).trans rfl
                        have hcz64_1 : wr.cell? ⟨gb114, 1, none⟩ = some (.string t113) := (blk_cell BK114.out 1).trans rfl
                        have hcz64_2 : wr.cell? ⟨gb114, 2, none⟩ = some (u115002) := (blk_cell BK114.out 2).trans rfl
                        have hfz64_0 := blk_frozen BK114.out 0
                        have hfz64_1 := blk_frozen BK114.out 1
                        have hfz64_2 := blk_frozen BK114.out 2
                        obtain ⟨Ao65, co65, eo65⟩ := Kd.R_slice HO_115002.out
                        subst eo65
                        have hnb66 := NB115_101.out
                        have hnc66 := NB101_115.out
                        have hcz67_0 : wr.cell? ⟨gb115, 0, none⟩ = some (.string t116) := (blk_cell BK115.out 0).trans rfl
                        have hcz67_1 : wr.cell? ⟨gb115, 1, none⟩ = some (.string t117) := (blk_cell BK115.out 1).trans rfl
                        have hfz67_0 := blk_frozen BK115.out 0
                        have hfz67_1 := blk_frozen BK115.out 1
                        go_wp2_with (first | (go_at_call 74; (with_reducible refine (ostiaryref1_Token.calls k3 t116 true _ A41.out).mono ?_); rintro e w' ⟨rfl, ⟨nd, rfl⟩⟩; (try first | exact ⟨rfl, _, World.drewN_drewN _ _ _⟩ | exact ⟨rfl, _, Eq.trans (World.drewN_drewN _ _ _) (congrArg (World.drewN _) (Nat.add_assoc _ _ _))⟩)) | (go_at_call 77; (with_reducible refine (ostiaryref6_value.calls k3 t117 false _ A43.out).mono ?_); rintro e w' ⟨rfl, ⟨nd, rfl⟩⟩; (try first | exact ⟨rfl, _, World.drewN_drewN _ _ _⟩ | exact ⟨rfl, _, Eq.trans (World.drewN_drewN _ _ _) (congrArg (World.drewN _) (Nat.add_assoc _ _ _))⟩)))
                        repeat (go_quiet (first | (go_at_call 74; (with_reducible refine (ostiaryref1_Token.calls k3 t116 true _ A41.out).mono ?_); rintro e w' ⟨rfl, ⟨nd, rfl⟩⟩; (try first | exact ⟨rfl, _, World.drewN_drewN _ _ _⟩ | exact ⟨rfl, _, Eq.trans (World.drewN_drewN _ _ _) (congrArg (World.drewN _) (Nat.add_assoc _ _ _))⟩)) | (go_at_call 77; (with_reducible refine (ostiaryref6_value.calls k3 t117 false _ A43.out).mono ?_); rintro e w' ⟨rfl, ⟨nd, rfl⟩⟩; (try first | exact ⟨rfl, _, World.drewN_drewN _ _ _⟩ | exact ⟨rfl, _, Eq.trans (World.drewN_drewN _ _ _) (congrArg (World.drewN _) (Nat.add_assoc _ _ _))⟩))); try go_wp2_with (first | (go_at_call 74; (with_reducible refine (ostiaryref1_Token.calls k3 t116 true _ A41.out).mono ?_); rintro e w' ⟨rfl, ⟨nd, rfl⟩⟩; (try first | exact ⟨rfl, _, World.drewN_drewN _ _ _⟩ | exact ⟨rfl, _, Eq.trans (World.drewN_drewN _ _ _) (congrArg (World.drewN _) (Nat.add_assoc _ _ _))⟩)) | (go_at_call 77; (with_reducible refine (ostiaryref6_value.calls k3 t117 false _ A43.out).mono ?_); rintro e w' ⟨rfl, ⟨nd, rfl⟩⟩; (try first | exact ⟨rfl, _, World.drewN_drewN _ _ _⟩ | exact ⟨rfl, _, Eq.trans (World.drewN_drewN _ _ _) (congrArg (World.drewN _) (Nat.add_assoc _ _ _))⟩))))
                        go_roundg k3
                        case measure => have := HJ5.out; have := HK2.out; have := HK3.out; omega
                        case rel => exact ⟨(t118), (t119), (x115002_2), (.slice Ao65 x115002_2.length co65), (by first | rfl | (simp; done) | (simp [*]; done)), (by first | rfl | (simp; done) | (simp [*]; done)), H', ⟨by have := HJ5.out; have := HK2.out; have := HK3.out; omega⟩, ⟨by (with_reducible repeat (first | apply Kd.R_alloc | apply Kd.R_drewN | apply Kd.R_drew)); exact Kd.R_mono HO_115002.out (fun _ hk => trivial)⟩, ⟨by (with_reducible repeat (first | refine blk_drewN ?_ _ | refine blk_drew ?_ | refine blk_alloc ?_ _)); exact BK101.out⟩, ⟨by (with_reducible repeat (first | refine blk_drewN ?_ _ | refine blk_drew ?_ | refine blk_alloc ?_ _)); exact BK114.out⟩, ⟨by repeat (first | (with_reducible first | exact HB.out | apply below_alloc | apply pw_below_drewN | apply below_drew1 | refine below_set ?_ GE101.out | refine below_set ?_ GE114.out | refine below_set ?_ GE115.out) | exact HB.out)⟩⟩
                    · replace c42 := Bool.eq_false_iff.mpr c42
                      subst c42
                      have H1 : (ostiaryref6_Parse.l0 k3 t118 t119 t112 t113 x115002_2) = some (r1, r2, r3, r4) := by rw [if_neg (show ¬ (false = true) by decide)] at H; exact H
                      clear H
                      have H := H1
                      clear H1
                      have H' := Aside0.mk H
                      clear H
                      have hnb68 := NB114_101.out
                      have hnc68 := NB101_114.out
                      have hnb69 := NB114_115.out
                      have hnc69 := NB115_114.out
                      have hcz70_0 : wr.cell? ⟨gb114, 0, none⟩ = some (.string t112) := (blk_cell BK114.out 0).trans rfl
                      have hcz70_1 : wr.cell? ⟨gb114, 1, none⟩ = some (.string t113) := (blk_cell BK114.out 1).trans rfl
                      have hcz70_2 : wr.cell? ⟨gb114, 2, none⟩ = some (u115002) := (blk_cell BK114.out 2).trans rfl
                      have hfz70_0 := blk_frozen BK114.out 0
                      have hfz70_1 := blk_frozen BK114.out 1
                      have hfz70_2 := blk_frozen BK114.out 2
                      obtain ⟨Ao71, co71, eo71⟩ := Kd.R_slice HO_115002.out
                      subst eo71
                      have hnb72 := NB115_101.out
                      have hnc72 := NB101_115.out
                      have hcz73_0 : wr.cell? ⟨gb115, 0, none⟩ = some (.string t116) := (blk_cell BK115.out 0).trans rfl
                      have hcz73_1 : wr.cell? ⟨gb115, 1, none⟩ = some (.string t117) := (blk_cell BK115.out 1).trans rfl
                      have hfz73_0 := blk_frozen BK115.out 0
                      have hfz73_1 := blk_frozen BK115.out 1
                      go_wp2_with (first | (go_at_call 74; (with_reducible refine (ostiaryref1_Token.calls k3 t116 false _ A41.out).mono ?_); rintro e w' ⟨rfl, ⟨nd, rfl⟩⟩; (try first | exact ⟨rfl, _, World.drewN_drewN _ _ _⟩ | exact ⟨rfl, _, Eq.trans (World.drewN_drewN _ _ _) (congrArg (World.drewN _) (Nat.add_assoc _ _ _))⟩)))
                      repeat (go_quiet (first | (go_at_call 74; (with_reducible refine (ostiaryref1_Token.calls k3 t116 false _ A41.out).mono ?_); rintro e w' ⟨rfl, ⟨nd, rfl⟩⟩; (try first | exact ⟨rfl, _, World.drewN_drewN _ _ _⟩ | exact ⟨rfl, _, Eq.trans (World.drewN_drewN _ _ _) (congrArg (World.drewN _) (Nat.add_assoc _ _ _))⟩))); try go_wp2_with (first | (go_at_call 74; (with_reducible refine (ostiaryref1_Token.calls k3 t116 false _ A41.out).mono ?_); rintro e w' ⟨rfl, ⟨nd, rfl⟩⟩; (try first | exact ⟨rfl, _, World.drewN_drewN _ _ _⟩ | exact ⟨rfl, _, Eq.trans (World.drewN_drewN _ _ _) (congrArg (World.drewN _) (Nat.add_assoc _ _ _))⟩))))
                      go_roundg k3
                      case measure => have := HJ5.out; have := HK2.out; have := HK3.out; omega
                      case rel => exact ⟨(t118), (t119), (x115002_2), (.slice Ao71 x115002_2.length co71), (by first | rfl | (simp; done) | (simp [*]; done)), (by first | rfl | (simp; done) | (simp [*]; done)), H', ⟨by have := HJ5.out; have := HK2.out; have := HK3.out; omega⟩, ⟨by (with_reducible repeat (first | apply Kd.R_alloc | apply Kd.R_drewN | apply Kd.R_drew)); exact Kd.R_mono HO_115002.out (fun _ hk => trivial)⟩, ⟨by (with_reducible repeat (first | refine blk_drewN ?_ _ | refine blk_drew ?_ | refine blk_alloc ?_ _)); exact BK101.out⟩, ⟨by (with_reducible repeat (first | refine blk_drewN ?_ _ | refine blk_drew ?_ | refine blk_alloc ?_ _)); exact BK114.out⟩, ⟨by repeat (first | (with_reducible first | exact HB.out | apply below_alloc | apply pw_below_drewN | apply below_drew1 | refine below_set ?_ GE101.out | refine below_set ?_ GE114.out | refine below_set ?_ GE115.out) | exact HB.out)⟩⟩
            · replace c21 := Bool.eq_false_iff.mpr c21
              subst c21
              have H1 : (some (t112, t113, x115002_2, true)) = some (r1, r2, r3, r4) := by rw [if_neg (show ¬ (false = true) by decide)] at H; exact H
              clear H
              have H := H1
              clear H1
              simp only [Option.some.injEq, Prod.mk.injEq] at H
              obtain ⟨rfl, rfl, rfl, rfl⟩ := H
              have hnb74 := NB114_101.out
              have hnc74 := NB101_114.out
              have hcz75_0 : wr.cell? ⟨gb114, 0, none⟩ = some (.string t112) := (blk_cell BK114.out 0).trans rfl
              have hcz75_1 : wr.cell? ⟨gb114, 1, none⟩ = some (.string t113) := (blk_cell BK114.out 1).trans rfl
              have hcz75_2 : wr.cell? ⟨gb114, 2, none⟩ = some (u115002) := (blk_cell BK114.out 2).trans rfl
              have hfz75_0 := blk_frozen BK114.out 0
              have hfz75_1 := blk_frozen BK114.out 1
              have hfz75_2 := blk_frozen BK114.out 2
              have hcz76_0 : wr.cell? ⟨gb101, 0, none⟩ = some (.string (⟨#[]⟩ : ByteArray)) := (blk_cell BK101.out 0).trans rfl
              have hcz76_1 : wr.cell? ⟨gb101, 1, none⟩ = some (.string (⟨#[]⟩ : ByteArray)) := (blk_cell BK101.out 1).trans rfl
              have hcz76_2 : wr.cell? ⟨gb101, 2, none⟩ = some (.slice none 0 0) := (blk_cell BK101.out 2).trans rfl
              have hfz76_0 := blk_frozen BK101.out 0
              have hfz76_1 := blk_frozen BK101.out 1
              have hfz76_2 := blk_frozen BK101.out 2
              obtain ⟨Ao77, co77, eo77⟩ := Kd.R_slice HO_115002.out
              subst eo77
              go_wp2
              repeat (go_quiet (fail); try go_wp2)
              refine bodyPost_ret (results_ct rfl _ _ gb101 48 #[.string t112, .string t113, .slice Ao77 x115002_2.length co77] (0, 0) _ rfl (by (with_reducible repeat (first | refine blk_drewN ?_ _ | refine blk_drew ?_ | refine blk_alloc ?_ _)); refine blk_put (cs := #[.string t112, .string t113, .slice none 0 0]) ?_ 2 _ rfl; (with_reducible repeat (first | refine blk_drewN ?_ _ | refine blk_drew ?_ | refine blk_alloc ?_ _)); refine blk_put (cs := #[.string t112, .string (⟨#[]⟩ : ByteArray), .slice none 0 0]) ?_ 1 _ rfl; (with_reducible repeat (first | refine blk_drewN ?_ _ | refine blk_drew ?_ | refine blk_alloc ?_ _)); refine blk_put (cs := #[.string (⟨#[]⟩ : ByteArray), .string (⟨#[]⟩ : ByteArray), .slice none 0 0]) ?_ 0 _ rfl; (with_reducible repeat (first | refine blk_drewN ?_ _ | refine blk_drew ?_ | refine blk_alloc ?_ _)); exact BK101.out) Tryz.underlying48 rfl (by kernel_rfl)) rfl ?_
              exact ⟨_, by first | rfl | (simp [errW_none, errW_some] <;> rfl) | (simp [*, errW_none, errW_some] <;> rfl), by (with_reducible repeat (first | apply Kd.R_alloc | apply Kd.R_drewN | apply Kd.R_drew)); exact Kd.R_mono (Kd.R_far (p := ⟨gb101, 2, none⟩) (Kd.R_far (p := ⟨gb101, 1, none⟩) (Kd.R_far (p := ⟨gb101, 0, none⟩) (Kd.R_types HO_115002.out BK101.out (by decide)) (fun _ hk => hk.2) (.string t112)) (fun _ hk => hk.2) (.string t113)) (fun _ hk => hk.2) (.slice Ao77 x115002_2.length co77)) (fun _ hk => trivial), by repeat (first | (with_reducible first | exact HB.out | apply below_alloc | apply pw_below_drewN | apply below_drew1 | refine below_set ?_ GE101.out | refine below_set ?_ GE114.out) | exact HB.out)⟩
end Go.Proofs.YteehjlciajhdoaaGreatDoor.X
namespace Go.Proofs.YteehjlciajhdoaaGreatDoor.X
set_option linter.unusedVariables false
set_option linter.unusedSimpArgs false
open Go.RowKit Go.Proofs.YteehjlciajhdoaaGreatDoorW.PrintWords Go.Proofs.YteehjlciajhdoaaGreatDoorW.PrintLast Go.Proofs.YteehjlciajhdoaaGreatDoorW.PrintMore
abbrev RPrm := S89
def toR (p : Prm) : RPrm := ⟨p.f0, p.f1⟩
theorem index_sign : ∀ s : List UInt8, (Lib.indexAny s [59, 61] < 0 ∧ signAt s = s.length ∧ cutc 59 s = (s, [], false)) ∨
    (Lib.indexAny s [59, 61] = (signAt s : Int) ∧ signAt s < s.length ∧ ((s[signAt s]? = some 59 ∧ cutc 59 s = (s.take (signAt s), s.drop (signAt s + 1), true)) ∨ s[signAt s]? = some 61))
  | [] => by left; exact ⟨by decide, rfl, rfl⟩
  | c :: l => by
    by_cases hc : c = 59 ∨ c = 61
    · right
      have h1 : signAt (c :: l) = 0 := by unfold signAt; rw [if_pos hc]
      have h2 : Lib.indexAny (c :: l) [59, 61] = 0 := by
        unfold Lib.indexAny
        rw [if_pos]
        rcases hc with rfl | rfl <;> decide
      rw [h1, h2]
      refine ⟨rfl, by simp, ?_⟩
      rcases hc with rfl | rfl
      · left
        refine ⟨rfl, ?_⟩
        unfold cutc
        rw [if_pos rfl]
        rfl
      · right; rfl
    · have hn := not_or.1 hc
      have h1 : signAt (c :: l) = signAt l + 1 := by conv => lhs; unfold signAt
                                                     rw [if_neg hc]
      have hcon : ([59, 61] : List UInt8).contains c = false := by simp [hn.1, hn.2]
      have hcu : cutc 59 (c :: l) = (c :: (cutc 59 l).1, (cutc 59 l).2) := by
        conv => lhs; unfold cutc
        rw [if_neg hn.1]
      rw [h1, hcu]
      unfold Lib.indexAny
      rw [hcon]
      rcases index_sign l with ⟨h2, h3, h4⟩ | ⟨h2, h3, h4⟩
      · left
        have : Lib.indexAny l [59, 61] = -1 := by
          have := Lib.indexAny_ge [59, 61] l
          omega
        rw [this, h4]
        exact ⟨by decide, by simp [h3], rfl⟩
      · right
        rw [h2]
        have h5 : ((signAt l : Int) == -1) = false := beq_eq_false_iff_ne.2 (by omega)
        simp only [Bool.false_eq_true, if_false, h5]
        refine ⟨by omega, by simp only [List.length_cons]; omega, ?_⟩
        rcases h4 with ⟨h6, h7⟩ | h6
        · left; rw [h7]; exact ⟨by simpa using h6, by simp⟩
        · right; simpa using h6
theorem qv_rest : ∀ (n : Nat) (l : List UInt8), l.length ≤ n → (qv l).2 = [] ∨ ∃ t, (qv l).2 = 34 :: t := by
  intro n
  induction n with
  | zero => intro l h; left; rw [List.eq_nil_of_length_eq_zero (Nat.le_zero.1 h)]; rfl
  | succ n ih =>
    intro l h
    cases l with
    | nil => left; rfl
    | cons c l =>
      simp only [List.length_cons] at h
      by_cases h34 : c = 34
      · right; rw [h34, qv_q]; exact ⟨l, rfl⟩
      · by_cases h92 : c = 92
        · cases l with
          | nil => left; rw [h92]; rfl
          | cons d l => rw [h92, qv_b]; exact ih l (by simp at h; omega)
        · rw [qv_c _ _ h34 h92]; exact ih l (by omega)
theorem qv_cut (l : List UInt8) : (cutc 59 ((qv l).2.drop 1)).2 = (cutc 59 (qv l).2).2 := by
  rcases qv_rest l.length l (Nat.le_refl _) with h | ⟨t, h⟩
  · rw [h]; rfl
  · rw [h]
    show (cutc 59 t).2 = _
    conv => rhs; unfold cutc
    rw [if_neg (by decide)]
theorem hasP_any (n : ByteArray) : ∀ ps : List Prm, (hasP ps n).2 = ps.any (fun p => p.f0.toList == n.toList)
  | [] => rfl
  | p :: ps => by
    have ih := hasP_any n ps
    unfold hasP at ih ⊢
    rw [findP, List.any_cons]
    by_cases h : p.f0.toList = n.toList
    · rw [if_pos h, beq_iff_eq.2 h]; rfl
    · rw [if_neg h, ih, beq_eq_false_iff_ne.2 h, Bool.false_or]
def refAdd (ps : List Prm) (n v : List UInt8) : List Prm := if (isTok n && isFine v) = true then (if ps.any (fun p => p.f0.toList == n) = true then ps else ps ++ [⟨B n, B v⟩]) else ps
theorem refAdd_add (ps : List Prm) (n v : List UInt8) : refAdd ps n v = addP ps n v true := by
  unfold refAdd addP
  rw [Bool.true_and, hasP_any, toList_B]
theorem refAdd_none (ps : List Prm) (v : List UInt8) : refAdd ps [] v = ps := by
  unfold refAdd
  rw [show isTok [] = false from rfl, Bool.false_and, if_neg (by decide)]
theorem param_ref (ps : List Prm) (rest : List UInt8) : (paramP ps rest).1 = refAdd ps (refParam rest).1 (refParam rest).2.1 ∧ (paramP ps rest).2.2 = (refParam rest).2.2.2 ∧ ((paramP ps rest).2.2 = true → (paramP ps rest).2.1 = (refParam rest).2.2.1) := by
  unfold paramP refParam
  obtain ⟨s, hs⟩ : ∃ s, s = Lib.trimLeftS rest blanksL := ⟨_, rfl⟩
  simp only [← hs]
  rcases index_sign s with ⟨h1, h2, h3⟩ | ⟨h1, h2, h3⟩
  · rw [if_pos h1, if_pos (.inl h2), h3]
    exact ⟨(refAdd_none _ _).symm, by first | rfl | trivial, fun h => by cases h⟩
  · rw [if_neg (by omega), h1, Int.toNat_natCast]
    rcases h3 with ⟨h3, h4⟩ | h3
    · rw [if_pos (by rw [List.getD_eq_getElem?_getD, h3]; rfl), if_pos (.inr h3), h4]
      exact ⟨(refAdd_none _ _).symm, by first | rfl | trivial, fun _ => by first | rfl | trivial⟩
    · rw [if_neg (by rw [List.getD_eq_getElem?_getD, h3]; decide), if_neg (by rw [h3]; simp; omega)]
      obtain ⟨t, ht⟩ : ∃ t, t = s.drop (signAt s + 1) := ⟨_, rfl⟩
      rw [← ht]
      unfold paramQ
      by_cases hp : [34].isPrefixOf t = true
      · rw [if_pos hp, if_pos hp]
        simp only [qv_cut]
        exact ⟨(refAdd_add _ _ _).symm, by first | rfl | trivial, fun _ => by first | rfl | trivial⟩
      · rw [if_neg hp, if_neg hp]
        by_cases hv : (Lib.trimRightS (cutc 59 t).1 blanksL).isEmpty = true
        · rw [if_pos hv]
          simp only [hv]
          refine ⟨?_, by first | rfl | trivial, fun _ => by first | rfl | trivial⟩
          rw [refAdd_none]
          unfold addP
          rw [if_neg (by simp)]
        · rw [if_neg hv]
          have hv' : (Lib.trimRightS (cutc 59 t).1 blanksL).isEmpty = false := by simpa using hv
          simp only [hv']
          exact ⟨(refAdd_add _ _ _).symm, by first | rfl | trivial, fun _ => by first | rfl | trivial⟩
theorem refParam_f (l : List UInt8) (h : l.length ≤ 900000000) : ostiaryref6_param.f (B l) = some (B (refParam l).1, B (refParam l).2.1, B (refParam l).2.2.1, (refParam l).2.2.2) := by
  unfold ostiaryref6_param.f
  rw [if_pos (by rw [size_B]; exact h), Ls_B]
theorem rdR_at {ps : List RPrm} {i : Nat} (h : i < ps.length) : rd_T89 ps (i : Int) = ps[i] := by
  unfold rd_T89
  rw [Int.toNat_natCast, List.getD_eq_getElem?_getD, List.getElem?_eq_getElem h]; rfl
theorem refParse_l1 (left : ByteArray) (more : Bool) (mj mn : ByteArray) (ps : List Prm) (hl : ps.length ≤ 1000000000) (n v : List UInt8) (hn : n.length ≤ 900000000) (hv : v.length ≤ 900000000) {r : ByteArray × ByteArray × List RPrm × Bool}
    (hk : Ev (fun k => ostiaryref6_Parse.l0 k left more mj mn ((refAdd ps n v).map toR)) r) : ∀ (d i : Nat), i + d = ps.length →
    Ev (fun k => ostiaryref6_Parse.l1 k left more ((ps.take i).any (fun p => p.f0.toList == n)) (i : Int) mj mn (ps.map toR) (B n) (B v)) r
  | 0, i, h => by
    have ht : ps.take i = ps := List.take_of_length_le (by omega)
    rw [ht]
    refine Ev.step (f := fun k => (ostiaryref1_Token.f k (B n)).bind fun t121 => (if t121 = true then ((ostiaryref6_value.f k (B v)).bind fun t122 => (if t122 = true then (if (ps.any (fun p => p.f0.toList == n)) = true then (ostiaryref6_Parse.l0 k left more mj mn (ps.map toR)) else (if (ps.map toR).length < 4398046511104 then (ostiaryref6_Parse.l0 k left more mj mn (ps.map toR ++ [(⟨B n, B v⟩ : RPrm)])) else (none))) else (ostiaryref6_Parse.l0 k left more mj mn (ps.map toR)))) else (ostiaryref6_Parse.l0 k left more mj mn (ps.map toR)))) (fun k => ?_) ?_
    · simp only [ostiaryref6_Parse.l1]
      rw [if_neg (by rw [List.length_map]; omega)]
    · refine Ev.bnd (refToken_ev n (by omega)) ?_
      unfold refAdd at hk
      cases h1 : isTok n with
      | false => rw [h1, Bool.false_and, if_neg (by decide)] at hk; exact Ev.ite_neg (by decide) hk
      | true =>
        rw [h1, Bool.true_and] at hk
        refine Ev.ite_pos rfl (Ev.bnd (refValue_ev v (by omega)) ?_)
        cases h2 : isFine v with
        | false => rw [h2, if_neg (by decide)] at hk; exact Ev.ite_neg (by decide) hk
        | true =>
          rw [h2, if_pos rfl] at hk
          refine Ev.ite_pos rfl ?_
          cases h3 : ps.any (fun p => p.f0.toList == n) with
          | true => rw [h3, if_pos rfl] at hk; exact Ev.ite_pos rfl hk
          | false =>
            rw [h3, if_neg (by decide), List.map_append] at hk
            exact Ev.ite_neg (by decide) (Ev.ite_pos (by rw [List.length_map]; omega) hk)
  | d + 1, i, h => by
    have hi : i < ps.length := by omega
    have ih := refParse_l1 left more mj mn ps hl n v hn hv hk d (i + 1) (by omega)
    rw [List.take_succ_eq_append_getElem hi, List.any_append, List.any_cons, List.any_nil, Bool.or_false] at ih
    have hw : wrap64 ((i : Int) + 1) = ((i + 1 : Nat) : Int) := by rw [w64 (by omega) (by omega)]; rfl
    have hil : i < (ps.map toR).length := by rw [List.length_map]; exact hi
    refine Ev.step (fun k => ?_) ih
    simp only [ostiaryref6_Parse.l1]
    rw [if_pos (by omega), hw]
    cases h1 : (ps.take i).any (fun p => p.f0.toList == n) with
    | true => rw [if_pos rfl, Bool.true_or]
    | false => rw [if_neg (by decide), if_pos (by omega), rdR_at hil, Bool.false_or, List.getElem_map, toList_B n]; rfl
theorem refParse_l0 (mj mn : ByteArray) : ∀ (n : Nat) (more : Bool) (ps : List Prm) (rest : List UInt8), ps.length + n ≤ 1000000000 → rest.length ≤ 900000000 → (more = true → rest.length < n) →
    Ev (fun k => ostiaryref6_Parse.l0 k (B rest) more mj mn (ps.map toR)) (mj, mn, (paramsN n more ps rest).map toR, true)
  | 0, more, ps, rest, hp, hr, hm => by
    cases more with
    | true => exact absurd (hm rfl) (by omega)
    | false =>
      refine Ev.step (f := fun _ => some (mj, mn, ps.map toR, true)) (fun k => ?_) (Ev.now _)
      simp only [ostiaryref6_Parse.l0]
      rw [if_neg (by decide)]
  | n + 1, more, ps, rest, hp, hr, hm => by
    unfold paramsN
    cases more with
    | false =>
      rw [if_neg (by decide)]
      refine Ev.step (f := fun _ => some (mj, mn, ps.map toR, true)) (fun k => ?_) (Ev.now _)
      simp only [ostiaryref6_Parse.l0]
      rw [if_neg (by decide)]
    | true =>
      rw [if_pos rfl]
      obtain ⟨h1, h2, h3⟩ := param_ref ps rest
      have hlen := paramP_len ps rest
      have hle := paramP_le ps rest
      have hmore := paramP_more ps rest
      have hlt := hm rfl
      have hpf := refParam_f rest hr
      obtain ⟨q, hq⟩ : ∃ q, q = refParam rest := ⟨_, rfl⟩
      rw [← hq] at h1 h2 h3 hpf
      have hq1 : q.1.length ≤ 900000000 ∧ q.2.1.length ≤ 900000000 := by
        rw [hq]
        have hb := trimLeft_len' rest blanksL
        unfold refParam
        obtain ⟨s, hs⟩ : ∃ s, s = Lib.trimLeftS rest blanksL := ⟨_, rfl⟩
        rw [← hs] at hb
        simp only [← hs]
        have h9 := qv_len _ (s.drop (signAt s + 1)).tail (Nat.le_refl _)
        rw [List.length_tail, List.length_drop] at h9
        have h10 := trimRight_len' (cutc 59 (s.drop (signAt s + 1))).1 blanksL
        have h11 := (cutc_len' 59 (s.drop (signAt s + 1))).1
        rw [List.length_drop] at h11
        split
        · simp
        · split
          · simp only [lows_len, List.length_take]; omega
          · split
            · simp
            · simp only [lows_len, List.length_take]; omega
      have hgo : Ev (fun k => ostiaryref6_Parse.l0 k (B q.2.2.1) q.2.2.2 mj mn ((refAdd ps q.1 q.2.1).map toR)) (mj, mn, (paramsN n (paramP ps rest).2.2 (paramP ps rest).1 (paramP ps rest).2.1).map toR, true) := by
        rw [← h1, ← h2]
        cases hb : (paramP ps rest).2.2 with
        | true =>
          rw [← h3 hb]
          exact refParse_l0 mj mn n true (paramP ps rest).1 (paramP ps rest).2.1 (by omega) (by omega) (fun _ => by have := hmore hb; omega)
        | false =>
          have he : paramsN n false (paramP ps rest).1 (paramP ps rest).2.1 = (paramP ps rest).1 := by
            cases n with
            | zero => rfl
            | succ n => unfold paramsN; rw [if_neg (by decide)]
          rw [he]
          refine Ev.step (f := fun _ => some (mj, mn, (paramP ps rest).1.map toR, true)) (fun k => ?_) (Ev.now _)
          simp only [ostiaryref6_Parse.l0]
          rw [if_neg (by decide)]
      have h1l := refParse_l1 (B q.2.2.1) q.2.2.2 mj mn ps (by omega) q.1 q.2.1 hq1.1 hq1.2 hgo ps.length 0 (by omega)
      refine Ev.step (f := fun k => ostiaryref6_Parse.l1 k (B q.2.2.1) q.2.2.2 false 0 mj mn (ps.map toR) (B q.1) (B q.2.1)) (fun k => ?_) (by simpa using h1l)
      simp only [ostiaryref6_Parse.l0]
      rw [if_pos trivial, hpf]
      rfl
theorem refParse_ev (l : List UInt8) (hl : l.length ≤ 400000000) : Ev (fun k => ostiaryref6_Parse.f k (B l)) (B (parseP l).1, B (parseP l).2.1, (parseP l).2.2.1.map toR, (parseP l).2.2.2) := by
  unfold ostiaryref6_Parse.f
  refine Ev.bnd (refTrim_ev l false (by omega)) ?_
  unfold parseP
  have hs : (Lib.trimS l blanksL).length ≤ l.length := trimS_len l
  rw [show blankS false = blanksL from rfl]
  obtain ⟨s, hse⟩ : ∃ s, s = Lib.trimS l blanksL := ⟨_, rfl⟩
  rw [← hse] at hs ⊢
  simp only
  refine Ev.bnd (part_ev 47 s (by omega)) ?_
  have h1 := cutc_len' 47 s
  refine Ev.bnd (part_ev 59 _ (by omega)) ?_
  have h2 := cutc_len' 59 (cutc 47 s).2.1
  refine Ev.bnd (back_ev _ (by omega)) ?_
  have h3 := trimRight_len' (cutc 59 (cutc 47 s).2.1).1 blanksL
  obtain ⟨mn, hmn⟩ : ∃ mn, mn = Lib.trimRightS (cutc 59 (cutc 47 s).2.1).1 blanksL := ⟨_, rfl⟩
  rw [← hmn] at h3 ⊢
  have hno : ∀ (b2 : ByteArray) (b3 : Bool), Ev (fun k => ostiaryref6_Parse.j0 k (B (cutc 47 s).1) (B mn) b2 b3 true) (B [], B [], ([] : List RPrm), false) := fun b2 b3 => by
    refine Ev.step (f := fun _ => some (B [], B [], ([] : List RPrm), false)) (fun k => ?_) (Ev.now _)
    simp only [ostiaryref6_Parse.j0]
    rw [if_pos trivial]
  cases hc : (cutc 47 s).2.2 with
  | false =>
    have hmn0 : mn = [] := by
      rcases cutc_index 47 s with ⟨_, h⟩ | ⟨_, _, h⟩
      · rw [hmn, h]; rfl
      · rw [h] at hc; cases hc
    refine Ev.ite_neg (by decide) ?_
    have h0 : isTok mn = false := by rw [hmn0]; rfl
    rw [h0]
    have : (if isTok (cutc 47 s).1 = true then (if false = true then (lows (cutc 47 s).1, lows mn, paramsN ((cutc 59 (cutc 47 s).2.1).2.1.length + 1) (cutc 59 (cutc 47 s).2.1).2.2 [] (cutc 59 (cutc 47 s).2.1).2.1, true) else ([], [], [], false)) else ([], [], [], false)) = (([], [], [], false) : List UInt8 × List UInt8 × List Prm × Bool) := by split <;> rfl
    rw [this]
    exact hno _ _
  | true =>
    refine Ev.ite_pos rfl ?_
    refine Ev.bnd (refToken_ev _ (by omega)) ?_
    cases ht1 : isTok (cutc 47 s).1 with
    | false =>
      refine Ev.ite_neg (by decide) ?_
      rw [if_neg (by decide)]
      exact hno _ _
    | true =>
      refine Ev.ite_pos rfl (Ev.bnd (refToken_ev mn (by omega)) ?_)
      rw [if_pos rfl]
      cases ht2 : isTok mn with
      | false =>
        rw [if_neg (by decide)]
        exact hno _ _
      | true =>
        rw [if_pos rfl]
        have hgo := refParse_l0 (B (lows (cutc 47 s).1)) (B (lows mn)) ((cutc 59 (cutc 47 s).2.1).2.1.length + 1) (cutc 59 (cutc 47 s).2.1).2.2 [] (cutc 59 (cutc 47 s).2.1).2.1 (by simp; omega) (by omega) (fun _ => by omega)
        refine Ev.step (fun k => ?_) hgo
        simp only [ostiaryref6_Parse.j0]
        rw [if_neg (by decide), refLower_f _ (by omega), refLower_f _ (by omega)]
        rfl
end Go.Proofs.YteehjlciajhdoaaGreatDoor.X
namespace Go.Proofs.YteehjlciajhdoaaGreatDoor.X
open Go.RowKit Go.Proofs.YteehjlciajhdoaaGreatDoorW.PrintWords Go.Proofs.YteehjlciajhdoaaGreatDoorW.PrintLast Go.Proofs.YteehjlciajhdoaaGreatDoorW.PrintMore
attribute [local go_sem] max2_int min2_int max_two min_two max_three min_three max_four min_four
set_option linter.unusedVariables false
set_option linter.unusedSimpArgs false
def ostiaryref1_Has.l0 : Nat → List ByteArray → ByteArray → Int → Option (Bool)
  | 0, _, _, _ => none
  | k + 1, x0, x1, x5 => if x5 < (x0.length : Int) then (if 0 ≤ x5 then (if (rdOf ByteArray.empty x0 x5).toList = x1.toList then (some true) else (ostiaryref1_Has.l0 k x0 x1 (wrap64 (x5 + 1)))) else (none)) else (some false)
def ostiaryref1_Has.f (k : Nat) (l0 : List ByteArray) (a1 : ByteArray) : Option (Bool) := ostiaryref1_Has.l0 k l0 a1 0
theorem ostiaryref1_Has.mono_l : ∀ k, (∀ y0 y1 y2, LeO (ostiaryref1_Has.l0 k y0 y1 y2) (ostiaryref1_Has.l0 (k + 1) y0 y1 y2))
  | 0 => fun _ _ _ r h => by simp [ostiaryref1_Has.l0] at h
  | k + 1 => by
    have ih0 := ostiaryref1_Has.mono_l k
    · intro y0 y1 y2
      unfold ostiaryref1_Has.l0
      repeat' first
      | (with_reducible exact ih0 _ _ _)
      | (with_reducible exact LeO.refl _)
      | (with_reducible exact LeO.none _)
      | (with_reducible refine LeO.ite ?_ ?_)
      | (with_reducible refine LeO.bind ?_ (fun _ => ?_))
      | exact ih0 _ _ _
      | exact LeO.none _
      | refine LeO.ite ?_ ?_
      | refine LeO.bind ?_ (fun _ => ?_)
theorem ostiaryref1_Has.mono : ∀ a0 a1 k, LeO (ostiaryref1_Has.f k a0 a1) (ostiaryref1_Has.f (k + 1) a0 a1) := by
  intro a0 a1 k
  have ih0 := ostiaryref1_Has.mono_l k
  unfold ostiaryref1_Has.f
  repeat' first
      | (with_reducible exact ih0 _ _ _)
      | (with_reducible exact LeO.refl _)
      | (with_reducible exact LeO.none _)
      | (with_reducible refine LeO.ite ?_ ?_)
      | (with_reducible refine LeO.bind ?_ (fun _ => ?_))
      | exact ih0 _ _ _
      | exact LeO.none _
      | refine LeO.ite ?_ ?_
      | refine LeO.bind ?_ (fun _ => ?_)
set_option maxHeartbeats 8000000 in
set_option maxRecDepth 100000 in
theorem ostiaryref1_Has.calls (k : Nat) (A0 : Option Addr) (c0 : Nat) (l0 : List ByteArray) (a1 : ByteArray) (r : Bool) (w : World) (hr0 : Kd.C Kd.string w A0 l0.length l0) (hc0 : l0.length ≤ c0) (h : ostiaryref1_Has.f k l0 a1 = some r) :
    Calls Tryz.prog 80 #[.slice A0 l0.length c0, .string a1] w fun e w' => e = .returned (.bool r) ∧ Drawn0 w w' := by
  have HR0 := Aside0.mk hr0
  have HC0 := Aside0.mk hc0
  clear hr0 hc0
  have H : (ostiaryref1_Has.l0 k l0 a1 0) = some r := h
  clear h
  have H' := Aside0.mk H
  clear H
  go_enter Tryz.func80, Tryz.ntmps80
  go_wp2
  go_loopg [5] k (fun kq v5 w' => ∃ (x5_1 : Int), v5 = .int .i64 x5_1 ∧ Aside0 (ostiaryref1_Has.l0 kq l0 a1 x5_1 = some r) ∧ Aside0 (kq ≤ k) ∧ Drawn0 w w')
  case atStart => exact ⟨(0), (by first | rfl | (simp; done) | (simp [*]; done)), H', ⟨Nat.le_refl _⟩, by repeat (first | exact Drawn0.refl _ | apply Drawn0.step)⟩
  case round =>
    clear H'
    try clear p2
    obtain ⟨x5_1, rfl, HA, HK1, ⟨m1, rfl⟩⟩ := hrel
    cases gk with
    | zero => exact absurd HA.out (by simp [ostiaryref1_Has.l0])
    | succ k1 =>
      have H := HA.out
      clear HA
      simp only [ostiaryref1_Has.l0] at H
      by_cases c3 : x5_1 < (l0.length : Int)
      · rw [if_pos c3] at H
        have c3b0 : decide (x5_1 < (l0.length : Int)) = true := decide_eq_true c3
        clear c3
        by_cases c4 : 0 ≤ x5_1
        · rw [if_pos c4] at H
          have c4b0 : decide (0 ≤ x5_1) = true := decide_eq_true c4
          clear c4
          by_cases c5 : (rdOf ByteArray.empty l0 x5_1).toList = a1.toList
          · rw [if_pos c5] at H
            have c5b0 : ((rdOf ByteArray.empty l0 x5_1).toList == a1.toList) = true := beq_iff_eq.mpr c5
            have c5b1 : ((rdOf ByteArray.empty l0 x5_1).toList != a1.toList) = false := bne_eq_false_iff_eq.mpr c5
            clear c5
            obtain rfl := Option.some.inj H
            have p101 : 0 ≤ (x5_1 : Int) := of_decide_eq_true (by first | (with_reducible assumption) | assumption)
            have q101 : x5_1 < (l0.length : Int) := of_decide_eq_true (by first | (with_reducible assumption) | assumption)
            obtain ⟨ad101, e101, hx101_0⟩ := Kd.at_string HR0.out x5_1 p101 q101
            cases e101
            replace p101 := eq_true p101
            replace q101 := eq_true q101
            go_wp2
            go_ret
            exact ⟨by first | rfl | (simp; done) | (simp [*]; done), by repeat (first | exact Drawn0.refl _ | apply Drawn0.step)⟩
          · rw [if_neg c5] at H
            have c5b0 : ((rdOf ByteArray.empty l0 x5_1).toList == a1.toList) = false := beq_eq_false_iff_ne.mpr c5
            have c5b1 : ((rdOf ByteArray.empty l0 x5_1).toList != a1.toList) = true := bne_iff_ne.mpr c5
            have H' := Aside0.mk H
            clear H
            have p101 : 0 ≤ (x5_1 : Int) := of_decide_eq_true (by first | (with_reducible assumption) | assumption)
            have q101 : x5_1 < (l0.length : Int) := of_decide_eq_true (by first | (with_reducible assumption) | assumption)
            obtain ⟨ad101, e101, hx101_0⟩ := Kd.at_string HR0.out x5_1 p101 q101
            cases e101
            replace p101 := eq_true p101
            replace q101 := eq_true q101
            go_wp2
            go_roundg k1
            case measure => have := HK1.out; omega
            case rel => exact ⟨(wrap64 (x5_1 + 1)), (by first | rfl | (simp; done) | (simp [*]; done)), H', ⟨by have := HK1.out; omega⟩, by repeat (first | exact Drawn0.refl _ | apply Drawn0.step)⟩
        · rw [if_neg c4] at H
          exact absurd H (by simp)
      · rw [if_neg c3] at H
        have c3b0 : decide (x5_1 < (l0.length : Int)) = false := decide_eq_false c3
        clear c3
        obtain rfl := Option.some.inj H
        go_wp2
        go_ret
        exact ⟨by first | rfl | (simp; done) | (simp [*]; done), by repeat (first | exact Drawn0.refl _ | apply Drawn0.step)⟩
end Go.Proofs.YteehjlciajhdoaaGreatDoor.X
namespace Go.Proofs.YteehjlciajhdoaaGreatDoor.X
open Go.RowKit Go.Proofs.YteehjlciajhdoaaGreatDoorW.PrintWords Go.Proofs.YteehjlciajhdoaaGreatDoorW.PrintLast Go.Proofs.YteehjlciajhdoaaGreatDoorW.PrintMore
attribute [local go_sem] max2_int min2_int max_two min_two max_three min_three max_four min_four
set_option linter.unusedVariables false
set_option linter.unusedSimpArgs false
def ostiaryref1_Ends.f (a0 : ByteArray) (a1 : ByteArray) : Option (Bool) := if (a0.size : Int) ≥ (a1.size : Int) then (if 0 ≤ (wrap64 ((a0.size : Int) - (a1.size : Int))) then (if (wrap64 ((a0.size : Int) - (a1.size : Int))) ≤ (a0.size : Int) then (some ((a0.extract ((wrap64 ((a0.size : Int) - (a1.size : Int))) : Int).toNat a0.size).toList == a1.toList)) else (none)) else (none)) else (some false)
set_option maxHeartbeats 8000000 in
set_option maxRecDepth 100000 in
theorem ostiaryref1_Ends.calls (a0 : ByteArray) (a1 : ByteArray) (r : Bool) (w : World) (h : ostiaryref1_Ends.f a0 a1 = some r) :
    Calls Tryz.prog 81 #[.string a0, .string a1] w fun e w' => e = .returned (.bool r) ∧ Drawn0 w w' := by
  have H : (if (a0.size : Int) ≥ (a1.size : Int) then (if 0 ≤ (wrap64 ((a0.size : Int) - (a1.size : Int))) then (if (wrap64 ((a0.size : Int) - (a1.size : Int))) ≤ (a0.size : Int) then (some ((a0.extract ((wrap64 ((a0.size : Int) - (a1.size : Int))) : Int).toNat a0.size).toList == a1.toList)) else (none)) else (none)) else (some false)) = some r := h
  clear h
  by_cases c3 : (a0.size : Int) ≥ (a1.size : Int)
  · rw [if_pos c3] at H
    have c3b0 : decide ((a1.size : Int) ≤ (a0.size : Int)) = true := decide_eq_true c3
    have c3b1 : decide (a1.size ≤ a0.size) = true := decide_eq_true (Int.ofNat_le.mp c3)
    clear c3
    obtain ⟨ji4, hji4⟩ : ∃ j_ : Int, (wrap64 ((a0.size : Int) - (a1.size : Int))) = j_ := ⟨_, rfl⟩
    replace H : (if 0 ≤ (ji4) then (if (ji4) ≤ (a0.size : Int) then (some ((a0.extract ((ji4) : Int).toNat a0.size).toList == a1.toList)) else (none)) else (none)) = some r := by first | (rw [hji4] at H; exact H) | (simp only [hji4] at H ⊢; exact H)
    have hji4w : (IntKind.i64.wrap ((a0.size : Int) - (a1.size : Int))) = ji4 := (i64_w _).trans hji4
    by_cases c5 : 0 ≤ (ji4)
    · rw [if_pos c5] at H
      have c5b0 := eq_true c5
      have c5b1 : decide (0 ≤ (ji4)) = true := decide_eq_true c5
      clear c5
      by_cases c6 : (ji4) ≤ (a0.size : Int)
      · rw [if_pos c6] at H
        have c6b0 := eq_true c6
        have c6b1 : decide ((ji4) ≤ (a0.size : Int)) = true := decide_eq_true c6
        clear c6
        obtain rfl := Option.some.inj H
        go_enter Tryz.func81, Tryz.ntmps81
        go_wp2
        go_ret
        exact ⟨by first | rfl | (simp; done) | (simp only [← hji4] <;> (first | rfl | simp)) | (simp [*]; done), by repeat (first | exact Drawn0.refl _ | apply Drawn0.step)⟩
      · rw [if_neg c6] at H
        exact absurd H (by simp)
    · rw [if_neg c5] at H
      exact absurd H (by simp)
  · rw [if_neg c3] at H
    have c3b0 : decide ((a1.size : Int) ≤ (a0.size : Int)) = false := decide_eq_false c3
    have c3b1 : decide (a1.size ≤ a0.size) = false := decide_eq_false (fun h => c3 (Int.ofNat_le.mpr h))
    clear c3
    obtain rfl := Option.some.inj H
    go_enter Tryz.func81, Tryz.ntmps81
    go_wp2
    go_ret
    exact ⟨by first | rfl | (simp; done) | (simp [*]; done), by repeat (first | exact Drawn0.refl _ | apply Drawn0.step)⟩
end Go.Proofs.YteehjlciajhdoaaGreatDoor.X
