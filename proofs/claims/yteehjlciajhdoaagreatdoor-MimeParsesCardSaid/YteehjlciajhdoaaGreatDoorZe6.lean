/- E17, F27, F30, F28, F138, F78, F139, F79, F31: this session's texts, joined; what the claim does not name is left out. -/
import Derived.Test.YteehjlciajhdoaaGreatDoorZe5
namespace Go.Proofs.YteehjlciajhdoaaGreatDoor.X
set_option linter.unusedVariables false
set_option linter.unusedSimpArgs false
open Go.RowKit Go.Proofs.YteehjlciajhdoaaGreatDoorW.PrintWords Go.Proofs.YteehjlciajhdoaaGreatDoorW.PrintLast Go.Proofs.YteehjlciajhdoaaGreatDoorW.PrintMore
abbrev jsR : List ByteArray := [(⟨#[106, 97, 118, 97, 115, 99, 114, 105, 112, 116]⟩ : ByteArray), (⟨#[101, 99, 109, 97, 115, 99, 114, 105, 112, 116]⟩ : ByteArray), (⟨#[120, 45, 106, 97, 118, 97, 115, 99, 114, 105, 112, 116]⟩ : ByteArray), (⟨#[120, 45, 101, 99, 109, 97, 115, 99, 114, 105, 112, 116]⟩ : ByteArray)]
def hasRB (l : List ByteArray) (x : ByteArray) : Bool := l.any (fun y => y.toList == x.toList)
def endsR (l p : List UInt8) : Bool := if l.length ≥ p.length then l.drop (l.length - p.length) == p else false
theorem endsR_ev (l p : List UInt8) (h : l.length ≤ 1000000000000) : ostiaryref1_Ends.f (B l) (B p) = some (endsR l p) := by
  unfold ostiaryref1_Ends.f endsR
  simp only [size_B]
  by_cases hc : l.length ≥ p.length
  · have hw : wrap64 ((l.length : Int) - (p.length : Int)) = ((l.length - p.length : Nat) : Int) := by rw [w64 (by omega) (by omega)]; omega
    have hx : (B l).extract ((l.length - p.length : Nat) : Int).toNat l.length = B (l.drop (l.length - p.length)) := by
      have := ext_from l (l.length - p.length)
      rwa [size_B] at this
    rw [if_pos (by omega), if_pos hc, hw, if_pos (by omega), if_pos (by omega), hx, toList_B, toList_B]
  · rw [if_neg (by omega), if_neg hc]
theorem rdS_at {l : List ByteArray} {i : Nat} (h : i < l.length) : rdOf ByteArray.empty l (i : Int) = l[i] := by
  unfold rdOf
  rw [Int.toNat_natCast, List.getD_eq_getElem?_getD, List.getElem?_eq_getElem h]; rfl
theorem hasRB_l0 (l : List ByteArray) (x : ByteArray) (hl : l.length ≤ 1000000) : ∀ (d i : Nat), i + d = l.length → Ev (fun k => ostiaryref1_Has.l0 k l x (i : Int)) (hasRB (l.drop i) x)
  | 0, i, h => by
    rw [List.drop_of_length_le (by omega)]
    refine Ev.step (f := fun _ => some false) (fun k => ?_) (Ev.now _)
    simp only [ostiaryref1_Has.l0]
    rw [if_neg (by omega)]
  | d + 1, i, h => by
    have hi : i < l.length := by omega
    have ih := hasRB_l0 l x hl d (i + 1) (by omega)
    rw [List.drop_eq_getElem_cons hi]
    unfold hasRB at ih ⊢
    rw [List.any_cons]
    refine Ev.step (f := fun k => if l[i].toList = x.toList then some true else ostiaryref1_Has.l0 k l x ((i + 1 : Nat) : Int)) (fun k => ?_) ?_
    · simp only [ostiaryref1_Has.l0]
      rw [if_pos (by omega), if_pos (by omega), rdS_at hi, w64 (by omega) (by omega)]
      rfl
    · by_cases hc : l[i].toList = x.toList
      · rw [beq_iff_eq.2 hc, Bool.true_or]; exact Ev.ite_pos hc (Ev.now _)
      · rw [beq_eq_false_iff_ne.2 hc, Bool.false_or]; exact Ev.ite_neg hc ih
theorem hasRB_ev (l : List ByteArray) (x : ByteArray) (hl : l.length ≤ 1000000) : Ev (fun k => ostiaryref1_Has.f k l x) (hasRB l x) := by
  have := hasRB_l0 l x hl l.length 0 (by omega)
  rw [List.drop_zero] at this
  exact this
def gB (A T HJ J S ES X EX I C D V : Bool) : Int :=
  if ((A || T) && HJ) = true then 1 else if (T && J) = true then 1 else if ((A || T) && S) = true then 2 else if ES = true then 2 else if ((A || T) && X) = true then 3 else if EX = true then 3 else if I = true then 4 else if (T && C) = true then 5 else if (D || V) = true then 6 else 0
def refGroupP (mj mn : List UInt8) : Int :=
  gB (mj == [97, 112, 112, 108, 105, 99, 97, 116, 105, 111, 110]) (mj == [116, 101, 120, 116]) (hasRB jsR (B mn)) (mn == [106, 115, 99, 114, 105, 112, 116]) (mn == [106, 115, 111, 110]) (endsR mn [43, 106, 115, 111, 110])
    (mn == [120, 109, 108]) (endsR mn [43, 120, 109, 108]) (mj == [105, 109, 97, 103, 101]) (mn == [99, 115, 115]) (mj == [97, 117, 100, 105, 111]) (mj == [118, 105, 100, 101, 111])
def ostiaryref6_Group.f (a0_0 a0_1 : ByteArray) (l0_2 : List S89) : Option Int := if a0_1.size ≤ 1000000000 then some (refGroupP (Ls a0_0) (Ls a0_1)) else none
theorem js_reads (W : World) (g : Nat) (h : W.heap[g]? = some (.cells #[.string jsR[0], .string jsR[1], .string jsR[2], .string jsR[3]] 9 (0, 0))) : Kd.C Kd.string W (some ⟨g, 0, none⟩) jsR.length jsR := by
  refine Kd.C_of_reads (d := ByteArray.empty) ⟨rfl, by decide, fun _ => ⟨_, rfl, fun j hj => ?_⟩⟩
  have h4 : j = 0 ∨ j = 1 ∨ j = 2 ∨ j = 3 := by simp at hj; omega
  rcases h4 with rfl | rfl | rfl | rfl <;> exact (blk_cell h _).trans rfl
set_option maxHeartbeats 4000000 in
set_option maxRecDepth 100000 in
theorem ostiaryref6_Group.calls (a0_0 a0_1 : ByteArray) (A0_2 : Option Addr) (c0_2 : Nat) (l0_2 : List S89) (r : Int) (w : World) (hr0_2 : Kd.C k89 w A0_2 l0_2.length l0_2) (hc0_2 : l0_2.length ≤ c0_2) (h : ostiaryref6_Group.f a0_0 a0_1 l0_2 = some r) :
    Calls Tryz.prog 32 #[.agg #[.string a0_0, .string a0_1, .slice A0_2 l0_2.length c0_2]] w fun e w' => e = .returned (.int .i64 r) ∧ Below w.heap.size w w' := by
  have hu := Tryz.underlying48
  unfold ostiaryref6_Group.f at h
  split at h
  case isFalse => cases h
  rename_i hsz
  have hr := Option.some.inj h
  clear h hr0_2
  obtain ⟨mj, rfl⟩ : ∃ mj, a0_0 = B mj := ⟨Ls a0_0, (B_Ls _).symm⟩
  obtain ⟨mn, rfl⟩ : ∃ mn, a0_1 = B mn := ⟨Ls a0_1, (B_Ls _).symm⟩
  rw [Ls_B, Ls_B] at hr
  rw [size_B] at hsz
  unfold refGroupP at hr
  obtain ⟨kh, hkh⟩ := Ev.rounds (hasRB_ev jsR (B mn) (by decide))
  have hE1 : ostiaryref1_Ends.f (B mn) (B [43, 106, 115, 111, 110]) = some (endsR mn [43, 106, 115, 111, 110]) := endsR_ev mn _ (by omega)
  have hE2 : ostiaryref1_Ends.f (B mn) (B [43, 120, 109, 108]) = some (endsR mn [43, 120, 109, 108]) := endsR_ev mn _ (by omega)
  obtain ⟨x, hx⟩ : ∃ x, x = B mj := ⟨_, rfl⟩
  obtain ⟨y, hy⟩ : ∃ y, y = B mn := ⟨_, rfl⟩
  have bA : (x.toList == [97, 112, 112, 108, 105, 99, 97, 116, 105, 111, 110]) = (mj == [97, 112, 112, 108, 105, 99, 97, 116, 105, 111, 110]) := by rw [hx, toList_B]
  have bT : (x.toList == [116, 101, 120, 116]) = (mj == [116, 101, 120, 116]) := by rw [hx, toList_B]
  have bI : (x.toList == [105, 109, 97, 103, 101]) = (mj == [105, 109, 97, 103, 101]) := by rw [hx, toList_B]
  have bD : (x.toList == [97, 117, 100, 105, 111]) = (mj == [97, 117, 100, 105, 111]) := by rw [hx, toList_B]
  have bV : (x.toList == [118, 105, 100, 101, 111]) = (mj == [118, 105, 100, 101, 111]) := by rw [hx, toList_B]
  have bJ : (y.toList == [106, 115, 99, 114, 105, 112, 116]) = (mn == [106, 115, 99, 114, 105, 112, 116]) := by rw [hy, toList_B]
  have bS : (y.toList == [106, 115, 111, 110]) = (mn == [106, 115, 111, 110]) := by rw [hy, toList_B]
  have bX : (y.toList == [120, 109, 108]) = (mn == [120, 109, 108]) := by rw [hy, toList_B]
  have bC : (y.toList == [99, 115, 115]) = (mn == [99, 115, 115]) := by rw [hy, toList_B]
  rw [← hx, ← hy]
  rw [← hy] at hkh hE1 hE2
  generalize (mj == [97, 112, 112, 108, 105, 99, 97, 116, 105, 111, 110]) = A at hr bA
  generalize (mj == [116, 101, 120, 116]) = T at hr bT
  generalize (mj == [105, 109, 97, 103, 101]) = I at hr bI
  generalize (mj == [97, 117, 100, 105, 111]) = D at hr bD
  generalize (mj == [118, 105, 100, 101, 111]) = V at hr bV
  generalize (mn == [106, 115, 99, 114, 105, 112, 116]) = J at hr bJ
  generalize (mn == [106, 115, 111, 110]) = S at hr bS
  generalize (mn == [120, 109, 108]) = X at hr bX
  generalize (mn == [99, 115, 115]) = C at hr bC
  rw [hy] at hkh
  rw [← hy] at hkh hr
  generalize hasRB jsR y = HJ at hr hkh
  generalize endsR mn [43, 106, 115, 111, 110] = ES at hr hE1
  generalize endsR mn [43, 120, 109, 108] = EX at hr hE2
  clear hx hy hsz
  have HR := Aside0.mk hr
  have HKH := Aside0.mk hkh
  have HE1 := Aside0.mk hE1
  have HE2 := Aside0.mk hE2
  clear hr hkh hE1 hE2
  obtain ⟨g, hg⟩ : ∃ g, g = w.heap.size := ⟨_, rfl⟩
  go_enter Tryz.func32, Tryz.ntmps32
  go_upto_region 4 with (fail)
  have HBW := Aside0.mk (p := Below w.heap.size w (w.alloc (.cells #[.string x, .string y, .slice A0_2 l0_2.length c0_2] 48))) (below_alloc (Below.refl _ _) _)
  have HBK := Aside0.mk (p := (w.alloc (.cells #[.string x, .string y, .slice A0_2 l0_2.length c0_2] 48)).heap[g]? = some (.cells #[.string x, .string y, .slice A0_2 l0_2.length c0_2] 48 (0, 0))) (by rw [hg]; exact blk_new w _)
  rw [← hg]
  obtain ⟨w1, hw1⟩ : ∃ w1, w1 = w.alloc (.cells #[.string x, .string y, .slice A0_2 l0_2.length c0_2] 48) := ⟨_, rfl⟩
  rw [← hw1] at HBW HBK ⊢
  clear hg hw1
  go_cut [14] (fun s_ wx => s_ = .bool ((A || T) && HJ) ∧ Aside0 (Below w.heap.size w wx) ∧ Aside0 (wx.heap[g]? = some (.cells #[.string x, .string y, .slice A0_2 l0_2.length c0_2] 48 (0, 0))))
  case first =>
    cases A <;> cases T
    all_goals
      have hz0 := (blk_cell HBK.out 0).trans (rfl : _ = some (Value.string x))
      clear HR
      go_wp2_with (go_at_call 80; refine (ostiaryref1_Has.calls kh (some ⟨w1.heap.size, 0, none⟩) 4 jsR y HJ _ ?hr (by decide) HKH.out).mono ?_; (case hr => exact js_reads _ _ (blk_new w1 _)); rintro e w' ⟨rfl, ⟨nd, rfl⟩⟩)
      go_meet
      case rel => exact ⟨rfl, ⟨by (repeat (first | exact HBW.out | apply below_alloc | apply pw_below_drewN | apply below_drew1))⟩, ⟨by ((with_reducible repeat (first | refine blk_drewN ?_ _ | refine blk_drew ?_ | refine blk_alloc ?_ _)); exact HBK.out)⟩⟩
  case rest =>
    obtain ⟨rfl, HB1, HK1⟩ := hcut
    cases h10_ : ((A || T) && HJ) with
    | true =>
      have HR' := Aside0.mk (p := _ = r) HR.out
      go_wp2
      go_ret
      refine ⟨?_, by (repeat (first | exact HB1.out | apply below_alloc | apply pw_below_drewN | apply below_drew1))⟩
      rw [← HR.out]
      simp [gB, *]
    | false =>
      go_upto_region 5 with (fail)
      go_cut [14] (fun s_ wx => s_ = .bool (T && J) ∧ Aside0 (Below w.heap.size w wx) ∧ Aside0 (wx.heap[g]? = some (.cells #[.string x, .string y, .slice A0_2 l0_2.length c0_2] 48 (0, 0))))
      case first =>
        cases T
        all_goals
          have hz0 := (blk_cell HK1.out 0).trans (rfl : _ = some (Value.string x))
          clear HR
          go_wp2_with (fail)
          go_meet
          case rel => exact ⟨rfl, ⟨by (repeat (first | exact HB1.out | apply below_alloc | apply pw_below_drewN | apply below_drew1))⟩, ⟨by ((with_reducible repeat (first | refine blk_drewN ?_ _ | refine blk_drew ?_ | refine blk_alloc ?_ _)); exact HK1.out)⟩⟩
      case rest =>
        obtain ⟨rfl, HB2, HK2⟩ := hcut
        cases h21_ : (T && J) with
        | true =>
          have HR' := Aside0.mk (p := _ = r) HR.out
          go_wp2
          go_ret
          refine ⟨?_, by (repeat (first | exact HB2.out | apply below_alloc | apply pw_below_drewN | apply below_drew1))⟩
          rw [← HR.out]
          simp [gB, *]
        | false =>
          go_upto_region 7 with (fail)
          go_cut [29] (fun s_ wx => s_ = .bool ((A || T) && S) ∧ Aside0 (Below w.heap.size w wx) ∧ Aside0 (wx.heap[g]? = some (.cells #[.string x, .string y, .slice A0_2 l0_2.length c0_2] 48 (0, 0))))
          case first =>
            cases A <;> cases T
            all_goals
              have hz0 := (blk_cell HK2.out 0).trans (rfl : _ = some (Value.string x))
              clear HR
              go_wp2_with (fail)
              go_meet
              case rel => exact ⟨rfl, ⟨by (repeat (first | exact HB2.out | apply below_alloc | apply pw_below_drewN | apply below_drew1))⟩, ⟨by ((with_reducible repeat (first | refine blk_drewN ?_ _ | refine blk_drew ?_ | refine blk_alloc ?_ _)); exact HK2.out)⟩⟩
          case rest =>
            obtain ⟨rfl, HB3, HK3⟩ := hcut
            cases h32_ : ((A || T) && S) with
            | true =>
              have HR' := Aside0.mk (p := _ = r) HR.out
              go_wp2
              go_ret
              refine ⟨?_, by (repeat (first | exact HB3.out | apply below_alloc | apply pw_below_drewN | apply below_drew1))⟩
              rw [← HR.out]
              simp [gB, *]
            | false =>
              go_upto_region 8 with (fail)
              go_cut [29] (fun s_ wx => s_ = .bool ES ∧ Aside0 (Below w.heap.size w wx) ∧ Aside0 (wx.heap[g]? = some (.cells #[.string x, .string y, .slice A0_2 l0_2.length c0_2] 48 (0, 0))))
              case first =>
                all_goals
                  have hz0 := (blk_cell HK3.out 0).trans (rfl : _ = some (Value.string x))
                  clear HR
                  go_wp2_with (go_at_call 81; refine (ostiaryref1_Ends.calls _ _ _ _ HE1.out).mono ?_; rintro e w' ⟨rfl, ⟨nd, rfl⟩⟩)
                  go_meet
                  case rel => exact ⟨rfl, ⟨by (repeat (first | exact HB3.out | apply below_alloc | apply pw_below_drewN | apply below_drew1))⟩, ⟨by ((with_reducible repeat (first | refine blk_drewN ?_ _ | refine blk_drew ?_ | refine blk_alloc ?_ _)); exact HK3.out)⟩⟩
              case rest =>
                obtain ⟨rfl, HB4, HK4⟩ := hcut
                cases h4x_ : ES with
                | true =>
                    have HR' := Aside0.mk (p := _ = r) HR.out
                    go_wp2
                    go_ret
                    refine ⟨?_, by (repeat (first | exact HB4.out | apply below_alloc | apply pw_below_drewN | apply below_drew1))⟩
                    rw [← HR.out]
                    simp [gB, *]
                | false =>
                  go_upto_region 10 with (fail)
                  go_cut [40] (fun s_ wx => s_ = .bool ((A || T) && X) ∧ Aside0 (Below w.heap.size w wx) ∧ Aside0 (wx.heap[g]? = some (.cells #[.string x, .string y, .slice A0_2 l0_2.length c0_2] 48 (0, 0))))
                  case first =>
                    cases A <;> cases T
                    all_goals
                      have hz0 := (blk_cell HK4.out 0).trans (rfl : _ = some (Value.string x))
                      clear HR
                      go_wp2_with (fail)
                      go_meet
                      case rel => exact ⟨rfl, ⟨by (repeat (first | exact HB4.out | apply below_alloc | apply pw_below_drewN | apply below_drew1))⟩, ⟨by ((with_reducible repeat (first | refine blk_drewN ?_ _ | refine blk_drew ?_ | refine blk_alloc ?_ _)); exact HK4.out)⟩⟩
                  case rest =>
                    obtain ⟨rfl, HB5, HK5⟩ := hcut
                    cases h5x_ : ((A || T) && X) with
                    | true =>
                        have HR' := Aside0.mk (p := _ = r) HR.out
                        go_wp2
                        go_ret
                        refine ⟨?_, by (repeat (first | exact HB5.out | apply below_alloc | apply pw_below_drewN | apply below_drew1))⟩
                        rw [← HR.out]
                        simp [gB, *]
                    | false =>
                      go_upto_region 11 with (fail)
                      go_cut [40] (fun s_ wx => s_ = .bool EX ∧ Aside0 (Below w.heap.size w wx) ∧ Aside0 (wx.heap[g]? = some (.cells #[.string x, .string y, .slice A0_2 l0_2.length c0_2] 48 (0, 0))))
                      case first =>
                        all_goals
                          have hz0 := (blk_cell HK5.out 0).trans (rfl : _ = some (Value.string x))
                          clear HR
                          go_wp2_with (go_at_call 81; refine (ostiaryref1_Ends.calls _ _ _ _ HE2.out).mono ?_; rintro e w' ⟨rfl, ⟨nd, rfl⟩⟩)
                          go_meet
                          case rel => exact ⟨rfl, ⟨by (repeat (first | exact HB5.out | apply below_alloc | apply pw_below_drewN | apply below_drew1))⟩, ⟨by ((with_reducible repeat (first | refine blk_drewN ?_ _ | refine blk_drew ?_ | refine blk_alloc ?_ _)); exact HK5.out)⟩⟩
                      case rest =>
                        obtain ⟨rfl, HB6, HK6⟩ := hcut
                        cases h6x_ : EX with
                        | true =>
                            have HR' := Aside0.mk (p := _ = r) HR.out
                            go_wp2
                            go_ret
                            refine ⟨?_, by (repeat (first | exact HB6.out | apply below_alloc | apply pw_below_drewN | apply below_drew1))⟩
                            rw [← HR.out]
                            simp [gB, *]
                        | false =>
                          go_upto_region 13 with (fail)
                          go_cut [51] (fun s_ wx => s_ = .bool I ∧ Aside0 (Below w.heap.size w wx) ∧ Aside0 (wx.heap[g]? = some (.cells #[.string x, .string y, .slice A0_2 l0_2.length c0_2] 48 (0, 0))))
                          case first =>
                            all_goals
                              have hz0 := (blk_cell HK6.out 0).trans (rfl : _ = some (Value.string x))
                              clear HR
                              go_wp2_with (fail)
                              go_meet
                              case rel => exact ⟨rfl, ⟨by (repeat (first | exact HB6.out | apply below_alloc | apply pw_below_drewN | apply below_drew1))⟩, ⟨by ((with_reducible repeat (first | refine blk_drewN ?_ _ | refine blk_drew ?_ | refine blk_alloc ?_ _)); exact HK6.out)⟩⟩
                          case rest =>
                            obtain ⟨rfl, HB7, HK7⟩ := hcut
                            cases h7x_ : I with
                            | true =>
                                have HR' := Aside0.mk (p := _ = r) HR.out
                                go_wp2
                                go_ret
                                refine ⟨?_, by (repeat (first | exact HB7.out | apply below_alloc | apply pw_below_drewN | apply below_drew1))⟩
                                rw [← HR.out]
                                simp [gB, *]
                            | false =>
                              go_upto_region 15 with (fail)
                              go_cut [55] (fun s_ wx => s_ = .bool (T && C) ∧ Aside0 (Below w.heap.size w wx) ∧ Aside0 (wx.heap[g]? = some (.cells #[.string x, .string y, .slice A0_2 l0_2.length c0_2] 48 (0, 0))))
                              case first =>
                                cases T
                                all_goals
                                  have hz0 := (blk_cell HK7.out 0).trans (rfl : _ = some (Value.string x))
                                  clear HR
                                  go_wp2_with (fail)
                                  go_meet
                                  case rel => exact ⟨rfl, ⟨by (repeat (first | exact HB7.out | apply below_alloc | apply pw_below_drewN | apply below_drew1))⟩, ⟨by ((with_reducible repeat (first | refine blk_drewN ?_ _ | refine blk_drew ?_ | refine blk_alloc ?_ _)); exact HK7.out)⟩⟩
                              case rest =>
                                obtain ⟨rfl, HB8, HK8⟩ := hcut
                                cases h8x_ : (T && C) with
                                | true =>
                                    have HR' := Aside0.mk (p := _ = r) HR.out
                                    go_wp2
                                    go_ret
                                    refine ⟨?_, by (repeat (first | exact HB8.out | apply below_alloc | apply pw_below_drewN | apply below_drew1))⟩
                                    rw [← HR.out]
                                    simp [gB, *]
                                | false =>
                                  go_upto_region 17 with (fail)
                                  go_cut [61] (fun s_ wx => s_ = .bool (D || V) ∧ Aside0 (Below w.heap.size w wx) ∧ Aside0 (wx.heap[g]? = some (.cells #[.string x, .string y, .slice A0_2 l0_2.length c0_2] 48 (0, 0))))
                                  case first =>
                                    cases D
                                    all_goals
                                      have hz0 := (blk_cell HK8.out 0).trans (rfl : _ = some (Value.string x))
                                      clear HR
                                      go_wp2_with (fail)
                                      go_meet
                                      case rel => exact ⟨rfl, ⟨by (repeat (first | exact HB8.out | apply below_alloc | apply pw_below_drewN | apply below_drew1))⟩, ⟨by ((with_reducible repeat (first | refine blk_drewN ?_ _ | refine blk_drew ?_ | refine blk_alloc ?_ _)); exact HK8.out)⟩⟩
                                  case rest =>
                                    obtain ⟨rfl, HB9, HK9⟩ := hcut
                                    cases h9x_ : (D || V) with
                                    | true =>
                                        have HR' := Aside0.mk (p := _ = r) HR.out
                                        go_wp2
                                        go_ret
                                        refine ⟨?_, by (repeat (first | exact HB9.out | apply below_alloc | apply pw_below_drewN | apply below_drew1))⟩
                                        rw [← HR.out]
                                        simp [gB, *]
                                    | false =>
                                      have HR' := Aside0.mk (p := _ = r) HR.out
                                      go_wp2
                                      go_ret
                                      refine ⟨?_, by (repeat (first | exact HB9.out | apply below_alloc | apply pw_below_drewN | apply below_drew1))⟩
                                      rw [← HR.out]
                                      simp [gB, *]
end Go.Proofs.YteehjlciajhdoaaGreatDoor.X
namespace Go.Proofs.YteehjlciajhdoaaGreatDoor.X
open Go.RowKit Go.Proofs.YteehjlciajhdoaaGreatDoorW.PrintWords Go.Proofs.YteehjlciajhdoaaGreatDoorW.PrintLast Go.Proofs.YteehjlciajhdoaaGreatDoorW.PrintMore
attribute [local go_sem] max2_int min2_int max_two min_two max_three min_three max_four min_four
set_option linter.unusedVariables false
set_option linter.unusedSimpArgs false
attribute [local go_sem high] eqA32
mutual
def ostiarylaw6_same.j0 : Nat → Bool → ByteArray → ByteArray → List (S32) → ByteArray → ByteArray → List (S89) → Option (Bool)
  | 0, _, _, _, _, _, _, _ => none
  | k + 1, x26, x102000, x102001, x102002, x103000, x103001, x103002 => if x26 = true then (some false) else (ostiarylaw6_same.l0 k 0 x102000 x102001 x102002 x103000 x103001 x103002)
def ostiarylaw6_same.l0 : Nat → Int → ByteArray → ByteArray → List (S32) → ByteArray → ByteArray → List (S89) → Option (Bool)
  | 0, _, _, _, _, _, _, _ => none
  | k + 1, x5, x102000, x102001, x102002, x103000, x103001, x103002 => if x5 < (x102002.length : Int) then (if 0 ≤ x5 then (if x5 < (x103002.length : Int) then (if (!((((rd_T32 x102002 x5).f0).toList) == (((rd_T89 x103002 x5).f0).toList)) || (!((((rd_T32 x102002 x5).f1).toList) == (((rd_T89 x103002 x5).f1).toList)))) = true then (some false) else (ostiarylaw6_same.l0 k (wrap64 (x5 + 1)) x102000 x102001 x102002 x103000 x103001 x103002)) else (none)) else (none)) else (some true)
end
def ostiarylaw6_same.f (k : Nat) (a0_0 : ByteArray) (a0_1 : ByteArray) (l0_2 : List (S32)) (a1_0 : ByteArray) (a1_1 : ByteArray) (l1_2 : List (S89)) : Option (Bool) := if a0_0.toList = a1_0.toList then (if a0_1.toList = a1_1.toList then (ostiarylaw6_same.j0 k ((l0_2.length : Int) != (l1_2.length : Int)) a0_0 a0_1 l0_2 a1_0 a1_1 l1_2) else (ostiarylaw6_same.j0 k true a0_0 a0_1 l0_2 a1_0 a1_1 l1_2)) else (ostiarylaw6_same.j0 k true a0_0 a0_1 l0_2 a1_0 a1_1 l1_2)
theorem ostiarylaw6_same.mono_l : ∀ k, (∀ y0 y1 y2 y3 y4 y5 y6, LeO (ostiarylaw6_same.j0 k y0 y1 y2 y3 y4 y5 y6) (ostiarylaw6_same.j0 (k + 1) y0 y1 y2 y3 y4 y5 y6)) ∧ (∀ y0 y1 y2 y3 y4 y5 y6, LeO (ostiarylaw6_same.l0 k y0 y1 y2 y3 y4 y5 y6) (ostiarylaw6_same.l0 (k + 1) y0 y1 y2 y3 y4 y5 y6))
  | 0 => ⟨fun _ _ _ _ _ _ _ r h => by simp [ostiarylaw6_same.j0] at h, fun _ _ _ _ _ _ _ r h => by simp [ostiarylaw6_same.l0] at h⟩
  | k + 1 => by
    obtain ⟨ih0, ih1⟩ := ostiarylaw6_same.mono_l k
    refine ⟨?_, ?_⟩
    · intro y0 y1 y2 y3 y4 y5 y6
      unfold ostiarylaw6_same.j0
      repeat' first
      | (with_reducible exact ih0 _ _ _ _ _ _ _)
      | (with_reducible exact ih1 _ _ _ _ _ _ _)
      | (with_reducible exact LeO.refl _)
      | (with_reducible exact LeO.none _)
      | (with_reducible refine LeO.ite ?_ ?_)
      | (with_reducible refine LeO.bind ?_ (fun _ => ?_))
      | exact ih0 _ _ _ _ _ _ _
      | exact ih1 _ _ _ _ _ _ _
      | exact LeO.none _
      | refine LeO.ite ?_ ?_
      | refine LeO.bind ?_ (fun _ => ?_)
    · intro y0 y1 y2 y3 y4 y5 y6
      unfold ostiarylaw6_same.l0
      repeat' first
      | (with_reducible exact ih0 _ _ _ _ _ _ _)
      | (with_reducible exact ih1 _ _ _ _ _ _ _)
      | (with_reducible exact LeO.refl _)
      | (with_reducible exact LeO.none _)
      | (with_reducible refine LeO.ite ?_ ?_)
      | (with_reducible refine LeO.bind ?_ (fun _ => ?_))
      | exact ih0 _ _ _ _ _ _ _
      | exact ih1 _ _ _ _ _ _ _
      | exact LeO.none _
      | refine LeO.ite ?_ ?_
      | refine LeO.bind ?_ (fun _ => ?_)
theorem ostiarylaw6_same.mono : ∀ a0 a1 a2 a3 a4 a5 k, LeO (ostiarylaw6_same.f k a0 a1 a2 a3 a4 a5) (ostiarylaw6_same.f (k + 1) a0 a1 a2 a3 a4 a5) := by
  intro a0 a1 a2 a3 a4 a5 k
  obtain ⟨ih0, ih1⟩ := ostiarylaw6_same.mono_l k
  unfold ostiarylaw6_same.f
  repeat' first
      | (with_reducible exact ih0 _ _ _ _ _ _ _)
      | (with_reducible exact ih1 _ _ _ _ _ _ _)
      | (with_reducible exact LeO.refl _)
      | (with_reducible exact LeO.none _)
      | (with_reducible refine LeO.ite ?_ ?_)
      | (with_reducible refine LeO.bind ?_ (fun _ => ?_))
      | exact ih0 _ _ _ _ _ _ _
      | exact ih1 _ _ _ _ _ _ _
      | exact LeO.none _
      | refine LeO.ite ?_ ?_
      | refine LeO.bind ?_ (fun _ => ?_)
set_option maxHeartbeats 8000000 in
set_option maxRecDepth 100000 in
theorem ostiarylaw6_same.calls (k : Nat) (a0_0 : ByteArray) (a0_1 : ByteArray) (A0_2 : Option Addr) (c0_2 : Nat) (l0_2 : List (S32)) (a1_0 : ByteArray) (a1_1 : ByteArray) (A1_2 : Option Addr) (c1_2 : Nat) (l1_2 : List (S89)) (r : Bool) (w : World) (hr0_2 : Kd.C k32 w A0_2 l0_2.length l0_2) (hc0_2 : l0_2.length ≤ c0_2) (hr1_2 : Kd.C k89 w A1_2 l1_2.length l1_2) (hc1_2 : l1_2.length ≤ c1_2) (h : ostiarylaw6_same.f k a0_0 a0_1 l0_2 a1_0 a1_1 l1_2 = some r) :
    Calls Tryz.prog 27 #[.agg #[.string a0_0, .string a0_1, .slice A0_2 l0_2.length c0_2], .agg #[.string a1_0, .string a1_1, .slice A1_2 l1_2.length c1_2]] w fun e w' => e = .returned (.bool r) ∧ Below w.heap.size w w' := by
  have hu24 := Tryz.underlying24
  have hu48 := Tryz.underlying48
  have hu32 := Tryz.underlying32
  have HR0_2 := Aside0.mk hr0_2
  have HC0_2 := Aside0.mk hc0_2
  clear hr0_2 hc0_2
  have HR1_2 := Aside0.mk hr1_2
  have HC1_2 := Aside0.mk hc1_2
  clear hr1_2 hc1_2
  have HB := Aside0.mk (Below.refl w.heap.size w)
  have H : (if a0_0.toList = a1_0.toList then (if a0_1.toList = a1_1.toList then (ostiarylaw6_same.j0 k ((l0_2.length : Int) != (l1_2.length : Int)) a0_0 a0_1 l0_2 a1_0 a1_1 l1_2) else (ostiarylaw6_same.j0 k true a0_0 a0_1 l0_2 a1_0 a1_1 l1_2)) else (ostiarylaw6_same.j0 k true a0_0 a0_1 l0_2 a1_0 a1_1 l1_2)) = some r := h
  clear h
  have HC3 := Aside0.mk H
  clear H
  go_enter Tryz.func27, Tryz.ntmps27
  go_upto_region 1 with (first | ((with_reducible refine gate_dst (N := 2) rfl ?_); (try (refine gate_guard (by rfl) ?_; dsimp only)); refine box_event ?hg (N := 2) ?hd (cs := #[.string a0_0, .string a0_1, .slice A0_2 l0_2.length c0_2]) (t := 24) ?hr ?_; (case hd => rfl); (case hg => rfl); (case hr => first | (go_simp; done) | (go_simp; rfl)); intro gb101 hg w4 hbox hb; have n0_ := Aside0.mk (below_step (by repeat (first | (with_reducible first | exact HB.out | apply below_alloc | apply pw_below_drewN | apply below_drew1) | exact HB.out)) hb); have n1_ := Aside0.mk (hbox); have n2_ := Aside0.mk ((by rw [hg]; exact (below_size (by repeat (first | (with_reducible first | exact HB.out | apply below_alloc | apply pw_below_drewN | apply below_drew1) | exact HB.out))) : w.heap.size ≤ gb101)); have n3_ := Aside0.mk ((by rw [hg]; exact (below_size (by repeat (first | (with_reducible first | exact HB.out | apply below_alloc | apply pw_below_drewN | apply below_drew1) | exact HB.out))) : w.heap.size ≤ gb101)); clear HB; have HB := n0_; have BK101 := n1_; have GW101 := n2_; have GE101 := n3_; clear n0_ n1_ n2_ n3_; clear hb hbox hg) | ((with_reducible refine gate_dst (N := 3) rfl ?_); (try (refine gate_guard (by rfl) ?_; dsimp only)); refine box_event ?hg (N := 3) ?hd (cs := #[.string a1_0, .string a1_1, .slice A1_2 l1_2.length c1_2]) (t := 48) ?hr ?_; (case hd => rfl); (case hg => rfl); (case hr => first | (go_simp; done) | (go_simp; rfl)); intro gb102 hg w5 hbox hb; have n0_ := Aside0.mk (blk_below (g := gb101) (o := .cells #[.string a0_0, .string a0_1, .slice A0_2 l0_2.length c0_2] 24 (0, 0)) (by (with_reducible repeat (first | refine blk_drewN ?_ _ | refine blk_drew ?_ | refine blk_alloc ?_ _)); exact BK101.out) hb); have n1_ := Aside0.mk (below_step (by repeat (first | (with_reducible first | exact HB.out | apply below_alloc | apply pw_below_drewN | apply below_drew1 | refine below_set ?_ GE101.out) | exact HB.out)) hb); have n2_ := Aside0.mk (hbox); have n3_ := Aside0.mk ((by rw [hg]; exact (below_size (by repeat (first | (with_reducible first | exact HB.out | apply below_alloc | apply pw_below_drewN | apply below_drew1 | refine below_set ?_ GE101.out) | exact HB.out))) : w.heap.size ≤ gb102)); have n4_ := Aside0.mk ((by rw [hg]; exact (below_size (by repeat (first | (with_reducible first | exact HB.out | apply below_alloc | apply pw_below_drewN | apply below_drew1 | refine below_set ?_ GE101.out) | exact HB.out))) : w.heap.size ≤ gb102)); have n5_ := Aside0.mk ((by rw [hg]; exact Nat.ne_of_lt (blk_lt (g := gb101) (o := .cells #[.string a0_0, .string a0_1, .slice A0_2 l0_2.length c0_2] 24 (0, 0)) (by (with_reducible repeat (first | refine blk_drewN ?_ _ | refine blk_drew ?_ | refine blk_alloc ?_ _)); exact BK101.out)) : gb101 ≠ gb102)); have n6_ := Aside0.mk ((by rw [hg]; exact Nat.ne_of_gt (blk_lt (g := gb101) (o := .cells #[.string a0_0, .string a0_1, .slice A0_2 l0_2.length c0_2] 24 (0, 0)) (by (with_reducible repeat (first | refine blk_drewN ?_ _ | refine blk_drew ?_ | refine blk_alloc ?_ _)); exact BK101.out)) : gb102 ≠ gb101)); clear BK101; clear HB; have BK101 := n0_; have HB := n1_; have BK102 := n2_; have GW102 := n3_; have GE102 := n4_; have NB101_102 := n5_; have NB102_101 := n6_; clear n0_ n1_ n2_ n3_ n4_ n5_ n6_; clear hb hbox hg))
  repeat (go_quiet (first | ((with_reducible refine gate_dst (N := 2) rfl ?_); (try (refine gate_guard (by rfl) ?_; dsimp only)); refine box_event ?hg (N := 2) ?hd (cs := #[.string a0_0, .string a0_1, .slice A0_2 l0_2.length c0_2]) (t := 24) ?hr ?_; (case hd => rfl); (case hg => rfl); (case hr => first | (go_simp; done) | (go_simp; rfl)); intro gb101 hg w4 hbox hb; have n0_ := Aside0.mk (below_step (by repeat (first | (with_reducible first | exact HB.out | apply below_alloc | apply pw_below_drewN | apply below_drew1) | exact HB.out)) hb); have n1_ := Aside0.mk (hbox); have n2_ := Aside0.mk ((by rw [hg]; exact (below_size (by repeat (first | (with_reducible first | exact HB.out | apply below_alloc | apply pw_below_drewN | apply below_drew1) | exact HB.out))) : w.heap.size ≤ gb101)); have n3_ := Aside0.mk ((by rw [hg]; exact (below_size (by repeat (first | (with_reducible first | exact HB.out | apply below_alloc | apply pw_below_drewN | apply below_drew1) | exact HB.out))) : w.heap.size ≤ gb101)); clear HB; have HB := n0_; have BK101 := n1_; have GW101 := n2_; have GE101 := n3_; clear n0_ n1_ n2_ n3_; clear hb hbox hg) | ((with_reducible refine gate_dst (N := 3) rfl ?_); (try (refine gate_guard (by rfl) ?_; dsimp only)); refine box_event ?hg (N := 3) ?hd (cs := #[.string a1_0, .string a1_1, .slice A1_2 l1_2.length c1_2]) (t := 48) ?hr ?_; (case hd => rfl); (case hg => rfl); (case hr => first | (go_simp; done) | (go_simp; rfl)); intro gb102 hg w5 hbox hb; have n0_ := Aside0.mk (blk_below (g := gb101) (o := .cells #[.string a0_0, .string a0_1, .slice A0_2 l0_2.length c0_2] 24 (0, 0)) (by (with_reducible repeat (first | refine blk_drewN ?_ _ | refine blk_drew ?_ | refine blk_alloc ?_ _)); exact BK101.out) hb); have n1_ := Aside0.mk (below_step (by repeat (first | (with_reducible first | exact HB.out | apply below_alloc | apply pw_below_drewN | apply below_drew1 | refine below_set ?_ GE101.out) | exact HB.out)) hb); have n2_ := Aside0.mk (hbox); have n3_ := Aside0.mk ((by rw [hg]; exact (below_size (by repeat (first | (with_reducible first | exact HB.out | apply below_alloc | apply pw_below_drewN | apply below_drew1 | refine below_set ?_ GE101.out) | exact HB.out))) : w.heap.size ≤ gb102)); have n4_ := Aside0.mk ((by rw [hg]; exact (below_size (by repeat (first | (with_reducible first | exact HB.out | apply below_alloc | apply pw_below_drewN | apply below_drew1 | refine below_set ?_ GE101.out) | exact HB.out))) : w.heap.size ≤ gb102)); have n5_ := Aside0.mk ((by rw [hg]; exact Nat.ne_of_lt (blk_lt (g := gb101) (o := .cells #[.string a0_0, .string a0_1, .slice A0_2 l0_2.length c0_2] 24 (0, 0)) (by (with_reducible repeat (first | refine blk_drewN ?_ _ | refine blk_drew ?_ | refine blk_alloc ?_ _)); exact BK101.out)) : gb101 ≠ gb102)); have n6_ := Aside0.mk ((by rw [hg]; exact Nat.ne_of_gt (blk_lt (g := gb101) (o := .cells #[.string a0_0, .string a0_1, .slice A0_2 l0_2.length c0_2] 24 (0, 0)) (by (with_reducible repeat (first | refine blk_drewN ?_ _ | refine blk_drew ?_ | refine blk_alloc ?_ _)); exact BK101.out)) : gb102 ≠ gb101)); clear BK101; clear HB; have BK101 := n0_; have HB := n1_; have BK102 := n2_; have GW102 := n3_; have GE102 := n4_; have NB101_102 := n5_; have NB102_101 := n6_; clear n0_ n1_ n2_ n3_ n4_ n5_ n6_; clear hb hbox hg)); go_upto_region 1 with (first | ((with_reducible refine gate_dst (N := 2) rfl ?_); (try (refine gate_guard (by rfl) ?_; dsimp only)); refine box_event ?hg (N := 2) ?hd (cs := #[.string a0_0, .string a0_1, .slice A0_2 l0_2.length c0_2]) (t := 24) ?hr ?_; (case hd => rfl); (case hg => rfl); (case hr => first | (go_simp; done) | (go_simp; rfl)); intro gb101 hg w4 hbox hb; have n0_ := Aside0.mk (below_step (by repeat (first | (with_reducible first | exact HB.out | apply below_alloc | apply pw_below_drewN | apply below_drew1) | exact HB.out)) hb); have n1_ := Aside0.mk (hbox); have n2_ := Aside0.mk ((by rw [hg]; exact (below_size (by repeat (first | (with_reducible first | exact HB.out | apply below_alloc | apply pw_below_drewN | apply below_drew1) | exact HB.out))) : w.heap.size ≤ gb101)); have n3_ := Aside0.mk ((by rw [hg]; exact (below_size (by repeat (first | (with_reducible first | exact HB.out | apply below_alloc | apply pw_below_drewN | apply below_drew1) | exact HB.out))) : w.heap.size ≤ gb101)); clear HB; have HB := n0_; have BK101 := n1_; have GW101 := n2_; have GE101 := n3_; clear n0_ n1_ n2_ n3_; clear hb hbox hg) | ((with_reducible refine gate_dst (N := 3) rfl ?_); (try (refine gate_guard (by rfl) ?_; dsimp only)); refine box_event ?hg (N := 3) ?hd (cs := #[.string a1_0, .string a1_1, .slice A1_2 l1_2.length c1_2]) (t := 48) ?hr ?_; (case hd => rfl); (case hg => rfl); (case hr => first | (go_simp; done) | (go_simp; rfl)); intro gb102 hg w5 hbox hb; have n0_ := Aside0.mk (blk_below (g := gb101) (o := .cells #[.string a0_0, .string a0_1, .slice A0_2 l0_2.length c0_2] 24 (0, 0)) (by (with_reducible repeat (first | refine blk_drewN ?_ _ | refine blk_drew ?_ | refine blk_alloc ?_ _)); exact BK101.out) hb); have n1_ := Aside0.mk (below_step (by repeat (first | (with_reducible first | exact HB.out | apply below_alloc | apply pw_below_drewN | apply below_drew1 | refine below_set ?_ GE101.out) | exact HB.out)) hb); have n2_ := Aside0.mk (hbox); have n3_ := Aside0.mk ((by rw [hg]; exact (below_size (by repeat (first | (with_reducible first | exact HB.out | apply below_alloc | apply pw_below_drewN | apply below_drew1 | refine below_set ?_ GE101.out) | exact HB.out))) : w.heap.size ≤ gb102)); have n4_ := Aside0.mk ((by rw [hg]; exact (below_size (by repeat (first | (with_reducible first | exact HB.out | apply below_alloc | apply pw_below_drewN | apply below_drew1 | refine below_set ?_ GE101.out) | exact HB.out))) : w.heap.size ≤ gb102)); have n5_ := Aside0.mk ((by rw [hg]; exact Nat.ne_of_lt (blk_lt (g := gb101) (o := .cells #[.string a0_0, .string a0_1, .slice A0_2 l0_2.length c0_2] 24 (0, 0)) (by (with_reducible repeat (first | refine blk_drewN ?_ _ | refine blk_drew ?_ | refine blk_alloc ?_ _)); exact BK101.out)) : gb101 ≠ gb102)); have n6_ := Aside0.mk ((by rw [hg]; exact Nat.ne_of_gt (blk_lt (g := gb101) (o := .cells #[.string a0_0, .string a0_1, .slice A0_2 l0_2.length c0_2] 24 (0, 0)) (by (with_reducible repeat (first | refine blk_drewN ?_ _ | refine blk_drew ?_ | refine blk_alloc ?_ _)); exact BK101.out)) : gb102 ≠ gb101)); clear BK101; clear HB; have BK101 := n0_; have HB := n1_; have BK102 := n2_; have GW102 := n3_; have GE102 := n4_; have NB101_102 := n5_; have NB102_101 := n6_; clear n0_ n1_ n2_ n3_ n4_ n5_ n6_; clear hb hbox hg)))
  (try simp only [Act.put, List.setIfInBounds_toArray, List.set_cons_zero, List.set_cons_succ])
  go_cut [26] (fun v26 wc => ∃ (kq : Nat) (x26_2 : Bool), v26 = .bool x26_2 ∧ Aside0 (ostiarylaw6_same.j0 kq x26_2 a0_0 a0_1 l0_2 a1_0 a1_1 l1_2 = some r) ∧ Aside0 (kq ≤ k) ∧ Aside0 (wc.heap[gb101]? = some (.cells #[.string a0_0, .string a0_1, (.slice A0_2 l0_2.length c0_2)] 24 (0, 0))) ∧ Aside0 (wc.heap[gb102]? = some (.cells #[.string a1_0, .string a1_1, (.slice A1_2 l1_2.length c1_2)] 48 (0, 0))) ∧ Aside0 (Below w.heap.size w wc))
  case first =>
    have H := HC3.out
    clear HC3
    by_cases c6 : a0_0.toList = a1_0.toList
    · rw [if_pos c6] at H
      have c6b0 : (a0_0.toList == a1_0.toList) = true := beq_iff_eq.mpr c6
      have c6b1 : (a0_0.toList != a1_0.toList) = false := bne_eq_false_iff_eq.mpr c6
      clear c6
      (first | rw [c6b0] | (simp only [i64_w, i32_w]; rw [c6b0]) | skip)
      by_cases c7 : a0_1.toList = a1_1.toList
      · rw [if_pos c7] at H
        have c7b0 : (a0_1.toList == a1_1.toList) = true := beq_iff_eq.mpr c7
        have c7b1 : (a0_1.toList != a1_1.toList) = false := bne_eq_false_iff_eq.mpr c7
        clear c7
        have H' := Aside0.mk H
        clear H
        have hnb8 := NB101_102.out
        have hnc8 := NB102_101.out
        have hcz9_0 : w5.cell? ⟨gb101, 0, none⟩ = some (.string a0_0) := (blk_cell BK101.out 0).trans rfl
        have hcz9_1 : w5.cell? ⟨gb101, 1, none⟩ = some (.string a0_1) := (blk_cell BK101.out 1).trans rfl
        have hcz9_2 : w5.cell? ⟨gb101, 2, none⟩ = some (.slice A0_2 l0_2.length c0_2) := (blk_cell BK101.out 2).trans rfl
        have hfz9_0 := blk_frozen BK101.out 0
        have hfz9_1 := blk_frozen BK101.out 1
        have hfz9_2 := blk_frozen BK101.out 2
        have hcz10_0 : w5.cell? ⟨gb102, 0, none⟩ = some (.string a1_0) := (blk_cell BK102.out 0).trans rfl
        have hcz10_1 : w5.cell? ⟨gb102, 1, none⟩ = some (.string a1_1) := (blk_cell BK102.out 1).trans rfl
        have hcz10_2 : w5.cell? ⟨gb102, 2, none⟩ = some (.slice A1_2 l1_2.length c1_2) := (blk_cell BK102.out 2).trans rfl
        have hfz10_0 := blk_frozen BK102.out 0
        have hfz10_1 := blk_frozen BK102.out 1
        have hfz10_2 := blk_frozen BK102.out 2
        go_wp2
        repeat (go_quiet (fail); try go_wp2)
        go_meet
        case rel => exact ⟨_, (((l0_2.length : Int) != (l1_2.length : Int))), (by first | rfl | (simp; done) | (simp [*]; done)), H', ⟨by first | omega | exact Nat.le_refl _⟩, ⟨by (with_reducible repeat (first | refine blk_drewN ?_ _ | refine blk_drew ?_ | refine blk_alloc ?_ _)); exact BK101.out⟩, ⟨by (with_reducible repeat (first | refine blk_drewN ?_ _ | refine blk_drew ?_ | refine blk_alloc ?_ _)); exact BK102.out⟩, ⟨by repeat (first | (with_reducible first | exact HB.out | apply below_alloc | apply pw_below_drewN | apply below_drew1 | refine below_set ?_ GE101.out | refine below_set ?_ GE102.out) | exact HB.out)⟩⟩
      · rw [if_neg c7] at H
        have c7b0 : (a0_1.toList == a1_1.toList) = false := beq_eq_false_iff_ne.mpr c7
        have c7b1 : (a0_1.toList != a1_1.toList) = true := bne_iff_ne.mpr c7
        have H' := Aside0.mk H
        clear H
        have hnb11 := NB101_102.out
        have hnc11 := NB102_101.out
        have hcz12_0 : w5.cell? ⟨gb101, 0, none⟩ = some (.string a0_0) := (blk_cell BK101.out 0).trans rfl
        have hcz12_1 : w5.cell? ⟨gb101, 1, none⟩ = some (.string a0_1) := (blk_cell BK101.out 1).trans rfl
        have hcz12_2 : w5.cell? ⟨gb101, 2, none⟩ = some (.slice A0_2 l0_2.length c0_2) := (blk_cell BK101.out 2).trans rfl
        have hfz12_0 := blk_frozen BK101.out 0
        have hfz12_1 := blk_frozen BK101.out 1
        have hfz12_2 := blk_frozen BK101.out 2
        have hcz13_0 : w5.cell? ⟨gb102, 0, none⟩ = some (.string a1_0) := (blk_cell BK102.out 0).trans rfl
        have hcz13_1 : w5.cell? ⟨gb102, 1, none⟩ = some (.string a1_1) := (blk_cell BK102.out 1).trans rfl
        have hcz13_2 : w5.cell? ⟨gb102, 2, none⟩ = some (.slice A1_2 l1_2.length c1_2) := (blk_cell BK102.out 2).trans rfl
        have hfz13_0 := blk_frozen BK102.out 0
        have hfz13_1 := blk_frozen BK102.out 1
        have hfz13_2 := blk_frozen BK102.out 2
        go_wp2
        repeat (go_quiet (fail); try go_wp2)
        go_meet
        case rel => exact ⟨_, (true), (by first | rfl | (simp; done) | (simp [*]; done)), H', ⟨by first | omega | exact Nat.le_refl _⟩, ⟨by (with_reducible repeat (first | refine blk_drewN ?_ _ | refine blk_drew ?_ | refine blk_alloc ?_ _)); exact BK101.out⟩, ⟨by (with_reducible repeat (first | refine blk_drewN ?_ _ | refine blk_drew ?_ | refine blk_alloc ?_ _)); exact BK102.out⟩, ⟨by repeat (first | (with_reducible first | exact HB.out | apply below_alloc | apply pw_below_drewN | apply below_drew1 | refine below_set ?_ GE101.out | refine below_set ?_ GE102.out) | exact HB.out)⟩⟩
    · rw [if_neg c6] at H
      have c6b0 : (a0_0.toList == a1_0.toList) = false := beq_eq_false_iff_ne.mpr c6
      have c6b1 : (a0_0.toList != a1_0.toList) = true := bne_iff_ne.mpr c6
      (first | rw [c6b0] | (simp only [i64_w, i32_w]; rw [c6b0]) | skip)
      have H' := Aside0.mk H
      clear H
      have hnb14 := NB101_102.out
      have hnc14 := NB102_101.out
      have hcz15_0 : w5.cell? ⟨gb101, 0, none⟩ = some (.string a0_0) := (blk_cell BK101.out 0).trans rfl
      have hcz15_1 : w5.cell? ⟨gb101, 1, none⟩ = some (.string a0_1) := (blk_cell BK101.out 1).trans rfl
      have hcz15_2 : w5.cell? ⟨gb101, 2, none⟩ = some (.slice A0_2 l0_2.length c0_2) := (blk_cell BK101.out 2).trans rfl
      have hfz15_0 := blk_frozen BK101.out 0
      have hfz15_1 := blk_frozen BK101.out 1
      have hfz15_2 := blk_frozen BK101.out 2
      have hcz16_0 : w5.cell? ⟨gb102, 0, none⟩ = some (.string a1_0) := (blk_cell BK102.out 0).trans rfl
      have hcz16_1 : w5.cell? ⟨gb102, 1, none⟩ = some (.string a1_1) := (blk_cell BK102.out 1).trans rfl
      have hcz16_2 : w5.cell? ⟨gb102, 2, none⟩ = some (.slice A1_2 l1_2.length c1_2) := (blk_cell BK102.out 2).trans rfl
      have hfz16_0 := blk_frozen BK102.out 0
      have hfz16_1 := blk_frozen BK102.out 1
      have hfz16_2 := blk_frozen BK102.out 2
      go_wp2
      repeat (go_quiet (fail); try go_wp2)
      go_meet
      case rel => exact ⟨_, (true), (by first | rfl | (simp; done) | (simp [*]; done)), H', ⟨by first | omega | exact Nat.le_refl _⟩, ⟨by (with_reducible repeat (first | refine blk_drewN ?_ _ | refine blk_drew ?_ | refine blk_alloc ?_ _)); exact BK101.out⟩, ⟨by (with_reducible repeat (first | refine blk_drewN ?_ _ | refine blk_drew ?_ | refine blk_alloc ?_ _)); exact BK102.out⟩, ⟨by repeat (first | (with_reducible first | exact HB.out | apply below_alloc | apply pw_below_drewN | apply below_drew1 | refine below_set ?_ GE101.out | refine below_set ?_ GE102.out) | exact HB.out)⟩⟩
  case rest =>
    clear HC3
    try clear c1
    try clear c2
    try clear p2
    try clear c6
    try clear c6b0
    try clear c6b1
    try clear c7
    try clear c7b0
    try clear c7b1
    try clear c8
    try clear c11
    try clear c14
    try clear hcz10_0
    try clear hcz10_1
    try clear hcz10_2
    try clear hcz12_0
    try clear hcz12_1
    try clear hcz12_2
    try clear hcz13_0
    try clear hcz13_1
    try clear hcz13_2
    try clear hcz15_0
    try clear hcz15_1
    try clear hcz15_2
    try clear hcz16_0
    try clear hcz16_1
    try clear hcz16_2
    try clear hcz9_0
    try clear hcz9_1
    try clear hcz9_2
    try clear hfz10_0
    try clear hfz10_1
    try clear hfz10_2
    try clear hfz12_0
    try clear hfz12_1
    try clear hfz12_2
    try clear hfz13_0
    try clear hfz13_1
    try clear hfz13_2
    try clear hfz15_0
    try clear hfz15_1
    try clear hfz15_2
    try clear hfz16_0
    try clear hfz16_1
    try clear hfz16_2
    try clear hfz9_0
    try clear hfz9_1
    try clear hfz9_2
    obtain ⟨kq, x26_2, rfl, HA, HJ2, BK101, BK102, HB⟩ := hcut
    cases kq with
    | zero => exact absurd HA.out (by simp [ostiarylaw6_same.j0])
    | succ kj2 =>
      have H := HA.out
      clear HA
      simp only [ostiarylaw6_same.j0] at H
      by_cases c17 : x26_2 = true
      · subst c17
        have H1 : (some false) = some r := by rw [if_pos rfl] at H; exact H
        clear H
        have H := H1
        clear H1
        obtain rfl := Option.some.inj H
        go_wp2
        repeat (go_quiet (fail); try go_wp2)
        go_ret
        exact ⟨by first | rfl | (simp [errW_none, errW_some] <;> rfl) | (simp [*, errW_none, errW_some] <;> rfl), by repeat (first | (with_reducible first | exact HB.out | apply below_alloc | apply pw_below_drewN | apply below_drew1 | refine below_set ?_ GE101.out | refine below_set ?_ GE102.out) | exact HB.out)⟩
      · replace c17 := Bool.eq_false_iff.mpr c17
        subst c17
        have H1 : (ostiarylaw6_same.l0 kj2 0 a0_0 a0_1 l0_2 a1_0 a1_1 l1_2) = some r := by rw [if_neg (show ¬ (false = true) by decide)] at H; exact H
        clear H
        have H := H1
        clear H1
        have H' := Aside0.mk H
        clear H
        go_wp2
        repeat (go_quiet (fail); try go_wp2)
        go_loopg [5] kj2 (fun kq v5 w' => ∃ (x5_2 : Int), v5 = .int .i64 x5_2 ∧ Aside0 (ostiarylaw6_same.l0 kq x5_2 a0_0 a0_1 l0_2 a1_0 a1_1 l1_2 = some r) ∧ Aside0 (kq ≤ kj2) ∧ Aside0 (w'.heap[gb101]? = some (.cells #[.string a0_0, .string a0_1, (.slice A0_2 l0_2.length c0_2)] 24 (0, 0))) ∧ Aside0 (w'.heap[gb102]? = some (.cells #[.string a1_0, .string a1_1, (.slice A1_2 l1_2.length c1_2)] 48 (0, 0))) ∧ Aside0 (Below w.heap.size w w'))
        case atStart => exact ⟨(0), (by first | rfl | (simp; done) | (simp [*]; done)), H', ⟨Nat.le_refl _⟩, ⟨by (with_reducible repeat (first | refine blk_drewN ?_ _ | refine blk_drew ?_ | refine blk_alloc ?_ _)); exact BK101.out⟩, ⟨by (with_reducible repeat (first | refine blk_drewN ?_ _ | refine blk_drew ?_ | refine blk_alloc ?_ _)); exact BK102.out⟩, ⟨by repeat (first | (with_reducible first | exact HB.out | apply below_alloc | apply pw_below_drewN | apply below_drew1 | refine below_set ?_ GE101.out | refine below_set ?_ GE102.out) | exact HB.out)⟩⟩
        case round =>
          clear H'
          try clear c1
          try clear c2
          try clear p2
          try clear c6
          try clear c6b0
          try clear c6b1
          try clear c7
          try clear c7b0
          try clear c7b1
          try clear c8
          try clear c11
          try clear c14
          try clear c17
          try clear hcz10_0
          try clear hcz10_1
          try clear hcz10_2
          try clear hcz12_0
          try clear hcz12_1
          try clear hcz12_2
          try clear hcz13_0
          try clear hcz13_1
          try clear hcz13_2
          try clear hcz15_0
          try clear hcz15_1
          try clear hcz15_2
          try clear hcz16_0
          try clear hcz16_1
          try clear hcz16_2
          try clear hcz9_0
          try clear hcz9_1
          try clear hcz9_2
          try clear hfz10_0
          try clear hfz10_1
          try clear hfz10_2
          try clear hfz12_0
          try clear hfz12_1
          try clear hfz12_2
          try clear hfz13_0
          try clear hfz13_1
          try clear hfz13_2
          try clear hfz15_0
          try clear hfz15_1
          try clear hfz15_2
          try clear hfz16_0
          try clear hfz16_1
          try clear hfz16_2
          try clear hfz9_0
          try clear hfz9_1
          try clear hfz9_2
          try clear p2
          obtain ⟨x5_2, rfl, HA, HK2, BK101, BK102, HB⟩ := hrel
          cases gk with
          | zero => exact absurd HA.out (by simp [ostiarylaw6_same.l0])
          | succ k2 =>
            have H := HA.out
            clear HA
            simp only [ostiarylaw6_same.l0] at H
            by_cases c18 : x5_2 < (l0_2.length : Int)
            · rw [if_pos c18] at H
              have c18b0 : decide (x5_2 < (l0_2.length : Int)) = true := decide_eq_true c18
              clear c18
              by_cases c19 : 0 ≤ x5_2
              · rw [if_pos c19] at H
                have c19b0 : decide (0 ≤ x5_2) = true := decide_eq_true c19
                clear c19
                by_cases c20 : x5_2 < (l1_2.length : Int)
                · rw [if_pos c20] at H
                  have c20b0 : decide (x5_2 < (l1_2.length : Int)) = true := decide_eq_true c20
                  clear c20
                  by_cases c21 : (!((((rd_T32 l0_2 x5_2).f0).toList) == (((rd_T89 l1_2 x5_2).f0).toList)) || (!((((rd_T32 l0_2 x5_2).f1).toList) == (((rd_T89 l1_2 x5_2).f1).toList)))) = true
                  · rw [if_pos c21] at H
                    have c21b0 : (!((((rd_T32 l0_2 x5_2).f0).toList) == (((rd_T89 l1_2 x5_2).f0).toList)) || (!((((rd_T32 l0_2 x5_2).f1).toList) == (((rd_T89 l1_2 x5_2).f1).toList)))) = true := c21
                    clear c21
                    obtain rfl := Option.some.inj H
                    have hnb22 := NB101_102.out
                    have hnc22 := NB102_101.out
                    have hcz23_0 : wr.cell? ⟨gb101, 0, none⟩ = some (.string a0_0) := (blk_cell BK101.out 0).trans rfl
                    have hcz23_1 : wr.cell? ⟨gb101, 1, none⟩ = some (.string a0_1) := (blk_cell BK101.out 1).trans rfl
                    have hcz23_2 : wr.cell? ⟨gb101, 2, none⟩ = some (.slice A0_2 l0_2.length c0_2) := (blk_cell BK101.out 2).trans rfl
                    have hfz23_0 := blk_frozen BK101.out 0
                    have hfz23_1 := blk_frozen BK101.out 1
                    have hfz23_2 := blk_frozen BK101.out 2
                    have p103 : 0 ≤ (x5_2 : Int) := of_decide_eq_true (by first | (with_reducible assumption) | assumption)
                    have q103 : x5_2 < (l0_2.length : Int) := of_decide_eq_true (by first | (with_reducible assumption) | assumption)
                    obtain ⟨ad103, e103, hx103_0, hx103_1⟩ := at_T32 HR0_2.out x5_2 p103 q103
                    cases e103
                    replace hx103_0 := (HB.out.cell (World.block_lt_of_cell? w _ hx103_0)).trans hx103_0
                    replace hx103_1 := (HB.out.cell (World.block_lt_of_cell? w _ hx103_1)).trans hx103_1
                    replace p103 := eq_true p103
                    replace q103 := eq_true q103
                    have hcz24_0 : wr.cell? ⟨gb102, 0, none⟩ = some (.string a1_0) := (blk_cell BK102.out 0).trans rfl
                    have hcz24_1 : wr.cell? ⟨gb102, 1, none⟩ = some (.string a1_1) := (blk_cell BK102.out 1).trans rfl
                    have hcz24_2 : wr.cell? ⟨gb102, 2, none⟩ = some (.slice A1_2 l1_2.length c1_2) := (blk_cell BK102.out 2).trans rfl
                    have hfz24_0 := blk_frozen BK102.out 0
                    have hfz24_1 := blk_frozen BK102.out 1
                    have hfz24_2 := blk_frozen BK102.out 2
                    have p104 : 0 ≤ (x5_2 : Int) := of_decide_eq_true (by first | (with_reducible assumption) | assumption)
                    have q104 : x5_2 < (l1_2.length : Int) := of_decide_eq_true (by first | (with_reducible assumption) | assumption)
                    obtain ⟨ad104, e104, hx104_0, hx104_1⟩ := at_T89 HR1_2.out x5_2 p104 q104
                    cases e104
                    replace hx104_0 := (HB.out.cell (World.block_lt_of_cell? w _ hx104_0)).trans hx104_0
                    replace hx104_1 := (HB.out.cell (World.block_lt_of_cell? w _ hx104_1)).trans hx104_1
                    replace p104 := eq_true p104
                    replace q104 := eq_true q104
                    have p105 : 0 ≤ (x5_2 : Int) := of_decide_eq_true (by first | (with_reducible assumption) | assumption)
                    have q105 : x5_2 < (l1_2.length : Int) := of_decide_eq_true (by first | (with_reducible assumption) | assumption)
                    obtain ⟨ad105, e105, hx105_0, hx105_1⟩ := at_T89 HR1_2.out x5_2 p105 q105
                    obtain rfl : ad104 = ad105 := (by injection e105)
                    replace hx105_0 := (HB.out.cell (World.block_lt_of_cell? w _ hx105_0)).trans hx105_0
                    replace hx105_1 := (HB.out.cell (World.block_lt_of_cell? w _ hx105_1)).trans hx105_1
                    replace p105 := eq_true p105
                    replace q105 := eq_true q105
                    go_wp2
                    repeat (go_quiet (fail); try go_wp2)
                    go_ret
                    exact ⟨by first | rfl | (simp [errW_none, errW_some] <;> rfl) | (simp [*, errW_none, errW_some] <;> rfl), by repeat (first | (with_reducible first | exact HB.out | apply below_alloc | apply pw_below_drewN | apply below_drew1 | refine below_set ?_ GE101.out | refine below_set ?_ GE102.out) | exact HB.out)⟩
                  · rw [if_neg c21] at H
                    have c21b0 : (!((((rd_T32 l0_2 x5_2).f0).toList) == (((rd_T89 l1_2 x5_2).f0).toList)) || (!((((rd_T32 l0_2 x5_2).f1).toList) == (((rd_T89 l1_2 x5_2).f1).toList)))) = false := by simpa using c21
                    clear c21
                    have H' := Aside0.mk H
                    clear H
                    have hnb25 := NB101_102.out
                    have hnc25 := NB102_101.out
                    have hcz26_0 : wr.cell? ⟨gb101, 0, none⟩ = some (.string a0_0) := (blk_cell BK101.out 0).trans rfl
                    have hcz26_1 : wr.cell? ⟨gb101, 1, none⟩ = some (.string a0_1) := (blk_cell BK101.out 1).trans rfl
                    have hcz26_2 : wr.cell? ⟨gb101, 2, none⟩ = some (.slice A0_2 l0_2.length c0_2) := (blk_cell BK101.out 2).trans rfl
                    have hfz26_0 := blk_frozen BK101.out 0
                    have hfz26_1 := blk_frozen BK101.out 1
                    have hfz26_2 := blk_frozen BK101.out 2
                    have p103 : 0 ≤ (x5_2 : Int) := of_decide_eq_true (by first | (with_reducible assumption) | assumption)
                    have q103 : x5_2 < (l0_2.length : Int) := of_decide_eq_true (by first | (with_reducible assumption) | assumption)
                    obtain ⟨ad103, e103, hx103_0, hx103_1⟩ := at_T32 HR0_2.out x5_2 p103 q103
                    cases e103
                    replace hx103_0 := (HB.out.cell (World.block_lt_of_cell? w _ hx103_0)).trans hx103_0
                    replace hx103_1 := (HB.out.cell (World.block_lt_of_cell? w _ hx103_1)).trans hx103_1
                    replace p103 := eq_true p103
                    replace q103 := eq_true q103
                    have hcz27_0 : wr.cell? ⟨gb102, 0, none⟩ = some (.string a1_0) := (blk_cell BK102.out 0).trans rfl
                    have hcz27_1 : wr.cell? ⟨gb102, 1, none⟩ = some (.string a1_1) := (blk_cell BK102.out 1).trans rfl
                    have hcz27_2 : wr.cell? ⟨gb102, 2, none⟩ = some (.slice A1_2 l1_2.length c1_2) := (blk_cell BK102.out 2).trans rfl
                    have hfz27_0 := blk_frozen BK102.out 0
                    have hfz27_1 := blk_frozen BK102.out 1
                    have hfz27_2 := blk_frozen BK102.out 2
                    have p104 : 0 ≤ (x5_2 : Int) := of_decide_eq_true (by first | (with_reducible assumption) | assumption)
                    have q104 : x5_2 < (l1_2.length : Int) := of_decide_eq_true (by first | (with_reducible assumption) | assumption)
                    obtain ⟨ad104, e104, hx104_0, hx104_1⟩ := at_T89 HR1_2.out x5_2 p104 q104
                    cases e104
                    replace hx104_0 := (HB.out.cell (World.block_lt_of_cell? w _ hx104_0)).trans hx104_0
                    replace hx104_1 := (HB.out.cell (World.block_lt_of_cell? w _ hx104_1)).trans hx104_1
                    replace p104 := eq_true p104
                    replace q104 := eq_true q104
                    have p105 : 0 ≤ (x5_2 : Int) := of_decide_eq_true (by first | (with_reducible assumption) | assumption)
                    have q105 : x5_2 < (l1_2.length : Int) := of_decide_eq_true (by first | (with_reducible assumption) | assumption)
                    obtain ⟨ad105, e105, hx105_0, hx105_1⟩ := at_T89 HR1_2.out x5_2 p105 q105
                    obtain rfl : ad104 = ad105 := (by injection e105)
                    replace hx105_0 := (HB.out.cell (World.block_lt_of_cell? w _ hx105_0)).trans hx105_0
                    replace hx105_1 := (HB.out.cell (World.block_lt_of_cell? w _ hx105_1)).trans hx105_1
                    replace p105 := eq_true p105
                    replace q105 := eq_true q105
                    go_wp2
                    repeat (go_quiet (fail); try go_wp2)
                    go_roundg k2
                    case measure => have := HJ2.out; have := HK2.out; omega
                    case rel => exact ⟨(wrap64 (x5_2 + 1)), (by first | rfl | (simp; done) | (simp [*]; done)), H', ⟨by have := HJ2.out; have := HK2.out; omega⟩, ⟨by (with_reducible repeat (first | refine blk_drewN ?_ _ | refine blk_drew ?_ | refine blk_alloc ?_ _)); exact BK101.out⟩, ⟨by (with_reducible repeat (first | refine blk_drewN ?_ _ | refine blk_drew ?_ | refine blk_alloc ?_ _)); exact BK102.out⟩, ⟨by repeat (first | (with_reducible first | exact HB.out | apply below_alloc | apply pw_below_drewN | apply below_drew1 | refine below_set ?_ GE101.out | refine below_set ?_ GE102.out) | exact HB.out)⟩⟩
                · rw [if_neg c20] at H
                  exact absurd H (by simp)
              · rw [if_neg c19] at H
                exact absurd H (by simp)
            · rw [if_neg c18] at H
              have c18b0 : decide (x5_2 < (l0_2.length : Int)) = false := decide_eq_false c18
              clear c18
              obtain rfl := Option.some.inj H
              have hnb28 := NB101_102.out
              have hnc28 := NB102_101.out
              have hcz29_0 : wr.cell? ⟨gb101, 0, none⟩ = some (.string a0_0) := (blk_cell BK101.out 0).trans rfl
              have hcz29_1 : wr.cell? ⟨gb101, 1, none⟩ = some (.string a0_1) := (blk_cell BK101.out 1).trans rfl
              have hcz29_2 : wr.cell? ⟨gb101, 2, none⟩ = some (.slice A0_2 l0_2.length c0_2) := (blk_cell BK101.out 2).trans rfl
              have hfz29_0 := blk_frozen BK101.out 0
              have hfz29_1 := blk_frozen BK101.out 1
              have hfz29_2 := blk_frozen BK101.out 2
              go_wp2
              repeat (go_quiet (fail); try go_wp2)
              go_ret
              exact ⟨by first | rfl | (simp [errW_none, errW_some] <;> rfl) | (simp [*, errW_none, errW_some] <;> rfl), by repeat (first | (with_reducible first | exact HB.out | apply below_alloc | apply pw_below_drewN | apply below_drew1 | refine below_set ?_ GE101.out | refine below_set ?_ GE102.out) | exact HB.out)⟩
end Go.Proofs.YteehjlciajhdoaaGreatDoor.X
namespace Go.Proofs.YteehjlciajhdoaaGreatDoor.X
open Go.RowKit Go.Proofs.YteehjlciajhdoaaGreatDoorW.PrintWords Go.Proofs.YteehjlciajhdoaaGreatDoorW.PrintLast Go.Proofs.YteehjlciajhdoaaGreatDoorW.PrintMore
attribute [local go_sem] max2_int min2_int max_two min_two max_three min_three max_four min_four
set_option linter.unusedVariables false
set_option linter.unusedSimpArgs false
def ostiaryref6_Essence.f (a0_0 : ByteArray) (a0_1 : ByteArray) (l0_2 : List (S89)) : Option (ByteArray) := if a0_0.size + 1 ≤ 9223372036854775807 then (if (a0_0 ++ (⟨#[47]⟩ : ByteArray)).size + a0_1.size ≤ 9223372036854775807 then (some ((a0_0 ++ (⟨#[47]⟩ : ByteArray)) ++ a0_1)) else (none)) else (none)
set_option maxHeartbeats 8000000 in
set_option maxRecDepth 100000 in
theorem ostiaryref6_Essence.calls (a0_0 : ByteArray) (a0_1 : ByteArray) (A0_2 : Option Addr) (c0_2 : Nat) (l0_2 : List (S89)) (r : ByteArray) (w : World) (hr0_2 : Kd.C k89 w A0_2 l0_2.length l0_2) (hc0_2 : l0_2.length ≤ c0_2) (h : ostiaryref6_Essence.f a0_0 a0_1 l0_2 = some r) :
    Calls Tryz.prog 30 #[.agg #[.string a0_0, .string a0_1, .slice A0_2 l0_2.length c0_2]] w fun e w' => e = .returned (.string r) ∧ Below w.heap.size w w' := by
  have hu48 := Tryz.underlying48
  have HR0_2 := Aside0.mk hr0_2
  have HC0_2 := Aside0.mk hc0_2
  clear hr0_2 hc0_2
  have HB := Aside0.mk (Below.refl w.heap.size w)
  have H : (if a0_0.size + 1 ≤ 9223372036854775807 then (if (a0_0 ++ (⟨#[47]⟩ : ByteArray)).size + a0_1.size ≤ 9223372036854775807 then (some ((a0_0 ++ (⟨#[47]⟩ : ByteArray)) ++ a0_1)) else (none)) else (none)) = some r := h
  clear h
  by_cases c2 : a0_0.size + 1 ≤ 9223372036854775807
  · rw [if_pos c2] at H
    have c2b0 := eq_true c2
    have c2b1 : decide (a0_0.size + 1 ≤ 9223372036854775807) = true := decide_eq_true c2
    try have c2b2 : (9223372036854775807 < a0_0.size + 1) = False := eq_false (Nat.not_lt.2 c2)
    by_cases c3 : (a0_0 ++ (⟨#[47]⟩ : ByteArray)).size + a0_1.size ≤ 9223372036854775807
    · rw [if_pos c3] at H
      have c3b0 := eq_true c3
      have c3b1 : decide ((a0_0 ++ (⟨#[47]⟩ : ByteArray)).size + a0_1.size ≤ 9223372036854775807) = true := decide_eq_true c3
      try have c3b2 : (9223372036854775807 < (a0_0 ++ (⟨#[47]⟩ : ByteArray)).size + a0_1.size) = False := eq_false (Nat.not_lt.2 c3)
      obtain rfl := Option.some.inj H
      go_enter Tryz.func30, Tryz.ntmps30
      go_wp2_with (first | ((with_reducible refine gate_dst (N := 1) rfl ?_); refine box_event ?hg (N := 1) ?hd (cs := #[.string a0_0, .string a0_1, .slice A0_2 l0_2.length c0_2]) (t := 48) ?hr ?_; (case hd => rfl); (case hg => rfl); (case hr => first | (go_simp; done) | (go_simp; rfl)); intro gb101 hg w4 hbox hb; have n0_ := Aside0.mk (below_step (by repeat (first | (with_reducible first | exact HB.out | apply below_alloc | apply pw_below_drewN | apply below_drew1) | exact HB.out)) hb); have n1_ := Aside0.mk (hbox); have n2_ := Aside0.mk ((by rw [hg]; exact (below_size (by repeat (first | (with_reducible first | exact HB.out | apply below_alloc | apply pw_below_drewN | apply below_drew1) | exact HB.out))) : w.heap.size ≤ gb101)); have n3_ := Aside0.mk ((by rw [hg]; exact (below_size (by repeat (first | (with_reducible first | exact HB.out | apply below_alloc | apply pw_below_drewN | apply below_drew1) | exact HB.out))) : w.heap.size ≤ gb101)); clear HB; have HB := n0_; have BK101 := n1_; have GW101 := n2_; have GE101 := n3_; clear n0_ n1_ n2_ n3_; clear hb hbox hg; have hcz5_0 : w4.cell? ⟨gb101, 0, none⟩ = some (.string a0_0) := (blk_cell BK101.out 0).trans rfl; have hcz5_1 : w4.cell? ⟨gb101, 1, none⟩ = some (.string a0_1) := (blk_cell BK101.out 1).trans rfl; have hcz5_2 : w4.cell? ⟨gb101, 2, none⟩ = some (.slice A0_2 l0_2.length c0_2) := (blk_cell BK101.out 2).trans rfl; have hfz5_0 := blk_frozen BK101.out 0; have hfz5_1 := blk_frozen BK101.out 1; have hfz5_2 := blk_frozen BK101.out 2))
      go_ret
      exact ⟨by first | rfl | (simp [errW_none, errW_some] <;> rfl) | (simp [*, errW_none, errW_some] <;> rfl), by repeat (first | (with_reducible first | exact HB.out | apply below_alloc | apply pw_below_drewN | apply below_drew1 | refine below_set ?_ GE101.out) | exact HB.out)⟩
    · rw [if_neg c3] at H
      exact absurd H (by simp)
  · rw [if_neg c2] at H
    exact absurd H (by simp)
end Go.Proofs.YteehjlciajhdoaaGreatDoor.X
namespace Go.Proofs.YteehjlciajhdoaaGreatDoor.X
open Go.RowKit Go.Proofs.YteehjlciajhdoaaGreatDoorW.PrintWords Go.Proofs.YteehjlciajhdoaaGreatDoorW.PrintLast Go.Proofs.YteehjlciajhdoaaGreatDoorW.PrintMore
attribute [local go_sem] max2_int min2_int max_two min_two max_three min_three max_four min_four
set_option linter.unusedVariables false
set_option linter.unusedSimpArgs false
mutual
def ostiaryref6_Text.l0 : Nat → ByteArray → Int → ByteArray → ByteArray → List (S89) → Option (ByteArray)
  | 0, _, _, _, _, _ => none
  | k + 1, x3, x4, x102000, x102001, x102002 => if x4 < (x102002.length : Int) then (if x3.size + 1 ≤ 9223372036854775807 then (if 0 ≤ x4 then (if (x3 ++ (⟨#[59]⟩ : ByteArray)).size + ((rd_T89 x102002 x4).f0).size ≤ 9223372036854775807 then (if ((x3 ++ (⟨#[59]⟩ : ByteArray)) ++ ((rd_T89 x102002 x4).f0)).size + 1 ≤ 9223372036854775807 then ((ostiaryref1_Token.f k ((rd_T89 x102002 x4).f1)).bind fun t105 => (if t105 = true then (if (((x3 ++ (⟨#[59]⟩ : ByteArray)) ++ ((rd_T89 x102002 x4).f0)) ++ (⟨#[61]⟩ : ByteArray)).size + ((rd_T89 x102002 x4).f1).size ≤ 9223372036854775807 then (ostiaryref6_Text.l0 k ((((x3 ++ (⟨#[59]⟩ : ByteArray)) ++ ((rd_T89 x102002 x4).f0)) ++ (⟨#[61]⟩ : ByteArray)) ++ ((rd_T89 x102002 x4).f1)) (wrap64 (x4 + 1)) x102000 x102001 x102002) else (none)) else (if (((x3 ++ (⟨#[59]⟩ : ByteArray)) ++ ((rd_T89 x102002 x4).f0)) ++ (⟨#[61]⟩ : ByteArray)).size + 1 ≤ 9223372036854775807 then (ostiaryref6_Text.l1 k ((((x3 ++ (⟨#[59]⟩ : ByteArray)) ++ ((rd_T89 x102002 x4).f0)) ++ (⟨#[61]⟩ : ByteArray)) ++ (⟨#[34]⟩ : ByteArray)) x4 ((rd_T89 x102002 x4).f1) 0 x102000 x102001 x102002) else (none)))) else (none)) else (none)) else (none)) else (none)) else (some x3)
def ostiaryref6_Text.l1 : Nat → ByteArray → Int → ByteArray → Int → ByteArray → ByteArray → List (S89) → Option (ByteArray)
  | 0, _, _, _, _, _, _, _ => none
  | k + 1, x3, x4, x5, x6, x102000, x102001, x102002 => if x6 < (x5.size : Int) then (if 0 ≤ x6 then (if (bt x5 x6) = 34 then (if x3.size + 1 ≤ 9223372036854775807 then (if x6 ≤ (wrap64 (x6 + 1)) then (if (wrap64 (x6 + 1)) ≤ (x5.size : Int) then (if (x3 ++ (⟨#[92]⟩ : ByteArray)).size + (x5.extract (x6 : Int).toNat ((wrap64 (x6 + 1)) : Int).toNat).size ≤ 9223372036854775807 then (ostiaryref6_Text.l1 k ((x3 ++ (⟨#[92]⟩ : ByteArray)) ++ (x5.extract (x6 : Int).toNat ((wrap64 (x6 + 1)) : Int).toNat)) x4 x5 (wrap64 (x6 + 1)) x102000 x102001 x102002) else (none)) else (none)) else (none)) else (none)) else (if (bt x5 x6) = 92 then (if x3.size + 1 ≤ 9223372036854775807 then (if x6 ≤ (wrap64 (x6 + 1)) then (if (wrap64 (x6 + 1)) ≤ (x5.size : Int) then (if (x3 ++ (⟨#[92]⟩ : ByteArray)).size + (x5.extract (x6 : Int).toNat ((wrap64 (x6 + 1)) : Int).toNat).size ≤ 9223372036854775807 then (ostiaryref6_Text.l1 k ((x3 ++ (⟨#[92]⟩ : ByteArray)) ++ (x5.extract (x6 : Int).toNat ((wrap64 (x6 + 1)) : Int).toNat)) x4 x5 (wrap64 (x6 + 1)) x102000 x102001 x102002) else (none)) else (none)) else (none)) else (none)) else (if x6 ≤ (wrap64 (x6 + 1)) then (if (wrap64 (x6 + 1)) ≤ (x5.size : Int) then (if x3.size + (x5.extract (x6 : Int).toNat ((wrap64 (x6 + 1)) : Int).toNat).size ≤ 9223372036854775807 then (ostiaryref6_Text.l1 k (x3 ++ (x5.extract (x6 : Int).toNat ((wrap64 (x6 + 1)) : Int).toNat)) x4 x5 (wrap64 (x6 + 1)) x102000 x102001 x102002) else (none)) else (none)) else (none)))) else (none)) else (if x3.size + 1 ≤ 9223372036854775807 then (ostiaryref6_Text.l0 k (x3 ++ (⟨#[34]⟩ : ByteArray)) (wrap64 (x4 + 1)) x102000 x102001 x102002) else (none))
end
def ostiaryref6_Text.f (k : Nat) (a0_0 : ByteArray) (a0_1 : ByteArray) (l0_2 : List (S89)) : Option (ByteArray) := (ostiaryref6_Essence.f a0_0 a0_1 l0_2).bind fun t102 => (ostiaryref6_Text.l0 k t102 0 a0_0 a0_1 l0_2)
theorem ostiaryref6_Text.mono_l : ∀ k, (∀ y0 y1 y2 y3 y4, LeO (ostiaryref6_Text.l0 k y0 y1 y2 y3 y4) (ostiaryref6_Text.l0 (k + 1) y0 y1 y2 y3 y4)) ∧ (∀ y0 y1 y2 y3 y4 y5 y6, LeO (ostiaryref6_Text.l1 k y0 y1 y2 y3 y4 y5 y6) (ostiaryref6_Text.l1 (k + 1) y0 y1 y2 y3 y4 y5 y6))
  | 0 => ⟨fun _ _ _ _ _ r h => by simp [ostiaryref6_Text.l0] at h, fun _ _ _ _ _ _ _ r h => by simp [ostiaryref6_Text.l1] at h⟩
  | k + 1 => by
    obtain ⟨ih0, ih1⟩ := ostiaryref6_Text.mono_l k
    refine ⟨?_, ?_⟩
    · intro y0 y1 y2 y3 y4
      unfold ostiaryref6_Text.l0
      repeat' first
      | (with_reducible exact ih0 _ _ _ _ _)
      | (with_reducible exact ih1 _ _ _ _ _ _ _)
      | (with_reducible exact ostiaryref1_Token.mono _ _)
      | (with_reducible exact LeO.refl _)
      | (with_reducible exact LeO.none _)
      | (with_reducible refine LeO.ite ?_ ?_)
      | (with_reducible refine LeO.bind ?_ (fun _ => ?_))
      | exact ih0 _ _ _ _ _
      | exact ih1 _ _ _ _ _ _ _
      | exact ostiaryref1_Token.mono _ _
      | exact LeO.none _
      | refine LeO.ite ?_ ?_
      | refine LeO.bind ?_ (fun _ => ?_)
    · intro y0 y1 y2 y3 y4 y5 y6
      unfold ostiaryref6_Text.l1
      repeat' first
      | (with_reducible exact ih0 _ _ _ _ _)
      | (with_reducible exact ih1 _ _ _ _ _ _ _)
      | (with_reducible exact ostiaryref1_Token.mono _ _)
      | (with_reducible exact LeO.refl _)
      | (with_reducible exact LeO.none _)
      | (with_reducible refine LeO.ite ?_ ?_)
      | (with_reducible refine LeO.bind ?_ (fun _ => ?_))
      | exact ih0 _ _ _ _ _
      | exact ih1 _ _ _ _ _ _ _
      | exact ostiaryref1_Token.mono _ _
      | exact LeO.none _
      | refine LeO.ite ?_ ?_
      | refine LeO.bind ?_ (fun _ => ?_)
theorem ostiaryref6_Text.mono : ∀ a0 a1 a2 k, LeO (ostiaryref6_Text.f k a0 a1 a2) (ostiaryref6_Text.f (k + 1) a0 a1 a2) := by
  intro a0 a1 a2 k
  obtain ⟨ih0, ih1⟩ := ostiaryref6_Text.mono_l k
  unfold ostiaryref6_Text.f
  repeat' first
      | (with_reducible exact ih0 _ _ _ _ _)
      | (with_reducible exact ih1 _ _ _ _ _ _ _)
      | (with_reducible exact ostiaryref1_Token.mono _ _)
      | (with_reducible exact LeO.refl _)
      | (with_reducible exact LeO.none _)
      | (with_reducible refine LeO.ite ?_ ?_)
      | (with_reducible refine LeO.bind ?_ (fun _ => ?_))
      | exact ih0 _ _ _ _ _
      | exact ih1 _ _ _ _ _ _ _
      | exact ostiaryref1_Token.mono _ _
      | exact LeO.none _
      | refine LeO.ite ?_ ?_
      | refine LeO.bind ?_ (fun _ => ?_)
set_option maxHeartbeats 8000000 in
set_option maxRecDepth 100000 in
theorem ostiaryref6_Text.calls (k : Nat) (a0_0 : ByteArray) (a0_1 : ByteArray) (A0_2 : Option Addr) (c0_2 : Nat) (l0_2 : List (S89)) (r : ByteArray) (w : World) (hr0_2 : Kd.C k89 w A0_2 l0_2.length l0_2) (hc0_2 : l0_2.length ≤ c0_2) (h : ostiaryref6_Text.f k a0_0 a0_1 l0_2 = some r) :
    Calls Tryz.prog 28 #[.agg #[.string a0_0, .string a0_1, .slice A0_2 l0_2.length c0_2]] w fun e w' => e = .returned (.string r) ∧ Below w.heap.size w w' := by
  have hu48 := Tryz.underlying48
  have HR0_2 := Aside0.mk hr0_2
  have HC0_2 := Aside0.mk hc0_2
  clear hr0_2 hc0_2
  have HB := Aside0.mk (Below.refl w.heap.size w)
  have H : ((ostiaryref6_Essence.f a0_0 a0_1 l0_2).bind fun t102 => (ostiaryref6_Text.l0 k t102 0 a0_0 a0_1 l0_2)) = some r := h
  clear h
  replace H := Option.bind_eq_some_iff.mp H
  obtain ⟨t102, A20, H⟩ := H
  replace H : (ostiaryref6_Text.l0 k t102 0 a0_0 a0_1 l0_2) = some r := H
  have A2 := Aside0.mk A20
  clear A20
  have H' := Aside0.mk H
  clear H
  go_enter Tryz.func28, Tryz.ntmps28
  go_wp2_with (first | ((with_reducible refine gate_dst (N := 1) rfl ?_); refine box_event ?hg (N := 1) ?hd (cs := #[.string a0_0, .string a0_1, .slice A0_2 l0_2.length c0_2]) (t := 48) ?hr ?_; (case hd => rfl); (case hg => rfl); (case hr => first | (go_simp; done) | (go_simp; rfl)); intro gb101 hg w3 hbox hb; have n0_ := Aside0.mk (below_step (by repeat (first | (with_reducible first | exact HB.out | apply below_alloc | apply pw_below_drewN | apply below_drew1) | exact HB.out)) hb); have n1_ := Aside0.mk (hbox); have n2_ := Aside0.mk ((by rw [hg]; exact (below_size (by repeat (first | (with_reducible first | exact HB.out | apply below_alloc | apply pw_below_drewN | apply below_drew1) | exact HB.out))) : w.heap.size ≤ gb101)); have n3_ := Aside0.mk ((by rw [hg]; exact (below_size (by repeat (first | (with_reducible first | exact HB.out | apply below_alloc | apply pw_below_drewN | apply below_drew1) | exact HB.out))) : w.heap.size ≤ gb101)); clear HB; have HB := n0_; have BK101 := n1_; have GW101 := n2_; have GE101 := n3_; clear n0_ n1_ n2_ n3_; clear hb hbox hg; have hcz4_0 : w3.cell? ⟨gb101, 0, none⟩ = some (.string a0_0) := (blk_cell BK101.out 0).trans rfl; have hcz4_1 : w3.cell? ⟨gb101, 1, none⟩ = some (.string a0_1) := (blk_cell BK101.out 1).trans rfl; have hcz4_2 : w3.cell? ⟨gb101, 2, none⟩ = some (.slice A0_2 l0_2.length c0_2) := (blk_cell BK101.out 2).trans rfl; have hfz4_0 := blk_frozen BK101.out 0; have hfz4_1 := blk_frozen BK101.out 1; have hfz4_2 := blk_frozen BK101.out 2) | ((with_reducible refine gate_callee (f := 30) rfl ?_); refine goesL_ (some 8) rfl rfl Tryz.func30 (by kernel_rfl) rfl #[.agg #[.string a0_0, .string a0_1, .slice A0_2 l0_2.length c0_2]] rfl (by (try simp only [List.map_toArray, List.map_cons, List.map_nil]); first | done | rfl | (simp only [List.length_drop, List.length_take]; rfl)) ?_; (with_reducible refine (ostiaryref6_Essence.calls a0_0 a0_1 _ _ l0_2 t102 _ ?side1 ?side2 A2.out).mono ?_); (case side1 => repeat (first | exact (Kd.C_below HR0_2.out HB.out) | (with_reducible refine Kd.C_alloc ?_ _) | (with_reducible refine Kd.C_drewN ?_ _) | (with_reducible refine Kd.C_drew ?_))); (case side2 => exact HC0_2.out); rintro e w5 ⟨rfl, hb⟩; refine ⟨_, rfl, ?_⟩; have n0_ := Aside0.mk (blk_below (g := gb101) (o := .cells #[.string a0_0, .string a0_1, .slice A0_2 l0_2.length c0_2] 48 (0, 0)) (by (with_reducible repeat (first | refine blk_drewN ?_ _ | refine blk_drew ?_ | refine blk_alloc ?_ _)); exact BK101.out) hb); have n1_ := Aside0.mk (below_step (by repeat (first | (with_reducible first | exact HB.out | apply below_alloc | apply pw_below_drewN | apply below_drew1 | refine below_set ?_ GE101.out) | exact HB.out)) hb); clear BK101; clear HB; have BK101 := n0_; have HB := n1_; clear n0_ n1_; (try clear hb); (try clear hb2); (try clear hk); (try clear hi)))
  go_loopg [3, 4] k (fun kq v3 v4 w' => ∃ (x3_1 : ByteArray) (x4_1 : Int), v3 = .string x3_1 ∧ v4 = .int .i64 x4_1 ∧ Aside0 (ostiaryref6_Text.l0 kq x3_1 x4_1 a0_0 a0_1 l0_2 = some r) ∧ Aside0 (kq ≤ k) ∧ Aside0 (w'.heap[gb101]? = some (.cells #[.string a0_0, .string a0_1, (.slice A0_2 l0_2.length c0_2)] 48 (0, 0))) ∧ Aside0 (Below w.heap.size w w'))
  case atStart => exact ⟨(t102), (0), (by first | rfl | (simp; done) | (simp [*]; done)), (by first | rfl | (simp; done) | (simp [*]; done)), H', ⟨Nat.le_refl _⟩, ⟨by (with_reducible repeat (first | refine blk_drewN ?_ _ | refine blk_drew ?_ | refine blk_alloc ?_ _)); exact BK101.out⟩, ⟨by repeat (first | (with_reducible first | exact HB.out | apply below_alloc | apply pw_below_drewN | apply below_drew1 | refine below_set ?_ GE101.out) | exact HB.out)⟩⟩
  case round =>
    clear H'
    try clear c2
    try clear p2
    try clear c3
    try clear hcz4_0
    try clear hcz4_1
    try clear hcz4_2
    try clear hfz4_0
    try clear hfz4_1
    try clear hfz4_2
    obtain ⟨x3_1, x4_1, rfl, rfl, HA, HK1, BK101, HB⟩ := hrel
    cases gk with
    | zero => exact absurd HA.out (by simp [ostiaryref6_Text.l0])
    | succ k1 =>
      have H := HA.out
      clear HA
      simp only [ostiaryref6_Text.l0] at H
      by_cases c6 : x4_1 < (l0_2.length : Int)
      · rw [if_pos c6] at H
        have c6b0 : decide (x4_1 < (l0_2.length : Int)) = true := decide_eq_true c6
        clear c6
        by_cases c7 : x3_1.size + 1 ≤ 9223372036854775807
        · rw [if_pos c7] at H
          have c7b0 := eq_true c7
          have c7b1 : decide (x3_1.size + 1 ≤ 9223372036854775807) = true := decide_eq_true c7
          try have c7b2 : (9223372036854775807 < x3_1.size + 1) = False := eq_false (Nat.not_lt.2 c7)
          try (have c7n := c7; simp only [ByteArray.size_append] at c7n)
          by_cases c8 : 0 ≤ x4_1
          · rw [if_pos c8] at H
            have c8b0 : decide (0 ≤ x4_1) = true := decide_eq_true c8
            clear c8
            by_cases c9 : (x3_1 ++ (⟨#[59]⟩ : ByteArray)).size + ((rd_T89 l0_2 x4_1).f0).size ≤ 9223372036854775807
            · rw [if_pos c9] at H
              have c9b0 := eq_true c9
              have c9b1 : decide ((x3_1 ++ (⟨#[59]⟩ : ByteArray)).size + ((rd_T89 l0_2 x4_1).f0).size ≤ 9223372036854775807) = true := decide_eq_true c9
              try have c9b2 : (9223372036854775807 < (x3_1 ++ (⟨#[59]⟩ : ByteArray)).size + ((rd_T89 l0_2 x4_1).f0).size) = False := eq_false (Nat.not_lt.2 c9)
              try (have c9n := c9; simp only [ByteArray.size_append, show (⟨#[59]⟩ : ByteArray).size = 1 from rfl] at c9n)
              by_cases c10 : ((x3_1 ++ (⟨#[59]⟩ : ByteArray)) ++ ((rd_T89 l0_2 x4_1).f0)).size + 1 ≤ 9223372036854775807
              · rw [if_pos c10] at H
                have c10b0 := eq_true c10
                have c10b1 : decide (((x3_1 ++ (⟨#[59]⟩ : ByteArray)) ++ ((rd_T89 l0_2 x4_1).f0)).size + 1 ≤ 9223372036854775807) = true := decide_eq_true c10
                try have c10b2 : (9223372036854775807 < ((x3_1 ++ (⟨#[59]⟩ : ByteArray)) ++ ((rd_T89 l0_2 x4_1).f0)).size + 1) = False := eq_false (Nat.not_lt.2 c10)
                try (have c10n := c10; simp only [ByteArray.size_append, show (⟨#[59]⟩ : ByteArray).size = 1 from rfl] at c10n)
                replace H := Option.bind_eq_some_iff.mp H
                obtain ⟨t105, A110, H⟩ := H
                replace H : (if t105 = true then (if (((x3_1 ++ (⟨#[59]⟩ : ByteArray)) ++ ((rd_T89 l0_2 x4_1).f0)) ++ (⟨#[61]⟩ : ByteArray)).size + ((rd_T89 l0_2 x4_1).f1).size ≤ 9223372036854775807 then (ostiaryref6_Text.l0 k1 ((((x3_1 ++ (⟨#[59]⟩ : ByteArray)) ++ ((rd_T89 l0_2 x4_1).f0)) ++ (⟨#[61]⟩ : ByteArray)) ++ ((rd_T89 l0_2 x4_1).f1)) (wrap64 (x4_1 + 1)) a0_0 a0_1 l0_2) else (none)) else (if (((x3_1 ++ (⟨#[59]⟩ : ByteArray)) ++ ((rd_T89 l0_2 x4_1).f0)) ++ (⟨#[61]⟩ : ByteArray)).size + 1 ≤ 9223372036854775807 then (ostiaryref6_Text.l1 k1 ((((x3_1 ++ (⟨#[59]⟩ : ByteArray)) ++ ((rd_T89 l0_2 x4_1).f0)) ++ (⟨#[61]⟩ : ByteArray)) ++ (⟨#[34]⟩ : ByteArray)) x4_1 ((rd_T89 l0_2 x4_1).f1) 0 a0_0 a0_1 l0_2) else (none))) = some r := H
                have A11 := Aside0.mk A110
                clear A110
                by_cases c12 : t105 = true
                · subst c12
                  have H1 : (if (((x3_1 ++ (⟨#[59]⟩ : ByteArray)) ++ ((rd_T89 l0_2 x4_1).f0)) ++ (⟨#[61]⟩ : ByteArray)).size + ((rd_T89 l0_2 x4_1).f1).size ≤ 9223372036854775807 then (ostiaryref6_Text.l0 k1 ((((x3_1 ++ (⟨#[59]⟩ : ByteArray)) ++ ((rd_T89 l0_2 x4_1).f0)) ++ (⟨#[61]⟩ : ByteArray)) ++ ((rd_T89 l0_2 x4_1).f1)) (wrap64 (x4_1 + 1)) a0_0 a0_1 l0_2) else (none)) = some r := by rw [if_pos rfl] at H; exact H
                  clear H
                  have H := H1
                  clear H1
                  by_cases c13 : (((x3_1 ++ (⟨#[59]⟩ : ByteArray)) ++ ((rd_T89 l0_2 x4_1).f0)) ++ (⟨#[61]⟩ : ByteArray)).size + ((rd_T89 l0_2 x4_1).f1).size ≤ 9223372036854775807
                  · rw [if_pos c13] at H
                    have c13b0 := eq_true c13
                    have c13b1 : decide ((((x3_1 ++ (⟨#[59]⟩ : ByteArray)) ++ ((rd_T89 l0_2 x4_1).f0)) ++ (⟨#[61]⟩ : ByteArray)).size + ((rd_T89 l0_2 x4_1).f1).size ≤ 9223372036854775807) = true := decide_eq_true c13
                    try have c13b2 : (9223372036854775807 < (((x3_1 ++ (⟨#[59]⟩ : ByteArray)) ++ ((rd_T89 l0_2 x4_1).f0)) ++ (⟨#[61]⟩ : ByteArray)).size + ((rd_T89 l0_2 x4_1).f1).size) = False := eq_false (Nat.not_lt.2 c13)
                    try (have c13n := c13; simp only [ByteArray.size_append, show (⟨#[59]⟩ : ByteArray).size = 1 from rfl, show (⟨#[61]⟩ : ByteArray).size = 1 from rfl] at c13n)
                    have H' := Aside0.mk H
                    clear H
                    have hcz14_0 : wr.cell? ⟨gb101, 0, none⟩ = some (.string a0_0) := (blk_cell BK101.out 0).trans rfl
                    have hcz14_1 : wr.cell? ⟨gb101, 1, none⟩ = some (.string a0_1) := (blk_cell BK101.out 1).trans rfl
                    have hcz14_2 : wr.cell? ⟨gb101, 2, none⟩ = some (.slice A0_2 l0_2.length c0_2) := (blk_cell BK101.out 2).trans rfl
                    have hfz14_0 := blk_frozen BK101.out 0
                    have hfz14_1 := blk_frozen BK101.out 1
                    have hfz14_2 := blk_frozen BK101.out 2
                    have p103 : 0 ≤ (x4_1 : Int) := of_decide_eq_true (by first | (with_reducible assumption) | assumption)
                    have q103 : x4_1 < (l0_2.length : Int) := of_decide_eq_true (by first | (with_reducible assumption) | assumption)
                    obtain ⟨ad103, e103, hx103_0, hx103_1⟩ := at_T89 HR0_2.out x4_1 p103 q103
                    cases e103
                    replace hx103_0 := (HB.out.cell (World.block_lt_of_cell? w _ hx103_0)).trans hx103_0
                    replace hx103_1 := (HB.out.cell (World.block_lt_of_cell? w _ hx103_1)).trans hx103_1
                    replace p103 := eq_true p103
                    replace q103 := eq_true q103
                    have p104 : 0 ≤ (x4_1 : Int) := of_decide_eq_true (by first | (with_reducible assumption) | assumption)
                    have q104 : x4_1 < (l0_2.length : Int) := of_decide_eq_true (by first | (with_reducible assumption) | assumption)
                    obtain ⟨ad104, e104, hx104_0, hx104_1⟩ := at_T89 HR0_2.out x4_1 p104 q104
                    obtain rfl : ad103 = ad104 := (by injection e104)
                    replace hx104_0 := (HB.out.cell (World.block_lt_of_cell? w _ hx104_0)).trans hx104_0
                    replace hx104_1 := (HB.out.cell (World.block_lt_of_cell? w _ hx104_1)).trans hx104_1
                    replace p104 := eq_true p104
                    replace q104 := eq_true q104
                    go_wp2_with (first | ((with_reducible refine gate_callee (f := 74) rfl ?_); refine goesL_ (some 33) rfl rfl Tryz.func74 (by kernel_rfl) rfl #[.string ((rd_T89 l0_2 x4_1).f1)] rfl (by (try simp only [List.map_toArray, List.map_cons, List.map_nil]); first | done | rfl | (simp only [List.length_drop, List.length_take]; rfl)) ?_; (with_reducible refine (ostiaryref1_Token.calls k1 ((rd_T89 l0_2 x4_1).f1) true _ A11.out).mono ?_); rintro e w' ⟨rfl, ⟨nd, rfl⟩⟩; refine ⟨_, rfl, ?_⟩))
                    go_roundg k1
                    case measure => have := HK1.out; omega
                    case rel => exact ⟨((((x3_1 ++ (⟨#[59]⟩ : ByteArray)) ++ ((rd_T89 l0_2 x4_1).f0)) ++ (⟨#[61]⟩ : ByteArray)) ++ ((rd_T89 l0_2 x4_1).f1)), (wrap64 (x4_1 + 1)), (by first | rfl | (simp; done) | (simp [*]; done)), (by first | rfl | (simp; done) | (simp [*]; done)), H', ⟨by have := HK1.out; omega⟩, ⟨by (with_reducible repeat (first | refine blk_drewN ?_ _ | refine blk_drew ?_ | refine blk_alloc ?_ _)); exact BK101.out⟩, ⟨by repeat (first | (with_reducible first | exact HB.out | apply below_alloc | apply pw_below_drewN | apply below_drew1 | refine below_set ?_ GE101.out) | exact HB.out)⟩⟩
                  · rw [if_neg c13] at H
                    exact absurd H (by simp)
                · replace c12 := Bool.eq_false_iff.mpr c12
                  subst c12
                  have H1 : (if (((x3_1 ++ (⟨#[59]⟩ : ByteArray)) ++ ((rd_T89 l0_2 x4_1).f0)) ++ (⟨#[61]⟩ : ByteArray)).size + 1 ≤ 9223372036854775807 then (ostiaryref6_Text.l1 k1 ((((x3_1 ++ (⟨#[59]⟩ : ByteArray)) ++ ((rd_T89 l0_2 x4_1).f0)) ++ (⟨#[61]⟩ : ByteArray)) ++ (⟨#[34]⟩ : ByteArray)) x4_1 ((rd_T89 l0_2 x4_1).f1) 0 a0_0 a0_1 l0_2) else (none)) = some r := by rw [if_neg (show ¬ (false = true) by decide)] at H; exact H
                  clear H
                  have H := H1
                  clear H1
                  by_cases c15 : (((x3_1 ++ (⟨#[59]⟩ : ByteArray)) ++ ((rd_T89 l0_2 x4_1).f0)) ++ (⟨#[61]⟩ : ByteArray)).size + 1 ≤ 9223372036854775807
                  · rw [if_pos c15] at H
                    have c15b0 := eq_true c15
                    have c15b1 : decide ((((x3_1 ++ (⟨#[59]⟩ : ByteArray)) ++ ((rd_T89 l0_2 x4_1).f0)) ++ (⟨#[61]⟩ : ByteArray)).size + 1 ≤ 9223372036854775807) = true := decide_eq_true c15
                    try have c15b2 : (9223372036854775807 < (((x3_1 ++ (⟨#[59]⟩ : ByteArray)) ++ ((rd_T89 l0_2 x4_1).f0)) ++ (⟨#[61]⟩ : ByteArray)).size + 1) = False := eq_false (Nat.not_lt.2 c15)
                    try (have c15n := c15; simp only [ByteArray.size_append, show (⟨#[59]⟩ : ByteArray).size = 1 from rfl, show (⟨#[61]⟩ : ByteArray).size = 1 from rfl] at c15n)
                    have H' := Aside0.mk H
                    clear H
                    have hcz16_0 : wr.cell? ⟨gb101, 0, none⟩ = some (.string a0_0) := (blk_cell BK101.out 0).trans rfl
                    have hcz16_1 : wr.cell? ⟨gb101, 1, none⟩ = some (.string a0_1) := (blk_cell BK101.out 1).trans rfl
                    have hcz16_2 : wr.cell? ⟨gb101, 2, none⟩ = some (.slice A0_2 l0_2.length c0_2) := (blk_cell BK101.out 2).trans rfl
                    have hfz16_0 := blk_frozen BK101.out 0
                    have hfz16_1 := blk_frozen BK101.out 1
                    have hfz16_2 := blk_frozen BK101.out 2
                    have p103 : 0 ≤ (x4_1 : Int) := of_decide_eq_true (by first | (with_reducible assumption) | assumption)
                    have q103 : x4_1 < (l0_2.length : Int) := of_decide_eq_true (by first | (with_reducible assumption) | assumption)
                    obtain ⟨ad103, e103, hx103_0, hx103_1⟩ := at_T89 HR0_2.out x4_1 p103 q103
                    cases e103
                    replace hx103_0 := (HB.out.cell (World.block_lt_of_cell? w _ hx103_0)).trans hx103_0
                    replace hx103_1 := (HB.out.cell (World.block_lt_of_cell? w _ hx103_1)).trans hx103_1
                    replace p103 := eq_true p103
                    replace q103 := eq_true q103
                    have p104 : 0 ≤ (x4_1 : Int) := of_decide_eq_true (by first | (with_reducible assumption) | assumption)
                    have q104 : x4_1 < (l0_2.length : Int) := of_decide_eq_true (by first | (with_reducible assumption) | assumption)
                    obtain ⟨ad104, e104, hx104_0, hx104_1⟩ := at_T89 HR0_2.out x4_1 p104 q104
                    obtain rfl : ad103 = ad104 := (by injection e104)
                    replace hx104_0 := (HB.out.cell (World.block_lt_of_cell? w _ hx104_0)).trans hx104_0
                    replace hx104_1 := (HB.out.cell (World.block_lt_of_cell? w _ hx104_1)).trans hx104_1
                    replace p104 := eq_true p104
                    replace q104 := eq_true q104
                    go_wp2_with (first | ((with_reducible refine gate_callee (f := 74) rfl ?_); refine goesL_ (some 33) rfl rfl Tryz.func74 (by kernel_rfl) rfl #[.string ((rd_T89 l0_2 x4_1).f1)] rfl (by (try simp only [List.map_toArray, List.map_cons, List.map_nil]); first | done | rfl | (simp only [List.length_drop, List.length_take]; rfl)) ?_; (with_reducible refine (ostiaryref1_Token.calls k1 ((rd_T89 l0_2 x4_1).f1) false _ A11.out).mono ?_); rintro e w' ⟨rfl, ⟨nd, rfl⟩⟩; refine ⟨_, rfl, ?_⟩))
                    go_loopg [3, 6] k1 (fun kq v3 v6 w' => ∃ (x3_2 : ByteArray) (x6_2 : Int), v3 = .string x3_2 ∧ v6 = .int .i64 x6_2 ∧ Aside0 (ostiaryref6_Text.l1 kq x3_2 x4_1 ((rd_T89 l0_2 x4_1).f1) x6_2 a0_0 a0_1 l0_2 = some r) ∧ Aside0 (kq ≤ k1) ∧ Aside0 (w'.heap[gb101]? = some (.cells #[.string a0_0, .string a0_1, (.slice (some ad103) l0_2.length c0_2)] 48 (0, 0))) ∧ Aside0 (Below w.heap.size w w'))
                    case atStart => exact ⟨((((x3_1 ++ (⟨#[59]⟩ : ByteArray)) ++ ((rd_T89 l0_2 x4_1).f0)) ++ (⟨#[61]⟩ : ByteArray)) ++ (⟨#[34]⟩ : ByteArray)), (0), (by first | rfl | (simp; done) | (simp [*]; done)), (by first | rfl | (simp; done) | (simp [*]; done)), H', ⟨Nat.le_refl _⟩, ⟨by (with_reducible repeat (first | refine blk_drewN ?_ _ | refine blk_drew ?_ | refine blk_alloc ?_ _)); exact BK101.out⟩, ⟨by repeat (first | (with_reducible first | exact HB.out | apply below_alloc | apply pw_below_drewN | apply below_drew1 | refine below_set ?_ GE101.out) | exact HB.out)⟩⟩
                    case round =>
                      clear H'
                      try clear c1
                      try clear p1
                      try clear q1
                      try clear hx1
                      try clear c2
                      try clear p2
                      try clear c3
                      try clear c6
                      try clear c6b0
                      try clear p6
                      try clear c7
                      try clear c7b0
                      try clear c7b1
                      try clear c7b2
                      try clear c8
                      try clear c8b0
                      try clear c9
                      try clear c9b0
                      try clear c9b1
                      try clear c9b2
                      try clear c10
                      try clear c10b0
                      try clear c10b1
                      try clear c10b2
                      try clear p10
                      try clear q10
                      try clear hx10
                      try clear c12
                      try clear c13
                      try clear c13b0
                      try clear c13b1
                      try clear c13b2
                      try clear c15
                      try clear c15b0
                      try clear c15b1
                      try clear c15b2
                      try clear hcz14_0
                      try clear hcz14_1
                      try clear hcz14_2
                      try clear hcz16_0
                      try clear hcz16_1
                      try clear hcz16_2
                      try clear hcz4_0
                      try clear hcz4_1
                      try clear hcz4_2
                      try clear hfz14_0
                      try clear hfz14_1
                      try clear hfz14_2
                      try clear hfz16_0
                      try clear hfz16_1
                      try clear hfz16_2
                      try clear hfz4_0
                      try clear hfz4_1
                      try clear hfz4_2
                      try clear hx103_0
                      try clear hx103_1
                      try clear hx104_0
                      try clear hx104_1
                      try clear p103
                      try clear p104
                      try clear p2
                      try clear q103
                      try clear q104
                      obtain ⟨x3_2, x6_2, rfl, rfl, HA, HK2, BK101, HB⟩ := hrel
                      cases gk with
                      | zero => exact absurd HA.out (by simp [ostiaryref6_Text.l1])
                      | succ k2 =>
                        have H := HA.out
                        clear HA
                        simp only [ostiaryref6_Text.l1] at H
                        by_cases c17 : x6_2 < (((rd_T89 l0_2 x4_1).f1).size : Int)
                        · rw [if_pos c17] at H
                          have c17b0 : decide (x6_2 < (((rd_T89 l0_2 x4_1).f1).size : Int)) = true := decide_eq_true c17
                          clear c17
                          by_cases c18 : 0 ≤ x6_2
                          · rw [if_pos c18] at H
                            have c18b0 : decide (0 ≤ x6_2) = true := decide_eq_true c18
                            clear c18
                            by_cases c20 : (bt ((rd_T89 l0_2 x4_1).f1) x6_2) = 34
                            · rw [if_pos c20] at H
                              have c20b0 : ((bt ((rd_T89 l0_2 x4_1).f1) x6_2) == 34) = true := beq_iff_eq.mpr c20
                              have c20b1 : ((bt ((rd_T89 l0_2 x4_1).f1) x6_2) != 34) = false := bne_eq_false_iff_eq.mpr c20
                              clear c20
                              by_cases c21 : x3_2.size + 1 ≤ 9223372036854775807
                              · rw [if_pos c21] at H
                                have c21b0 := eq_true c21
                                have c21b1 : decide (x3_2.size + 1 ≤ 9223372036854775807) = true := decide_eq_true c21
                                try have c21b2 : (9223372036854775807 < x3_2.size + 1) = False := eq_false (Nat.not_lt.2 c21)
                                try (have c21n := c21; simp only [ByteArray.size_append] at c21n)
                                have c22b0 := eq_true (of_decide_eq_true (by first | (with_reducible assumption) | assumption) : 0 ≤ x6_2)
                                by_cases c23 : x6_2 ≤ (wrap64 (x6_2 + 1))
                                · rw [if_pos c23] at H
                                  have c23b0 := eq_true c23
                                  have c23b1 : decide (x6_2 ≤ (wrap64 (x6_2 + 1))) = true := decide_eq_true c23
                                  by_cases c24 : (wrap64 (x6_2 + 1)) ≤ (((rd_T89 l0_2 x4_1).f1).size : Int)
                                  · rw [if_pos c24] at H
                                    have c24b0 := eq_true c24
                                    have c24b1 : decide ((wrap64 (x6_2 + 1)) ≤ (((rd_T89 l0_2 x4_1).f1).size : Int)) = true := decide_eq_true c24
                                    by_cases c25 : (x3_2 ++ (⟨#[92]⟩ : ByteArray)).size + (((rd_T89 l0_2 x4_1).f1).extract (x6_2 : Int).toNat ((wrap64 (x6_2 + 1)) : Int).toNat).size ≤ 9223372036854775807
                                    · rw [if_pos c25] at H
                                      have c25b0 := eq_true c25
                                      have c25b1 : decide ((x3_2 ++ (⟨#[92]⟩ : ByteArray)).size + (((rd_T89 l0_2 x4_1).f1).extract (x6_2 : Int).toNat ((wrap64 (x6_2 + 1)) : Int).toNat).size ≤ 9223372036854775807) = true := decide_eq_true c25
                                      try have c25b2 : (9223372036854775807 < (x3_2 ++ (⟨#[92]⟩ : ByteArray)).size + (((rd_T89 l0_2 x4_1).f1).extract (x6_2 : Int).toNat ((wrap64 (x6_2 + 1)) : Int).toNat).size) = False := eq_false (Nat.not_lt.2 c25)
                                      try (have c25n := c25; simp only [ByteArray.size_append, show (⟨#[92]⟩ : ByteArray).size = 1 from rfl] at c25n)
                                      have H' := Aside0.mk H
                                      clear H
                                      have p19 : 0 ≤ (x6_2 : Int) := of_decide_eq_true (by first | (with_reducible assumption) | assumption)
                                      have q19 : x6_2 < (((rd_T89 l0_2 x4_1).f1).size : Int) := of_decide_eq_true (by first | (with_reducible assumption) | assumption)
                                      have hx19 := bt_at ((rd_T89 l0_2 x4_1).f1) x6_2
                                      replace p19 := eq_true p19
                                      replace q19 := eq_true q19
                                      go_wp2
                                      go_roundg k2
                                      case measure => have := HK1.out; have := HK2.out; omega
                                      case rel => exact ⟨((x3_2 ++ (⟨#[92]⟩ : ByteArray)) ++ (((rd_T89 l0_2 x4_1).f1).extract (x6_2 : Int).toNat ((wrap64 (x6_2 + 1)) : Int).toNat)), (wrap64 (x6_2 + 1)), (by first | rfl | (simp; done) | (simp [*]; done)), (by first | rfl | (simp; done) | (simp [*]; done)), H', ⟨by have := HK1.out; have := HK2.out; omega⟩, ⟨by (with_reducible repeat (first | refine blk_drewN ?_ _ | refine blk_drew ?_ | refine blk_alloc ?_ _)); exact BK101.out⟩, ⟨by repeat (first | (with_reducible first | exact HB.out | apply below_alloc | apply pw_below_drewN | apply below_drew1 | refine below_set ?_ GE101.out) | exact HB.out)⟩⟩
                                    · rw [if_neg c25] at H
                                      exact absurd H (by simp)
                                  · rw [if_neg c24] at H
                                    exact absurd H (by simp)
                                · rw [if_neg c23] at H
                                  exact absurd H (by simp)
                              · rw [if_neg c21] at H
                                exact absurd H (by simp)
                            · rw [if_neg c20] at H
                              have c20b0 : ((bt ((rd_T89 l0_2 x4_1).f1) x6_2) == 34) = false := beq_eq_false_iff_ne.mpr c20
                              have c20b1 : ((bt ((rd_T89 l0_2 x4_1).f1) x6_2) != 34) = true := bne_iff_ne.mpr c20
                              by_cases c27 : (bt ((rd_T89 l0_2 x4_1).f1) x6_2) = 92
                              · rw [if_pos c27] at H
                                have c27b0 : ((bt ((rd_T89 l0_2 x4_1).f1) x6_2) == 92) = true := beq_iff_eq.mpr c27
                                have c27b1 : ((bt ((rd_T89 l0_2 x4_1).f1) x6_2) != 92) = false := bne_eq_false_iff_eq.mpr c27
                                clear c27
                                by_cases c28 : x3_2.size + 1 ≤ 9223372036854775807
                                · rw [if_pos c28] at H
                                  have c28b0 := eq_true c28
                                  have c28b1 : decide (x3_2.size + 1 ≤ 9223372036854775807) = true := decide_eq_true c28
                                  try have c28b2 : (9223372036854775807 < x3_2.size + 1) = False := eq_false (Nat.not_lt.2 c28)
                                  try (have c28n := c28; simp only [ByteArray.size_append] at c28n)
                                  have c29b0 := eq_true (of_decide_eq_true (by first | (with_reducible assumption) | assumption) : 0 ≤ x6_2)
                                  by_cases c30 : x6_2 ≤ (wrap64 (x6_2 + 1))
                                  · rw [if_pos c30] at H
                                    have c30b0 := eq_true c30
                                    have c30b1 : decide (x6_2 ≤ (wrap64 (x6_2 + 1))) = true := decide_eq_true c30
                                    by_cases c31 : (wrap64 (x6_2 + 1)) ≤ (((rd_T89 l0_2 x4_1).f1).size : Int)
                                    · rw [if_pos c31] at H
                                      have c31b0 := eq_true c31
                                      have c31b1 : decide ((wrap64 (x6_2 + 1)) ≤ (((rd_T89 l0_2 x4_1).f1).size : Int)) = true := decide_eq_true c31
                                      by_cases c32 : (x3_2 ++ (⟨#[92]⟩ : ByteArray)).size + (((rd_T89 l0_2 x4_1).f1).extract (x6_2 : Int).toNat ((wrap64 (x6_2 + 1)) : Int).toNat).size ≤ 9223372036854775807
                                      · rw [if_pos c32] at H
                                        have c32b0 := eq_true c32
                                        have c32b1 : decide ((x3_2 ++ (⟨#[92]⟩ : ByteArray)).size + (((rd_T89 l0_2 x4_1).f1).extract (x6_2 : Int).toNat ((wrap64 (x6_2 + 1)) : Int).toNat).size ≤ 9223372036854775807) = true := decide_eq_true c32
                                        try have c32b2 : (9223372036854775807 < (x3_2 ++ (⟨#[92]⟩ : ByteArray)).size + (((rd_T89 l0_2 x4_1).f1).extract (x6_2 : Int).toNat ((wrap64 (x6_2 + 1)) : Int).toNat).size) = False := eq_false (Nat.not_lt.2 c32)
                                        try (have c32n := c32; simp only [ByteArray.size_append, show (⟨#[92]⟩ : ByteArray).size = 1 from rfl] at c32n)
                                        have H' := Aside0.mk H
                                        clear H
                                        have p19 : 0 ≤ (x6_2 : Int) := of_decide_eq_true (by first | (with_reducible assumption) | assumption)
                                        have q19 : x6_2 < (((rd_T89 l0_2 x4_1).f1).size : Int) := of_decide_eq_true (by first | (with_reducible assumption) | assumption)
                                        have hx19 := bt_at ((rd_T89 l0_2 x4_1).f1) x6_2
                                        replace p19 := eq_true p19
                                        replace q19 := eq_true q19
                                        have p26 : 0 ≤ (x6_2 : Int) := of_decide_eq_true (by first | (with_reducible assumption) | assumption)
                                        have q26 : x6_2 < (((rd_T89 l0_2 x4_1).f1).size : Int) := of_decide_eq_true (by first | (with_reducible assumption) | assumption)
                                        have hx26 := bt_at ((rd_T89 l0_2 x4_1).f1) x6_2
                                        replace p26 := eq_true p26
                                        replace q26 := eq_true q26
                                        go_wp2
                                        go_roundg k2
                                        case measure => have := HK1.out; have := HK2.out; omega
                                        case rel => exact ⟨((x3_2 ++ (⟨#[92]⟩ : ByteArray)) ++ (((rd_T89 l0_2 x4_1).f1).extract (x6_2 : Int).toNat ((wrap64 (x6_2 + 1)) : Int).toNat)), (wrap64 (x6_2 + 1)), (by first | rfl | (simp; done) | (simp [*]; done)), (by first | rfl | (simp; done) | (simp [*]; done)), H', ⟨by have := HK1.out; have := HK2.out; omega⟩, ⟨by (with_reducible repeat (first | refine blk_drewN ?_ _ | refine blk_drew ?_ | refine blk_alloc ?_ _)); exact BK101.out⟩, ⟨by repeat (first | (with_reducible first | exact HB.out | apply below_alloc | apply pw_below_drewN | apply below_drew1 | refine below_set ?_ GE101.out) | exact HB.out)⟩⟩
                                      · rw [if_neg c32] at H
                                        exact absurd H (by simp)
                                    · rw [if_neg c31] at H
                                      exact absurd H (by simp)
                                  · rw [if_neg c30] at H
                                    exact absurd H (by simp)
                                · rw [if_neg c28] at H
                                  exact absurd H (by simp)
                              · rw [if_neg c27] at H
                                have c27b0 : ((bt ((rd_T89 l0_2 x4_1).f1) x6_2) == 92) = false := beq_eq_false_iff_ne.mpr c27
                                have c27b1 : ((bt ((rd_T89 l0_2 x4_1).f1) x6_2) != 92) = true := bne_iff_ne.mpr c27
                                have c33b0 := eq_true (of_decide_eq_true (by first | (with_reducible assumption) | assumption) : 0 ≤ x6_2)
                                by_cases c34 : x6_2 ≤ (wrap64 (x6_2 + 1))
                                · rw [if_pos c34] at H
                                  have c34b0 := eq_true c34
                                  have c34b1 : decide (x6_2 ≤ (wrap64 (x6_2 + 1))) = true := decide_eq_true c34
                                  by_cases c35 : (wrap64 (x6_2 + 1)) ≤ (((rd_T89 l0_2 x4_1).f1).size : Int)
                                  · rw [if_pos c35] at H
                                    have c35b0 := eq_true c35
                                    have c35b1 : decide ((wrap64 (x6_2 + 1)) ≤ (((rd_T89 l0_2 x4_1).f1).size : Int)) = true := decide_eq_true c35
                                    by_cases c36 : x3_2.size + (((rd_T89 l0_2 x4_1).f1).extract (x6_2 : Int).toNat ((wrap64 (x6_2 + 1)) : Int).toNat).size ≤ 9223372036854775807
                                    · rw [if_pos c36] at H
                                      have c36b0 := eq_true c36
                                      have c36b1 : decide (x3_2.size + (((rd_T89 l0_2 x4_1).f1).extract (x6_2 : Int).toNat ((wrap64 (x6_2 + 1)) : Int).toNat).size ≤ 9223372036854775807) = true := decide_eq_true c36
                                      try have c36b2 : (9223372036854775807 < x3_2.size + (((rd_T89 l0_2 x4_1).f1).extract (x6_2 : Int).toNat ((wrap64 (x6_2 + 1)) : Int).toNat).size) = False := eq_false (Nat.not_lt.2 c36)
                                      try (have c36n := c36; simp only [ByteArray.size_append] at c36n)
                                      have H' := Aside0.mk H
                                      clear H
                                      have p19 : 0 ≤ (x6_2 : Int) := of_decide_eq_true (by first | (with_reducible assumption) | assumption)
                                      have q19 : x6_2 < (((rd_T89 l0_2 x4_1).f1).size : Int) := of_decide_eq_true (by first | (with_reducible assumption) | assumption)
                                      have hx19 := bt_at ((rd_T89 l0_2 x4_1).f1) x6_2
                                      replace p19 := eq_true p19
                                      replace q19 := eq_true q19
                                      have p26 : 0 ≤ (x6_2 : Int) := of_decide_eq_true (by first | (with_reducible assumption) | assumption)
                                      have q26 : x6_2 < (((rd_T89 l0_2 x4_1).f1).size : Int) := of_decide_eq_true (by first | (with_reducible assumption) | assumption)
                                      have hx26 := bt_at ((rd_T89 l0_2 x4_1).f1) x6_2
                                      replace p26 := eq_true p26
                                      replace q26 := eq_true q26
                                      go_wp2
                                      go_roundg k2
                                      case measure => have := HK1.out; have := HK2.out; omega
                                      case rel => exact ⟨(x3_2 ++ (((rd_T89 l0_2 x4_1).f1).extract (x6_2 : Int).toNat ((wrap64 (x6_2 + 1)) : Int).toNat)), (wrap64 (x6_2 + 1)), (by first | rfl | (simp; done) | (simp [*]; done)), (by first | rfl | (simp; done) | (simp [*]; done)), H', ⟨by have := HK1.out; have := HK2.out; omega⟩, ⟨by (with_reducible repeat (first | refine blk_drewN ?_ _ | refine blk_drew ?_ | refine blk_alloc ?_ _)); exact BK101.out⟩, ⟨by repeat (first | (with_reducible first | exact HB.out | apply below_alloc | apply pw_below_drewN | apply below_drew1 | refine below_set ?_ GE101.out) | exact HB.out)⟩⟩
                                    · rw [if_neg c36] at H
                                      exact absurd H (by simp)
                                  · rw [if_neg c35] at H
                                    exact absurd H (by simp)
                                · rw [if_neg c34] at H
                                  exact absurd H (by simp)
                          · rw [if_neg c18] at H
                            exact absurd H (by simp)
                        · rw [if_neg c17] at H
                          have c17b0 : decide (x6_2 < (((rd_T89 l0_2 x4_1).f1).size : Int)) = false := decide_eq_false c17
                          clear c17
                          by_cases c37 : x3_2.size + 1 ≤ 9223372036854775807
                          · rw [if_pos c37] at H
                            have c37b0 := eq_true c37
                            have c37b1 : decide (x3_2.size + 1 ≤ 9223372036854775807) = true := decide_eq_true c37
                            try have c37b2 : (9223372036854775807 < x3_2.size + 1) = False := eq_false (Nat.not_lt.2 c37)
                            try (have c37n := c37; simp only [ByteArray.size_append] at c37n)
                            have H' := Aside0.mk H
                            clear H
                            go_wp2
                            go_roundg k2
                            case measure => have := HK1.out; have := HK2.out; omega
                            case rel => exact ⟨(x3_2 ++ (⟨#[34]⟩ : ByteArray)), (wrap64 (x4_1 + 1)), (by first | rfl | (simp; done) | (simp [*]; done)), (by first | rfl | (simp; done) | (simp [*]; done)), H', ⟨by have := HK1.out; have := HK2.out; omega⟩, ⟨by (with_reducible repeat (first | refine blk_drewN ?_ _ | refine blk_drew ?_ | refine blk_alloc ?_ _)); exact BK101.out⟩, ⟨by repeat (first | (with_reducible first | exact HB.out | apply below_alloc | apply pw_below_drewN | apply below_drew1 | refine below_set ?_ GE101.out) | exact HB.out)⟩⟩
                          · rw [if_neg c37] at H
                            exact absurd H (by simp)
                  · rw [if_neg c15] at H
                    exact absurd H (by simp)
              · rw [if_neg c10] at H
                exact absurd H (by simp)
            · rw [if_neg c9] at H
              exact absurd H (by simp)
          · rw [if_neg c8] at H
            exact absurd H (by simp)
        · rw [if_neg c7] at H
          exact absurd H (by simp)
      · rw [if_neg c6] at H
        have c6b0 : decide (x4_1 < (l0_2.length : Int)) = false := decide_eq_false c6
        clear c6
        obtain rfl := Option.some.inj H
        have hcz38_0 : wr.cell? ⟨gb101, 0, none⟩ = some (.string a0_0) := (blk_cell BK101.out 0).trans rfl
        have hcz38_1 : wr.cell? ⟨gb101, 1, none⟩ = some (.string a0_1) := (blk_cell BK101.out 1).trans rfl
        have hcz38_2 : wr.cell? ⟨gb101, 2, none⟩ = some (.slice A0_2 l0_2.length c0_2) := (blk_cell BK101.out 2).trans rfl
        have hfz38_0 := blk_frozen BK101.out 0
        have hfz38_1 := blk_frozen BK101.out 1
        have hfz38_2 := blk_frozen BK101.out 2
        go_wp2
        go_ret
        exact ⟨by first | rfl | (simp [errW_none, errW_some] <;> rfl) | (simp [*, errW_none, errW_some] <;> rfl), by repeat (first | (with_reducible first | exact HB.out | apply below_alloc | apply pw_below_drewN | apply below_drew1 | refine below_set ?_ GE101.out) | exact HB.out)⟩
end Go.Proofs.YteehjlciajhdoaaGreatDoor.X
namespace Go.Proofs.YteehjlciajhdoaaGreatDoor.X
open Go.RowKit Go.Proofs.YteehjlciajhdoaaGreatDoorW.PrintWords Go.Proofs.YteehjlciajhdoaaGreatDoorW.PrintLast Go.Proofs.YteehjlciajhdoaaGreatDoorW.PrintMore
attribute [local go_sem] max2_int min2_int max_two min_two max_three min_three max_four min_four
set_option linter.unusedVariables false
set_option linter.unusedSimpArgs false
def slices_Index.l0 : Nat → List ByteArray → ByteArray → Int → Int → Option (Int)
  | 0, _, _, _, _ => none
  | k + 1, x0, x1, x7, x8 => if x8 < x7 then (if 0 ≤ x8 then (if x8 < (x0.length : Int) then (if x1.toList = (rdOf ByteArray.empty x0 x8).toList then (some x8) else (slices_Index.l0 k x0 x1 x7 (wrap64 (x8 + 1)))) else (none)) else (none)) else (some (-1))
def slices_Index.f (k : Nat) (l0 : List ByteArray) (a1 : ByteArray) : Option (Int) := slices_Index.l0 k l0 a1 (l0.length : Int) 0
theorem slices_Index.mono_l : ∀ k, (∀ y0 y1 y2 y3, LeO (slices_Index.l0 k y0 y1 y2 y3) (slices_Index.l0 (k + 1) y0 y1 y2 y3))
  | 0 => fun _ _ _ _ r h => by simp [slices_Index.l0] at h
  | k + 1 => by
    have ih0 := slices_Index.mono_l k
    · intro y0 y1 y2 y3
      unfold slices_Index.l0
      repeat' first
      | (with_reducible exact ih0 _ _ _ _)
      | (with_reducible exact LeO.refl _)
      | (with_reducible exact LeO.none _)
      | (with_reducible refine LeO.ite ?_ ?_)
      | (with_reducible refine LeO.bind ?_ (fun _ => ?_))
      | exact ih0 _ _ _ _
      | exact LeO.none _
      | refine LeO.ite ?_ ?_
      | refine LeO.bind ?_ (fun _ => ?_)
theorem slices_Index.mono : ∀ a0 a1 k, LeO (slices_Index.f k a0 a1) (slices_Index.f (k + 1) a0 a1) := by
  intro a0 a1 k
  have ih0 := slices_Index.mono_l k
  unfold slices_Index.f
  repeat' first
      | (with_reducible exact ih0 _ _ _ _)
      | (with_reducible exact LeO.refl _)
      | (with_reducible exact LeO.none _)
      | (with_reducible refine LeO.ite ?_ ?_)
      | (with_reducible refine LeO.bind ?_ (fun _ => ?_))
      | exact ih0 _ _ _ _
      | exact LeO.none _
      | refine LeO.ite ?_ ?_
      | refine LeO.bind ?_ (fun _ => ?_)
set_option maxHeartbeats 8000000 in
set_option maxRecDepth 100000 in
theorem slices_Index.calls (k : Nat) (A0 : Option Addr) (c0 : Nat) (l0 : List ByteArray) (a1 : ByteArray) (r : Int) (w : World) (hr0 : Kd.C Kd.string w A0 l0.length l0) (hc0 : l0.length ≤ c0) (h : slices_Index.f k l0 a1 = some r) :
    Calls Tryz.prog 138 #[.slice A0 l0.length c0, .string a1] w fun e w' => e = .returned (.int .i64 r) ∧ Drawn0 w w' := by
  have HR0 := Aside0.mk hr0
  have HC0 := Aside0.mk hc0
  clear hr0 hc0
  have H : (slices_Index.l0 k l0 a1 (l0.length : Int) 0) = some r := h
  clear h
  have H' := Aside0.mk H
  clear H
  go_enter Tryz.func138, Tryz.ntmps138
  go_wp2
  go_loopg [8] k (fun kq v8 w' => ∃ (x8_1 : Int), v8 = .int .i64 x8_1 ∧ Aside0 (slices_Index.l0 kq l0 a1 (l0.length : Int) x8_1 = some r) ∧ Aside0 (kq ≤ k) ∧ Drawn0 w w')
  case atStart => exact ⟨(0), (by first | rfl | (simp; done) | (simp [*]; done)), H', ⟨Nat.le_refl _⟩, by repeat (first | exact Drawn0.refl _ | apply Drawn0.step)⟩
  case round =>
    clear H'
    try clear c1
    try clear p2
    obtain ⟨x8_1, rfl, HA, HK1, ⟨m1, rfl⟩⟩ := hrel
    cases gk with
    | zero => exact absurd HA.out (by simp [slices_Index.l0])
    | succ k1 =>
      have H := HA.out
      clear HA
      simp only [slices_Index.l0] at H
      by_cases c3 : x8_1 < (l0.length : Int)
      · rw [if_pos c3] at H
        have c3b0 : decide (x8_1 < (l0.length : Int)) = true := decide_eq_true c3
        clear c3
        by_cases c4 : 0 ≤ x8_1
        · rw [if_pos c4] at H
          have c4b0 : decide (0 ≤ x8_1) = true := decide_eq_true c4
          clear c4
          by_cases c5 : x8_1 < (l0.length : Int)
          · rw [if_pos c5] at H
            have c5b0 : decide (x8_1 < (l0.length : Int)) = true := decide_eq_true c5
            clear c5
            by_cases c6 : a1.toList = (rdOf ByteArray.empty l0 x8_1).toList
            · rw [if_pos c6] at H
              have c6b0 : (a1.toList == (rdOf ByteArray.empty l0 x8_1).toList) = true := beq_iff_eq.mpr c6
              have c6b1 : (a1.toList != (rdOf ByteArray.empty l0 x8_1).toList) = false := bne_eq_false_iff_eq.mpr c6
              clear c6
              obtain rfl := Option.some.inj H
              have p101 : 0 ≤ (x8_1 : Int) := of_decide_eq_true (by first | (with_reducible assumption) | assumption)
              have q101 : x8_1 < (l0.length : Int) := of_decide_eq_true (by first | (with_reducible assumption) | assumption)
              obtain ⟨ad101, e101, hx101_0⟩ := Kd.at_string HR0.out x8_1 p101 q101
              cases e101
              replace p101 := eq_true p101
              replace q101 := eq_true q101
              go_wp2
              go_ret
              exact ⟨by first | rfl | (simp; done) | (simp [*]; done), by repeat (first | exact Drawn0.refl _ | apply Drawn0.step)⟩
            · rw [if_neg c6] at H
              have c6b0 : (a1.toList == (rdOf ByteArray.empty l0 x8_1).toList) = false := beq_eq_false_iff_ne.mpr c6
              have c6b1 : (a1.toList != (rdOf ByteArray.empty l0 x8_1).toList) = true := bne_iff_ne.mpr c6
              have H' := Aside0.mk H
              clear H
              have p101 : 0 ≤ (x8_1 : Int) := of_decide_eq_true (by first | (with_reducible assumption) | assumption)
              have q101 : x8_1 < (l0.length : Int) := of_decide_eq_true (by first | (with_reducible assumption) | assumption)
              obtain ⟨ad101, e101, hx101_0⟩ := Kd.at_string HR0.out x8_1 p101 q101
              cases e101
              replace p101 := eq_true p101
              replace q101 := eq_true q101
              go_wp2
              go_roundg k1
              case measure => have := HK1.out; omega
              case rel => exact ⟨(wrap64 (x8_1 + 1)), (by first | rfl | (simp; done) | (simp [*]; done)), H', ⟨by have := HK1.out; omega⟩, by repeat (first | exact Drawn0.refl _ | apply Drawn0.step)⟩
          · rw [if_neg c5] at H
            exact absurd H (by simp)
        · rw [if_neg c4] at H
          exact absurd H (by simp)
      · rw [if_neg c3] at H
        have c3b0 : decide (x8_1 < (l0.length : Int)) = false := decide_eq_false c3
        clear c3
        obtain rfl := Option.some.inj H
        go_wp2
        go_ret
        exact ⟨by first | rfl | (simp; done) | (simp [*]; done), by repeat (first | exact Drawn0.refl _ | apply Drawn0.step)⟩
end Go.Proofs.YteehjlciajhdoaaGreatDoor.X
namespace Go.Proofs.YteehjlciajhdoaaGreatDoor.X
open Go.RowKit Go.Proofs.YteehjlciajhdoaaGreatDoorW.PrintWords Go.Proofs.YteehjlciajhdoaaGreatDoorW.PrintLast Go.Proofs.YteehjlciajhdoaaGreatDoorW.PrintMore
attribute [local go_sem] max2_int min2_int max_two min_two max_three min_three max_four min_four
set_option linter.unusedVariables false
set_option linter.unusedSimpArgs false
def slices_Contains.f (k : Nat) (l0 : List ByteArray) (a1 : ByteArray) : Option (Bool) := (slices_Index.f k l0 a1).bind fun t101 => (some (decide (t101 ≥ 0)))
theorem slices_Contains.mono : ∀ a0 a1 k, LeO (slices_Contains.f k a0 a1) (slices_Contains.f (k + 1) a0 a1) := by
  intro a0 a1 k
  unfold slices_Contains.f
  repeat' first
      | (with_reducible exact slices_Index.mono _ _ _)
      | (with_reducible exact LeO.refl _)
      | (with_reducible exact LeO.none _)
      | (with_reducible refine LeO.ite ?_ ?_)
      | (with_reducible refine LeO.bind ?_ (fun _ => ?_))
      | exact slices_Index.mono _ _ _
      | exact LeO.none _
      | refine LeO.ite ?_ ?_
      | refine LeO.bind ?_ (fun _ => ?_)
set_option maxHeartbeats 8000000 in
set_option maxRecDepth 100000 in
theorem slices_Contains.calls (k : Nat) (A0 : Option Addr) (c0 : Nat) (l0 : List ByteArray) (a1 : ByteArray) (r : Bool) (w : World) (hr0 : Kd.C Kd.string w A0 l0.length l0) (hc0 : l0.length ≤ c0) (h : slices_Contains.f k l0 a1 = some r) :
    Calls Tryz.prog 78 #[.slice A0 l0.length c0, .string a1] w fun e w' => e = .returned (.bool r) ∧ Drawn0 w w' := by
  have HR0 := Aside0.mk hr0
  have HC0 := Aside0.mk hc0
  clear hr0 hc0
  have H : ((slices_Index.f k l0 a1).bind fun t101 => (some (decide (t101 ≥ 0)))) = some r := h
  clear h
  replace H := Option.bind_eq_some_iff.mp H
  obtain ⟨t101, A30, H⟩ := H
  replace H : (some (decide (t101 ≥ 0))) = some r := H
  have A3 := Aside0.mk A30
  clear A30
  obtain rfl := Option.some.inj H
  go_enter Tryz.func78, Tryz.ntmps78
  go_wp2_with (first | ((with_reducible refine gate_callee (f := 138) rfl ?_); refine goesL_ (some 7) rfl rfl Tryz.func138 (by kernel_rfl) rfl #[.slice A0 l0.length c0, .string a1] rfl (by (try simp only [List.map_toArray, List.map_cons, List.map_nil]); first | done | rfl | (simp only [List.length_drop, List.length_take]; rfl)) ?_; (with_reducible refine (slices_Index.calls k _ _ l0 a1 t101 _ ?side1 ?side2 A3.out).mono ?_); (case side1 => repeat (first | exact HR0.out | (with_reducible refine Kd.C_alloc ?_ _) | (with_reducible refine Kd.C_drewN ?_ _) | (with_reducible refine Kd.C_drew ?_))); (case side2 => exact HC0.out); rintro e w' ⟨rfl, ⟨nd, rfl⟩⟩; refine ⟨_, rfl, ?_⟩))
  go_ret
  exact ⟨by first | rfl | (simp; done) | (simp [*]; done), by repeat (first | exact Drawn0.refl _ | apply Drawn0.step)⟩
end Go.Proofs.YteehjlciajhdoaaGreatDoor.X
namespace Go.Proofs.YteehjlciajhdoaaGreatDoor.X
open Go.RowKit Go.Proofs.YteehjlciajhdoaaGreatDoorW.PrintWords Go.Proofs.YteehjlciajhdoaaGreatDoorW.PrintLast Go.Proofs.YteehjlciajhdoaaGreatDoorW.PrintMore
attribute [local go_sem] max2_int min2_int max_two min_two max_three min_three max_four min_four
set_option linter.unusedVariables false
set_option linter.unusedSimpArgs false
def stringslite_HasSuffix.f (a0 : ByteArray) (a1 : ByteArray) : Option (Bool) := if (a0.size : Int) ≥ (a1.size : Int) then (if 0 ≤ (wrap64 ((a0.size : Int) - (a1.size : Int))) then (if (wrap64 ((a0.size : Int) - (a1.size : Int))) ≤ (a0.size : Int) then (some ((a0.extract ((wrap64 ((a0.size : Int) - (a1.size : Int))) : Int).toNat a0.size).toList == a1.toList)) else (none)) else (none)) else (some false)
set_option maxHeartbeats 8000000 in
set_option maxRecDepth 100000 in
theorem stringslite_HasSuffix.calls (a0 : ByteArray) (a1 : ByteArray) (r : Bool) (w : World) (h : stringslite_HasSuffix.f a0 a1 = some r) :
    Calls Tryz.prog 139 #[.string a0, .string a1] w fun e w' => e = .returned (.bool r) ∧ Drawn0 w w' := by
  have H : (if (a0.size : Int) ≥ (a1.size : Int) then (if 0 ≤ (wrap64 ((a0.size : Int) - (a1.size : Int))) then (if (wrap64 ((a0.size : Int) - (a1.size : Int))) ≤ (a0.size : Int) then (some ((a0.extract ((wrap64 ((a0.size : Int) - (a1.size : Int))) : Int).toNat a0.size).toList == a1.toList)) else (none)) else (none)) else (some false)) = some r := h
  clear h
  by_cases c3 : (a0.size : Int) ≥ (a1.size : Int)
  · rw [if_pos c3] at H
    have c3b0 : decide ((a1.size : Int) ≤ (a0.size : Int)) = true := decide_eq_true c3
    have c3b1 : decide (a1.size ≤ a0.size) = true := decide_eq_true (Int.ofNat_le.mp c3)
    clear c3
    obtain ⟨ji4, hji4⟩ : ∃ j_ : Int, (wrap64 ((a0.size : Int) - (a1.size : Int))) = j_ := ⟨_, rfl⟩
    replace H : (if 0 ≤ (ji4) then (if (ji4) ≤ (a0.size : Int) then (some ((a0.extract ((ji4) : Int).toNat a0.size).toList == a1.toList)) else (none)) else (none)) = some r := by first | (rw [hji4] at H; exact H) | (simp only [hji4] at H ⊢; exact H)
    have hji4w : (IntKind.i64.wrap ((a0.size : Int) - (a1.size : Int))) = ji4 := (i64_w _).trans hji4
    by_cases c5 : 0 ≤ (ji4)
    · rw [if_pos c5] at H
      have c5b0 := eq_true c5
      have c5b1 : decide (0 ≤ (ji4)) = true := decide_eq_true c5
      clear c5
      by_cases c6 : (ji4) ≤ (a0.size : Int)
      · rw [if_pos c6] at H
        have c6b0 := eq_true c6
        have c6b1 : decide ((ji4) ≤ (a0.size : Int)) = true := decide_eq_true c6
        clear c6
        obtain rfl := Option.some.inj H
        go_enter Tryz.func139, Tryz.ntmps139
        go_wp2
        go_ret
        exact ⟨by first | rfl | (simp; done) | (simp only [← hji4] <;> (first | rfl | simp)) | (simp [*]; done), by repeat (first | exact Drawn0.refl _ | apply Drawn0.step)⟩
      · rw [if_neg c6] at H
        exact absurd H (by simp)
    · rw [if_neg c5] at H
      exact absurd H (by simp)
  · rw [if_neg c3] at H
    have c3b0 : decide ((a1.size : Int) ≤ (a0.size : Int)) = false := decide_eq_false c3
    have c3b1 : decide (a1.size ≤ a0.size) = false := decide_eq_false (fun h => c3 (Int.ofNat_le.mpr h))
    clear c3
    obtain rfl := Option.some.inj H
    go_enter Tryz.func139, Tryz.ntmps139
    go_wp2
    go_ret
    exact ⟨by first | rfl | (simp; done) | (simp [*]; done), by repeat (first | exact Drawn0.refl _ | apply Drawn0.step)⟩
end Go.Proofs.YteehjlciajhdoaaGreatDoor.X
namespace Go.Proofs.YteehjlciajhdoaaGreatDoor.X
open Go.RowKit Go.Proofs.YteehjlciajhdoaaGreatDoorW.PrintWords Go.Proofs.YteehjlciajhdoaaGreatDoorW.PrintLast Go.Proofs.YteehjlciajhdoaaGreatDoorW.PrintMore
attribute [local go_sem] max2_int min2_int max_two min_two max_three min_three max_four min_four
set_option linter.unusedVariables false
set_option linter.unusedSimpArgs false
def strings_HasSuffix.f (a0 : ByteArray) (a1 : ByteArray) : Option (Bool) := (stringslite_HasSuffix.f a0 a1).bind fun t101 => (some t101)
set_option maxHeartbeats 8000000 in
set_option maxRecDepth 100000 in
theorem strings_HasSuffix.calls (a0 : ByteArray) (a1 : ByteArray) (r : Bool) (w : World) (h : strings_HasSuffix.f a0 a1 = some r) :
    Calls Tryz.prog 79 #[.string a0, .string a1] w fun e w' => e = .returned (.bool r) ∧ Drawn0 w w' := by
  have H : ((stringslite_HasSuffix.f a0 a1).bind fun t101 => (some t101)) = some r := h
  clear h
  replace H := Option.bind_eq_some_iff.mp H
  obtain ⟨t101, A30, H⟩ := H
  replace H : (some t101) = some r := H
  have A3 := Aside0.mk A30
  clear A30
  obtain rfl := Option.some.inj H
  go_enter Tryz.func79, Tryz.ntmps79
  go_wp2_with (first | ((with_reducible refine gate_callee (f := 139) rfl ?_); refine goesL_ (some 7) rfl rfl Tryz.func139 (by kernel_rfl) rfl #[.string a0, .string a1] rfl (by (try simp only [List.map_toArray, List.map_cons, List.map_nil]); first | done | rfl | (simp only [List.length_drop, List.length_take]; rfl)) ?_; (with_reducible refine (stringslite_HasSuffix.calls a0 a1 t101 _ A3.out).mono ?_); rintro e w' ⟨rfl, ⟨nd, rfl⟩⟩; refine ⟨_, rfl, ?_⟩))
  go_ret
  exact ⟨by first | rfl | (simp; done) | (simp [*]; done), by repeat (first | exact Drawn0.refl _ | apply Drawn0.step)⟩
end Go.Proofs.YteehjlciajhdoaaGreatDoor.X
namespace Go.Proofs.YteehjlciajhdoaaGreatDoor.X
open Go.RowKit Go.Proofs.YteehjlciajhdoaaGreatDoorW.PrintWords Go.Proofs.YteehjlciajhdoaaGreatDoorW.PrintLast Go.Proofs.YteehjlciajhdoaaGreatDoorW.PrintMore
attribute [local go_sem] max2_int min2_int max_two min_two max_three min_three max_four min_four
set_option linter.unusedVariables false
set_option linter.unusedSimpArgs false
mutual
def mime_Group.j0 : Nat → ByteArray → Bool → ByteArray → ByteArray → List (S32) → Option (Int)
  | 0, _, _, _, _, _ => none
  | k + 1, x3, x6, x102000, x102001, x102002 => if x6 = true then (mime_Group.j1 k x3 x6 x102000 x102001 x102002) else (mime_Group.j1 k x3 (x3.toList == ([116, 101, 120, 116, 47, 106, 115, 99, 114, 105, 112, 116] : List UInt8)) x102000 x102001 x102002)
def mime_Group.j1 : Nat → ByteArray → Bool → ByteArray → ByteArray → List (S32) → Option (Int)
  | 0, _, _, _, _, _ => none
  | k + 1, x3, x6, x102000, x102001, x102002 => if x6 = true then (some 1) else (if x3.toList = ([97, 112, 112, 108, 105, 99, 97, 116, 105, 111, 110, 47, 106, 115, 111, 110] : List UInt8) then (mime_Group.j2 k x3 (x3.toList == ([97, 112, 112, 108, 105, 99, 97, 116, 105, 111, 110, 47, 106, 115, 111, 110] : List UInt8)) x102000 x102001 x102002) else (if x3.toList = ([116, 101, 120, 116, 47, 106, 115, 111, 110] : List UInt8) then (mime_Group.j2 k x3 (x3.toList == ([116, 101, 120, 116, 47, 106, 115, 111, 110] : List UInt8)) x102000 x102001 x102002) else ((strings_HasSuffix.f x102001 (⟨#[43, 106, 115, 111, 110]⟩ : ByteArray)).bind fun t107 => (mime_Group.j2 k x3 t107 x102000 x102001 x102002))))
def mime_Group.j2 : Nat → ByteArray → Bool → ByteArray → ByteArray → List (S32) → Option (Int)
  | 0, _, _, _, _, _ => none
  | k + 1, x3, x23, x102000, x102001, x102002 => if x23 = true then (some 2) else (if x3.toList = ([97, 112, 112, 108, 105, 99, 97, 116, 105, 111, 110, 47, 120, 109, 108] : List UInt8) then (mime_Group.j3 k x3 (x3.toList == ([97, 112, 112, 108, 105, 99, 97, 116, 105, 111, 110, 47, 120, 109, 108] : List UInt8)) x102000 x102001 x102002) else (if x3.toList = ([116, 101, 120, 116, 47, 120, 109, 108] : List UInt8) then (mime_Group.j3 k x3 (x3.toList == ([116, 101, 120, 116, 47, 120, 109, 108] : List UInt8)) x102000 x102001 x102002) else ((strings_HasSuffix.f x102001 (⟨#[43, 120, 109, 108]⟩ : ByteArray)).bind fun t108 => (mime_Group.j3 k x3 t108 x102000 x102001 x102002))))
def mime_Group.j3 : Nat → ByteArray → Bool → ByteArray → ByteArray → List (S32) → Option (Int)
  | 0, _, _, _, _, _ => none
  | k + 1, x3, x31, x102000, x102001, x102002 => if x31 = true then (some 3) else (if x102000.toList = ([105, 109, 97, 103, 101] : List UInt8) then (some 4) else (if x3.toList = ([116, 101, 120, 116, 47, 99, 115, 115] : List UInt8) then (some 5) else (if x102000.toList = ([97, 117, 100, 105, 111] : List UInt8) then (some 6) else (if x102000.toList = ([118, 105, 100, 101, 111] : List UInt8) then (some 6) else (some 0)))))
end
def mime_Group.f (k : Nat) (a0_0 : ByteArray) (a0_1 : ByteArray) (l0_2 : List (S32)) : Option (Int) := (mime_Essence.f a0_0 a0_1 l0_2).bind fun t102 => ((slices_Contains.f k (([(⟨#[106, 97, 118, 97, 115, 99, 114, 105, 112, 116]⟩ : ByteArray), (⟨#[101, 99, 109, 97, 115, 99, 114, 105, 112, 116]⟩ : ByteArray), (⟨#[120, 45, 106, 97, 118, 97, 115, 99, 114, 105, 112, 116]⟩ : ByteArray), (⟨#[120, 45, 101, 99, 109, 97, 115, 99, 114, 105, 112, 116]⟩ : ByteArray)] : List ByteArray)) a0_1).bind fun t106 => (if t106 = true then (if a0_0.toList = ([97, 112, 112, 108, 105, 99, 97, 116, 105, 111, 110] : List UInt8) then (mime_Group.j0 k t102 true a0_0 a0_1 l0_2) else (mime_Group.j0 k t102 (a0_0.toList == ([116, 101, 120, 116] : List UInt8)) a0_0 a0_1 l0_2)) else (mime_Group.j0 k t102 false a0_0 a0_1 l0_2)))
theorem mime_Group.mono_l : ∀ k, (∀ y0 y1 y2 y3 y4, LeO (mime_Group.j0 k y0 y1 y2 y3 y4) (mime_Group.j0 (k + 1) y0 y1 y2 y3 y4)) ∧ (∀ y0 y1 y2 y3 y4, LeO (mime_Group.j1 k y0 y1 y2 y3 y4) (mime_Group.j1 (k + 1) y0 y1 y2 y3 y4)) ∧ (∀ y0 y1 y2 y3 y4, LeO (mime_Group.j2 k y0 y1 y2 y3 y4) (mime_Group.j2 (k + 1) y0 y1 y2 y3 y4)) ∧ (∀ y0 y1 y2 y3 y4, LeO (mime_Group.j3 k y0 y1 y2 y3 y4) (mime_Group.j3 (k + 1) y0 y1 y2 y3 y4))
  | 0 => ⟨fun _ _ _ _ _ r h => by simp [mime_Group.j0] at h, fun _ _ _ _ _ r h => by simp [mime_Group.j1] at h, fun _ _ _ _ _ r h => by simp [mime_Group.j2] at h, fun _ _ _ _ _ r h => by simp [mime_Group.j3] at h⟩
  | k + 1 => by
    obtain ⟨ih0, ih1, ih2, ih3⟩ := mime_Group.mono_l k
    refine ⟨?_, ?_, ?_, ?_⟩
    · intro y0 y1 y2 y3 y4
      unfold mime_Group.j0
      repeat' first
      | (with_reducible exact ih0 _ _ _ _ _)
      | (with_reducible exact ih1 _ _ _ _ _)
      | (with_reducible exact ih2 _ _ _ _ _)
      | (with_reducible exact ih3 _ _ _ _ _)
      | (with_reducible exact slices_Contains.mono _ _ _)
      | (with_reducible exact LeO.refl _)
      | (with_reducible exact LeO.none _)
      | (with_reducible refine LeO.ite ?_ ?_)
      | (with_reducible refine LeO.bind ?_ (fun _ => ?_))
      | exact ih0 _ _ _ _ _
      | exact ih1 _ _ _ _ _
      | exact ih2 _ _ _ _ _
      | exact ih3 _ _ _ _ _
      | exact slices_Contains.mono _ _ _
      | exact LeO.none _
      | refine LeO.ite ?_ ?_
      | refine LeO.bind ?_ (fun _ => ?_)
    · intro y0 y1 y2 y3 y4
      unfold mime_Group.j1
      repeat' first
      | (with_reducible exact ih0 _ _ _ _ _)
      | (with_reducible exact ih1 _ _ _ _ _)
      | (with_reducible exact ih2 _ _ _ _ _)
      | (with_reducible exact ih3 _ _ _ _ _)
      | (with_reducible exact slices_Contains.mono _ _ _)
      | (with_reducible exact LeO.refl _)
      | (with_reducible exact LeO.none _)
      | (with_reducible refine LeO.ite ?_ ?_)
      | (with_reducible refine LeO.bind ?_ (fun _ => ?_))
      | exact ih0 _ _ _ _ _
      | exact ih1 _ _ _ _ _
      | exact ih2 _ _ _ _ _
      | exact ih3 _ _ _ _ _
      | exact slices_Contains.mono _ _ _
      | exact LeO.none _
      | refine LeO.ite ?_ ?_
      | refine LeO.bind ?_ (fun _ => ?_)
    · intro y0 y1 y2 y3 y4
      unfold mime_Group.j2
      repeat' first
      | (with_reducible exact ih0 _ _ _ _ _)
      | (with_reducible exact ih1 _ _ _ _ _)
      | (with_reducible exact ih2 _ _ _ _ _)
      | (with_reducible exact ih3 _ _ _ _ _)
      | (with_reducible exact slices_Contains.mono _ _ _)
      | (with_reducible exact LeO.refl _)
      | (with_reducible exact LeO.none _)
      | (with_reducible refine LeO.ite ?_ ?_)
      | (with_reducible refine LeO.bind ?_ (fun _ => ?_))
      | exact ih0 _ _ _ _ _
      | exact ih1 _ _ _ _ _
      | exact ih2 _ _ _ _ _
      | exact ih3 _ _ _ _ _
      | exact slices_Contains.mono _ _ _
      | exact LeO.none _
      | refine LeO.ite ?_ ?_
      | refine LeO.bind ?_ (fun _ => ?_)
    · intro y0 y1 y2 y3 y4
      unfold mime_Group.j3
      repeat' first
      | (with_reducible exact ih0 _ _ _ _ _)
      | (with_reducible exact ih1 _ _ _ _ _)
      | (with_reducible exact ih2 _ _ _ _ _)
      | (with_reducible exact ih3 _ _ _ _ _)
      | (with_reducible exact slices_Contains.mono _ _ _)
      | (with_reducible exact LeO.refl _)
      | (with_reducible exact LeO.none _)
      | (with_reducible refine LeO.ite ?_ ?_)
      | (with_reducible refine LeO.bind ?_ (fun _ => ?_))
      | exact ih0 _ _ _ _ _
      | exact ih1 _ _ _ _ _
      | exact ih2 _ _ _ _ _
      | exact ih3 _ _ _ _ _
      | exact slices_Contains.mono _ _ _
      | exact LeO.none _
      | refine LeO.ite ?_ ?_
      | refine LeO.bind ?_ (fun _ => ?_)
theorem mime_Group.mono : ∀ a0 a1 a2 k, LeO (mime_Group.f k a0 a1 a2) (mime_Group.f (k + 1) a0 a1 a2) := by
  intro a0 a1 a2 k
  obtain ⟨ih0, ih1, ih2, ih3⟩ := mime_Group.mono_l k
  unfold mime_Group.f
  repeat' first
      | (with_reducible exact ih0 _ _ _ _ _)
      | (with_reducible exact ih1 _ _ _ _ _)
      | (with_reducible exact ih2 _ _ _ _ _)
      | (with_reducible exact ih3 _ _ _ _ _)
      | (with_reducible exact slices_Contains.mono _ _ _)
      | (with_reducible exact LeO.refl _)
      | (with_reducible exact LeO.none _)
      | (with_reducible refine LeO.ite ?_ ?_)
      | (with_reducible refine LeO.bind ?_ (fun _ => ?_))
      | exact ih0 _ _ _ _ _
      | exact ih1 _ _ _ _ _
      | exact ih2 _ _ _ _ _
      | exact ih3 _ _ _ _ _
      | exact slices_Contains.mono _ _ _
      | exact LeO.none _
      | refine LeO.ite ?_ ?_
      | refine LeO.bind ?_ (fun _ => ?_)
set_option maxHeartbeats 8000000 in
set_option maxRecDepth 100000 in
theorem mime_Group.calls (k : Nat) (a0_0 : ByteArray) (a0_1 : ByteArray) (A0_2 : Option Addr) (c0_2 : Nat) (l0_2 : List (S32)) (r : Int) (w : World) (hr0_2 : Kd.C k32 w A0_2 l0_2.length l0_2) (hc0_2 : l0_2.length ≤ c0_2) (h : mime_Group.f k a0_0 a0_1 l0_2 = some r) :
    Calls Tryz.prog 31 #[.agg #[.string a0_0, .string a0_1, .slice A0_2 l0_2.length c0_2]] w fun e w' => e = .returned (.int .i64 r) ∧ Below w.heap.size w w' := by
  have hu24 := Tryz.underlying24
  have HR0_2 := Aside0.mk hr0_2
  have HC0_2 := Aside0.mk hc0_2
  clear hr0_2 hc0_2
  have HB := Aside0.mk (Below.refl w.heap.size w)
  have H : ((mime_Essence.f a0_0 a0_1 l0_2).bind fun t102 => ((slices_Contains.f k (([(⟨#[106, 97, 118, 97, 115, 99, 114, 105, 112, 116]⟩ : ByteArray), (⟨#[101, 99, 109, 97, 115, 99, 114, 105, 112, 116]⟩ : ByteArray), (⟨#[120, 45, 106, 97, 118, 97, 115, 99, 114, 105, 112, 116]⟩ : ByteArray), (⟨#[120, 45, 101, 99, 109, 97, 115, 99, 114, 105, 112, 116]⟩ : ByteArray)] : List ByteArray)) a0_1).bind fun t106 => (if t106 = true then (if a0_0.toList = ([97, 112, 112, 108, 105, 99, 97, 116, 105, 111, 110] : List UInt8) then (mime_Group.j0 k t102 true a0_0 a0_1 l0_2) else (mime_Group.j0 k t102 (a0_0.toList == ([116, 101, 120, 116] : List UInt8)) a0_0 a0_1 l0_2)) else (mime_Group.j0 k t102 false a0_0 a0_1 l0_2)))) = some r := h
  clear h
  replace H := Option.bind_eq_some_iff.mp H
  obtain ⟨t102, A20, H⟩ := H
  replace H : ((slices_Contains.f k (([(⟨#[106, 97, 118, 97, 115, 99, 114, 105, 112, 116]⟩ : ByteArray), (⟨#[101, 99, 109, 97, 115, 99, 114, 105, 112, 116]⟩ : ByteArray), (⟨#[120, 45, 106, 97, 118, 97, 115, 99, 114, 105, 112, 116]⟩ : ByteArray), (⟨#[120, 45, 101, 99, 109, 97, 115, 99, 114, 105, 112, 116]⟩ : ByteArray)] : List ByteArray)) a0_1).bind fun t106 => (if t106 = true then (if a0_0.toList = ([97, 112, 112, 108, 105, 99, 97, 116, 105, 111, 110] : List UInt8) then (mime_Group.j0 k t102 true a0_0 a0_1 l0_2) else (mime_Group.j0 k t102 (a0_0.toList == ([116, 101, 120, 116] : List UInt8)) a0_0 a0_1 l0_2)) else (mime_Group.j0 k t102 false a0_0 a0_1 l0_2))) = some r := H
  have A2 := Aside0.mk A20
  clear A20
  have HC3 := Aside0.mk H
  clear H
  go_enter Tryz.func31, Tryz.ntmps31
  go_upto_region 2 with (first | ((with_reducible refine gate_dst (N := 1) rfl ?_); refine box_event ?hg (N := 1) ?hd (cs := #[.string a0_0, .string a0_1, .slice A0_2 l0_2.length c0_2]) (t := 24) ?hr ?_; (case hd => rfl); (case hg => rfl); (case hr => first | (go_simp; done) | (go_simp; rfl)); intro gb101 hg w4 hbox hb; have n0_ := Aside0.mk (below_step (by repeat (first | (with_reducible first | exact HB.out | apply below_alloc | apply pw_below_drewN | apply below_drew1) | exact HB.out)) hb); have n1_ := Aside0.mk (hbox); have n2_ := Aside0.mk ((by rw [hg]; exact (below_size (by repeat (first | (with_reducible first | exact HB.out | apply below_alloc | apply pw_below_drewN | apply below_drew1) | exact HB.out))) : w.heap.size ≤ gb101)); have n3_ := Aside0.mk ((by rw [hg]; exact (below_size (by repeat (first | (with_reducible first | exact HB.out | apply below_alloc | apply pw_below_drewN | apply below_drew1) | exact HB.out))) : w.heap.size ≤ gb101)); clear HB; have HB := n0_; have BK101 := n1_; have GW101 := n2_; have GE101 := n3_; clear n0_ n1_ n2_ n3_; clear hb hbox hg; have hcz5_0 : w4.cell? ⟨gb101, 0, none⟩ = some (.string a0_0) := (blk_cell BK101.out 0).trans rfl; have hcz5_1 : w4.cell? ⟨gb101, 1, none⟩ = some (.string a0_1) := (blk_cell BK101.out 1).trans rfl; have hcz5_2 : w4.cell? ⟨gb101, 2, none⟩ = some (.slice A0_2 l0_2.length c0_2) := (blk_cell BK101.out 2).trans rfl; have hfz5_0 := blk_frozen BK101.out 0; have hfz5_1 := blk_frozen BK101.out 1; have hfz5_2 := blk_frozen BK101.out 2) | ((with_reducible refine gate_callee (f := 29) rfl ?_); refine goesL_ (some 5) rfl rfl Tryz.func29 (by kernel_rfl) rfl #[.agg #[.string a0_0, .string a0_1, .slice A0_2 l0_2.length c0_2]] rfl (by (try simp only [List.map_toArray, List.map_cons, List.map_nil]); first | done | rfl | (simp only [List.length_drop, List.length_take]; rfl)) ?_; (with_reducible refine (mime_Essence.calls a0_0 a0_1 _ _ l0_2 t102 _ ?side1 ?side2 A2.out).mono ?_); (case side1 => repeat (first | exact (Kd.C_below HR0_2.out HB.out) | (with_reducible refine Kd.C_alloc ?_ _) | (with_reducible refine Kd.C_drewN ?_ _) | (with_reducible refine Kd.C_drew ?_))); (case side2 => exact HC0_2.out); rintro e w6 ⟨rfl, hb⟩; refine ⟨_, rfl, ?_⟩; have n0_ := Aside0.mk (blk_below (g := gb101) (o := .cells #[.string a0_0, .string a0_1, .slice A0_2 l0_2.length c0_2] 24 (0, 0)) (by (with_reducible repeat (first | refine blk_drewN ?_ _ | refine blk_drew ?_ | refine blk_alloc ?_ _)); exact BK101.out) hb); have n1_ := Aside0.mk (below_step (by repeat (first | (with_reducible first | exact HB.out | apply below_alloc | apply pw_below_drewN | apply below_drew1 | refine below_set ?_ GE101.out) | exact HB.out)) hb); clear BK101; clear HB; have BK101 := n0_; have HB := n1_; clear n0_ n1_; (try clear hb); (try clear hb2); (try clear hk); (try clear hi)))
  (try simp only [Act.put, List.setIfInBounds_toArray, List.set_cons_zero, List.set_cons_succ])
  go_cut [6] (fun v6 wc => ∃ (kq : Nat) (x6_2 : Bool), v6 = .bool x6_2 ∧ Aside0 (mime_Group.j0 kq t102 x6_2 a0_0 a0_1 l0_2 = some r) ∧ Aside0 (kq ≤ k) ∧ Aside0 (wc.heap[gb101]? = some (.cells #[.string a0_0, .string a0_1, (.slice A0_2 l0_2.length c0_2)] 24 (0, 0))) ∧ Aside0 (Below w.heap.size w wc))
  case first =>
    have H := HC3.out
    clear HC3
    obtain ⟨y103, hy103⟩ : ∃ y_ : List ByteArray, y_ = (([(⟨#[106, 97, 118, 97, 115, 99, 114, 105, 112, 116]⟩ : ByteArray), (⟨#[101, 99, 109, 97, 115, 99, 114, 105, 112, 116]⟩ : ByteArray), (⟨#[120, 45, 106, 97, 118, 97, 115, 99, 114, 105, 112, 116]⟩ : ByteArray), (⟨#[120, 45, 101, 99, 109, 97, 115, 99, 114, 105, 112, 116]⟩ : ByteArray)] : List ByteArray)) := ⟨_, rfl⟩
    replace H : ((slices_Contains.f k y103 a0_1).bind fun t106 => (if t106 = true then (if a0_0.toList = ([97, 112, 112, 108, 105, 99, 97, 116, 105, 111, 110] : List UInt8) then (mime_Group.j0 k t102 true a0_0 a0_1 l0_2) else (mime_Group.j0 k t102 (a0_0.toList == ([116, 101, 120, 116] : List UInt8)) a0_0 a0_1 l0_2)) else (mime_Group.j0 k t102 false a0_0 a0_1 l0_2))) = some r := by first | (rw [hy103]; with_reducible exact H) | (have H2_ := (Option.bind_some _ _).symm.trans H; rw [hy103]; with_reducible exact H2_) | (have H2_ := (Option.bind_some _ _).symm.trans H; with_reducible exact H2_) | with_reducible exact H | (rw [hy103]; exact H) | exact H
    have Ny103 := Aside0.mk hy103
    clear hy103
    replace H := Option.bind_eq_some_iff.mp H
    obtain ⟨t106, A70, H⟩ := H
    replace H : (if t106 = true then (if a0_0.toList = ([97, 112, 112, 108, 105, 99, 97, 116, 105, 111, 110] : List UInt8) then (mime_Group.j0 k t102 true a0_0 a0_1 l0_2) else (mime_Group.j0 k t102 (a0_0.toList == ([116, 101, 120, 116] : List UInt8)) a0_0 a0_1 l0_2)) else (mime_Group.j0 k t102 false a0_0 a0_1 l0_2)) = some r := H
    have A7 := Aside0.mk A70
    clear A70
    by_cases c8 : t106 = true
    · subst c8
      have H1 : (if a0_0.toList = ([97, 112, 112, 108, 105, 99, 97, 116, 105, 111, 110] : List UInt8) then (mime_Group.j0 k t102 true a0_0 a0_1 l0_2) else (mime_Group.j0 k t102 (a0_0.toList == ([116, 101, 120, 116] : List UInt8)) a0_0 a0_1 l0_2)) = some r := by rw [if_pos rfl] at H; exact H
      clear H
      have H := H1
      clear H1
      by_cases c9 : a0_0.toList = ([97, 112, 112, 108, 105, 99, 97, 116, 105, 111, 110] : List UInt8)
      · rw [if_pos c9] at H
        have c9b0 : (a0_0.toList == ([97, 112, 112, 108, 105, 99, 97, 116, 105, 111, 110] : List UInt8)) = true := beq_iff_eq.mpr c9
        have c9b1 : (a0_0.toList != ([97, 112, 112, 108, 105, 99, 97, 116, 105, 111, 110] : List UInt8)) = false := bne_eq_false_iff_eq.mpr c9
        clear c9
        (first | rw [c9b0] | (simp only [i64_w, i32_w]; rw [c9b0]) | skip)
        have H' := Aside0.mk H
        clear H
        go_wp2_with (first | ((with_reducible refine gate_dst (N := 7) rfl ?_); refine Kd.R_lit Kd.string _ 9 ?hg (N := 7) ?hd (xs := ([(⟨#[106, 97, 118, 97, 115, 99, 114, 105, 112, 116]⟩ : ByteArray), (⟨#[101, 99, 109, 97, 115, 99, 114, 105, 112, 116]⟩ : ByteArray), (⟨#[120, 45, 106, 97, 118, 97, 115, 99, 114, 105, 112, 116]⟩ : ByteArray), (⟨#[120, 45, 101, 99, 109, 97, 115, 99, 114, 105, 112, 116]⟩ : ByteArray)] : List ByteArray)) (inner := [.string (⟨#[106, 97, 118, 97, 115, 99, 114, 105, 112, 116]⟩ : ByteArray), .string (⟨#[101, 99, 109, 97, 115, 99, 114, 105, 112, 116]⟩ : ByteArray), .string (⟨#[120, 45, 106, 97, 118, 97, 115, 99, 114, 105, 112, 116]⟩ : ByteArray), .string (⟨#[120, 45, 101, 99, 109, 97, 115, 99, 114, 105, 112, 116]⟩ : ByteArray)]) (ok := fun _ => True) (okp := fun _ => True) ?hr ?hp (fun _ hk => hk) trivial (Below.refl _ _) (Nat.le_refl _) (by simp) ?_; (case hd => rfl); (case hg => rfl); (case hr => first | (go_simp; done) | (go_simp; rfl)); (case hp => exact (Reps.one (show Kd.M Kd.string _ _ _ (⟨#[106, 97, 118, 97, 115, 99, 114, 105, 112, 116]⟩ : ByteArray) [.string (⟨#[106, 97, 118, 97, 115, 99, 114, 105, 112, 116]⟩ : ByteArray)] from rfl) (Reps.one (show Kd.M Kd.string _ _ _ (⟨#[101, 99, 109, 97, 115, 99, 114, 105, 112, 116]⟩ : ByteArray) [.string (⟨#[101, 99, 109, 97, 115, 99, 114, 105, 112, 116]⟩ : ByteArray)] from rfl) (Reps.one (show Kd.M Kd.string _ _ _ (⟨#[120, 45, 106, 97, 118, 97, 115, 99, 114, 105, 112, 116]⟩ : ByteArray) [.string (⟨#[120, 45, 106, 97, 118, 97, 115, 99, 114, 105, 112, 116]⟩ : ByteArray)] from rfl) (Reps.one (show Kd.M Kd.string _ _ _ (⟨#[120, 45, 101, 99, 109, 97, 115, 99, 114, 105, 112, 116]⟩ : ByteArray) [.string (⟨#[120, 45, 101, 99, 109, 97, 115, 99, 114, 105, 112, 116]⟩ : ByteArray)] from rfl) (Reps.none _ _)))))); intro v104 w10 ho11 hb hg_ hnew_; clear hg_ hnew_; (first | rw [← Ny103.out] at ho11 | (simp only [Int.reduceToNat] at ho11; rw [← Ny103.out] at ho11)); have n0_ := Aside0.mk (Kd.R_lower ho11 (below_size (by repeat (first | (with_reducible first | exact HB.out | apply below_alloc | apply pw_below_drewN | apply below_drew1 | refine below_set ?_ GE101.out) | exact HB.out)))); have n1_ := Aside0.mk (blk_below (g := gb101) (o := .cells #[.string a0_0, .string a0_1, .slice A0_2 l0_2.length c0_2] 24 (0, 0)) (by (with_reducible repeat (first | refine blk_drewN ?_ _ | refine blk_drew ?_ | refine blk_alloc ?_ _)); exact BK101.out) hb); have n2_ := Aside0.mk (below_step (by repeat (first | (with_reducible first | exact HB.out | apply below_alloc | apply pw_below_drewN | apply below_drew1 | refine below_set ?_ GE101.out) | exact HB.out)) hb); clear BK101; clear HB; have HO105 := n0_; have BK101 := n1_; have HB := n2_; clear n0_ n1_ n2_; clear hb ho11; have hcz12_0 : w10.cell? ⟨gb101, 0, none⟩ = some (.string a0_0) := (blk_cell BK101.out 0).trans rfl; have hcz12_1 : w10.cell? ⟨gb101, 1, none⟩ = some (.string a0_1) := (blk_cell BK101.out 1).trans rfl; have hcz12_2 : w10.cell? ⟨gb101, 2, none⟩ = some (.slice A0_2 l0_2.length c0_2) := (blk_cell BK101.out 2).trans rfl; have hfz12_0 := blk_frozen BK101.out 0; have hfz12_1 := blk_frozen BK101.out 1; have hfz12_2 := blk_frozen BK101.out 2; obtain ⟨Ao13, co13, eo13⟩ := Kd.R_slice HO105.out; subst eo13) | ((with_reducible refine gate_callee (f := 78) rfl ?_); refine goesL_ (some 10) rfl rfl Tryz.func78 (by kernel_rfl) rfl #[.slice Ao13 y103.length co13, .string a0_1] rfl (by (try simp only [List.map_toArray, List.map_cons, List.map_nil]); first | done | rfl | (simp only [List.length_drop, List.length_take]; rfl)) ?_; (with_reducible refine (slices_Contains.calls k _ _ y103 a0_1 true _ ?side1 ?side2 A7.out).mono ?_); (case side1 => repeat (first | exact (Kd.R_reads' HO105.out).2.2 | (with_reducible refine Kd.C_alloc ?_ _) | (with_reducible refine Kd.C_drewN ?_ _) | (with_reducible refine Kd.C_drew ?_))); (case side2 => exact (Kd.R_reads' HO105.out).2.1); rintro e w' ⟨rfl, ⟨nd, rfl⟩⟩; refine ⟨_, rfl, ?_⟩))
        go_meet
        case rel => exact ⟨_, (true), (by first | rfl | (simp; done) | (simp [*]; done)), H', ⟨by first | omega | exact Nat.le_refl _⟩, ⟨by (with_reducible repeat (first | refine blk_drewN ?_ _ | refine blk_drew ?_ | refine blk_alloc ?_ _)); exact BK101.out⟩, ⟨by repeat (first | (with_reducible first | exact HB.out | apply below_alloc | apply pw_below_drewN | apply below_drew1 | refine below_set ?_ GE101.out) | exact HB.out)⟩⟩
      · rw [if_neg c9] at H
        have c9b0 : (a0_0.toList == ([97, 112, 112, 108, 105, 99, 97, 116, 105, 111, 110] : List UInt8)) = false := beq_eq_false_iff_ne.mpr c9
        have c9b1 : (a0_0.toList != ([97, 112, 112, 108, 105, 99, 97, 116, 105, 111, 110] : List UInt8)) = true := bne_iff_ne.mpr c9
        (first | rw [c9b0] | (simp only [i64_w, i32_w]; rw [c9b0]) | skip)
        have H' := Aside0.mk H
        clear H
        go_wp2_with (first | ((with_reducible refine gate_dst (N := 7) rfl ?_); refine Kd.R_lit Kd.string _ 9 ?hg (N := 7) ?hd (xs := ([(⟨#[106, 97, 118, 97, 115, 99, 114, 105, 112, 116]⟩ : ByteArray), (⟨#[101, 99, 109, 97, 115, 99, 114, 105, 112, 116]⟩ : ByteArray), (⟨#[120, 45, 106, 97, 118, 97, 115, 99, 114, 105, 112, 116]⟩ : ByteArray), (⟨#[120, 45, 101, 99, 109, 97, 115, 99, 114, 105, 112, 116]⟩ : ByteArray)] : List ByteArray)) (inner := [.string (⟨#[106, 97, 118, 97, 115, 99, 114, 105, 112, 116]⟩ : ByteArray), .string (⟨#[101, 99, 109, 97, 115, 99, 114, 105, 112, 116]⟩ : ByteArray), .string (⟨#[120, 45, 106, 97, 118, 97, 115, 99, 114, 105, 112, 116]⟩ : ByteArray), .string (⟨#[120, 45, 101, 99, 109, 97, 115, 99, 114, 105, 112, 116]⟩ : ByteArray)]) (ok := fun _ => True) (okp := fun _ => True) ?hr ?hp (fun _ hk => hk) trivial (Below.refl _ _) (Nat.le_refl _) (by simp) ?_; (case hd => rfl); (case hg => rfl); (case hr => first | (go_simp; done) | (go_simp; rfl)); (case hp => exact (Reps.one (show Kd.M Kd.string _ _ _ (⟨#[106, 97, 118, 97, 115, 99, 114, 105, 112, 116]⟩ : ByteArray) [.string (⟨#[106, 97, 118, 97, 115, 99, 114, 105, 112, 116]⟩ : ByteArray)] from rfl) (Reps.one (show Kd.M Kd.string _ _ _ (⟨#[101, 99, 109, 97, 115, 99, 114, 105, 112, 116]⟩ : ByteArray) [.string (⟨#[101, 99, 109, 97, 115, 99, 114, 105, 112, 116]⟩ : ByteArray)] from rfl) (Reps.one (show Kd.M Kd.string _ _ _ (⟨#[120, 45, 106, 97, 118, 97, 115, 99, 114, 105, 112, 116]⟩ : ByteArray) [.string (⟨#[120, 45, 106, 97, 118, 97, 115, 99, 114, 105, 112, 116]⟩ : ByteArray)] from rfl) (Reps.one (show Kd.M Kd.string _ _ _ (⟨#[120, 45, 101, 99, 109, 97, 115, 99, 114, 105, 112, 116]⟩ : ByteArray) [.string (⟨#[120, 45, 101, 99, 109, 97, 115, 99, 114, 105, 112, 116]⟩ : ByteArray)] from rfl) (Reps.none _ _)))))); intro v104 w14 ho15 hb hg_ hnew_; clear hg_ hnew_; (first | rw [← Ny103.out] at ho15 | (simp only [Int.reduceToNat] at ho15; rw [← Ny103.out] at ho15)); have n0_ := Aside0.mk (Kd.R_lower ho15 (below_size (by repeat (first | (with_reducible first | exact HB.out | apply below_alloc | apply pw_below_drewN | apply below_drew1 | refine below_set ?_ GE101.out) | exact HB.out)))); have n1_ := Aside0.mk (blk_below (g := gb101) (o := .cells #[.string a0_0, .string a0_1, .slice A0_2 l0_2.length c0_2] 24 (0, 0)) (by (with_reducible repeat (first | refine blk_drewN ?_ _ | refine blk_drew ?_ | refine blk_alloc ?_ _)); exact BK101.out) hb); have n2_ := Aside0.mk (below_step (by repeat (first | (with_reducible first | exact HB.out | apply below_alloc | apply pw_below_drewN | apply below_drew1 | refine below_set ?_ GE101.out) | exact HB.out)) hb); clear BK101; clear HB; have HO105 := n0_; have BK101 := n1_; have HB := n2_; clear n0_ n1_ n2_; clear hb ho15; have hcz16_0 : w14.cell? ⟨gb101, 0, none⟩ = some (.string a0_0) := (blk_cell BK101.out 0).trans rfl; have hcz16_1 : w14.cell? ⟨gb101, 1, none⟩ = some (.string a0_1) := (blk_cell BK101.out 1).trans rfl; have hcz16_2 : w14.cell? ⟨gb101, 2, none⟩ = some (.slice A0_2 l0_2.length c0_2) := (blk_cell BK101.out 2).trans rfl; have hfz16_0 := blk_frozen BK101.out 0; have hfz16_1 := blk_frozen BK101.out 1; have hfz16_2 := blk_frozen BK101.out 2; obtain ⟨Ao17, co17, eo17⟩ := Kd.R_slice HO105.out; subst eo17) | ((with_reducible refine gate_callee (f := 78) rfl ?_); refine goesL_ (some 10) rfl rfl Tryz.func78 (by kernel_rfl) rfl #[.slice Ao17 y103.length co17, .string a0_1] rfl (by (try simp only [List.map_toArray, List.map_cons, List.map_nil]); first | done | rfl | (simp only [List.length_drop, List.length_take]; rfl)) ?_; (with_reducible refine (slices_Contains.calls k _ _ y103 a0_1 true _ ?side1 ?side2 A7.out).mono ?_); (case side1 => repeat (first | exact (Kd.R_reads' HO105.out).2.2 | (with_reducible refine Kd.C_alloc ?_ _) | (with_reducible refine Kd.C_drewN ?_ _) | (with_reducible refine Kd.C_drew ?_))); (case side2 => exact (Kd.R_reads' HO105.out).2.1); rintro e w' ⟨rfl, ⟨nd, rfl⟩⟩; refine ⟨_, rfl, ?_⟩))
        go_meet
        case rel => exact ⟨_, ((a0_0.toList == ([116, 101, 120, 116] : List UInt8))), (by first | rfl | (simp; done) | (simp [*]; done)), H', ⟨by first | omega | exact Nat.le_refl _⟩, ⟨by (with_reducible repeat (first | refine blk_drewN ?_ _ | refine blk_drew ?_ | refine blk_alloc ?_ _)); exact BK101.out⟩, ⟨by repeat (first | (with_reducible first | exact HB.out | apply below_alloc | apply pw_below_drewN | apply below_drew1 | refine below_set ?_ GE101.out) | exact HB.out)⟩⟩
    · replace c8 := Bool.eq_false_iff.mpr c8
      subst c8
      have H1 : (mime_Group.j0 k t102 false a0_0 a0_1 l0_2) = some r := by rw [if_neg (show ¬ (false = true) by decide)] at H; exact H
      clear H
      have H := H1
      clear H1
      have H' := Aside0.mk H
      clear H
      go_wp2_with (first | ((with_reducible refine gate_dst (N := 7) rfl ?_); refine Kd.R_lit Kd.string _ 9 ?hg (N := 7) ?hd (xs := ([(⟨#[106, 97, 118, 97, 115, 99, 114, 105, 112, 116]⟩ : ByteArray), (⟨#[101, 99, 109, 97, 115, 99, 114, 105, 112, 116]⟩ : ByteArray), (⟨#[120, 45, 106, 97, 118, 97, 115, 99, 114, 105, 112, 116]⟩ : ByteArray), (⟨#[120, 45, 101, 99, 109, 97, 115, 99, 114, 105, 112, 116]⟩ : ByteArray)] : List ByteArray)) (inner := [.string (⟨#[106, 97, 118, 97, 115, 99, 114, 105, 112, 116]⟩ : ByteArray), .string (⟨#[101, 99, 109, 97, 115, 99, 114, 105, 112, 116]⟩ : ByteArray), .string (⟨#[120, 45, 106, 97, 118, 97, 115, 99, 114, 105, 112, 116]⟩ : ByteArray), .string (⟨#[120, 45, 101, 99, 109, 97, 115, 99, 114, 105, 112, 116]⟩ : ByteArray)]) (ok := fun _ => True) (okp := fun _ => True) ?hr ?hp (fun _ hk => hk) trivial (Below.refl _ _) (Nat.le_refl _) (by simp) ?_; (case hd => rfl); (case hg => rfl); (case hr => first | (go_simp; done) | (go_simp; rfl)); (case hp => exact (Reps.one (show Kd.M Kd.string _ _ _ (⟨#[106, 97, 118, 97, 115, 99, 114, 105, 112, 116]⟩ : ByteArray) [.string (⟨#[106, 97, 118, 97, 115, 99, 114, 105, 112, 116]⟩ : ByteArray)] from rfl) (Reps.one (show Kd.M Kd.string _ _ _ (⟨#[101, 99, 109, 97, 115, 99, 114, 105, 112, 116]⟩ : ByteArray) [.string (⟨#[101, 99, 109, 97, 115, 99, 114, 105, 112, 116]⟩ : ByteArray)] from rfl) (Reps.one (show Kd.M Kd.string _ _ _ (⟨#[120, 45, 106, 97, 118, 97, 115, 99, 114, 105, 112, 116]⟩ : ByteArray) [.string (⟨#[120, 45, 106, 97, 118, 97, 115, 99, 114, 105, 112, 116]⟩ : ByteArray)] from rfl) (Reps.one (show Kd.M Kd.string _ _ _ (⟨#[120, 45, 101, 99, 109, 97, 115, 99, 114, 105, 112, 116]⟩ : ByteArray) [.string (⟨#[120, 45, 101, 99, 109, 97, 115, 99, 114, 105, 112, 116]⟩ : ByteArray)] from rfl) (Reps.none _ _)))))); intro v104 w18 ho19 hb hg_ hnew_; clear hg_ hnew_; (first | rw [← Ny103.out] at ho19 | (simp only [Int.reduceToNat] at ho19; rw [← Ny103.out] at ho19)); have n0_ := Aside0.mk (Kd.R_lower ho19 (below_size (by repeat (first | (with_reducible first | exact HB.out | apply below_alloc | apply pw_below_drewN | apply below_drew1 | refine below_set ?_ GE101.out) | exact HB.out)))); have n1_ := Aside0.mk (blk_below (g := gb101) (o := .cells #[.string a0_0, .string a0_1, .slice A0_2 l0_2.length c0_2] 24 (0, 0)) (by (with_reducible repeat (first | refine blk_drewN ?_ _ | refine blk_drew ?_ | refine blk_alloc ?_ _)); exact BK101.out) hb); have n2_ := Aside0.mk (below_step (by repeat (first | (with_reducible first | exact HB.out | apply below_alloc | apply pw_below_drewN | apply below_drew1 | refine below_set ?_ GE101.out) | exact HB.out)) hb); clear BK101; clear HB; have HO105 := n0_; have BK101 := n1_; have HB := n2_; clear n0_ n1_ n2_; clear hb ho19; have hcz20_0 : w18.cell? ⟨gb101, 0, none⟩ = some (.string a0_0) := (blk_cell BK101.out 0).trans rfl; have hcz20_1 : w18.cell? ⟨gb101, 1, none⟩ = some (.string a0_1) := (blk_cell BK101.out 1).trans rfl; have hcz20_2 : w18.cell? ⟨gb101, 2, none⟩ = some (.slice A0_2 l0_2.length c0_2) := (blk_cell BK101.out 2).trans rfl; have hfz20_0 := blk_frozen BK101.out 0; have hfz20_1 := blk_frozen BK101.out 1; have hfz20_2 := blk_frozen BK101.out 2; obtain ⟨Ao21, co21, eo21⟩ := Kd.R_slice HO105.out; subst eo21) | ((with_reducible refine gate_callee (f := 78) rfl ?_); refine goesL_ (some 10) rfl rfl Tryz.func78 (by kernel_rfl) rfl #[.slice Ao21 y103.length co21, .string a0_1] rfl (by (try simp only [List.map_toArray, List.map_cons, List.map_nil]); first | done | rfl | (simp only [List.length_drop, List.length_take]; rfl)) ?_; (with_reducible refine (slices_Contains.calls k _ _ y103 a0_1 false _ ?side1 ?side2 A7.out).mono ?_); (case side1 => repeat (first | exact (Kd.R_reads' HO105.out).2.2 | (with_reducible refine Kd.C_alloc ?_ _) | (with_reducible refine Kd.C_drewN ?_ _) | (with_reducible refine Kd.C_drew ?_))); (case side2 => exact (Kd.R_reads' HO105.out).2.1); rintro e w' ⟨rfl, ⟨nd, rfl⟩⟩; refine ⟨_, rfl, ?_⟩))
      go_meet
      case rel => exact ⟨_, (false), (by first | rfl | (simp; done) | (simp [*]; done)), H', ⟨by first | omega | exact Nat.le_refl _⟩, ⟨by (with_reducible repeat (first | refine blk_drewN ?_ _ | refine blk_drew ?_ | refine blk_alloc ?_ _)); exact BK101.out⟩, ⟨by repeat (first | (with_reducible first | exact HB.out | apply below_alloc | apply pw_below_drewN | apply below_drew1 | refine below_set ?_ GE101.out) | exact HB.out)⟩⟩
  case rest =>
    clear HC3
    try clear c2
    try clear p2
    try clear c3
    try clear c7
    try clear c8
    try clear c9
    try clear c9b0
    try clear c9b1
    try clear hcz12_0
    try clear hcz12_1
    try clear hcz12_2
    try clear hcz16_0
    try clear hcz16_1
    try clear hcz16_2
    try clear hcz20_0
    try clear hcz20_1
    try clear hcz20_2
    try clear hcz5_0
    try clear hcz5_1
    try clear hcz5_2
    try clear hfz12_0
    try clear hfz12_1
    try clear hfz12_2
    try clear hfz16_0
    try clear hfz16_1
    try clear hfz16_2
    try clear hfz20_0
    try clear hfz20_1
    try clear hfz20_2
    try clear hfz5_0
    try clear hfz5_1
    try clear hfz5_2
    obtain ⟨kq, x6_2, rfl, HA, HJ2, BK101, HB⟩ := hcut
    cases kq with
    | zero => exact absurd HA.out (by simp [mime_Group.j0])
    | succ kj2 =>
      have H := HA.out
      clear HA
      simp only [mime_Group.j0] at H
      have HC22 := Aside0.mk H
      clear H
      go_upto_if 6 with (fail)
      go_cut [6] (fun v6 wc => ∃ (kq : Nat) (x6_21 : Bool), v6 = .bool x6_21 ∧ Aside0 (mime_Group.j1 kq t102 x6_21 a0_0 a0_1 l0_2 = some r) ∧ Aside0 (kq ≤ kj2) ∧ Aside0 (wc.heap[gb101]? = some (.cells #[.string a0_0, .string a0_1, (.slice A0_2 l0_2.length c0_2)] 24 (0, 0))) ∧ Aside0 (Below w.heap.size w wc))
      case first =>
        have H := HC22.out
        clear HC22
        by_cases c23 : x6_2 = true
        · subst c23
          have H1 : (mime_Group.j1 kj2 t102 true a0_0 a0_1 l0_2) = some r := by rw [if_pos rfl] at H; exact H
          clear H
          have H := H1
          clear H1
          have H' := Aside0.mk H
          clear H
          go_wp2
          go_meet
          case rel => exact ⟨_, (true), (by first | rfl | (simp; done) | (simp [*]; done)), H', ⟨by have := HJ2.out; first | omega | exact Nat.le_refl _⟩, ⟨by (with_reducible repeat (first | refine blk_drewN ?_ _ | refine blk_drew ?_ | refine blk_alloc ?_ _)); exact BK101.out⟩, ⟨by repeat (first | (with_reducible first | exact HB.out | apply below_alloc | apply pw_below_drewN | apply below_drew1 | refine below_set ?_ GE101.out) | exact HB.out)⟩⟩
        · replace c23 := Bool.eq_false_iff.mpr c23
          subst c23
          have H1 : (mime_Group.j1 kj2 t102 (t102.toList == ([116, 101, 120, 116, 47, 106, 115, 99, 114, 105, 112, 116] : List UInt8)) a0_0 a0_1 l0_2) = some r := by rw [if_neg (show ¬ (false = true) by decide)] at H; exact H
          clear H
          have H := H1
          clear H1
          have H' := Aside0.mk H
          clear H
          go_wp2
          go_meet
          case rel => exact ⟨_, ((t102.toList == ([116, 101, 120, 116, 47, 106, 115, 99, 114, 105, 112, 116] : List UInt8))), (by first | rfl | (simp; done) | (simp [*]; done)), H', ⟨by have := HJ2.out; first | omega | exact Nat.le_refl _⟩, ⟨by (with_reducible repeat (first | refine blk_drewN ?_ _ | refine blk_drew ?_ | refine blk_alloc ?_ _)); exact BK101.out⟩, ⟨by repeat (first | (with_reducible first | exact HB.out | apply below_alloc | apply pw_below_drewN | apply below_drew1 | refine below_set ?_ GE101.out) | exact HB.out)⟩⟩
      case rest =>
        clear HC22
        try clear c2
        try clear p2
        try clear c3
        try clear c7
        try clear c8
        try clear c9
        try clear c9b0
        try clear c9b1
        try clear c23
        try clear hcz12_0
        try clear hcz12_1
        try clear hcz12_2
        try clear hcz16_0
        try clear hcz16_1
        try clear hcz16_2
        try clear hcz20_0
        try clear hcz20_1
        try clear hcz20_2
        try clear hcz5_0
        try clear hcz5_1
        try clear hcz5_2
        try clear hfz12_0
        try clear hfz12_1
        try clear hfz12_2
        try clear hfz16_0
        try clear hfz16_1
        try clear hfz16_2
        try clear hfz20_0
        try clear hfz20_1
        try clear hfz20_2
        try clear hfz5_0
        try clear hfz5_1
        try clear hfz5_2
        try clear p2
        obtain ⟨kq, x6_21, rfl, HA, HJ21, BK101, HB⟩ := hcut
        cases kq with
        | zero => exact absurd HA.out (by simp [mime_Group.j1])
        | succ kj21 =>
          have H := HA.out
          clear HA
          simp only [mime_Group.j1] at H
          by_cases c24 : x6_21 = true
          · subst c24
            have H1 : (some 1) = some r := by rw [if_pos rfl] at H; exact H
            clear H
            have H := H1
            clear H1
            obtain rfl := Option.some.inj H
            go_wp2
            go_ret
            exact ⟨by first | rfl | (simp [errW_none, errW_some] <;> rfl) | (simp [*, errW_none, errW_some] <;> rfl), by repeat (first | (with_reducible first | exact HB.out | apply below_alloc | apply pw_below_drewN | apply below_drew1 | refine below_set ?_ GE101.out) | exact HB.out)⟩
          · replace c24 := Bool.eq_false_iff.mpr c24
            subst c24
            have H1 : (if t102.toList = ([97, 112, 112, 108, 105, 99, 97, 116, 105, 111, 110, 47, 106, 115, 111, 110] : List UInt8) then (mime_Group.j2 kj21 t102 (t102.toList == ([97, 112, 112, 108, 105, 99, 97, 116, 105, 111, 110, 47, 106, 115, 111, 110] : List UInt8)) a0_0 a0_1 l0_2) else (if t102.toList = ([116, 101, 120, 116, 47, 106, 115, 111, 110] : List UInt8) then (mime_Group.j2 kj21 t102 (t102.toList == ([116, 101, 120, 116, 47, 106, 115, 111, 110] : List UInt8)) a0_0 a0_1 l0_2) else ((strings_HasSuffix.f a0_1 (⟨#[43, 106, 115, 111, 110]⟩ : ByteArray)).bind fun t107 => (mime_Group.j2 kj21 t102 t107 a0_0 a0_1 l0_2)))) = some r := by rw [if_neg (show ¬ (false = true) by decide)] at H; exact H
            clear H
            have H := H1
            clear H1
            have HC25 := Aside0.mk H
            clear H
            go_upto_if 23 with (fail)
            go_cut [23] (fun v23 wc => ∃ (kq : Nat) (x23_24 : Bool), v23 = .bool x23_24 ∧ Aside0 (mime_Group.j2 kq t102 x23_24 a0_0 a0_1 l0_2 = some r) ∧ Aside0 (kq ≤ kj21) ∧ Aside0 (wc.heap[gb101]? = some (.cells #[.string a0_0, .string a0_1, (.slice A0_2 l0_2.length c0_2)] 24 (0, 0))) ∧ Aside0 (Below w.heap.size w wc))
            case first =>
              have H := HC25.out
              clear HC25
              by_cases c26 : t102.toList = ([97, 112, 112, 108, 105, 99, 97, 116, 105, 111, 110, 47, 106, 115, 111, 110] : List UInt8)
              · rw [if_pos c26] at H
                have c26b0 : (t102.toList == ([97, 112, 112, 108, 105, 99, 97, 116, 105, 111, 110, 47, 106, 115, 111, 110] : List UInt8)) = true := beq_iff_eq.mpr c26
                have c26b1 : (t102.toList != ([97, 112, 112, 108, 105, 99, 97, 116, 105, 111, 110, 47, 106, 115, 111, 110] : List UInt8)) = false := bne_eq_false_iff_eq.mpr c26
                clear c26
                (first | rw [c26b0] | (simp only [i64_w, i32_w]; rw [c26b0]) | skip)
                have H' := Aside0.mk H
                clear H
                go_wp2
                go_meet
                case rel => exact ⟨_, ((t102.toList == ([97, 112, 112, 108, 105, 99, 97, 116, 105, 111, 110, 47, 106, 115, 111, 110] : List UInt8))), (by first | rfl | (simp; done) | (simp [*]; done)), H', ⟨by have := HJ2.out; have := HJ21.out; first | omega | exact Nat.le_refl _⟩, ⟨by (with_reducible repeat (first | refine blk_drewN ?_ _ | refine blk_drew ?_ | refine blk_alloc ?_ _)); exact BK101.out⟩, ⟨by repeat (first | (with_reducible first | exact HB.out | apply below_alloc | apply pw_below_drewN | apply below_drew1 | refine below_set ?_ GE101.out) | exact HB.out)⟩⟩
              · rw [if_neg c26] at H
                have c26b0 : (t102.toList == ([97, 112, 112, 108, 105, 99, 97, 116, 105, 111, 110, 47, 106, 115, 111, 110] : List UInt8)) = false := beq_eq_false_iff_ne.mpr c26
                have c26b1 : (t102.toList != ([97, 112, 112, 108, 105, 99, 97, 116, 105, 111, 110, 47, 106, 115, 111, 110] : List UInt8)) = true := bne_iff_ne.mpr c26
                (first | rw [c26b0] | (simp only [i64_w, i32_w]; rw [c26b0]) | skip)
                by_cases c27 : t102.toList = ([116, 101, 120, 116, 47, 106, 115, 111, 110] : List UInt8)
                · rw [if_pos c27] at H
                  have c27b0 : (t102.toList == ([116, 101, 120, 116, 47, 106, 115, 111, 110] : List UInt8)) = true := beq_iff_eq.mpr c27
                  have c27b1 : (t102.toList != ([116, 101, 120, 116, 47, 106, 115, 111, 110] : List UInt8)) = false := bne_eq_false_iff_eq.mpr c27
                  clear c27
                  have H' := Aside0.mk H
                  clear H
                  go_wp2
                  go_meet
                  case rel => exact ⟨_, ((t102.toList == ([116, 101, 120, 116, 47, 106, 115, 111, 110] : List UInt8))), (by first | rfl | (simp; done) | (simp [*]; done)), H', ⟨by have := HJ2.out; have := HJ21.out; first | omega | exact Nat.le_refl _⟩, ⟨by (with_reducible repeat (first | refine blk_drewN ?_ _ | refine blk_drew ?_ | refine blk_alloc ?_ _)); exact BK101.out⟩, ⟨by repeat (first | (with_reducible first | exact HB.out | apply below_alloc | apply pw_below_drewN | apply below_drew1 | refine below_set ?_ GE101.out) | exact HB.out)⟩⟩
                · rw [if_neg c27] at H
                  have c27b0 : (t102.toList == ([116, 101, 120, 116, 47, 106, 115, 111, 110] : List UInt8)) = false := beq_eq_false_iff_ne.mpr c27
                  have c27b1 : (t102.toList != ([116, 101, 120, 116, 47, 106, 115, 111, 110] : List UInt8)) = true := bne_iff_ne.mpr c27
                  replace H := Option.bind_eq_some_iff.mp H
                  obtain ⟨t107, A280, H⟩ := H
                  replace H : (mime_Group.j2 kj21 t102 t107 a0_0 a0_1 l0_2) = some r := H
                  have A28 := Aside0.mk A280
                  clear A280
                  have H' := Aside0.mk H
                  clear H
                  have hcz29_0 : wc.cell? ⟨gb101, 0, none⟩ = some (.string a0_0) := (blk_cell BK101.out 0).trans rfl
                  have hcz29_1 : wc.cell? ⟨gb101, 1, none⟩ = some (.string a0_1) := (blk_cell BK101.out 1).trans rfl
                  have hcz29_2 : wc.cell? ⟨gb101, 2, none⟩ = some (.slice A0_2 l0_2.length c0_2) := (blk_cell BK101.out 2).trans rfl
                  have hfz29_0 := blk_frozen BK101.out 0
                  have hfz29_1 := blk_frozen BK101.out 1
                  have hfz29_2 := blk_frozen BK101.out 2
                  go_wp2_with (first | ((with_reducible refine gate_callee (f := 79) rfl ?_); refine goesL_ (some 30) rfl rfl Tryz.func79 (by kernel_rfl) rfl #[.string a0_1, .string (⟨#[43, 106, 115, 111, 110]⟩ : ByteArray)] rfl (by (try simp only [List.map_toArray, List.map_cons, List.map_nil]); first | done | rfl | (simp only [List.length_drop, List.length_take]; rfl)) ?_; (with_reducible refine (strings_HasSuffix.calls a0_1 (⟨#[43, 106, 115, 111, 110]⟩ : ByteArray) t107 _ A28.out).mono ?_); rintro e w' ⟨rfl, ⟨nd, rfl⟩⟩; refine ⟨_, rfl, ?_⟩))
                  go_meet
                  case rel => exact ⟨_, (t107), (by first | rfl | (simp; done) | (simp [*]; done)), H', ⟨by have := HJ2.out; have := HJ21.out; first | omega | exact Nat.le_refl _⟩, ⟨by (with_reducible repeat (first | refine blk_drewN ?_ _ | refine blk_drew ?_ | refine blk_alloc ?_ _)); exact BK101.out⟩, ⟨by repeat (first | (with_reducible first | exact HB.out | apply below_alloc | apply pw_below_drewN | apply below_drew1 | refine below_set ?_ GE101.out) | exact HB.out)⟩⟩
            case rest =>
              clear HC25
              try clear c2
              try clear p2
              try clear c3
              try clear c7
              try clear c8
              try clear c9
              try clear c9b0
              try clear c9b1
              try clear c23
              try clear c24
              try clear c26
              try clear c26b0
              try clear c26b1
              try clear c27
              try clear c27b0
              try clear c27b1
              try clear c29
              try clear hcz12_0
              try clear hcz12_1
              try clear hcz12_2
              try clear hcz16_0
              try clear hcz16_1
              try clear hcz16_2
              try clear hcz20_0
              try clear hcz20_1
              try clear hcz20_2
              try clear hcz29_0
              try clear hcz29_1
              try clear hcz29_2
              try clear hcz5_0
              try clear hcz5_1
              try clear hcz5_2
              try clear hfz12_0
              try clear hfz12_1
              try clear hfz12_2
              try clear hfz16_0
              try clear hfz16_1
              try clear hfz16_2
              try clear hfz20_0
              try clear hfz20_1
              try clear hfz20_2
              try clear hfz29_0
              try clear hfz29_1
              try clear hfz29_2
              try clear hfz5_0
              try clear hfz5_1
              try clear hfz5_2
              try clear p2
              obtain ⟨kq, x23_24, rfl, HA, HJ24, BK101, HB⟩ := hcut
              cases kq with
              | zero => exact absurd HA.out (by simp [mime_Group.j2])
              | succ kj24 =>
                have H := HA.out
                clear HA
                simp only [mime_Group.j2] at H
                by_cases c30 : x23_24 = true
                · subst c30
                  have H1 : (some 2) = some r := by rw [if_pos rfl] at H; exact H
                  clear H
                  have H := H1
                  clear H1
                  obtain rfl := Option.some.inj H
                  go_wp2
                  go_ret
                  exact ⟨by first | rfl | (simp [errW_none, errW_some] <;> rfl) | (simp [*, errW_none, errW_some] <;> rfl), by repeat (first | (with_reducible first | exact HB.out | apply below_alloc | apply pw_below_drewN | apply below_drew1 | refine below_set ?_ GE101.out) | exact HB.out)⟩
                · replace c30 := Bool.eq_false_iff.mpr c30
                  subst c30
                  have H1 : (if t102.toList = ([97, 112, 112, 108, 105, 99, 97, 116, 105, 111, 110, 47, 120, 109, 108] : List UInt8) then (mime_Group.j3 kj24 t102 (t102.toList == ([97, 112, 112, 108, 105, 99, 97, 116, 105, 111, 110, 47, 120, 109, 108] : List UInt8)) a0_0 a0_1 l0_2) else (if t102.toList = ([116, 101, 120, 116, 47, 120, 109, 108] : List UInt8) then (mime_Group.j3 kj24 t102 (t102.toList == ([116, 101, 120, 116, 47, 120, 109, 108] : List UInt8)) a0_0 a0_1 l0_2) else ((strings_HasSuffix.f a0_1 (⟨#[43, 120, 109, 108]⟩ : ByteArray)).bind fun t108 => (mime_Group.j3 kj24 t102 t108 a0_0 a0_1 l0_2)))) = some r := by rw [if_neg (show ¬ (false = true) by decide)] at H; exact H
                  clear H
                  have H := H1
                  clear H1
                  have HC31 := Aside0.mk H
                  clear H
                  go_upto_if 31 with (fail)
                  go_cut [31] (fun v31 wc => ∃ (kq : Nat) (x31_30 : Bool), v31 = .bool x31_30 ∧ Aside0 (mime_Group.j3 kq t102 x31_30 a0_0 a0_1 l0_2 = some r) ∧ Aside0 (kq ≤ kj24) ∧ Aside0 (wc.heap[gb101]? = some (.cells #[.string a0_0, .string a0_1, (.slice A0_2 l0_2.length c0_2)] 24 (0, 0))) ∧ Aside0 (Below w.heap.size w wc))
                  case first =>
                    have H := HC31.out
                    clear HC31
                    by_cases c32 : t102.toList = ([97, 112, 112, 108, 105, 99, 97, 116, 105, 111, 110, 47, 120, 109, 108] : List UInt8)
                    · rw [if_pos c32] at H
                      have c32b0 : (t102.toList == ([97, 112, 112, 108, 105, 99, 97, 116, 105, 111, 110, 47, 120, 109, 108] : List UInt8)) = true := beq_iff_eq.mpr c32
                      have c32b1 : (t102.toList != ([97, 112, 112, 108, 105, 99, 97, 116, 105, 111, 110, 47, 120, 109, 108] : List UInt8)) = false := bne_eq_false_iff_eq.mpr c32
                      clear c32
                      (first | rw [c32b0] | (simp only [i64_w, i32_w]; rw [c32b0]) | skip)
                      have H' := Aside0.mk H
                      clear H
                      go_wp2
                      go_meet
                      case rel => exact ⟨_, ((t102.toList == ([97, 112, 112, 108, 105, 99, 97, 116, 105, 111, 110, 47, 120, 109, 108] : List UInt8))), (by first | rfl | (simp; done) | (simp [*]; done)), H', ⟨by have := HJ2.out; have := HJ21.out; have := HJ24.out; first | omega | exact Nat.le_refl _⟩, ⟨by (with_reducible repeat (first | refine blk_drewN ?_ _ | refine blk_drew ?_ | refine blk_alloc ?_ _)); exact BK101.out⟩, ⟨by repeat (first | (with_reducible first | exact HB.out | apply below_alloc | apply pw_below_drewN | apply below_drew1 | refine below_set ?_ GE101.out) | exact HB.out)⟩⟩
                    · rw [if_neg c32] at H
                      have c32b0 : (t102.toList == ([97, 112, 112, 108, 105, 99, 97, 116, 105, 111, 110, 47, 120, 109, 108] : List UInt8)) = false := beq_eq_false_iff_ne.mpr c32
                      have c32b1 : (t102.toList != ([97, 112, 112, 108, 105, 99, 97, 116, 105, 111, 110, 47, 120, 109, 108] : List UInt8)) = true := bne_iff_ne.mpr c32
                      (first | rw [c32b0] | (simp only [i64_w, i32_w]; rw [c32b0]) | skip)
                      by_cases c33 : t102.toList = ([116, 101, 120, 116, 47, 120, 109, 108] : List UInt8)
                      · rw [if_pos c33] at H
                        have c33b0 : (t102.toList == ([116, 101, 120, 116, 47, 120, 109, 108] : List UInt8)) = true := beq_iff_eq.mpr c33
                        have c33b1 : (t102.toList != ([116, 101, 120, 116, 47, 120, 109, 108] : List UInt8)) = false := bne_eq_false_iff_eq.mpr c33
                        clear c33
                        have H' := Aside0.mk H
                        clear H
                        go_wp2
                        go_meet
                        case rel => exact ⟨_, ((t102.toList == ([116, 101, 120, 116, 47, 120, 109, 108] : List UInt8))), (by first | rfl | (simp; done) | (simp [*]; done)), H', ⟨by have := HJ2.out; have := HJ21.out; have := HJ24.out; first | omega | exact Nat.le_refl _⟩, ⟨by (with_reducible repeat (first | refine blk_drewN ?_ _ | refine blk_drew ?_ | refine blk_alloc ?_ _)); exact BK101.out⟩, ⟨by repeat (first | (with_reducible first | exact HB.out | apply below_alloc | apply pw_below_drewN | apply below_drew1 | refine below_set ?_ GE101.out) | exact HB.out)⟩⟩
                      · rw [if_neg c33] at H
                        have c33b0 : (t102.toList == ([116, 101, 120, 116, 47, 120, 109, 108] : List UInt8)) = false := beq_eq_false_iff_ne.mpr c33
                        have c33b1 : (t102.toList != ([116, 101, 120, 116, 47, 120, 109, 108] : List UInt8)) = true := bne_iff_ne.mpr c33
                        replace H := Option.bind_eq_some_iff.mp H
                        obtain ⟨t108, A340, H⟩ := H
                        replace H : (mime_Group.j3 kj24 t102 t108 a0_0 a0_1 l0_2) = some r := H
                        have A34 := Aside0.mk A340
                        clear A340
                        have H' := Aside0.mk H
                        clear H
                        have hcz35_0 : wc.cell? ⟨gb101, 0, none⟩ = some (.string a0_0) := (blk_cell BK101.out 0).trans rfl
                        have hcz35_1 : wc.cell? ⟨gb101, 1, none⟩ = some (.string a0_1) := (blk_cell BK101.out 1).trans rfl
                        have hcz35_2 : wc.cell? ⟨gb101, 2, none⟩ = some (.slice A0_2 l0_2.length c0_2) := (blk_cell BK101.out 2).trans rfl
                        have hfz35_0 := blk_frozen BK101.out 0
                        have hfz35_1 := blk_frozen BK101.out 1
                        have hfz35_2 := blk_frozen BK101.out 2
                        go_wp2_with (first | ((with_reducible refine gate_callee (f := 79) rfl ?_); refine goesL_ (some 38) rfl rfl Tryz.func79 (by kernel_rfl) rfl #[.string a0_1, .string (⟨#[43, 120, 109, 108]⟩ : ByteArray)] rfl (by (try simp only [List.map_toArray, List.map_cons, List.map_nil]); first | done | rfl | (simp only [List.length_drop, List.length_take]; rfl)) ?_; (with_reducible refine (strings_HasSuffix.calls a0_1 (⟨#[43, 120, 109, 108]⟩ : ByteArray) t108 _ A34.out).mono ?_); rintro e w' ⟨rfl, ⟨nd, rfl⟩⟩; refine ⟨_, rfl, ?_⟩))
                        go_meet
                        case rel => exact ⟨_, (t108), (by first | rfl | (simp; done) | (simp [*]; done)), H', ⟨by have := HJ2.out; have := HJ21.out; have := HJ24.out; first | omega | exact Nat.le_refl _⟩, ⟨by (with_reducible repeat (first | refine blk_drewN ?_ _ | refine blk_drew ?_ | refine blk_alloc ?_ _)); exact BK101.out⟩, ⟨by repeat (first | (with_reducible first | exact HB.out | apply below_alloc | apply pw_below_drewN | apply below_drew1 | refine below_set ?_ GE101.out) | exact HB.out)⟩⟩
                  case rest =>
                    clear HC31
                    try clear c2
                    try clear p2
                    try clear c3
                    try clear c7
                    try clear c8
                    try clear c9
                    try clear c9b0
                    try clear c9b1
                    try clear c23
                    try clear c24
                    try clear c26
                    try clear c26b0
                    try clear c26b1
                    try clear c27
                    try clear c27b0
                    try clear c27b1
                    try clear c29
                    try clear c30
                    try clear c31
                    try clear c32
                    try clear c32b0
                    try clear c32b1
                    try clear c33
                    try clear c33b0
                    try clear c33b1
                    try clear hcz12_0
                    try clear hcz12_1
                    try clear hcz12_2
                    try clear hcz16_0
                    try clear hcz16_1
                    try clear hcz16_2
                    try clear hcz20_0
                    try clear hcz20_1
                    try clear hcz20_2
                    try clear hcz29_0
                    try clear hcz29_1
                    try clear hcz29_2
                    try clear hcz35_0
                    try clear hcz35_1
                    try clear hcz35_2
                    try clear hcz5_0
                    try clear hcz5_1
                    try clear hcz5_2
                    try clear hfz12_0
                    try clear hfz12_1
                    try clear hfz12_2
                    try clear hfz16_0
                    try clear hfz16_1
                    try clear hfz16_2
                    try clear hfz20_0
                    try clear hfz20_1
                    try clear hfz20_2
                    try clear hfz29_0
                    try clear hfz29_1
                    try clear hfz29_2
                    try clear hfz35_0
                    try clear hfz35_1
                    try clear hfz35_2
                    try clear hfz5_0
                    try clear hfz5_1
                    try clear hfz5_2
                    try clear p2
                    obtain ⟨kq, x31_30, rfl, HA, HJ30, BK101, HB⟩ := hcut
                    cases kq with
                    | zero => exact absurd HA.out (by simp [mime_Group.j3])
                    | succ kj30 =>
                      have H := HA.out
                      clear HA
                      simp only [mime_Group.j3] at H
                      by_cases c36 : x31_30 = true
                      · subst c36
                        have H1 : (some 3) = some r := by rw [if_pos rfl] at H; exact H
                        clear H
                        have H := H1
                        clear H1
                        obtain rfl := Option.some.inj H
                        go_wp2
                        go_ret
                        exact ⟨by first | rfl | (simp [errW_none, errW_some] <;> rfl) | (simp [*, errW_none, errW_some] <;> rfl), by repeat (first | (with_reducible first | exact HB.out | apply below_alloc | apply pw_below_drewN | apply below_drew1 | refine below_set ?_ GE101.out) | exact HB.out)⟩
                      · replace c36 := Bool.eq_false_iff.mpr c36
                        subst c36
                        have H1 : (if a0_0.toList = ([105, 109, 97, 103, 101] : List UInt8) then (some 4) else (if t102.toList = ([116, 101, 120, 116, 47, 99, 115, 115] : List UInt8) then (some 5) else (if a0_0.toList = ([97, 117, 100, 105, 111] : List UInt8) then (some 6) else (if a0_0.toList = ([118, 105, 100, 101, 111] : List UInt8) then (some 6) else (some 0))))) = some r := by rw [if_neg (show ¬ (false = true) by decide)] at H; exact H
                        clear H
                        have H := H1
                        clear H1
                        by_cases c37 : a0_0.toList = ([105, 109, 97, 103, 101] : List UInt8)
                        · rw [if_pos c37] at H
                          have c37b0 : (a0_0.toList == ([105, 109, 97, 103, 101] : List UInt8)) = true := beq_iff_eq.mpr c37
                          have c37b1 : (a0_0.toList != ([105, 109, 97, 103, 101] : List UInt8)) = false := bne_eq_false_iff_eq.mpr c37
                          clear c37
                          obtain rfl := Option.some.inj H
                          have hcz38_0 : wc.cell? ⟨gb101, 0, none⟩ = some (.string a0_0) := (blk_cell BK101.out 0).trans rfl
                          have hcz38_1 : wc.cell? ⟨gb101, 1, none⟩ = some (.string a0_1) := (blk_cell BK101.out 1).trans rfl
                          have hcz38_2 : wc.cell? ⟨gb101, 2, none⟩ = some (.slice A0_2 l0_2.length c0_2) := (blk_cell BK101.out 2).trans rfl
                          have hfz38_0 := blk_frozen BK101.out 0
                          have hfz38_1 := blk_frozen BK101.out 1
                          have hfz38_2 := blk_frozen BK101.out 2
                          go_wp2
                          go_ret
                          exact ⟨by first | rfl | (simp [errW_none, errW_some] <;> rfl) | (simp [*, errW_none, errW_some] <;> rfl), by repeat (first | (with_reducible first | exact HB.out | apply below_alloc | apply pw_below_drewN | apply below_drew1 | refine below_set ?_ GE101.out) | exact HB.out)⟩
                        · rw [if_neg c37] at H
                          have c37b0 : (a0_0.toList == ([105, 109, 97, 103, 101] : List UInt8)) = false := beq_eq_false_iff_ne.mpr c37
                          have c37b1 : (a0_0.toList != ([105, 109, 97, 103, 101] : List UInt8)) = true := bne_iff_ne.mpr c37
                          by_cases c39 : t102.toList = ([116, 101, 120, 116, 47, 99, 115, 115] : List UInt8)
                          · rw [if_pos c39] at H
                            have c39b0 : (t102.toList == ([116, 101, 120, 116, 47, 99, 115, 115] : List UInt8)) = true := beq_iff_eq.mpr c39
                            have c39b1 : (t102.toList != ([116, 101, 120, 116, 47, 99, 115, 115] : List UInt8)) = false := bne_eq_false_iff_eq.mpr c39
                            clear c39
                            obtain rfl := Option.some.inj H
                            have hcz40_0 : wc.cell? ⟨gb101, 0, none⟩ = some (.string a0_0) := (blk_cell BK101.out 0).trans rfl
                            have hcz40_1 : wc.cell? ⟨gb101, 1, none⟩ = some (.string a0_1) := (blk_cell BK101.out 1).trans rfl
                            have hcz40_2 : wc.cell? ⟨gb101, 2, none⟩ = some (.slice A0_2 l0_2.length c0_2) := (blk_cell BK101.out 2).trans rfl
                            have hfz40_0 := blk_frozen BK101.out 0
                            have hfz40_1 := blk_frozen BK101.out 1
                            have hfz40_2 := blk_frozen BK101.out 2
                            go_wp2
                            go_ret
                            exact ⟨by first | rfl | (simp [errW_none, errW_some] <;> rfl) | (simp [*, errW_none, errW_some] <;> rfl), by repeat (first | (with_reducible first | exact HB.out | apply below_alloc | apply pw_below_drewN | apply below_drew1 | refine below_set ?_ GE101.out) | exact HB.out)⟩
                          · rw [if_neg c39] at H
                            have c39b0 : (t102.toList == ([116, 101, 120, 116, 47, 99, 115, 115] : List UInt8)) = false := beq_eq_false_iff_ne.mpr c39
                            have c39b1 : (t102.toList != ([116, 101, 120, 116, 47, 99, 115, 115] : List UInt8)) = true := bne_iff_ne.mpr c39
                            by_cases c41 : a0_0.toList = ([97, 117, 100, 105, 111] : List UInt8)
                            · rw [if_pos c41] at H
                              have c41b0 : (a0_0.toList == ([97, 117, 100, 105, 111] : List UInt8)) = true := beq_iff_eq.mpr c41
                              have c41b1 : (a0_0.toList != ([97, 117, 100, 105, 111] : List UInt8)) = false := bne_eq_false_iff_eq.mpr c41
                              clear c41
                              obtain rfl := Option.some.inj H
                              have hcz42_0 : wc.cell? ⟨gb101, 0, none⟩ = some (.string a0_0) := (blk_cell BK101.out 0).trans rfl
                              have hcz42_1 : wc.cell? ⟨gb101, 1, none⟩ = some (.string a0_1) := (blk_cell BK101.out 1).trans rfl
                              have hcz42_2 : wc.cell? ⟨gb101, 2, none⟩ = some (.slice A0_2 l0_2.length c0_2) := (blk_cell BK101.out 2).trans rfl
                              have hfz42_0 := blk_frozen BK101.out 0
                              have hfz42_1 := blk_frozen BK101.out 1
                              have hfz42_2 := blk_frozen BK101.out 2
                              go_wp2
                              go_ret
                              exact ⟨by first | rfl | (simp [errW_none, errW_some] <;> rfl) | (simp [*, errW_none, errW_some] <;> rfl), by repeat (first | (with_reducible first | exact HB.out | apply below_alloc | apply pw_below_drewN | apply below_drew1 | refine below_set ?_ GE101.out) | exact HB.out)⟩
                            · rw [if_neg c41] at H
                              have c41b0 : (a0_0.toList == ([97, 117, 100, 105, 111] : List UInt8)) = false := beq_eq_false_iff_ne.mpr c41
                              have c41b1 : (a0_0.toList != ([97, 117, 100, 105, 111] : List UInt8)) = true := bne_iff_ne.mpr c41
                              by_cases c43 : a0_0.toList = ([118, 105, 100, 101, 111] : List UInt8)
                              · rw [if_pos c43] at H
                                have c43b0 : (a0_0.toList == ([118, 105, 100, 101, 111] : List UInt8)) = true := beq_iff_eq.mpr c43
                                have c43b1 : (a0_0.toList != ([118, 105, 100, 101, 111] : List UInt8)) = false := bne_eq_false_iff_eq.mpr c43
                                clear c43
                                obtain rfl := Option.some.inj H
                                have hcz44_0 : wc.cell? ⟨gb101, 0, none⟩ = some (.string a0_0) := (blk_cell BK101.out 0).trans rfl
                                have hcz44_1 : wc.cell? ⟨gb101, 1, none⟩ = some (.string a0_1) := (blk_cell BK101.out 1).trans rfl
                                have hcz44_2 : wc.cell? ⟨gb101, 2, none⟩ = some (.slice A0_2 l0_2.length c0_2) := (blk_cell BK101.out 2).trans rfl
                                have hfz44_0 := blk_frozen BK101.out 0
                                have hfz44_1 := blk_frozen BK101.out 1
                                have hfz44_2 := blk_frozen BK101.out 2
                                go_wp2
                                go_ret
                                exact ⟨by first | rfl | (simp [errW_none, errW_some] <;> rfl) | (simp [*, errW_none, errW_some] <;> rfl), by repeat (first | (with_reducible first | exact HB.out | apply below_alloc | apply pw_below_drewN | apply below_drew1 | refine below_set ?_ GE101.out) | exact HB.out)⟩
                              · rw [if_neg c43] at H
                                have c43b0 : (a0_0.toList == ([118, 105, 100, 101, 111] : List UInt8)) = false := beq_eq_false_iff_ne.mpr c43
                                have c43b1 : (a0_0.toList != ([118, 105, 100, 101, 111] : List UInt8)) = true := bne_iff_ne.mpr c43
                                obtain rfl := Option.some.inj H
                                have hcz45_0 : wc.cell? ⟨gb101, 0, none⟩ = some (.string a0_0) := (blk_cell BK101.out 0).trans rfl
                                have hcz45_1 : wc.cell? ⟨gb101, 1, none⟩ = some (.string a0_1) := (blk_cell BK101.out 1).trans rfl
                                have hcz45_2 : wc.cell? ⟨gb101, 2, none⟩ = some (.slice A0_2 l0_2.length c0_2) := (blk_cell BK101.out 2).trans rfl
                                have hfz45_0 := blk_frozen BK101.out 0
                                have hfz45_1 := blk_frozen BK101.out 1
                                have hfz45_2 := blk_frozen BK101.out 2
                                go_wp2
                                go_ret
                                exact ⟨by first | rfl | (simp [errW_none, errW_some] <;> rfl) | (simp [*, errW_none, errW_some] <;> rfl), by repeat (first | (with_reducible first | exact HB.out | apply below_alloc | apply pw_below_drewN | apply below_drew1 | refine below_set ?_ GE101.out) | exact HB.out)⟩
end Go.Proofs.YteehjlciajhdoaaGreatDoor.X
