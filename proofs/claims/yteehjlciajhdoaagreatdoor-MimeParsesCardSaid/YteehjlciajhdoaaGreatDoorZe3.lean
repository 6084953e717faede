/- E8, E9, P2, F16, E5, F86, F87, F39: this session's texts, joined; what the claim does not name is left out. -/
import Derived.Test.YteehjlciajhdoaaGreatDoorZe2
namespace Go.Proofs.YteehjlciajhdoaaGreatDoor.X
set_option linter.unusedVariables false
set_option linter.unusedSimpArgs false
open Go.RowKit Go.Proofs.YteehjlciajhdoaaGreatDoorW.PrintWords Go.Proofs.YteehjlciajhdoaaGreatDoorW.PrintLast Go.Proofs.YteehjlciajhdoaaGreatDoorW.PrintMore
abbrev blanksL : List UInt8 := [9, 10, 13, 32]
def paramQ (r1 : List UInt8) : List UInt8 × List UInt8 × Bool :=
  if [34].isPrefixOf r1 = true then ((qv r1.tail).1, (qv r1.tail).2, true) else (Lib.trimRightS (cutc 59 r1).1 blanksL, r1, !(Lib.trimRightS (cutc 59 r1).1 blanksL).isEmpty)
def addP (ps : List S32) (name : List UInt8) (q : List UInt8) (ok : Bool) : List S32 :=
  if (ok && isTok name && isFine q) = true then (if (hasP ps (B name)).2 = true then ps else ps ++ [⟨B name, B q⟩]) else ps
def paramP (ps : List S32) (rest : List UInt8) : List S32 × List UInt8 × Bool :=
  let s := Lib.trimLeftS rest blanksL
  let i := Lib.indexAny s [59, 61]
  if i < 0 then (ps, rest, false) else
  let r1 := s.drop (i.toNat + 1)
  if s.getD i.toNat 0 = 59 then (ps, r1, true) else
  (addP ps (lows (s.take i.toNat)) (paramQ r1).1 (paramQ r1).2.2, (cutc 59 (paramQ r1).2.1).2.1, (cutc 59 (paramQ r1).2.1).2.2)
theorem lowI_c (c : UInt8) : lowI (c.toNat : Int) = ((lowc c).toNat : Int) := by
  unfold lowI lowc
  by_cases h : 65 ≤ c.toNat ∧ c.toNat ≤ 90
  · rw [if_pos (by omega), if_pos h]
    have : (c + 32).toNat = c.toNat + 32 := by rw [UInt8.toNat_add]; simp; omega
    omega
  · rw [if_neg (by omega), if_neg h]
theorem lowB_B (l : List UInt8) : lowB (B l) = B (lows l) := by
  unfold lowB bytesOf lows
  rw [show (B l).data.toList = l from Ls_B l, List.map_map]
  have : (lowI ∘ fun b : UInt8 => (b.toNat : Int)) = (fun b : UInt8 => ((lowc b).toNat : Int)) := by funext c; exact lowI_c c
  rw [this, ← strOfNums_bytes, List.map_map]
  rfl
theorem infra_Lower_ev (l : List UInt8) (h : l.length ≤ 140737488355328) : infra_Lower.f (B l) = some (B (lows l)) := by
  unfold infra_Lower.f
  rw [if_pos (by rw [size_B]; exact h), lowB_B]
theorem asciiB_blanks : asciiB (B blanksL) = true := by decide
theorem trimLeft_ev (l : List UInt8) : strings_TrimLeft.f (B l) (B blanksL) = some (B (Lib.trimLeftS l blanksL)) := by
  unfold strings_TrimLeft.f
  rw [if_pos (by decide), if_pos asciiB_blanks]
theorem trimRight_ev (l : List UInt8) (h : l.length ≤ 9223372036854775807) : strings_TrimRight.f (B l) (B blanksL) = some (B (Lib.trimRightS l blanksL)) := by
  unfold strings_TrimRight.f
  rw [if_pos (by rw [size_B]; exact h), if_pos (by decide), if_pos asciiB_blanks]
theorem trim_ev (l : List UInt8) (h : l.length ≤ 9223372036854775807) : strings_Trim.f (B l) (B blanksL) = some (B (Lib.trimS l blanksL)) := by
  unfold strings_Trim.f
  rw [if_pos (by rw [size_B]; exact h), if_pos (by decide), if_pos asciiB_blanks]
theorem indexAny_ev (l : List UInt8) (h : l.length < 4294967281) : strings_IndexAny.f (B l) (B [59, 61]) = some (Lib.indexAny l [59, 61]) := by
  unfold strings_IndexAny.f
  rw [if_pos (by rw [size_B]; exact h), if_pos (by decide), if_pos (by decide), if_pos (by decide)]
theorem indexAny_lt (cs : List UInt8) : ∀ l : List UInt8, Lib.indexAny l cs < l.length := by
  intro l
  induction l with
  | nil => simp [Lib.indexAny]
  | cons b l ih =>
    unfold Lib.indexAny
    simp only [List.length_cons]
    split
    · omega
    · split <;> omega
theorem trimLeft_len (l : List UInt8) : (Lib.trimLeftS l blanksL).length ≤ l.length := by
  unfold Lib.trimLeftS
  exact (List.dropWhile_suffix _).length_le
theorem trimRight_len (l : List UInt8) : (Lib.trimRightS l blanksL).length ≤ l.length := by
  unfold Lib.trimRightS
  rw [List.length_reverse]
  exact Nat.le_trans (List.dropWhile_suffix _).length_le (by simp)
theorem cutc_len (c : UInt8) (l : List UInt8) : (cutc c l).1.length ≤ l.length ∧ (cutc c l).2.1.length ≤ l.length := by
  induction l with
  | nil => simp [cutc]
  | cons b l ih =>
    unfold cutc
    split
    · simp
    · simp only [List.length_cons]; omega
theorem paramQ_len (r1 : List UInt8) : (paramQ r1).1.length ≤ r1.length ∧ (paramQ r1).2.1.length ≤ r1.length := by
  unfold paramQ
  split
  · have := qv_len _ r1.tail (Nat.le_refl _)
    simp only [List.length_tail] at this
    simp only
    omega
  · have h1 := trimRight_len (cutc 59 r1).1
    have h2 := (cutc_len 59 r1).1
    simp only
    omega
def Rdr (w0 w : World) (g gr : Nat) (o : Option Obj) (mj mn : ByteArray) (ps : List S32) (rest : List UInt8) : Prop :=
  ∃ v, RdBlk w g mj mn v (B rest) ∧ Kd.R k32 32 w w0.heap.size (fun k => k ≠ g ∧ k ≠ gr) v ps ∧ Below w0.heap.size w0 w ∧ w.heap[gr]? = o
theorem Rdr.below {w0 w w1 : World} {g gr : Nat} {o : Option Obj} {mj mn : ByteArray} {ps : List S32} {rest : List UInt8} (h : Rdr w0 w g gr o mj mn ps rest) (hr : gr < w.heap.size) (hb : Below w.heap.size w w1) : Rdr w0 w1 g gr o mj mn ps rest := by
  obtain ⟨v, h1, h2, h3, h4⟩ := h
  exact ⟨v, blk_below h1 hb, Kd.R_below h2 hb, below_then h3 h3.size hb, (hb.block gr hr).trans h4⟩
set_option maxHeartbeats 4000000 in
set_option maxRecDepth 100000 in
theorem param_calls (rest : List UInt8) (g gr : Nat) (o : Option Obj) (mj mn : ByteArray) (ps : List S32) (w0 w : World) (hsz : rest.length ≤ 4294967000) (hps : ps.length ≤ 1000000000) (hg : w0.heap.size ≤ g) (hgr : w0.heap.size ≤ gr) (hrl : gr < w.heap.size) (hne : g ≠ gr)
    (hR : Rdr w0 w g gr o mj mn ps rest) :
    Calls Tryz.prog 66 #[.pointer (some ⟨g, 0, none⟩)] w fun e w' => e = .returned (.bool (paramP ps rest).2.2) ∧ Rdr w0 w' g gr o mj mn (paramP ps rest).1 (paramP ps rest).2.1 ∧ w.heap.size ≤ w'.heap.size := by
  have hu := Tryz.underlying109
  have hu2 := Tryz.underlying24
  have hu3 := Tryz.underlying32
  have HR := Aside0.mk hR
  obtain ⟨v, hblk, hKR, hB, ho⟩ := hR
  have hz3 : w.cell? ⟨g, 3, none⟩ = some (.string (B rest)) := (blk_cell hblk 3).trans rfl
  obtain ⟨S, hS⟩ : ∃ S, S = Lib.trimLeftS rest blanksL := ⟨_, rfl⟩
  have hSl : S.length ≤ rest.length := by rw [hS]; exact trimLeft_len rest
  obtain ⟨i, hi⟩ : ∃ i, i = Lib.indexAny S [59, 61] := ⟨_, rfl⟩
  have hil : i < S.length := by rw [hi]; exact indexAny_lt _ _
  have H1 := Aside0.mk (p := strings_TrimLeft.f (B rest) (B blanksL) = some (B S)) (by rw [hS]; exact trimLeft_ev rest)
  have H2 := Aside0.mk (p := strings_IndexAny.f (B S) (B [59, 61]) = some i) (by rw [hi]; exact indexAny_ev S (by omega))
  have HS := Aside0.mk hS
  have HI := Aside0.mk hi
  have HBLK := Aside0.mk hblk
  have HKR := Aside0.mk hKR
  have HB := Aside0.mk hB
  have HO := Aside0.mk ho
  clear hblk hKR hB ho hS hi
  by_cases hneg : i < 0
  · have hn1 : decide (i < 0) = true := decide_eq_true hneg
    have hp : paramP ps rest = (ps, rest, false) := by
      unfold paramP
      simp only [← HS.out, ← HI.out]
      rw [if_pos hneg]
    rw [hp]
    clear hp hneg
    go_enter Tryz.func66, Tryz.ntmps66
    go_wp2_with (first | (go_at_call 126; refine (strings_TrimLeft.calls _ _ _ _ H1.out).mono ?_; rintro e w1 ⟨rfl, hb1⟩) | (go_at_call 127; refine (strings_IndexAny.calls _ _ _ _ H2.out).mono ?_; rintro e w2 ⟨rfl, hb2⟩))
    go_ret
    exact ⟨rfl, (HR.out.below hrl hb1).below (by have := hb1.size; omega) hb2, by have := hb1.size; have := hb2.size; omega⟩
  · have hn1 : decide (i < 0) = false := decide_eq_false hneg
    have hi0 : 0 ≤ i := by omega
    obtain ⟨j, rfl⟩ := Int.eq_ofNat_of_zero_le hi0
    obtain ⟨s, hs⟩ : ∃ s, s = B S := ⟨_, rfl⟩
    have hjl : j < s.size := by rw [hs, size_B]; omega
    have hsl : s.size ≤ 4294967000 := by rw [hs, size_B]; omega
    obtain ⟨c, hc⟩ : ∃ c, c = s[j]'hjl := ⟨_, rfl⟩
    have hcS : S.getD j 0 = c := by
      have h1 := Lib.data_getElem? s j hjl
      rw [← hc, hs] at h1
      have h2 : S[j]? = some c := h1
      rw [List.getD_eq_getElem?_getD, h2]; rfl
    have hext : s.extract 0 j = B (S.take j) := by rw [hs, B_extract]; rfl
    have hext2 : s.extract (j + 1) s.size = B (S.drop (j + 1)) := by rw [hs, B_extract, size_B, List.take_length]
    obtain ⟨nm, hnm⟩ : ∃ nm, nm = lows (S.take j) := ⟨_, rfl⟩
    have H3 := Aside0.mk (p := infra_Lower.f (s.extract 0 j) = some (B nm)) (by rw [hext, hnm]; exact infra_Lower_ev _ (by simp; omega))
    have H1' := Aside0.mk (p := strings_TrimLeft.f (B rest) (B blanksL) = some s) (by rw [hs]; exact H1.out)
    have H2' := Aside0.mk (p := strings_IndexAny.f s (B [59, 61]) = some (j : Int)) (by rw [hs]; exact H2.out)
    have HC := Aside0.mk hc
    have HX := Aside0.mk hext2
    have HCS := Aside0.mk hcS
    have HSS := Aside0.mk hs
    have HNM := Aside0.mk hnm
    clear H1 H2 hc hcS hext hext2 hs hneg hi0 hnm
    go_enter Tryz.func66, Tryz.ntmps66
    go_upto_region 5 with (first | (go_at_call 126; refine (strings_TrimLeft.calls _ _ _ _ H1'.out).mono ?_; rintro e w1 ⟨rfl, hb1⟩) | (go_at_call 127; refine (strings_IndexAny.calls _ _ _ _ H2'.out).mono ?_; rintro e w2 ⟨rfl, hb2⟩))
    have HR2 := Aside0.mk ((HR.out.below hrl hb1).below (by have := hb1.size; omega) hb2)
    have hs2 : w.heap.size ≤ w2.heap.size := by have := hb1.size; have := hb2.size; omega
    have hrl2 : gr < w2.heap.size := by omega
    clear hb1 hb2
    go_cut [5, 6] (fun s5 s6 wx => s5 = .string (B nm) ∧ s6 = .int .u8 c.toNat ∧ Aside0 (Rdr w0 wx g gr o mj mn ps rest) ∧ w2.heap.size ≤ wx.heap.size)
    case first =>
      go_region_with (go_at_call 65; refine (infra_Lower.calls _ _ _ H3.out).mono ?_; rintro e w3 ⟨rfl, hb3⟩)
      all_goals (go_wp2_with fail; go_meet; case rel => exact ⟨rfl, by rw [HC.out], ⟨HR2.out.below hrl2 (below_then (below_drew (Below.refl _ _)) (Nat.le_refl _) hb3)⟩, hb3.size⟩)
    case rest =>
      obtain ⟨rfl, rfl, HR3, hs3⟩ := hcut
      obtain ⟨v3, hblk3, hKR3, hB3, ho3⟩ := HR3.out
      have hy3 : wc.cell? ⟨g, 3, none⟩ = some (.string (B rest)) := (blk_cell hblk3 3).trans rfl
      have hf3 := blk_frozen hblk3 3
      have hrl3 : gr < wc.heap.size := by omega
      have hblk4 : RdBlk (wc.setCell ⟨g, 3, none⟩ (.string (s.extract (j + 1) s.size))) g mj mn v3 (B (S.drop (j + 1))) := by
        rw [HX.out]; exact blk_put hblk3 3 (.string (B (S.drop (j + 1)))) rfl
      have HR4 := Aside0.mk (p := Rdr w0 (wc.setCell ⟨g, 3, none⟩ (.string (s.extract (j + 1) s.size))) g gr o mj mn ps (S.drop (j + 1))) ⟨v3, hblk4, Kd.R_far hKR3 (fun k hk => hk.1) _, hB3.setCell hg _, (Below.heap_setCell wc _ _ gr (Ne.symm hne)).trans ho3⟩
      have hs4 : w.heap.size ≤ (wc.setCell ⟨g, 3, none⟩ (.string (s.extract (j + 1) s.size))).heap.size := by simp [World.setCell]; omega
      have HS4 := Aside0.mk hs4
      have hw1 : IntKind.i64.wrap ((j : Int) + 1) = (j : Int) + 1 := IntWalk.i64_in _ (by omega)
      have hw3 : ((j : Int) + 1).toNat = j + 1 := by omega
      clear hblk3 hKR3 hB3 ho3 hblk4 hs4
      by_cases h59 : (c.toNat : Int) = 59
      · have hp : paramP ps rest = (ps, S.drop (j + 1), true) := by
          unfold paramP
          simp only [← HS.out, ← HI.out]
          rw [if_neg (by omega), Int.toNat_natCast, HCS.out, if_pos (u8_ext h59)]
        have HPP := Aside0.mk hp
        clear hp
        have hn2 : ((c.toNat : Int) == 59) = true := beq_iff_eq.2 h59
        go_wp2
        go_ret
        rw [HPP.out]
        exact ⟨rfl, HR4.out, HS4.out⟩
      · have hn2 : ((c.toNat : Int) == 59) = false := beq_eq_false_iff_ne.2 h59
        obtain ⟨r1, hr1⟩ : ∃ r1, r1 = S.drop (j + 1) := ⟨_, rfl⟩
        have hr1l : r1.length ≤ 4294967000 := by rw [hr1]; simp; omega
        have hp : paramP ps rest = (addP ps nm (paramQ r1).1 (paramQ r1).2.2, (cutc 59 (paramQ r1).2.1).2.1, (cutc 59 (paramQ r1).2.1).2.2) := by
          unfold paramP
          simp only [← HS.out, ← HI.out]
          rw [if_neg (by omega), Int.toNat_natCast, HCS.out, if_neg (fun e => h59 (by rw [e]; rfl)), hr1, HNM.out]
        have HPP := Aside0.mk hp
        have HP := Aside0.mk hr1
        rw [← hr1] at HX HR4
        clear hp hr1
        have hX := HX.out
        rw [hX] at HR4 HS4
        clear hX
        obtain ⟨w4, hw4⟩ : ∃ w4, w4 = wc.setCell ⟨g, 3, none⟩ (.string (B r1)) := ⟨_, rfl⟩
        rw [← hw4] at HR4 HS4
        have HX' := HX.out
        have HPF := Aside0.mk (hasPrefix_ev r1 [34])
        obtain ⟨pf, hpf⟩ : ∃ pf, pf = [34].isPrefixOf r1 := ⟨_, rfl⟩
        rw [← hpf] at HPF
        have HPFE := Aside0.mk hpf
        clear hpf
        have hrl4 : gr < w4.heap.size := by have := HS4.out; omega
        have HW4 := Aside0.mk hw4
        clear hw4
        go_upto_if 46 with (rw [← HW4.out]; go_at_call 106; refine (strings_HasPrefix.calls _ _ _ _ HPF.out).mono ?_; rintro e w5 ⟨rfl, hd5⟩)
        have HR5 := Aside0.mk (HR4.out.below hrl4 hd5.below)
        have hs5 : w.heap.size ≤ w5.heap.size := by have := HS4.out; have := hd5.below.size; omega
        have hrl5 : gr < w5.heap.size := by have := hd5.below.size; omega
        clear hd5 HX'
        clear HR3 HR4 HR2 HR hz3 hy3 hf3
        go_cut [7, 8] (fun s7 s8 wx => s7 = .string (B (paramQ r1).1) ∧ s8 = .bool (paramQ r1).2.2 ∧ Aside0 (Rdr w0 wx g gr o mj mn ps (paramQ r1).2.1) ∧ w.heap.size ≤ wx.heap.size)
        case first =>
          cases pf with
          | true =>
            have hpq : paramQ r1 = ((qv r1.tail).1, (qv r1.tail).2, true) := by unfold paramQ; rw [← HPFE.out]; rfl
            have hr1e : r1 = 34 :: r1.tail := by
              have := HPFE.out
              cases r1 with
              | nil => simp at this
              | cons b l => simp at this; rw [← this]; rfl
            obtain ⟨v5, hblk5, hKR5, hB5, ho5⟩ := HR5.out
            rw [hr1e] at hblk5
            have HPQ := Aside0.mk hpq
            have HBLK5 := Aside0.mk hblk5
            have HB5 := Aside0.mk hB5
            have HKR5 := Aside0.mk hKR5
            have HO5 := Aside0.mk ho5
            have hlt : r1.tail.length + 1 ≤ 140737488355000 := by have := congrArg List.length hr1e; simp at this; simp; omega
            clear hpq hr1e hblk5 hKR5 hB5 ho5
            go_wp2_with (go_at_call 128; refine (quoted_calls r1.tail g mj mn v5 w0 _ hlt hg HB5.out HBLK5.out).mono ?_; rintro e w6 ⟨rfl, hq1, hq2, hq3⟩)
            go_meet
            case rel => exact ⟨by rw [HPQ.out], by rw [HPQ.out], ⟨by rw [HPQ.out]; exact ⟨v5, hq1, Kd.R_keep HKR5.out hq3 (fun k hk => hk.1), hq2, (hq3.2 gr hrl5 (Ne.symm hne) (by simp)).trans HO5.out⟩⟩, by have := hq3.1; omega⟩
          | false =>
            have hpq : paramQ r1 = (Lib.trimRightS (cutc 59 r1).1 blanksL, r1, !(Lib.trimRightS (cutc 59 r1).1 blanksL).isEmpty) := by
              unfold paramQ; rw [← HPFE.out]; rfl
            have HPQ := Aside0.mk hpq
            obtain ⟨v5, hblk5, hKR5, hB5, ho5⟩ := HR5.out
            have hy5 : w5.cell? ⟨g, 3, none⟩ = some (.string (B r1)) := (blk_cell hblk5 3).trans rfl
            have HCU := Aside0.mk (cut_ev r1 59 (by omega))
            have HTR := Aside0.mk (trimRight_ev (cutc 59 r1).1 (by have := (cutc_len 59 r1).1; omega))
            obtain ⟨val, hval⟩ : ∃ val, val = Lib.trimRightS (cutc 59 r1).1 blanksL := ⟨_, rfl⟩
            rw [← hval] at HTR HPQ
            clear hpq hblk5 hKR5 hB5 ho5 hval
            go_wp2_with (first | (go_at_call 62; refine (strings_Cut.calls _ _ _ _ _ _ HCU.out).mono ?_; rintro e w6 ⟨rfl, hd6⟩) | (go_at_call 63; refine (strings_TrimRight.calls _ _ _ _ HTR.out).mono ?_; rintro e w7 ⟨rfl, hb7⟩))
            go_meet
            case rel => exact ⟨by rw [HPQ.out], by rw [HPQ.out], ⟨by rw [HPQ.out]; exact (HR5.out.below hrl5 hd6.below).below (by have := hd6.below.size; omega) hb7⟩, by have := hd6.below.size; have := hb7.size; omega⟩
        case rest =>
          obtain ⟨rfl, rfl, HR6, hs6⟩ := hcut
          have hql := paramQ_len r1
          obtain ⟨val, hval⟩ : ∃ val, val = (paramQ r1).1 := ⟨_, rfl⟩
          obtain ⟨okq, hokq⟩ : ∃ okq, okq = (paramQ r1).2.2 := ⟨_, rfl⟩
          obtain ⟨r2, hr2⟩ : ∃ r2, r2 = (paramQ r1).2.1 := ⟨_, rfl⟩
          have hnml : nm.length ≤ 4294967000 := by rw [HNM.out]; unfold lows; simp; omega
          rw [← hval, ← hr2] at hql
          rw [← hr2] at HR6
          rw [← hval, ← hokq, ← hr2] at HPP
          rw [← hval, ← hokq]
          obtain ⟨kt, hkt⟩ := Ev.rounds (infra_Token_ev nm (by omega))
          obtain ⟨kf, hkf⟩ := Ev.rounds (mime_fine_ev val (by omega))
          have HKT := Aside0.mk hkt
          have HKF := Aside0.mk hkf
          obtain ⟨tk, htk⟩ : ∃ tk, tk = isTok nm := ⟨_, rfl⟩
          obtain ⟨fn, hfn⟩ : ∃ fn, fn = isFine val := ⟨_, rfl⟩
          rw [← htk] at HKT
          rw [← hfn] at HKF
          have HTK := Aside0.mk htk
          have HFN := Aside0.mk hfn
          clear hval hokq hkt hkf htk hfn hr2 HR5 HPF
          have hrl6 : gr < wc.heap.size := by omega
          go_upto_region 15 with fail
          go_cut [70] (fun s70 wx => s70 = .bool (okq && tk && fn) ∧ Aside0 (Rdr w0 wx g gr o mj mn ps r2) ∧ w.heap.size ≤ wx.heap.size)
          case first =>
            cases okq with
            | false =>
              go_wp2
              go_meet
              case rel => exact ⟨rfl, HR6, hs6⟩
            | true =>
              cases tk with
              | false =>
                go_wp2_with (go_at_call 64; refine (infra_Token.calls _ _ _ _ HKT.out).mono ?_; rintro e w7 ⟨rfl, hd7⟩)
                go_meet
                case rel => exact ⟨rfl, ⟨HR6.out.below hrl6 hd7.below⟩, by have := hd7.below.size; omega⟩
              | true =>
                go_wp2_with (first | (go_at_call 64; refine (infra_Token.calls _ _ _ _ HKT.out).mono ?_; rintro e w7 ⟨rfl, hd7⟩) | (go_at_call 129; refine (mime_fine.calls _ _ _ _ HKF.out).mono ?_; rintro e w8 ⟨rfl, hd8⟩))
                go_meet
                case rel => exact ⟨by simp, ⟨(HR6.out.below hrl6 hd7.below).below (by have := hd7.below.size; omega) hd8.below⟩, by have := hd7.below.size; have := hd8.below.size; omega⟩
          case rest =>
            obtain ⟨rfl, HR7, hs7⟩ := hcut
            go_upto_if 70 with fail
            go_cut [] (fun wx => Aside0 (Rdr w0 wx g gr o mj mn (addP ps nm val okq) r2) ∧ w.heap.size ≤ wx.heap.size)
            case first =>
              cases hall : (okq && tk && fn) with
              | false =>
                have ha : addP ps nm val okq = ps := by unfold addP; rw [← HTK.out, ← HFN.out, hall]; rfl
                have HA := Aside0.mk ha
                clear hall ha
                go_wp2
                go_meet
                case rel => exact ⟨by rw [HA.out]; exact HR7, hs7⟩
              | true =>
                obtain ⟨v7, hblk7, hKR7, hB7, ho7⟩ := HR7.out
                obtain ⟨A, cc, rfl, hle, hC⟩ := Kd.R_reads hKR7
                have hy0 : wc.cell? ⟨g, 0, none⟩ = some (.string mj) := (blk_cell hblk7 0).trans rfl
                have hy1 : wc.cell? ⟨g, 1, none⟩ = some (.string mn) := (blk_cell hblk7 1).trans rfl
                have hy2 : wc.cell? ⟨g, 2, none⟩ = some (.slice A ps.length cc) := (blk_cell hblk7 2).trans rfl
                have HHAS := Aside0.mk (p := mime_Type_has.f mj mn ps (B nm) = some ((hasP ps (B nm)).1, (hasP ps (B nm)).2)) rfl
                have HC7 := Aside0.mk hC
                have HKR7 := Aside0.mk hKR7
                have HBLK7 := Aside0.mk hblk7
                have HB7 := Aside0.mk hB7
                have HO7 := Aside0.mk ho7
                have hrl7 : gr < wc.heap.size := by omega
                have hlt7 : g < wc.heap.size := blk_lt hblk7
                clear hblk7 hKR7 hB7 ho7 hC
                cases hh : (hasP ps (B nm)).2 with
                | true =>
                  have ha : addP ps nm val okq = ps := by unfold addP; rw [← HTK.out, ← HFN.out, hall, if_pos rfl, if_pos hh]
                  have HA := Aside0.mk ha
                  rw [hh] at HHAS
                  clear hall ha hh
                  go_wp2_with (go_at_call 69; refine (mime_Type_has.calls _ _ _ _ _ _ _ _ _ HC7.out hle HHAS.out).mono ?_; rintro e w9 ⟨rfl, hb9⟩)
                  go_meet
                  case rel => exact ⟨by rw [HA.out]; exact ⟨HR7.out.below hrl7 hb9⟩, by have := hb9.size; omega⟩
                | false =>
                  have ha : addP ps nm val okq = ps ++ [⟨B nm, B val⟩] := by unfold addP; rw [← HTK.out, ← HFN.out, hall, if_pos rfl, if_neg (by rw [hh]; simp)]
                  have HA := Aside0.mk ha
                  rw [hh] at HHAS
                  clear hall ha hh
                  go_upto_region 18 with (go_at_call 69; refine (mime_Type_has.calls _ _ _ _ _ _ _ _ _ HC7.out hle HHAS.out).mono ?_; rintro e w9 ⟨rfl, hb9⟩)
                  have HBLK9 := Aside0.mk (blk_below HBLK7.out hb9)
                  have HKR9 := Aside0.mk (Kd.R_below HKR7.out hb9)
                  have HB9 := Aside0.mk (below_then HB7.out HB7.out.size hb9)
                  have HO9 := Aside0.mk ((hb9.block gr hrl7).trans HO7.out)
                  have hs9 : w.heap.size ≤ w9.heap.size := by have := hb9.size; omega
                  have hrl9 : gr < w9.heap.size := by have := hb9.size; omega
                  have hlt9 : g < w9.heap.size := by have := hb9.size; omega
                  have hx2 : w9.cell? ⟨g, 2, none⟩ = some (.slice A ps.length cc) := (blk_cell HBLK9.out 2).trans rfl
                  have HNE := Aside0.mk (p := some g ≠ (Value.slice A ps.length cc).ownBlock) (fun e => (HKR9.out.1 g e.symm).1 rfl)
                  have HNR := Aside0.mk (p := some gr ≠ (Value.slice A ps.length cc).ownBlock) (fun e => (HKR9.out.1 gr e.symm).2 rfl)
                  clear hb9
                  go_wp2_with (first | ((with_reducible refine gate_builtin (b := .append) (xs := #[.tmp 87, .tmp 91]) rfl ?_); at_builtin; refine Kd.R_append k32 (w0 := w0) w0.heap.size rfl (.tmp 87) (.tmp 91) 22 32 (.agg #[(.string ⟨#[]⟩), (.string ⟨#[]⟩)]) 32 rfl Tryz.underlying22 info32 rfl (by decide) (by omega) (.slice A ps.length cc) ps (⟨B nm, B val⟩ : S32) [.string (B nm), .string (B val)] (fun k => k ≠ g ∧ k ≠ gr) (fun _ => False) rfl rfl ?aP (fun _ hk => hk.elim) ?aF ?aO ?aB ?aS ?aL ?_; (case aP => exact k32_mkM _ _ _ _); (case aF => exact fun k hk => ⟨by omega, by omega⟩); (case aO => exact HKR9.out); (case aB => exact HB9.out); (case aS => exact HB9.out.size); (case aL => omega); intro v1 w1 ho hb hg1 hat1; obtain ⟨A1, c1, rfl, hle1, hC1⟩ := Kd.R_reads ho; clear hC1 hle1; rw [List.length_append, List.length_singleton] at ho; have HR1 := Aside0.mk ho; have HBB := Aside0.mk hb; have hbk := blk_grown HBLK9.out hg1 HNE.out; have HBK := Aside0.mk hbk; have HG1 := Aside0.mk hg1; have hz10 : w1.cell? ⟨g, 2, none⟩ = some (.slice A ps.length cc) := (blk_cell hbk 2).trans rfl; have hf10 := blk_frozen hbk 2; clear ho hb hg1 hat1 hbk))
                  go_meet
                  case rel => exact ⟨by rw [HA.out]; exact ⟨_, blk_put HBK.out 2 _ rfl, Kd.R_far HR1.out (fun k hk => hk.1) _, HBB.out.setCell hg _, (Below.heap_setCell w1 _ _ gr (Ne.symm hne)).trans ((HG1.out.block gr hrl9 HNR.out).trans HO9.out)⟩, by have := HG1.out.size; simp [World.setCell]; omega⟩
            case rest =>
              obtain ⟨HR10, hs10⟩ := hcut
              obtain ⟨v10, hblk10, hKR10, hB10, ho10⟩ := HR10.out
              have hrl10 : gr < wc.heap.size := by omega
              have hx3 : wc.cell? ⟨g, 3, none⟩ = some (.string (B r2)) := (blk_cell hblk10 3).trans rfl
              have HCU2 := Aside0.mk (cut_ev r2 59 (by omega))
              clear hblk10 hKR10 hB10 ho10
              go_upto_region 20 with (go_at_call 62; refine (strings_Cut.calls _ _ _ _ _ _ HCU2.out).mono ?_; rintro e w11 ⟨rfl, hd11⟩)
              have HR11 := Aside0.mk (HR10.out.below hrl10 hd11.below)
              obtain ⟨v11, hblk11, hKR11, hB11, ho11⟩ := HR11.out
              have hx4 : w11.cell? ⟨g, 3, none⟩ = some (.string (B r2)) := (blk_cell hblk11 3).trans rfl
              have hf11 := blk_frozen hblk11 3
              have HFIN := Aside0.mk (p := Rdr w0 (w11.setCell ⟨g, 3, none⟩ (.string (B (cutc 59 r2).2.1))) g gr o mj mn (addP ps nm val okq) (cutc 59 r2).2.1) ⟨v11, blk_put hblk11 3 (.string (B (cutc 59 r2).2.1)) rfl, Kd.R_far hKR11 (fun k hk => hk.1) _, hB11.setCell hg _, (Below.heap_setCell w11 _ _ gr (Ne.symm hne)).trans ho11⟩
              have hs11 : w.heap.size ≤ (w11.setCell ⟨g, 3, none⟩ (.string (B (cutc 59 r2).2.1))).heap.size := by have := hd11.below.size; simp [World.setCell]; omega
              have HS11 := Aside0.mk hs11
              clear hd11 hblk11 hKR11 hB11 ho11 hs11
              go_wp2
              go_ret
              rw [HPP.out]
              exact ⟨rfl, HFIN.out, HS11.out⟩
end Go.Proofs.YteehjlciajhdoaaGreatDoor.X
namespace Go.Proofs.YteehjlciajhdoaaGreatDoor.X
set_option linter.unusedVariables false
set_option linter.unusedSimpArgs false
open Go.RowKit Go.Proofs.YteehjlciajhdoaaGreatDoorW.PrintWords Go.Proofs.YteehjlciajhdoaaGreatDoorW.PrintLast Go.Proofs.YteehjlciajhdoaaGreatDoorW.PrintMore
def paramsN : Nat → Bool → List S32 → List UInt8 → List S32
  | 0, _, ps, _ => ps
  | n + 1, more, ps, rest => if more = true then paramsN n (paramP ps rest).2.2 (paramP ps rest).1 (paramP ps rest).2.1 else ps
def parseP (l : List UInt8) : List UInt8 × List UInt8 × List S32 × Bool :=
  let s := Lib.trimS l blanksL
  let c1 := cutc 47 s
  let c2 := cutc 59 c1.2.1
  let minor := Lib.trimRightS c2.1 blanksL
  if isTok c1.1 = true then (if isTok minor = true then (lows c1.1, lows minor, paramsN (c2.2.1.length + 1) c2.2.2 [] c2.2.1, true) else ([], [], [], false)) else ([], [], [], false)
theorem cutc_more (c : UInt8) (l : List UInt8) (h : (cutc c l).2.2 = true) : (cutc c l).2.1.length < l.length := by
  induction l with
  | nil => simp [cutc] at h
  | cons b l ih =>
    unfold cutc at h ⊢
    split
    · simp
    · rename_i hb
      rw [if_neg hb] at h
      have := ih h
      simp only [List.length_cons]
      omega
theorem addP_len (ps : List S32) (n q : List UInt8) (ok : Bool) : (addP ps n q ok).length ≤ ps.length + 1 := by
  unfold addP
  split
  · split <;> simp
  · omega
theorem paramP_more (ps : List S32) (rest : List UInt8) (h : (paramP ps rest).2.2 = true) : (paramP ps rest).2.1.length < rest.length := by
  unfold paramP at h ⊢
  simp only at h ⊢
  have h1 := trimLeft_len rest
  have h2 := indexAny_lt [59, 61] (Lib.trimLeftS rest blanksL)
  split
  · rename_i hn; rw [if_pos hn] at h; simp at h
  · rename_i hn
    rw [if_neg hn] at h
    split
    · simp; omega
    · rename_i hc
      rw [if_neg hc] at h
      simp only at h ⊢
      have h3 := cutc_more _ _ h
      have h4 := (paramQ_len ((Lib.trimLeftS rest blanksL).drop ((Lib.indexAny (Lib.trimLeftS rest blanksL) [59, 61]).toNat + 1))).2
      simp only [List.length_drop] at h4
      omega
theorem paramP_len (ps : List S32) (rest : List UInt8) : (paramP ps rest).1.length ≤ ps.length + 1 := by
  unfold paramP
  simp only
  split
  · simp
  · split
    · simp
    · exact addP_len _ _ _ _
theorem paramP_le (ps : List S32) (rest : List UInt8) : (paramP ps rest).2.1.length ≤ rest.length := by
  unfold paramP
  simp only
  have h1 := trimLeft_len rest
  split
  · simp
  · split
    · simp; omega
    · simp only
      have h4 := (paramQ_len ((Lib.trimLeftS rest blanksL).drop ((Lib.indexAny (Lib.trimLeftS rest blanksL) [59, 61]).toNat + 1))).2
      have h5 := (cutc_len 59 (paramQ ((Lib.trimLeftS rest blanksL).drop ((Lib.indexAny (Lib.trimLeftS rest blanksL) [59, 61]).toNat + 1))).2.1).2
      simp only [List.length_drop] at h4
      omega
theorem trimS_len (l : List UInt8) : (Lib.trimS l blanksL).length ≤ l.length := by
  unfold Lib.trimS
  exact Nat.le_trans (trimLeft_len _) (trimRight_len l)
def mime_Parse.f (a0 : ByteArray) : Option (ByteArray × ByteArray × (List S32) × Bool) :=
  if a0.size ≤ 900000000 then some (B (parseP (Ls a0)).1, B (parseP (Ls a0)).2.1, (parseP (Ls a0)).2.2.1, (parseP (Ls a0)).2.2.2) else none
abbrev ZT : Obj := .cells #[.string (⟨#[]⟩ : ByteArray), .string (⟨#[]⟩ : ByteArray), .slice none 0 0] 24 (0, 0)
set_option maxHeartbeats 4000000 in
set_option maxRecDepth 100000 in
theorem parse_calls (l : List UInt8) (hl : l.length ≤ 900000000) (w : World) :
    Calls Tryz.prog 15 #[.string (B l)] w fun e w' => ∃ v2_ : Value, e = .returned (.tuple #[.agg #[.string (B (parseP l).1), .string (B (parseP l).2.1), v2_], .bool (parseP l).2.2.2]) ∧ Kd.R k32 32 w' w.heap.size (fun _ => True) v2_ (parseP l).2.2.1 ∧ Below w.heap.size w w' := by
  have hu := Tryz.underlying109
  have hu2 := Tryz.underlying24
  have hu3 := Tryz.underlying32
  obtain ⟨s, hs⟩ : ∃ s, s = Lib.trimS l blanksL := ⟨_, rfl⟩
  have hsl : s.length ≤ 900000000 := by rw [hs]; have := trimS_len l; omega
  obtain ⟨mj, hmj⟩ : ∃ mj, mj = (cutc 47 s).1 := ⟨_, rfl⟩
  obtain ⟨re, hre⟩ : ∃ re, re = (cutc 47 s).2.1 := ⟨_, rfl⟩
  have h47 := cutc_len 47 s
  rw [← hmj, ← hre] at h47
  obtain ⟨m0, hm0⟩ : ∃ m0, m0 = (cutc 59 re).1 := ⟨_, rfl⟩
  obtain ⟨r2, hr2⟩ : ∃ r2, r2 = (cutc 59 re).2.1 := ⟨_, rfl⟩
  obtain ⟨mo, hmo⟩ : ∃ mo, mo = (cutc 59 re).2.2 := ⟨_, rfl⟩
  have h59 := cutc_len 59 re
  rw [← hm0, ← hr2] at h59
  obtain ⟨mn, hmn⟩ : ∃ mn, mn = Lib.trimRightS m0 blanksL := ⟨_, rfl⟩
  have hmnl : mn.length ≤ m0.length := by rw [hmn]; exact trimRight_len m0
  have H1 := Aside0.mk (p := strings_Trim.f (B l) (B blanksL) = some (B s)) (by rw [hs]; exact trim_ev l (by omega))
  have H2 := Aside0.mk (p := strings_Cut.f (B s) (B [47]) = some (B mj, B re, (cutc 47 s).2.2)) (by rw [hmj, hre]; exact cut_ev s 47 (by omega))
  have H3 := Aside0.mk (p := strings_Cut.f (B re) (B [59]) = some (B m0, B r2, mo)) (by rw [hm0, hr2, hmo]; exact cut_ev re 59 (by omega))
  have H4 := Aside0.mk (p := strings_TrimRight.f (B m0) (B blanksL) = some (B mn)) (by rw [hmn]; exact trimRight_ev m0 (by omega))
  obtain ⟨k1, hk1⟩ := Ev.rounds (infra_Token_ev mj (by omega))
  obtain ⟨k2, hk2⟩ := Ev.rounds (infra_Token_ev mn (by omega))
  have HK1 := Aside0.mk hk1
  have HK2 := Aside0.mk hk2
  have hP : parseP l = if isTok mj = true then (if isTok mn = true then (lows mj, lows mn, paramsN (r2.length + 1) mo [] r2, true) else ([], [], [], false)) else ([], [], [], false) := by
    unfold parseP
    simp only [← hs, ← hmj, ← hre, ← hm0, ← hr2, ← hmo, ← hmn]
  have HP := Aside0.mk hP
  obtain ⟨t1, ht1⟩ : ∃ t1, t1 = isTok mj := ⟨_, rfl⟩
  obtain ⟨t2, ht2⟩ : ∃ t2, t2 = isTok mn := ⟨_, rfl⟩
  rw [← ht1] at HK1 HP
  rw [← ht2] at HK2 HP
  clear hs hmj hre hm0 hr2 hmo hmn hk1 hk2 hP ht1 ht2
  cases t1 with
  | false =>
    have HPP := Aside0.mk (p := parseP l = ([], [], [], false)) (by rw [HP.out]; rfl)
    clear HP
    go_enter Tryz.func15, Tryz.ntmps15
    go_upto_region 6 with (first | (go_at_call 61; refine (strings_Trim.calls _ _ _ _ H1.out).mono ?_; rintro e w1 ⟨rfl, hb1⟩) | (go_at_call_of 62 (Value.string (B s)); refine (strings_Cut.calls _ _ _ _ _ _ H2.out).mono ?_; rintro e w2 ⟨rfl, hd2⟩) | (go_at_call_of 62 (Value.string (B re)); refine (strings_Cut.calls _ _ _ _ _ _ H3.out).mono ?_; rintro e w3 ⟨rfl, hd3⟩) | (go_at_call 63; refine (strings_TrimRight.calls _ _ _ _ H4.out).mono ?_; rintro e w4 ⟨rfl, hb4⟩) | (go_at_call_of 64 (Value.string (B mj)); refine (infra_Token.calls _ _ _ _ HK1.out).mono ?_; rintro e w5 ⟨rfl, hd5⟩))
    have HBE := Aside0.mk (p := Below (w.alloc ZT).heap.size (w.alloc ZT) w5) (below_step (below_step (below_step (below_step hb1 hd2.below) hd3.below) hb4) hd5.below)
    have hblk : w5.heap[w.heap.size]? = some ZT := blk_below (blk_new w _) HBE.out
    have HBLK := Aside0.mk hblk
    have hz0 : w5.cell? ⟨w.heap.size, 0, none⟩ = some (.string (⟨#[]⟩ : ByteArray)) := (blk_cell hblk 0).trans rfl
    have hz1 : w5.cell? ⟨w.heap.size, 1, none⟩ = some (.string (⟨#[]⟩ : ByteArray)) := (blk_cell hblk 1).trans rfl
    have hz2 : w5.cell? ⟨w.heap.size, 2, none⟩ = some (.slice none 0 0) := (blk_cell hblk 2).trans rfl
    have hf0 := blk_frozen hblk 0
    have hf1 := blk_frozen hblk 1
    have hf2 := blk_frozen hblk 2
    have HBW := Aside0.mk (p := Below w.heap.size w w5) (below_then (below_alloc (Below.refl _ _) _) (by simp) HBE.out)
    clear hb1 hd2 hd3 hb4 hd5 hblk
    go_wp2
    refine bodyPost_ret (results_ct rfl _ _ w.heap.size 24 #[.string (⟨#[]⟩ : ByteArray), .string (⟨#[]⟩ : ByteArray), .slice none 0 0] (0, 0) _ rfl (blk_put (cs := #[.string (⟨#[]⟩ : ByteArray), .string (⟨#[]⟩ : ByteArray), .slice none 0 0]) (blk_put (cs := #[.string (⟨#[]⟩ : ByteArray), .string (⟨#[]⟩ : ByteArray), .slice none 0 0]) (blk_put (cs := #[.string (⟨#[]⟩ : ByteArray), .string (⟨#[]⟩ : ByteArray), .slice none 0 0]) HBLK.out 0 _ rfl) 1 _ rfl) 2 _ rfl) Tryz.underlying24 rfl (by kernel_rfl)) rfl ?_
    rw [HPP.out]
    exact ⟨_, rfl, Kd.R_nil _ _ _ _ _, ((HBW.out.setCell (Nat.le_refl _) _).setCell (Nat.le_refl _) _).setCell (Nat.le_refl _) _⟩
  | true =>
    cases t2 with
    | false =>
      have HPP := Aside0.mk (p := parseP l = ([], [], [], false)) (by rw [HP.out]; rfl)
      clear HP
      go_enter Tryz.func15, Tryz.ntmps15
      go_upto_region 6 with (first | (go_at_call 61; refine (strings_Trim.calls _ _ _ _ H1.out).mono ?_; rintro e w1 ⟨rfl, hb1⟩) | (go_at_call_of 62 (Value.string (B s)); refine (strings_Cut.calls _ _ _ _ _ _ H2.out).mono ?_; rintro e w2 ⟨rfl, hd2⟩) | (go_at_call_of 62 (Value.string (B re)); refine (strings_Cut.calls _ _ _ _ _ _ H3.out).mono ?_; rintro e w3 ⟨rfl, hd3⟩) | (go_at_call 63; refine (strings_TrimRight.calls _ _ _ _ H4.out).mono ?_; rintro e w4 ⟨rfl, hb4⟩) | (go_at_call_of 64 (Value.string (B mj)); refine (infra_Token.calls _ _ _ _ HK1.out).mono ?_; rintro e w5 ⟨rfl, hd5⟩) | (go_at_call_of 64 (Value.string (B mn)); refine (infra_Token.calls _ _ _ _ HK2.out).mono ?_; rintro e w6 ⟨rfl, hd6⟩))
      have HBE := Aside0.mk (p := Below (w.alloc ZT).heap.size (w.alloc ZT) w6) (below_step (below_step (below_step (below_step (below_step hb1 hd2.below) hd3.below) hb4) hd5.below) hd6.below)
      have hblk : w6.heap[w.heap.size]? = some ZT := blk_below (blk_new w _) HBE.out
      have HBLK := Aside0.mk hblk
      have hz0 : w6.cell? ⟨w.heap.size, 0, none⟩ = some (.string (⟨#[]⟩ : ByteArray)) := (blk_cell hblk 0).trans rfl
      have hz1 : w6.cell? ⟨w.heap.size, 1, none⟩ = some (.string (⟨#[]⟩ : ByteArray)) := (blk_cell hblk 1).trans rfl
      have hz2 : w6.cell? ⟨w.heap.size, 2, none⟩ = some (.slice none 0 0) := (blk_cell hblk 2).trans rfl
      have hf0 := blk_frozen hblk 0
      have hf1 := blk_frozen hblk 1
      have hf2 := blk_frozen hblk 2
      have HBW := Aside0.mk (p := Below w.heap.size w w6) (below_then (below_alloc (Below.refl _ _) _) (by simp) HBE.out)
      clear hb1 hd2 hd3 hb4 hd5 hd6 hblk
      go_wp2
      refine bodyPost_ret (results_ct rfl _ _ w.heap.size 24 #[.string (⟨#[]⟩ : ByteArray), .string (⟨#[]⟩ : ByteArray), .slice none 0 0] (0, 0) _ rfl (blk_put (cs := #[.string (⟨#[]⟩ : ByteArray), .string (⟨#[]⟩ : ByteArray), .slice none 0 0]) (blk_put (cs := #[.string (⟨#[]⟩ : ByteArray), .string (⟨#[]⟩ : ByteArray), .slice none 0 0]) (blk_put (cs := #[.string (⟨#[]⟩ : ByteArray), .string (⟨#[]⟩ : ByteArray), .slice none 0 0]) HBLK.out 0 _ rfl) 1 _ rfl) 2 _ rfl) Tryz.underlying24 rfl (by kernel_rfl)) rfl ?_
      rw [HPP.out]
      exact ⟨_, rfl, Kd.R_nil _ _ _ _ _, ((HBW.out.setCell (Nat.le_refl _) _).setCell (Nat.le_refl _) _).setCell (Nat.le_refl _) _⟩
    | true =>
      have HPP := Aside0.mk (p := parseP l = (lows mj, lows mn, paramsN (r2.length + 1) mo [] r2, true)) (by rw [HP.out]; rfl)
      have HL1 := Aside0.mk (infra_Lower_ev mj (by omega))
      have HL2 := Aside0.mk (infra_Lower_ev mn (by omega))
      clear HP
      go_enter Tryz.func15, Tryz.ntmps15
      go_upto_region 7 with (first | (go_at_call 61; refine (strings_Trim.calls _ _ _ _ H1.out).mono ?_; rintro e w1 ⟨rfl, hb1⟩) | (go_at_call_of 62 (Value.string (B s)); refine (strings_Cut.calls _ _ _ _ _ _ H2.out).mono ?_; rintro e w2 ⟨rfl, hd2⟩) | (go_at_call_of 62 (Value.string (B re)); refine (strings_Cut.calls _ _ _ _ _ _ H3.out).mono ?_; rintro e w3 ⟨rfl, hd3⟩) | (go_at_call 63; refine (strings_TrimRight.calls _ _ _ _ H4.out).mono ?_; rintro e w4 ⟨rfl, hb4⟩) | (go_at_call_of 64 (Value.string (B mj)); refine (infra_Token.calls _ _ _ _ HK1.out).mono ?_; rintro e w5 ⟨rfl, hd5⟩) | (go_at_call_of 64 (Value.string (B mn)); refine (infra_Token.calls _ _ _ _ HK2.out).mono ?_; rintro e w6 ⟨rfl, hd6⟩))
      have HBE := Aside0.mk (p := Below (w.alloc ZT).heap.size (w.alloc ZT) w6) (below_step (below_step (below_step (below_step (below_step hb1 hd2.below) hd3.below) hb4) hd5.below) hd6.below)
      clear hb1 hd2 hd3 hb4 hd5 hd6
      go_wp2_with (first | (go_at_call_of 65 (Value.string (B mj)); refine (infra_Lower.calls _ _ _ HL1.out).mono ?_; rintro e w7 ⟨rfl, hb7⟩) | (go_at_call_of 65 (Value.string (B mn)); refine (infra_Lower.calls _ _ _ HL2.out).mono ?_; rintro e w8 ⟨rfl, hb8⟩))
      have HBE8 := Aside0.mk (below_step (below_step HBE.out hb7) hb8)
      have hgl : w.heap.size < w8.heap.size := by have := HBE8.out.size; simp at this; omega
      have HBW := Aside0.mk (p := Below w.heap.size w w8) (below_then (below_alloc (Below.refl _ _) _) (by simp) HBE8.out)
      have HZ := Aside0.mk (p := w8.heap[w.heap.size]? = some ZT) (blk_below (blk_new w _) HBE8.out)
      clear hb7 hb8 HBE HBE8
      go_loopg [8] (r2.length + 1) (fun n s8 wx => ∃ (more : Bool) (ps : List S32) (rest : List UInt8), s8 = .bool more ∧ Aside0 (Rdr w wx w8.heap.size w.heap.size (some ZT) (B (lows mj)) (B (lows mn)) ps rest) ∧ ps.length + n ≤ r2.length + 1 ∧ Aside0 (more = true → rest.length + 1 ≤ n) ∧ Aside0 (paramsN n more ps rest = paramsN (r2.length + 1) mo [] r2) ∧ rest.length ≤ r2.length ∧ w8.heap.size < wx.heap.size)
      case atStart => exact ⟨mo, [], r2, rfl, ⟨.slice none 0 0, blk_new w8 _, Kd.R_nil _ _ _ _ _, below_alloc HBW.out _, (Below.heap_alloc w8 _ _ hgl).trans HZ.out⟩, by simp, ⟨fun _ => Nat.le_refl _⟩, ⟨rfl⟩, Nat.le_refl _, by simp⟩
      case round =>
        obtain ⟨more, ps, rest, rfl, HR, hpn, HM, HQ, hrl, hws⟩ := hrel
        cases more with
        | true =>
          have hm := HM.out rfl
          obtain ⟨m, rfl⟩ : ∃ m, gk = m + 1 := ⟨gk - 1, by omega⟩
          have h1 := paramP_more ps rest
          have h2 := paramP_len ps rest
          have h3 := paramP_le ps rest
          have HQ' := Aside0.mk (p := paramsN m (paramP ps rest).2.2 (paramP ps rest).1 (paramP ps rest).2.1 = paramsN (r2.length + 1) mo [] r2) (by rw [← HQ.out]; conv => rhs; unfold paramsN; rw [if_pos rfl])
          have HM' := Aside0.mk (p := (paramP ps rest).2.2 = true → (paramP ps rest).2.1.length + 1 ≤ m) (fun e => by have := h1 e; omega)
          clear h1 HQ HM
          go_wp2_with (go_at_call 66; refine (param_calls rest w8.heap.size w.heap.size (some ZT) (B (lows mj)) (B (lows mn)) ps w _ (by omega) (by omega) (by omega) (Nat.le_refl _) (by omega) (by omega) HR.out).mono ?_; rintro e w9 ⟨rfl, hR9, hs9⟩)
          go_roundg m
          case measure => omega
          case rel => exact ⟨_, _, _, rfl, ⟨hR9⟩, by omega, HM', HQ', by omega, by omega⟩
        | false =>
          have hps : paramsN (r2.length + 1) mo [] r2 = ps := by rw [← HQ.out]; cases gk <;> rfl
          rw [hps] at HPP
          obtain ⟨v, hblk, hKR, hB, ho⟩ := HR.out
          obtain ⟨A, cc, rfl, hle, hC⟩ := Kd.R_reads hKR
          have hx0 : wr.cell? ⟨w8.heap.size, 0, none⟩ = some (.string (B (lows mj))) := (blk_cell hblk 0).trans rfl
          have hx1 : wr.cell? ⟨w8.heap.size, 1, none⟩ = some (.string (B (lows mn))) := (blk_cell hblk 1).trans rfl
          have hx2 : wr.cell? ⟨w8.heap.size, 2, none⟩ = some (.slice A ps.length cc) := (blk_cell hblk 2).trans rfl
          have hz0 : wr.cell? ⟨w.heap.size, 0, none⟩ = some (.string (⟨#[]⟩ : ByteArray)) := (blk_cell ho 0).trans rfl
          have hz1 : wr.cell? ⟨w.heap.size, 1, none⟩ = some (.string (⟨#[]⟩ : ByteArray)) := (blk_cell ho 1).trans rfl
          have hz2 : wr.cell? ⟨w.heap.size, 2, none⟩ = some (.slice none 0 0) := (blk_cell ho 2).trans rfl
          have hf0 := blk_frozen ho 0
          have hf1 := blk_frozen ho 1
          have hf2 := blk_frozen ho 2
          have HO := Aside0.mk ho
          have HKR := Aside0.mk hKR
          have HB := Aside0.mk hB
          clear hps hblk hKR hB ho hC
          go_wp2
          refine bodyPost_ret (results_ct rfl _ _ w.heap.size 24 #[.string (B (lows mj)), .string (B (lows mn)), .slice A ps.length cc] (0, 0) _ rfl (blk_put (cs := #[.string (B (lows mj)), .string (B (lows mn)), .slice none 0 0]) (blk_put (cs := #[.string (B (lows mj)), .string (⟨#[]⟩ : ByteArray), .slice none 0 0]) (blk_put (cs := #[.string (⟨#[]⟩ : ByteArray), .string (⟨#[]⟩ : ByteArray), .slice none 0 0]) HO.out 0 _ rfl) 1 _ rfl) 2 _ rfl) Tryz.underlying24 rfl (by kernel_rfl)) rfl ?_
          rw [HPP.out]
          exact ⟨_, rfl, Kd.R_mono (Kd.R_far (Kd.R_far (Kd.R_far HKR.out (fun k hk => hk.2) _) (fun k hk => hk.2) _) (fun k hk => hk.2) _) (fun _ _ => trivial), ((HB.out.setCell (Nat.le_refl _) _).setCell (Nat.le_refl _) _).setCell (Nat.le_refl _) _⟩
theorem mime_Parse.calls (a0 : ByteArray) (r1 : ByteArray) (r2 : ByteArray) (r3 : List S32) (r4 : Bool) (w : World) (h : mime_Parse.f a0 = some (r1, r2, r3, r4)) :
    Calls Tryz.prog 15 #[.string a0] w fun e w' => ∃ v2_ : Value, e = .returned (.tuple #[.agg #[.string r1, .string r2, v2_], .bool r4]) ∧ Kd.R k32 32 w' w.heap.size (fun _ => True) v2_ r3 ∧ Below w.heap.size w w' := by
  unfold mime_Parse.f at h
  split at h
  · rename_i h1
    simp only [Option.some.injEq, Prod.mk.injEq] at h
    obtain ⟨rfl, rfl, rfl, rfl⟩ := h
    have := parse_calls (Ls a0) (by rw [← size_Ls]; exact h1) w
    rw [B_Ls] at this
    exact this
  · cases h
end Go.Proofs.YteehjlciajhdoaaGreatDoor.X
namespace Go.Proofs.YteehjlciajhdoaaGreatDoor.X
set_option linter.unusedVariables false
set_option linter.unusedSimpArgs false
open Go.RowKit Go.Proofs.YteehjlciajhdoaaGreatDoorW.PrintWords Go.Proofs.YteehjlciajhdoaaGreatDoorW.PrintLast Go.Proofs.YteehjlciajhdoaaGreatDoorW.PrintMore
abbrev Prm := S32
theorem u8_all {P : UInt8 → Prop} (h : ∀ n : Fin 256, P (UInt8.ofNat n.val)) (c : UInt8) : P c := by
  have := h ⟨c.toNat, UInt8.toNat_lt c⟩
  simpa using this
set_option maxRecDepth 100000 in
theorem tokc_ne : ∀ c : UInt8, tokc c = true → c ≠ 34 ∧ c ≠ 47 ∧ c ≠ 59 ∧ c ≠ 61 ∧ c ≠ 92 ∧ blanksL.contains c = false := u8_all (by decide +kernel)
theorem lowc_tok : ∀ c : UInt8, tokc c = true → tokc (lowc c) = true := u8_all (by decide +kernel)
theorem lowc_low : ∀ c : UInt8, lowc (lowc c) = lowc c := u8_all (by decide +kernel)
theorem isTok_iff (l : List UInt8) : isTok l = true ↔ (∀ c, c ∈ l → tokc c = true) ∧ l ≠ [] := by
  unfold isTok
  rw [Bool.and_eq_true, List.all_eq_true]
  cases l <;> simp
theorem isTok_lows (l : List UInt8) : isTok l = true → isTok (lows l) = true := by
  rw [isTok_iff, isTok_iff]
  rintro ⟨h1, h2⟩
  refine ⟨fun c hc => ?_, by cases l <;> simp_all [lows]⟩
  obtain ⟨d, hd, rfl⟩ := List.mem_map.1 hc
  exact lowc_tok d (h1 d hd)
theorem lows_lows (l : List UInt8) : lows (lows l) = lows l := by
  unfold lows
  rw [List.map_map]
  exact List.map_congr_left (fun c _ => lowc_low c)
theorem cutc_hit (c : UInt8) : ∀ a l : List UInt8, (∀ b, b ∈ a → b ≠ c) → cutc c (a ++ c :: l) = (a, l, true)
  | [], l, _ => by simp [cutc]
  | b :: a, l, h => by
    have h1 := h b List.mem_cons_self
    have ih := cutc_hit c a l (fun d hd => h d (List.mem_cons_of_mem _ hd))
    simp only [List.cons_append, cutc, if_neg h1, ih]
theorem escB_nil : escB [] = [] := rfl
theorem escB_cons (c : UInt8) (l : List UInt8) : escB (c :: l) = (if c = 34 ∨ c = 92 then [92, c] else [c]) ++ escB l := by
  unfold escB
  rw [repl_cons]
  congr 1
  by_cases h1 : c = 34
  · subst h1; rfl
  · by_cases h2 : c = 92
    · subst h2; rfl
    · simp [tabOf, escT, h1, h2, Ne.symm h1, Ne.symm h2]
theorem qv_q (t : List UInt8) : qv (34 :: t) = ([], 34 :: t) := by unfold qv; rw [if_pos rfl]
theorem qv_b (d : UInt8) (t : List UInt8) : qv (92 :: d :: t) = (d :: (qv t).1, (qv t).2) := by
  conv => lhs; unfold qv
  rw [if_neg (by decide), if_pos rfl]
theorem qv_c (c : UInt8) (t : List UInt8) (h1 : c ≠ 34) (h2 : c ≠ 92) : qv (c :: t) = (c :: (qv t).1, (qv t).2) := by
  conv => lhs; unfold qv
  rw [if_neg h1, if_neg h2]
theorem escB_length_le : ∀ v : List UInt8, (escB v).length ≤ 2 * v.length
  | [] => by simp [escB_nil]
  | c :: v => by
    have := escB_length_le v
    rw [escB_cons]
    split <;> simp <;> omega
theorem valT_length_le (v : List UInt8) : (valT v).length ≤ 2 * v.length + 2 := by
  unfold valT
  split
  · omega
  · have := escB_length_le v
    simp; omega
structure GoodP (p : Prm) : Prop where
  name : isTok (Ls p.f0) = true
  low : lows (Ls p.f0) = Ls p.f0
  fine : isFine (Ls p.f1) = true
def Apart (ps : List Prm) : Prop := ps.Pairwise (fun p q => p.f0.toList ≠ q.f0.toList)
theorem hasP_none (n : ByteArray) : ∀ ps : List Prm, (hasP ps n).2 = false → ∀ p, p ∈ ps → p.f0.toList ≠ n.toList
  | p :: ps, h, q, hq => by
    unfold hasP at h
    rw [findP] at h
    by_cases h1 : p.f0.toList = n.toList
    · rw [if_pos h1] at h; cases h
    · rw [if_neg h1] at h
      rcases List.mem_cons.1 hq with rfl | hq
      · exact h1
      · exact hasP_none n ps h q hq
structure GoodL (N : Nat) (ps : List Prm) : Prop where
  good : ∀ p, p ∈ ps → GoodP p
  apart : Apart ps
  small : ∀ p, p ∈ ps → (Ls p.f0).length ≤ N ∧ (Ls p.f1).length ≤ N
theorem GoodL.nil (N : Nat) : GoodL N [] := ⟨by simp, List.Pairwise.nil, by simp⟩
theorem addP_goodL {N : Nat} {ps : List Prm} (h : GoodL N ps) (nm q : List UInt8) (ok : Bool) (hn : lows nm = nm) (h1 : nm.length ≤ N) (h2 : q.length ≤ N) : GoodL N (addP ps nm q ok) := by
  unfold addP
  split
  · rename_i hc
    rw [Bool.and_eq_true, Bool.and_eq_true] at hc
    split
    · exact h
    · rename_i hh
      have hf : (hasP ps (B nm)).2 = false := by simpa using hh
      have hg : GoodP (⟨B nm, B q⟩ : Prm) := ⟨by rw [Ls_B]; exact hc.1.2, by rw [Ls_B]; exact hn, by rw [Ls_B]; exact hc.2⟩
      refine ⟨fun p hp => ?_, ?_, fun p hp => ?_⟩
      · rcases List.mem_append.1 hp with hp | hp
        · exact h.good p hp
        · rw [List.mem_singleton.1 hp]; exact hg
      · refine List.pairwise_append.2 ⟨h.apart, by simp, fun p hp q' hq => ?_⟩
        rw [List.mem_singleton.1 hq]
        exact hasP_none _ _ hf p hp
      · rcases List.mem_append.1 hp with hp | hp
        · exact h.small p hp
        · rw [List.mem_singleton.1 hp, Ls_B, Ls_B]; exact ⟨h1, h2⟩
  · exact h
theorem addP_length (ps : List Prm) (nm q : List UInt8) (ok : Bool) : (addP ps nm q ok).length ≤ ps.length + 1 := by
  unfold addP
  split
  · split <;> simp
  · omega
theorem dropWhile_len {α : Type} (p : α → Bool) (l : List α) : (l.dropWhile p).length ≤ l.length := (List.dropWhile_sublist p).length_le
theorem trimLeft_len' (l cs : List UInt8) : (Lib.trimLeftS l cs).length ≤ l.length := dropWhile_len _ _
theorem trimRight_len' (l cs : List UInt8) : (Lib.trimRightS l cs).length ≤ l.length := by
  unfold Lib.trimRightS
  rw [List.length_reverse]
  exact Nat.le_trans (dropWhile_len _ _) (by simp)
theorem cutc_len' (c : UInt8) : ∀ l : List UInt8, (cutc c l).1.length ≤ l.length ∧ (cutc c l).2.1.length ≤ l.length
  | [] => by simp [cutc]
  | b :: l => by
    have := cutc_len' c l
    unfold cutc
    split <;> simp <;> omega
theorem lows_len (l : List UInt8) : (lows l).length = l.length := by simp [lows]
theorem paramQ_len' (r : List UInt8) : (paramQ r).1.length ≤ r.length ∧ (paramQ r).2.1.length ≤ r.length := by
  unfold paramQ
  split
  · have := qv_len r.tail.length r.tail (Nat.le_refl _)
    have h2 : r.tail.length ≤ r.length := by simp
    constructor <;> simp only <;> omega
  · refine ⟨?_, Nat.le_refl _⟩
    exact Nat.le_trans (trimRight_len' _ _) (cutc_len' 59 r).1
theorem paramP_goodL {N : Nat} {ps : List Prm} (h : GoodL N ps) (rest : List UInt8) (hr : rest.length ≤ N) : GoodL N (paramP ps rest).1 ∧ (paramP ps rest).1.length ≤ ps.length + 1 ∧ (paramP ps rest).2.1.length ≤ N := by
  have h1 := trimLeft_len' rest blanksL
  unfold paramP
  simp only
  split
  · exact ⟨h, by simp, hr⟩
  · split
    · refine ⟨h, by simp, ?_⟩
      simp only [List.length_drop]; omega
    · have hd : ((Lib.trimLeftS rest blanksL).drop ((Lib.indexAny (Lib.trimLeftS rest blanksL) [59, 61]).toNat + 1)).length ≤ N := by rw [List.length_drop]; omega
      have hq := paramQ_len' ((Lib.trimLeftS rest blanksL).drop ((Lib.indexAny (Lib.trimLeftS rest blanksL) [59, 61]).toNat + 1))
      refine ⟨addP_goodL h _ _ _ (lows_lows _) ?_ (by omega), addP_length _ _ _ _, ?_⟩
      · rw [lows_len, List.length_take]; omega
      · have := (cutc_len' 59 (paramQ ((Lib.trimLeftS rest blanksL).drop ((Lib.indexAny (Lib.trimLeftS rest blanksL) [59, 61]).toNat + 1))).2.1).2
        exact Nat.le_trans this (by omega)
theorem paramsN_goodL {N : Nat} : ∀ (n : Nat) (more : Bool) (ps : List Prm) (rest : List UInt8), GoodL N ps → rest.length ≤ N → GoodL N (paramsN n more ps rest) ∧ (paramsN n more ps rest).length ≤ ps.length + n
  | 0, _, ps, _, h, _ => ⟨h, by simp [paramsN]⟩
  | n + 1, more, ps, rest, h, hr => by
    unfold paramsN
    split
    · obtain ⟨h1, h2, h3⟩ := paramP_goodL h rest hr
      have ih := paramsN_goodL n (paramP ps rest).2.2 (paramP ps rest).1 (paramP ps rest).2.1 h1 h3
      exact ⟨ih.1, by omega⟩
    · exact ⟨h, by omega⟩
theorem parse_good (l : List UInt8) : parseP l = ([], [], [], false) ∨ ∃ mj mn ps, parseP l = (mj, mn, ps, true) ∧ isTok mj = true ∧ isTok mn = true ∧ lows mj = mj ∧ lows mn = mn ∧ GoodL l.length ps ∧ ps.length ≤ l.length + 1 ∧ mj.length ≤ l.length ∧ mn.length ≤ l.length := by
  have e1 : (Lib.trimS l blanksL).length ≤ l.length := by unfold Lib.trimS; exact Nat.le_trans (trimLeft_len' _ _) (trimRight_len' _ _)
  have e2 := cutc_len' 47 (Lib.trimS l blanksL)
  have e3 := cutc_len' 59 (cutc 47 (Lib.trimS l blanksL)).2.1
  have e4 := trimRight_len' (cutc 59 (cutc 47 (Lib.trimS l blanksL)).2.1).1 blanksL
  unfold parseP
  simp only
  split
  · rename_i h1
    split
    · rename_i h2
      right
      have hp := paramsN_goodL (N := l.length) ((cutc 59 (cutc 47 (Lib.trimS l blanksL)).2.1).2.1.length + 1) (cutc 59 (cutc 47 (Lib.trimS l blanksL)).2.1).2.2 [] (cutc 59 (cutc 47 (Lib.trimS l blanksL)).2.1).2.1 (GoodL.nil _) (by omega)
      refine ⟨_, _, _, rfl, isTok_lows _ h1, isTok_lows _ h2, lows_lows _, lows_lows _, hp.1, ?_, ?_, ?_⟩
      · have := hp.2; simp only [List.length_nil] at this; omega
      · rw [lows_len]; omega
      · rw [lows_len]; omega
    · left; rfl
  · left; rfl
theorem textL_bound (mj mn : List UInt8) (N : Nat) : ∀ ps : List Prm, GoodL N ps → (ps.flatMap parT).length ≤ ps.length * (3 * N + 4)
  | [], _ => by simp
  | p :: ps, h => by
    have ih := textL_bound mj mn N ps ⟨fun q hq => h.good q (List.mem_cons_of_mem _ hq), (List.pairwise_cons.1 h.apart).2, fun q hq => h.small q (List.mem_cons_of_mem _ hq)⟩
    have hs := h.small p List.mem_cons_self
    have hv := valT_length_le (Ls p.f1)
    rw [List.flatMap_cons, List.length_append, List.length_cons, Nat.add_mul, Nat.one_mul]
    have : (parT p).length ≤ 3 * N + 4 := by
      unfold parT
      simp only [List.length_append, List.length_cons]
      omega
    omega
end Go.Proofs.YteehjlciajhdoaaGreatDoor.X
namespace Go.Proofs.YteehjlciajhdoaaGreatDoor.X
open Go.RowKit Go.Proofs.YteehjlciajhdoaaGreatDoorW.PrintWords Go.Proofs.YteehjlciajhdoaaGreatDoorW.PrintLast Go.Proofs.YteehjlciajhdoaaGreatDoorW.PrintMore
attribute [local go_sem] max2_int min2_int max_two min_two max_three min_three max_four min_four
set_option linter.unusedVariables false
set_option linter.unusedSimpArgs false
def ostiarykeep_Few.f (a0 : ByteArray) (a1 : Int) : Option (ByteArray) := if (a0.size : Int) > a1 then (if 0 ≤ a1 then (if a1 ≤ (a0.size : Int) then (some (a0.extract 0 (a1 : Int).toNat)) else (none)) else (none)) else (some a0)
set_option maxHeartbeats 8000000 in
set_option maxRecDepth 100000 in
theorem ostiarykeep_Few.calls (a0 : ByteArray) (a1 : Int) (r : ByteArray) (w : World) (h : ostiarykeep_Few.f a0 a1 = some r) :
    Calls Tryz.prog 16 #[.string a0, .int .i64 a1] w fun e w' => e = .returned (.string r) ∧ Drawn0 w w' := by
  have H : (if (a0.size : Int) > a1 then (if 0 ≤ a1 then (if a1 ≤ (a0.size : Int) then (some (a0.extract 0 (a1 : Int).toNat)) else (none)) else (none)) else (some a0)) = some r := h
  clear h
  by_cases c3 : (a0.size : Int) > a1
  · rw [if_pos c3] at H
    have c3b0 : decide (a1 < (a0.size : Int)) = true := decide_eq_true c3
    clear c3
    by_cases c4 : 0 ≤ a1
    · rw [if_pos c4] at H
      have c4b0 := eq_true c4
      have c4b1 : decide (0 ≤ a1) = true := decide_eq_true c4
      clear c4
      by_cases c5 : a1 ≤ (a0.size : Int)
      · rw [if_pos c5] at H
        have c5b0 := eq_true c5
        have c5b1 : decide (a1 ≤ (a0.size : Int)) = true := decide_eq_true c5
        clear c5
        obtain rfl := Option.some.inj H
        go_enter Tryz.func16, Tryz.ntmps16
        go_wp2
        go_ret
        exact ⟨by first | rfl | (simp; done) | (simp [*]; done), by repeat (first | exact Drawn0.refl _ | apply Drawn0.step)⟩
      · rw [if_neg c5] at H
        exact absurd H (by simp)
    · rw [if_neg c4] at H
      exact absurd H (by simp)
  · rw [if_neg c3] at H
    have c3b0 : decide (a1 < (a0.size : Int)) = false := decide_eq_false c3
    clear c3
    obtain rfl := Option.some.inj H
    go_enter Tryz.func16, Tryz.ntmps16
    go_wp2
    go_ret
    exact ⟨by first | rfl | (simp; done) | (simp [*]; done), by repeat (first | exact Drawn0.refl _ | apply Drawn0.step)⟩
end Go.Proofs.YteehjlciajhdoaaGreatDoor.X
namespace Go.Proofs.YteehjlciajhdoaaGreatDoor.X
set_option linter.unusedVariables false
set_option linter.unusedSimpArgs false
open Go.RowKit Go.Proofs.YteehjlciajhdoaaGreatDoorW.PrintWords Go.Proofs.YteehjlciajhdoaaGreatDoorW.PrintLast Go.Proofs.YteehjlciajhdoaaGreatDoorW.PrintMore
theorem strs_open {w : World} {A : Option Addr} {l : List ByteArray} (h : Kd.C Kd.string w A l.length l) (h0 : 0 < l.length) :
    ∃ b o, A = some ⟨b, o, none⟩ ∧ b < w.heap.size ∧ ∀ (j : Nat) x, l[j]? = some x → w.cell? ⟨b, o + j, none⟩ = some (.string x) := by
  have hr := Kd.reads_of_C (d := ByteArray.empty) h
  obtain ⟨ad, e, hc⟩ := hr.2.2 h0
  have h1 := hc 0 h0
  have hsp : ad.spot = none := by
    cases hs : ad.spot with
    | none => rfl
    | some s =>
      have : w.cell? (ad.add 0) = none := by
        simp only [Addr.add, if_true, World.cell?, hs]
        split <;> rfl
      rw [this] at h1
      cases h1
  obtain ⟨b, o, sp⟩ := ad
  simp only at hsp
  subst hsp
  refine ⟨b, o, e, ?_, ?_⟩
  · have := World.block_lt_of_cell? w _ h1
    simpa [Addr.add] using this
  · intro j x hj
    obtain ⟨hl, hx⟩ := List.getElem?_eq_some_iff.1 hj
    have h2 := hc j hl
    have ha : (⟨b, o, none⟩ : Addr).add j = ⟨b, o + j, none⟩ := by unfold Addr.add; split <;> simp_all
    rw [ha] at h2
    rw [h2, List.getD_eq_getElem?_getD, hj]
    rfl
def joinB (l0 : List ByteArray) (a1 : ByteArray) : ByteArray := ⟨(Lib.join (l0.map (·.data.toList)) a1.data.toList).toArray⟩
def strings_Join.f (l0 : List ByteArray) (a1 : ByteArray) : Option ByteArray :=
  if l0.length ≤ 140737488355328 then if (joinB l0 a1).size ≤ 140737488355328 then some (joinB l0 a1) else none else none
theorem strings_Join.calls (A0 : Option Addr) (c0 : Nat) (l0 : List ByteArray) (a1 : ByteArray) (r : ByteArray) (w : World) (hr0 : Kd.C Kd.string w A0 l0.length l0) (hc0 : l0.length ≤ c0) (h : strings_Join.f l0 a1 = some r) :
    Calls Tryz.prog 141 #[.slice A0 l0.length c0, .string a1] w fun e w' => e = .returned (.string r) ∧ Below w.heap.size w w' := by
  unfold strings_Join.f at h
  split at h
  · split at h
    · rename_i h1 h2
      obtain rfl := Option.some.inj h
      cases l0 with
      | nil =>
        refine (Tryz.strings_Join_none A0 c0 a1 w).mono fun e w' ⟨h3, h4⟩ => ⟨h3, h4 ▸ Below.refl _ _⟩
      | cons x l =>
        obtain ⟨b, o, rfl, hb, hc⟩ := strs_open hr0 (by simp)
        refine Tryz.strings_Join b o c0 (x :: l) a1 w hc hb h1 hc0 ?_
        have : (joinB (x :: l) a1).size = (Lib.join ((x :: l).map (·.data.toList)) a1.data.toList).length := by
          unfold joinB; exact List.size_toArray
        omega
    · cases h
  · cases h
end Go.Proofs.YteehjlciajhdoaaGreatDoor.X
namespace Go.Proofs.YteehjlciajhdoaaGreatDoor.X
open Go.RowKit Go.Proofs.YteehjlciajhdoaaGreatDoorW.PrintWords Go.Proofs.YteehjlciajhdoaaGreatDoorW.PrintLast Go.Proofs.YteehjlciajhdoaaGreatDoorW.PrintMore
attribute [local go_sem] max2_int min2_int max_two min_two max_three min_three max_four min_four
set_option linter.unusedVariables false
set_option linter.unusedSimpArgs false
def headers_is.f (a0_0 : ByteArray) (a0_1 : ByteArray) (a1 : ByteArray) : Option (Bool) := (infra_Lower.f a0_0).bind fun t102 => ((infra_Lower.f a1).bind fun t103 => (some (t102.toList == t103.toList)))
set_option maxHeartbeats 8000000 in
set_option maxRecDepth 100000 in
theorem headers_is.calls (a0_0 : ByteArray) (a0_1 : ByteArray) (a1 : ByteArray) (r : Bool) (w : World) (h : headers_is.f a0_0 a0_1 a1 = some r) :
    Calls Tryz.prog 86 #[.agg #[.string a0_0, .string a0_1], .string a1] w fun e w' => e = .returned (.bool r) ∧ Below w.heap.size w w' := by
  have hu55 := Tryz.underlying55
  have HB := Aside0.mk (Below.refl w.heap.size w)
  have H : ((infra_Lower.f a0_0).bind fun t102 => ((infra_Lower.f a1).bind fun t103 => (some (t102.toList == t103.toList)))) = some r := h
  clear h
  replace H := Option.bind_eq_some_iff.mp H
  obtain ⟨t102, A30, H⟩ := H
  replace H : ((infra_Lower.f a1).bind fun t103 => (some (t102.toList == t103.toList))) = some r := H
  have A3 := Aside0.mk A30
  clear A30
  replace H := Option.bind_eq_some_iff.mp H
  obtain ⟨t103, A40, H⟩ := H
  replace H : (some (t102.toList == t103.toList)) = some r := H
  have A4 := Aside0.mk A40
  clear A40
  obtain rfl := Option.some.inj H
  go_enter Tryz.func86, Tryz.ntmps86
  go_wp2_with (first | ((with_reducible refine gate_dst (N := 2) rfl ?_); refine box_event ?hg (N := 2) ?hd (cs := #[.string a0_0, .string a0_1]) (t := 55) ?hr ?_; (case hd => rfl); (case hg => rfl); (case hr => first | (go_simp; done) | (go_simp; rfl)); intro gb101 hg w5 hbox hb; have n0_ := Aside0.mk (below_step (by repeat (first | (with_reducible first | exact HB.out | apply below_alloc | apply pw_below_drewN | apply below_drew1) | exact HB.out)) hb); have n1_ := Aside0.mk (hbox); have n2_ := Aside0.mk ((by rw [hg]; exact (below_size (by repeat (first | (with_reducible first | exact HB.out | apply below_alloc | apply pw_below_drewN | apply below_drew1) | exact HB.out))) : w.heap.size ≤ gb101)); have n3_ := Aside0.mk ((by rw [hg]; exact (below_size (by repeat (first | (with_reducible first | exact HB.out | apply below_alloc | apply pw_below_drewN | apply below_drew1) | exact HB.out))) : w.heap.size ≤ gb101)); clear HB; have HB := n0_; have BK101 := n1_; have GW101 := n2_; have GE101 := n3_; clear n0_ n1_ n2_ n3_; clear hb hbox hg; have hcz6_0 : w5.cell? ⟨gb101, 0, none⟩ = some (.string a0_0) := (blk_cell BK101.out 0).trans rfl; have hcz6_1 : w5.cell? ⟨gb101, 1, none⟩ = some (.string a0_1) := (blk_cell BK101.out 1).trans rfl; have hfz6_0 := blk_frozen BK101.out 0; have hfz6_1 := blk_frozen BK101.out 1) | ((with_reducible refine gate_callee (f := 65) rfl ?_); refine goesL_ (some 7) rfl rfl Tryz.func65 (by kernel_rfl) rfl #[.string a0_0] rfl (by (try simp only [List.map_toArray, List.map_cons, List.map_nil]); first | done | rfl | (simp only [List.length_drop, List.length_take]; rfl)) ?_; (with_reducible refine (infra_Lower.calls a0_0 t102 _ A3.out).mono ?_); rintro e w7 ⟨rfl, hb⟩; refine ⟨_, rfl, ?_⟩; have n0_ := Aside0.mk (blk_below (g := gb101) (o := .cells #[.string a0_0, .string a0_1] 55 (0, 0)) (by (with_reducible repeat (first | refine blk_drewN ?_ _ | refine blk_drew ?_ | refine blk_alloc ?_ _)); exact BK101.out) hb); have n1_ := Aside0.mk (below_step (by repeat (first | (with_reducible first | exact HB.out | apply below_alloc | apply pw_below_drewN | apply below_drew1 | refine below_set ?_ GE101.out) | exact HB.out)) hb); clear BK101; clear HB; have BK101 := n0_; have HB := n1_; clear n0_ n1_; (try clear hb); (try clear hb2); (try clear hk); (try clear hi)) | ((with_reducible refine gate_callee (f := 65) rfl ?_); refine goesL_ (some 9) rfl rfl Tryz.func65 (by kernel_rfl) rfl #[.string a1] rfl (by (try simp only [List.map_toArray, List.map_cons, List.map_nil]); first | done | rfl | (simp only [List.length_drop, List.length_take]; rfl)) ?_; (with_reducible refine (infra_Lower.calls a1 t103 _ A4.out).mono ?_); rintro e w8 ⟨rfl, hb⟩; refine ⟨_, rfl, ?_⟩; have n0_ := Aside0.mk (blk_below (g := gb101) (o := .cells #[.string a0_0, .string a0_1] 55 (0, 0)) (by (with_reducible repeat (first | refine blk_drewN ?_ _ | refine blk_drew ?_ | refine blk_alloc ?_ _)); exact BK101.out) hb); have n1_ := Aside0.mk (below_step (by repeat (first | (with_reducible first | exact HB.out | apply below_alloc | apply pw_below_drewN | apply below_drew1 | refine below_set ?_ GE101.out) | exact HB.out)) hb); clear BK101; clear HB; have BK101 := n0_; have HB := n1_; clear n0_ n1_; (try clear hb); (try clear hb2); (try clear hk); (try clear hi)))
  go_ret
  exact ⟨by first | rfl | (simp [errW_none, errW_some] <;> rfl) | (simp [*, errW_none, errW_some] <;> rfl), by repeat (first | (with_reducible first | exact HB.out | apply below_alloc | apply pw_below_drewN | apply below_drew1 | refine below_set ?_ GE101.out) | exact HB.out)⟩
end Go.Proofs.YteehjlciajhdoaaGreatDoor.X
namespace Go.Proofs.YteehjlciajhdoaaGreatDoor.X
open Go.RowKit Go.Proofs.YteehjlciajhdoaaGreatDoorW.PrintWords Go.Proofs.YteehjlciajhdoaaGreatDoorW.PrintLast Go.Proofs.YteehjlciajhdoaaGreatDoorW.PrintMore
attribute [local go_sem] max2_int min2_int max_two min_two max_three min_three max_four min_four
set_option linter.unusedVariables false
set_option linter.unusedSimpArgs false
def headers_Get.l0 : Nat → ByteArray → List ByteArray → List (S55) → Int → Int → Option (ByteArray × Bool)
  | 0, _, _, _, _, _ => none
  | k + 1, x1, x6, x9, x10, x11 => if x11 < x10 then (if 0 ≤ x11 then (if x11 < (x9.length : Int) then ((headers_is.f ((rd_T55 x9 x11).f0) ((rd_T55 x9 x11).f1) x1).bind fun t103 => (if t103 = true then (if x6.length < 8796093022208 then (headers_Get.l0 k x1 (x6 ++ [(rd_T55 x9 x11).f1]) x9 x10 (wrap64 (x11 + 1))) else (none)) else (headers_Get.l0 k x1 x6 x9 x10 (wrap64 (x11 + 1))))) else (none)) else (none)) else ((strings_Join.f x6 (⟨#[44, 32]⟩ : ByteArray)).bind fun t107 => (some (t107, decide ((x6.length : Int) > 0))))
def headers_Get.f (k : Nat) (l0 : List (S55)) (a1 : ByteArray) : Option (ByteArray × Bool) := headers_Get.l0 k a1 ([] : List ByteArray) l0 (l0.length : Int) 0
theorem headers_Get.mono_l : ∀ k, (∀ y0 y1 y2 y3 y4, LeO (headers_Get.l0 k y0 y1 y2 y3 y4) (headers_Get.l0 (k + 1) y0 y1 y2 y3 y4))
  | 0 => fun _ _ _ _ _ r h => by simp [headers_Get.l0] at h
  | k + 1 => by
    have ih0 := headers_Get.mono_l k
    · intro y0 y1 y2 y3 y4
      unfold headers_Get.l0
      repeat' first
      | (with_reducible exact ih0 _ _ _ _ _)
      | (with_reducible exact LeO.refl _)
      | (with_reducible exact LeO.none _)
      | (with_reducible refine LeO.ite ?_ ?_)
      | (with_reducible refine LeO.bind ?_ (fun _ => ?_))
      | exact ih0 _ _ _ _ _
      | exact LeO.none _
      | refine LeO.ite ?_ ?_
      | refine LeO.bind ?_ (fun _ => ?_)
theorem headers_Get.mono : ∀ a0 a1 k, LeO (headers_Get.f k a0 a1) (headers_Get.f (k + 1) a0 a1) := by
  intro a0 a1 k
  have ih0 := headers_Get.mono_l k
  unfold headers_Get.f
  repeat' first
      | (with_reducible exact ih0 _ _ _ _ _)
      | (with_reducible exact LeO.refl _)
      | (with_reducible exact LeO.none _)
      | (with_reducible refine LeO.ite ?_ ?_)
      | (with_reducible refine LeO.bind ?_ (fun _ => ?_))
      | exact ih0 _ _ _ _ _
      | exact LeO.none _
      | refine LeO.ite ?_ ?_
      | refine LeO.bind ?_ (fun _ => ?_)
set_option maxHeartbeats 8000000 in
set_option maxRecDepth 100000 in
theorem headers_Get.calls (k : Nat) (A0 : Option Addr) (c0 : Nat) (l0 : List (S55)) (a1 : ByteArray) (r1 : ByteArray) (r2 : Bool) (w : World) (hr0 : Kd.C k55 w A0 l0.length l0) (hc0 : l0.length ≤ c0) (h : headers_Get.f k l0 a1 = some (r1, r2)) :
    Calls Tryz.prog 87 #[.slice A0 l0.length c0, .string a1] w fun e w' => e = .returned (.tuple #[.string r1, .bool r2]) ∧ Below w.heap.size w w' := by
  have hu55 := Tryz.underlying55
  have HR0 := Aside0.mk hr0
  have HC0 := Aside0.mk hc0
  clear hr0 hc0
  have HB := Aside0.mk (Below.refl w.heap.size w)
  have H : (headers_Get.l0 k a1 ([] : List ByteArray) l0 (l0.length : Int) 0) = some (r1, r2) := h
  clear h
  have H' := Aside0.mk H
  clear H
  go_enter Tryz.func87, Tryz.ntmps87
  go_wp2
  go_loopg [6, 11] k (fun kq v6 v11 w' => ∃ (x6_1 : List ByteArray) (x11_1 : Int), v11 = .int .i64 x11_1 ∧ Aside0 (headers_Get.l0 kq a1 x6_1 l0 (l0.length : Int) x11_1 = some (r1, r2)) ∧ Aside0 (kq ≤ k) ∧ Aside0 (Kd.R Kd.string 9 w' w.heap.size (fun _ => True) v6 x6_1) ∧ Aside0 (Below w.heap.size w w'))
  case atStart => exact ⟨(([] : List ByteArray)), (0), (by first | rfl | (simp; done) | (simp [*]; done)), H', ⟨Nat.le_refl _⟩, ⟨by first | exact Kd.R_nil _ _ _ _ _ | exact Kd.N_nil _ _ _ _ _ | exact Kd.V_nil _ _ _ _ _ | exact Kd.Q_nil _ _ _ _ _ | exact Kd.S_nil _ _ _ _ _⟩, ⟨by repeat (first | (with_reducible first | exact HB.out | apply below_alloc | apply pw_below_drewN | apply below_drew1) | exact HB.out)⟩⟩
  case round =>
    clear H'
    try clear p2
    obtain ⟨x6_1, x11_1, rfl, HA, HK1, HO_6, HB⟩ := hrel
    cases gk with
    | zero => exact absurd HA.out (by simp [headers_Get.l0])
    | succ k1 =>
      have H := HA.out
      clear HA
      simp only [headers_Get.l0] at H
      by_cases c3 : x11_1 < (l0.length : Int)
      · rw [if_pos c3] at H
        have c3b0 : decide (x11_1 < (l0.length : Int)) = true := decide_eq_true c3
        clear c3
        by_cases c4 : 0 ≤ x11_1
        · rw [if_pos c4] at H
          have c4b0 : decide (0 ≤ x11_1) = true := decide_eq_true c4
          clear c4
          by_cases c5 : x11_1 < (l0.length : Int)
          · rw [if_pos c5] at H
            have c5b0 : decide (x11_1 < (l0.length : Int)) = true := decide_eq_true c5
            clear c5
            replace H := Option.bind_eq_some_iff.mp H
            obtain ⟨t103, A60, H⟩ := H
            replace H : (if t103 = true then (if x6_1.length < 8796093022208 then (headers_Get.l0 k1 a1 (x6_1 ++ [(rd_T55 l0 x11_1).f1]) l0 (l0.length : Int) (wrap64 (x11_1 + 1))) else (none)) else (headers_Get.l0 k1 a1 x6_1 l0 (l0.length : Int) (wrap64 (x11_1 + 1)))) = some (r1, r2) := H
            have A6 := Aside0.mk A60
            clear A60
            by_cases c7 : t103 = true
            · subst c7
              have H1 : (if x6_1.length < 8796093022208 then (headers_Get.l0 k1 a1 (x6_1 ++ [(rd_T55 l0 x11_1).f1]) l0 (l0.length : Int) (wrap64 (x11_1 + 1))) else (none)) = some (r1, r2) := by rw [if_pos rfl] at H; exact H
              clear H
              have H := H1
              clear H1
              by_cases c8 : x6_1.length < 8796093022208
              · rw [if_pos c8] at H
                have LMc8 := Aside0.mk c8
                clear c8
                obtain ⟨y104, hy104⟩ : ∃ y_ : List ByteArray, y_ = (x6_1 ++ [(rd_T55 l0 x11_1).f1]) := ⟨_, rfl⟩
                replace H : (headers_Get.l0 k1 a1 y104 l0 (l0.length : Int) (wrap64 (x11_1 + 1))) = some (r1, r2) := by first | (rw [hy104]; with_reducible exact H) | (have H2_ := (Option.bind_some _ _).symm.trans H; rw [hy104]; with_reducible exact H2_) | (have H2_ := (Option.bind_some _ _).symm.trans H; with_reducible exact H2_) | with_reducible exact H | (rw [hy104]; exact H) | exact H
                have Ny104 := Aside0.mk hy104
                clear hy104
                have H' := Aside0.mk H
                clear H
                have p101 : 0 ≤ (x11_1 : Int) := of_decide_eq_true (by first | (with_reducible assumption) | assumption)
                have q101 : x11_1 < (l0.length : Int) := of_decide_eq_true (by first | (with_reducible assumption) | assumption)
                obtain ⟨ad101, e101, hx101_0, hx101_1⟩ := at_T55 HR0.out x11_1 p101 q101
                cases e101
                replace hx101_0 := (HB.out.cell (World.block_lt_of_cell? w _ hx101_0)).trans hx101_0
                replace hx101_1 := (HB.out.cell (World.block_lt_of_cell? w _ hx101_1)).trans hx101_1
                replace p101 := eq_true p101
                replace q101 := eq_true q101
                go_wp2_with (first | ((with_reducible refine gate_dst (N := 8) rfl ?_); refine box_event ?hg (N := 8) ?hd (cs := #[.string (⟨#[]⟩ : ByteArray), .string (⟨#[]⟩ : ByteArray)]) (t := 55) ?hr ?_; (case hd => rfl); (case hg => rfl); (case hr => first | (go_simp; done) | (go_simp; rfl)); intro gb102 hg w9 hbox hb; have n0_ := Aside0.mk (Kd.R_below (by (with_reducible repeat (first | apply Kd.R_alloc | apply Kd.R_drewN | apply Kd.R_drew)); exact HO_6.out) hb); have n1_ := Aside0.mk (below_step (by repeat (first | (with_reducible first | exact HB.out | apply below_alloc | apply pw_below_drewN | apply below_drew1) | exact HB.out)) hb); have n2_ := Aside0.mk (hbox); have n3_ := Aside0.mk ((by rw [hg]; exact (below_size (by repeat (first | (with_reducible first | exact HB.out | apply below_alloc | apply pw_below_drewN | apply below_drew1) | exact HB.out))) : w.heap.size ≤ gb102)); have n4_ := Aside0.mk ((by rw [hg]; exact (below_size (by repeat (first | (with_reducible first | exact HB.out | apply below_alloc | apply pw_below_drewN | apply below_drew1) | exact HB.out))) : w.heap.size ≤ gb102)); clear HO_6; clear HB; have HO_6 := n0_; have HB := n1_; have BK102 := n2_; have GW102 := n3_; have GE102 := n4_; clear n0_ n1_ n2_ n3_ n4_; clear hb hbox hg; have hcz10_0 : w9.cell? ⟨gb102, 0, none⟩ = some (.string (⟨#[]⟩ : ByteArray)) := (blk_cell BK102.out 0).trans rfl; have hcz10_1 : w9.cell? ⟨gb102, 1, none⟩ = some (.string (⟨#[]⟩ : ByteArray)) := (blk_cell BK102.out 1).trans rfl; have hfz10_0 := blk_frozen BK102.out 0; have hfz10_1 := blk_frozen BK102.out 1) | ((with_reducible refine gate_callee (f := 86) rfl ?_); refine goesL_ (some 17) rfl rfl Tryz.func86 (by kernel_rfl) rfl #[.agg #[.string ((rd_T55 l0 x11_1).f0), .string ((rd_T55 l0 x11_1).f1)], .string a1] rfl (by (try simp only [List.map_toArray, List.map_cons, List.map_nil]); first | done | rfl | (simp only [List.length_drop, List.length_take]; rfl)) ?_; (with_reducible refine (headers_is.calls ((rd_T55 l0 x11_1).f0) ((rd_T55 l0 x11_1).f1) a1 true _ A6.out).mono ?_); rintro e w11 ⟨rfl, hb⟩; refine ⟨_, rfl, ?_⟩; have n0_ := Aside0.mk (Kd.R_below (by (with_reducible repeat (first | apply Kd.R_alloc | apply Kd.R_drewN | apply Kd.R_drew)); exact (Kd.R_mono (Kd.R_far (p := ⟨gb102, 1, none⟩) (Kd.R_far (p := ⟨gb102, 0, none⟩) (Kd.R_types HO_6.out BK102.out (by decide)) (fun _ hk => hk.2) (.string ((rd_T55 l0 x11_1).f0))) (fun _ hk => hk.2) (.string ((rd_T55 l0 x11_1).f1))) (fun _ h_ => h_.1))) hb); have n1_ := Aside0.mk (blk_below (g := gb102) (o := .cells #[.string ((rd_T55 l0 x11_1).f0), .string ((rd_T55 l0 x11_1).f1)] 55 (0, 0)) (by (with_reducible repeat (first | refine blk_drewN ?_ _ | refine blk_drew ?_ | refine blk_alloc ?_ _)); refine blk_put (cs := #[.string ((rd_T55 l0 x11_1).f0), .string (⟨#[]⟩ : ByteArray)]) ?_ 1 _ rfl; (with_reducible repeat (first | refine blk_drewN ?_ _ | refine blk_drew ?_ | refine blk_alloc ?_ _)); refine blk_put (cs := #[.string (⟨#[]⟩ : ByteArray), .string (⟨#[]⟩ : ByteArray)]) ?_ 0 _ rfl; (with_reducible repeat (first | refine blk_drewN ?_ _ | refine blk_drew ?_ | refine blk_alloc ?_ _)); exact BK102.out) hb); have n2_ := Aside0.mk (below_step (by repeat (first | (with_reducible first | exact HB.out | apply below_alloc | apply pw_below_drewN | apply below_drew1 | refine below_set ?_ GE102.out) | exact HB.out)) hb); clear HO_6; clear BK102; clear HB; have HO_6 := n0_; have BK102 := n1_; have HB := n2_; clear n0_ n1_ n2_; (try clear hb); (try clear hb2); (try clear hk); (try clear hi); have hcz12_0 : w11.cell? ⟨gb102, 0, none⟩ = some (.string ((rd_T55 l0 x11_1).f0)) := (blk_cell BK102.out 0).trans rfl; have hcz12_1 : w11.cell? ⟨gb102, 1, none⟩ = some (.string ((rd_T55 l0 x11_1).f1)) := (blk_cell BK102.out 1).trans rfl; have hfz12_0 := blk_frozen BK102.out 0; have hfz12_1 := blk_frozen BK102.out 1) | ((with_reducible refine gate_builtin (b := .append) (xs := #[.tmp 18, .tmp 21]) rfl ?_); at_builtin; refine Kd.R_append Kd.string (w0 := w) w.heap.size rfl (.tmp 18) (.tmp 21) 68 9 (.string ⟨#[]⟩) 16 rfl Tryz.underlying68 info9 rfl (by decide) (by omega) u6 x6_1 ((rd_T55 l0 x11_1).f1) [.string ((rd_T55 l0 x11_1).f1)] (fun _ => True) (fun _ => False) rfl rfl ?aP (fun _ hk => hk.elim) ?aF ?aO ?aB ?aS ?aL ?_; (case aP => exact rfl); (case aB => exact (by repeat (first | (with_reducible first | exact HB.out | apply below_alloc | apply pw_below_drewN | apply below_drew1 | refine below_set ?_ GE102.out) | exact HB.out))); (case aF => exact (fun _ _ => trivial)); (case aO => exact (by (with_reducible repeat (first | apply Kd.R_alloc | apply Kd.R_drewN | apply Kd.R_drew)); exact HO_6.out)); (case aS => exact (below_size (by repeat (first | (with_reducible first | exact HB.out | apply below_alloc | apply pw_below_drewN | apply below_drew1 | refine below_set ?_ GE102.out) | exact HB.out)))); (case aL => have := LMc8.out; omega); intro v105 w13 ho hb hg hat; rw [← Ny104.out] at ho; have n0_ := Aside0.mk (blk_grown (g := gb102) (o := .cells #[.string ((rd_T55 l0 x11_1).f0), .string ((rd_T55 l0 x11_1).f1)] 55 (0, 0)) (by (with_reducible repeat (first | refine blk_drewN ?_ _ | refine blk_drew ?_ | refine blk_alloc ?_ _)); exact BK102.out) hg (Kd.R_ne HO_6.out BK102.out (by decide))); have n1_ := Aside0.mk (hb); have n2_ := Aside0.mk (ho); clear BK102; clear HB; clear HO_6; have BK102 := n0_; have HB := n1_; have HO106 := n2_; clear n0_ n1_ n2_; clear ho hb hg hat))
                go_roundg k1
                case measure => have := HK1.out; omega
                case rel => exact ⟨(y104), (wrap64 (x11_1 + 1)), (by first | rfl | (simp; done) | (simp [*]; done)), H', ⟨by have := HK1.out; omega⟩, ⟨by (with_reducible repeat (first | apply Kd.R_alloc | apply Kd.R_drewN | apply Kd.R_drew)); exact HO106.out⟩, ⟨by repeat (first | (with_reducible first | exact HB.out | apply below_alloc | apply pw_below_drewN | apply below_drew1 | refine below_set ?_ GE102.out) | exact HB.out)⟩⟩
              · rw [if_neg c8] at H
                exact absurd H (by simp)
            · replace c7 := Bool.eq_false_iff.mpr c7
              subst c7
              have H1 : (headers_Get.l0 k1 a1 x6_1 l0 (l0.length : Int) (wrap64 (x11_1 + 1))) = some (r1, r2) := by rw [if_neg (show ¬ (false = true) by decide)] at H; exact H
              clear H
              have H := H1
              clear H1
              have H' := Aside0.mk H
              clear H
              have p101 : 0 ≤ (x11_1 : Int) := of_decide_eq_true (by first | (with_reducible assumption) | assumption)
              have q101 : x11_1 < (l0.length : Int) := of_decide_eq_true (by first | (with_reducible assumption) | assumption)
              obtain ⟨ad101, e101, hx101_0, hx101_1⟩ := at_T55 HR0.out x11_1 p101 q101
              cases e101
              replace hx101_0 := (HB.out.cell (World.block_lt_of_cell? w _ hx101_0)).trans hx101_0
              replace hx101_1 := (HB.out.cell (World.block_lt_of_cell? w _ hx101_1)).trans hx101_1
              replace p101 := eq_true p101
              replace q101 := eq_true q101
              go_wp2_with (first | ((with_reducible refine gate_dst (N := 8) rfl ?_); refine box_event ?hg (N := 8) ?hd (cs := #[.string (⟨#[]⟩ : ByteArray), .string (⟨#[]⟩ : ByteArray)]) (t := 55) ?hr ?_; (case hd => rfl); (case hg => rfl); (case hr => first | (go_simp; done) | (go_simp; rfl)); intro gb102 hg w14 hbox hb; have n0_ := Aside0.mk (Kd.R_below (by (with_reducible repeat (first | apply Kd.R_alloc | apply Kd.R_drewN | apply Kd.R_drew)); exact HO_6.out) hb); have n1_ := Aside0.mk (below_step (by repeat (first | (with_reducible first | exact HB.out | apply below_alloc | apply pw_below_drewN | apply below_drew1) | exact HB.out)) hb); have n2_ := Aside0.mk (hbox); have n3_ := Aside0.mk ((by rw [hg]; exact (below_size (by repeat (first | (with_reducible first | exact HB.out | apply below_alloc | apply pw_below_drewN | apply below_drew1) | exact HB.out))) : w.heap.size ≤ gb102)); have n4_ := Aside0.mk ((by rw [hg]; exact (below_size (by repeat (first | (with_reducible first | exact HB.out | apply below_alloc | apply pw_below_drewN | apply below_drew1) | exact HB.out))) : w.heap.size ≤ gb102)); clear HO_6; clear HB; have HO_6 := n0_; have HB := n1_; have BK102 := n2_; have GW102 := n3_; have GE102 := n4_; clear n0_ n1_ n2_ n3_ n4_; clear hb hbox hg; have hcz15_0 : w14.cell? ⟨gb102, 0, none⟩ = some (.string (⟨#[]⟩ : ByteArray)) := (blk_cell BK102.out 0).trans rfl; have hcz15_1 : w14.cell? ⟨gb102, 1, none⟩ = some (.string (⟨#[]⟩ : ByteArray)) := (blk_cell BK102.out 1).trans rfl; have hfz15_0 := blk_frozen BK102.out 0; have hfz15_1 := blk_frozen BK102.out 1) | ((with_reducible refine gate_callee (f := 86) rfl ?_); refine goesL_ (some 17) rfl rfl Tryz.func86 (by kernel_rfl) rfl #[.agg #[.string ((rd_T55 l0 x11_1).f0), .string ((rd_T55 l0 x11_1).f1)], .string a1] rfl (by (try simp only [List.map_toArray, List.map_cons, List.map_nil]); first | done | rfl | (simp only [List.length_drop, List.length_take]; rfl)) ?_; (with_reducible refine (headers_is.calls ((rd_T55 l0 x11_1).f0) ((rd_T55 l0 x11_1).f1) a1 false _ A6.out).mono ?_); rintro e w16 ⟨rfl, hb⟩; refine ⟨_, rfl, ?_⟩; have n0_ := Aside0.mk (Kd.R_below (by (with_reducible repeat (first | apply Kd.R_alloc | apply Kd.R_drewN | apply Kd.R_drew)); exact (Kd.R_mono (Kd.R_far (p := ⟨gb102, 1, none⟩) (Kd.R_far (p := ⟨gb102, 0, none⟩) (Kd.R_types HO_6.out BK102.out (by decide)) (fun _ hk => hk.2) (.string ((rd_T55 l0 x11_1).f0))) (fun _ hk => hk.2) (.string ((rd_T55 l0 x11_1).f1))) (fun _ h_ => h_.1))) hb); have n1_ := Aside0.mk (blk_below (g := gb102) (o := .cells #[.string ((rd_T55 l0 x11_1).f0), .string ((rd_T55 l0 x11_1).f1)] 55 (0, 0)) (by (with_reducible repeat (first | refine blk_drewN ?_ _ | refine blk_drew ?_ | refine blk_alloc ?_ _)); refine blk_put (cs := #[.string ((rd_T55 l0 x11_1).f0), .string (⟨#[]⟩ : ByteArray)]) ?_ 1 _ rfl; (with_reducible repeat (first | refine blk_drewN ?_ _ | refine blk_drew ?_ | refine blk_alloc ?_ _)); refine blk_put (cs := #[.string (⟨#[]⟩ : ByteArray), .string (⟨#[]⟩ : ByteArray)]) ?_ 0 _ rfl; (with_reducible repeat (first | refine blk_drewN ?_ _ | refine blk_drew ?_ | refine blk_alloc ?_ _)); exact BK102.out) hb); have n2_ := Aside0.mk (below_step (by repeat (first | (with_reducible first | exact HB.out | apply below_alloc | apply pw_below_drewN | apply below_drew1 | refine below_set ?_ GE102.out) | exact HB.out)) hb); clear HO_6; clear BK102; clear HB; have HO_6 := n0_; have BK102 := n1_; have HB := n2_; clear n0_ n1_ n2_; (try clear hb); (try clear hb2); (try clear hk); (try clear hi)))
              go_roundg k1
              case measure => have := HK1.out; omega
              case rel => exact ⟨(x6_1), (wrap64 (x11_1 + 1)), (by first | rfl | (simp; done) | (simp [*]; done)), H', ⟨by have := HK1.out; omega⟩, ⟨by (with_reducible repeat (first | apply Kd.R_alloc | apply Kd.R_drewN | apply Kd.R_drew)); exact HO_6.out⟩, ⟨by repeat (first | (with_reducible first | exact HB.out | apply below_alloc | apply pw_below_drewN | apply below_drew1 | refine below_set ?_ GE102.out) | exact HB.out)⟩⟩
          · rw [if_neg c5] at H
            exact absurd H (by simp)
        · rw [if_neg c4] at H
          exact absurd H (by simp)
      · rw [if_neg c3] at H
        have c3b0 : decide (x11_1 < (l0.length : Int)) = false := decide_eq_false c3
        clear c3
        replace H := Option.bind_eq_some_iff.mp H
        obtain ⟨t107, A170, H⟩ := H
        replace H : (some (t107, decide ((x6_1.length : Int) > 0))) = some (r1, r2) := H
        have A17 := Aside0.mk A170
        clear A170
        simp only [Option.some.injEq, Prod.mk.injEq] at H
        obtain ⟨rfl, rfl⟩ := H
        obtain ⟨Ao18, co18, eo18⟩ := Kd.R_slice HO_6.out
        subst eo18
        go_wp2_with (first | ((with_reducible refine gate_callee (f := 141) rfl ?_); refine goesL_ (some 25) rfl rfl Tryz.func141 (by kernel_rfl) rfl #[.slice Ao18 x6_1.length co18, .string (⟨#[44, 32]⟩ : ByteArray)] rfl (by (try simp only [List.map_toArray, List.map_cons, List.map_nil]); first | done | rfl | (simp only [List.length_drop, List.length_take]; rfl)) ?_; (with_reducible refine (strings_Join.calls _ _ x6_1 (⟨#[44, 32]⟩ : ByteArray) t107 _ ?side1 ?side2 A17.out).mono ?_); (case side1 => repeat (first | exact (Kd.R_reads' HO_6.out).2.2 | (with_reducible refine Kd.C_alloc ?_ _) | (with_reducible refine Kd.C_drewN ?_ _) | (with_reducible refine Kd.C_drew ?_))); (case side2 => exact (Kd.R_reads' HO_6.out).2.1); rintro e w19 ⟨rfl, hb⟩; refine ⟨_, rfl, ?_⟩; have n0_ := Aside0.mk (Kd.R_below (by (with_reducible repeat (first | apply Kd.R_alloc | apply Kd.R_drewN | apply Kd.R_drew)); exact HO_6.out) hb); have n1_ := Aside0.mk (below_step (by repeat (first | (with_reducible first | exact HB.out | apply below_alloc | apply pw_below_drewN | apply below_drew1) | exact HB.out)) hb); clear HO_6; clear HB; have HO_6 := n0_; have HB := n1_; clear n0_ n1_; (try clear hb); (try clear hb2); (try clear hk); (try clear hi)))
        go_ret2
        exact ⟨by first | rfl | (simp [errW_none, errW_some] <;> rfl) | (simp [*, errW_none, errW_some] <;> rfl), by repeat (first | (with_reducible first | exact HB.out | apply below_alloc | apply pw_below_drewN | apply below_drew1) | exact HB.out)⟩
end Go.Proofs.YteehjlciajhdoaaGreatDoor.X
namespace Go.Proofs.YteehjlciajhdoaaGreatDoor.X
open Go.RowKit Go.Proofs.YteehjlciajhdoaaGreatDoorW.PrintWords Go.Proofs.YteehjlciajhdoaaGreatDoorW.PrintLast Go.Proofs.YteehjlciajhdoaaGreatDoorW.PrintMore
attribute [local go_sem] max2_int min2_int max_two min_two max_three min_three max_four min_four
set_option linter.unusedVariables false
set_option linter.unusedSimpArgs false
mutual
def headers_Split.l0 : Nat → ByteArray → List ByteArray → Bool → Int → Int → Option (List ByteArray × Bool)
  | 0, _, _, _, _, _ => none
  | k + 1, x6, x8, x9, x10, x11 => if x11 < (x6.size : Int) then (if 0 ≤ x11 then (if (bt x6 x11) = 34 then (headers_Split.l0 k x6 x8 (!x9) x10 (wrap64 (x11 + 1))) else (if x9 = true then (headers_Split.j1 k x6 x8 x9 x10 x11 ((bt x6 x11) == 92)) else (headers_Split.j1 k x6 x8 x9 x10 x11 false))) else (none)) else (if 0 ≤ x10 then (if x10 ≤ (x6.size : Int) then ((strings_Trim.f (x6.extract (x10 : Int).toNat x6.size) (⟨#[9, 32]⟩ : ByteArray)).bind fun t103 => (if x8.length < 8796093022208 then (some ((x8 ++ [t103]), true)) else (none))) else (none)) else (none))
def headers_Split.j1 : Nat → ByteArray → List ByteArray → Bool → Int → Int → Bool → Option (List ByteArray × Bool)
  | 0, _, _, _, _, _, _ => none
  | k + 1, x6, x8, x9, x10, x11, x33 => if x33 = true then (headers_Split.l0 k x6 x8 x9 x10 (wrap64 ((wrap64 (x11 + 1)) + 1))) else (if x9 = true then (headers_Split.l0 k x6 x8 x9 x10 (wrap64 (x11 + 1))) else (if 0 ≤ x11 then (if x11 < (x6.size : Int) then (if (bt x6 x11) = 44 then (if 0 ≤ x10 then (if x10 ≤ x11 then (if x11 ≤ (x6.size : Int) then ((strings_Trim.f (x6.extract (x10 : Int).toNat (x11 : Int).toNat) (⟨#[9, 32]⟩ : ByteArray)).bind fun t107 => (if x8.length < 8796093022208 then (headers_Split.l0 k x6 (x8 ++ [t107]) x9 (wrap64 (x11 + 1)) (wrap64 (x11 + 1))) else (none))) else (none)) else (none)) else (none)) else (headers_Split.l0 k x6 x8 x9 x10 (wrap64 (x11 + 1)))) else (none)) else (none)))
end
def headers_Split.f (k : Nat) (l0 : List (S55)) (a1 : ByteArray) : Option (List ByteArray × Bool) := (headers_Get.f k l0 a1).bind fun bt101 => (if bt101.2 = true then (headers_Split.l0 k bt101.1 ([] : List ByteArray) false 0 0) else (some (([] : List ByteArray), false)))
theorem headers_Split.mono_l : ∀ k, (∀ y0 y1 y2 y3 y4, LeO (headers_Split.l0 k y0 y1 y2 y3 y4) (headers_Split.l0 (k + 1) y0 y1 y2 y3 y4)) ∧ (∀ y0 y1 y2 y3 y4 y5, LeO (headers_Split.j1 k y0 y1 y2 y3 y4 y5) (headers_Split.j1 (k + 1) y0 y1 y2 y3 y4 y5))
  | 0 => ⟨fun _ _ _ _ _ r h => by simp [headers_Split.l0] at h, fun _ _ _ _ _ _ r h => by simp [headers_Split.j1] at h⟩
  | k + 1 => by
    obtain ⟨ih0, ih1⟩ := headers_Split.mono_l k
    refine ⟨?_, ?_⟩
    · intro y0 y1 y2 y3 y4
      unfold headers_Split.l0
      repeat' first
      | (with_reducible exact ih0 _ _ _ _ _)
      | (with_reducible exact ih1 _ _ _ _ _ _)
      | (with_reducible exact headers_Get.mono _ _ _)
      | (with_reducible exact LeO.refl _)
      | (with_reducible exact LeO.none _)
      | (with_reducible refine LeO.ite ?_ ?_)
      | (with_reducible refine LeO.bind ?_ (fun _ => ?_))
      | exact ih0 _ _ _ _ _
      | exact ih1 _ _ _ _ _ _
      | exact headers_Get.mono _ _ _
      | exact LeO.none _
      | refine LeO.ite ?_ ?_
      | refine LeO.bind ?_ (fun _ => ?_)
    · intro y0 y1 y2 y3 y4 y5
      unfold headers_Split.j1
      repeat' first
      | (with_reducible exact ih0 _ _ _ _ _)
      | (with_reducible exact ih1 _ _ _ _ _ _)
      | (with_reducible exact headers_Get.mono _ _ _)
      | (with_reducible exact LeO.refl _)
      | (with_reducible exact LeO.none _)
      | (with_reducible refine LeO.ite ?_ ?_)
      | (with_reducible refine LeO.bind ?_ (fun _ => ?_))
      | exact ih0 _ _ _ _ _
      | exact ih1 _ _ _ _ _ _
      | exact headers_Get.mono _ _ _
      | exact LeO.none _
      | refine LeO.ite ?_ ?_
      | refine LeO.bind ?_ (fun _ => ?_)
theorem headers_Split.mono : ∀ a0 a1 k, LeO (headers_Split.f k a0 a1) (headers_Split.f (k + 1) a0 a1) := by
  intro a0 a1 k
  obtain ⟨ih0, ih1⟩ := headers_Split.mono_l k
  unfold headers_Split.f
  repeat' first
      | (with_reducible exact ih0 _ _ _ _ _)
      | (with_reducible exact ih1 _ _ _ _ _ _)
      | (with_reducible exact headers_Get.mono _ _ _)
      | (with_reducible exact LeO.refl _)
      | (with_reducible exact LeO.none _)
      | (with_reducible refine LeO.ite ?_ ?_)
      | (with_reducible refine LeO.bind ?_ (fun _ => ?_))
      | exact ih0 _ _ _ _ _
      | exact ih1 _ _ _ _ _ _
      | exact headers_Get.mono _ _ _
      | exact LeO.none _
      | refine LeO.ite ?_ ?_
      | refine LeO.bind ?_ (fun _ => ?_)
set_option maxHeartbeats 8000000 in
set_option maxRecDepth 100000 in
theorem headers_Split.calls (k : Nat) (A0 : Option Addr) (c0 : Nat) (l0 : List (S55)) (a1 : ByteArray) (r1 : List ByteArray) (r2 : Bool) (w : World) (hr0 : Kd.C k55 w A0 l0.length l0) (hc0 : l0.length ≤ c0) (h : headers_Split.f k l0 a1 = some (r1, r2)) :
    Calls Tryz.prog 39 #[.slice A0 l0.length c0, .string a1] w fun e w' => ∃ v0_ : Value, e = .returned (.tuple #[v0_, .bool r2]) ∧ Kd.R Kd.string 9 w' w.heap.size (fun _ => True) v0_ r1 ∧ Below w.heap.size w w' := by
  have HR0 := Aside0.mk hr0
  have HC0 := Aside0.mk hc0
  clear hr0 hc0
  have HB := Aside0.mk (Below.refl w.heap.size w)
  have H : ((headers_Get.f k l0 a1).bind fun bt101 => (if bt101.2 = true then (headers_Split.l0 k bt101.1 ([] : List ByteArray) false 0 0) else (some (([] : List ByteArray), false)))) = some (r1, r2) := h
  clear h
  replace H := Option.bind_eq_some_iff.mp H
  obtain ⟨⟨t101, t102⟩, A30, H⟩ := H
  replace H : (if t102 = true then (headers_Split.l0 k t101 ([] : List ByteArray) false 0 0) else (some (([] : List ByteArray), false))) = some (r1, r2) := H
  have A3 := Aside0.mk A30
  clear A30
  by_cases c4 : t102 = true
  · subst c4
    have H1 : (headers_Split.l0 k t101 ([] : List ByteArray) false 0 0) = some (r1, r2) := by rw [if_pos rfl] at H; exact H
    clear H
    have H := H1
    clear H1
    have H' := Aside0.mk H
    clear H
    go_enter Tryz.func39, Tryz.ntmps39
    go_wp2_with (first | ((with_reducible refine gate_callee (f := 87) rfl ?_); refine goesL_ (some 15) rfl rfl Tryz.func87 (by kernel_rfl) rfl #[.slice A0 l0.length c0, .string a1] rfl (by (try simp only [List.map_toArray, List.map_cons, List.map_nil]); first | done | rfl | (simp only [List.length_drop, List.length_take]; rfl)) ?_; (with_reducible refine (headers_Get.calls k _ _ l0 a1 t101 true _ ?side1 ?side2 A3.out).mono ?_); (case side1 => repeat (first | exact HR0.out | (with_reducible refine Kd.C_alloc ?_ _) | (with_reducible refine Kd.C_drewN ?_ _) | (with_reducible refine Kd.C_drew ?_))); (case side2 => exact HC0.out); rintro e w5 ⟨rfl, hb⟩; refine ⟨_, rfl, ?_⟩; have n0_ := Aside0.mk (below_step (by repeat (first | (with_reducible first | exact HB.out | apply below_alloc | apply pw_below_drewN | apply below_drew1) | exact HB.out)) hb); clear HB; have HB := n0_; clear n0_; (try clear hb); (try clear hb2); (try clear hk); (try clear hi)))
    go_loopg [8, 9, 10, 11] k (fun kq v8 v9 v10 v11 w' => ∃ (x8_1 : List ByteArray) (x9_1 : Bool) (x10_1 : Int) (x11_1 : Int), v9 = .bool x9_1 ∧ v10 = .int .i64 x10_1 ∧ v11 = .int .i64 x11_1 ∧ Aside0 (headers_Split.l0 kq t101 x8_1 x9_1 x10_1 x11_1 = some (r1, r2)) ∧ Aside0 (kq ≤ k) ∧ Aside0 (Kd.R Kd.string 9 w' w.heap.size (fun _ => True) v8 x8_1) ∧ Aside0 (Below w.heap.size w w'))
    case atStart => exact ⟨(([] : List ByteArray)), (false), (0), (0), (by first | rfl | (simp; done) | (simp [*]; done)), (by first | rfl | (simp; done) | (simp [*]; done)), (by first | rfl | (simp; done) | (simp [*]; done)), H', ⟨Nat.le_refl _⟩, ⟨by first | exact Kd.R_nil _ _ _ _ _ | exact Kd.N_nil _ _ _ _ _ | exact Kd.V_nil _ _ _ _ _ | exact Kd.Q_nil _ _ _ _ _ | exact Kd.S_nil _ _ _ _ _⟩, ⟨by repeat (first | (with_reducible first | exact HB.out | apply below_alloc | apply pw_below_drewN | apply below_drew1) | exact HB.out)⟩⟩
    case round =>
      clear H'
      try clear p2
      try clear c3
      try clear c4
      obtain ⟨x8_1, x9_1, x10_1, x11_1, rfl, rfl, rfl, HA, HK1, HO_8, HB⟩ := hrel
      cases gk with
      | zero => exact absurd HA.out (by simp [headers_Split.l0])
      | succ k1 =>
        have H := HA.out
        clear HA
        simp only [headers_Split.l0] at H
        by_cases c6 : x11_1 < (t101.size : Int)
        · rw [if_pos c6] at H
          have c6b0 : decide (x11_1 < (t101.size : Int)) = true := decide_eq_true c6
          clear c6
          by_cases c7 : 0 ≤ x11_1
          · rw [if_pos c7] at H
            have c7b0 : decide (0 ≤ x11_1) = true := decide_eq_true c7
            clear c7
            by_cases c9 : (bt t101 x11_1) = 34
            · rw [if_pos c9] at H
              have c9b0 : ((bt t101 x11_1) == 34) = true := beq_iff_eq.mpr c9
              have c9b1 : ((bt t101 x11_1) != 34) = false := bne_eq_false_iff_eq.mpr c9
              clear c9
              have H' := Aside0.mk H
              clear H
              have p8 : 0 ≤ (x11_1 : Int) := of_decide_eq_true (by first | (with_reducible assumption) | assumption)
              have q8 : x11_1 < (t101.size : Int) := of_decide_eq_true (by first | (with_reducible assumption) | assumption)
              have hx8 := bt_at t101 x11_1
              replace p8 := eq_true p8
              replace q8 := eq_true q8
              go_wp2
              go_roundg k1
              case measure => have := HK1.out; omega
              case rel => exact ⟨(x8_1), (!x9_1), (x10_1), (wrap64 (x11_1 + 1)), (by first | rfl | (simp; done) | (simp [*]; done)), (by first | rfl | (simp; done) | (simp [*]; done)), (by first | rfl | (simp; done) | (simp [*]; done)), H', ⟨by have := HK1.out; omega⟩, ⟨by (with_reducible repeat (first | apply Kd.R_alloc | apply Kd.R_drewN | apply Kd.R_drew)); exact HO_8.out⟩, ⟨by repeat (first | (with_reducible first | exact HB.out | apply below_alloc | apply pw_below_drewN | apply below_drew1) | exact HB.out)⟩⟩
            · rw [if_neg c9] at H
              have c9b0 : ((bt t101 x11_1) == 34) = false := beq_eq_false_iff_ne.mpr c9
              have c9b1 : ((bt t101 x11_1) != 34) = true := bne_iff_ne.mpr c9
              have HC10 := Aside0.mk H
              clear H
              have p8 : 0 ≤ (x11_1 : Int) := of_decide_eq_true (by first | (with_reducible assumption) | assumption)
              have q8 : x11_1 < (t101.size : Int) := of_decide_eq_true (by first | (with_reducible assumption) | assumption)
              have hx8 := bt_at t101 x11_1
              replace p8 := eq_true p8
              replace q8 := eq_true q8
              go_upto_region 11 with (fail)
              go_cut [33] (fun v33 wc => ∃ (kq : Nat) (x33_9 : Bool), v33 = .bool x33_9 ∧ Aside0 (headers_Split.j1 kq t101 x8_1 x9_1 x10_1 x11_1 x33_9 = some (r1, r2)) ∧ Aside0 (kq ≤ k1) ∧ Aside0 (Kd.R Kd.string 9 wc w.heap.size (fun _ => True) u8 x8_1) ∧ Aside0 (Below w.heap.size w wc))
              case first =>
                have H := HC10.out
                clear HC10
                by_cases c11 : x9_1 = true
                · subst c11
                  have H1 : (headers_Split.j1 k1 t101 x8_1 true x10_1 x11_1 ((bt t101 x11_1) == 92)) = some (r1, r2) := by rw [if_pos rfl] at H; exact H
                  clear H
                  have H := H1
                  clear H1
                  have H' := Aside0.mk H
                  clear H
                  have p12 : 0 ≤ (x11_1 : Int) := of_decide_eq_true (by first | (with_reducible assumption) | assumption)
                  have q12 : x11_1 < (t101.size : Int) := of_decide_eq_true (by first | (with_reducible assumption) | assumption)
                  have hx12 := bt_at t101 x11_1
                  replace p12 := eq_true p12
                  replace q12 := eq_true q12
                  go_wp2
                  go_meet
                  case rel => exact ⟨_, (((bt t101 x11_1) == 92)), (by first | rfl | (simp; done) | (simp [*]; done)), H', ⟨by have := HK1.out; first | omega | exact Nat.le_refl _⟩, ⟨by (with_reducible repeat (first | apply Kd.R_alloc | apply Kd.R_drewN | apply Kd.R_drew)); exact HO_8.out⟩, ⟨by repeat (first | (with_reducible first | exact HB.out | apply below_alloc | apply pw_below_drewN | apply below_drew1) | exact HB.out)⟩⟩
                · replace c11 := Bool.eq_false_iff.mpr c11
                  subst c11
                  have H1 : (headers_Split.j1 k1 t101 x8_1 false x10_1 x11_1 false) = some (r1, r2) := by rw [if_neg (show ¬ (false = true) by decide)] at H; exact H
                  clear H
                  have H := H1
                  clear H1
                  have H' := Aside0.mk H
                  clear H
                  go_wp2
                  go_meet
                  case rel => exact ⟨_, (false), (by first | rfl | (simp; done) | (simp [*]; done)), H', ⟨by have := HK1.out; first | omega | exact Nat.le_refl _⟩, ⟨by (with_reducible repeat (first | apply Kd.R_alloc | apply Kd.R_drewN | apply Kd.R_drew)); exact HO_8.out⟩, ⟨by repeat (first | (with_reducible first | exact HB.out | apply below_alloc | apply pw_below_drewN | apply below_drew1) | exact HB.out)⟩⟩
              case rest =>
                clear HC10
                try clear c1
                try clear p1
                try clear q1
                try clear hx1
                try clear p2
                try clear c3
                try clear c4
                try clear c6
                try clear c6b0
                try clear p6
                try clear c7
                try clear c7b0
                try clear c8
                try clear p8
                try clear q8
                try clear hx8
                try clear c9
                try clear c9b0
                try clear c9b1
                try clear c11
                try clear p12
                try clear q12
                try clear hx12
                try clear p12
                try clear p2
                try clear p8
                try clear q12
                try clear q8
                obtain ⟨kq, x33_9, rfl, HA, HJ9, HO_8, HB⟩ := hcut
                cases kq with
                | zero => exact absurd HA.out (by simp [headers_Split.j1])
                | succ kj9 =>
                  have H := HA.out
                  clear HA
                  simp only [headers_Split.j1] at H
                  by_cases c13 : x33_9 = true
                  · subst c13
                    have H1 : (headers_Split.l0 kj9 t101 x8_1 x9_1 x10_1 (wrap64 ((wrap64 (x11_1 + 1)) + 1))) = some (r1, r2) := by rw [if_pos rfl] at H; exact H
                    clear H
                    have H := H1
                    clear H1
                    have H' := Aside0.mk H
                    clear H
                    go_wp2
                    go_roundg kj9
                    case measure => have := HK1.out; have := HJ9.out; omega
                    case rel => exact ⟨(x8_1), (x9_1), (x10_1), (wrap64 ((wrap64 (x11_1 + 1)) + 1)), (by first | rfl | (simp; done) | (simp [*]; done)), (by first | rfl | (simp; done) | (simp [*]; done)), (by first | rfl | (simp; done) | (simp [*]; done)), H', ⟨by have := HK1.out; have := HJ9.out; omega⟩, ⟨by (with_reducible repeat (first | apply Kd.R_alloc | apply Kd.R_drewN | apply Kd.R_drew)); exact HO_8.out⟩, ⟨by repeat (first | (with_reducible first | exact HB.out | apply below_alloc | apply pw_below_drewN | apply below_drew1) | exact HB.out)⟩⟩
                  · replace c13 := Bool.eq_false_iff.mpr c13
                    subst c13
                    have H1 : (if x9_1 = true then (headers_Split.l0 kj9 t101 x8_1 x9_1 x10_1 (wrap64 (x11_1 + 1))) else (if 0 ≤ x11_1 then (if x11_1 < (t101.size : Int) then (if (bt t101 x11_1) = 44 then (if 0 ≤ x10_1 then (if x10_1 ≤ x11_1 then (if x11_1 ≤ (t101.size : Int) then ((strings_Trim.f (t101.extract (x10_1 : Int).toNat (x11_1 : Int).toNat) (⟨#[9, 32]⟩ : ByteArray)).bind fun t107 => (if x8_1.length < 8796093022208 then (headers_Split.l0 kj9 t101 (x8_1 ++ [t107]) x9_1 (wrap64 (x11_1 + 1)) (wrap64 (x11_1 + 1))) else (none))) else (none)) else (none)) else (none)) else (headers_Split.l0 kj9 t101 x8_1 x9_1 x10_1 (wrap64 (x11_1 + 1)))) else (none)) else (none))) = some (r1, r2) := by rw [if_neg (show ¬ (false = true) by decide)] at H; exact H
                    clear H
                    have H := H1
                    clear H1
                    by_cases c14 : x9_1 = true
                    · subst c14
                      have H1 : (headers_Split.l0 kj9 t101 x8_1 true x10_1 (wrap64 (x11_1 + 1))) = some (r1, r2) := by rw [if_pos rfl] at H; exact H
                      clear H
                      have H := H1
                      clear H1
                      have H' := Aside0.mk H
                      clear H
                      go_wp2
                      go_roundg kj9
                      case measure => have := HK1.out; have := HJ9.out; omega
                      case rel => exact ⟨(x8_1), (true), (x10_1), (wrap64 (x11_1 + 1)), (by first | rfl | (simp; done) | (simp [*]; done)), (by first | rfl | (simp; done) | (simp [*]; done)), (by first | rfl | (simp; done) | (simp [*]; done)), H', ⟨by have := HK1.out; have := HJ9.out; omega⟩, ⟨by (with_reducible repeat (first | apply Kd.R_alloc | apply Kd.R_drewN | apply Kd.R_drew)); exact HO_8.out⟩, ⟨by repeat (first | (with_reducible first | exact HB.out | apply below_alloc | apply pw_below_drewN | apply below_drew1) | exact HB.out)⟩⟩
                    · replace c14 := Bool.eq_false_iff.mpr c14
                      subst c14
                      have H1 : (if 0 ≤ x11_1 then (if x11_1 < (t101.size : Int) then (if (bt t101 x11_1) = 44 then (if 0 ≤ x10_1 then (if x10_1 ≤ x11_1 then (if x11_1 ≤ (t101.size : Int) then ((strings_Trim.f (t101.extract (x10_1 : Int).toNat (x11_1 : Int).toNat) (⟨#[9, 32]⟩ : ByteArray)).bind fun t107 => (if x8_1.length < 8796093022208 then (headers_Split.l0 kj9 t101 (x8_1 ++ [t107]) false (wrap64 (x11_1 + 1)) (wrap64 (x11_1 + 1))) else (none))) else (none)) else (none)) else (none)) else (headers_Split.l0 kj9 t101 x8_1 false x10_1 (wrap64 (x11_1 + 1)))) else (none)) else (none)) = some (r1, r2) := by rw [if_neg (show ¬ (false = true) by decide)] at H; exact H
                      clear H
                      have H := H1
                      clear H1
                      by_cases c15 : 0 ≤ x11_1
                      · rw [if_pos c15] at H
                        have c15b0 : decide (0 ≤ x11_1) = true := decide_eq_true c15
                        clear c15
                        by_cases c16 : x11_1 < (t101.size : Int)
                        · rw [if_pos c16] at H
                          have c16b0 : decide (x11_1 < (t101.size : Int)) = true := decide_eq_true c16
                          clear c16
                          by_cases c18 : (bt t101 x11_1) = 44
                          · rw [if_pos c18] at H
                            have c18b0 : ((bt t101 x11_1) == 44) = true := beq_iff_eq.mpr c18
                            have c18b1 : ((bt t101 x11_1) != 44) = false := bne_eq_false_iff_eq.mpr c18
                            clear c18
                            by_cases c19 : 0 ≤ x10_1
                            · rw [if_pos c19] at H
                              have c19b0 := eq_true c19
                              have c19b1 : decide (0 ≤ x10_1) = true := decide_eq_true c19
                              clear c19
                              by_cases c20 : x10_1 ≤ x11_1
                              · rw [if_pos c20] at H
                                have c20b0 := eq_true c20
                                have c20b1 : decide (x10_1 ≤ x11_1) = true := decide_eq_true c20
                                clear c20
                                by_cases c21 : x11_1 ≤ (t101.size : Int)
                                · rw [if_pos c21] at H
                                  have c21b0 := eq_true c21
                                  have c21b1 : decide (x11_1 ≤ (t101.size : Int)) = true := decide_eq_true c21
                                  clear c21
                                  replace H := Option.bind_eq_some_iff.mp H
                                  obtain ⟨t107, A220, H⟩ := H
                                  replace H : (if x8_1.length < 8796093022208 then (headers_Split.l0 kj9 t101 (x8_1 ++ [t107]) false (wrap64 (x11_1 + 1)) (wrap64 (x11_1 + 1))) else (none)) = some (r1, r2) := H
                                  have A22 := Aside0.mk A220
                                  clear A220
                                  by_cases c23 : x8_1.length < 8796093022208
                                  · rw [if_pos c23] at H
                                    have LMc23 := Aside0.mk c23
                                    clear c23
                                    obtain ⟨y108, hy108⟩ : ∃ y_ : List ByteArray, y_ = (x8_1 ++ [t107]) := ⟨_, rfl⟩
                                    replace H : (headers_Split.l0 kj9 t101 y108 false (wrap64 (x11_1 + 1)) (wrap64 (x11_1 + 1))) = some (r1, r2) := by first | (rw [hy108]; with_reducible exact H) | (have H2_ := (Option.bind_some _ _).symm.trans H; rw [hy108]; with_reducible exact H2_) | (have H2_ := (Option.bind_some _ _).symm.trans H; with_reducible exact H2_) | with_reducible exact H | (rw [hy108]; exact H) | exact H
                                    have Ny108 := Aside0.mk hy108
                                    clear hy108
                                    have H' := Aside0.mk H
                                    clear H
                                    have p17 : 0 ≤ (x11_1 : Int) := of_decide_eq_true (by first | (with_reducible assumption) | assumption)
                                    have q17 : x11_1 < (t101.size : Int) := of_decide_eq_true (by first | (with_reducible assumption) | assumption)
                                    have hx17 := bt_at t101 x11_1
                                    replace p17 := eq_true p17
                                    replace q17 := eq_true q17
                                    go_wp2_with (first | ((with_reducible refine gate_callee (f := 61) rfl ?_); refine goesL_ (some 57) rfl rfl Tryz.func61 (by kernel_rfl) rfl #[.string (t101.extract (x10_1 : Int).toNat (x11_1 : Int).toNat), .string (⟨#[9, 32]⟩ : ByteArray)] rfl (by (try simp only [List.map_toArray, List.map_cons, List.map_nil]); first | done | rfl | (simp only [List.length_drop, List.length_take]; rfl)) ?_; (with_reducible refine (strings_Trim.calls (t101.extract (x10_1 : Int).toNat (x11_1 : Int).toNat) (⟨#[9, 32]⟩ : ByteArray) t107 _ A22.out).mono ?_); rintro e w24 ⟨rfl, hb⟩; refine ⟨_, rfl, ?_⟩; have n0_ := Aside0.mk (Kd.R_below (by (with_reducible repeat (first | apply Kd.R_alloc | apply Kd.R_drewN | apply Kd.R_drew)); exact HO_8.out) hb); have n1_ := Aside0.mk (below_step (by repeat (first | (with_reducible first | exact HB.out | apply below_alloc | apply pw_below_drewN | apply below_drew1) | exact HB.out)) hb); clear HO_8; clear HB; have HO_8 := n0_; have HB := n1_; clear n0_ n1_; (try clear hb); (try clear hb2); (try clear hk); (try clear hi)) | ((with_reducible refine gate_builtin (b := .append) (xs := #[.tmp 52, .tmp 58]) rfl ?_); at_builtin; refine Kd.R_append Kd.string (w0 := w) w.heap.size rfl (.tmp 52) (.tmp 58) 68 9 (.string ⟨#[]⟩) 16 rfl Tryz.underlying68 info9 rfl (by decide) (by omega) u8 x8_1 t107 [.string t107] (fun _ => True) (fun _ => False) rfl rfl ?aP (fun _ hk => hk.elim) ?aF ?aO ?aB ?aS ?aL ?_; (case aP => exact rfl); (case aB => exact (by repeat (first | (with_reducible first | exact HB.out | apply below_alloc | apply pw_below_drewN | apply below_drew1) | exact HB.out))); (case aF => exact (fun _ _ => trivial)); (case aO => exact (by (with_reducible repeat (first | apply Kd.R_alloc | apply Kd.R_drewN | apply Kd.R_drew)); exact HO_8.out)); (case aS => exact (below_size (by repeat (first | (with_reducible first | exact HB.out | apply below_alloc | apply pw_below_drewN | apply below_drew1) | exact HB.out)))); (case aL => have := LMc23.out; omega); intro v109 w25 ho hb hg hat; rw [← Ny108.out] at ho; have n0_ := Aside0.mk (hb); have n1_ := Aside0.mk (ho); clear HB; clear HO_8; have HB := n0_; have HO110 := n1_; clear n0_ n1_; clear ho hb hg hat))
                                    go_roundg kj9
                                    case measure => have := HK1.out; have := HJ9.out; omega
                                    case rel => exact ⟨(y108), (false), (wrap64 (x11_1 + 1)), (wrap64 (x11_1 + 1)), (by first | rfl | (simp; done) | (simp [*]; done)), (by first | rfl | (simp; done) | (simp [*]; done)), (by first | rfl | (simp; done) | (simp [*]; done)), H', ⟨by have := HK1.out; have := HJ9.out; omega⟩, ⟨by (with_reducible repeat (first | apply Kd.R_alloc | apply Kd.R_drewN | apply Kd.R_drew)); exact HO110.out⟩, ⟨by repeat (first | (with_reducible first | exact HB.out | apply below_alloc | apply pw_below_drewN | apply below_drew1) | exact HB.out)⟩⟩
                                  · rw [if_neg c23] at H
                                    exact absurd H (by simp)
                                · rw [if_neg c21] at H
                                  exact absurd H (by simp)
                              · rw [if_neg c20] at H
                                exact absurd H (by simp)
                            · rw [if_neg c19] at H
                              exact absurd H (by simp)
                          · rw [if_neg c18] at H
                            have c18b0 : ((bt t101 x11_1) == 44) = false := beq_eq_false_iff_ne.mpr c18
                            have c18b1 : ((bt t101 x11_1) != 44) = true := bne_iff_ne.mpr c18
                            have H' := Aside0.mk H
                            clear H
                            have p17 : 0 ≤ (x11_1 : Int) := of_decide_eq_true (by first | (with_reducible assumption) | assumption)
                            have q17 : x11_1 < (t101.size : Int) := of_decide_eq_true (by first | (with_reducible assumption) | assumption)
                            have hx17 := bt_at t101 x11_1
                            replace p17 := eq_true p17
                            replace q17 := eq_true q17
                            go_wp2
                            go_roundg kj9
                            case measure => have := HK1.out; have := HJ9.out; omega
                            case rel => exact ⟨(x8_1), (false), (x10_1), (wrap64 (x11_1 + 1)), (by first | rfl | (simp; done) | (simp [*]; done)), (by first | rfl | (simp; done) | (simp [*]; done)), (by first | rfl | (simp; done) | (simp [*]; done)), H', ⟨by have := HK1.out; have := HJ9.out; omega⟩, ⟨by (with_reducible repeat (first | apply Kd.R_alloc | apply Kd.R_drewN | apply Kd.R_drew)); exact HO_8.out⟩, ⟨by repeat (first | (with_reducible first | exact HB.out | apply below_alloc | apply pw_below_drewN | apply below_drew1) | exact HB.out)⟩⟩
                        · rw [if_neg c16] at H
                          exact absurd H (by simp)
                      · rw [if_neg c15] at H
                        exact absurd H (by simp)
          · rw [if_neg c7] at H
            exact absurd H (by simp)
        · rw [if_neg c6] at H
          have c6b0 : decide (x11_1 < (t101.size : Int)) = false := decide_eq_false c6
          clear c6
          by_cases c26 : 0 ≤ x10_1
          · rw [if_pos c26] at H
            have c26b0 := eq_true c26
            have c26b1 : decide (0 ≤ x10_1) = true := decide_eq_true c26
            clear c26
            by_cases c27 : x10_1 ≤ (t101.size : Int)
            · rw [if_pos c27] at H
              have c27b0 := eq_true c27
              have c27b1 : decide (x10_1 ≤ (t101.size : Int)) = true := decide_eq_true c27
              clear c27
              replace H := Option.bind_eq_some_iff.mp H
              obtain ⟨t103, A280, H⟩ := H
              replace H : (if x8_1.length < 8796093022208 then (some ((x8_1 ++ [t103]), true)) else (none)) = some (r1, r2) := H
              have A28 := Aside0.mk A280
              clear A280
              by_cases c29 : x8_1.length < 8796093022208
              · rw [if_pos c29] at H
                have LMc29 := Aside0.mk c29
                clear c29
                obtain ⟨y104, hy104⟩ : ∃ y_ : List ByteArray, y_ = (x8_1 ++ [t103]) := ⟨_, rfl⟩
                replace H : (some (y104, true)) = some (r1, r2) := by first | (rw [hy104]; with_reducible exact H) | (have H2_ := (Option.bind_some _ _).symm.trans H; rw [hy104]; with_reducible exact H2_) | (have H2_ := (Option.bind_some _ _).symm.trans H; with_reducible exact H2_) | with_reducible exact H | (rw [hy104]; exact H) | exact H
                have Ny104 := Aside0.mk hy104
                clear hy104
                simp only [Option.some.injEq, Prod.mk.injEq] at H
                obtain ⟨rfl, rfl⟩ := H
                go_wp2_with (first | ((with_reducible refine gate_callee (f := 61) rfl ?_); refine goesL_ (some 66) rfl rfl Tryz.func61 (by kernel_rfl) rfl #[.string (t101.extract (x10_1 : Int).toNat t101.size), .string (⟨#[9, 32]⟩ : ByteArray)] rfl (by (try simp only [List.map_toArray, List.map_cons, List.map_nil]); first | done | rfl | (simp only [List.length_drop, List.length_take]; rfl)) ?_; (with_reducible refine (strings_Trim.calls (t101.extract (x10_1 : Int).toNat t101.size) (⟨#[9, 32]⟩ : ByteArray) t103 _ A28.out).mono ?_); rintro e w30 ⟨rfl, hb⟩; refine ⟨_, rfl, ?_⟩; have n0_ := Aside0.mk (Kd.R_below (by (with_reducible repeat (first | apply Kd.R_alloc | apply Kd.R_drewN | apply Kd.R_drew)); exact HO_8.out) hb); have n1_ := Aside0.mk (below_step (by repeat (first | (with_reducible first | exact HB.out | apply below_alloc | apply pw_below_drewN | apply below_drew1) | exact HB.out)) hb); clear HO_8; clear HB; have HO_8 := n0_; have HB := n1_; clear n0_ n1_; (try clear hb); (try clear hb2); (try clear hk); (try clear hi)) | ((with_reducible refine gate_builtin (b := .append) (xs := #[.tmp 62, .tmp 67]) rfl ?_); at_builtin; refine Kd.R_append Kd.string (w0 := w) w.heap.size rfl (.tmp 62) (.tmp 67) 68 9 (.string ⟨#[]⟩) 16 rfl Tryz.underlying68 info9 rfl (by decide) (by omega) u8 x8_1 t103 [.string t103] (fun _ => True) (fun _ => False) rfl rfl ?aP (fun _ hk => hk.elim) ?aF ?aO ?aB ?aS ?aL ?_; (case aP => exact rfl); (case aB => exact (by repeat (first | (with_reducible first | exact HB.out | apply below_alloc | apply pw_below_drewN | apply below_drew1) | exact HB.out))); (case aF => exact (fun _ _ => trivial)); (case aO => exact (by (with_reducible repeat (first | apply Kd.R_alloc | apply Kd.R_drewN | apply Kd.R_drew)); exact HO_8.out)); (case aS => exact (below_size (by repeat (first | (with_reducible first | exact HB.out | apply below_alloc | apply pw_below_drewN | apply below_drew1) | exact HB.out)))); (case aL => have := LMc29.out; omega); intro v105 w31 ho hb hg hat; rw [← Ny104.out] at ho; have n0_ := Aside0.mk (hb); have n1_ := Aside0.mk (ho); clear HB; clear HO_8; have HB := n0_; have HO106 := n1_; clear n0_ n1_; clear ho hb hg hat))
                go_ret2
                exact ⟨_, by first | rfl | (simp [errW_none, errW_some] <;> rfl) | (simp [*, errW_none, errW_some] <;> rfl), by (with_reducible repeat (first | apply Kd.R_alloc | apply Kd.R_drewN | apply Kd.R_drew)); exact HO106.out, by repeat (first | (with_reducible first | exact HB.out | apply below_alloc | apply pw_below_drewN | apply below_drew1) | exact HB.out)⟩
              · rw [if_neg c29] at H
                exact absurd H (by simp)
            · rw [if_neg c27] at H
              exact absurd H (by simp)
          · rw [if_neg c26] at H
            exact absurd H (by simp)
  · replace c4 := Bool.eq_false_iff.mpr c4
    subst c4
    have H1 : (some (([] : List ByteArray), false)) = some (r1, r2) := by rw [if_neg (show ¬ (false = true) by decide)] at H; exact H
    clear H
    have H := H1
    clear H1
    simp only [Option.some.injEq, Prod.mk.injEq] at H
    obtain ⟨rfl, rfl⟩ := H
    go_enter Tryz.func39, Tryz.ntmps39
    go_wp2_with (first | ((with_reducible refine gate_callee (f := 87) rfl ?_); refine goesL_ (some 15) rfl rfl Tryz.func87 (by kernel_rfl) rfl #[.slice A0 l0.length c0, .string a1] rfl (by (try simp only [List.map_toArray, List.map_cons, List.map_nil]); first | done | rfl | (simp only [List.length_drop, List.length_take]; rfl)) ?_; (with_reducible refine (headers_Get.calls k _ _ l0 a1 t101 false _ ?side1 ?side2 A3.out).mono ?_); (case side1 => repeat (first | exact HR0.out | (with_reducible refine Kd.C_alloc ?_ _) | (with_reducible refine Kd.C_drewN ?_ _) | (with_reducible refine Kd.C_drew ?_))); (case side2 => exact HC0.out); rintro e w32 ⟨rfl, hb⟩; refine ⟨_, rfl, ?_⟩; have n0_ := Aside0.mk (below_step (by repeat (first | (with_reducible first | exact HB.out | apply below_alloc | apply pw_below_drewN | apply below_drew1) | exact HB.out)) hb); clear HB; have HB := n0_; clear n0_; (try clear hb); (try clear hb2); (try clear hk); (try clear hi)))
    go_ret2
    exact ⟨_, by first | rfl | (simp [errW_none, errW_some] <;> rfl) | (simp [*, errW_none, errW_some] <;> rfl), by first | exact Kd.R_nil _ _ _ _ _ | exact Kd.N_nil _ _ _ _ _ | exact Kd.V_nil _ _ _ _ _ | exact Kd.Q_nil _ _ _ _ _ | exact Kd.S_nil _ _ _ _ _, by repeat (first | (with_reducible first | exact HB.out | apply below_alloc | apply pw_below_drewN | apply below_drew1) | exact HB.out)⟩
end Go.Proofs.YteehjlciajhdoaaGreatDoor.X
