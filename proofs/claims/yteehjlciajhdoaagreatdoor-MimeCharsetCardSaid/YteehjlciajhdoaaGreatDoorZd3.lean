/- E9, P2, F16, E5, F86, F87, F39, F20: this session's texts, joined; what the claim does not name is left out. -/
import Derived.Test.YteehjlciajhdoaaGreatDoorZd2
namespace Go.Proofs.YteehjlciajhdoaaGreatDoor.X
set_option linter.unusedVariables false
set_option linter.unusedSimpArgs false
open Go.RowKit Go.Proofs.YteehjlciajhdoaaGreatDoorW.PrintWords Go.Proofs.YteehjlciajhdoaaGreatDoorW.PrintLast Go.Proofs.YteehjlciajhdoaaGreatDoorW.PrintMore
def paramsN : Nat → Bool → List S32 → List UInt8 → List S32
  | 0, _, ps, _ => ps
  | n + 1, more, ps, rest => if more = true then paramsN n (paramP ps rest).2.2 (paramP ps rest).1 (paramP ps rest).2.1 else ps
def parseP (l : List UInt8) : List UInt8 × List UInt8 × List S32 × Bool :=
  let s := Lib.trimS l blanksL
  let c1 := cutc 47 s
  let c2 := cutc 59 c1.2.1
  let minor := Lib.trimRightS c2.1 blanksL
  if isTok c1.1 = true then (if isTok minor = true then (lows c1.1, lows minor, paramsN (c2.2.1.length + 1) c2.2.2 [] c2.2.1, true) else ([], [], [], false)) else ([], [], [], false)
theorem cutc_more (c : UInt8) (l : List UInt8) (h : (cutc c l).2.2 = true) : (cutc c l).2.1.length < l.length := by
  induction l with
  | nil => simp [cutc] at h
  | cons b l ih =>
    unfold cutc at h ⊢
    split
    · simp
    · rename_i hb
      rw [if_neg hb] at h
      have := ih h
      simp only [List.length_cons]
      omega
theorem addP_len (ps : List S32) (n q : List UInt8) (ok : Bool) : (addP ps n q ok).length ≤ ps.length + 1 := by
  unfold addP
  split
  · split <;> simp
  · omega
theorem paramP_more (ps : List S32) (rest : List UInt8) (h : (paramP ps rest).2.2 = true) : (paramP ps rest).2.1.length < rest.length := by
  unfold paramP at h ⊢
  simp only at h ⊢
  have h1 := trimLeft_len rest
  have h2 := indexAny_lt [59, 61] (Lib.trimLeftS rest blanksL)
  split
  · rename_i hn; rw [if_pos hn] at h; simp at h
  · rename_i hn
    rw [if_neg hn] at h
    split
    · simp; omega
    · rename_i hc
      rw [if_neg hc] at h
      simp only at h ⊢
      have h3 := cutc_more _ _ h
      have h4 := (paramQ_len ((Lib.trimLeftS rest blanksL).drop ((Lib.indexAny (Lib.trimLeftS rest blanksL) [59, 61]).toNat + 1))).2
      simp only [List.length_drop] at h4
      omega
theorem paramP_len (ps : List S32) (rest : List UInt8) : (paramP ps rest).1.length ≤ ps.length + 1 := by
  unfold paramP
  simp only
  split
  · simp
  · split
    · simp
    · exact addP_len _ _ _ _
theorem paramP_le (ps : List S32) (rest : List UInt8) : (paramP ps rest).2.1.length ≤ rest.length := by
  unfold paramP
  simp only
  have h1 := trimLeft_len rest
  split
  · simp
  · split
    · simp; omega
    · simp only
      have h4 := (paramQ_len ((Lib.trimLeftS rest blanksL).drop ((Lib.indexAny (Lib.trimLeftS rest blanksL) [59, 61]).toNat + 1))).2
      have h5 := (cutc_len 59 (paramQ ((Lib.trimLeftS rest blanksL).drop ((Lib.indexAny (Lib.trimLeftS rest blanksL) [59, 61]).toNat + 1))).2.1).2
      simp only [List.length_drop] at h4
      omega
theorem trimS_len (l : List UInt8) : (Lib.trimS l blanksL).length ≤ l.length := by
  unfold Lib.trimS
  exact Nat.le_trans (trimLeft_len _) (trimRight_len l)
def mime_Parse.f (a0 : ByteArray) : Option (ByteArray × ByteArray × (List S32) × Bool) :=
  if a0.size ≤ 900000000 then some (B (parseP (Ls a0)).1, B (parseP (Ls a0)).2.1, (parseP (Ls a0)).2.2.1, (parseP (Ls a0)).2.2.2) else none
abbrev ZT : Obj := .cells #[.string (⟨#[]⟩ : ByteArray), .string (⟨#[]⟩ : ByteArray), .slice none 0 0] 24 (0, 0)
set_option maxHeartbeats 4000000 in
set_option maxRecDepth 100000 in
theorem parse_calls (l : List UInt8) (hl : l.length ≤ 900000000) (w : World) :
    Calls Tryz.prog 15 #[.string (B l)] w fun e w' => ∃ v2_ : Value, e = .returned (.tuple #[.agg #[.string (B (parseP l).1), .string (B (parseP l).2.1), v2_], .bool (parseP l).2.2.2]) ∧ Kd.R k32 32 w' w.heap.size (fun _ => True) v2_ (parseP l).2.2.1 ∧ Below w.heap.size w w' := by
  have hu := Tryz.underlying109
  have hu2 := Tryz.underlying24
  have hu3 := Tryz.underlying32
  obtain ⟨s, hs⟩ : ∃ s, s = Lib.trimS l blanksL := ⟨_, rfl⟩
  have hsl : s.length ≤ 900000000 := by rw [hs]; have := trimS_len l; omega
  obtain ⟨mj, hmj⟩ : ∃ mj, mj = (cutc 47 s).1 := ⟨_, rfl⟩
  obtain ⟨re, hre⟩ : ∃ re, re = (cutc 47 s).2.1 := ⟨_, rfl⟩
  have h47 := cutc_len 47 s
  rw [← hmj, ← hre] at h47
  obtain ⟨m0, hm0⟩ : ∃ m0, m0 = (cutc 59 re).1 := ⟨_, rfl⟩
  obtain ⟨r2, hr2⟩ : ∃ r2, r2 = (cutc 59 re).2.1 := ⟨_, rfl⟩
  obtain ⟨mo, hmo⟩ : ∃ mo, mo = (cutc 59 re).2.2 := ⟨_, rfl⟩
  have h59 := cutc_len 59 re
  rw [← hm0, ← hr2] at h59
  obtain ⟨mn, hmn⟩ : ∃ mn, mn = Lib.trimRightS m0 blanksL := ⟨_, rfl⟩
  have hmnl : mn.length ≤ m0.length := by rw [hmn]; exact trimRight_len m0
  have H1 := Aside0.mk (p := strings_Trim.f (B l) (B blanksL) = some (B s)) (by rw [hs]; exact trim_ev l (by omega))
  have H2 := Aside0.mk (p := strings_Cut.f (B s) (B [47]) = some (B mj, B re, (cutc 47 s).2.2)) (by rw [hmj, hre]; exact cut_ev s 47 (by omega))
  have H3 := Aside0.mk (p := strings_Cut.f (B re) (B [59]) = some (B m0, B r2, mo)) (by rw [hm0, hr2, hmo]; exact cut_ev re 59 (by omega))
  have H4 := Aside0.mk (p := strings_TrimRight.f (B m0) (B blanksL) = some (B mn)) (by rw [hmn]; exact trimRight_ev m0 (by omega))
  obtain ⟨k1, hk1⟩ := Ev.rounds (infra_Token_ev mj (by omega))
  obtain ⟨k2, hk2⟩ := Ev.rounds (infra_Token_ev mn (by omega))
  have HK1 := Aside0.mk hk1
  have HK2 := Aside0.mk hk2
  have hP : parseP l = if isTok mj = true then (if isTok mn = true then (lows mj, lows mn, paramsN (r2.length + 1) mo [] r2, true) else ([], [], [], false)) else ([], [], [], false) := by
    unfold parseP
    simp only [← hs, ← hmj, ← hre, ← hm0, ← hr2, ← hmo, ← hmn]
  have HP := Aside0.mk hP
  obtain ⟨t1, ht1⟩ : ∃ t1, t1 = isTok mj := ⟨_, rfl⟩
  obtain ⟨t2, ht2⟩ : ∃ t2, t2 = isTok mn := ⟨_, rfl⟩
  rw [← ht1] at HK1 HP
  rw [← ht2] at HK2 HP
  clear hs hmj hre hm0 hr2 hmo hmn hk1 hk2 hP ht1 ht2
  cases t1 with
  | false =>
    have HPP := Aside0.mk (p := parseP l = ([], [], [], false)) (by rw [HP.out]; rfl)
    clear HP
    go_enter Tryz.func15, Tryz.ntmps15
    go_upto_region 6 with (first | (go_at_call 61; refine (strings_Trim.calls _ _ _ _ H1.out).mono ?_; rintro e w1 ⟨rfl, hb1⟩) | (go_at_call_of 62 (Value.string (B s)); refine (strings_Cut.calls _ _ _ _ _ _ H2.out).mono ?_; rintro e w2 ⟨rfl, hd2⟩) | (go_at_call_of 62 (Value.string (B re)); refine (strings_Cut.calls _ _ _ _ _ _ H3.out).mono ?_; rintro e w3 ⟨rfl, hd3⟩) | (go_at_call 63; refine (strings_TrimRight.calls _ _ _ _ H4.out).mono ?_; rintro e w4 ⟨rfl, hb4⟩) | (go_at_call_of 64 (Value.string (B mj)); refine (infra_Token.calls _ _ _ _ HK1.out).mono ?_; rintro e w5 ⟨rfl, hd5⟩))
    have HBE := Aside0.mk (p := Below (w.alloc ZT).heap.size (w.alloc ZT) w5) (below_step (below_step (below_step (below_step hb1 hd2.below) hd3.below) hb4) hd5.below)
    have hblk : w5.heap[w.heap.size]? = some ZT := blk_below (blk_new w _) HBE.out
    have HBLK := Aside0.mk hblk
    have hz0 : w5.cell? ⟨w.heap.size, 0, none⟩ = some (.string (⟨#[]⟩ : ByteArray)) := (blk_cell hblk 0).trans rfl
    have hz1 : w5.cell? ⟨w.heap.size, 1, none⟩ = some (.string (⟨#[]⟩ : ByteArray)) := (blk_cell hblk 1).trans rfl
    have hz2 : w5.cell? ⟨w.heap.size, 2, none⟩ = some (.slice none 0 0) := (blk_cell hblk 2).trans rfl
    have hf0 := blk_frozen hblk 0
    have hf1 := blk_frozen hblk 1
    have hf2 := blk_frozen hblk 2
    have HBW := Aside0.mk (p := Below w.heap.size w w5) (below_then (below_alloc (Below.refl _ _) _) (by simp) HBE.out)
    clear hb1 hd2 hd3 hb4 hd5 hblk
    go_wp2
    refine bodyPost_ret (results_ct rfl _ _ w.heap.size 24 #[.string (⟨#[]⟩ : ByteArray), .string (⟨#[]⟩ : ByteArray), .slice none 0 0] (0, 0) _ rfl (blk_put (cs := #[.string (⟨#[]⟩ : ByteArray), .string (⟨#[]⟩ : ByteArray), .slice none 0 0]) (blk_put (cs := #[.string (⟨#[]⟩ : ByteArray), .string (⟨#[]⟩ : ByteArray), .slice none 0 0]) (blk_put (cs := #[.string (⟨#[]⟩ : ByteArray), .string (⟨#[]⟩ : ByteArray), .slice none 0 0]) HBLK.out 0 _ rfl) 1 _ rfl) 2 _ rfl) Tryz.underlying24 rfl (by kernel_rfl)) rfl ?_
    rw [HPP.out]
    exact ⟨_, rfl, Kd.R_nil _ _ _ _ _, ((HBW.out.setCell (Nat.le_refl _) _).setCell (Nat.le_refl _) _).setCell (Nat.le_refl _) _⟩
  | true =>
    cases t2 with
    | false =>
      have HPP := Aside0.mk (p := parseP l = ([], [], [], false)) (by rw [HP.out]; rfl)
      clear HP
      go_enter Tryz.func15, Tryz.ntmps15
      go_upto_region 6 with (first | (go_at_call 61; refine (strings_Trim.calls _ _ _ _ H1.out).mono ?_; rintro e w1 ⟨rfl, hb1⟩) | (go_at_call_of 62 (Value.string (B s)); refine (strings_Cut.calls _ _ _ _ _ _ H2.out).mono ?_; rintro e w2 ⟨rfl, hd2⟩) | (go_at_call_of 62 (Value.string (B re)); refine (strings_Cut.calls _ _ _ _ _ _ H3.out).mono ?_; rintro e w3 ⟨rfl, hd3⟩) | (go_at_call 63; refine (strings_TrimRight.calls _ _ _ _ H4.out).mono ?_; rintro e w4 ⟨rfl, hb4⟩) | (go_at_call_of 64 (Value.string (B mj)); refine (infra_Token.calls _ _ _ _ HK1.out).mono ?_; rintro e w5 ⟨rfl, hd5⟩) | (go_at_call_of 64 (Value.string (B mn)); refine (infra_Token.calls _ _ _ _ HK2.out).mono ?_; rintro e w6 ⟨rfl, hd6⟩))
      have HBE := Aside0.mk (p := Below (w.alloc ZT).heap.size (w.alloc ZT) w6) (below_step (below_step (below_step (below_step (below_step hb1 hd2.below) hd3.below) hb4) hd5.below) hd6.below)
      have hblk : w6.heap[w.heap.size]? = some ZT := blk_below (blk_new w _) HBE.out
      have HBLK := Aside0.mk hblk
      have hz0 : w6.cell? ⟨w.heap.size, 0, none⟩ = some (.string (⟨#[]⟩ : ByteArray)) := (blk_cell hblk 0).trans rfl
      have hz1 : w6.cell? ⟨w.heap.size, 1, none⟩ = some (.string (⟨#[]⟩ : ByteArray)) := (blk_cell hblk 1).trans rfl
      have hz2 : w6.cell? ⟨w.heap.size, 2, none⟩ = some (.slice none 0 0) := (blk_cell hblk 2).trans rfl
      have hf0 := blk_frozen hblk 0
      have hf1 := blk_frozen hblk 1
      have hf2 := blk_frozen hblk 2
      have HBW := Aside0.mk (p := Below w.heap.size w w6) (below_then (below_alloc (Below.refl _ _) _) (by simp) HBE.out)
      clear hb1 hd2 hd3 hb4 hd5 hd6 hblk
      go_wp2
      refine bodyPost_ret (results_ct rfl _ _ w.heap.size 24 #[.string (⟨#[]⟩ : ByteArray), .string (⟨#[]⟩ : ByteArray), .slice none 0 0] (0, 0) _ rfl (blk_put (cs := #[.string (⟨#[]⟩ : ByteArray), .string (⟨#[]⟩ : ByteArray), .slice none 0 0]) (blk_put (cs := #[.string (⟨#[]⟩ : ByteArray), .string (⟨#[]⟩ : ByteArray), .slice none 0 0]) (blk_put (cs := #[.string (⟨#[]⟩ : ByteArray), .string (⟨#[]⟩ : ByteArray), .slice none 0 0]) HBLK.out 0 _ rfl) 1 _ rfl) 2 _ rfl) Tryz.underlying24 rfl (by kernel_rfl)) rfl ?_
      rw [HPP.out]
      exact ⟨_, rfl, Kd.R_nil _ _ _ _ _, ((HBW.out.setCell (Nat.le_refl _) _).setCell (Nat.le_refl _) _).setCell (Nat.le_refl _) _⟩
    | true =>
      have HPP := Aside0.mk (p := parseP l = (lows mj, lows mn, paramsN (r2.length + 1) mo [] r2, true)) (by rw [HP.out]; rfl)
      have HL1 := Aside0.mk (infra_Lower_ev mj (by omega))
      have HL2 := Aside0.mk (infra_Lower_ev mn (by omega))
      clear HP
      go_enter Tryz.func15, Tryz.ntmps15
      go_upto_region 7 with (first | (go_at_call 61; refine (strings_Trim.calls _ _ _ _ H1.out).mono ?_; rintro e w1 ⟨rfl, hb1⟩) | (go_at_call_of 62 (Value.string (B s)); refine (strings_Cut.calls _ _ _ _ _ _ H2.out).mono ?_; rintro e w2 ⟨rfl, hd2⟩) | (go_at_call_of 62 (Value.string (B re)); refine (strings_Cut.calls _ _ _ _ _ _ H3.out).mono ?_; rintro e w3 ⟨rfl, hd3⟩) | (go_at_call 63; refine (strings_TrimRight.calls _ _ _ _ H4.out).mono ?_; rintro e w4 ⟨rfl, hb4⟩) | (go_at_call_of 64 (Value.string (B mj)); refine (infra_Token.calls _ _ _ _ HK1.out).mono ?_; rintro e w5 ⟨rfl, hd5⟩) | (go_at_call_of 64 (Value.string (B mn)); refine (infra_Token.calls _ _ _ _ HK2.out).mono ?_; rintro e w6 ⟨rfl, hd6⟩))
      have HBE := Aside0.mk (p := Below (w.alloc ZT).heap.size (w.alloc ZT) w6) (below_step (below_step (below_step (below_step (below_step hb1 hd2.below) hd3.below) hb4) hd5.below) hd6.below)
      clear hb1 hd2 hd3 hb4 hd5 hd6
      go_wp2_with (first | (go_at_call_of 65 (Value.string (B mj)); refine (infra_Lower.calls _ _ _ HL1.out).mono ?_; rintro e w7 ⟨rfl, hb7⟩) | (go_at_call_of 65 (Value.string (B mn)); refine (infra_Lower.calls _ _ _ HL2.out).mono ?_; rintro e w8 ⟨rfl, hb8⟩))
      have HBE8 := Aside0.mk (below_step (below_step HBE.out hb7) hb8)
      have hgl : w.heap.size < w8.heap.size := by have := HBE8.out.size; simp at this; omega
      have HBW := Aside0.mk (p := Below w.heap.size w w8) (below_then (below_alloc (Below.refl _ _) _) (by simp) HBE8.out)
      have HZ := Aside0.mk (p := w8.heap[w.heap.size]? = some ZT) (blk_below (blk_new w _) HBE8.out)
      clear hb7 hb8 HBE HBE8
      go_loopg [8] (r2.length + 1) (fun n s8 wx => ∃ (more : Bool) (ps : List S32) (rest : List UInt8), s8 = .bool more ∧ Aside0 (Rdr w wx w8.heap.size w.heap.size (some ZT) (B (lows mj)) (B (lows mn)) ps rest) ∧ ps.length + n ≤ r2.length + 1 ∧ Aside0 (more = true → rest.length + 1 ≤ n) ∧ Aside0 (paramsN n more ps rest = paramsN (r2.length + 1) mo [] r2) ∧ rest.length ≤ r2.length ∧ w8.heap.size < wx.heap.size)
      case atStart => exact ⟨mo, [], r2, rfl, ⟨.slice none 0 0, blk_new w8 _, Kd.R_nil _ _ _ _ _, below_alloc HBW.out _, (Below.heap_alloc w8 _ _ hgl).trans HZ.out⟩, by simp, ⟨fun _ => Nat.le_refl _⟩, ⟨rfl⟩, Nat.le_refl _, by simp⟩
      case round =>
        obtain ⟨more, ps, rest, rfl, HR, hpn, HM, HQ, hrl, hws⟩ := hrel
        cases more with
        | true =>
          have hm := HM.out rfl
          obtain ⟨m, rfl⟩ : ∃ m, gk = m + 1 := ⟨gk - 1, by omega⟩
          have h1 := paramP_more ps rest
          have h2 := paramP_len ps rest
          have h3 := paramP_le ps rest
          have HQ' := Aside0.mk (p := paramsN m (paramP ps rest).2.2 (paramP ps rest).1 (paramP ps rest).2.1 = paramsN (r2.length + 1) mo [] r2) (by rw [← HQ.out]; conv => rhs; unfold paramsN; rw [if_pos rfl])
          have HM' := Aside0.mk (p := (paramP ps rest).2.2 = true → (paramP ps rest).2.1.length + 1 ≤ m) (fun e => by have := h1 e; omega)
          clear h1 HQ HM
          go_wp2_with (go_at_call 66; refine (param_calls rest w8.heap.size w.heap.size (some ZT) (B (lows mj)) (B (lows mn)) ps w _ (by omega) (by omega) (by omega) (Nat.le_refl _) (by omega) (by omega) HR.out).mono ?_; rintro e w9 ⟨rfl, hR9, hs9⟩)
          go_roundg m
          case measure => omega
          case rel => exact ⟨_, _, _, rfl, ⟨hR9⟩, by omega, HM', HQ', by omega, by omega⟩
        | false =>
          have hps : paramsN (r2.length + 1) mo [] r2 = ps := by rw [← HQ.out]; cases gk <;> rfl
          rw [hps] at HPP
          obtain ⟨v, hblk, hKR, hB, ho⟩ := HR.out
          obtain ⟨A, cc, rfl, hle, hC⟩ := Kd.R_reads hKR
          have hx0 : wr.cell? ⟨w8.heap.size, 0, none⟩ = some (.string (B (lows mj))) := (blk_cell hblk 0).trans rfl
          have hx1 : wr.cell? ⟨w8.heap.size, 1, none⟩ = some (.string (B (lows mn))) := (blk_cell hblk 1).trans rfl
          have hx2 : wr.cell? ⟨w8.heap.size, 2, none⟩ = some (.slice A ps.length cc) := (blk_cell hblk 2).trans rfl
          have hz0 : wr.cell? ⟨w.heap.size, 0, none⟩ = some (.string (⟨#[]⟩ : ByteArray)) := (blk_cell ho 0).trans rfl
          have hz1 : wr.cell? ⟨w.heap.size, 1, none⟩ = some (.string (⟨#[]⟩ : ByteArray)) := (blk_cell ho 1).trans rfl
          have hz2 : wr.cell? ⟨w.heap.size, 2, none⟩ = some (.slice none 0 0) := (blk_cell ho 2).trans rfl
          have hf0 := blk_frozen ho 0
          have hf1 := blk_frozen ho 1
          have hf2 := blk_frozen ho 2
          have HO := Aside0.mk ho
          have HKR := Aside0.mk hKR
          have HB := Aside0.mk hB
          clear hps hblk hKR hB ho hC
          go_wp2
          refine bodyPost_ret (results_ct rfl _ _ w.heap.size 24 #[.string (B (lows mj)), .string (B (lows mn)), .slice A ps.length cc] (0, 0) _ rfl (blk_put (cs := #[.string (B (lows mj)), .string (B (lows mn)), .slice none 0 0]) (blk_put (cs := #[.string (B (lows mj)), .string (⟨#[]⟩ : ByteArray), .slice none 0 0]) (blk_put (cs := #[.string (⟨#[]⟩ : ByteArray), .string (⟨#[]⟩ : ByteArray), .slice none 0 0]) HO.out 0 _ rfl) 1 _ rfl) 2 _ rfl) Tryz.underlying24 rfl (by kernel_rfl)) rfl ?_
          rw [HPP.out]
          exact ⟨_, rfl, Kd.R_mono (Kd.R_far (Kd.R_far (Kd.R_far HKR.out (fun k hk => hk.2) _) (fun k hk => hk.2) _) (fun k hk => hk.2) _) (fun _ _ => trivial), ((HB.out.setCell (Nat.le_refl _) _).setCell (Nat.le_refl _) _).setCell (Nat.le_refl _) _⟩
theorem mime_Parse.calls (a0 : ByteArray) (r1 : ByteArray) (r2 : ByteArray) (r3 : List S32) (r4 : Bool) (w : World) (h : mime_Parse.f a0 = some (r1, r2, r3, r4)) :
    Calls Tryz.prog 15 #[.string a0] w fun e w' => ∃ v2_ : Value, e = .returned (.tuple #[.agg #[.string r1, .string r2, v2_], .bool r4]) ∧ Kd.R k32 32 w' w.heap.size (fun _ => True) v2_ r3 ∧ Below w.heap.size w w' := by
  unfold mime_Parse.f at h
  split at h
  · rename_i h1
    simp only [Option.some.injEq, Prod.mk.injEq] at h
    obtain ⟨rfl, rfl, rfl, rfl⟩ := h
    have := parse_calls (Ls a0) (by rw [← size_Ls]; exact h1) w
    rw [B_Ls] at this
    exact this
  · cases h
end Go.Proofs.YteehjlciajhdoaaGreatDoor.X
namespace Go.Proofs.YteehjlciajhdoaaGreatDoor.X
set_option linter.unusedVariables false
set_option linter.unusedSimpArgs false
open Go.RowKit Go.Proofs.YteehjlciajhdoaaGreatDoorW.PrintWords Go.Proofs.YteehjlciajhdoaaGreatDoorW.PrintLast Go.Proofs.YteehjlciajhdoaaGreatDoorW.PrintMore
abbrev Prm := S32
theorem u8_all {P : UInt8 → Prop} (h : ∀ n : Fin 256, P (UInt8.ofNat n.val)) (c : UInt8) : P c := by
  have := h ⟨c.toNat, UInt8.toNat_lt c⟩
  simpa using this
set_option maxRecDepth 100000 in
theorem tokc_ne : ∀ c : UInt8, tokc c = true → c ≠ 34 ∧ c ≠ 47 ∧ c ≠ 59 ∧ c ≠ 61 ∧ c ≠ 92 ∧ blanksL.contains c = false := u8_all (by decide +kernel)
theorem lowc_tok : ∀ c : UInt8, tokc c = true → tokc (lowc c) = true := u8_all (by decide +kernel)
theorem lowc_low : ∀ c : UInt8, lowc (lowc c) = lowc c := u8_all (by decide +kernel)
theorem isTok_iff (l : List UInt8) : isTok l = true ↔ (∀ c, c ∈ l → tokc c = true) ∧ l ≠ [] := by
  unfold isTok
  rw [Bool.and_eq_true, List.all_eq_true]
  cases l <;> simp
theorem isTok_lows (l : List UInt8) : isTok l = true → isTok (lows l) = true := by
  rw [isTok_iff, isTok_iff]
  rintro ⟨h1, h2⟩
  refine ⟨fun c hc => ?_, by cases l <;> simp_all [lows]⟩
  obtain ⟨d, hd, rfl⟩ := List.mem_map.1 hc
  exact lowc_tok d (h1 d hd)
theorem lows_lows (l : List UInt8) : lows (lows l) = lows l := by
  unfold lows
  rw [List.map_map]
  exact List.map_congr_left (fun c _ => lowc_low c)
theorem cutc_hit (c : UInt8) : ∀ a l : List UInt8, (∀ b, b ∈ a → b ≠ c) → cutc c (a ++ c :: l) = (a, l, true)
  | [], l, _ => by simp [cutc]
  | b :: a, l, h => by
    have h1 := h b List.mem_cons_self
    have ih := cutc_hit c a l (fun d hd => h d (List.mem_cons_of_mem _ hd))
    simp only [List.cons_append, cutc, if_neg h1, ih]
theorem cutc_miss (c : UInt8) : ∀ a : List UInt8, (∀ b, b ∈ a → b ≠ c) → cutc c a = (a, [], false)
  | [], _ => rfl
  | b :: a, h => by
    have h1 := h b List.mem_cons_self
    have ih := cutc_miss c a (fun d hd => h d (List.mem_cons_of_mem _ hd))
    simp only [cutc, if_neg h1, ih]
def Tail (t : List UInt8) : Prop := t = [] ∨ ∃ t', t = 59 :: t'
theorem cutc_tail (a t : List UInt8) (h : ∀ b, b ∈ a → b ≠ 59) (ht : Tail t) : cutc 59 (a ++ t) = (a, t.tail, !t.isEmpty) := by
  rcases ht with rfl | ⟨t', rfl⟩
  · rw [List.append_nil, cutc_miss 59 a h]; rfl
  · rw [cutc_hit 59 a t' h]; rfl
theorem trimLeft_id (l : List UInt8) (h : ∀ b t, l = b :: t → blanksL.contains b = false) : Lib.trimLeftS l blanksL = l := by
  unfold Lib.trimLeftS
  cases l with
  | nil => rfl
  | cons b t => rw [List.dropWhile_cons, if_neg (by rw [h b t rfl]; decide)]
theorem trimRight_id (l : List UInt8) (b : UInt8) (h : blanksL.contains b = false) : Lib.trimRightS (l ++ [b]) blanksL = l ++ [b] := by
  unfold Lib.trimRightS
  rw [List.reverse_append, List.reverse_singleton, List.singleton_append, List.dropWhile_cons, if_neg (by rw [h]; decide)]
  simp
theorem trimRight_tok (l : List UInt8) (h : isTok l = true) : Lib.trimRightS l blanksL = l := by
  obtain ⟨h1, h2⟩ := (isTok_iff l).1 h
  rw [← List.dropLast_concat_getLast h2]
  exact trimRight_id _ _ (tokc_ne _ (h1 _ (List.getLast_mem h2))).2.2.2.2.2
theorem indexAny_at : ∀ a l : List UInt8, (∀ b, b ∈ a → b ≠ 59 ∧ b ≠ 61) → Lib.indexAny (a ++ 61 :: l) [59, 61] = (a.length : Int)
  | [], l, _ => by simp [Lib.indexAny]
  | b :: a, l, h => by
    have h1 := h b List.mem_cons_self
    have ih := indexAny_at a l (fun d hd => h d (List.mem_cons_of_mem _ hd))
    have hc : ([59, 61] : List UInt8).contains b = false := by simp [h1.1, h1.2]
    simp only [List.cons_append, Lib.indexAny, hc, ih]
    simp
theorem escB_nil : escB [] = [] := rfl
theorem escB_cons (c : UInt8) (l : List UInt8) : escB (c :: l) = (if c = 34 ∨ c = 92 then [92, c] else [c]) ++ escB l := by
  unfold escB
  rw [repl_cons]
  congr 1
  by_cases h1 : c = 34
  · subst h1; rfl
  · by_cases h2 : c = 92
    · subst h2; rfl
    · simp [tabOf, escT, h1, h2, Ne.symm h1, Ne.symm h2]
theorem qv_q (t : List UInt8) : qv (34 :: t) = ([], 34 :: t) := by unfold qv; rw [if_pos rfl]
theorem qv_b (d : UInt8) (t : List UInt8) : qv (92 :: d :: t) = (d :: (qv t).1, (qv t).2) := by
  conv => lhs; unfold qv
  rw [if_neg (by decide), if_pos rfl]
theorem qv_c (c : UInt8) (t : List UInt8) (h1 : c ≠ 34) (h2 : c ≠ 92) : qv (c :: t) = (c :: (qv t).1, (qv t).2) := by
  conv => lhs; unfold qv
  rw [if_neg h1, if_neg h2]
theorem qv_escB (t : List UInt8) : ∀ v : List UInt8, qv (escB v ++ 34 :: t) = (v, 34 :: t)
  | [] => by rw [escB_nil, List.nil_append, qv_q]
  | c :: v => by
    have ih := qv_escB t v
    rw [escB_cons]
    by_cases h : c = 34 ∨ c = 92
    · rw [if_pos h]
      simp only [List.cons_append, List.nil_append]
      rw [qv_b, ih]
    · rw [if_neg h]
      simp only [not_or] at h
      simp only [List.cons_append, List.nil_append]
      rw [qv_c _ _ h.1 h.2, ih]
structure GoodP (p : Prm) : Prop where
  name : isTok (Ls p.f0) = true
  low : lows (Ls p.f0) = Ls p.f0
  fine : isFine (Ls p.f1) = true
theorem addP_good (ps : List Prm) (p : Prm) (hp : GoodP p) (hd : (hasP ps p.f0).2 = false) : addP ps (Ls p.f0) (Ls p.f1) true = ps ++ [p] := by
  unfold addP
  rw [hp.name, hp.fine, B_Ls, hd, B_Ls]
  simp
theorem paramP_text (ps : List Prm) (p : Prm) (hp : GoodP p) (hd : (hasP ps p.f0).2 = false) (t : List UInt8) (ht : Tail t) :
    paramP ps (Ls p.f0 ++ 61 :: valT (Ls p.f1) ++ t) = (ps ++ [p], t.tail, !t.isEmpty) := by
  obtain ⟨hn1, hn2⟩ := (isTok_iff _).1 hp.name
  have hlt : Lib.trimLeftS (Ls p.f0 ++ 61 :: valT (Ls p.f1) ++ t) blanksL = Ls p.f0 ++ 61 :: valT (Ls p.f1) ++ t := by
    refine trimLeft_id _ (fun b t' e => ?_)
    cases h : Ls p.f0 with
    | nil => exact absurd h hn2
    | cons c l =>
      rw [h] at e hn1
      simp only [List.cons_append] at e
      injection e with e1 _
      rw [← e1]
      exact (tokc_ne c (hn1 c List.mem_cons_self)).2.2.2.2.2
  have hia : Lib.indexAny (Ls p.f0 ++ 61 :: valT (Ls p.f1) ++ t) [59, 61] = ((Ls p.f0).length : Int) := by
    rw [List.append_assoc, List.cons_append]
    exact indexAny_at _ _ (fun b hb => ⟨(tokc_ne b (hn1 b hb)).2.2.1, (tokc_ne b (hn1 b hb)).2.2.2.1⟩)
  have hdr : (Ls p.f0 ++ 61 :: valT (Ls p.f1) ++ t).drop ((Ls p.f0).length + 1) = valT (Ls p.f1) ++ t := by
    rw [List.append_assoc, List.drop_append, List.drop_of_length_le (by omega)]
    simp
  have hgd : (Ls p.f0 ++ 61 :: valT (Ls p.f1) ++ t).getD (Ls p.f0).length 0 = 61 := by
    rw [List.append_assoc, List.getD_eq_getElem?_getD, List.getElem?_append_right (Nat.le_refl _)]
    simp
  have htk : (Ls p.f0 ++ 61 :: valT (Ls p.f1) ++ t).take (Ls p.f0).length = Ls p.f0 := by
    rw [List.append_assoc, List.take_append_of_le_length (Nat.le_refl _), List.take_length]
  unfold paramP
  simp only [hlt, hia, Int.toNat_natCast, hdr, hgd, htk]
  rw [if_neg (by omega), if_neg (by decide), hp.low]
  by_cases hv : isTok (Ls p.f1) = true
  · obtain ⟨hv1, hv2⟩ := (isTok_iff _).1 hv
    have hvt : valT (Ls p.f1) = Ls p.f1 := by unfold valT; rw [if_pos hv]
    have hpq : paramQ (Ls p.f1 ++ t) = (Ls p.f1, Ls p.f1 ++ t, true) := by
      unfold paramQ
      have hpre : ([34] : List UInt8).isPrefixOf (Ls p.f1 ++ t) = false := by
        cases h : Ls p.f1 with
        | nil => exact absurd h hv2
        | cons c l =>
          rw [h] at hv1
          have := (tokc_ne c (hv1 c List.mem_cons_self)).1
          simp [List.isPrefixOf, Ne.symm this]
      rw [hpre, if_neg (by decide), cutc_tail _ t (fun b hb => (tokc_ne b (hv1 b hb)).2.2.1) ht, trimRight_tok _ hv, List.isEmpty_eq_false_iff.2 hv2]
      rfl
    rw [hvt, hpq]
    rw [addP_good ps p hp hd, cutc_tail _ t (fun b hb => (tokc_ne b (hv1 b hb)).2.2.1) ht]
  · have hvt : valT (Ls p.f1) = 34 :: escB (Ls p.f1) ++ [34] := by unfold valT; rw [if_neg hv]
    have hpq : paramQ (34 :: escB (Ls p.f1) ++ [34] ++ t) = (Ls p.f1, 34 :: t, true) := by
      unfold paramQ
      have hpre : ([34] : List UInt8).isPrefixOf (34 :: escB (Ls p.f1) ++ [34] ++ t) = true := by simp [List.isPrefixOf]
      rw [hpre, if_pos rfl]
      have : (34 :: escB (Ls p.f1) ++ [34] ++ t).tail = escB (Ls p.f1) ++ 34 :: t := by simp
      rw [this, qv_escB]
    rw [hvt, hpq]
    rw [addP_good ps p hp hd]
    have hc := cutc_tail [34] t (by decide) ht
    simp only [List.singleton_append] at hc
    rw [hc]
theorem tail_text : ∀ ps : List Prm, Tail (ps.flatMap parT)
  | [] => .inl rfl
  | p :: ps => .inr ⟨_, rfl⟩
def Apart (ps : List Prm) : Prop := ps.Pairwise (fun p q => p.f0.toList ≠ q.f0.toList)
theorem hasP_false (n : ByteArray) : ∀ ps : List Prm, (∀ p, p ∈ ps → p.f0.toList ≠ n.toList) → (hasP ps n).2 = false
  | [], _ => rfl
  | p :: ps, h => by
    have ih := hasP_false n ps (fun q hq => h q (List.mem_cons_of_mem _ hq))
    unfold hasP at ih ⊢
    rw [findP, if_neg (h p List.mem_cons_self)]
    exact ih
theorem hasP_none (n : ByteArray) : ∀ ps : List Prm, (hasP ps n).2 = false → ∀ p, p ∈ ps → p.f0.toList ≠ n.toList
  | p :: ps, h, q, hq => by
    unfold hasP at h
    rw [findP] at h
    by_cases h1 : p.f0.toList = n.toList
    · rw [if_pos h1] at h; cases h
    · rw [if_neg h1] at h
      rcases List.mem_cons.1 hq with rfl | hq
      · exact h1
      · exact hasP_none n ps h q hq
theorem paramsN_text : ∀ (todo done : List Prm) (n : Nat), (∀ p, p ∈ todo → GoodP p) → Apart (done ++ todo) → todo.length < n →
    paramsN n (!(todo.flatMap parT).isEmpty) done (todo.flatMap parT).tail = done ++ todo
  | [], done, n, _, _, hn => by
    obtain ⟨m, rfl⟩ : ∃ m, n = m + 1 := ⟨n - 1, by simp at hn; omega⟩
    simp [paramsN]
  | p :: todo, done, n, hg, ha, hn => by
    obtain ⟨m, rfl⟩ : ∃ m, n = m + 1 := ⟨n - 1, by simp at hn; omega⟩
    have hd : (hasP done p.f0).2 = false := hasP_false _ _ (fun q hq => (List.pairwise_append.1 ha).2.2 q hq p List.mem_cons_self)
    have e : ((p :: todo).flatMap parT).tail = Ls p.f0 ++ 61 :: valT (Ls p.f1) ++ todo.flatMap parT := by
      rw [List.flatMap_cons]; unfold parT; simp
    have e2 : ((p :: todo).flatMap parT).isEmpty = false := by rw [List.flatMap_cons]; unfold parT; simp
    rw [e, e2]
    unfold paramsN
    rw [if_pos (by decide), paramP_text done p (hg p List.mem_cons_self) hd _ (tail_text todo)]
    have ih := paramsN_text todo (done ++ [p]) m (fun q hq => hg q (List.mem_cons_of_mem _ hq)) (by rw [List.append_assoc]; exact ha) (by simp at hn; omega)
    rw [ih, List.append_assoc]; rfl
theorem flatMap_length_ge : ∀ ps : List Prm, 2 * ps.length ≤ (ps.flatMap parT).length
  | [] => Nat.le_refl _
  | p :: ps => by
    have := flatMap_length_ge ps
    rw [List.flatMap_cons, List.length_append]
    have : 2 ≤ (parT p).length := by unfold parT; simp; omega
    simp only [List.length_cons]
    omega
theorem last_ok : ∀ (ps : List Prm), (∀ p, p ∈ ps → GoodP p) → ps ≠ [] → ∃ l b, ps.flatMap parT = l ++ [b] ∧ blanksL.contains b = false
  | [p], hg, _ => by
    by_cases hv : isTok (Ls p.f1) = true
    · obtain ⟨h1, h2⟩ := (isTok_iff _).1 hv
      refine ⟨59 :: Ls p.f0 ++ 61 :: (Ls p.f1).dropLast, (Ls p.f1).getLast h2, ?_, (tokc_ne _ (h1 _ (List.getLast_mem h2))).2.2.2.2.2⟩
      have : valT (Ls p.f1) = (Ls p.f1).dropLast ++ [(Ls p.f1).getLast h2] := by unfold valT; rw [if_pos hv, List.dropLast_concat_getLast]
      simp only [List.flatMap_cons, List.flatMap_nil, List.append_nil]
      unfold parT
      rw [this]
      simp
    · refine ⟨59 :: Ls p.f0 ++ 61 :: 34 :: escB (Ls p.f1), 34, ?_, by decide⟩
      have : valT (Ls p.f1) = 34 :: escB (Ls p.f1) ++ [34] := by unfold valT; rw [if_neg hv]
      simp only [List.flatMap_cons, List.flatMap_nil, List.append_nil]
      unfold parT
      rw [this]
      simp
  | p :: q :: ps, hg, _ => by
    obtain ⟨l, b, h1, h2⟩ := last_ok (q :: ps) (fun x hx => hg x (List.mem_cons_of_mem _ hx)) (by simp)
    exact ⟨parT p ++ l, b, by rw [List.flatMap_cons, h1, List.append_assoc], h2⟩
theorem parse_text (mj mn : List UInt8) (ps : List Prm) (h1 : isTok mj = true) (h2 : isTok mn = true) (l1 : lows mj = mj) (l2 : lows mn = mn) (hg : ∀ p, p ∈ ps → GoodP p) (ha : Apart ps) :
    parseP (textL mj mn ps) = (mj, mn, ps, true) := by
  obtain ⟨hj1, hj2⟩ := (isTok_iff _).1 h1
  obtain ⟨hm1, hm2⟩ := (isTok_iff _).1 h2
  have htr : Lib.trimRightS (textL mj mn ps) blanksL = textL mj mn ps := by
    by_cases hp : ps = []
    · subst hp
      have : textL mj mn [] = (mj ++ 47 :: mn.dropLast) ++ [mn.getLast hm2] := by
        unfold textL
        simp only [List.flatMap_nil, List.append_nil, List.append_assoc, List.cons_append, List.dropLast_concat_getLast]
      rw [this]
      exact trimRight_id _ _ (tokc_ne _ (hm1 _ (List.getLast_mem hm2))).2.2.2.2.2
    · obtain ⟨l, b, e1, e2⟩ := last_ok ps hg hp
      have : textL mj mn ps = (mj ++ 47 :: mn ++ l) ++ [b] := by unfold textL; rw [e1]; simp
      rw [this]
      exact trimRight_id _ _ e2
  have htl : Lib.trimS (textL mj mn ps) blanksL = textL mj mn ps := by
    unfold Lib.trimS
    rw [htr]
    refine trimLeft_id _ (fun b t' e => ?_)
    cases h : mj with
    | nil => exact absurd h hj2
    | cons c l =>
      unfold textL at e
      rw [h] at e hj1
      simp only [List.cons_append] at e
      injection e with e1 _
      rw [← e1]
      exact (tokc_ne c (hj1 c List.mem_cons_self)).2.2.2.2.2
  have hc1 : cutc 47 (textL mj mn ps) = (mj, mn ++ ps.flatMap parT, true) := by
    have := cutc_hit 47 mj (mn ++ ps.flatMap parT) (fun b hb => (tokc_ne b (hj1 b hb)).2.1)
    unfold textL
    simpa using this
  have hc2 := cutc_tail mn (ps.flatMap parT) (fun b hb => (tokc_ne b (hm1 b hb)).2.2.1) (tail_text ps)
  unfold parseP
  simp only [htl, hc1, hc2, trimRight_tok mn h2, h1, h2, if_true, l1, l2]
  have hlen : ps.length < (ps.flatMap parT).tail.length + 1 := by
    have := flatMap_length_ge ps
    rw [List.length_tail]
    omega
  have := paramsN_text ps [] ((ps.flatMap parT).tail.length + 1) hg (by simpa using ha) hlen
  rw [this]; simp
theorem isFine_iff (l : List UInt8) : isFine l = true ↔ ∀ c, c ∈ l → finec c = true := by unfold isFine; rw [List.all_eq_true]
structure GoodL (N : Nat) (ps : List Prm) : Prop where
  good : ∀ p, p ∈ ps → GoodP p
  apart : Apart ps
  small : ∀ p, p ∈ ps → (Ls p.f0).length ≤ N ∧ (Ls p.f1).length ≤ N
theorem GoodL.nil (N : Nat) : GoodL N [] := ⟨by simp, List.Pairwise.nil, by simp⟩
theorem addP_goodL {N : Nat} {ps : List Prm} (h : GoodL N ps) (nm q : List UInt8) (ok : Bool) (hn : lows nm = nm) (h1 : nm.length ≤ N) (h2 : q.length ≤ N) : GoodL N (addP ps nm q ok) := by
  unfold addP
  split
  · rename_i hc
    rw [Bool.and_eq_true, Bool.and_eq_true] at hc
    split
    · exact h
    · rename_i hh
      have hf : (hasP ps (B nm)).2 = false := by simpa using hh
      have hg : GoodP (⟨B nm, B q⟩ : Prm) := ⟨by rw [Ls_B]; exact hc.1.2, by rw [Ls_B]; exact hn, by rw [Ls_B]; exact hc.2⟩
      refine ⟨fun p hp => ?_, ?_, fun p hp => ?_⟩
      · rcases List.mem_append.1 hp with hp | hp
        · exact h.good p hp
        · rw [List.mem_singleton.1 hp]; exact hg
      · refine List.pairwise_append.2 ⟨h.apart, by simp, fun p hp q' hq => ?_⟩
        rw [List.mem_singleton.1 hq]
        exact hasP_none _ _ hf p hp
      · rcases List.mem_append.1 hp with hp | hp
        · exact h.small p hp
        · rw [List.mem_singleton.1 hp, Ls_B, Ls_B]; exact ⟨h1, h2⟩
  · exact h
theorem addP_length (ps : List Prm) (nm q : List UInt8) (ok : Bool) : (addP ps nm q ok).length ≤ ps.length + 1 := by
  unfold addP
  split
  · split <;> simp
  · omega
theorem dropWhile_len {α : Type} (p : α → Bool) (l : List α) : (l.dropWhile p).length ≤ l.length := (List.dropWhile_sublist p).length_le
theorem trimLeft_len' (l cs : List UInt8) : (Lib.trimLeftS l cs).length ≤ l.length := dropWhile_len _ _
theorem trimRight_len' (l cs : List UInt8) : (Lib.trimRightS l cs).length ≤ l.length := by
  unfold Lib.trimRightS
  rw [List.length_reverse]
  exact Nat.le_trans (dropWhile_len _ _) (by simp)
theorem cutc_len' (c : UInt8) : ∀ l : List UInt8, (cutc c l).1.length ≤ l.length ∧ (cutc c l).2.1.length ≤ l.length
  | [] => by simp [cutc]
  | b :: l => by
    have := cutc_len' c l
    unfold cutc
    split <;> simp <;> omega
theorem lows_len (l : List UInt8) : (lows l).length = l.length := by simp [lows]
theorem paramQ_len' (r : List UInt8) : (paramQ r).1.length ≤ r.length ∧ (paramQ r).2.1.length ≤ r.length := by
  unfold paramQ
  split
  · have := qv_len r.tail.length r.tail (Nat.le_refl _)
    have h2 : r.tail.length ≤ r.length := by simp
    constructor <;> simp only <;> omega
  · refine ⟨?_, Nat.le_refl _⟩
    exact Nat.le_trans (trimRight_len' _ _) (cutc_len' 59 r).1
theorem paramP_goodL {N : Nat} {ps : List Prm} (h : GoodL N ps) (rest : List UInt8) (hr : rest.length ≤ N) : GoodL N (paramP ps rest).1 ∧ (paramP ps rest).1.length ≤ ps.length + 1 ∧ (paramP ps rest).2.1.length ≤ N := by
  have h1 := trimLeft_len' rest blanksL
  unfold paramP
  simp only
  split
  · exact ⟨h, by simp, hr⟩
  · split
    · refine ⟨h, by simp, ?_⟩
      simp only [List.length_drop]; omega
    · have hd : ((Lib.trimLeftS rest blanksL).drop ((Lib.indexAny (Lib.trimLeftS rest blanksL) [59, 61]).toNat + 1)).length ≤ N := by rw [List.length_drop]; omega
      have hq := paramQ_len' ((Lib.trimLeftS rest blanksL).drop ((Lib.indexAny (Lib.trimLeftS rest blanksL) [59, 61]).toNat + 1))
      refine ⟨addP_goodL h _ _ _ (lows_lows _) ?_ (by omega), addP_length _ _ _ _, ?_⟩
      · rw [lows_len, List.length_take]; omega
      · have := (cutc_len' 59 (paramQ ((Lib.trimLeftS rest blanksL).drop ((Lib.indexAny (Lib.trimLeftS rest blanksL) [59, 61]).toNat + 1))).2.1).2
        exact Nat.le_trans this (by omega)
theorem paramsN_goodL {N : Nat} : ∀ (n : Nat) (more : Bool) (ps : List Prm) (rest : List UInt8), GoodL N ps → rest.length ≤ N → GoodL N (paramsN n more ps rest) ∧ (paramsN n more ps rest).length ≤ ps.length + n
  | 0, _, ps, _, h, _ => ⟨h, by simp [paramsN]⟩
  | n + 1, more, ps, rest, h, hr => by
    unfold paramsN
    split
    · obtain ⟨h1, h2, h3⟩ := paramP_goodL h rest hr
      have ih := paramsN_goodL n (paramP ps rest).2.2 (paramP ps rest).1 (paramP ps rest).2.1 h1 h3
      exact ⟨ih.1, by omega⟩
    · exact ⟨h, by omega⟩
theorem parse_good (l : List UInt8) : parseP l = ([], [], [], false) ∨ ∃ mj mn ps, parseP l = (mj, mn, ps, true) ∧ isTok mj = true ∧ isTok mn = true ∧ lows mj = mj ∧ lows mn = mn ∧ GoodL l.length ps ∧ ps.length ≤ l.length + 1 ∧ mj.length ≤ l.length ∧ mn.length ≤ l.length := by
  have e1 : (Lib.trimS l blanksL).length ≤ l.length := by unfold Lib.trimS; exact Nat.le_trans (trimLeft_len' _ _) (trimRight_len' _ _)
  have e2 := cutc_len' 47 (Lib.trimS l blanksL)
  have e3 := cutc_len' 59 (cutc 47 (Lib.trimS l blanksL)).2.1
  have e4 := trimRight_len' (cutc 59 (cutc 47 (Lib.trimS l blanksL)).2.1).1 blanksL
  unfold parseP
  simp only
  split
  · rename_i h1
    split
    · rename_i h2
      right
      have hp := paramsN_goodL (N := l.length) ((cutc 59 (cutc 47 (Lib.trimS l blanksL)).2.1).2.1.length + 1) (cutc 59 (cutc 47 (Lib.trimS l blanksL)).2.1).2.2 [] (cutc 59 (cutc 47 (Lib.trimS l blanksL)).2.1).2.1 (GoodL.nil _) (by omega)
      refine ⟨_, _, _, rfl, isTok_lows _ h1, isTok_lows _ h2, lows_lows _, lows_lows _, hp.1, ?_, ?_, ?_⟩
      · have := hp.2; simp only [List.length_nil] at this; omega
      · rw [lows_len]; omega
      · rw [lows_len]; omega
    · left; rfl
  · left; rfl
end Go.Proofs.YteehjlciajhdoaaGreatDoor.X
namespace Go.Proofs.YteehjlciajhdoaaGreatDoor.X
open Go.RowKit Go.Proofs.YteehjlciajhdoaaGreatDoorW.PrintWords Go.Proofs.YteehjlciajhdoaaGreatDoorW.PrintLast Go.Proofs.YteehjlciajhdoaaGreatDoorW.PrintMore
attribute [local go_sem] max2_int min2_int max_two min_two max_three min_three max_four min_four
set_option linter.unusedVariables false
set_option linter.unusedSimpArgs false
def ostiarykeep_Few.f (a0 : ByteArray) (a1 : Int) : Option (ByteArray) := if (a0.size : Int) > a1 then (if 0 ≤ a1 then (if a1 ≤ (a0.size : Int) then (some (a0.extract 0 (a1 : Int).toNat)) else (none)) else (none)) else (some a0)
end Go.Proofs.YteehjlciajhdoaaGreatDoor.X
namespace Go.Proofs.YteehjlciajhdoaaGreatDoor.X
set_option linter.unusedVariables false
set_option linter.unusedSimpArgs false
open Go.RowKit Go.Proofs.YteehjlciajhdoaaGreatDoorW.PrintWords Go.Proofs.YteehjlciajhdoaaGreatDoorW.PrintLast Go.Proofs.YteehjlciajhdoaaGreatDoorW.PrintMore
theorem strs_open {w : World} {A : Option Addr} {l : List ByteArray} (h : Kd.C Kd.string w A l.length l) (h0 : 0 < l.length) :
    ∃ b o, A = some ⟨b, o, none⟩ ∧ b < w.heap.size ∧ ∀ (j : Nat) x, l[j]? = some x → w.cell? ⟨b, o + j, none⟩ = some (.string x) := by
  have hr := Kd.reads_of_C (d := ByteArray.empty) h
  obtain ⟨ad, e, hc⟩ := hr.2.2 h0
  have h1 := hc 0 h0
  have hsp : ad.spot = none := by
    cases hs : ad.spot with
    | none => rfl
    | some s =>
      have : w.cell? (ad.add 0) = none := by
        simp only [Addr.add, if_true, World.cell?, hs]
        split <;> rfl
      rw [this] at h1
      cases h1
  obtain ⟨b, o, sp⟩ := ad
  simp only at hsp
  subst hsp
  refine ⟨b, o, e, ?_, ?_⟩
  · have := World.block_lt_of_cell? w _ h1
    simpa [Addr.add] using this
  · intro j x hj
    obtain ⟨hl, hx⟩ := List.getElem?_eq_some_iff.1 hj
    have h2 := hc j hl
    have ha : (⟨b, o, none⟩ : Addr).add j = ⟨b, o + j, none⟩ := by unfold Addr.add; split <;> simp_all
    rw [ha] at h2
    rw [h2, List.getD_eq_getElem?_getD, hj]
    rfl
def joinB (l0 : List ByteArray) (a1 : ByteArray) : ByteArray := ⟨(Lib.join (l0.map (·.data.toList)) a1.data.toList).toArray⟩
def strings_Join.f (l0 : List ByteArray) (a1 : ByteArray) : Option ByteArray :=
  if l0.length ≤ 140737488355328 then if (joinB l0 a1).size ≤ 140737488355328 then some (joinB l0 a1) else none else none
theorem strings_Join.calls (A0 : Option Addr) (c0 : Nat) (l0 : List ByteArray) (a1 : ByteArray) (r : ByteArray) (w : World) (hr0 : Kd.C Kd.string w A0 l0.length l0) (hc0 : l0.length ≤ c0) (h : strings_Join.f l0 a1 = some r) :
    Calls Tryz.prog 141 #[.slice A0 l0.length c0, .string a1] w fun e w' => e = .returned (.string r) ∧ Below w.heap.size w w' := by
  unfold strings_Join.f at h
  split at h
  · split at h
    · rename_i h1 h2
      obtain rfl := Option.some.inj h
      cases l0 with
      | nil =>
        refine (Tryz.strings_Join_none A0 c0 a1 w).mono fun e w' ⟨h3, h4⟩ => ⟨h3, h4 ▸ Below.refl _ _⟩
      | cons x l =>
        obtain ⟨b, o, rfl, hb, hc⟩ := strs_open hr0 (by simp)
        refine Tryz.strings_Join b o c0 (x :: l) a1 w hc hb h1 hc0 ?_
        have : (joinB (x :: l) a1).size = (Lib.join ((x :: l).map (·.data.toList)) a1.data.toList).length := by
          unfold joinB; exact List.size_toArray
        omega
    · cases h
  · cases h
end Go.Proofs.YteehjlciajhdoaaGreatDoor.X
namespace Go.Proofs.YteehjlciajhdoaaGreatDoor.X
open Go.RowKit Go.Proofs.YteehjlciajhdoaaGreatDoorW.PrintWords Go.Proofs.YteehjlciajhdoaaGreatDoorW.PrintLast Go.Proofs.YteehjlciajhdoaaGreatDoorW.PrintMore
attribute [local go_sem] max2_int min2_int max_two min_two max_three min_three max_four min_four
set_option linter.unusedVariables false
set_option linter.unusedSimpArgs false
def headers_is.f (a0_0 : ByteArray) (a0_1 : ByteArray) (a1 : ByteArray) : Option (Bool) := (infra_Lower.f a0_0).bind fun t102 => ((infra_Lower.f a1).bind fun t103 => (some (t102.toList == t103.toList)))
set_option maxHeartbeats 8000000 in
set_option maxRecDepth 100000 in
theorem headers_is.calls (a0_0 : ByteArray) (a0_1 : ByteArray) (a1 : ByteArray) (r : Bool) (w : World) (h : headers_is.f a0_0 a0_1 a1 = some r) :
    Calls Tryz.prog 86 #[.agg #[.string a0_0, .string a0_1], .string a1] w fun e w' => e = .returned (.bool r) ∧ Below w.heap.size w w' := by
  have hu55 := Tryz.underlying55
  have HB := Aside0.mk (Below.refl w.heap.size w)
  have H : ((infra_Lower.f a0_0).bind fun t102 => ((infra_Lower.f a1).bind fun t103 => (some (t102.toList == t103.toList)))) = some r := h
  clear h
  replace H := Option.bind_eq_some_iff.mp H
  obtain ⟨t102, A30, H⟩ := H
  replace H : ((infra_Lower.f a1).bind fun t103 => (some (t102.toList == t103.toList))) = some r := H
  have A3 := Aside0.mk A30
  clear A30
  replace H := Option.bind_eq_some_iff.mp H
  obtain ⟨t103, A40, H⟩ := H
  replace H : (some (t102.toList == t103.toList)) = some r := H
  have A4 := Aside0.mk A40
  clear A40
  obtain rfl := Option.some.inj H
  go_enter Tryz.func86, Tryz.ntmps86
  go_wp2_with (first | ((with_reducible refine gate_dst (N := 2) rfl ?_); refine box_event ?hg (N := 2) ?hd (cs := #[.string a0_0, .string a0_1]) (t := 55) ?hr ?_; (case hd => rfl); (case hg => rfl); (case hr => first | (go_simp; done) | (go_simp; rfl)); intro gb101 hg w5 hbox hb; have n0_ := Aside0.mk (below_step (by repeat (first | (with_reducible first | exact HB.out | apply below_alloc | apply pw_below_drewN | apply below_drew1) | exact HB.out)) hb); have n1_ := Aside0.mk (hbox); have n2_ := Aside0.mk ((by rw [hg]; exact (below_size (by repeat (first | (with_reducible first | exact HB.out | apply below_alloc | apply pw_below_drewN | apply below_drew1) | exact HB.out))) : w.heap.size ≤ gb101)); have n3_ := Aside0.mk ((by rw [hg]; exact (below_size (by repeat (first | (with_reducible first | exact HB.out | apply below_alloc | apply pw_below_drewN | apply below_drew1) | exact HB.out))) : w.heap.size ≤ gb101)); clear HB; have HB := n0_; have BK101 := n1_; have GW101 := n2_; have GE101 := n3_; clear n0_ n1_ n2_ n3_; clear hb hbox hg; have hcz6_0 : w5.cell? ⟨gb101, 0, none⟩ = some (.string a0_0) := (blk_cell BK101.out 0).trans rfl; have hcz6_1 : w5.cell? ⟨gb101, 1, none⟩ = some (.string a0_1) := (blk_cell BK101.out 1).trans rfl; have hfz6_0 := blk_frozen BK101.out 0; have hfz6_1 := blk_frozen BK101.out 1) | ((with_reducible refine gate_callee (f := 65) rfl ?_); refine goesL_ (some 7) rfl rfl Tryz.func65 (by kernel_rfl) rfl #[.string a0_0] rfl (by (try simp only [List.map_toArray, List.map_cons, List.map_nil]); first | done | rfl | (simp only [List.length_drop, List.length_take]; rfl)) ?_; (with_reducible refine (infra_Lower.calls a0_0 t102 _ A3.out).mono ?_); rintro e w7 ⟨rfl, hb⟩; refine ⟨_, rfl, ?_⟩; have n0_ := Aside0.mk (blk_below (g := gb101) (o := .cells #[.string a0_0, .string a0_1] 55 (0, 0)) (by (with_reducible repeat (first | refine blk_drewN ?_ _ | refine blk_drew ?_ | refine blk_alloc ?_ _)); exact BK101.out) hb); have n1_ := Aside0.mk (below_step (by repeat (first | (with_reducible first | exact HB.out | apply below_alloc | apply pw_below_drewN | apply below_drew1 | refine below_set ?_ GE101.out) | exact HB.out)) hb); clear BK101; clear HB; have BK101 := n0_; have HB := n1_; clear n0_ n1_; (try clear hb); (try clear hb2); (try clear hk); (try clear hi)) | ((with_reducible refine gate_callee (f := 65) rfl ?_); refine goesL_ (some 9) rfl rfl Tryz.func65 (by kernel_rfl) rfl #[.string a1] rfl (by (try simp only [List.map_toArray, List.map_cons, List.map_nil]); first | done | rfl | (simp only [List.length_drop, List.length_take]; rfl)) ?_; (with_reducible refine (infra_Lower.calls a1 t103 _ A4.out).mono ?_); rintro e w8 ⟨rfl, hb⟩; refine ⟨_, rfl, ?_⟩; have n0_ := Aside0.mk (blk_below (g := gb101) (o := .cells #[.string a0_0, .string a0_1] 55 (0, 0)) (by (with_reducible repeat (first | refine blk_drewN ?_ _ | refine blk_drew ?_ | refine blk_alloc ?_ _)); exact BK101.out) hb); have n1_ := Aside0.mk (below_step (by repeat (first | (with_reducible first | exact HB.out | apply below_alloc | apply pw_below_drewN | apply below_drew1 | refine below_set ?_ GE101.out) | exact HB.out)) hb); clear BK101; clear HB; have BK101 := n0_; have HB := n1_; clear n0_ n1_; (try clear hb); (try clear hb2); (try clear hk); (try clear hi)))
  go_ret
  exact ⟨by first | rfl | (simp [errW_none, errW_some] <;> rfl) | (simp [*, errW_none, errW_some] <;> rfl), by repeat (first | (with_reducible first | exact HB.out | apply below_alloc | apply pw_below_drewN | apply below_drew1 | refine below_set ?_ GE101.out) | exact HB.out)⟩
end Go.Proofs.YteehjlciajhdoaaGreatDoor.X
namespace Go.Proofs.YteehjlciajhdoaaGreatDoor.X
open Go.RowKit Go.Proofs.YteehjlciajhdoaaGreatDoorW.PrintWords Go.Proofs.YteehjlciajhdoaaGreatDoorW.PrintLast Go.Proofs.YteehjlciajhdoaaGreatDoorW.PrintMore
attribute [local go_sem] max2_int min2_int max_two min_two max_three min_three max_four min_four
set_option linter.unusedVariables false
set_option linter.unusedSimpArgs false
def headers_Get.l0 : Nat → ByteArray → List ByteArray → List (S55) → Int → Int → Option (ByteArray × Bool)
  | 0, _, _, _, _, _ => none
  | k + 1, x1, x6, x9, x10, x11 => if x11 < x10 then (if 0 ≤ x11 then (if x11 < (x9.length : Int) then ((headers_is.f ((rd_T55 x9 x11).f0) ((rd_T55 x9 x11).f1) x1).bind fun t103 => (if t103 = true then (if x6.length < 8796093022208 then (headers_Get.l0 k x1 (x6 ++ [(rd_T55 x9 x11).f1]) x9 x10 (wrap64 (x11 + 1))) else (none)) else (headers_Get.l0 k x1 x6 x9 x10 (wrap64 (x11 + 1))))) else (none)) else (none)) else ((strings_Join.f x6 (⟨#[44, 32]⟩ : ByteArray)).bind fun t107 => (some (t107, decide ((x6.length : Int) > 0))))
def headers_Get.f (k : Nat) (l0 : List (S55)) (a1 : ByteArray) : Option (ByteArray × Bool) := headers_Get.l0 k a1 ([] : List ByteArray) l0 (l0.length : Int) 0
theorem headers_Get.mono_l : ∀ k, (∀ y0 y1 y2 y3 y4, LeO (headers_Get.l0 k y0 y1 y2 y3 y4) (headers_Get.l0 (k + 1) y0 y1 y2 y3 y4))
  | 0 => fun _ _ _ _ _ r h => by simp [headers_Get.l0] at h
  | k + 1 => by
    have ih0 := headers_Get.mono_l k
    · intro y0 y1 y2 y3 y4
      unfold headers_Get.l0
      repeat' first
      | (with_reducible exact ih0 _ _ _ _ _)
      | (with_reducible exact LeO.refl _)
      | (with_reducible exact LeO.none _)
      | (with_reducible refine LeO.ite ?_ ?_)
      | (with_reducible refine LeO.bind ?_ (fun _ => ?_))
      | exact ih0 _ _ _ _ _
      | exact LeO.none _
      | refine LeO.ite ?_ ?_
      | refine LeO.bind ?_ (fun _ => ?_)
theorem headers_Get.mono : ∀ a0 a1 k, LeO (headers_Get.f k a0 a1) (headers_Get.f (k + 1) a0 a1) := by
  intro a0 a1 k
  have ih0 := headers_Get.mono_l k
  unfold headers_Get.f
  repeat' first
      | (with_reducible exact ih0 _ _ _ _ _)
      | (with_reducible exact LeO.refl _)
      | (with_reducible exact LeO.none _)
      | (with_reducible refine LeO.ite ?_ ?_)
      | (with_reducible refine LeO.bind ?_ (fun _ => ?_))
      | exact ih0 _ _ _ _ _
      | exact LeO.none _
      | refine LeO.ite ?_ ?_
      | refine LeO.bind ?_ (fun _ => ?_)
set_option maxHeartbeats 8000000 in
set_option maxRecDepth 100000 in
theorem headers_Get.calls (k : Nat) (A0 : Option Addr) (c0 : Nat) (l0 : List (S55)) (a1 : ByteArray) (r1 : ByteArray) (r2 : Bool) (w : World) (hr0 : Kd.C k55 w A0 l0.length l0) (hc0 : l0.length ≤ c0) (h : headers_Get.f k l0 a1 = some (r1, r2)) :
    Calls Tryz.prog 87 #[.slice A0 l0.length c0, .string a1] w fun e w' => e = .returned (.tuple #[.string r1, .bool r2]) ∧ Below w.heap.size w w' := by
  have hu55 := Tryz.underlying55
  have HR0 := Aside0.mk hr0
  have HC0 := Aside0.mk hc0
  clear hr0 hc0
  have HB := Aside0.mk (Below.refl w.heap.size w)
  have H : (headers_Get.l0 k a1 ([] : List ByteArray) l0 (l0.length : Int) 0) = some (r1, r2) := h
  clear h
  have H' := Aside0.mk H
  clear H
  go_enter Tryz.func87, Tryz.ntmps87
  go_wp2
  go_loopg [6, 11] k (fun kq v6 v11 w' => ∃ (x6_1 : List ByteArray) (x11_1 : Int), v11 = .int .i64 x11_1 ∧ Aside0 (headers_Get.l0 kq a1 x6_1 l0 (l0.length : Int) x11_1 = some (r1, r2)) ∧ Aside0 (kq ≤ k) ∧ Aside0 (Kd.R Kd.string 9 w' w.heap.size (fun _ => True) v6 x6_1) ∧ Aside0 (Below w.heap.size w w'))
  case atStart => exact ⟨(([] : List ByteArray)), (0), (by first | rfl | (simp; done) | (simp [*]; done)), H', ⟨Nat.le_refl _⟩, ⟨by first | exact Kd.R_nil _ _ _ _ _ | exact Kd.N_nil _ _ _ _ _ | exact Kd.V_nil _ _ _ _ _ | exact Kd.Q_nil _ _ _ _ _ | exact Kd.S_nil _ _ _ _ _⟩, ⟨by repeat (first | (with_reducible first | exact HB.out | apply below_alloc | apply pw_below_drewN | apply below_drew1) | exact HB.out)⟩⟩
  case round =>
    clear H'
    try clear p2
    obtain ⟨x6_1, x11_1, rfl, HA, HK1, HO_6, HB⟩ := hrel
    cases gk with
    | zero => exact absurd HA.out (by simp [headers_Get.l0])
    | succ k1 =>
      have H := HA.out
      clear HA
      simp only [headers_Get.l0] at H
      by_cases c3 : x11_1 < (l0.length : Int)
      · rw [if_pos c3] at H
        have c3b0 : decide (x11_1 < (l0.length : Int)) = true := decide_eq_true c3
        clear c3
        by_cases c4 : 0 ≤ x11_1
        · rw [if_pos c4] at H
          have c4b0 : decide (0 ≤ x11_1) = true := decide_eq_true c4
          clear c4
          by_cases c5 : x11_1 < (l0.length : Int)
          · rw [if_pos c5] at H
            have c5b0 : decide (x11_1 < (l0.length : Int)) = true := decide_eq_true c5
            clear c5
            replace H := Option.bind_eq_some_iff.mp H
            obtain ⟨t103, A60, H⟩ := H
            replace H : (if t103 = true then (if x6_1.length < 8796093022208 then (headers_Get.l0 k1 a1 (x6_1 ++ [(rd_T55 l0 x11_1).f1]) l0 (l0.length : Int) (wrap64 (x11_1 + 1))) else (none)) else (headers_Get.l0 k1 a1 x6_1 l0 (l0.length : Int) (wrap64 (x11_1 + 1)))) = some (r1, r2) := H
            have A6 := Aside0.mk A60
            clear A60
            by_cases c7 : t103 = true
            · subst c7
              have H1 : (if x6_1.length < 8796093022208 then (headers_Get.l0 k1 a1 (x6_1 ++ [(rd_T55 l0 x11_1).f1]) l0 (l0.length : Int) (wrap64 (x11_1 + 1))) else (none)) = some (r1, r2) := by rw [if_pos rfl] at H; exact H
              clear H
              have H := H1
              clear H1
              by_cases c8 : x6_1.length < 8796093022208
              · rw [if_pos c8] at H
                have LMc8 := Aside0.mk c8
                clear c8
                obtain ⟨y104, hy104⟩ : ∃ y_ : List ByteArray, y_ = (x6_1 ++ [(rd_T55 l0 x11_1).f1]) := ⟨_, rfl⟩
                replace H : (headers_Get.l0 k1 a1 y104 l0 (l0.length : Int) (wrap64 (x11_1 + 1))) = some (r1, r2) := by first | (rw [hy104]; with_reducible exact H) | (have H2_ := (Option.bind_some _ _).symm.trans H; rw [hy104]; with_reducible exact H2_) | (have H2_ := (Option.bind_some _ _).symm.trans H; with_reducible exact H2_) | with_reducible exact H | (rw [hy104]; exact H) | exact H
                have Ny104 := Aside0.mk hy104
                clear hy104
                have H' := Aside0.mk H
                clear H
                have p101 : 0 ≤ (x11_1 : Int) := of_decide_eq_true (by first | (with_reducible assumption) | assumption)
                have q101 : x11_1 < (l0.length : Int) := of_decide_eq_true (by first | (with_reducible assumption) | assumption)
                obtain ⟨ad101, e101, hx101_0, hx101_1⟩ := at_T55 HR0.out x11_1 p101 q101
                cases e101
                replace hx101_0 := (HB.out.cell (World.block_lt_of_cell? w _ hx101_0)).trans hx101_0
                replace hx101_1 := (HB.out.cell (World.block_lt_of_cell? w _ hx101_1)).trans hx101_1
                replace p101 := eq_true p101
                replace q101 := eq_true q101
                go_wp2_with (first | ((with_reducible refine gate_dst (N := 8) rfl ?_); refine box_event ?hg (N := 8) ?hd (cs := #[.string (⟨#[]⟩ : ByteArray), .string (⟨#[]⟩ : ByteArray)]) (t := 55) ?hr ?_; (case hd => rfl); (case hg => rfl); (case hr => first | (go_simp; done) | (go_simp; rfl)); intro gb102 hg w9 hbox hb; have n0_ := Aside0.mk (Kd.R_below (by (with_reducible repeat (first | apply Kd.R_alloc | apply Kd.R_drewN | apply Kd.R_drew)); exact HO_6.out) hb); have n1_ := Aside0.mk (below_step (by repeat (first | (with_reducible first | exact HB.out | apply below_alloc | apply pw_below_drewN | apply below_drew1) | exact HB.out)) hb); have n2_ := Aside0.mk (hbox); have n3_ := Aside0.mk ((by rw [hg]; exact (below_size (by repeat (first | (with_reducible first | exact HB.out | apply below_alloc | apply pw_below_drewN | apply below_drew1) | exact HB.out))) : w.heap.size ≤ gb102)); have n4_ := Aside0.mk ((by rw [hg]; exact (below_size (by repeat (first | (with_reducible first | exact HB.out | apply below_alloc | apply pw_below_drewN | apply below_drew1) | exact HB.out))) : w.heap.size ≤ gb102)); clear HO_6; clear HB; have HO_6 := n0_; have HB := n1_; have BK102 := n2_; have GW102 := n3_; have GE102 := n4_; clear n0_ n1_ n2_ n3_ n4_; clear hb hbox hg; have hcz10_0 : w9.cell? ⟨gb102, 0, none⟩ = some (.string (⟨#[]⟩ : ByteArray)) := (blk_cell BK102.out 0).trans rfl; have hcz10_1 : w9.cell? ⟨gb102, 1, none⟩ = some (.string (⟨#[]⟩ : ByteArray)) := (blk_cell BK102.out 1).trans rfl; have hfz10_0 := blk_frozen BK102.out 0; have hfz10_1 := blk_frozen BK102.out 1) | ((with_reducible refine gate_callee (f := 86) rfl ?_); refine goesL_ (some 17) rfl rfl Tryz.func86 (by kernel_rfl) rfl #[.agg #[.string ((rd_T55 l0 x11_1).f0), .string ((rd_T55 l0 x11_1).f1)], .string a1] rfl (by (try simp only [List.map_toArray, List.map_cons, List.map_nil]); first | done | rfl | (simp only [List.length_drop, List.length_take]; rfl)) ?_; (with_reducible refine (headers_is.calls ((rd_T55 l0 x11_1).f0) ((rd_T55 l0 x11_1).f1) a1 true _ A6.out).mono ?_); rintro e w11 ⟨rfl, hb⟩; refine ⟨_, rfl, ?_⟩; have n0_ := Aside0.mk (Kd.R_below (by (with_reducible repeat (first | apply Kd.R_alloc | apply Kd.R_drewN | apply Kd.R_drew)); exact (Kd.R_mono (Kd.R_far (p := ⟨gb102, 1, none⟩) (Kd.R_far (p := ⟨gb102, 0, none⟩) (Kd.R_types HO_6.out BK102.out (by decide)) (fun _ hk => hk.2) (.string ((rd_T55 l0 x11_1).f0))) (fun _ hk => hk.2) (.string ((rd_T55 l0 x11_1).f1))) (fun _ h_ => h_.1))) hb); have n1_ := Aside0.mk (blk_below (g := gb102) (o := .cells #[.string ((rd_T55 l0 x11_1).f0), .string ((rd_T55 l0 x11_1).f1)] 55 (0, 0)) (by (with_reducible repeat (first | refine blk_drewN ?_ _ | refine blk_drew ?_ | refine blk_alloc ?_ _)); refine blk_put (cs := #[.string ((rd_T55 l0 x11_1).f0), .string (⟨#[]⟩ : ByteArray)]) ?_ 1 _ rfl; (with_reducible repeat (first | refine blk_drewN ?_ _ | refine blk_drew ?_ | refine blk_alloc ?_ _)); refine blk_put (cs := #[.string (⟨#[]⟩ : ByteArray), .string (⟨#[]⟩ : ByteArray)]) ?_ 0 _ rfl; (with_reducible repeat (first | refine blk_drewN ?_ _ | refine blk_drew ?_ | refine blk_alloc ?_ _)); exact BK102.out) hb); have n2_ := Aside0.mk (below_step (by repeat (first | (with_reducible first | exact HB.out | apply below_alloc | apply pw_below_drewN | apply below_drew1 | refine below_set ?_ GE102.out) | exact HB.out)) hb); clear HO_6; clear BK102; clear HB; have HO_6 := n0_; have BK102 := n1_; have HB := n2_; clear n0_ n1_ n2_; (try clear hb); (try clear hb2); (try clear hk); (try clear hi); have hcz12_0 : w11.cell? ⟨gb102, 0, none⟩ = some (.string ((rd_T55 l0 x11_1).f0)) := (blk_cell BK102.out 0).trans rfl; have hcz12_1 : w11.cell? ⟨gb102, 1, none⟩ = some (.string ((rd_T55 l0 x11_1).f1)) := (blk_cell BK102.out 1).trans rfl; have hfz12_0 := blk_frozen BK102.out 0; have hfz12_1 := blk_frozen BK102.out 1) | ((with_reducible refine gate_builtin (b := .append) (xs := #[.tmp 18, .tmp 21]) rfl ?_); at_builtin; refine Kd.R_append Kd.string (w0 := w) w.heap.size rfl (.tmp 18) (.tmp 21) 68 9 (.string ⟨#[]⟩) 16 rfl Tryz.underlying68 info9 rfl (by decide) (by omega) u6 x6_1 ((rd_T55 l0 x11_1).f1) [.string ((rd_T55 l0 x11_1).f1)] (fun _ => True) (fun _ => False) rfl rfl ?aP (fun _ hk => hk.elim) ?aF ?aO ?aB ?aS ?aL ?_; (case aP => exact rfl); (case aB => exact (by repeat (first | (with_reducible first | exact HB.out | apply below_alloc | apply pw_below_drewN | apply below_drew1 | refine below_set ?_ GE102.out) | exact HB.out))); (case aF => exact (fun _ _ => trivial)); (case aO => exact (by (with_reducible repeat (first | apply Kd.R_alloc | apply Kd.R_drewN | apply Kd.R_drew)); exact HO_6.out)); (case aS => exact (below_size (by repeat (first | (with_reducible first | exact HB.out | apply below_alloc | apply pw_below_drewN | apply below_drew1 | refine below_set ?_ GE102.out) | exact HB.out)))); (case aL => have := LMc8.out; omega); intro v105 w13 ho hb hg hat; rw [← Ny104.out] at ho; have n0_ := Aside0.mk (blk_grown (g := gb102) (o := .cells #[.string ((rd_T55 l0 x11_1).f0), .string ((rd_T55 l0 x11_1).f1)] 55 (0, 0)) (by (with_reducible repeat (first | refine blk_drewN ?_ _ | refine blk_drew ?_ | refine blk_alloc ?_ _)); exact BK102.out) hg (Kd.R_ne HO_6.out BK102.out (by decide))); have n1_ := Aside0.mk (hb); have n2_ := Aside0.mk (ho); clear BK102; clear HB; clear HO_6; have BK102 := n0_; have HB := n1_; have HO106 := n2_; clear n0_ n1_ n2_; clear ho hb hg hat))
                go_roundg k1
                case measure => have := HK1.out; omega
                case rel => exact ⟨(y104), (wrap64 (x11_1 + 1)), (by first | rfl | (simp; done) | (simp [*]; done)), H', ⟨by have := HK1.out; omega⟩, ⟨by (with_reducible repeat (first | apply Kd.R_alloc | apply Kd.R_drewN | apply Kd.R_drew)); exact HO106.out⟩, ⟨by repeat (first | (with_reducible first | exact HB.out | apply below_alloc | apply pw_below_drewN | apply below_drew1 | refine below_set ?_ GE102.out) | exact HB.out)⟩⟩
              · rw [if_neg c8] at H
                exact absurd H (by simp)
            · replace c7 := Bool.eq_false_iff.mpr c7
              subst c7
              have H1 : (headers_Get.l0 k1 a1 x6_1 l0 (l0.length : Int) (wrap64 (x11_1 + 1))) = some (r1, r2) := by rw [if_neg (show ¬ (false = true) by decide)] at H; exact H
              clear H
              have H := H1
              clear H1
              have H' := Aside0.mk H
              clear H
              have p101 : 0 ≤ (x11_1 : Int) := of_decide_eq_true (by first | (with_reducible assumption) | assumption)
              have q101 : x11_1 < (l0.length : Int) := of_decide_eq_true (by first | (with_reducible assumption) | assumption)
              obtain ⟨ad101, e101, hx101_0, hx101_1⟩ := at_T55 HR0.out x11_1 p101 q101
              cases e101
              replace hx101_0 := (HB.out.cell (World.block_lt_of_cell? w _ hx101_0)).trans hx101_0
              replace hx101_1 := (HB.out.cell (World.block_lt_of_cell? w _ hx101_1)).trans hx101_1
              replace p101 := eq_true p101
              replace q101 := eq_true q101
              go_wp2_with (first | ((with_reducible refine gate_dst (N := 8) rfl ?_); refine box_event ?hg (N := 8) ?hd (cs := #[.string (⟨#[]⟩ : ByteArray), .string (⟨#[]⟩ : ByteArray)]) (t := 55) ?hr ?_; (case hd => rfl); (case hg => rfl); (case hr => first | (go_simp; done) | (go_simp; rfl)); intro gb102 hg w14 hbox hb; have n0_ := Aside0.mk (Kd.R_below (by (with_reducible repeat (first | apply Kd.R_alloc | apply Kd.R_drewN | apply Kd.R_drew)); exact HO_6.out) hb); have n1_ := Aside0.mk (below_step (by repeat (first | (with_reducible first | exact HB.out | apply below_alloc | apply pw_below_drewN | apply below_drew1) | exact HB.out)) hb); have n2_ := Aside0.mk (hbox); have n3_ := Aside0.mk ((by rw [hg]; exact (below_size (by repeat (first | (with_reducible first | exact HB.out | apply below_alloc | apply pw_below_drewN | apply below_drew1) | exact HB.out))) : w.heap.size ≤ gb102)); have n4_ := Aside0.mk ((by rw [hg]; exact (below_size (by repeat (first | (with_reducible first | exact HB.out | apply below_alloc | apply pw_below_drewN | apply below_drew1) | exact HB.out))) : w.heap.size ≤ gb102)); clear HO_6; clear HB; have HO_6 := n0_; have HB := n1_; have BK102 := n2_; have GW102 := n3_; have GE102 := n4_; clear n0_ n1_ n2_ n3_ n4_; clear hb hbox hg; have hcz15_0 : w14.cell? ⟨gb102, 0, none⟩ = some (.string (⟨#[]⟩ : ByteArray)) := (blk_cell BK102.out 0).trans rfl; have hcz15_1 : w14.cell? ⟨gb102, 1, none⟩ = some (.string (⟨#[]⟩ : ByteArray)) := (blk_cell BK102.out 1).trans rfl; have hfz15_0 := blk_frozen BK102.out 0; have hfz15_1 := blk_frozen BK102.out 1) | ((with_reducible refine gate_callee (f := 86) rfl ?_); refine goesL_ (some 17) rfl rfl Tryz.func86 (by kernel_rfl) rfl #[.agg #[.string ((rd_T55 l0 x11_1).f0), .string ((rd_T55 l0 x11_1).f1)], .string a1] rfl (by (try simp only [List.map_toArray, List.map_cons, List.map_nil]); first | done | rfl | (simp only [List.length_drop, List.length_take]; rfl)) ?_; (with_reducible refine (headers_is.calls ((rd_T55 l0 x11_1).f0) ((rd_T55 l0 x11_1).f1) a1 false _ A6.out).mono ?_); rintro e w16 ⟨rfl, hb⟩; refine ⟨_, rfl, ?_⟩; have n0_ := Aside0.mk (Kd.R_below (by (with_reducible repeat (first | apply Kd.R_alloc | apply Kd.R_drewN | apply Kd.R_drew)); exact (Kd.R_mono (Kd.R_far (p := ⟨gb102, 1, none⟩) (Kd.R_far (p := ⟨gb102, 0, none⟩) (Kd.R_types HO_6.out BK102.out (by decide)) (fun _ hk => hk.2) (.string ((rd_T55 l0 x11_1).f0))) (fun _ hk => hk.2) (.string ((rd_T55 l0 x11_1).f1))) (fun _ h_ => h_.1))) hb); have n1_ := Aside0.mk (blk_below (g := gb102) (o := .cells #[.string ((rd_T55 l0 x11_1).f0), .string ((rd_T55 l0 x11_1).f1)] 55 (0, 0)) (by (with_reducible repeat (first | refine blk_drewN ?_ _ | refine blk_drew ?_ | refine blk_alloc ?_ _)); refine blk_put (cs := #[.string ((rd_T55 l0 x11_1).f0), .string (⟨#[]⟩ : ByteArray)]) ?_ 1 _ rfl; (with_reducible repeat (first | refine blk_drewN ?_ _ | refine blk_drew ?_ | refine blk_alloc ?_ _)); refine blk_put (cs := #[.string (⟨#[]⟩ : ByteArray), .string (⟨#[]⟩ : ByteArray)]) ?_ 0 _ rfl; (with_reducible repeat (first | refine blk_drewN ?_ _ | refine blk_drew ?_ | refine blk_alloc ?_ _)); exact BK102.out) hb); have n2_ := Aside0.mk (below_step (by repeat (first | (with_reducible first | exact HB.out | apply below_alloc | apply pw_below_drewN | apply below_drew1 | refine below_set ?_ GE102.out) | exact HB.out)) hb); clear HO_6; clear BK102; clear HB; have HO_6 := n0_; have BK102 := n1_; have HB := n2_; clear n0_ n1_ n2_; (try clear hb); (try clear hb2); (try clear hk); (try clear hi)))
              go_roundg k1
              case measure => have := HK1.out; omega
              case rel => exact ⟨(x6_1), (wrap64 (x11_1 + 1)), (by first | rfl | (simp; done) | (simp [*]; done)), H', ⟨by have := HK1.out; omega⟩, ⟨by (with_reducible repeat (first | apply Kd.R_alloc | apply Kd.R_drewN | apply Kd.R_drew)); exact HO_6.out⟩, ⟨by repeat (first | (with_reducible first | exact HB.out | apply below_alloc | apply pw_below_drewN | apply below_drew1 | refine below_set ?_ GE102.out) | exact HB.out)⟩⟩
          · rw [if_neg c5] at H
            exact absurd H (by simp)
        · rw [if_neg c4] at H
          exact absurd H (by simp)
      · rw [if_neg c3] at H
        have c3b0 : decide (x11_1 < (l0.length : Int)) = false := decide_eq_false c3
        clear c3
        replace H := Option.bind_eq_some_iff.mp H
        obtain ⟨t107, A170, H⟩ := H
        replace H : (some (t107, decide ((x6_1.length : Int) > 0))) = some (r1, r2) := H
        have A17 := Aside0.mk A170
        clear A170
        simp only [Option.some.injEq, Prod.mk.injEq] at H
        obtain ⟨rfl, rfl⟩ := H
        obtain ⟨Ao18, co18, eo18⟩ := Kd.R_slice HO_6.out
        subst eo18
        go_wp2_with (first | ((with_reducible refine gate_callee (f := 141) rfl ?_); refine goesL_ (some 25) rfl rfl Tryz.func141 (by kernel_rfl) rfl #[.slice Ao18 x6_1.length co18, .string (⟨#[44, 32]⟩ : ByteArray)] rfl (by (try simp only [List.map_toArray, List.map_cons, List.map_nil]); first | done | rfl | (simp only [List.length_drop, List.length_take]; rfl)) ?_; (with_reducible refine (strings_Join.calls _ _ x6_1 (⟨#[44, 32]⟩ : ByteArray) t107 _ ?side1 ?side2 A17.out).mono ?_); (case side1 => repeat (first | exact (Kd.R_reads' HO_6.out).2.2 | (with_reducible refine Kd.C_alloc ?_ _) | (with_reducible refine Kd.C_drewN ?_ _) | (with_reducible refine Kd.C_drew ?_))); (case side2 => exact (Kd.R_reads' HO_6.out).2.1); rintro e w19 ⟨rfl, hb⟩; refine ⟨_, rfl, ?_⟩; have n0_ := Aside0.mk (Kd.R_below (by (with_reducible repeat (first | apply Kd.R_alloc | apply Kd.R_drewN | apply Kd.R_drew)); exact HO_6.out) hb); have n1_ := Aside0.mk (below_step (by repeat (first | (with_reducible first | exact HB.out | apply below_alloc | apply pw_below_drewN | apply below_drew1) | exact HB.out)) hb); clear HO_6; clear HB; have HO_6 := n0_; have HB := n1_; clear n0_ n1_; (try clear hb); (try clear hb2); (try clear hk); (try clear hi)))
        go_ret2
        exact ⟨by first | rfl | (simp [errW_none, errW_some] <;> rfl) | (simp [*, errW_none, errW_some] <;> rfl), by repeat (first | (with_reducible first | exact HB.out | apply below_alloc | apply pw_below_drewN | apply below_drew1) | exact HB.out)⟩
end Go.Proofs.YteehjlciajhdoaaGreatDoor.X
namespace Go.Proofs.YteehjlciajhdoaaGreatDoor.X
open Go.RowKit Go.Proofs.YteehjlciajhdoaaGreatDoorW.PrintWords Go.Proofs.YteehjlciajhdoaaGreatDoorW.PrintLast Go.Proofs.YteehjlciajhdoaaGreatDoorW.PrintMore
attribute [local go_sem] max2_int min2_int max_two min_two max_three min_three max_four min_four
set_option linter.unusedVariables false
set_option linter.unusedSimpArgs false
mutual
def headers_Split.l0 : Nat → ByteArray → List ByteArray → Bool → Int → Int → Option (List ByteArray × Bool)
  | 0, _, _, _, _, _ => none
  | k + 1, x6, x8, x9, x10, x11 => if x11 < (x6.size : Int) then (if 0 ≤ x11 then (if (bt x6 x11) = 34 then (headers_Split.l0 k x6 x8 (!x9) x10 (wrap64 (x11 + 1))) else (if x9 = true then (headers_Split.j1 k x6 x8 x9 x10 x11 ((bt x6 x11) == 92)) else (headers_Split.j1 k x6 x8 x9 x10 x11 false))) else (none)) else (if 0 ≤ x10 then (if x10 ≤ (x6.size : Int) then ((strings_Trim.f (x6.extract (x10 : Int).toNat x6.size) (⟨#[9, 32]⟩ : ByteArray)).bind fun t103 => (if x8.length < 8796093022208 then (some ((x8 ++ [t103]), true)) else (none))) else (none)) else (none))
def headers_Split.j1 : Nat → ByteArray → List ByteArray → Bool → Int → Int → Bool → Option (List ByteArray × Bool)
  | 0, _, _, _, _, _, _ => none
  | k + 1, x6, x8, x9, x10, x11, x33 => if x33 = true then (headers_Split.l0 k x6 x8 x9 x10 (wrap64 ((wrap64 (x11 + 1)) + 1))) else (if x9 = true then (headers_Split.l0 k x6 x8 x9 x10 (wrap64 (x11 + 1))) else (if 0 ≤ x11 then (if x11 < (x6.size : Int) then (if (bt x6 x11) = 44 then (if 0 ≤ x10 then (if x10 ≤ x11 then (if x11 ≤ (x6.size : Int) then ((strings_Trim.f (x6.extract (x10 : Int).toNat (x11 : Int).toNat) (⟨#[9, 32]⟩ : ByteArray)).bind fun t107 => (if x8.length < 8796093022208 then (headers_Split.l0 k x6 (x8 ++ [t107]) x9 (wrap64 (x11 + 1)) (wrap64 (x11 + 1))) else (none))) else (none)) else (none)) else (none)) else (headers_Split.l0 k x6 x8 x9 x10 (wrap64 (x11 + 1)))) else (none)) else (none)))
end
def headers_Split.f (k : Nat) (l0 : List (S55)) (a1 : ByteArray) : Option (List ByteArray × Bool) := (headers_Get.f k l0 a1).bind fun bt101 => (if bt101.2 = true then (headers_Split.l0 k bt101.1 ([] : List ByteArray) false 0 0) else (some (([] : List ByteArray), false)))
theorem headers_Split.mono_l : ∀ k, (∀ y0 y1 y2 y3 y4, LeO (headers_Split.l0 k y0 y1 y2 y3 y4) (headers_Split.l0 (k + 1) y0 y1 y2 y3 y4)) ∧ (∀ y0 y1 y2 y3 y4 y5, LeO (headers_Split.j1 k y0 y1 y2 y3 y4 y5) (headers_Split.j1 (k + 1) y0 y1 y2 y3 y4 y5))
  | 0 => ⟨fun _ _ _ _ _ r h => by simp [headers_Split.l0] at h, fun _ _ _ _ _ _ r h => by simp [headers_Split.j1] at h⟩
  | k + 1 => by
    obtain ⟨ih0, ih1⟩ := headers_Split.mono_l k
    refine ⟨?_, ?_⟩
    · intro y0 y1 y2 y3 y4
      unfold headers_Split.l0
      repeat' first
      | (with_reducible exact ih0 _ _ _ _ _)
      | (with_reducible exact ih1 _ _ _ _ _ _)
      | (with_reducible exact headers_Get.mono _ _ _)
      | (with_reducible exact LeO.refl _)
      | (with_reducible exact LeO.none _)
      | (with_reducible refine LeO.ite ?_ ?_)
      | (with_reducible refine LeO.bind ?_ (fun _ => ?_))
      | exact ih0 _ _ _ _ _
      | exact ih1 _ _ _ _ _ _
      | exact headers_Get.mono _ _ _
      | exact LeO.none _
      | refine LeO.ite ?_ ?_
      | refine LeO.bind ?_ (fun _ => ?_)
    · intro y0 y1 y2 y3 y4 y5
      unfold headers_Split.j1
      repeat' first
      | (with_reducible exact ih0 _ _ _ _ _)
      | (with_reducible exact ih1 _ _ _ _ _ _)
      | (with_reducible exact headers_Get.mono _ _ _)
      | (with_reducible exact LeO.refl _)
      | (with_reducible exact LeO.none _)
      | (with_reducible refine LeO.ite ?_ ?_)
      | (with_reducible refine LeO.bind ?_ (fun _ => ?_))
      | exact ih0 _ _ _ _ _
      | exact ih1 _ _ _ _ _ _
      | exact headers_Get.mono _ _ _
      | exact LeO.none _
      | refine LeO.ite ?_ ?_
      | refine LeO.bind ?_ (fun _ => ?_)
theorem headers_Split.mono : ∀ a0 a1 k, LeO (headers_Split.f k a0 a1) (headers_Split.f (k + 1) a0 a1) := by
  intro a0 a1 k
  obtain ⟨ih0, ih1⟩ := headers_Split.mono_l k
  unfold headers_Split.f
  repeat' first
      | (with_reducible exact ih0 _ _ _ _ _)
      | (with_reducible exact ih1 _ _ _ _ _ _)
      | (with_reducible exact headers_Get.mono _ _ _)
      | (with_reducible exact LeO.refl _)
      | (with_reducible exact LeO.none _)
      | (with_reducible refine LeO.ite ?_ ?_)
      | (with_reducible refine LeO.bind ?_ (fun _ => ?_))
      | exact ih0 _ _ _ _ _
      | exact ih1 _ _ _ _ _ _
      | exact headers_Get.mono _ _ _
      | exact LeO.none _
      | refine LeO.ite ?_ ?_
      | refine LeO.bind ?_ (fun _ => ?_)
set_option maxHeartbeats 8000000 in
set_option maxRecDepth 100000 in
theorem headers_Split.calls (k : Nat) (A0 : Option Addr) (c0 : Nat) (l0 : List (S55)) (a1 : ByteArray) (r1 : List ByteArray) (r2 : Bool) (w : World) (hr0 : Kd.C k55 w A0 l0.length l0) (hc0 : l0.length ≤ c0) (h : headers_Split.f k l0 a1 = some (r1, r2)) :
    Calls Tryz.prog 39 #[.slice A0 l0.length c0, .string a1] w fun e w' => ∃ v0_ : Value, e = .returned (.tuple #[v0_, .bool r2]) ∧ Kd.R Kd.string 9 w' w.heap.size (fun _ => True) v0_ r1 ∧ Below w.heap.size w w' := by
  have HR0 := Aside0.mk hr0
  have HC0 := Aside0.mk hc0
  clear hr0 hc0
  have HB := Aside0.mk (Below.refl w.heap.size w)
  have H : ((headers_Get.f k l0 a1).bind fun bt101 => (if bt101.2 = true then (headers_Split.l0 k bt101.1 ([] : List ByteArray) false 0 0) else (some (([] : List ByteArray), false)))) = some (r1, r2) := h
  clear h
  replace H := Option.bind_eq_some_iff.mp H
  obtain ⟨⟨t101, t102⟩, A30, H⟩ := H
  replace H : (if t102 = true then (headers_Split.l0 k t101 ([] : List ByteArray) false 0 0) else (some (([] : List ByteArray), false))) = some (r1, r2) := H
  have A3 := Aside0.mk A30
  clear A30
  by_cases c4 : t102 = true
  · subst c4
    have H1 : (headers_Split.l0 k t101 ([] : List ByteArray) false 0 0) = some (r1, r2) := by rw [if_pos rfl] at H; exact H
    clear H
    have H := H1
    clear H1
    have H' := Aside0.mk H
    clear H
    go_enter Tryz.func39, Tryz.ntmps39
    go_wp2_with (first | ((with_reducible refine gate_callee (f := 87) rfl ?_); refine goesL_ (some 15) rfl rfl Tryz.func87 (by kernel_rfl) rfl #[.slice A0 l0.length c0, .string a1] rfl (by (try simp only [List.map_toArray, List.map_cons, List.map_nil]); first | done | rfl | (simp only [List.length_drop, List.length_take]; rfl)) ?_; (with_reducible refine (headers_Get.calls k _ _ l0 a1 t101 true _ ?side1 ?side2 A3.out).mono ?_); (case side1 => repeat (first | exact HR0.out | (with_reducible refine Kd.C_alloc ?_ _) | (with_reducible refine Kd.C_drewN ?_ _) | (with_reducible refine Kd.C_drew ?_))); (case side2 => exact HC0.out); rintro e w5 ⟨rfl, hb⟩; refine ⟨_, rfl, ?_⟩; have n0_ := Aside0.mk (below_step (by repeat (first | (with_reducible first | exact HB.out | apply below_alloc | apply pw_below_drewN | apply below_drew1) | exact HB.out)) hb); clear HB; have HB := n0_; clear n0_; (try clear hb); (try clear hb2); (try clear hk); (try clear hi)))
    go_loopg [8, 9, 10, 11] k (fun kq v8 v9 v10 v11 w' => ∃ (x8_1 : List ByteArray) (x9_1 : Bool) (x10_1 : Int) (x11_1 : Int), v9 = .bool x9_1 ∧ v10 = .int .i64 x10_1 ∧ v11 = .int .i64 x11_1 ∧ Aside0 (headers_Split.l0 kq t101 x8_1 x9_1 x10_1 x11_1 = some (r1, r2)) ∧ Aside0 (kq ≤ k) ∧ Aside0 (Kd.R Kd.string 9 w' w.heap.size (fun _ => True) v8 x8_1) ∧ Aside0 (Below w.heap.size w w'))
    case atStart => exact ⟨(([] : List ByteArray)), (false), (0), (0), (by first | rfl | (simp; done) | (simp [*]; done)), (by first | rfl | (simp; done) | (simp [*]; done)), (by first | rfl | (simp; done) | (simp [*]; done)), H', ⟨Nat.le_refl _⟩, ⟨by first | exact Kd.R_nil _ _ _ _ _ | exact Kd.N_nil _ _ _ _ _ | exact Kd.V_nil _ _ _ _ _ | exact Kd.Q_nil _ _ _ _ _ | exact Kd.S_nil _ _ _ _ _⟩, ⟨by repeat (first | (with_reducible first | exact HB.out | apply below_alloc | apply pw_below_drewN | apply below_drew1) | exact HB.out)⟩⟩
    case round =>
      clear H'
      try clear p2
      try clear c3
      try clear c4
      obtain ⟨x8_1, x9_1, x10_1, x11_1, rfl, rfl, rfl, HA, HK1, HO_8, HB⟩ := hrel
      cases gk with
      | zero => exact absurd HA.out (by simp [headers_Split.l0])
      | succ k1 =>
        have H := HA.out
        clear HA
        simp only [headers_Split.l0] at H
        by_cases c6 : x11_1 < (t101.size : Int)
        · rw [if_pos c6] at H
          have c6b0 : decide (x11_1 < (t101.size : Int)) = true := decide_eq_true c6
          clear c6
          by_cases c7 : 0 ≤ x11_1
          · rw [if_pos c7] at H
            have c7b0 : decide (0 ≤ x11_1) = true := decide_eq_true c7
            clear c7
            by_cases c9 : (bt t101 x11_1) = 34
            · rw [if_pos c9] at H
              have c9b0 : ((bt t101 x11_1) == 34) = true := beq_iff_eq.mpr c9
              have c9b1 : ((bt t101 x11_1) != 34) = false := bne_eq_false_iff_eq.mpr c9
              clear c9
              have H' := Aside0.mk H
              clear H
              have p8 : 0 ≤ (x11_1 : Int) := of_decide_eq_true (by first | (with_reducible assumption) | assumption)
              have q8 : x11_1 < (t101.size : Int) := of_decide_eq_true (by first | (with_reducible assumption) | assumption)
              have hx8 := bt_at t101 x11_1
              replace p8 := eq_true p8
              replace q8 := eq_true q8
              go_wp2
              go_roundg k1
              case measure => have := HK1.out; omega
              case rel => exact ⟨(x8_1), (!x9_1), (x10_1), (wrap64 (x11_1 + 1)), (by first | rfl | (simp; done) | (simp [*]; done)), (by first | rfl | (simp; done) | (simp [*]; done)), (by first | rfl | (simp; done) | (simp [*]; done)), H', ⟨by have := HK1.out; omega⟩, ⟨by (with_reducible repeat (first | apply Kd.R_alloc | apply Kd.R_drewN | apply Kd.R_drew)); exact HO_8.out⟩, ⟨by repeat (first | (with_reducible first | exact HB.out | apply below_alloc | apply pw_below_drewN | apply below_drew1) | exact HB.out)⟩⟩
            · rw [if_neg c9] at H
              have c9b0 : ((bt t101 x11_1) == 34) = false := beq_eq_false_iff_ne.mpr c9
              have c9b1 : ((bt t101 x11_1) != 34) = true := bne_iff_ne.mpr c9
              have HC10 := Aside0.mk H
              clear H
              have p8 : 0 ≤ (x11_1 : Int) := of_decide_eq_true (by first | (with_reducible assumption) | assumption)
              have q8 : x11_1 < (t101.size : Int) := of_decide_eq_true (by first | (with_reducible assumption) | assumption)
              have hx8 := bt_at t101 x11_1
              replace p8 := eq_true p8
              replace q8 := eq_true q8
              go_upto_region 11 with (fail)
              go_cut [33] (fun v33 wc => ∃ (kq : Nat) (x33_9 : Bool), v33 = .bool x33_9 ∧ Aside0 (headers_Split.j1 kq t101 x8_1 x9_1 x10_1 x11_1 x33_9 = some (r1, r2)) ∧ Aside0 (kq ≤ k1) ∧ Aside0 (Kd.R Kd.string 9 wc w.heap.size (fun _ => True) u8 x8_1) ∧ Aside0 (Below w.heap.size w wc))
              case first =>
                have H := HC10.out
                clear HC10
                by_cases c11 : x9_1 = true
                · subst c11
                  have H1 : (headers_Split.j1 k1 t101 x8_1 true x10_1 x11_1 ((bt t101 x11_1) == 92)) = some (r1, r2) := by rw [if_pos rfl] at H; exact H
                  clear H
                  have H := H1
                  clear H1
                  have H' := Aside0.mk H
                  clear H
                  have p12 : 0 ≤ (x11_1 : Int) := of_decide_eq_true (by first | (with_reducible assumption) | assumption)
                  have q12 : x11_1 < (t101.size : Int) := of_decide_eq_true (by first | (with_reducible assumption) | assumption)
                  have hx12 := bt_at t101 x11_1
                  replace p12 := eq_true p12
                  replace q12 := eq_true q12
                  go_wp2
                  go_meet
                  case rel => exact ⟨_, (((bt t101 x11_1) == 92)), (by first | rfl | (simp; done) | (simp [*]; done)), H', ⟨by have := HK1.out; first | omega | exact Nat.le_refl _⟩, ⟨by (with_reducible repeat (first | apply Kd.R_alloc | apply Kd.R_drewN | apply Kd.R_drew)); exact HO_8.out⟩, ⟨by repeat (first | (with_reducible first | exact HB.out | apply below_alloc | apply pw_below_drewN | apply below_drew1) | exact HB.out)⟩⟩
                · replace c11 := Bool.eq_false_iff.mpr c11
                  subst c11
                  have H1 : (headers_Split.j1 k1 t101 x8_1 false x10_1 x11_1 false) = some (r1, r2) := by rw [if_neg (show ¬ (false = true) by decide)] at H; exact H
                  clear H
                  have H := H1
                  clear H1
                  have H' := Aside0.mk H
                  clear H
                  go_wp2
                  go_meet
                  case rel => exact ⟨_, (false), (by first | rfl | (simp; done) | (simp [*]; done)), H', ⟨by have := HK1.out; first | omega | exact Nat.le_refl _⟩, ⟨by (with_reducible repeat (first | apply Kd.R_alloc | apply Kd.R_drewN | apply Kd.R_drew)); exact HO_8.out⟩, ⟨by repeat (first | (with_reducible first | exact HB.out | apply below_alloc | apply pw_below_drewN | apply below_drew1) | exact HB.out)⟩⟩
              case rest =>
                clear HC10
                try clear c1
                try clear p1
                try clear q1
                try clear hx1
                try clear p2
                try clear c3
                try clear c4
                try clear c6
                try clear c6b0
                try clear p6
                try clear c7
                try clear c7b0
                try clear c8
                try clear p8
                try clear q8
                try clear hx8
                try clear c9
                try clear c9b0
                try clear c9b1
                try clear c11
                try clear p12
                try clear q12
                try clear hx12
                try clear p12
                try clear p2
                try clear p8
                try clear q12
                try clear q8
                obtain ⟨kq, x33_9, rfl, HA, HJ9, HO_8, HB⟩ := hcut
                cases kq with
                | zero => exact absurd HA.out (by simp [headers_Split.j1])
                | succ kj9 =>
                  have H := HA.out
                  clear HA
                  simp only [headers_Split.j1] at H
                  by_cases c13 : x33_9 = true
                  · subst c13
                    have H1 : (headers_Split.l0 kj9 t101 x8_1 x9_1 x10_1 (wrap64 ((wrap64 (x11_1 + 1)) + 1))) = some (r1, r2) := by rw [if_pos rfl] at H; exact H
                    clear H
                    have H := H1
                    clear H1
                    have H' := Aside0.mk H
                    clear H
                    go_wp2
                    go_roundg kj9
                    case measure => have := HK1.out; have := HJ9.out; omega
                    case rel => exact ⟨(x8_1), (x9_1), (x10_1), (wrap64 ((wrap64 (x11_1 + 1)) + 1)), (by first | rfl | (simp; done) | (simp [*]; done)), (by first | rfl | (simp; done) | (simp [*]; done)), (by first | rfl | (simp; done) | (simp [*]; done)), H', ⟨by have := HK1.out; have := HJ9.out; omega⟩, ⟨by (with_reducible repeat (first | apply Kd.R_alloc | apply Kd.R_drewN | apply Kd.R_drew)); exact HO_8.out⟩, ⟨by repeat (first | (with_reducible first | exact HB.out | apply below_alloc | apply pw_below_drewN | apply below_drew1) | exact HB.out)⟩⟩
                  · replace c13 := Bool.eq_false_iff.mpr c13
                    subst c13
                    have H1 : (if x9_1 = true then (headers_Split.l0 kj9 t101 x8_1 x9_1 x10_1 (wrap64 (x11_1 + 1))) else (if 0 ≤ x11_1 then (if x11_1 < (t101.size : Int) then (if (bt t101 x11_1) = 44 then (if 0 ≤ x10_1 then (if x10_1 ≤ x11_1 then (if x11_1 ≤ (t101.size : Int) then ((strings_Trim.f (t101.extract (x10_1 : Int).toNat (x11_1 : Int).toNat) (⟨#[9, 32]⟩ : ByteArray)).bind fun t107 => (if x8_1.length < 8796093022208 then (headers_Split.l0 kj9 t101 (x8_1 ++ [t107]) x9_1 (wrap64 (x11_1 + 1)) (wrap64 (x11_1 + 1))) else (none))) else (none)) else (none)) else (none)) else (headers_Split.l0 kj9 t101 x8_1 x9_1 x10_1 (wrap64 (x11_1 + 1)))) else (none)) else (none))) = some (r1, r2) := by rw [if_neg (show ¬ (false = true) by decide)] at H; exact H
                    clear H
                    have H := H1
                    clear H1
                    by_cases c14 : x9_1 = true
                    · subst c14
                      have H1 : (headers_Split.l0 kj9 t101 x8_1 true x10_1 (wrap64 (x11_1 + 1))) = some (r1, r2) := by rw [if_pos rfl] at H; exact H
                      clear H
                      have H := H1
                      clear H1
                      have H' := Aside0.mk H
                      clear H
                      go_wp2
                      go_roundg kj9
                      case measure => have := HK1.out; have := HJ9.out; omega
                      case rel => exact ⟨(x8_1), (true), (x10_1), (wrap64 (x11_1 + 1)), (by first | rfl | (simp; done) | (simp [*]; done)), (by first | rfl | (simp; done) | (simp [*]; done)), (by first | rfl | (simp; done) | (simp [*]; done)), H', ⟨by have := HK1.out; have := HJ9.out; omega⟩, ⟨by (with_reducible repeat (first | apply Kd.R_alloc | apply Kd.R_drewN | apply Kd.R_drew)); exact HO_8.out⟩, ⟨by repeat (first | (with_reducible first | exact HB.out | apply below_alloc | apply pw_below_drewN | apply below_drew1) | exact HB.out)⟩⟩
                    · replace c14 := Bool.eq_false_iff.mpr c14
                      subst c14
                      have H1 : (if 0 ≤ x11_1 then (if x11_1 < (t101.size : Int) then (if (bt t101 x11_1) = 44 then (if 0 ≤ x10_1 then (if x10_1 ≤ x11_1 then (if x11_1 ≤ (t101.size : Int) then ((strings_Trim.f (t101.extract (x10_1 : Int).toNat (x11_1 : Int).toNat) (⟨#[9, 32]⟩ : ByteArray)).bind fun t107 => (if x8_1.length < 8796093022208 then (headers_Split.l0 kj9 t101 (x8_1 ++ [t107]) false (wrap64 (x11_1 + 1)) (wrap64 (x11_1 + 1))) else (none))) else (none)) else (none)) else (none)) else (headers_Split.l0 kj9 t101 x8_1 false x10_1 (wrap64 (x11_1 + 1)))) else (none)) else (none)) = some (r1, r2) := by rw [if_neg (show ¬ (false = true) by decide)] at H; exact H
                      clear H
                      have H := H1
                      clear H1
                      by_cases c15 : 0 ≤ x11_1
                      · rw [if_pos c15] at H
                        have c15b0 : decide (0 ≤ x11_1) = true := decide_eq_true c15
                        clear c15
                        by_cases c16 : x11_1 < (t101.size : Int)
                        · rw [if_pos c16] at H
                          have c16b0 : decide (x11_1 < (t101.size : Int)) = true := decide_eq_true c16
                          clear c16
                          by_cases c18 : (bt t101 x11_1) = 44
                          · rw [if_pos c18] at H
                            have c18b0 : ((bt t101 x11_1) == 44) = true := beq_iff_eq.mpr c18
                            have c18b1 : ((bt t101 x11_1) != 44) = false := bne_eq_false_iff_eq.mpr c18
                            clear c18
                            by_cases c19 : 0 ≤ x10_1
                            · rw [if_pos c19] at H
                              have c19b0 := eq_true c19
                              have c19b1 : decide (0 ≤ x10_1) = true := decide_eq_true c19
                              clear c19
                              by_cases c20 : x10_1 ≤ x11_1
                              · rw [if_pos c20] at H
                                have c20b0 := eq_true c20
                                have c20b1 : decide (x10_1 ≤ x11_1) = true := decide_eq_true c20
                                clear c20
                                by_cases c21 : x11_1 ≤ (t101.size : Int)
                                · rw [if_pos c21] at H
                                  have c21b0 := eq_true c21
                                  have c21b1 : decide (x11_1 ≤ (t101.size : Int)) = true := decide_eq_true c21
                                  clear c21
                                  replace H := Option.bind_eq_some_iff.mp H
                                  obtain ⟨t107, A220, H⟩ := H
                                  replace H : (if x8_1.length < 8796093022208 then (headers_Split.l0 kj9 t101 (x8_1 ++ [t107]) false (wrap64 (x11_1 + 1)) (wrap64 (x11_1 + 1))) else (none)) = some (r1, r2) := H
                                  have A22 := Aside0.mk A220
                                  clear A220
                                  by_cases c23 : x8_1.length < 8796093022208
                                  · rw [if_pos c23] at H
                                    have LMc23 := Aside0.mk c23
                                    clear c23
                                    obtain ⟨y108, hy108⟩ : ∃ y_ : List ByteArray, y_ = (x8_1 ++ [t107]) := ⟨_, rfl⟩
                                    replace H : (headers_Split.l0 kj9 t101 y108 false (wrap64 (x11_1 + 1)) (wrap64 (x11_1 + 1))) = some (r1, r2) := by first | (rw [hy108]; with_reducible exact H) | (have H2_ := (Option.bind_some _ _).symm.trans H; rw [hy108]; with_reducible exact H2_) | (have H2_ := (Option.bind_some _ _).symm.trans H; with_reducible exact H2_) | with_reducible exact H | (rw [hy108]; exact H) | exact H
                                    have Ny108 := Aside0.mk hy108
                                    clear hy108
                                    have H' := Aside0.mk H
                                    clear H
                                    have p17 : 0 ≤ (x11_1 : Int) := of_decide_eq_true (by first | (with_reducible assumption) | assumption)
                                    have q17 : x11_1 < (t101.size : Int) := of_decide_eq_true (by first | (with_reducible assumption) | assumption)
                                    have hx17 := bt_at t101 x11_1
                                    replace p17 := eq_true p17
                                    replace q17 := eq_true q17
                                    go_wp2_with (first | ((with_reducible refine gate_callee (f := 61) rfl ?_); refine goesL_ (some 57) rfl rfl Tryz.func61 (by kernel_rfl) rfl #[.string (t101.extract (x10_1 : Int).toNat (x11_1 : Int).toNat), .string (⟨#[9, 32]⟩ : ByteArray)] rfl (by (try simp only [List.map_toArray, List.map_cons, List.map_nil]); first | done | rfl | (simp only [List.length_drop, List.length_take]; rfl)) ?_; (with_reducible refine (strings_Trim.calls (t101.extract (x10_1 : Int).toNat (x11_1 : Int).toNat) (⟨#[9, 32]⟩ : ByteArray) t107 _ A22.out).mono ?_); rintro e w24 ⟨rfl, hb⟩; refine ⟨_, rfl, ?_⟩; have n0_ := Aside0.mk (Kd.R_below (by (with_reducible repeat (first | apply Kd.R_alloc | apply Kd.R_drewN | apply Kd.R_drew)); exact HO_8.out) hb); have n1_ := Aside0.mk (below_step (by repeat (first | (with_reducible first | exact HB.out | apply below_alloc | apply pw_below_drewN | apply below_drew1) | exact HB.out)) hb); clear HO_8; clear HB; have HO_8 := n0_; have HB := n1_; clear n0_ n1_; (try clear hb); (try clear hb2); (try clear hk); (try clear hi)) | ((with_reducible refine gate_builtin (b := .append) (xs := #[.tmp 52, .tmp 58]) rfl ?_); at_builtin; refine Kd.R_append Kd.string (w0 := w) w.heap.size rfl (.tmp 52) (.tmp 58) 68 9 (.string ⟨#[]⟩) 16 rfl Tryz.underlying68 info9 rfl (by decide) (by omega) u8 x8_1 t107 [.string t107] (fun _ => True) (fun _ => False) rfl rfl ?aP (fun _ hk => hk.elim) ?aF ?aO ?aB ?aS ?aL ?_; (case aP => exact rfl); (case aB => exact (by repeat (first | (with_reducible first | exact HB.out | apply below_alloc | apply pw_below_drewN | apply below_drew1) | exact HB.out))); (case aF => exact (fun _ _ => trivial)); (case aO => exact (by (with_reducible repeat (first | apply Kd.R_alloc | apply Kd.R_drewN | apply Kd.R_drew)); exact HO_8.out)); (case aS => exact (below_size (by repeat (first | (with_reducible first | exact HB.out | apply below_alloc | apply pw_below_drewN | apply below_drew1) | exact HB.out)))); (case aL => have := LMc23.out; omega); intro v109 w25 ho hb hg hat; rw [← Ny108.out] at ho; have n0_ := Aside0.mk (hb); have n1_ := Aside0.mk (ho); clear HB; clear HO_8; have HB := n0_; have HO110 := n1_; clear n0_ n1_; clear ho hb hg hat))
                                    go_roundg kj9
                                    case measure => have := HK1.out; have := HJ9.out; omega
                                    case rel => exact ⟨(y108), (false), (wrap64 (x11_1 + 1)), (wrap64 (x11_1 + 1)), (by first | rfl | (simp; done) | (simp [*]; done)), (by first | rfl | (simp; done) | (simp [*]; done)), (by first | rfl | (simp; done) | (simp [*]; done)), H', ⟨by have := HK1.out; have := HJ9.out; omega⟩, ⟨by (with_reducible repeat (first | apply Kd.R_alloc | apply Kd.R_drewN | apply Kd.R_drew)); exact HO110.out⟩, ⟨by repeat (first | (with_reducible first | exact HB.out | apply below_alloc | apply pw_below_drewN | apply below_drew1) | exact HB.out)⟩⟩
                                  · rw [if_neg c23] at H
                                    exact absurd H (by simp)
                                · rw [if_neg c21] at H
                                  exact absurd H (by simp)
                              · rw [if_neg c20] at H
                                exact absurd H (by simp)
                            · rw [if_neg c19] at H
                              exact absurd H (by simp)
                          · rw [if_neg c18] at H
                            have c18b0 : ((bt t101 x11_1) == 44) = false := beq_eq_false_iff_ne.mpr c18
                            have c18b1 : ((bt t101 x11_1) != 44) = true := bne_iff_ne.mpr c18
                            have H' := Aside0.mk H
                            clear H
                            have p17 : 0 ≤ (x11_1 : Int) := of_decide_eq_true (by first | (with_reducible assumption) | assumption)
                            have q17 : x11_1 < (t101.size : Int) := of_decide_eq_true (by first | (with_reducible assumption) | assumption)
                            have hx17 := bt_at t101 x11_1
                            replace p17 := eq_true p17
                            replace q17 := eq_true q17
                            go_wp2
                            go_roundg kj9
                            case measure => have := HK1.out; have := HJ9.out; omega
                            case rel => exact ⟨(x8_1), (false), (x10_1), (wrap64 (x11_1 + 1)), (by first | rfl | (simp; done) | (simp [*]; done)), (by first | rfl | (simp; done) | (simp [*]; done)), (by first | rfl | (simp; done) | (simp [*]; done)), H', ⟨by have := HK1.out; have := HJ9.out; omega⟩, ⟨by (with_reducible repeat (first | apply Kd.R_alloc | apply Kd.R_drewN | apply Kd.R_drew)); exact HO_8.out⟩, ⟨by repeat (first | (with_reducible first | exact HB.out | apply below_alloc | apply pw_below_drewN | apply below_drew1) | exact HB.out)⟩⟩
                        · rw [if_neg c16] at H
                          exact absurd H (by simp)
                      · rw [if_neg c15] at H
                        exact absurd H (by simp)
          · rw [if_neg c7] at H
            exact absurd H (by simp)
        · rw [if_neg c6] at H
          have c6b0 : decide (x11_1 < (t101.size : Int)) = false := decide_eq_false c6
          clear c6
          by_cases c26 : 0 ≤ x10_1
          · rw [if_pos c26] at H
            have c26b0 := eq_true c26
            have c26b1 : decide (0 ≤ x10_1) = true := decide_eq_true c26
            clear c26
            by_cases c27 : x10_1 ≤ (t101.size : Int)
            · rw [if_pos c27] at H
              have c27b0 := eq_true c27
              have c27b1 : decide (x10_1 ≤ (t101.size : Int)) = true := decide_eq_true c27
              clear c27
              replace H := Option.bind_eq_some_iff.mp H
              obtain ⟨t103, A280, H⟩ := H
              replace H : (if x8_1.length < 8796093022208 then (some ((x8_1 ++ [t103]), true)) else (none)) = some (r1, r2) := H
              have A28 := Aside0.mk A280
              clear A280
              by_cases c29 : x8_1.length < 8796093022208
              · rw [if_pos c29] at H
                have LMc29 := Aside0.mk c29
                clear c29
                obtain ⟨y104, hy104⟩ : ∃ y_ : List ByteArray, y_ = (x8_1 ++ [t103]) := ⟨_, rfl⟩
                replace H : (some (y104, true)) = some (r1, r2) := by first | (rw [hy104]; with_reducible exact H) | (have H2_ := (Option.bind_some _ _).symm.trans H; rw [hy104]; with_reducible exact H2_) | (have H2_ := (Option.bind_some _ _).symm.trans H; with_reducible exact H2_) | with_reducible exact H | (rw [hy104]; exact H) | exact H
                have Ny104 := Aside0.mk hy104
                clear hy104
                simp only [Option.some.injEq, Prod.mk.injEq] at H
                obtain ⟨rfl, rfl⟩ := H
                go_wp2_with (first | ((with_reducible refine gate_callee (f := 61) rfl ?_); refine goesL_ (some 66) rfl rfl Tryz.func61 (by kernel_rfl) rfl #[.string (t101.extract (x10_1 : Int).toNat t101.size), .string (⟨#[9, 32]⟩ : ByteArray)] rfl (by (try simp only [List.map_toArray, List.map_cons, List.map_nil]); first | done | rfl | (simp only [List.length_drop, List.length_take]; rfl)) ?_; (with_reducible refine (strings_Trim.calls (t101.extract (x10_1 : Int).toNat t101.size) (⟨#[9, 32]⟩ : ByteArray) t103 _ A28.out).mono ?_); rintro e w30 ⟨rfl, hb⟩; refine ⟨_, rfl, ?_⟩; have n0_ := Aside0.mk (Kd.R_below (by (with_reducible repeat (first | apply Kd.R_alloc | apply Kd.R_drewN | apply Kd.R_drew)); exact HO_8.out) hb); have n1_ := Aside0.mk (below_step (by repeat (first | (with_reducible first | exact HB.out | apply below_alloc | apply pw_below_drewN | apply below_drew1) | exact HB.out)) hb); clear HO_8; clear HB; have HO_8 := n0_; have HB := n1_; clear n0_ n1_; (try clear hb); (try clear hb2); (try clear hk); (try clear hi)) | ((with_reducible refine gate_builtin (b := .append) (xs := #[.tmp 62, .tmp 67]) rfl ?_); at_builtin; refine Kd.R_append Kd.string (w0 := w) w.heap.size rfl (.tmp 62) (.tmp 67) 68 9 (.string ⟨#[]⟩) 16 rfl Tryz.underlying68 info9 rfl (by decide) (by omega) u8 x8_1 t103 [.string t103] (fun _ => True) (fun _ => False) rfl rfl ?aP (fun _ hk => hk.elim) ?aF ?aO ?aB ?aS ?aL ?_; (case aP => exact rfl); (case aB => exact (by repeat (first | (with_reducible first | exact HB.out | apply below_alloc | apply pw_below_drewN | apply below_drew1) | exact HB.out))); (case aF => exact (fun _ _ => trivial)); (case aO => exact (by (with_reducible repeat (first | apply Kd.R_alloc | apply Kd.R_drewN | apply Kd.R_drew)); exact HO_8.out)); (case aS => exact (below_size (by repeat (first | (with_reducible first | exact HB.out | apply below_alloc | apply pw_below_drewN | apply below_drew1) | exact HB.out)))); (case aL => have := LMc29.out; omega); intro v105 w31 ho hb hg hat; rw [← Ny104.out] at ho; have n0_ := Aside0.mk (hb); have n1_ := Aside0.mk (ho); clear HB; clear HO_8; have HB := n0_; have HO106 := n1_; clear n0_ n1_; clear ho hb hg hat))
                go_ret2
                exact ⟨_, by first | rfl | (simp [errW_none, errW_some] <;> rfl) | (simp [*, errW_none, errW_some] <;> rfl), by (with_reducible repeat (first | apply Kd.R_alloc | apply Kd.R_drewN | apply Kd.R_drew)); exact HO106.out, by repeat (first | (with_reducible first | exact HB.out | apply below_alloc | apply pw_below_drewN | apply below_drew1) | exact HB.out)⟩
              · rw [if_neg c29] at H
                exact absurd H (by simp)
            · rw [if_neg c27] at H
              exact absurd H (by simp)
          · rw [if_neg c26] at H
            exact absurd H (by simp)
  · replace c4 := Bool.eq_false_iff.mpr c4
    subst c4
    have H1 : (some (([] : List ByteArray), false)) = some (r1, r2) := by rw [if_neg (show ¬ (false = true) by decide)] at H; exact H
    clear H
    have H := H1
    clear H1
    simp only [Option.some.injEq, Prod.mk.injEq] at H
    obtain ⟨rfl, rfl⟩ := H
    go_enter Tryz.func39, Tryz.ntmps39
    go_wp2_with (first | ((with_reducible refine gate_callee (f := 87) rfl ?_); refine goesL_ (some 15) rfl rfl Tryz.func87 (by kernel_rfl) rfl #[.slice A0 l0.length c0, .string a1] rfl (by (try simp only [List.map_toArray, List.map_cons, List.map_nil]); first | done | rfl | (simp only [List.length_drop, List.length_take]; rfl)) ?_; (with_reducible refine (headers_Get.calls k _ _ l0 a1 t101 false _ ?side1 ?side2 A3.out).mono ?_); (case side1 => repeat (first | exact HR0.out | (with_reducible refine Kd.C_alloc ?_ _) | (with_reducible refine Kd.C_drewN ?_ _) | (with_reducible refine Kd.C_drew ?_))); (case side2 => exact HC0.out); rintro e w32 ⟨rfl, hb⟩; refine ⟨_, rfl, ?_⟩; have n0_ := Aside0.mk (below_step (by repeat (first | (with_reducible first | exact HB.out | apply below_alloc | apply pw_below_drewN | apply below_drew1) | exact HB.out)) hb); clear HB; have HB := n0_; clear n0_; (try clear hb); (try clear hb2); (try clear hk); (try clear hi)))
    go_ret2
    exact ⟨_, by first | rfl | (simp [errW_none, errW_some] <;> rfl) | (simp [*, errW_none, errW_some] <;> rfl), by first | exact Kd.R_nil _ _ _ _ _ | exact Kd.N_nil _ _ _ _ _ | exact Kd.V_nil _ _ _ _ _ | exact Kd.Q_nil _ _ _ _ _ | exact Kd.S_nil _ _ _ _ _, by repeat (first | (with_reducible first | exact HB.out | apply below_alloc | apply pw_below_drewN | apply below_drew1) | exact HB.out)⟩
end Go.Proofs.YteehjlciajhdoaaGreatDoor.X
namespace Go.Proofs.YteehjlciajhdoaaGreatDoor.X
open Go.RowKit Go.Proofs.YteehjlciajhdoaaGreatDoorW.PrintWords Go.Proofs.YteehjlciajhdoaaGreatDoorW.PrintLast Go.Proofs.YteehjlciajhdoaaGreatDoorW.PrintMore
attribute [local go_sem] max2_int min2_int max_two min_two max_three min_three max_four min_four
set_option linter.unusedVariables false
set_option linter.unusedSimpArgs false
mutual
def mime_Extract.l0 : Nat → Bool → List ByteArray → Int → Int → ByteArray → ByteArray → List (S32) → Option (ByteArray × ByteArray × (List (S32)) × Bool)
  | 0, _, _, _, _, _, _, _ => none
  | k + 1, x5, x21, x22, x23, x103000, x103001, x103002 => if x23 < x22 then (if 0 ≤ x23 then (if x23 < (x21.length : Int) then ((mime_Parse.f (rdOf ByteArray.empty x21 x23)).bind fun bt108 => (if bt108.2.2.2 = true then ((mime_Essence.f bt108.1 bt108.2.1 bt108.2.2.1).bind fun t115 => (mime_Extract.j1 k x5 x21 x22 x23 (t115.toList == ([42, 47, 42] : List UInt8)) x103000 x103001 x103002 bt108.1 bt108.2.1 bt108.2.2.1)) else (mime_Extract.j1 k x5 x21 x22 x23 true x103000 x103001 x103002 bt108.1 bt108.2.1 bt108.2.2.1))) else (none)) else (none)) else (some (x103000, x103001, x103002, x5))
def mime_Extract.j1 : Nat → Bool → List ByteArray → Int → Int → Bool → ByteArray → ByteArray → List (S32) → ByteArray → ByteArray → List (S32) → Option (ByteArray × ByteArray × (List (S32)) × Bool)
  | 0, _, _, _, _, _, _, _, _, _, _, _ => none
  | k + 1, x5, x21, x22, x23, x38, x103000, x103001, x103002, x115000, x115001, x115002 => if x38 = true then (mime_Extract.l0 k x5 x21 x22 (wrap64 (x23 + 1)) x103000 x103001 x103002) else ((mime_Type_has.f x115000 x115001 x115002 (⟨#[99, 104, 97, 114, 115, 101, 116]⟩ : ByteArray)).bind fun bt116 => ((mime_Type_has.f x103000 x103001 x103002 (⟨#[99, 104, 97, 114, 115, 101, 116]⟩ : ByteArray)).bind fun bt118 => (if x5 = true then (if bt118.2 = true then (if bt116.2 = true then (mime_Extract.l0 k true x21 x22 (wrap64 (x23 + 1)) x115000 x115001 x115002) else ((mime_Essence.f x115000 x115001 x115002).bind fun t120 => ((mime_Essence.f x103000 x103001 x103002).bind fun t121 => (if t120.toList = t121.toList then (if x115002.length < 4398046511104 then (mime_Extract.l0 k true x21 x22 (wrap64 (x23 + 1)) x115000 x115001 (x115002 ++ [(⟨(⟨#[99, 104, 97, 114, 115, 101, 116]⟩ : ByteArray), bt118.1⟩ : S32)])) else (none)) else (mime_Extract.l0 k true x21 x22 (wrap64 (x23 + 1)) x115000 x115001 x115002))))) else (mime_Extract.l0 k true x21 x22 (wrap64 (x23 + 1)) x115000 x115001 x115002)) else (mime_Extract.l0 k true x21 x22 (wrap64 (x23 + 1)) x115000 x115001 x115002))))
end
def mime_Extract.f (k : Nat) (l0 : List (S55)) : Option (ByteArray × ByteArray × (List (S32)) × Bool) := (headers_Split.f k l0 (⟨#[99, 111, 110, 116, 101, 110, 116, 45, 116, 121, 112, 101]⟩ : ByteArray)).bind fun bt103 => (mime_Extract.l0 k false bt103.1 (bt103.1.length : Int) 0 (⟨#[]⟩ : ByteArray) (⟨#[]⟩ : ByteArray) ([] : List (S32)))
theorem mime_Extract.mono_l : ∀ k, (∀ y0 y1 y2 y3 y4 y5 y6, LeO (mime_Extract.l0 k y0 y1 y2 y3 y4 y5 y6) (mime_Extract.l0 (k + 1) y0 y1 y2 y3 y4 y5 y6)) ∧ (∀ y0 y1 y2 y3 y4 y5 y6 y7 y8 y9 y10, LeO (mime_Extract.j1 k y0 y1 y2 y3 y4 y5 y6 y7 y8 y9 y10) (mime_Extract.j1 (k + 1) y0 y1 y2 y3 y4 y5 y6 y7 y8 y9 y10))
  | 0 => ⟨fun _ _ _ _ _ _ _ r h => by simp [mime_Extract.l0] at h, fun _ _ _ _ _ _ _ _ _ _ _ r h => by simp [mime_Extract.j1] at h⟩
  | k + 1 => by
    obtain ⟨ih0, ih1⟩ := mime_Extract.mono_l k
    refine ⟨?_, ?_⟩
    · intro y0 y1 y2 y3 y4 y5 y6
      unfold mime_Extract.l0
      repeat' first
      | (with_reducible exact ih0 _ _ _ _ _ _ _)
      | (with_reducible exact ih1 _ _ _ _ _ _ _ _ _ _ _)
      | (with_reducible exact headers_Split.mono _ _ _)
      | (with_reducible exact LeO.refl _)
      | (with_reducible exact LeO.none _)
      | (with_reducible refine LeO.ite ?_ ?_)
      | (with_reducible refine LeO.bind ?_ (fun _ => ?_))
      | exact ih0 _ _ _ _ _ _ _
      | exact ih1 _ _ _ _ _ _ _ _ _ _ _
      | exact headers_Split.mono _ _ _
      | exact LeO.none _
      | refine LeO.ite ?_ ?_
      | refine LeO.bind ?_ (fun _ => ?_)
    · intro y0 y1 y2 y3 y4 y5 y6 y7 y8 y9 y10
      unfold mime_Extract.j1
      repeat' first
      | (with_reducible exact ih0 _ _ _ _ _ _ _)
      | (with_reducible exact ih1 _ _ _ _ _ _ _ _ _ _ _)
      | (with_reducible exact headers_Split.mono _ _ _)
      | (with_reducible exact LeO.refl _)
      | (with_reducible exact LeO.none _)
      | (with_reducible refine LeO.ite ?_ ?_)
      | (with_reducible refine LeO.bind ?_ (fun _ => ?_))
      | exact ih0 _ _ _ _ _ _ _
      | exact ih1 _ _ _ _ _ _ _ _ _ _ _
      | exact headers_Split.mono _ _ _
      | exact LeO.none _
      | refine LeO.ite ?_ ?_
      | refine LeO.bind ?_ (fun _ => ?_)
theorem mime_Extract.mono : ∀ a0 k, LeO (mime_Extract.f k a0) (mime_Extract.f (k + 1) a0) := by
  intro a0 k
  obtain ⟨ih0, ih1⟩ := mime_Extract.mono_l k
  unfold mime_Extract.f
  repeat' first
      | (with_reducible exact ih0 _ _ _ _ _ _ _)
      | (with_reducible exact ih1 _ _ _ _ _ _ _ _ _ _ _)
      | (with_reducible exact headers_Split.mono _ _ _)
      | (with_reducible exact LeO.refl _)
      | (with_reducible exact LeO.none _)
      | (with_reducible refine LeO.ite ?_ ?_)
      | (with_reducible refine LeO.bind ?_ (fun _ => ?_))
      | exact ih0 _ _ _ _ _ _ _
      | exact ih1 _ _ _ _ _ _ _ _ _ _ _
      | exact headers_Split.mono _ _ _
      | exact LeO.none _
      | refine LeO.ite ?_ ?_
      | refine LeO.bind ?_ (fun _ => ?_)
def mime_Extract.T11 : Bool × List (List Nat × List Nat) := (true, [([], []), ([0], [0]), ([1], [1]), ([1, 2], [1, 2]), ([3, 1], [3]), ([4], [4]), ([5, 4], [4, 5]), ([4, 6], [4, 6]), ([7, 4], [7]), ([8], [8]), ([9, 8, 8], [8, 9]), ([8], [8]), ([11, 10, 8], [8, 11]), ([10, 12, 8], [8, 10, 12]), ([8, 13], [8, 13])])
def mime_Extract.B11 : List Nat := [0, 1, 3, 7, 15, 31, 63, 127, 255, 511, 1023, 511, 4095, 8191, 16383]
theorem mime_Extract.tab11 : rtab .any (opsOf Tryz.f20 11) = mime_Extract.T11 := by kernel_rfl
theorem mime_Extract.bits11 : waitsOk mime_Extract.T11.2 mime_Extract.B11 = true := by kernel_rfl
set_option maxHeartbeats 8000000 in
set_option maxRecDepth 100000 in
theorem mime_Extract.calls (k : Nat) (A0 : Option Addr) (c0 : Nat) (l0 : List (S55)) (r1 : ByteArray) (r2 : ByteArray) (r3 : List (S32)) (r4 : Bool) (w : World) (hr0 : Kd.C k55 w A0 l0.length l0) (hc0 : l0.length ≤ c0) (h : mime_Extract.f k l0 = some (r1, r2, r3, r4)) :
    Calls Tryz.prog 20 #[.slice A0 l0.length c0] w fun e w' => ∃ v2_ : Value, e = .returned (.tuple #[.agg #[.string r1, .string r2, v2_], .bool r4]) ∧ Kd.R k32 32 w' w.heap.size (fun _ => True) v2_ r3 ∧ Below w.heap.size w w' := by
  have hu24 := Tryz.underlying24
  have hu32 := Tryz.underlying32
  have HR0 := Aside0.mk hr0
  have HC0 := Aside0.mk hc0
  clear hr0 hc0
  have HB := Aside0.mk (Below.refl w.heap.size w)
  have H : ((headers_Split.f k l0 (⟨#[99, 111, 110, 116, 101, 110, 116, 45, 116, 121, 112, 101]⟩ : ByteArray)).bind fun bt103 => (mime_Extract.l0 k false bt103.1 (bt103.1.length : Int) 0 (⟨#[]⟩ : ByteArray) (⟨#[]⟩ : ByteArray) ([] : List (S32)))) = some (r1, r2, r3, r4) := h
  clear h
  replace H := Option.bind_eq_some_iff.mp H
  obtain ⟨⟨t103, t104⟩, A20, H⟩ := H
  replace H : (mime_Extract.l0 k false t103 (t103.length : Int) 0 (⟨#[]⟩ : ByteArray) (⟨#[]⟩ : ByteArray) ([] : List (S32))) = some (r1, r2, r3, r4) := H
  have A2 := Aside0.mk A20
  clear A20
  have H' := Aside0.mk H
  clear H
  go_enter Tryz.func20, Tryz.ntmps20
  go_wp2_with (first | ((with_reducible refine gate_dst (N := 2) rfl ?_); refine box_event ?hg (N := 2) ?hd (cs := #[.string (⟨#[]⟩ : ByteArray), .string (⟨#[]⟩ : ByteArray), .slice none 0 0]) (t := 24) ?hr ?_; (case hd => rfl); (case hg => rfl); (case hr => first | (go_simp; done) | (go_simp; rfl)); intro gb101 hg w3 hbox hb; have n0_ := Aside0.mk (below_step (by repeat (first | (with_reducible first | exact HB.out | apply below_alloc | apply pw_below_drewN | apply below_drew1) | exact HB.out)) hb); have n1_ := Aside0.mk (hbox); have n2_ := Aside0.mk ((by rw [hg]; exact (below_size (by repeat (first | (with_reducible first | exact HB.out | apply below_alloc | apply pw_below_drewN | apply below_drew1) | exact HB.out))) : w.heap.size ≤ gb101)); have n3_ := Aside0.mk ((by rw [hg]; exact (below_size (by repeat (first | (with_reducible first | exact HB.out | apply below_alloc | apply pw_below_drewN | apply below_drew1) | exact HB.out))) : w.heap.size ≤ gb101)); clear HB; have HB := n0_; have BK101 := n1_; have GW101 := n2_; have GE101 := n3_; clear n0_ n1_ n2_ n3_; clear hb hbox hg) | ((with_reducible refine gate_dst (N := 4) rfl ?_); refine box_event ?hg (N := 4) ?hd (cs := #[.string (⟨#[]⟩ : ByteArray), .string (⟨#[]⟩ : ByteArray), .slice none 0 0]) (t := 24) ?hr ?_; (case hd => rfl); (case hg => rfl); (case hr => first | (go_simp; done) | (go_simp; rfl)); intro gb102 hg w4 hbox hb; have n0_ := Aside0.mk (blk_below (g := gb101) (o := .cells #[.string (⟨#[]⟩ : ByteArray), .string (⟨#[]⟩ : ByteArray), .slice none 0 0] 24 (0, 0)) (by (with_reducible repeat (first | refine blk_drewN ?_ _ | refine blk_drew ?_ | refine blk_alloc ?_ _)); exact BK101.out) hb); have n1_ := Aside0.mk (below_step (by repeat (first | (with_reducible first | exact HB.out | apply below_alloc | apply pw_below_drewN | apply below_drew1 | refine below_set ?_ GE101.out) | exact HB.out)) hb); have n2_ := Aside0.mk (hbox); have n3_ := Aside0.mk ((by rw [hg]; exact (below_size (by repeat (first | (with_reducible first | exact HB.out | apply below_alloc | apply pw_below_drewN | apply below_drew1 | refine below_set ?_ GE101.out) | exact HB.out))) : w.heap.size ≤ gb102)); have n4_ := Aside0.mk ((by rw [hg]; exact (below_size (by repeat (first | (with_reducible first | exact HB.out | apply below_alloc | apply pw_below_drewN | apply below_drew1 | refine below_set ?_ GE101.out) | exact HB.out))) : w.heap.size ≤ gb102)); have n5_ := Aside0.mk ((by rw [hg]; exact Nat.ne_of_lt (blk_lt (g := gb101) (o := .cells #[.string (⟨#[]⟩ : ByteArray), .string (⟨#[]⟩ : ByteArray), .slice none 0 0] 24 (0, 0)) (by (with_reducible repeat (first | refine blk_drewN ?_ _ | refine blk_drew ?_ | refine blk_alloc ?_ _)); exact BK101.out)) : gb101 ≠ gb102)); have n6_ := Aside0.mk ((by rw [hg]; exact Nat.ne_of_gt (blk_lt (g := gb101) (o := .cells #[.string (⟨#[]⟩ : ByteArray), .string (⟨#[]⟩ : ByteArray), .slice none 0 0] 24 (0, 0)) (by (with_reducible repeat (first | refine blk_drewN ?_ _ | refine blk_drew ?_ | refine blk_alloc ?_ _)); exact BK101.out)) : gb102 ≠ gb101)); clear BK101; clear HB; have BK101 := n0_; have HB := n1_; have BK102 := n2_; have GW102 := n3_; have GE102 := n4_; have NB101_102 := n5_; have NB102_101 := n6_; clear n0_ n1_ n2_ n3_ n4_ n5_ n6_; clear hb hbox hg) | ((with_reducible refine gate_callee (f := 39) rfl ?_); refine goesL_ (some 18) rfl rfl Tryz.func39 (by kernel_rfl) rfl #[.slice A0 l0.length c0, .string (⟨#[99, 111, 110, 116, 101, 110, 116, 45, 116, 121, 112, 101]⟩ : ByteArray)] rfl (by (try simp only [List.map_toArray, List.map_cons, List.map_nil]); first | done | rfl | (simp only [List.length_drop, List.length_take]; rfl)) ?_; (with_reducible refine (headers_Split.calls k _ _ l0 (⟨#[99, 111, 110, 116, 101, 110, 116, 45, 116, 121, 112, 101]⟩ : ByteArray) t103 t104 _ ?side1 ?side2 A2.out).mono ?_); (case side1 => repeat (first | exact (Kd.C_below HR0.out HB.out) | (with_reducible refine Kd.C_alloc ?_ _) | (with_reducible refine Kd.C_drewN ?_ _) | (with_reducible refine Kd.C_drew ?_))); (case side2 => exact HC0.out); rintro e w5 ⟨v105, rfl, ho0, hb⟩; refine ⟨_, rfl, ?_⟩; have n0_ := Aside0.mk (Kd.R_lower ho0 (below_size (by repeat (first | (with_reducible first | exact HB.out | apply below_alloc | apply pw_below_drewN | apply below_drew1 | refine below_set ?_ GE101.out | refine below_set ?_ GE102.out) | exact HB.out)))); have n1_ := Aside0.mk (blk_below (g := gb101) (o := .cells #[.string (⟨#[]⟩ : ByteArray), .string (⟨#[]⟩ : ByteArray), .slice none 0 0] 24 (0, 0)) (by (with_reducible repeat (first | refine blk_drewN ?_ _ | refine blk_drew ?_ | refine blk_alloc ?_ _)); exact BK101.out) hb); have n2_ := Aside0.mk (blk_below (g := gb102) (o := .cells #[.string (⟨#[]⟩ : ByteArray), .string (⟨#[]⟩ : ByteArray), .slice none 0 0] 24 (0, 0)) (by (with_reducible repeat (first | refine blk_drewN ?_ _ | refine blk_drew ?_ | refine blk_alloc ?_ _)); exact BK102.out) hb); have n3_ := Aside0.mk (below_step (by repeat (first | (with_reducible first | exact HB.out | apply below_alloc | apply pw_below_drewN | apply below_drew1 | refine below_set ?_ GE101.out | refine below_set ?_ GE102.out) | exact HB.out)) hb); clear BK101; clear BK102; clear HB; have HO106 := n0_; have BK101 := n1_; have BK102 := n2_; have HB := n3_; clear n0_ n1_ n2_ n3_; (try clear hb); (try clear hb2); (try clear hk); (try clear hi); (try clear ho0); obtain ⟨Ao6, co6, eo6⟩ := Kd.R_slice HO106.out; subst eo6))
  go_loopg [5, 23] k (fun kq v5 v23 w' => ∃ (x5_1 : Bool) (x23_1 : Int) (x103000_1 : ByteArray) (x103001_1 : ByteArray) (x103002_1 : List (S32)) (u103002 : Value), v5 = .bool x5_1 ∧ v23 = .int .i64 x23_1 ∧ Aside0 (mime_Extract.l0 kq x5_1 t103 (t103.length : Int) x23_1 x103000_1 x103001_1 x103002_1 = some (r1, r2, r3, r4)) ∧ Aside0 (kq ≤ k) ∧ Aside0 (Kd.R Kd.string 9 w' w.heap.size (fun _ => True) (.slice Ao6 t103.length co6) t103) ∧ Aside0 (Kd.R k32 32 w' w.heap.size (fun _ => True) u103002 x103002_1) ∧ Aside0 (w'.heap[gb101]? = some (.cells #[.string (⟨#[]⟩ : ByteArray), .string (⟨#[]⟩ : ByteArray), (.slice none 0 0)] 24 (0, 0))) ∧ Aside0 (w'.heap[gb102]? = some (.cells #[.string x103000_1, .string x103001_1, u103002] 24 (0, 0))) ∧ Aside0 (Below w.heap.size w w'))
  case atStart => exact ⟨(false), (0), ((⟨#[]⟩ : ByteArray)), ((⟨#[]⟩ : ByteArray)), (([] : List (S32))), (.slice none 0 0), (by first | rfl | (simp; done) | (simp [*]; done)), (by first | rfl | (simp; done) | (simp [*]; done)), H', ⟨Nat.le_refl _⟩, ⟨by (with_reducible repeat (first | apply Kd.R_alloc | apply Kd.R_drewN | apply Kd.R_drew)); exact HO106.out⟩, ⟨by first | exact Kd.R_nil _ _ _ _ _ | exact Kd.N_nil _ _ _ _ _ | exact Kd.V_nil _ _ _ _ _ | exact Kd.Q_nil _ _ _ _ _ | exact Kd.S_nil _ _ _ _ _⟩, ⟨by (with_reducible repeat (first | refine blk_drewN ?_ _ | refine blk_drew ?_ | refine blk_alloc ?_ _)); exact BK101.out⟩, ⟨by (with_reducible repeat (first | refine blk_drewN ?_ _ | refine blk_drew ?_ | refine blk_alloc ?_ _)); exact BK102.out⟩, ⟨by repeat (first | (with_reducible first | exact HB.out | apply below_alloc | apply pw_below_drewN | apply below_drew1 | refine below_set ?_ GE101.out | refine below_set ?_ GE102.out) | exact HB.out)⟩⟩
  case round =>
    clear H'
    try clear c2
    try clear p2
    try clear c3
    obtain ⟨x5_1, x23_1, x103000_1, x103001_1, x103002_1, u103002, rfl, rfl, HA, HK1, HO_21, HO_103002, BK101, BK102, HB⟩ := hrel
    cases gk with
    | zero => exact absurd HA.out (by simp [mime_Extract.l0])
    | succ k1 =>
      have H := HA.out
      clear HA
      simp only [mime_Extract.l0] at H
      by_cases c7 : x23_1 < (t103.length : Int)
      · rw [if_pos c7] at H
        have c7b0 : decide (x23_1 < (t103.length : Int)) = true := decide_eq_true c7
        clear c7
        by_cases c8 : 0 ≤ x23_1
        · rw [if_pos c8] at H
          have c8b0 : decide (0 ≤ x23_1) = true := decide_eq_true c8
          clear c8
          by_cases c9 : x23_1 < (t103.length : Int)
          · rw [if_pos c9] at H
            have c9b0 : decide (x23_1 < (t103.length : Int)) = true := decide_eq_true c9
            clear c9
            replace H := Option.bind_eq_some_iff.mp H
            obtain ⟨⟨t108, t109, t110, t113⟩, A100, H⟩ := H
            replace H : (if t113 = true then ((mime_Essence.f t108 t109 t110).bind fun t115 => (mime_Extract.j1 k1 x5_1 t103 (t103.length : Int) x23_1 (t115.toList == ([42, 47, 42] : List UInt8)) x103000_1 x103001_1 x103002_1 t108 t109 t110)) else (mime_Extract.j1 k1 x5_1 t103 (t103.length : Int) x23_1 true x103000_1 x103001_1 x103002_1 t108 t109 t110)) = some (r1, r2, r3, r4) := H
            have A10 := Aside0.mk A100
            clear A100
            have HC11 := Aside0.mk H
            clear H
            have p107 : 0 ≤ (x23_1 : Int) := of_decide_eq_true (by first | (with_reducible assumption) | assumption)
            have q107 : x23_1 < (t103.length : Int) := of_decide_eq_true (by first | (with_reducible assumption) | assumption)
            obtain ⟨ad107, e107, hx107_0⟩ := Kd.at_string (Kd.R_reads' HO_21.out).2.2 x23_1 p107 q107
            cases e107
            replace p107 := eq_true p107
            replace q107 := eq_true q107
            go_upto_region 8 with (first | ((with_reducible refine gate_callee (f := 15) rfl ?_); refine goesL_ (some 29) rfl rfl Tryz.func15 (by kernel_rfl) rfl #[.string (rdOf ByteArray.empty t103 x23_1)] rfl (by (try simp only [List.map_toArray, List.map_cons, List.map_nil]); first | done | rfl | (simp only [List.length_drop, List.length_take]; rfl)) ?_; (with_reducible refine (mime_Parse.calls (rdOf ByteArray.empty t103 x23_1) t108 t109 t110 t113 _ A10.out).mono ?_); rintro e w12 ⟨v111, rfl, ho0, hb⟩; refine ⟨_, rfl, ?_⟩; have n0_ := Aside0.mk (Kd.R_below (by (with_reducible repeat (first | apply Kd.R_alloc | apply Kd.R_drewN | apply Kd.R_drew)); exact HO_21.out) hb); have n1_ := Aside0.mk (Kd.R_elder' (by (with_reducible repeat (first | apply Kd.R_alloc | apply Kd.R_drewN | apply Kd.R_drew)); exact HO_103002.out) (Kd.R_base ho0) hb); have n2_ := Aside0.mk (Kd.R_lower (Kd.R_new' ho0 (Kd.R_lt (by (with_reducible repeat (first | apply Kd.R_alloc | apply Kd.R_drewN | apply Kd.R_drew)); exact HO_103002.out))) (below_size (by repeat (first | (with_reducible first | exact HB.out | apply below_alloc | apply pw_below_drewN | apply below_drew1 | refine below_set ?_ GE101.out | refine below_set ?_ GE102.out) | exact HB.out)))); have n3_ := Aside0.mk (blk_below (g := gb101) (o := .cells #[.string (⟨#[]⟩ : ByteArray), .string (⟨#[]⟩ : ByteArray), .slice none 0 0] 24 (0, 0)) (by (with_reducible repeat (first | refine blk_drewN ?_ _ | refine blk_drew ?_ | refine blk_alloc ?_ _)); exact BK101.out) hb); have n4_ := Aside0.mk (blk_below (g := gb102) (o := .cells #[.string x103000_1, .string x103001_1, u103002] 24 (0, 0)) (by (with_reducible repeat (first | refine blk_drewN ?_ _ | refine blk_drew ?_ | refine blk_alloc ?_ _)); exact BK102.out) hb); have n5_ := Aside0.mk (below_step (by repeat (first | (with_reducible first | exact HB.out | apply below_alloc | apply pw_below_drewN | apply below_drew1 | refine below_set ?_ GE101.out | refine below_set ?_ GE102.out) | exact HB.out)) hb); clear HO_21; clear HO_103002; clear BK101; clear BK102; clear HB; have HO_21 := n0_; have HO_103002 := n1_; have HO112 := n2_; have BK101 := n3_; have BK102 := n4_; have HB := n5_; clear n0_ n1_ n2_ n3_ n4_ n5_; (try clear hb); (try clear hb2); (try clear hk); (try clear hi); (try clear ho0)) | ((with_reducible refine gate_dst (N := 10) rfl ?_); refine box_event ?hg (N := 10) ?hd (cs := #[.string (⟨#[]⟩ : ByteArray), .string (⟨#[]⟩ : ByteArray), .slice none 0 0]) (t := 24) ?hr ?_; (case hd => rfl); (case hg => rfl); (case hr => first | (go_simp; done) | (go_simp; rfl)); intro gb114 hg w13 hbox hb; have n0_ := Aside0.mk (Kd.R_below (by (with_reducible repeat (first | apply Kd.R_alloc | apply Kd.R_drewN | apply Kd.R_drew)); exact HO_21.out) hb); have n1_ := Aside0.mk (Kd.R_below (by (with_reducible repeat (first | apply Kd.R_alloc | apply Kd.R_drewN | apply Kd.R_drew)); exact HO_103002.out) hb); have n2_ := Aside0.mk (Kd.R_below (by (with_reducible repeat (first | apply Kd.R_alloc | apply Kd.R_drewN | apply Kd.R_drew)); exact HO112.out) hb); have n3_ := Aside0.mk (blk_below (g := gb101) (o := .cells #[.string (⟨#[]⟩ : ByteArray), .string (⟨#[]⟩ : ByteArray), .slice none 0 0] 24 (0, 0)) (by (with_reducible repeat (first | refine blk_drewN ?_ _ | refine blk_drew ?_ | refine blk_alloc ?_ _)); exact BK101.out) hb); have n4_ := Aside0.mk (blk_below (g := gb102) (o := .cells #[.string x103000_1, .string x103001_1, u103002] 24 (0, 0)) (by (with_reducible repeat (first | refine blk_drewN ?_ _ | refine blk_drew ?_ | refine blk_alloc ?_ _)); exact BK102.out) hb); have n5_ := Aside0.mk (below_step (by repeat (first | (with_reducible first | exact HB.out | apply below_alloc | apply pw_below_drewN | apply below_drew1 | refine below_set ?_ GE101.out | refine below_set ?_ GE102.out) | exact HB.out)) hb); have n6_ := Aside0.mk (hbox); have n7_ := Aside0.mk ((by rw [hg]; exact (below_size (by repeat (first | (with_reducible first | exact HB.out | apply below_alloc | apply pw_below_drewN | apply below_drew1 | refine below_set ?_ GE101.out | refine below_set ?_ GE102.out) | exact HB.out))) : w.heap.size ≤ gb114)); have n8_ := Aside0.mk ((by rw [hg]; exact (below_size (by repeat (first | (with_reducible first | exact HB.out | apply below_alloc | apply pw_below_drewN | apply below_drew1 | refine below_set ?_ GE101.out | refine below_set ?_ GE102.out) | exact HB.out))) : w.heap.size ≤ gb114)); have n9_ := Aside0.mk ((by rw [hg]; exact Nat.ne_of_lt (blk_lt (g := gb101) (o := .cells #[.string (⟨#[]⟩ : ByteArray), .string (⟨#[]⟩ : ByteArray), .slice none 0 0] 24 (0, 0)) (by (with_reducible repeat (first | refine blk_drewN ?_ _ | refine blk_drew ?_ | refine blk_alloc ?_ _)); exact BK101.out)) : gb101 ≠ gb114)); have n10_ := Aside0.mk ((by rw [hg]; exact Nat.ne_of_gt (blk_lt (g := gb101) (o := .cells #[.string (⟨#[]⟩ : ByteArray), .string (⟨#[]⟩ : ByteArray), .slice none 0 0] 24 (0, 0)) (by (with_reducible repeat (first | refine blk_drewN ?_ _ | refine blk_drew ?_ | refine blk_alloc ?_ _)); exact BK101.out)) : gb114 ≠ gb101)); have n11_ := Aside0.mk ((by rw [hg]; exact Nat.ne_of_lt (blk_lt (g := gb102) (o := .cells #[.string x103000_1, .string x103001_1, u103002] 24 (0, 0)) (by (with_reducible repeat (first | refine blk_drewN ?_ _ | refine blk_drew ?_ | refine blk_alloc ?_ _)); exact BK102.out)) : gb102 ≠ gb114)); have n12_ := Aside0.mk ((by rw [hg]; exact Nat.ne_of_gt (blk_lt (g := gb102) (o := .cells #[.string x103000_1, .string x103001_1, u103002] 24 (0, 0)) (by (with_reducible repeat (first | refine blk_drewN ?_ _ | refine blk_drew ?_ | refine blk_alloc ?_ _)); exact BK102.out)) : gb114 ≠ gb102)); clear HO_21; clear HO_103002; clear HO112; clear BK101; clear BK102; clear HB; have HO_21 := n0_; have HO_103002 := n1_; have HO112 := n2_; have BK101 := n3_; have BK102 := n4_; have HB := n5_; have BK114 := n6_; have GW114 := n7_; have GE114 := n8_; have NB101_114 := n9_; have NB114_101 := n10_; have NB102_114 := n11_; have NB114_102 := n12_; clear n0_ n1_ n2_ n3_ n4_ n5_ n6_ n7_ n8_ n9_ n10_ n11_ n12_; clear hb hbox hg; have hnb14 := NB114_101.out; have hnc14 := NB101_114.out; have hnb15 := NB114_102.out; have hnc15 := NB102_114.out; have hcz16_0 : w13.cell? ⟨gb114, 0, none⟩ = some (.string (⟨#[]⟩ : ByteArray)) := (blk_cell BK114.out 0).trans rfl; have hcz16_1 : w13.cell? ⟨gb114, 1, none⟩ = some (.string (⟨#[]⟩ : ByteArray)) := (blk_cell BK114.out 1).trans rfl; have hcz16_2 : w13.cell? ⟨gb114, 2, none⟩ = some (.slice none 0 0) := (blk_cell BK114.out 2).trans rfl; have hfz16_0 := blk_frozen BK114.out 0; have hfz16_1 := blk_frozen BK114.out 1; have hfz16_2 := blk_frozen BK114.out 2; obtain ⟨Ao17, co17, eo17⟩ := Kd.R_slice HO112.out; subst eo17))
            (try simp only [Act.put, List.setIfInBounds_toArray, List.set_cons_zero, List.set_cons_succ])
            go_cut [38] (fun v38 wc => ∃ (kq : Nat) (x38_10 : Bool), v38 = .bool x38_10 ∧ Aside0 (mime_Extract.j1 kq x5_1 t103 (t103.length : Int) x23_1 x38_10 x103000_1 x103001_1 x103002_1 t108 t109 t110 = some (r1, r2, r3, r4)) ∧ Aside0 (kq ≤ k1) ∧ Aside0 (Kd.R Kd.string 9 wc w.heap.size (fun _ => True) (.slice (some ad107) t103.length co6) t103) ∧ Aside0 (Kd.R k32 32 wc w.heap.size (fun k_ => some k_ ≠ ((.slice Ao17 t110.length co17) : Value).ownBlock) u103002 x103002_1) ∧ Aside0 (Kd.R k32 32 wc w.heap.size (fun k_ => some k_ ≠ (u103002 : Value).ownBlock) (.slice Ao17 t110.length co17) t110) ∧ Aside0 (wc.heap[gb101]? = some (.cells #[.string (⟨#[]⟩ : ByteArray), .string (⟨#[]⟩ : ByteArray), (.slice none 0 0)] 24 (0, 0))) ∧ Aside0 (wc.heap[gb102]? = some (.cells #[.string x103000_1, .string x103001_1, u103002] 24 (0, 0))) ∧ Aside0 (wc.heap[gb114]? = some (.cells #[.string t108, .string t109, (.slice Ao17 t110.length co17)] 24 (0, 0))) ∧ Aside0 (Below w.heap.size w wc))
            case first =>
              have H := HC11.out
              clear HC11
              by_cases c18 : t113 = true
              · subst c18
                have H1 : ((mime_Essence.f t108 t109 t110).bind fun t115 => (mime_Extract.j1 k1 x5_1 t103 (t103.length : Int) x23_1 (t115.toList == ([42, 47, 42] : List UInt8)) x103000_1 x103001_1 x103002_1 t108 t109 t110)) = some (r1, r2, r3, r4) := by rw [if_pos rfl] at H; exact H
                clear H
                have H := H1
                clear H1
                replace H := Option.bind_eq_some_iff.mp H
                obtain ⟨t115, A190, H⟩ := H
                replace H : (mime_Extract.j1 k1 x5_1 t103 (t103.length : Int) x23_1 (t115.toList == ([42, 47, 42] : List UInt8)) x103000_1 x103001_1 x103002_1 t108 t109 t110) = some (r1, r2, r3, r4) := H
                have A19 := Aside0.mk A190
                clear A190
                have H' := Aside0.mk H
                clear H
                have hnb20 := NB114_101.out
                have hnc20 := NB101_114.out
                have hnb21 := NB114_102.out
                have hnc21 := NB102_114.out
                have hcz22_0 : w13.cell? ⟨gb114, 0, none⟩ = some (.string (⟨#[]⟩ : ByteArray)) := (blk_cell BK114.out 0).trans rfl
                have hcz22_1 : w13.cell? ⟨gb114, 1, none⟩ = some (.string (⟨#[]⟩ : ByteArray)) := (blk_cell BK114.out 1).trans rfl
                have hcz22_2 : w13.cell? ⟨gb114, 2, none⟩ = some (.slice none 0 0) := (blk_cell BK114.out 2).trans rfl
                have hfz22_0 := blk_frozen BK114.out 0
                have hfz22_1 := blk_frozen BK114.out 1
                have hfz22_2 := blk_frozen BK114.out 2
                go_wp2_with (first | (go_at_call 29; (with_reducible refine (mime_Essence.calls t108 t109 _ _ t110 t115 _ ?side1 ?side2 A19.out).mono ?_); (case side1 => refine (Kd.R_reads' (e := 32) (base := w.heap.size) (ok := fun k_ => (True ∧ some k_ ≠ (u103002 : Value).ownBlock)) (n := t110.length) (c := co17) ?_).2.2; exact (by (with_reducible repeat (first | apply Kd.R_alloc | apply Kd.R_drewN | apply Kd.R_drew)); exact (Kd.R_mono (Kd.R_far (p := ⟨gb114, 2, none⟩) (Kd.R_far (p := ⟨gb114, 1, none⟩) (Kd.R_far (p := ⟨gb114, 0, none⟩) (Kd.R_types HO112.out BK114.out (by decide)) (fun _ hk => hk.2) (.string t108)) (fun _ hk => hk.2) (.string t109)) (fun _ hk => hk.2) (.slice Ao17 t110.length co17)) (fun _ h_ => h_.1)))); (case side2 => exact (Kd.R_reads' HO112.out).2.1); rintro e w23 ⟨rfl, hb⟩; have n0_ := Aside0.mk (Kd.R_below (by (with_reducible repeat (first | apply Kd.R_alloc | apply Kd.R_drewN | apply Kd.R_drew)); exact (Kd.R_mono (Kd.R_far (p := ⟨gb114, 2, none⟩) (Kd.R_far (p := ⟨gb114, 1, none⟩) (Kd.R_far (p := ⟨gb114, 0, none⟩) (Kd.R_types HO_21.out BK114.out (by decide)) (fun _ hk => hk.2) (.string t108)) (fun _ hk => hk.2) (.string t109)) (fun _ hk => hk.2) (.slice Ao17 t110.length co17)) (fun _ h_ => h_.1))) hb); have n1_ := Aside0.mk (Kd.R_below (by (with_reducible repeat (first | apply Kd.R_alloc | apply Kd.R_drewN | apply Kd.R_drew)); exact (Kd.R_mono (Kd.R_far (p := ⟨gb114, 2, none⟩) (Kd.R_far (p := ⟨gb114, 1, none⟩) (Kd.R_far (p := ⟨gb114, 0, none⟩) (Kd.R_types HO_103002.out BK114.out (by decide)) (fun _ hk => hk.2) (.string t108)) (fun _ hk => hk.2) (.string t109)) (fun _ hk => hk.2) (.slice Ao17 t110.length co17)) (fun _ h_ => h_.1))) hb); have n2_ := Aside0.mk (Kd.R_below (by (with_reducible repeat (first | apply Kd.R_alloc | apply Kd.R_drewN | apply Kd.R_drew)); exact (Kd.R_mono (Kd.R_far (p := ⟨gb114, 2, none⟩) (Kd.R_far (p := ⟨gb114, 1, none⟩) (Kd.R_far (p := ⟨gb114, 0, none⟩) (Kd.R_types HO112.out BK114.out (by decide)) (fun _ hk => hk.2) (.string t108)) (fun _ hk => hk.2) (.string t109)) (fun _ hk => hk.2) (.slice Ao17 t110.length co17)) (fun _ h_ => h_.1))) hb); have n3_ := Aside0.mk (blk_below (g := gb101) (o := .cells #[.string (⟨#[]⟩ : ByteArray), .string (⟨#[]⟩ : ByteArray), .slice none 0 0] 24 (0, 0)) (by (with_reducible repeat (first | refine blk_drewN ?_ _ | refine blk_drew ?_ | refine blk_alloc ?_ _)); refine blk_far ?_ NB101_114.out _; (with_reducible repeat (first | refine blk_drewN ?_ _ | refine blk_drew ?_ | refine blk_alloc ?_ _)); refine blk_far ?_ NB101_114.out _; (with_reducible repeat (first | refine blk_drewN ?_ _ | refine blk_drew ?_ | refine blk_alloc ?_ _)); refine blk_far ?_ NB101_114.out _; (with_reducible repeat (first | refine blk_drewN ?_ _ | refine blk_drew ?_ | refine blk_alloc ?_ _)); exact BK101.out) hb); have n4_ := Aside0.mk (blk_below (g := gb102) (o := .cells #[.string x103000_1, .string x103001_1, u103002] 24 (0, 0)) (by (with_reducible repeat (first | refine blk_drewN ?_ _ | refine blk_drew ?_ | refine blk_alloc ?_ _)); refine blk_far ?_ NB102_114.out _; (with_reducible repeat (first | refine blk_drewN ?_ _ | refine blk_drew ?_ | refine blk_alloc ?_ _)); refine blk_far ?_ NB102_114.out _; (with_reducible repeat (first | refine blk_drewN ?_ _ | refine blk_drew ?_ | refine blk_alloc ?_ _)); refine blk_far ?_ NB102_114.out _; (with_reducible repeat (first | refine blk_drewN ?_ _ | refine blk_drew ?_ | refine blk_alloc ?_ _)); exact BK102.out) hb); have n5_ := Aside0.mk (blk_below (g := gb114) (o := .cells #[.string t108, .string t109, .slice Ao17 t110.length co17] 24 (0, 0)) (by (with_reducible repeat (first | refine blk_drewN ?_ _ | refine blk_drew ?_ | refine blk_alloc ?_ _)); refine blk_put (cs := #[.string t108, .string t109, .slice none 0 0]) ?_ 2 _ rfl; (with_reducible repeat (first | refine blk_drewN ?_ _ | refine blk_drew ?_ | refine blk_alloc ?_ _)); refine blk_put (cs := #[.string t108, .string (⟨#[]⟩ : ByteArray), .slice none 0 0]) ?_ 1 _ rfl; (with_reducible repeat (first | refine blk_drewN ?_ _ | refine blk_drew ?_ | refine blk_alloc ?_ _)); refine blk_put (cs := #[.string (⟨#[]⟩ : ByteArray), .string (⟨#[]⟩ : ByteArray), .slice none 0 0]) ?_ 0 _ rfl; (with_reducible repeat (first | refine blk_drewN ?_ _ | refine blk_drew ?_ | refine blk_alloc ?_ _)); exact BK114.out) hb); have n6_ := Aside0.mk (below_step (by repeat (first | (with_reducible first | exact HB.out | apply below_alloc | apply pw_below_drewN | apply below_drew1 | refine below_set ?_ GE101.out | refine below_set ?_ GE102.out | refine below_set ?_ GE114.out) | exact HB.out)) hb); clear HO_21; clear HO_103002; clear HO112; clear BK101; clear BK102; clear BK114; clear HB; have HO_21 := n0_; have HO_103002 := n1_; have HO112 := n2_; have BK101 := n3_; have BK102 := n4_; have BK114 := n5_; have HB := n6_; clear n0_ n1_ n2_ n3_ n4_ n5_ n6_; (try clear hb); (try clear hb2); (try clear hk); (try clear hi)))
                go_meet
                case rel => exact ⟨_, ((t115.toList == ([42, 47, 42] : List UInt8))), (by first | rfl | (simp; done) | (simp [*]; done)), H', ⟨by have := HK1.out; first | omega | exact Nat.le_refl _⟩, ⟨by (with_reducible repeat (first | apply Kd.R_alloc | apply Kd.R_drewN | apply Kd.R_drew)); exact HO_21.out⟩, ⟨by (with_reducible repeat (first | apply Kd.R_alloc | apply Kd.R_drewN | apply Kd.R_drew)); exact Kd.R_mono HO_103002.out (fun _ hk => hk.2)⟩, ⟨by (with_reducible repeat (first | apply Kd.R_alloc | apply Kd.R_drewN | apply Kd.R_drew)); exact Kd.R_mono HO112.out (fun _ hk => hk.2)⟩, ⟨by (with_reducible repeat (first | refine blk_drewN ?_ _ | refine blk_drew ?_ | refine blk_alloc ?_ _)); exact BK101.out⟩, ⟨by (with_reducible repeat (first | refine blk_drewN ?_ _ | refine blk_drew ?_ | refine blk_alloc ?_ _)); exact BK102.out⟩, ⟨by (with_reducible repeat (first | refine blk_drewN ?_ _ | refine blk_drew ?_ | refine blk_alloc ?_ _)); exact BK114.out⟩, ⟨by repeat (first | (with_reducible first | exact HB.out | apply below_alloc | apply pw_below_drewN | apply below_drew1 | refine below_set ?_ GE101.out | refine below_set ?_ GE102.out | refine below_set ?_ GE114.out) | exact HB.out)⟩⟩
              · replace c18 := Bool.eq_false_iff.mpr c18
                subst c18
                have H1 : (mime_Extract.j1 k1 x5_1 t103 (t103.length : Int) x23_1 true x103000_1 x103001_1 x103002_1 t108 t109 t110) = some (r1, r2, r3, r4) := by rw [if_neg (show ¬ (false = true) by decide)] at H; exact H
                clear H
                have H := H1
                clear H1
                have H' := Aside0.mk H
                clear H
                go_wp2
                go_meet
                case rel => exact ⟨_, (true), (by first | rfl | (simp; done) | (simp [*]; done)), H', ⟨by have := HK1.out; first | omega | exact Nat.le_refl _⟩, ⟨by (with_reducible repeat (first | apply Kd.R_alloc | apply Kd.R_drewN | apply Kd.R_drew)); exact Kd.R_mono (Kd.R_far (p := ⟨gb114, 2, none⟩) (Kd.R_far (p := ⟨gb114, 1, none⟩) (Kd.R_far (p := ⟨gb114, 0, none⟩) (Kd.R_types HO_21.out BK114.out (by decide)) (fun _ hk => hk.2) (.string t108)) (fun _ hk => hk.2) (.string t109)) (fun _ hk => hk.2) (.slice Ao17 t110.length co17)) (fun _ hk => trivial)⟩, ⟨by (with_reducible repeat (first | apply Kd.R_alloc | apply Kd.R_drewN | apply Kd.R_drew)); exact Kd.R_mono (Kd.R_far (p := ⟨gb114, 2, none⟩) (Kd.R_far (p := ⟨gb114, 1, none⟩) (Kd.R_far (p := ⟨gb114, 0, none⟩) (Kd.R_types HO_103002.out BK114.out (by decide)) (fun _ hk => hk.2) (.string t108)) (fun _ hk => hk.2) (.string t109)) (fun _ hk => hk.2) (.slice Ao17 t110.length co17)) (fun _ hk => hk.1.2)⟩, ⟨by (with_reducible repeat (first | apply Kd.R_alloc | apply Kd.R_drewN | apply Kd.R_drew)); exact Kd.R_mono (Kd.R_far (p := ⟨gb114, 2, none⟩) (Kd.R_far (p := ⟨gb114, 1, none⟩) (Kd.R_far (p := ⟨gb114, 0, none⟩) (Kd.R_types HO112.out BK114.out (by decide)) (fun _ hk => hk.2) (.string t108)) (fun _ hk => hk.2) (.string t109)) (fun _ hk => hk.2) (.slice Ao17 t110.length co17)) (fun _ hk => hk.1.2)⟩, ⟨by (with_reducible repeat (first | refine blk_drewN ?_ _ | refine blk_drew ?_ | refine blk_alloc ?_ _)); refine blk_far ?_ NB101_114.out _; (with_reducible repeat (first | refine blk_drewN ?_ _ | refine blk_drew ?_ | refine blk_alloc ?_ _)); refine blk_far ?_ NB101_114.out _; (with_reducible repeat (first | refine blk_drewN ?_ _ | refine blk_drew ?_ | refine blk_alloc ?_ _)); refine blk_far ?_ NB101_114.out _; (with_reducible repeat (first | refine blk_drewN ?_ _ | refine blk_drew ?_ | refine blk_alloc ?_ _)); exact BK101.out⟩, ⟨by (with_reducible repeat (first | refine blk_drewN ?_ _ | refine blk_drew ?_ | refine blk_alloc ?_ _)); refine blk_far ?_ NB102_114.out _; (with_reducible repeat (first | refine blk_drewN ?_ _ | refine blk_drew ?_ | refine blk_alloc ?_ _)); refine blk_far ?_ NB102_114.out _; (with_reducible repeat (first | refine blk_drewN ?_ _ | refine blk_drew ?_ | refine blk_alloc ?_ _)); refine blk_far ?_ NB102_114.out _; (with_reducible repeat (first | refine blk_drewN ?_ _ | refine blk_drew ?_ | refine blk_alloc ?_ _)); exact BK102.out⟩, ⟨by (with_reducible repeat (first | refine blk_drewN ?_ _ | refine blk_drew ?_ | refine blk_alloc ?_ _)); refine blk_put (cs := #[.string t108, .string t109, .slice none 0 0]) ?_ 2 _ rfl; (with_reducible repeat (first | refine blk_drewN ?_ _ | refine blk_drew ?_ | refine blk_alloc ?_ _)); refine blk_put (cs := #[.string t108, .string (⟨#[]⟩ : ByteArray), .slice none 0 0]) ?_ 1 _ rfl; (with_reducible repeat (first | refine blk_drewN ?_ _ | refine blk_drew ?_ | refine blk_alloc ?_ _)); refine blk_put (cs := #[.string (⟨#[]⟩ : ByteArray), .string (⟨#[]⟩ : ByteArray), .slice none 0 0]) ?_ 0 _ rfl; (with_reducible repeat (first | refine blk_drewN ?_ _ | refine blk_drew ?_ | refine blk_alloc ?_ _)); exact BK114.out⟩, ⟨by repeat (first | (with_reducible first | exact HB.out | apply below_alloc | apply pw_below_drewN | apply below_drew1 | refine below_set ?_ GE101.out | refine below_set ?_ GE102.out | refine below_set ?_ GE114.out) | exact HB.out)⟩⟩
            case rest =>
              clear HC11
              try clear c1
              try clear p1
              try clear q1
              try clear hx1
              try clear c2
              try clear p2
              try clear c3
              try clear c7
              try clear c7b0
              try clear c8
              try clear c8b0
              try clear c9
              try clear c9b0
              try clear p10
              try clear q10
              try clear hx10
              try clear c14
              try clear c15
              try clear c18
              try clear c20
              try clear c21
              try clear hcz16_0
              try clear hcz16_1
              try clear hcz16_2
              try clear hcz22_0
              try clear hcz22_1
              try clear hcz22_2
              try clear hfz16_0
              try clear hfz16_1
              try clear hfz16_2
              try clear hfz22_0
              try clear hfz22_1
              try clear hfz22_2
              try clear hx107_0
              try clear p107
              try clear p2
              try clear q107
              obtain ⟨kq, x38_10, rfl, HA, HJ10, HO_21, HO_103002, HO_115002, BK101, BK102, BK114, HB⟩ := hcut
              cases kq with
              | zero => exact absurd HA.out (by simp [mime_Extract.j1])
              | succ kj10 =>
                have H := HA.out
                clear HA
                simp only [mime_Extract.j1] at H
                by_cases c24 : x38_10 = true
                · subst c24
                  have H1 : (mime_Extract.l0 kj10 x5_1 t103 (t103.length : Int) (wrap64 (x23_1 + 1)) x103000_1 x103001_1 x103002_1) = some (r1, r2, r3, r4) := by rw [if_pos rfl] at H; exact H
                  clear H
                  have H := H1
                  clear H1
                  have H' := Aside0.mk H
                  clear H
                  go_wp2
                  go_roundg kj10
                  case measure => have := HK1.out; have := HJ10.out; omega
                  case rel => exact ⟨(x5_1), (wrap64 (x23_1 + 1)), (x103000_1), (x103001_1), (x103002_1), (u103002), (by first | rfl | (simp; done) | (simp [*]; done)), (by first | rfl | (simp; done) | (simp [*]; done)), H', ⟨by have := HK1.out; have := HJ10.out; omega⟩, ⟨by (with_reducible repeat (first | apply Kd.R_alloc | apply Kd.R_drewN | apply Kd.R_drew)); exact HO_21.out⟩, ⟨by (with_reducible repeat (first | apply Kd.R_alloc | apply Kd.R_drewN | apply Kd.R_drew)); exact Kd.R_mono HO_103002.out (fun _ hk => trivial)⟩, ⟨by (with_reducible repeat (first | refine blk_drewN ?_ _ | refine blk_drew ?_ | refine blk_alloc ?_ _)); exact BK101.out⟩, ⟨by (with_reducible repeat (first | refine blk_drewN ?_ _ | refine blk_drew ?_ | refine blk_alloc ?_ _)); exact BK102.out⟩, ⟨by repeat (first | (with_reducible first | exact HB.out | apply below_alloc | apply pw_below_drewN | apply below_drew1 | refine below_set ?_ GE101.out | refine below_set ?_ GE102.out | refine below_set ?_ GE114.out) | exact HB.out)⟩⟩
                · replace c24 := Bool.eq_false_iff.mpr c24
                  subst c24
                  have H1 : ((mime_Type_has.f t108 t109 t110 (⟨#[99, 104, 97, 114, 115, 101, 116]⟩ : ByteArray)).bind fun bt116 => ((mime_Type_has.f x103000_1 x103001_1 x103002_1 (⟨#[99, 104, 97, 114, 115, 101, 116]⟩ : ByteArray)).bind fun bt118 => (if x5_1 = true then (if bt118.2 = true then (if bt116.2 = true then (mime_Extract.l0 kj10 true t103 (t103.length : Int) (wrap64 (x23_1 + 1)) t108 t109 t110) else ((mime_Essence.f t108 t109 t110).bind fun t120 => ((mime_Essence.f x103000_1 x103001_1 x103002_1).bind fun t121 => (if t120.toList = t121.toList then (if t110.length < 4398046511104 then (mime_Extract.l0 kj10 true t103 (t103.length : Int) (wrap64 (x23_1 + 1)) t108 t109 (t110 ++ [(⟨(⟨#[99, 104, 97, 114, 115, 101, 116]⟩ : ByteArray), bt118.1⟩ : S32)])) else (none)) else (mime_Extract.l0 kj10 true t103 (t103.length : Int) (wrap64 (x23_1 + 1)) t108 t109 t110))))) else (mime_Extract.l0 kj10 true t103 (t103.length : Int) (wrap64 (x23_1 + 1)) t108 t109 t110)) else (mime_Extract.l0 kj10 true t103 (t103.length : Int) (wrap64 (x23_1 + 1)) t108 t109 t110)))) = some (r1, r2, r3, r4) := by rw [if_neg (show ¬ (false = true) by decide)] at H; exact H
                  clear H
                  have H := H1
                  clear H1
                  replace H := Option.bind_eq_some_iff.mp H
                  obtain ⟨⟨t116, t117⟩, A250, H⟩ := H
                  replace H : ((mime_Type_has.f x103000_1 x103001_1 x103002_1 (⟨#[99, 104, 97, 114, 115, 101, 116]⟩ : ByteArray)).bind fun bt118 => (if x5_1 = true then (if bt118.2 = true then (if t117 = true then (mime_Extract.l0 kj10 true t103 (t103.length : Int) (wrap64 (x23_1 + 1)) t108 t109 t110) else ((mime_Essence.f t108 t109 t110).bind fun t120 => ((mime_Essence.f x103000_1 x103001_1 x103002_1).bind fun t121 => (if t120.toList = t121.toList then (if t110.length < 4398046511104 then (mime_Extract.l0 kj10 true t103 (t103.length : Int) (wrap64 (x23_1 + 1)) t108 t109 (t110 ++ [(⟨(⟨#[99, 104, 97, 114, 115, 101, 116]⟩ : ByteArray), bt118.1⟩ : S32)])) else (none)) else (mime_Extract.l0 kj10 true t103 (t103.length : Int) (wrap64 (x23_1 + 1)) t108 t109 t110))))) else (mime_Extract.l0 kj10 true t103 (t103.length : Int) (wrap64 (x23_1 + 1)) t108 t109 t110)) else (mime_Extract.l0 kj10 true t103 (t103.length : Int) (wrap64 (x23_1 + 1)) t108 t109 t110))) = some (r1, r2, r3, r4) := H
                  have A25 := Aside0.mk A250
                  clear A250
                  replace H := Option.bind_eq_some_iff.mp H
                  obtain ⟨⟨t118, t119⟩, A260, H⟩ := H
                  replace H : (if x5_1 = true then (if t119 = true then (if t117 = true then (mime_Extract.l0 kj10 true t103 (t103.length : Int) (wrap64 (x23_1 + 1)) t108 t109 t110) else ((mime_Essence.f t108 t109 t110).bind fun t120 => ((mime_Essence.f x103000_1 x103001_1 x103002_1).bind fun t121 => (if t120.toList = t121.toList then (if t110.length < 4398046511104 then (mime_Extract.l0 kj10 true t103 (t103.length : Int) (wrap64 (x23_1 + 1)) t108 t109 (t110 ++ [(⟨(⟨#[99, 104, 97, 114, 115, 101, 116]⟩ : ByteArray), t118⟩ : S32)])) else (none)) else (mime_Extract.l0 kj10 true t103 (t103.length : Int) (wrap64 (x23_1 + 1)) t108 t109 t110))))) else (mime_Extract.l0 kj10 true t103 (t103.length : Int) (wrap64 (x23_1 + 1)) t108 t109 t110)) else (mime_Extract.l0 kj10 true t103 (t103.length : Int) (wrap64 (x23_1 + 1)) t108 t109 t110)) = some (r1, r2, r3, r4) := H
                  have A26 := Aside0.mk A260
                  clear A260
                  by_cases c27 : x5_1 = true
                  · subst c27
                    have H1 : (if t119 = true then (if t117 = true then (mime_Extract.l0 kj10 true t103 (t103.length : Int) (wrap64 (x23_1 + 1)) t108 t109 t110) else ((mime_Essence.f t108 t109 t110).bind fun t120 => ((mime_Essence.f x103000_1 x103001_1 x103002_1).bind fun t121 => (if t120.toList = t121.toList then (if t110.length < 4398046511104 then (mime_Extract.l0 kj10 true t103 (t103.length : Int) (wrap64 (x23_1 + 1)) t108 t109 (t110 ++ [(⟨(⟨#[99, 104, 97, 114, 115, 101, 116]⟩ : ByteArray), t118⟩ : S32)])) else (none)) else (mime_Extract.l0 kj10 true t103 (t103.length : Int) (wrap64 (x23_1 + 1)) t108 t109 t110))))) else (mime_Extract.l0 kj10 true t103 (t103.length : Int) (wrap64 (x23_1 + 1)) t108 t109 t110)) = some (r1, r2, r3, r4) := by rw [if_pos rfl] at H; exact H
                    clear H
                    have H := H1
                    clear H1
                    by_cases c28 : t119 = true
                    · subst c28
                      have H1 : (if t117 = true then (mime_Extract.l0 kj10 true t103 (t103.length : Int) (wrap64 (x23_1 + 1)) t108 t109 t110) else ((mime_Essence.f t108 t109 t110).bind fun t120 => ((mime_Essence.f x103000_1 x103001_1 x103002_1).bind fun t121 => (if t120.toList = t121.toList then (if t110.length < 4398046511104 then (mime_Extract.l0 kj10 true t103 (t103.length : Int) (wrap64 (x23_1 + 1)) t108 t109 (t110 ++ [(⟨(⟨#[99, 104, 97, 114, 115, 101, 116]⟩ : ByteArray), t118⟩ : S32)])) else (none)) else (mime_Extract.l0 kj10 true t103 (t103.length : Int) (wrap64 (x23_1 + 1)) t108 t109 t110))))) = some (r1, r2, r3, r4) := by rw [if_pos rfl] at H; exact H
                      clear H
                      have H := H1
                      clear H1
                      by_cases c29 : t117 = true
                      · subst c29
                        have H1 : (mime_Extract.l0 kj10 true t103 (t103.length : Int) (wrap64 (x23_1 + 1)) t108 t109 t110) = some (r1, r2, r3, r4) := by rw [if_pos rfl] at H; exact H
                        clear H
                        have H := H1
                        clear H1
                        have H' := Aside0.mk H
                        clear H
                        have hnb30 := NB114_101.out
                        have hnc30 := NB101_114.out
                        have hnb31 := NB114_102.out
                        have hnc31 := NB102_114.out
                        have hcz32_0 : wc.cell? ⟨gb114, 0, none⟩ = some (.string t108) := (blk_cell BK114.out 0).trans rfl
                        have hcz32_1 : wc.cell? ⟨gb114, 1, none⟩ = some (.string t109) := (blk_cell BK114.out 1).trans rfl
                        have hcz32_2 : wc.cell? ⟨gb114, 2, none⟩ = some (.slice Ao17 t110.length co17) := (blk_cell BK114.out 2).trans rfl
                        have hfz32_0 := blk_frozen BK114.out 0
                        have hfz32_1 := blk_frozen BK114.out 1
                        have hfz32_2 := blk_frozen BK114.out 2
                        try go_wp2_with (first | ((with_reducible refine gate_callee (f := 69) rfl ?_); refine goesL_ (some 41) rfl rfl Tryz.func69 (by kernel_rfl) rfl #[.agg #[.string t108, .string t109, .slice Ao17 t110.length co17], .string (⟨#[99, 104, 97, 114, 115, 101, 116]⟩ : ByteArray)] rfl (by (try simp only [List.map_toArray, List.map_cons, List.map_nil]); first | done | rfl | (simp only [List.length_drop, List.length_take]; rfl)) ?_; (with_reducible refine (mime_Type_has.calls t108 t109 _ _ t110 (⟨#[99, 104, 97, 114, 115, 101, 116]⟩ : ByteArray) t116 true _ ?side1 ?side2 A25.out).mono ?_); (case side1 => repeat (first | exact (Kd.R_reads' HO_115002.out).2.2 | (with_reducible refine Kd.C_alloc ?_ _) | (with_reducible refine Kd.C_drewN ?_ _) | (with_reducible refine Kd.C_drew ?_))); (case side2 => exact (Kd.R_reads' HO_115002.out).2.1); rintro e w33 ⟨rfl, hb⟩; refine ⟨_, rfl, ?_⟩; have n0_ := Aside0.mk (Kd.R_below (by (with_reducible repeat (first | apply Kd.R_alloc | apply Kd.R_drewN | apply Kd.R_drew)); exact HO_21.out) hb); have n1_ := Aside0.mk (Kd.R_below (by (with_reducible repeat (first | apply Kd.R_alloc | apply Kd.R_drewN | apply Kd.R_drew)); exact HO_103002.out) hb); have n2_ := Aside0.mk (Kd.R_below (by (with_reducible repeat (first | apply Kd.R_alloc | apply Kd.R_drewN | apply Kd.R_drew)); exact HO_115002.out) hb); have n3_ := Aside0.mk (blk_below (g := gb101) (o := .cells #[.string (⟨#[]⟩ : ByteArray), .string (⟨#[]⟩ : ByteArray), .slice none 0 0] 24 (0, 0)) (by (with_reducible repeat (first | refine blk_drewN ?_ _ | refine blk_drew ?_ | refine blk_alloc ?_ _)); exact BK101.out) hb); have n4_ := Aside0.mk (blk_below (g := gb102) (o := .cells #[.string x103000_1, .string x103001_1, u103002] 24 (0, 0)) (by (with_reducible repeat (first | refine blk_drewN ?_ _ | refine blk_drew ?_ | refine blk_alloc ?_ _)); exact BK102.out) hb); have n5_ := Aside0.mk (blk_below (g := gb114) (o := .cells #[.string t108, .string t109, .slice Ao17 t110.length co17] 24 (0, 0)) (by (with_reducible repeat (first | refine blk_drewN ?_ _ | refine blk_drew ?_ | refine blk_alloc ?_ _)); exact BK114.out) hb); have n6_ := Aside0.mk (below_step (by repeat (first | (with_reducible first | exact HB.out | apply below_alloc | apply pw_below_drewN | apply below_drew1 | refine below_set ?_ GE101.out | refine below_set ?_ GE102.out | refine below_set ?_ GE114.out) | exact HB.out)) hb); clear HO_21; clear HO_103002; clear HO_115002; clear BK101; clear BK102; clear BK114; clear HB; have HO_21 := n0_; have HO_103002 := n1_; have HO_115002 := n2_; have BK101 := n3_; have BK102 := n4_; have BK114 := n5_; have HB := n6_; clear n0_ n1_ n2_ n3_ n4_ n5_ n6_; (try clear hb); (try clear hb2); (try clear hk); (try clear hi); have hnb34 := NB102_101.out; have hnc34 := NB101_102.out; have hcz35_0 : w33.cell? ⟨gb102, 0, none⟩ = some (.string x103000_1) := (blk_cell BK102.out 0).trans rfl; have hcz35_1 : w33.cell? ⟨gb102, 1, none⟩ = some (.string x103001_1) := (blk_cell BK102.out 1).trans rfl; have hcz35_2 : w33.cell? ⟨gb102, 2, none⟩ = some (u103002) := (blk_cell BK102.out 2).trans rfl; have hfz35_0 := blk_frozen BK102.out 0; have hfz35_1 := blk_frozen BK102.out 1; have hfz35_2 := blk_frozen BK102.out 2; obtain ⟨Ao36, co36, eo36⟩ := Kd.R_slice HO_103002.out; subst eo36) | ((with_reducible refine gate_callee (f := 69) rfl ?_); refine goesL_ (some 46) rfl rfl Tryz.func69 (by kernel_rfl) rfl #[.agg #[.string x103000_1, .string x103001_1, .slice Ao36 x103002_1.length co36], .string (⟨#[99, 104, 97, 114, 115, 101, 116]⟩ : ByteArray)] rfl (by (try simp only [List.map_toArray, List.map_cons, List.map_nil]); first | done | rfl | (simp only [List.length_drop, List.length_take]; rfl)) ?_; (with_reducible refine (mime_Type_has.calls x103000_1 x103001_1 _ _ x103002_1 (⟨#[99, 104, 97, 114, 115, 101, 116]⟩ : ByteArray) t118 true _ ?side1 ?side2 A26.out).mono ?_); (case side1 => repeat (first | exact (Kd.R_reads' HO_103002.out).2.2 | (with_reducible refine Kd.C_alloc ?_ _) | (with_reducible refine Kd.C_drewN ?_ _) | (with_reducible refine Kd.C_drew ?_))); (case side2 => exact (Kd.R_reads' HO_103002.out).2.1); rintro e w37 ⟨rfl, hb⟩; refine ⟨_, rfl, ?_⟩; have n0_ := Aside0.mk (Kd.R_below (by (with_reducible repeat (first | apply Kd.R_alloc | apply Kd.R_drewN | apply Kd.R_drew)); exact HO_21.out) hb); have n1_ := Aside0.mk (Kd.R_below (by (with_reducible repeat (first | apply Kd.R_alloc | apply Kd.R_drewN | apply Kd.R_drew)); exact HO_103002.out) hb); have n2_ := Aside0.mk (Kd.R_below (by (with_reducible repeat (first | apply Kd.R_alloc | apply Kd.R_drewN | apply Kd.R_drew)); exact HO_115002.out) hb); have n3_ := Aside0.mk (blk_below (g := gb101) (o := .cells #[.string (⟨#[]⟩ : ByteArray), .string (⟨#[]⟩ : ByteArray), .slice none 0 0] 24 (0, 0)) (by (with_reducible repeat (first | refine blk_drewN ?_ _ | refine blk_drew ?_ | refine blk_alloc ?_ _)); exact BK101.out) hb); have n4_ := Aside0.mk (blk_below (g := gb102) (o := .cells #[.string x103000_1, .string x103001_1, .slice Ao36 x103002_1.length co36] 24 (0, 0)) (by (with_reducible repeat (first | refine blk_drewN ?_ _ | refine blk_drew ?_ | refine blk_alloc ?_ _)); exact BK102.out) hb); have n5_ := Aside0.mk (blk_below (g := gb114) (o := .cells #[.string t108, .string t109, .slice Ao17 t110.length co17] 24 (0, 0)) (by (with_reducible repeat (first | refine blk_drewN ?_ _ | refine blk_drew ?_ | refine blk_alloc ?_ _)); exact BK114.out) hb); have n6_ := Aside0.mk (below_step (by repeat (first | (with_reducible first | exact HB.out | apply below_alloc | apply pw_below_drewN | apply below_drew1 | refine below_set ?_ GE101.out | refine below_set ?_ GE102.out | refine below_set ?_ GE114.out) | exact HB.out)) hb); clear HO_21; clear HO_103002; clear HO_115002; clear BK101; clear BK102; clear BK114; clear HB; have HO_21 := n0_; have HO_103002 := n1_; have HO_115002 := n2_; have BK101 := n3_; have BK102 := n4_; have BK114 := n5_; have HB := n6_; clear n0_ n1_ n2_ n3_ n4_ n5_ n6_; (try clear hb); (try clear hb2); (try clear hk); (try clear hi)))
                        have n0_ := Aside0.mk (Kd.R_drew HO_21.out)
                        have n1_ := Aside0.mk (Kd.R_drew HO_103002.out)
                        have n2_ := Aside0.mk (Kd.R_drew HO_115002.out)
                        have n3_ := Aside0.mk (blk_drew BK101.out)
                        have n4_ := Aside0.mk (blk_drew BK102.out)
                        have n5_ := Aside0.mk (blk_drew BK114.out)
                        have n6_ := Aside0.mk (below_drew1 HB.out)
                        clear HO_21
                        clear HO_103002
                        clear HO_115002
                        clear BK101
                        clear BK102
                        clear BK114
                        clear HB
                        have HO_21 := n0_
                        have HO_103002 := n1_
                        have HO_115002 := n2_
                        have BK101 := n3_
                        have BK102 := n4_
                        have BK114 := n5_
                        have HB := n6_
                        clear n0_ n1_ n2_ n3_ n4_ n5_ n6_
                        refine start_ (n := 15) (S := fun w' => True) (ds := []) #[false, false, false, false, false, false, false, false, false, false, false, false, false, false, false] (by kernel_rfl) rfl rfl trivial (fun hHeld => ?_); refine with_tabW mime_Extract.tab11 mime_Extract.bits11 (fun HT_ HW_ => ?_)
                        generalize w37.drew = w38 at HO_21 HO_103002 HO_115002 BK101 BK102 BK114 HB hHeld ⊢
                        refine pure_ (i := 0) (N := some 49) (v := ?_) (a' := ?_) #[true, false, false, false, false, false, false, false, false, false, false, false, false, false, false] rfl rfl (any_of HT_.out (by kernel_rfl)) (fun _ _ _ h => h) (Or.inl ⟨by rfl, ?_⟩) ?_ ?_
                        rotate_left
                        · intro w'
                          go_simp
                          with_reducible rfl
                        rotate_left
                        · simp only [Act.put, List.setIfInBounds_toArray, List.set_cons_zero, List.set_cons_succ, i64_w, i32_w]
                          rfl
                        refine pure_ (i := 1) (N := some 50) (v := ?_) (a' := ?_) #[true, true, false, false, false, false, false, false, false, false, false, false, false, false, false] rfl rfl (any_of HT_.out (by kernel_rfl)) (fun _ _ _ h => h) (Or.inl ⟨by rfl, ?_⟩) ?_ ?_
                        rotate_left
                        · intro w'
                          go_simp
                          with_reducible rfl
                        rotate_left
                        · simp only [Act.put, List.setIfInBounds_toArray, List.set_cons_zero, List.set_cons_succ, i64_w, i32_w]
                          rfl
                        refine pure_ (i := 2) (N := some 51) (v := ?_) (a' := ?_) #[true, true, true, false, false, false, false, false, false, false, false, false, false, false, false] rfl rfl (any_of HT_.out (by kernel_rfl)) (fun _ _ _ h => h) (Or.inl ⟨by rfl, ?_⟩) ?_ ?_
                        rotate_left
                        · intro w'
                          go_simp
                          with_reducible rfl
                        rotate_left
                        · simp only [Act.put, List.setIfInBounds_toArray, List.set_cons_zero, List.set_cons_succ, i64_w, i32_w]
                          rfl
                        refine pure_ (i := 3) (N := some 52) (v := ?_) (a' := ?_) #[true, true, true, true, false, false, false, false, false, false, false, false, false, false, false] rfl rfl (any_of HT_.out (by kernel_rfl)) (fun _ _ _ h => h) (Or.inl ⟨by rfl, ?_⟩) ?_ ?_
                        rotate_left
                        · intro w'
                          go_simp
                          with_reducible rfl
                        rotate_left
                        · simp only [Act.put, List.setIfInBounds_toArray, List.set_cons_zero, List.set_cons_succ, i64_w, i32_w]
                          rfl
                        refine pure_ (i := 4) (N := some 53) (v := ?_) (a' := ?_) #[true, true, true, true, true, false, false, false, false, false, false, false, false, false, false] rfl rfl (any_of HT_.out (by kernel_rfl)) (fun _ _ _ h => h) (Or.inl ⟨by rfl, ?_⟩) ?_ ?_
                        rotate_left
                        · intro w'
                          go_simp
                          with_reducible rfl
                        rotate_left
                        · simp only [Act.put, List.setIfInBounds_toArray, List.set_cons_zero, List.set_cons_succ, i64_w, i32_w]
                          rfl
                        refine pure_ (i := 5) (N := some 54) (v := ?_) (a' := ?_) #[true, true, true, true, true, true, false, false, false, false, false, false, false, false, false] rfl rfl (any_of HT_.out (by kernel_rfl)) (fun _ _ _ h => h) (Or.inl ⟨by rfl, ?_⟩) ?_ ?_
                        rotate_left
                        · intro w'
                          go_simp
                          with_reducible rfl
                        rotate_left
                        · simp only [Act.put, List.setIfInBounds_toArray, List.set_cons_zero, List.set_cons_succ, i64_w, i32_w]
                          rfl
                        refine pure_ (i := 6) (N := some 55) (v := ?_) (a' := ?_) #[true, true, true, true, true, true, true, false, false, false, false, false, false, false, false] rfl rfl (any_of HT_.out (by kernel_rfl)) (fun _ _ _ h => h) (Or.inl ⟨by rfl, ?_⟩) ?_ ?_
                        rotate_left
                        · intro w'
                          go_simp
                          with_reducible rfl
                        rotate_left
                        · simp only [Act.put, List.setIfInBounds_toArray, List.set_cons_zero, List.set_cons_succ, i64_w, i32_w]
                          rfl
                        refine pure_ (i := 7) (N := some 56) (v := ?_) (a' := ?_) #[true, true, true, true, true, true, true, true, false, false, false, false, false, false, false] rfl rfl (any_of HT_.out (by kernel_rfl)) (fun _ _ _ h => h) (Or.inl ⟨by rfl, ?_⟩) ?_ ?_
                        rotate_left
                        · intro w'
                          go_simp
                          with_reducible rfl
                        rotate_left
                        · simp only [Act.put, List.setIfInBounds_toArray, List.set_cons_zero, List.set_cons_succ, i64_w, i32_w]
                          rfl
                        refine pure_ (i := 8) (N := some 57) (v := ?_) (a' := ?_) #[true, true, true, true, true, true, true, true, true, false, false, false, false, false, false] rfl rfl (any_of HT_.out (by kernel_rfl)) (fun _ _ _ h => h) (Or.inl ⟨by rfl, ?_⟩) ?_ ?_
                        rotate_left
                        · intro w'
                          go_simp
                          with_reducible rfl
                        rotate_left
                        · simp only [Act.put, List.setIfInBounds_toArray, List.set_cons_zero, List.set_cons_succ, i64_w, i32_w]
                          rfl
                        refine pure_ (i := 9) (N := some 58) (v := undef) (a' := ?_) #[true, true, true, true, true, true, true, true, true, true, false, false, false, false, false] rfl rfl (any_of HT_.out (by kernel_rfl)) (fun _ _ _ h => h) (Or.inr ⟨by rfl, rfl⟩) ?_ ?_
                        rotate_left
                        · simp only [Act.put, List.setIfInBounds_toArray, List.set_cons_zero, List.set_cons_succ, i64_w, i32_w]
                          rfl
                        refine pure_ (i := 10) (N := some 59) (v := undef) (a' := ?_) #[true, true, true, true, true, true, true, true, true, true, true, false, false, false, false] rfl rfl (any_of HT_.out (by kernel_rfl)) (fun _ _ _ h => h) (Or.inr ⟨by rfl, rfl⟩) ?_ ?_
                        rotate_left
                        · simp only [Act.put, List.setIfInBounds_toArray, List.set_cons_zero, List.set_cons_succ, i64_w, i32_w]
                          rfl
                        refine pure_ (i := 11) (N := some 60) (v := undef) (a' := ?_) #[true, true, true, true, true, true, true, true, true, true, true, true, false, false, false] rfl rfl (any_of HT_.out (by kernel_rfl)) (fun _ _ _ h => h) (Or.inr ⟨by rfl, rfl⟩) ?_ ?_
                        rotate_left
                        · simp only [Act.put, List.setIfInBounds_toArray, List.set_cons_zero, List.set_cons_succ, i64_w, i32_w]
                          rfl
                        refine pure_ (i := 12) (N := some 61) (v := undef) (a' := ?_) #[true, true, true, true, true, true, true, true, true, true, true, true, true, false, false] rfl rfl (any_of HT_.out (by kernel_rfl)) (fun _ _ _ h => h) (Or.inr ⟨by rfl, rfl⟩) ?_ ?_
                        rotate_left
                        · simp only [Act.put, List.setIfInBounds_toArray, List.set_cons_zero, List.set_cons_succ, i64_w, i32_w]
                          rfl
                        refine pure_ (i := 13) (N := some 62) (v := undef) (a' := ?_) #[true, true, true, true, true, true, true, true, true, true, true, true, true, true, false] rfl rfl (any_of HT_.out (by kernel_rfl)) (fun _ _ _ h => h) (Or.inr ⟨by rfl, rfl⟩) ?_ ?_
                        rotate_left
                        · simp only [Act.put, List.setIfInBounds_toArray, List.set_cons_zero, List.set_cons_succ, i64_w, i32_w]
                          rfl
                        refine pure_ (i := 14) (N := some 63) (v := ?_) (a' := ?_) #[true, true, true, true, true, true, true, true, true, true, true, true, true, true, true] rfl rfl (any_of HT_.out (by kernel_rfl)) (fun _ _ _ h => h) (Or.inl ⟨by rfl, ?_⟩) ?_ ?_
                        rotate_left
                        · intro w'
                          go_simp
                          with_reducible rfl
                        rotate_left
                        · simp only [Act.put, List.setIfInBounds_toArray, List.set_cons_zero, List.set_cons_succ, i64_w, i32_w]
                          rfl
                        refine done_ (done_of HT_.out (by kernel_rfl)) ?_
                        have hcz39_0 : w38.cell? ⟨gb114, 0, none⟩ = some (.string t108) := (blk_cell BK114.out 0).trans rfl
                        have hcz39_1 : w38.cell? ⟨gb114, 1, none⟩ = some (.string t109) := (blk_cell BK114.out 1).trans rfl
                        have hcz39_2 : w38.cell? ⟨gb114, 2, none⟩ = some (.slice Ao17 t110.length co17) := (blk_cell BK114.out 2).trans rfl
                        have hfz39_0 := blk_frozen BK114.out 0
                        have hfz39_1 := blk_frozen BK114.out 1
                        have hfz39_2 := blk_frozen BK114.out 2
                        have hcz40_0 : w38.cell? ⟨gb102, 0, none⟩ = some (.string x103000_1) := (blk_cell BK102.out 0).trans rfl
                        have hcz40_1 : w38.cell? ⟨gb102, 1, none⟩ = some (.string x103001_1) := (blk_cell BK102.out 1).trans rfl
                        have hcz40_2 : w38.cell? ⟨gb102, 2, none⟩ = some (.slice Ao36 x103002_1.length co36) := (blk_cell BK102.out 2).trans rfl
                        have hfz40_0 := blk_frozen BK102.out 0
                        have hfz40_1 := blk_frozen BK102.out 1
                        have hfz40_2 := blk_frozen BK102.out 2
                        try go_wp2
                        go_roundg kj10
                        case measure => have := HK1.out; have := HJ10.out; omega
                        case rel => exact ⟨(true), (wrap64 (x23_1 + 1)), (t108), (t109), (t110), (.slice Ao17 t110.length co17), (by first | rfl | (simp; done) | (simp [*]; done)), (by first | rfl | (simp; done) | (simp [*]; done)), H', ⟨by have := HK1.out; have := HJ10.out; omega⟩, ⟨by (with_reducible repeat (first | apply Kd.R_alloc | apply Kd.R_drewN | apply Kd.R_drew)); exact Kd.R_mono (Kd.R_far (p := ⟨gb102, 2, none⟩) (Kd.R_far (p := ⟨gb102, 1, none⟩) (Kd.R_far (p := ⟨gb102, 0, none⟩) (Kd.R_types HO_21.out BK102.out (by decide)) (fun _ hk => hk.2) (.string t108)) (fun _ hk => hk.2) (.string t109)) (fun _ hk => hk.2) (.slice Ao17 t110.length co17)) (fun _ hk => trivial)⟩, ⟨by (with_reducible repeat (first | apply Kd.R_alloc | apply Kd.R_drewN | apply Kd.R_drew)); exact Kd.R_mono (Kd.R_far (p := ⟨gb102, 2, none⟩) (Kd.R_far (p := ⟨gb102, 1, none⟩) (Kd.R_far (p := ⟨gb102, 0, none⟩) (Kd.R_types HO_115002.out BK102.out (by decide)) (fun _ hk => hk.2) (.string t108)) (fun _ hk => hk.2) (.string t109)) (fun _ hk => hk.2) (.slice Ao17 t110.length co17)) (fun _ hk => trivial)⟩, ⟨by (with_reducible repeat (first | refine blk_drewN ?_ _ | refine blk_drew ?_ | refine blk_alloc ?_ _)); refine blk_far ?_ NB101_102.out _; (with_reducible repeat (first | refine blk_drewN ?_ _ | refine blk_drew ?_ | refine blk_alloc ?_ _)); refine blk_far ?_ NB101_102.out _; (with_reducible repeat (first | refine blk_drewN ?_ _ | refine blk_drew ?_ | refine blk_alloc ?_ _)); refine blk_far ?_ NB101_102.out _; (with_reducible repeat (first | refine blk_drewN ?_ _ | refine blk_drew ?_ | refine blk_alloc ?_ _)); exact BK101.out⟩, ⟨by (with_reducible repeat (first | refine blk_drewN ?_ _ | refine blk_drew ?_ | refine blk_alloc ?_ _)); refine blk_put (cs := #[.string t108, .string t109, .slice Ao36 x103002_1.length co36]) ?_ 2 _ rfl; (with_reducible repeat (first | refine blk_drewN ?_ _ | refine blk_drew ?_ | refine blk_alloc ?_ _)); refine blk_put (cs := #[.string t108, .string x103001_1, .slice Ao36 x103002_1.length co36]) ?_ 1 _ rfl; (with_reducible repeat (first | refine blk_drewN ?_ _ | refine blk_drew ?_ | refine blk_alloc ?_ _)); refine blk_put (cs := #[.string x103000_1, .string x103001_1, .slice Ao36 x103002_1.length co36]) ?_ 0 _ rfl; (with_reducible repeat (first | refine blk_drewN ?_ _ | refine blk_drew ?_ | refine blk_alloc ?_ _)); exact BK102.out⟩, ⟨by repeat (first | (with_reducible first | exact HB.out | apply below_alloc | apply pw_below_drewN | apply below_drew1 | refine below_set ?_ GE101.out | refine below_set ?_ GE102.out | refine below_set ?_ GE114.out) | exact HB.out)⟩⟩
                      · replace c29 := Bool.eq_false_iff.mpr c29
                        subst c29
                        have H1 : ((mime_Essence.f t108 t109 t110).bind fun t120 => ((mime_Essence.f x103000_1 x103001_1 x103002_1).bind fun t121 => (if t120.toList = t121.toList then (if t110.length < 4398046511104 then (mime_Extract.l0 kj10 true t103 (t103.length : Int) (wrap64 (x23_1 + 1)) t108 t109 (t110 ++ [(⟨(⟨#[99, 104, 97, 114, 115, 101, 116]⟩ : ByteArray), t118⟩ : S32)])) else (none)) else (mime_Extract.l0 kj10 true t103 (t103.length : Int) (wrap64 (x23_1 + 1)) t108 t109 t110)))) = some (r1, r2, r3, r4) := by rw [if_neg (show ¬ (false = true) by decide)] at H; exact H
                        clear H
                        have H := H1
                        clear H1
                        replace H := Option.bind_eq_some_iff.mp H
                        obtain ⟨t120, A410, H⟩ := H
                        replace H : ((mime_Essence.f x103000_1 x103001_1 x103002_1).bind fun t121 => (if t120.toList = t121.toList then (if t110.length < 4398046511104 then (mime_Extract.l0 kj10 true t103 (t103.length : Int) (wrap64 (x23_1 + 1)) t108 t109 (t110 ++ [(⟨(⟨#[99, 104, 97, 114, 115, 101, 116]⟩ : ByteArray), t118⟩ : S32)])) else (none)) else (mime_Extract.l0 kj10 true t103 (t103.length : Int) (wrap64 (x23_1 + 1)) t108 t109 t110))) = some (r1, r2, r3, r4) := H
                        have A41 := Aside0.mk A410
                        clear A410
                        replace H := Option.bind_eq_some_iff.mp H
                        obtain ⟨t121, A420, H⟩ := H
                        replace H : (if t120.toList = t121.toList then (if t110.length < 4398046511104 then (mime_Extract.l0 kj10 true t103 (t103.length : Int) (wrap64 (x23_1 + 1)) t108 t109 (t110 ++ [(⟨(⟨#[99, 104, 97, 114, 115, 101, 116]⟩ : ByteArray), t118⟩ : S32)])) else (none)) else (mime_Extract.l0 kj10 true t103 (t103.length : Int) (wrap64 (x23_1 + 1)) t108 t109 t110)) = some (r1, r2, r3, r4) := H
                        have A42 := Aside0.mk A420
                        clear A420
                        by_cases c43 : t120.toList = t121.toList
                        · rw [if_pos c43] at H
                          have c43b0 : (t120.toList == t121.toList) = true := beq_iff_eq.mpr c43
                          have c43b1 : (t120.toList != t121.toList) = false := bne_eq_false_iff_eq.mpr c43
                          clear c43
                          by_cases c44 : t110.length < 4398046511104
                          · rw [if_pos c44] at H
                            have LMc44 := Aside0.mk c44
                            clear c44
                            obtain ⟨y122, hy122⟩ : ∃ y_ : List (S32), y_ = (t110 ++ [(⟨(⟨#[99, 104, 97, 114, 115, 101, 116]⟩ : ByteArray), t118⟩ : S32)]) := ⟨_, rfl⟩
                            replace H : (mime_Extract.l0 kj10 true t103 (t103.length : Int) (wrap64 (x23_1 + 1)) t108 t109 y122) = some (r1, r2, r3, r4) := by first | (rw [hy122]; with_reducible exact H) | (have H2_ := (Option.bind_some _ _).symm.trans H; rw [hy122]; with_reducible exact H2_) | (have H2_ := (Option.bind_some _ _).symm.trans H; with_reducible exact H2_) | with_reducible exact H | (rw [hy122]; exact H) | exact H
                            have Ny122 := Aside0.mk hy122
                            clear hy122
                            have H' := Aside0.mk H
                            clear H
                            have hnb45 := NB114_101.out
                            have hnc45 := NB101_114.out
                            have hnb46 := NB114_102.out
                            have hnc46 := NB102_114.out
                            have hcz47_0 : wc.cell? ⟨gb114, 0, none⟩ = some (.string t108) := (blk_cell BK114.out 0).trans rfl
                            have hcz47_1 : wc.cell? ⟨gb114, 1, none⟩ = some (.string t109) := (blk_cell BK114.out 1).trans rfl
                            have hcz47_2 : wc.cell? ⟨gb114, 2, none⟩ = some (.slice Ao17 t110.length co17) := (blk_cell BK114.out 2).trans rfl
                            have hfz47_0 := blk_frozen BK114.out 0
                            have hfz47_1 := blk_frozen BK114.out 1
                            have hfz47_2 := blk_frozen BK114.out 2
                            try go_wp2_with (first | ((with_reducible refine gate_callee (f := 69) rfl ?_); refine goesL_ (some 41) rfl rfl Tryz.func69 (by kernel_rfl) rfl #[.agg #[.string t108, .string t109, .slice Ao17 t110.length co17], .string (⟨#[99, 104, 97, 114, 115, 101, 116]⟩ : ByteArray)] rfl (by (try simp only [List.map_toArray, List.map_cons, List.map_nil]); first | done | rfl | (simp only [List.length_drop, List.length_take]; rfl)) ?_; (with_reducible refine (mime_Type_has.calls t108 t109 _ _ t110 (⟨#[99, 104, 97, 114, 115, 101, 116]⟩ : ByteArray) t116 false _ ?side1 ?side2 A25.out).mono ?_); (case side1 => repeat (first | exact (Kd.R_reads' HO_115002.out).2.2 | (with_reducible refine Kd.C_alloc ?_ _) | (with_reducible refine Kd.C_drewN ?_ _) | (with_reducible refine Kd.C_drew ?_))); (case side2 => exact (Kd.R_reads' HO_115002.out).2.1); rintro e w48 ⟨rfl, hb⟩; refine ⟨_, rfl, ?_⟩; have n0_ := Aside0.mk (Kd.R_below (by (with_reducible repeat (first | apply Kd.R_alloc | apply Kd.R_drewN | apply Kd.R_drew)); exact HO_21.out) hb); have n1_ := Aside0.mk (Kd.R_below (by (with_reducible repeat (first | apply Kd.R_alloc | apply Kd.R_drewN | apply Kd.R_drew)); exact HO_103002.out) hb); have n2_ := Aside0.mk (Kd.R_below (by (with_reducible repeat (first | apply Kd.R_alloc | apply Kd.R_drewN | apply Kd.R_drew)); exact HO_115002.out) hb); have n3_ := Aside0.mk (blk_below (g := gb101) (o := .cells #[.string (⟨#[]⟩ : ByteArray), .string (⟨#[]⟩ : ByteArray), .slice none 0 0] 24 (0, 0)) (by (with_reducible repeat (first | refine blk_drewN ?_ _ | refine blk_drew ?_ | refine blk_alloc ?_ _)); exact BK101.out) hb); have n4_ := Aside0.mk (blk_below (g := gb102) (o := .cells #[.string x103000_1, .string x103001_1, u103002] 24 (0, 0)) (by (with_reducible repeat (first | refine blk_drewN ?_ _ | refine blk_drew ?_ | refine blk_alloc ?_ _)); exact BK102.out) hb); have n5_ := Aside0.mk (blk_below (g := gb114) (o := .cells #[.string t108, .string t109, .slice Ao17 t110.length co17] 24 (0, 0)) (by (with_reducible repeat (first | refine blk_drewN ?_ _ | refine blk_drew ?_ | refine blk_alloc ?_ _)); exact BK114.out) hb); have n6_ := Aside0.mk (below_step (by repeat (first | (with_reducible first | exact HB.out | apply below_alloc | apply pw_below_drewN | apply below_drew1 | refine below_set ?_ GE101.out | refine below_set ?_ GE102.out | refine below_set ?_ GE114.out) | exact HB.out)) hb); clear HO_21; clear HO_103002; clear HO_115002; clear BK101; clear BK102; clear BK114; clear HB; have HO_21 := n0_; have HO_103002 := n1_; have HO_115002 := n2_; have BK101 := n3_; have BK102 := n4_; have BK114 := n5_; have HB := n6_; clear n0_ n1_ n2_ n3_ n4_ n5_ n6_; (try clear hb); (try clear hb2); (try clear hk); (try clear hi); have hnb49 := NB102_101.out; have hnc49 := NB101_102.out; have hcz50_0 : w48.cell? ⟨gb102, 0, none⟩ = some (.string x103000_1) := (blk_cell BK102.out 0).trans rfl; have hcz50_1 : w48.cell? ⟨gb102, 1, none⟩ = some (.string x103001_1) := (blk_cell BK102.out 1).trans rfl; have hcz50_2 : w48.cell? ⟨gb102, 2, none⟩ = some (u103002) := (blk_cell BK102.out 2).trans rfl; have hfz50_0 := blk_frozen BK102.out 0; have hfz50_1 := blk_frozen BK102.out 1; have hfz50_2 := blk_frozen BK102.out 2; obtain ⟨Ao51, co51, eo51⟩ := Kd.R_slice HO_103002.out; subst eo51) | ((with_reducible refine gate_callee (f := 69) rfl ?_); refine goesL_ (some 46) rfl rfl Tryz.func69 (by kernel_rfl) rfl #[.agg #[.string x103000_1, .string x103001_1, .slice Ao51 x103002_1.length co51], .string (⟨#[99, 104, 97, 114, 115, 101, 116]⟩ : ByteArray)] rfl (by (try simp only [List.map_toArray, List.map_cons, List.map_nil]); first | done | rfl | (simp only [List.length_drop, List.length_take]; rfl)) ?_; (with_reducible refine (mime_Type_has.calls x103000_1 x103001_1 _ _ x103002_1 (⟨#[99, 104, 97, 114, 115, 101, 116]⟩ : ByteArray) t118 true _ ?side1 ?side2 A26.out).mono ?_); (case side1 => repeat (first | exact (Kd.R_reads' HO_103002.out).2.2 | (with_reducible refine Kd.C_alloc ?_ _) | (with_reducible refine Kd.C_drewN ?_ _) | (with_reducible refine Kd.C_drew ?_))); (case side2 => exact (Kd.R_reads' HO_103002.out).2.1); rintro e w52 ⟨rfl, hb⟩; refine ⟨_, rfl, ?_⟩; have n0_ := Aside0.mk (Kd.R_below (by (with_reducible repeat (first | apply Kd.R_alloc | apply Kd.R_drewN | apply Kd.R_drew)); exact HO_21.out) hb); have n1_ := Aside0.mk (Kd.R_below (by (with_reducible repeat (first | apply Kd.R_alloc | apply Kd.R_drewN | apply Kd.R_drew)); exact HO_103002.out) hb); have n2_ := Aside0.mk (Kd.R_below (by (with_reducible repeat (first | apply Kd.R_alloc | apply Kd.R_drewN | apply Kd.R_drew)); exact HO_115002.out) hb); have n3_ := Aside0.mk (blk_below (g := gb101) (o := .cells #[.string (⟨#[]⟩ : ByteArray), .string (⟨#[]⟩ : ByteArray), .slice none 0 0] 24 (0, 0)) (by (with_reducible repeat (first | refine blk_drewN ?_ _ | refine blk_drew ?_ | refine blk_alloc ?_ _)); exact BK101.out) hb); have n4_ := Aside0.mk (blk_below (g := gb102) (o := .cells #[.string x103000_1, .string x103001_1, .slice Ao51 x103002_1.length co51] 24 (0, 0)) (by (with_reducible repeat (first | refine blk_drewN ?_ _ | refine blk_drew ?_ | refine blk_alloc ?_ _)); exact BK102.out) hb); have n5_ := Aside0.mk (blk_below (g := gb114) (o := .cells #[.string t108, .string t109, .slice Ao17 t110.length co17] 24 (0, 0)) (by (with_reducible repeat (first | refine blk_drewN ?_ _ | refine blk_drew ?_ | refine blk_alloc ?_ _)); exact BK114.out) hb); have n6_ := Aside0.mk (below_step (by repeat (first | (with_reducible first | exact HB.out | apply below_alloc | apply pw_below_drewN | apply below_drew1 | refine below_set ?_ GE101.out | refine below_set ?_ GE102.out | refine below_set ?_ GE114.out) | exact HB.out)) hb); clear HO_21; clear HO_103002; clear HO_115002; clear BK101; clear BK102; clear BK114; clear HB; have HO_21 := n0_; have HO_103002 := n1_; have HO_115002 := n2_; have BK101 := n3_; have BK102 := n4_; have BK114 := n5_; have HB := n6_; clear n0_ n1_ n2_ n3_ n4_ n5_ n6_; (try clear hb); (try clear hb2); (try clear hk); (try clear hi)))
                            have n0_ := Aside0.mk (Kd.R_drew HO_21.out)
                            have n1_ := Aside0.mk (Kd.R_drew HO_103002.out)
                            have n2_ := Aside0.mk (Kd.R_drew HO_115002.out)
                            have n3_ := Aside0.mk (blk_drew BK101.out)
                            have n4_ := Aside0.mk (blk_drew BK102.out)
                            have n5_ := Aside0.mk (blk_drew BK114.out)
                            have n6_ := Aside0.mk (below_drew1 HB.out)
                            clear HO_21
                            clear HO_103002
                            clear HO_115002
                            clear BK101
                            clear BK102
                            clear BK114
                            clear HB
                            have HO_21 := n0_
                            have HO_103002 := n1_
                            have HO_115002 := n2_
                            have BK101 := n3_
                            have BK102 := n4_
                            have BK114 := n5_
                            have HB := n6_
                            clear n0_ n1_ n2_ n3_ n4_ n5_ n6_
                            refine start_ (n := 15) (S := fun w' => w'.cell? ⟨gb114, 0, none⟩ = some (.string t108) ∧ w'.cell? ⟨gb114, 1, none⟩ = some (.string t109) ∧ w'.cell? ⟨gb114, 2, none⟩ = some (.slice Ao17 t110.length co17) ∧ w'.cell? ⟨gb102, 0, none⟩ = some (.string x103000_1) ∧ w'.cell? ⟨gb102, 1, none⟩ = some (.string x103001_1) ∧ w'.cell? ⟨gb102, 2, none⟩ = some (.slice Ao51 x103002_1.length co51)) (ds := []) #[false, false, false, false, false, false, false, false, false, false, false, false, false, false, false] (by kernel_rfl) rfl rfl ⟨(blk_cell BK114.out 0).trans rfl, (blk_cell BK114.out 1).trans rfl, (blk_cell BK114.out 2).trans rfl, (blk_cell BK102.out 0).trans rfl, (blk_cell BK102.out 1).trans rfl, (blk_cell BK102.out 2).trans rfl⟩ (fun hHeld => ?_); refine with_tabW mime_Extract.tab11 mime_Extract.bits11 (fun HT_ HW_ => ?_)
                            generalize w52.drew = w53 at HO_21 HO_103002 HO_115002 BK101 BK102 BK114 HB hHeld ⊢
                            refine pure_ (i := 0) (N := some 49) (v := ?_) (a' := ?_) #[true, false, false, false, false, false, false, false, false, false, false, false, false, false, false] rfl rfl (any_of HT_.out (by kernel_rfl)) (fun _ _ _ h => h) (Or.inl ⟨by rfl, ?_⟩) ?_ ?_
                            rotate_left
                            · intro w'
                              go_simp
                              with_reducible rfl
                            rotate_left
                            · simp only [Act.put, List.setIfInBounds_toArray, List.set_cons_zero, List.set_cons_succ, i64_w, i32_w]
                              rfl
                            refine pure_ (i := 1) (N := some 50) (v := ?_) (a' := ?_) #[true, true, false, false, false, false, false, false, false, false, false, false, false, false, false] rfl rfl (any_of HT_.out (by kernel_rfl)) (fun _ _ _ h => h) (Or.inl ⟨by rfl, ?_⟩) ?_ ?_
                            rotate_left
                            · intro w'
                              go_simp
                              with_reducible rfl
                            rotate_left
                            · simp only [Act.put, List.setIfInBounds_toArray, List.set_cons_zero, List.set_cons_succ, i64_w, i32_w]
                              rfl
                            refine pure_ (i := 2) (N := some 51) (v := ?_) (a' := ?_) #[true, true, true, false, false, false, false, false, false, false, false, false, false, false, false] rfl rfl (any_of HT_.out (by kernel_rfl)) (fun _ _ _ h => h) (Or.inl ⟨by rfl, ?_⟩) ?_ ?_
                            rotate_left
                            · intro w'
                              go_simp
                              with_reducible rfl
                            rotate_left
                            · simp only [Act.put, List.setIfInBounds_toArray, List.set_cons_zero, List.set_cons_succ, i64_w, i32_w]
                              rfl
                            refine pure_ (i := 3) (N := some 52) (v := ?_) (a' := ?_) #[true, true, true, true, false, false, false, false, false, false, false, false, false, false, false] rfl rfl (any_of HT_.out (by kernel_rfl)) (fun _ _ _ h => h) (Or.inl ⟨by rfl, ?_⟩) ?_ ?_
                            rotate_left
                            · intro w'
                              go_simp
                              with_reducible rfl
                            rotate_left
                            · simp only [Act.put, List.setIfInBounds_toArray, List.set_cons_zero, List.set_cons_succ, i64_w, i32_w]
                              rfl
                            refine pure_ (i := 4) (N := some 53) (v := ?_) (a' := ?_) #[true, true, true, true, true, false, false, false, false, false, false, false, false, false, false] rfl rfl (any_of HT_.out (by kernel_rfl)) (fun _ _ _ h => h) (Or.inl ⟨by rfl, ?_⟩) ?_ ?_
                            rotate_left
                            · intro w'
                              go_simp
                              with_reducible rfl
                            rotate_left
                            · simp only [Act.put, List.setIfInBounds_toArray, List.set_cons_zero, List.set_cons_succ, i64_w, i32_w]
                              rfl
                            refine pure_ (i := 5) (N := some 54) (v := ?_) (a' := ?_) #[true, true, true, true, true, true, false, false, false, false, false, false, false, false, false] rfl rfl (any_of HT_.out (by kernel_rfl)) (fun _ _ _ h => h) (Or.inl ⟨by rfl, ?_⟩) ?_ ?_
                            rotate_left
                            · intro w'
                              go_simp
                              with_reducible rfl
                            rotate_left
                            · simp only [Act.put, List.setIfInBounds_toArray, List.set_cons_zero, List.set_cons_succ, i64_w, i32_w]
                              rfl
                            refine pure_ (i := 6) (N := some 55) (v := ?_) (a' := ?_) #[true, true, true, true, true, true, true, false, false, false, false, false, false, false, false] rfl rfl (any_of HT_.out (by kernel_rfl)) (fun _ _ _ h => h) (Or.inl ⟨by rfl, ?_⟩) ?_ ?_
                            rotate_left
                            · intro w'
                              go_simp
                              with_reducible rfl
                            rotate_left
                            · simp only [Act.put, List.setIfInBounds_toArray, List.set_cons_zero, List.set_cons_succ, i64_w, i32_w]
                              rfl
                            refine pure_ (i := 7) (N := some 56) (v := ?_) (a' := ?_) #[true, true, true, true, true, true, true, true, false, false, false, false, false, false, false] rfl rfl (any_of HT_.out (by kernel_rfl)) (fun _ _ _ h => h) (Or.inl ⟨by rfl, ?_⟩) ?_ ?_
                            rotate_left
                            · intro w'
                              go_simp
                              with_reducible rfl
                            rotate_left
                            · simp only [Act.put, List.setIfInBounds_toArray, List.set_cons_zero, List.set_cons_succ, i64_w, i32_w]
                              rfl
                            refine pure_ (i := 8) (N := some 57) (v := ?_) (a' := ?_) #[true, true, true, true, true, true, true, true, true, false, false, false, false, false, false] rfl rfl (any_of HT_.out (by kernel_rfl)) (fun _ _ _ h => h) (Or.inl ⟨by rfl, ?_⟩) ?_ ?_
                            rotate_left
                            · intro w'
                              go_simp
                              with_reducible rfl
                            rotate_left
                            · simp only [Act.put, List.setIfInBounds_toArray, List.set_cons_zero, List.set_cons_succ, i64_w, i32_w]
                              rfl
                            refine take_ (i := 9) (N := some 58) (v := ?_) (a' := ?_) #[true, true, true, true, true, true, true, true, true, true, false, false, false, false, false] rfl rfl (take_ofW HT_.out HW_.out (by kernel_rfl)) (fun _ _ _ h => h) (Or.inl ⟨by rfl, ?_⟩) hHeld ?_ ?_
                            rotate_left
                            · rintro w' ⟨s0, s1, s2, s3, s4, s5⟩
                              go_simp
                              with_reducible rfl
                            rotate_left
                            · simp only [Act.put, List.setIfInBounds_toArray, List.set_cons_zero, List.set_cons_succ, i64_w, i32_w]
                              rfl
                            refine take_ (i := 11) (N := some 60) (v := ?_) (a' := ?_) #[true, true, true, true, true, true, true, true, true, true, false, true, false, false, false] rfl rfl (take_ofW HT_.out HW_.out (by kernel_rfl)) (fun _ _ _ h => h) (Or.inl ⟨by rfl, ?_⟩) hHeld ?_ ?_
                            rotate_left
                            · rintro w' ⟨s0, s1, s2, s3, s4, s5⟩
                              go_simp
                              with_reducible rfl
                            rotate_left
                            · simp only [Act.put, List.setIfInBounds_toArray, List.set_cons_zero, List.set_cons_succ, i64_w, i32_w]
                              rfl
                            refine one_ (i := 10) (N := some 59) #[true, true, true, true, true, true, true, true, true, true, true, true, false, false, false] rfl rfl (one_of HT_.out (by kernel_rfl)) (by decide) (fun K hK => ?_)
                            refine goes_ Tryz.func29 (by kernel_rfl) rfl #[.agg #[.string t108, .string t109, .slice Ao17 t110.length co17]] (by rfl) rfl rfl (by (try simp only [List.map_toArray, List.map_cons, List.map_nil]); first | done | rfl | (simp only [List.length_drop, List.length_take]; rfl)) ?_
                            with_reducible refine (mime_Essence.calls t108 t109 _ _ t110 t120 _ ?side1 ?side2 A41.out).mono ?_
                            (case side1 => repeat (first | exact (Kd.R_reads' HO_115002.out).2.2 | (with_reducible refine Kd.C_alloc ?_ _) | (with_reducible refine Kd.C_drewN ?_ _) | (with_reducible refine Kd.C_drew ?_)))
                            (case side2 => exact (Kd.R_reads' HO_115002.out).2.1)
                            rintro e w54 ⟨rfl, hb⟩
                            refine ⟨_, rfl, ?_⟩
                            have n0_ := Aside0.mk (Kd.R_below (by (with_reducible repeat (first | apply Kd.R_alloc | apply Kd.R_drewN | apply Kd.R_drew)); exact HO_21.out) hb)
                            have n1_ := Aside0.mk (Kd.R_below (by (with_reducible repeat (first | apply Kd.R_alloc | apply Kd.R_drewN | apply Kd.R_drew)); exact HO_103002.out) hb)
                            have n2_ := Aside0.mk (Kd.R_below (by (with_reducible repeat (first | apply Kd.R_alloc | apply Kd.R_drewN | apply Kd.R_drew)); exact HO_115002.out) hb)
                            have n3_ := Aside0.mk (blk_below (g := gb101) (o := .cells #[.string (⟨#[]⟩ : ByteArray), .string (⟨#[]⟩ : ByteArray), .slice none 0 0] 24 (0, 0)) (by (with_reducible repeat (first | refine blk_drewN ?_ _ | refine blk_drew ?_ | refine blk_alloc ?_ _)); exact BK101.out) hb)
                            have n4_ := Aside0.mk (blk_below (g := gb102) (o := .cells #[.string x103000_1, .string x103001_1, .slice Ao51 x103002_1.length co51] 24 (0, 0)) (by (with_reducible repeat (first | refine blk_drewN ?_ _ | refine blk_drew ?_ | refine blk_alloc ?_ _)); exact BK102.out) hb)
                            have n5_ := Aside0.mk (blk_below (g := gb114) (o := .cells #[.string t108, .string t109, .slice Ao17 t110.length co17] 24 (0, 0)) (by (with_reducible repeat (first | refine blk_drewN ?_ _ | refine blk_drew ?_ | refine blk_alloc ?_ _)); exact BK114.out) hb)
                            have n6_ := Aside0.mk (below_step (by repeat (first | (with_reducible first | exact HB.out | apply below_alloc | apply pw_below_drewN | apply below_drew1 | refine below_set ?_ GE101.out | refine below_set ?_ GE102.out | refine below_set ?_ GE114.out) | exact HB.out)) hb)
                            clear HO_21
                            clear HO_103002
                            clear HO_115002
                            clear BK101
                            clear BK102
                            clear BK114
                            clear HB
                            have HO_21 := n0_
                            have HO_103002 := n1_
                            have HO_115002 := n2_
                            have BK101 := n3_
                            have BK102 := n4_
                            have BK114 := n5_
                            have HB := n6_
                            clear n0_ n1_ n2_ n3_ n4_ n5_ n6_
                            (try clear hb)
                            (try clear hb2)
                            (try clear hk)
                            (try clear hi)
                            refine hK.out _ _ ⟨(blk_cell BK114.out 0).trans rfl, (blk_cell BK114.out 1).trans rfl, (blk_cell BK114.out 2).trans rfl, (blk_cell BK102.out 0).trans rfl, (blk_cell BK102.out 1).trans rfl, (blk_cell BK102.out 2).trans rfl⟩ (fun hHeld => ?_)
                            clear hK K
                            refine norm_ (a' := ?_) ?_ ?_
                            rotate_left
                            · show Act.put _ (some 59) _ = _
                              simp only [Act.put, List.setIfInBounds_toArray, List.set_cons_zero, List.set_cons_succ, i64_w, i32_w]
                              rfl
                            refine one_ (i := 12) (N := some 61) #[true, true, true, true, true, true, true, true, true, true, true, true, true, false, false] rfl rfl (one_of HT_.out (by kernel_rfl)) (by decide) (fun K hK => ?_)
                            refine goes_ Tryz.func29 (by kernel_rfl) rfl #[.agg #[.string x103000_1, .string x103001_1, .slice Ao51 x103002_1.length co51]] (by rfl) rfl rfl (by (try simp only [List.map_toArray, List.map_cons, List.map_nil]); first | done | rfl | (simp only [List.length_drop, List.length_take]; rfl)) ?_
                            with_reducible refine (mime_Essence.calls x103000_1 x103001_1 _ _ x103002_1 t121 _ ?side1 ?side2 A42.out).mono ?_
                            (case side1 => repeat (first | exact (Kd.R_reads' HO_103002.out).2.2 | (with_reducible refine Kd.C_alloc ?_ _) | (with_reducible refine Kd.C_drewN ?_ _) | (with_reducible refine Kd.C_drew ?_)))
                            (case side2 => exact (Kd.R_reads' HO_103002.out).2.1)
                            rintro e w55 ⟨rfl, hb⟩
                            refine ⟨_, rfl, ?_⟩
                            have n0_ := Aside0.mk (Kd.R_below (by (with_reducible repeat (first | apply Kd.R_alloc | apply Kd.R_drewN | apply Kd.R_drew)); exact HO_21.out) hb)
                            have n1_ := Aside0.mk (Kd.R_below (by (with_reducible repeat (first | apply Kd.R_alloc | apply Kd.R_drewN | apply Kd.R_drew)); exact HO_103002.out) hb)
                            have n2_ := Aside0.mk (Kd.R_below (by (with_reducible repeat (first | apply Kd.R_alloc | apply Kd.R_drewN | apply Kd.R_drew)); exact HO_115002.out) hb)
                            have n3_ := Aside0.mk (blk_below (g := gb101) (o := .cells #[.string (⟨#[]⟩ : ByteArray), .string (⟨#[]⟩ : ByteArray), .slice none 0 0] 24 (0, 0)) (by (with_reducible repeat (first | refine blk_drewN ?_ _ | refine blk_drew ?_ | refine blk_alloc ?_ _)); exact BK101.out) hb)
                            have n4_ := Aside0.mk (blk_below (g := gb102) (o := .cells #[.string x103000_1, .string x103001_1, .slice Ao51 x103002_1.length co51] 24 (0, 0)) (by (with_reducible repeat (first | refine blk_drewN ?_ _ | refine blk_drew ?_ | refine blk_alloc ?_ _)); exact BK102.out) hb)
                            have n5_ := Aside0.mk (blk_below (g := gb114) (o := .cells #[.string t108, .string t109, .slice Ao17 t110.length co17] 24 (0, 0)) (by (with_reducible repeat (first | refine blk_drewN ?_ _ | refine blk_drew ?_ | refine blk_alloc ?_ _)); exact BK114.out) hb)
                            have n6_ := Aside0.mk (below_step (by repeat (first | (with_reducible first | exact HB.out | apply below_alloc | apply pw_below_drewN | apply below_drew1 | refine below_set ?_ GE101.out | refine below_set ?_ GE102.out | refine below_set ?_ GE114.out) | exact HB.out)) hb)
                            clear HO_21
                            clear HO_103002
                            clear HO_115002
                            clear BK101
                            clear BK102
                            clear BK114
                            clear HB
                            have HO_21 := n0_
                            have HO_103002 := n1_
                            have HO_115002 := n2_
                            have BK101 := n3_
                            have BK102 := n4_
                            have BK114 := n5_
                            have HB := n6_
                            clear n0_ n1_ n2_ n3_ n4_ n5_ n6_
                            (try clear hb)
                            (try clear hb2)
                            (try clear hk)
                            (try clear hi)
                            refine hK.out _ _ ⟨(blk_cell BK114.out 0).trans rfl, (blk_cell BK114.out 1).trans rfl, (blk_cell BK114.out 2).trans rfl, (blk_cell BK102.out 0).trans rfl, (blk_cell BK102.out 1).trans rfl, (blk_cell BK102.out 2).trans rfl⟩ (fun hHeld => ?_)
                            clear hK K
                            refine norm_ (a' := ?_) ?_ ?_
                            rotate_left
                            · show Act.put _ (some 61) _ = _
                              simp only [Act.put, List.setIfInBounds_toArray, List.set_cons_zero, List.set_cons_succ, i64_w, i32_w]
                              rfl
                            refine pure_ (i := 13) (N := some 62) (v := ?_) (a' := ?_) #[true, true, true, true, true, true, true, true, true, true, true, true, true, true, false] rfl rfl (any_of HT_.out (by kernel_rfl)) (fun _ _ _ h => h) (Or.inl ⟨by rfl, ?_⟩) ?_ ?_
                            rotate_left
                            · intro w'
                              go_simp
                              with_reducible rfl
                            rotate_left
                            · simp only [Act.put, List.setIfInBounds_toArray, List.set_cons_zero, List.set_cons_succ, i64_w, i32_w]
                              rfl
                            refine pure_ (i := 14) (N := some 63) (v := ?_) (a' := ?_) #[true, true, true, true, true, true, true, true, true, true, true, true, true, true, true] rfl rfl (any_of HT_.out (by kernel_rfl)) (fun _ _ _ h => h) (Or.inl ⟨by rfl, ?_⟩) ?_ ?_
                            rotate_left
                            · intro w'
                              go_simp
                              with_reducible rfl
                            rotate_left
                            · simp only [Act.put, List.setIfInBounds_toArray, List.set_cons_zero, List.set_cons_succ, i64_w, i32_w]
                              rfl
                            refine done_ (done_of HT_.out (by kernel_rfl)) ?_
                            have hcz56_0 : w55.cell? ⟨gb114, 0, none⟩ = some (.string t108) := (blk_cell BK114.out 0).trans rfl
                            have hcz56_1 : w55.cell? ⟨gb114, 1, none⟩ = some (.string t109) := (blk_cell BK114.out 1).trans rfl
                            have hcz56_2 : w55.cell? ⟨gb114, 2, none⟩ = some (.slice Ao17 t110.length co17) := (blk_cell BK114.out 2).trans rfl
                            have hfz56_0 := blk_frozen BK114.out 0
                            have hfz56_1 := blk_frozen BK114.out 1
                            have hfz56_2 := blk_frozen BK114.out 2
                            try go_wp2_with (first | ((with_reducible refine gate_builtin (b := .append) (xs := #[.tmp 65, .tmp 68]) rfl ?_); at_builtin; refine Kd.R_append k32 (w0 := w) w.heap.size rfl (.tmp 65) (.tmp 68) 22 32 (.agg #[(.string ⟨#[]⟩), (.string ⟨#[]⟩)]) 32 rfl Tryz.underlying22 info32 rfl (by decide) (by omega) (.slice Ao17 t110.length co17) t110 (⟨(⟨#[99, 104, 97, 114, 115, 101, 116]⟩ : ByteArray), t118⟩ : S32) [.string (⟨#[99, 104, 97, 114, 115, 101, 116]⟩ : ByteArray), .string t118] (fun k_ => some k_ ≠ (.slice Ao51 x103002_1.length co51 : Value).ownBlock) (fun _ => False) rfl rfl ?aP (fun _ hk => hk.elim) ?aF ?aO ?aB ?aS ?aL ?_; (case aP => exact k32_mkM _ _ _ (⟨(⟨#[99, 104, 97, 114, 115, 101, 116]⟩ : ByteArray), t118⟩ : S32)); (case aB => exact (by repeat (first | (with_reducible first | exact HB.out | apply below_alloc | apply pw_below_drewN | apply below_drew1 | refine below_set ?_ GE101.out | refine below_set ?_ GE102.out | refine below_set ?_ GE114.out) | exact HB.out))); (case aF => exact (fun k_ hk => Kd.fresh' (Kd.R_lt (by (with_reducible repeat (first | apply Kd.R_alloc | apply Kd.R_drewN | apply Kd.R_drew)); exact HO_103002.out)) k_ hk)); (case aO => exact (by (with_reducible repeat (first | apply Kd.R_alloc | apply Kd.R_drewN | apply Kd.R_drew)); exact HO_115002.out)); (case aS => exact (below_size (by repeat (first | (with_reducible first | exact HB.out | apply below_alloc | apply pw_below_drewN | apply below_drew1 | refine below_set ?_ GE101.out | refine below_set ?_ GE102.out | refine below_set ?_ GE114.out) | exact HB.out)))); (case aL => have := LMc44.out; omega); intro v123 w57 ho hb hg hat; rw [← Ny122.out] at ho; have n0_ := Aside0.mk (Kd.R_over' (by (with_reducible repeat (first | apply Kd.R_alloc | apply Kd.R_drewN | apply Kd.R_drew)); exact HO_21.out) (Kd.R_typed (by (with_reducible repeat (first | apply Kd.R_alloc | apply Kd.R_drewN | apply Kd.R_drew)); exact HO_115002.out)) (by decide) hg); have n1_ := Aside0.mk (Kd.R_after (ok := (fun _ => True)) (by (with_reducible repeat (first | apply Kd.R_alloc | apply Kd.R_drewN | apply Kd.R_drew)); exact Kd.R_mono HO_103002.out (fun _ hk => ⟨trivial, hk⟩)) hg hat); have n2_ := Aside0.mk (blk_grown (g := gb101) (o := .cells #[.string (⟨#[]⟩ : ByteArray), .string (⟨#[]⟩ : ByteArray), .slice none 0 0] 24 (0, 0)) (by (with_reducible repeat (first | refine blk_drewN ?_ _ | refine blk_drew ?_ | refine blk_alloc ?_ _)); exact BK101.out) hg (Kd.R_ne HO_115002.out BK101.out (by decide))); have n3_ := Aside0.mk (blk_grown (g := gb102) (o := .cells #[.string x103000_1, .string x103001_1, .slice Ao51 x103002_1.length co51] 24 (0, 0)) (by (with_reducible repeat (first | refine blk_drewN ?_ _ | refine blk_drew ?_ | refine blk_alloc ?_ _)); exact BK102.out) hg (Kd.R_ne HO_115002.out BK102.out (by decide))); have n4_ := Aside0.mk (blk_grown (g := gb114) (o := .cells #[.string t108, .string t109, .slice Ao17 t110.length co17] 24 (0, 0)) (by (with_reducible repeat (first | refine blk_drewN ?_ _ | refine blk_drew ?_ | refine blk_alloc ?_ _)); exact BK114.out) hg (Kd.R_ne HO_115002.out BK114.out (by decide))); have n5_ := Aside0.mk (hb); have n6_ := Aside0.mk (ho); clear HO_21; clear HO_103002; clear BK101; clear BK102; clear BK114; clear HB; clear HO_115002; have HO_21 := n0_; have HO_103002 := n1_; have BK101 := n2_; have BK102 := n3_; have BK114 := n4_; have HB := n5_; have HO124 := n6_; clear n0_ n1_ n2_ n3_ n4_ n5_ n6_; clear ho hb hg hat; obtain ⟨Ao58, co58, eo58⟩ := Kd.R_slice HO124.out; subst eo58; have hcz59_0 : w57.cell? ⟨gb114, 0, none⟩ = some (.string t108) := (blk_cell BK114.out 0).trans rfl; have hcz59_1 : w57.cell? ⟨gb114, 1, none⟩ = some (.string t109) := (blk_cell BK114.out 1).trans rfl; have hcz59_2 : w57.cell? ⟨gb114, 2, none⟩ = some (.slice Ao17 t110.length co17) := (blk_cell BK114.out 2).trans rfl; have hfz59_0 := blk_frozen BK114.out 0; have hfz59_1 := blk_frozen BK114.out 1; have hfz59_2 := blk_frozen BK114.out 2; have hcz60_0 : w57.cell? ⟨gb102, 0, none⟩ = some (.string x103000_1) := (blk_cell BK102.out 0).trans rfl; have hcz60_1 : w57.cell? ⟨gb102, 1, none⟩ = some (.string x103001_1) := (blk_cell BK102.out 1).trans rfl; have hcz60_2 : w57.cell? ⟨gb102, 2, none⟩ = some (.slice Ao51 x103002_1.length co51) := (blk_cell BK102.out 2).trans rfl; have hfz60_0 := blk_frozen BK102.out 0; have hfz60_1 := blk_frozen BK102.out 1; have hfz60_2 := blk_frozen BK102.out 2))
                            go_roundg kj10
                            case measure => have := HK1.out; have := HJ10.out; omega
                            case rel => exact ⟨(true), (wrap64 (x23_1 + 1)), (t108), (t109), (y122), (.slice Ao58 y122.length co58), (by first | rfl | (simp; done) | (simp [*]; done)), (by first | rfl | (simp; done) | (simp [*]; done)), H', ⟨by have := HK1.out; have := HJ10.out; omega⟩, ⟨by (with_reducible repeat (first | apply Kd.R_alloc | apply Kd.R_drewN | apply Kd.R_drew)); exact Kd.R_mono (Kd.R_far (p := ⟨gb102, 2, none⟩) (Kd.R_far (p := ⟨gb102, 1, none⟩) (Kd.R_far (p := ⟨gb102, 0, none⟩) (Kd.R_far (p := ⟨gb114, 2, none⟩) (Kd.R_types (Kd.R_types HO_21.out BK114.out (by decide)) BK102.out (by decide)) (fun _ hk => hk.1.2) (.slice Ao58 y122.length co58)) (fun _ hk => hk.2) (.string t108)) (fun _ hk => hk.2) (.string t109)) (fun _ hk => hk.2) (.slice Ao58 y122.length co58)) (fun _ hk => trivial)⟩, ⟨by (with_reducible repeat (first | apply Kd.R_alloc | apply Kd.R_drewN | apply Kd.R_drew)); exact Kd.R_mono (Kd.R_far (p := ⟨gb102, 2, none⟩) (Kd.R_far (p := ⟨gb102, 1, none⟩) (Kd.R_far (p := ⟨gb102, 0, none⟩) (Kd.R_far (p := ⟨gb114, 2, none⟩) (Kd.R_types (Kd.R_types HO124.out BK114.out (by decide)) BK102.out (by decide)) (fun _ hk => hk.1.2) (.slice Ao58 y122.length co58)) (fun _ hk => hk.2) (.string t108)) (fun _ hk => hk.2) (.string t109)) (fun _ hk => hk.2) (.slice Ao58 y122.length co58)) (fun _ hk => trivial)⟩, ⟨by (with_reducible repeat (first | refine blk_drewN ?_ _ | refine blk_drew ?_ | refine blk_alloc ?_ _)); refine blk_far ?_ NB101_102.out _; (with_reducible repeat (first | refine blk_drewN ?_ _ | refine blk_drew ?_ | refine blk_alloc ?_ _)); refine blk_far ?_ NB101_102.out _; (with_reducible repeat (first | refine blk_drewN ?_ _ | refine blk_drew ?_ | refine blk_alloc ?_ _)); refine blk_far ?_ NB101_102.out _; (with_reducible repeat (first | refine blk_drewN ?_ _ | refine blk_drew ?_ | refine blk_alloc ?_ _)); refine blk_far ?_ NB101_114.out _; (with_reducible repeat (first | refine blk_drewN ?_ _ | refine blk_drew ?_ | refine blk_alloc ?_ _)); exact BK101.out⟩, ⟨by (with_reducible repeat (first | refine blk_drewN ?_ _ | refine blk_drew ?_ | refine blk_alloc ?_ _)); refine blk_put (cs := #[.string t108, .string t109, .slice Ao51 x103002_1.length co51]) ?_ 2 _ rfl; (with_reducible repeat (first | refine blk_drewN ?_ _ | refine blk_drew ?_ | refine blk_alloc ?_ _)); refine blk_put (cs := #[.string t108, .string x103001_1, .slice Ao51 x103002_1.length co51]) ?_ 1 _ rfl; (with_reducible repeat (first | refine blk_drewN ?_ _ | refine blk_drew ?_ | refine blk_alloc ?_ _)); refine blk_put (cs := #[.string x103000_1, .string x103001_1, .slice Ao51 x103002_1.length co51]) ?_ 0 _ rfl; (with_reducible repeat (first | refine blk_drewN ?_ _ | refine blk_drew ?_ | refine blk_alloc ?_ _)); refine blk_far ?_ NB102_114.out _; (with_reducible repeat (first | refine blk_drewN ?_ _ | refine blk_drew ?_ | refine blk_alloc ?_ _)); exact BK102.out⟩, ⟨by repeat (first | (with_reducible first | exact HB.out | apply below_alloc | apply pw_below_drewN | apply below_drew1 | refine below_set ?_ GE101.out | refine below_set ?_ GE102.out | refine below_set ?_ GE114.out) | exact HB.out)⟩⟩
                          · rw [if_neg c44] at H
                            exact absurd H (by simp)
                        · rw [if_neg c43] at H
                          have c43b0 : (t120.toList == t121.toList) = false := beq_eq_false_iff_ne.mpr c43
                          have c43b1 : (t120.toList != t121.toList) = true := bne_iff_ne.mpr c43
                          have H' := Aside0.mk H
                          clear H
                          have hnb61 := NB114_101.out
                          have hnc61 := NB101_114.out
                          have hnb62 := NB114_102.out
                          have hnc62 := NB102_114.out
                          have hcz63_0 : wc.cell? ⟨gb114, 0, none⟩ = some (.string t108) := (blk_cell BK114.out 0).trans rfl
                          have hcz63_1 : wc.cell? ⟨gb114, 1, none⟩ = some (.string t109) := (blk_cell BK114.out 1).trans rfl
                          have hcz63_2 : wc.cell? ⟨gb114, 2, none⟩ = some (.slice Ao17 t110.length co17) := (blk_cell BK114.out 2).trans rfl
                          have hfz63_0 := blk_frozen BK114.out 0
                          have hfz63_1 := blk_frozen BK114.out 1
                          have hfz63_2 := blk_frozen BK114.out 2
                          try go_wp2_with (first | ((with_reducible refine gate_callee (f := 69) rfl ?_); refine goesL_ (some 41) rfl rfl Tryz.func69 (by kernel_rfl) rfl #[.agg #[.string t108, .string t109, .slice Ao17 t110.length co17], .string (⟨#[99, 104, 97, 114, 115, 101, 116]⟩ : ByteArray)] rfl (by (try simp only [List.map_toArray, List.map_cons, List.map_nil]); first | done | rfl | (simp only [List.length_drop, List.length_take]; rfl)) ?_; (with_reducible refine (mime_Type_has.calls t108 t109 _ _ t110 (⟨#[99, 104, 97, 114, 115, 101, 116]⟩ : ByteArray) t116 false _ ?side1 ?side2 A25.out).mono ?_); (case side1 => repeat (first | exact (Kd.R_reads' HO_115002.out).2.2 | (with_reducible refine Kd.C_alloc ?_ _) | (with_reducible refine Kd.C_drewN ?_ _) | (with_reducible refine Kd.C_drew ?_))); (case side2 => exact (Kd.R_reads' HO_115002.out).2.1); rintro e w64 ⟨rfl, hb⟩; refine ⟨_, rfl, ?_⟩; have n0_ := Aside0.mk (Kd.R_below (by (with_reducible repeat (first | apply Kd.R_alloc | apply Kd.R_drewN | apply Kd.R_drew)); exact HO_21.out) hb); have n1_ := Aside0.mk (Kd.R_below (by (with_reducible repeat (first | apply Kd.R_alloc | apply Kd.R_drewN | apply Kd.R_drew)); exact HO_103002.out) hb); have n2_ := Aside0.mk (Kd.R_below (by (with_reducible repeat (first | apply Kd.R_alloc | apply Kd.R_drewN | apply Kd.R_drew)); exact HO_115002.out) hb); have n3_ := Aside0.mk (blk_below (g := gb101) (o := .cells #[.string (⟨#[]⟩ : ByteArray), .string (⟨#[]⟩ : ByteArray), .slice none 0 0] 24 (0, 0)) (by (with_reducible repeat (first | refine blk_drewN ?_ _ | refine blk_drew ?_ | refine blk_alloc ?_ _)); exact BK101.out) hb); have n4_ := Aside0.mk (blk_below (g := gb102) (o := .cells #[.string x103000_1, .string x103001_1, u103002] 24 (0, 0)) (by (with_reducible repeat (first | refine blk_drewN ?_ _ | refine blk_drew ?_ | refine blk_alloc ?_ _)); exact BK102.out) hb); have n5_ := Aside0.mk (blk_below (g := gb114) (o := .cells #[.string t108, .string t109, .slice Ao17 t110.length co17] 24 (0, 0)) (by (with_reducible repeat (first | refine blk_drewN ?_ _ | refine blk_drew ?_ | refine blk_alloc ?_ _)); exact BK114.out) hb); have n6_ := Aside0.mk (below_step (by repeat (first | (with_reducible first | exact HB.out | apply below_alloc | apply pw_below_drewN | apply below_drew1 | refine below_set ?_ GE101.out | refine below_set ?_ GE102.out | refine below_set ?_ GE114.out) | exact HB.out)) hb); clear HO_21; clear HO_103002; clear HO_115002; clear BK101; clear BK102; clear BK114; clear HB; have HO_21 := n0_; have HO_103002 := n1_; have HO_115002 := n2_; have BK101 := n3_; have BK102 := n4_; have BK114 := n5_; have HB := n6_; clear n0_ n1_ n2_ n3_ n4_ n5_ n6_; (try clear hb); (try clear hb2); (try clear hk); (try clear hi); have hnb65 := NB102_101.out; have hnc65 := NB101_102.out; have hcz66_0 : w64.cell? ⟨gb102, 0, none⟩ = some (.string x103000_1) := (blk_cell BK102.out 0).trans rfl; have hcz66_1 : w64.cell? ⟨gb102, 1, none⟩ = some (.string x103001_1) := (blk_cell BK102.out 1).trans rfl; have hcz66_2 : w64.cell? ⟨gb102, 2, none⟩ = some (u103002) := (blk_cell BK102.out 2).trans rfl; have hfz66_0 := blk_frozen BK102.out 0; have hfz66_1 := blk_frozen BK102.out 1; have hfz66_2 := blk_frozen BK102.out 2; obtain ⟨Ao67, co67, eo67⟩ := Kd.R_slice HO_103002.out; subst eo67) | ((with_reducible refine gate_callee (f := 69) rfl ?_); refine goesL_ (some 46) rfl rfl Tryz.func69 (by kernel_rfl) rfl #[.agg #[.string x103000_1, .string x103001_1, .slice Ao67 x103002_1.length co67], .string (⟨#[99, 104, 97, 114, 115, 101, 116]⟩ : ByteArray)] rfl (by (try simp only [List.map_toArray, List.map_cons, List.map_nil]); first | done | rfl | (simp only [List.length_drop, List.length_take]; rfl)) ?_; (with_reducible refine (mime_Type_has.calls x103000_1 x103001_1 _ _ x103002_1 (⟨#[99, 104, 97, 114, 115, 101, 116]⟩ : ByteArray) t118 true _ ?side1 ?side2 A26.out).mono ?_); (case side1 => repeat (first | exact (Kd.R_reads' HO_103002.out).2.2 | (with_reducible refine Kd.C_alloc ?_ _) | (with_reducible refine Kd.C_drewN ?_ _) | (with_reducible refine Kd.C_drew ?_))); (case side2 => exact (Kd.R_reads' HO_103002.out).2.1); rintro e w68 ⟨rfl, hb⟩; refine ⟨_, rfl, ?_⟩; have n0_ := Aside0.mk (Kd.R_below (by (with_reducible repeat (first | apply Kd.R_alloc | apply Kd.R_drewN | apply Kd.R_drew)); exact HO_21.out) hb); have n1_ := Aside0.mk (Kd.R_below (by (with_reducible repeat (first | apply Kd.R_alloc | apply Kd.R_drewN | apply Kd.R_drew)); exact HO_103002.out) hb); have n2_ := Aside0.mk (Kd.R_below (by (with_reducible repeat (first | apply Kd.R_alloc | apply Kd.R_drewN | apply Kd.R_drew)); exact HO_115002.out) hb); have n3_ := Aside0.mk (blk_below (g := gb101) (o := .cells #[.string (⟨#[]⟩ : ByteArray), .string (⟨#[]⟩ : ByteArray), .slice none 0 0] 24 (0, 0)) (by (with_reducible repeat (first | refine blk_drewN ?_ _ | refine blk_drew ?_ | refine blk_alloc ?_ _)); exact BK101.out) hb); have n4_ := Aside0.mk (blk_below (g := gb102) (o := .cells #[.string x103000_1, .string x103001_1, .slice Ao67 x103002_1.length co67] 24 (0, 0)) (by (with_reducible repeat (first | refine blk_drewN ?_ _ | refine blk_drew ?_ | refine blk_alloc ?_ _)); exact BK102.out) hb); have n5_ := Aside0.mk (blk_below (g := gb114) (o := .cells #[.string t108, .string t109, .slice Ao17 t110.length co17] 24 (0, 0)) (by (with_reducible repeat (first | refine blk_drewN ?_ _ | refine blk_drew ?_ | refine blk_alloc ?_ _)); exact BK114.out) hb); have n6_ := Aside0.mk (below_step (by repeat (first | (with_reducible first | exact HB.out | apply below_alloc | apply pw_below_drewN | apply below_drew1 | refine below_set ?_ GE101.out | refine below_set ?_ GE102.out | refine below_set ?_ GE114.out) | exact HB.out)) hb); clear HO_21; clear HO_103002; clear HO_115002; clear BK101; clear BK102; clear BK114; clear HB; have HO_21 := n0_; have HO_103002 := n1_; have HO_115002 := n2_; have BK101 := n3_; have BK102 := n4_; have BK114 := n5_; have HB := n6_; clear n0_ n1_ n2_ n3_ n4_ n5_ n6_; (try clear hb); (try clear hb2); (try clear hk); (try clear hi)))
                          have n0_ := Aside0.mk (Kd.R_drew HO_21.out)
                          have n1_ := Aside0.mk (Kd.R_drew HO_103002.out)
                          have n2_ := Aside0.mk (Kd.R_drew HO_115002.out)
                          have n3_ := Aside0.mk (blk_drew BK101.out)
                          have n4_ := Aside0.mk (blk_drew BK102.out)
                          have n5_ := Aside0.mk (blk_drew BK114.out)
                          have n6_ := Aside0.mk (below_drew1 HB.out)
                          clear HO_21
                          clear HO_103002
                          clear HO_115002
                          clear BK101
                          clear BK102
                          clear BK114
                          clear HB
                          have HO_21 := n0_
                          have HO_103002 := n1_
                          have HO_115002 := n2_
                          have BK101 := n3_
                          have BK102 := n4_
                          have BK114 := n5_
                          have HB := n6_
                          clear n0_ n1_ n2_ n3_ n4_ n5_ n6_
                          refine start_ (n := 15) (S := fun w' => w'.cell? ⟨gb114, 0, none⟩ = some (.string t108) ∧ w'.cell? ⟨gb114, 1, none⟩ = some (.string t109) ∧ w'.cell? ⟨gb114, 2, none⟩ = some (.slice Ao17 t110.length co17) ∧ w'.cell? ⟨gb102, 0, none⟩ = some (.string x103000_1) ∧ w'.cell? ⟨gb102, 1, none⟩ = some (.string x103001_1) ∧ w'.cell? ⟨gb102, 2, none⟩ = some (.slice Ao67 x103002_1.length co67)) (ds := []) #[false, false, false, false, false, false, false, false, false, false, false, false, false, false, false] (by kernel_rfl) rfl rfl ⟨(blk_cell BK114.out 0).trans rfl, (blk_cell BK114.out 1).trans rfl, (blk_cell BK114.out 2).trans rfl, (blk_cell BK102.out 0).trans rfl, (blk_cell BK102.out 1).trans rfl, (blk_cell BK102.out 2).trans rfl⟩ (fun hHeld => ?_); refine with_tabW mime_Extract.tab11 mime_Extract.bits11 (fun HT_ HW_ => ?_)
                          generalize w68.drew = w69 at HO_21 HO_103002 HO_115002 BK101 BK102 BK114 HB hHeld ⊢
                          refine pure_ (i := 0) (N := some 49) (v := ?_) (a' := ?_) #[true, false, false, false, false, false, false, false, false, false, false, false, false, false, false] rfl rfl (any_of HT_.out (by kernel_rfl)) (fun _ _ _ h => h) (Or.inl ⟨by rfl, ?_⟩) ?_ ?_
                          rotate_left
                          · intro w'
                            go_simp
                            with_reducible rfl
                          rotate_left
                          · simp only [Act.put, List.setIfInBounds_toArray, List.set_cons_zero, List.set_cons_succ, i64_w, i32_w]
                            rfl
                          refine pure_ (i := 1) (N := some 50) (v := ?_) (a' := ?_) #[true, true, false, false, false, false, false, false, false, false, false, false, false, false, false] rfl rfl (any_of HT_.out (by kernel_rfl)) (fun _ _ _ h => h) (Or.inl ⟨by rfl, ?_⟩) ?_ ?_
                          rotate_left
                          · intro w'
                            go_simp
                            with_reducible rfl
                          rotate_left
                          · simp only [Act.put, List.setIfInBounds_toArray, List.set_cons_zero, List.set_cons_succ, i64_w, i32_w]
                            rfl
                          refine pure_ (i := 2) (N := some 51) (v := ?_) (a' := ?_) #[true, true, true, false, false, false, false, false, false, false, false, false, false, false, false] rfl rfl (any_of HT_.out (by kernel_rfl)) (fun _ _ _ h => h) (Or.inl ⟨by rfl, ?_⟩) ?_ ?_
                          rotate_left
                          · intro w'
                            go_simp
                            with_reducible rfl
                          rotate_left
                          · simp only [Act.put, List.setIfInBounds_toArray, List.set_cons_zero, List.set_cons_succ, i64_w, i32_w]
                            rfl
                          refine pure_ (i := 3) (N := some 52) (v := ?_) (a' := ?_) #[true, true, true, true, false, false, false, false, false, false, false, false, false, false, false] rfl rfl (any_of HT_.out (by kernel_rfl)) (fun _ _ _ h => h) (Or.inl ⟨by rfl, ?_⟩) ?_ ?_
                          rotate_left
                          · intro w'
                            go_simp
                            with_reducible rfl
                          rotate_left
                          · simp only [Act.put, List.setIfInBounds_toArray, List.set_cons_zero, List.set_cons_succ, i64_w, i32_w]
                            rfl
                          refine pure_ (i := 4) (N := some 53) (v := ?_) (a' := ?_) #[true, true, true, true, true, false, false, false, false, false, false, false, false, false, false] rfl rfl (any_of HT_.out (by kernel_rfl)) (fun _ _ _ h => h) (Or.inl ⟨by rfl, ?_⟩) ?_ ?_
                          rotate_left
                          · intro w'
                            go_simp
                            with_reducible rfl
                          rotate_left
                          · simp only [Act.put, List.setIfInBounds_toArray, List.set_cons_zero, List.set_cons_succ, i64_w, i32_w]
                            rfl
                          refine pure_ (i := 5) (N := some 54) (v := ?_) (a' := ?_) #[true, true, true, true, true, true, false, false, false, false, false, false, false, false, false] rfl rfl (any_of HT_.out (by kernel_rfl)) (fun _ _ _ h => h) (Or.inl ⟨by rfl, ?_⟩) ?_ ?_
                          rotate_left
                          · intro w'
                            go_simp
                            with_reducible rfl
                          rotate_left
                          · simp only [Act.put, List.setIfInBounds_toArray, List.set_cons_zero, List.set_cons_succ, i64_w, i32_w]
                            rfl
                          refine pure_ (i := 6) (N := some 55) (v := ?_) (a' := ?_) #[true, true, true, true, true, true, true, false, false, false, false, false, false, false, false] rfl rfl (any_of HT_.out (by kernel_rfl)) (fun _ _ _ h => h) (Or.inl ⟨by rfl, ?_⟩) ?_ ?_
                          rotate_left
                          · intro w'
                            go_simp
                            with_reducible rfl
                          rotate_left
                          · simp only [Act.put, List.setIfInBounds_toArray, List.set_cons_zero, List.set_cons_succ, i64_w, i32_w]
                            rfl
                          refine pure_ (i := 7) (N := some 56) (v := ?_) (a' := ?_) #[true, true, true, true, true, true, true, true, false, false, false, false, false, false, false] rfl rfl (any_of HT_.out (by kernel_rfl)) (fun _ _ _ h => h) (Or.inl ⟨by rfl, ?_⟩) ?_ ?_
                          rotate_left
                          · intro w'
                            go_simp
                            with_reducible rfl
                          rotate_left
                          · simp only [Act.put, List.setIfInBounds_toArray, List.set_cons_zero, List.set_cons_succ, i64_w, i32_w]
                            rfl
                          refine pure_ (i := 8) (N := some 57) (v := ?_) (a' := ?_) #[true, true, true, true, true, true, true, true, true, false, false, false, false, false, false] rfl rfl (any_of HT_.out (by kernel_rfl)) (fun _ _ _ h => h) (Or.inl ⟨by rfl, ?_⟩) ?_ ?_
                          rotate_left
                          · intro w'
                            go_simp
                            with_reducible rfl
                          rotate_left
                          · simp only [Act.put, List.setIfInBounds_toArray, List.set_cons_zero, List.set_cons_succ, i64_w, i32_w]
                            rfl
                          refine take_ (i := 9) (N := some 58) (v := ?_) (a' := ?_) #[true, true, true, true, true, true, true, true, true, true, false, false, false, false, false] rfl rfl (take_ofW HT_.out HW_.out (by kernel_rfl)) (fun _ _ _ h => h) (Or.inl ⟨by rfl, ?_⟩) hHeld ?_ ?_
                          rotate_left
                          · rintro w' ⟨s0, s1, s2, s3, s4, s5⟩
                            go_simp
                            with_reducible rfl
                          rotate_left
                          · simp only [Act.put, List.setIfInBounds_toArray, List.set_cons_zero, List.set_cons_succ, i64_w, i32_w]
                            rfl
                          refine take_ (i := 11) (N := some 60) (v := ?_) (a' := ?_) #[true, true, true, true, true, true, true, true, true, true, false, true, false, false, false] rfl rfl (take_ofW HT_.out HW_.out (by kernel_rfl)) (fun _ _ _ h => h) (Or.inl ⟨by rfl, ?_⟩) hHeld ?_ ?_
                          rotate_left
                          · rintro w' ⟨s0, s1, s2, s3, s4, s5⟩
                            go_simp
                            with_reducible rfl
                          rotate_left
                          · simp only [Act.put, List.setIfInBounds_toArray, List.set_cons_zero, List.set_cons_succ, i64_w, i32_w]
                            rfl
                          refine one_ (i := 10) (N := some 59) #[true, true, true, true, true, true, true, true, true, true, true, true, false, false, false] rfl rfl (one_of HT_.out (by kernel_rfl)) (by decide) (fun K hK => ?_)
                          refine goes_ Tryz.func29 (by kernel_rfl) rfl #[.agg #[.string t108, .string t109, .slice Ao17 t110.length co17]] (by rfl) rfl rfl (by (try simp only [List.map_toArray, List.map_cons, List.map_nil]); first | done | rfl | (simp only [List.length_drop, List.length_take]; rfl)) ?_
                          with_reducible refine (mime_Essence.calls t108 t109 _ _ t110 t120 _ ?side1 ?side2 A41.out).mono ?_
                          (case side1 => repeat (first | exact (Kd.R_reads' HO_115002.out).2.2 | (with_reducible refine Kd.C_alloc ?_ _) | (with_reducible refine Kd.C_drewN ?_ _) | (with_reducible refine Kd.C_drew ?_)))
                          (case side2 => exact (Kd.R_reads' HO_115002.out).2.1)
                          rintro e w70 ⟨rfl, hb⟩
                          refine ⟨_, rfl, ?_⟩
                          have n0_ := Aside0.mk (Kd.R_below (by (with_reducible repeat (first | apply Kd.R_alloc | apply Kd.R_drewN | apply Kd.R_drew)); exact HO_21.out) hb)
                          have n1_ := Aside0.mk (Kd.R_below (by (with_reducible repeat (first | apply Kd.R_alloc | apply Kd.R_drewN | apply Kd.R_drew)); exact HO_103002.out) hb)
                          have n2_ := Aside0.mk (Kd.R_below (by (with_reducible repeat (first | apply Kd.R_alloc | apply Kd.R_drewN | apply Kd.R_drew)); exact HO_115002.out) hb)
                          have n3_ := Aside0.mk (blk_below (g := gb101) (o := .cells #[.string (⟨#[]⟩ : ByteArray), .string (⟨#[]⟩ : ByteArray), .slice none 0 0] 24 (0, 0)) (by (with_reducible repeat (first | refine blk_drewN ?_ _ | refine blk_drew ?_ | refine blk_alloc ?_ _)); exact BK101.out) hb)
                          have n4_ := Aside0.mk (blk_below (g := gb102) (o := .cells #[.string x103000_1, .string x103001_1, .slice Ao67 x103002_1.length co67] 24 (0, 0)) (by (with_reducible repeat (first | refine blk_drewN ?_ _ | refine blk_drew ?_ | refine blk_alloc ?_ _)); exact BK102.out) hb)
                          have n5_ := Aside0.mk (blk_below (g := gb114) (o := .cells #[.string t108, .string t109, .slice Ao17 t110.length co17] 24 (0, 0)) (by (with_reducible repeat (first | refine blk_drewN ?_ _ | refine blk_drew ?_ | refine blk_alloc ?_ _)); exact BK114.out) hb)
                          have n6_ := Aside0.mk (below_step (by repeat (first | (with_reducible first | exact HB.out | apply below_alloc | apply pw_below_drewN | apply below_drew1 | refine below_set ?_ GE101.out | refine below_set ?_ GE102.out | refine below_set ?_ GE114.out) | exact HB.out)) hb)
                          clear HO_21
                          clear HO_103002
                          clear HO_115002
                          clear BK101
                          clear BK102
                          clear BK114
                          clear HB
                          have HO_21 := n0_
                          have HO_103002 := n1_
                          have HO_115002 := n2_
                          have BK101 := n3_
                          have BK102 := n4_
                          have BK114 := n5_
                          have HB := n6_
                          clear n0_ n1_ n2_ n3_ n4_ n5_ n6_
                          (try clear hb)
                          (try clear hb2)
                          (try clear hk)
                          (try clear hi)
                          refine hK.out _ _ ⟨(blk_cell BK114.out 0).trans rfl, (blk_cell BK114.out 1).trans rfl, (blk_cell BK114.out 2).trans rfl, (blk_cell BK102.out 0).trans rfl, (blk_cell BK102.out 1).trans rfl, (blk_cell BK102.out 2).trans rfl⟩ (fun hHeld => ?_)
                          clear hK K
                          refine norm_ (a' := ?_) ?_ ?_
                          rotate_left
                          · show Act.put _ (some 59) _ = _
                            simp only [Act.put, List.setIfInBounds_toArray, List.set_cons_zero, List.set_cons_succ, i64_w, i32_w]
                            rfl
                          refine one_ (i := 12) (N := some 61) #[true, true, true, true, true, true, true, true, true, true, true, true, true, false, false] rfl rfl (one_of HT_.out (by kernel_rfl)) (by decide) (fun K hK => ?_)
                          refine goes_ Tryz.func29 (by kernel_rfl) rfl #[.agg #[.string x103000_1, .string x103001_1, .slice Ao67 x103002_1.length co67]] (by rfl) rfl rfl (by (try simp only [List.map_toArray, List.map_cons, List.map_nil]); first | done | rfl | (simp only [List.length_drop, List.length_take]; rfl)) ?_
                          with_reducible refine (mime_Essence.calls x103000_1 x103001_1 _ _ x103002_1 t121 _ ?side1 ?side2 A42.out).mono ?_
                          (case side1 => repeat (first | exact (Kd.R_reads' HO_103002.out).2.2 | (with_reducible refine Kd.C_alloc ?_ _) | (with_reducible refine Kd.C_drewN ?_ _) | (with_reducible refine Kd.C_drew ?_)))
                          (case side2 => exact (Kd.R_reads' HO_103002.out).2.1)
                          rintro e w71 ⟨rfl, hb⟩
                          refine ⟨_, rfl, ?_⟩
                          have n0_ := Aside0.mk (Kd.R_below (by (with_reducible repeat (first | apply Kd.R_alloc | apply Kd.R_drewN | apply Kd.R_drew)); exact HO_21.out) hb)
                          have n1_ := Aside0.mk (Kd.R_below (by (with_reducible repeat (first | apply Kd.R_alloc | apply Kd.R_drewN | apply Kd.R_drew)); exact HO_103002.out) hb)
                          have n2_ := Aside0.mk (Kd.R_below (by (with_reducible repeat (first | apply Kd.R_alloc | apply Kd.R_drewN | apply Kd.R_drew)); exact HO_115002.out) hb)
                          have n3_ := Aside0.mk (blk_below (g := gb101) (o := .cells #[.string (⟨#[]⟩ : ByteArray), .string (⟨#[]⟩ : ByteArray), .slice none 0 0] 24 (0, 0)) (by (with_reducible repeat (first | refine blk_drewN ?_ _ | refine blk_drew ?_ | refine blk_alloc ?_ _)); exact BK101.out) hb)
                          have n4_ := Aside0.mk (blk_below (g := gb102) (o := .cells #[.string x103000_1, .string x103001_1, .slice Ao67 x103002_1.length co67] 24 (0, 0)) (by (with_reducible repeat (first | refine blk_drewN ?_ _ | refine blk_drew ?_ | refine blk_alloc ?_ _)); exact BK102.out) hb)
                          have n5_ := Aside0.mk (blk_below (g := gb114) (o := .cells #[.string t108, .string t109, .slice Ao17 t110.length co17] 24 (0, 0)) (by (with_reducible repeat (first | refine blk_drewN ?_ _ | refine blk_drew ?_ | refine blk_alloc ?_ _)); exact BK114.out) hb)
                          have n6_ := Aside0.mk (below_step (by repeat (first | (with_reducible first | exact HB.out | apply below_alloc | apply pw_below_drewN | apply below_drew1 | refine below_set ?_ GE101.out | refine below_set ?_ GE102.out | refine below_set ?_ GE114.out) | exact HB.out)) hb)
                          clear HO_21
                          clear HO_103002
                          clear HO_115002
                          clear BK101
                          clear BK102
                          clear BK114
                          clear HB
                          have HO_21 := n0_
                          have HO_103002 := n1_
                          have HO_115002 := n2_
                          have BK101 := n3_
                          have BK102 := n4_
                          have BK114 := n5_
                          have HB := n6_
                          clear n0_ n1_ n2_ n3_ n4_ n5_ n6_
                          (try clear hb)
                          (try clear hb2)
                          (try clear hk)
                          (try clear hi)
                          refine hK.out _ _ ⟨(blk_cell BK114.out 0).trans rfl, (blk_cell BK114.out 1).trans rfl, (blk_cell BK114.out 2).trans rfl, (blk_cell BK102.out 0).trans rfl, (blk_cell BK102.out 1).trans rfl, (blk_cell BK102.out 2).trans rfl⟩ (fun hHeld => ?_)
                          clear hK K
                          refine norm_ (a' := ?_) ?_ ?_
                          rotate_left
                          · show Act.put _ (some 61) _ = _
                            simp only [Act.put, List.setIfInBounds_toArray, List.set_cons_zero, List.set_cons_succ, i64_w, i32_w]
                            rfl
                          refine pure_ (i := 13) (N := some 62) (v := ?_) (a' := ?_) #[true, true, true, true, true, true, true, true, true, true, true, true, true, true, false] rfl rfl (any_of HT_.out (by kernel_rfl)) (fun _ _ _ h => h) (Or.inl ⟨by rfl, ?_⟩) ?_ ?_
                          rotate_left
                          · intro w'
                            go_simp
                            with_reducible rfl
                          rotate_left
                          · simp only [Act.put, List.setIfInBounds_toArray, List.set_cons_zero, List.set_cons_succ, i64_w, i32_w]
                            rfl
                          refine pure_ (i := 14) (N := some 63) (v := ?_) (a' := ?_) #[true, true, true, true, true, true, true, true, true, true, true, true, true, true, true] rfl rfl (any_of HT_.out (by kernel_rfl)) (fun _ _ _ h => h) (Or.inl ⟨by rfl, ?_⟩) ?_ ?_
                          rotate_left
                          · intro w'
                            go_simp
                            with_reducible rfl
                          rotate_left
                          · simp only [Act.put, List.setIfInBounds_toArray, List.set_cons_zero, List.set_cons_succ, i64_w, i32_w]
                            rfl
                          refine done_ (done_of HT_.out (by kernel_rfl)) ?_
                          have hcz72_0 : w71.cell? ⟨gb114, 0, none⟩ = some (.string t108) := (blk_cell BK114.out 0).trans rfl
                          have hcz72_1 : w71.cell? ⟨gb114, 1, none⟩ = some (.string t109) := (blk_cell BK114.out 1).trans rfl
                          have hcz72_2 : w71.cell? ⟨gb114, 2, none⟩ = some (.slice Ao17 t110.length co17) := (blk_cell BK114.out 2).trans rfl
                          have hfz72_0 := blk_frozen BK114.out 0
                          have hfz72_1 := blk_frozen BK114.out 1
                          have hfz72_2 := blk_frozen BK114.out 2
                          have hcz73_0 : w71.cell? ⟨gb102, 0, none⟩ = some (.string x103000_1) := (blk_cell BK102.out 0).trans rfl
                          have hcz73_1 : w71.cell? ⟨gb102, 1, none⟩ = some (.string x103001_1) := (blk_cell BK102.out 1).trans rfl
                          have hcz73_2 : w71.cell? ⟨gb102, 2, none⟩ = some (.slice Ao67 x103002_1.length co67) := (blk_cell BK102.out 2).trans rfl
                          have hfz73_0 := blk_frozen BK102.out 0
                          have hfz73_1 := blk_frozen BK102.out 1
                          have hfz73_2 := blk_frozen BK102.out 2
                          try go_wp2
                          go_roundg kj10
                          case measure => have := HK1.out; have := HJ10.out; omega
                          case rel => exact ⟨(true), (wrap64 (x23_1 + 1)), (t108), (t109), (t110), (.slice Ao17 t110.length co17), (by first | rfl | (simp; done) | (simp [*]; done)), (by first | rfl | (simp; done) | (simp [*]; done)), H', ⟨by have := HK1.out; have := HJ10.out; omega⟩, ⟨by (with_reducible repeat (first | apply Kd.R_alloc | apply Kd.R_drewN | apply Kd.R_drew)); exact Kd.R_mono (Kd.R_far (p := ⟨gb102, 2, none⟩) (Kd.R_far (p := ⟨gb102, 1, none⟩) (Kd.R_far (p := ⟨gb102, 0, none⟩) (Kd.R_types HO_21.out BK102.out (by decide)) (fun _ hk => hk.2) (.string t108)) (fun _ hk => hk.2) (.string t109)) (fun _ hk => hk.2) (.slice Ao17 t110.length co17)) (fun _ hk => trivial)⟩, ⟨by (with_reducible repeat (first | apply Kd.R_alloc | apply Kd.R_drewN | apply Kd.R_drew)); exact Kd.R_mono (Kd.R_far (p := ⟨gb102, 2, none⟩) (Kd.R_far (p := ⟨gb102, 1, none⟩) (Kd.R_far (p := ⟨gb102, 0, none⟩) (Kd.R_types HO_115002.out BK102.out (by decide)) (fun _ hk => hk.2) (.string t108)) (fun _ hk => hk.2) (.string t109)) (fun _ hk => hk.2) (.slice Ao17 t110.length co17)) (fun _ hk => trivial)⟩, ⟨by (with_reducible repeat (first | refine blk_drewN ?_ _ | refine blk_drew ?_ | refine blk_alloc ?_ _)); refine blk_far ?_ NB101_102.out _; (with_reducible repeat (first | refine blk_drewN ?_ _ | refine blk_drew ?_ | refine blk_alloc ?_ _)); refine blk_far ?_ NB101_102.out _; (with_reducible repeat (first | refine blk_drewN ?_ _ | refine blk_drew ?_ | refine blk_alloc ?_ _)); refine blk_far ?_ NB101_102.out _; (with_reducible repeat (first | refine blk_drewN ?_ _ | refine blk_drew ?_ | refine blk_alloc ?_ _)); exact BK101.out⟩, ⟨by (with_reducible repeat (first | refine blk_drewN ?_ _ | refine blk_drew ?_ | refine blk_alloc ?_ _)); refine blk_put (cs := #[.string t108, .string t109, .slice Ao67 x103002_1.length co67]) ?_ 2 _ rfl; (with_reducible repeat (first | refine blk_drewN ?_ _ | refine blk_drew ?_ | refine blk_alloc ?_ _)); refine blk_put (cs := #[.string t108, .string x103001_1, .slice Ao67 x103002_1.length co67]) ?_ 1 _ rfl; (with_reducible repeat (first | refine blk_drewN ?_ _ | refine blk_drew ?_ | refine blk_alloc ?_ _)); refine blk_put (cs := #[.string x103000_1, .string x103001_1, .slice Ao67 x103002_1.length co67]) ?_ 0 _ rfl; (with_reducible repeat (first | refine blk_drewN ?_ _ | refine blk_drew ?_ | refine blk_alloc ?_ _)); exact BK102.out⟩, ⟨by repeat (first | (with_reducible first | exact HB.out | apply below_alloc | apply pw_below_drewN | apply below_drew1 | refine below_set ?_ GE101.out | refine below_set ?_ GE102.out | refine below_set ?_ GE114.out) | exact HB.out)⟩⟩
                    · replace c28 := Bool.eq_false_iff.mpr c28
                      subst c28
                      have H1 : (mime_Extract.l0 kj10 true t103 (t103.length : Int) (wrap64 (x23_1 + 1)) t108 t109 t110) = some (r1, r2, r3, r4) := by rw [if_neg (show ¬ (false = true) by decide)] at H; exact H
                      clear H
                      have H := H1
                      clear H1
                      have H' := Aside0.mk H
                      clear H
                      have hnb74 := NB114_101.out
                      have hnc74 := NB101_114.out
                      have hnb75 := NB114_102.out
                      have hnc75 := NB102_114.out
                      have hcz76_0 : wc.cell? ⟨gb114, 0, none⟩ = some (.string t108) := (blk_cell BK114.out 0).trans rfl
                      have hcz76_1 : wc.cell? ⟨gb114, 1, none⟩ = some (.string t109) := (blk_cell BK114.out 1).trans rfl
                      have hcz76_2 : wc.cell? ⟨gb114, 2, none⟩ = some (.slice Ao17 t110.length co17) := (blk_cell BK114.out 2).trans rfl
                      have hfz76_0 := blk_frozen BK114.out 0
                      have hfz76_1 := blk_frozen BK114.out 1
                      have hfz76_2 := blk_frozen BK114.out 2
                      try go_wp2_with (first | ((with_reducible refine gate_callee (f := 69) rfl ?_); refine goesL_ (some 41) rfl rfl Tryz.func69 (by kernel_rfl) rfl #[.agg #[.string t108, .string t109, .slice Ao17 t110.length co17], .string (⟨#[99, 104, 97, 114, 115, 101, 116]⟩ : ByteArray)] rfl (by (try simp only [List.map_toArray, List.map_cons, List.map_nil]); first | done | rfl | (simp only [List.length_drop, List.length_take]; rfl)) ?_; (with_reducible refine (mime_Type_has.calls t108 t109 _ _ t110 (⟨#[99, 104, 97, 114, 115, 101, 116]⟩ : ByteArray) t116 t117 _ ?side1 ?side2 A25.out).mono ?_); (case side1 => repeat (first | exact (Kd.R_reads' HO_115002.out).2.2 | (with_reducible refine Kd.C_alloc ?_ _) | (with_reducible refine Kd.C_drewN ?_ _) | (with_reducible refine Kd.C_drew ?_))); (case side2 => exact (Kd.R_reads' HO_115002.out).2.1); rintro e w77 ⟨rfl, hb⟩; refine ⟨_, rfl, ?_⟩; have n0_ := Aside0.mk (Kd.R_below (by (with_reducible repeat (first | apply Kd.R_alloc | apply Kd.R_drewN | apply Kd.R_drew)); exact HO_21.out) hb); have n1_ := Aside0.mk (Kd.R_below (by (with_reducible repeat (first | apply Kd.R_alloc | apply Kd.R_drewN | apply Kd.R_drew)); exact HO_103002.out) hb); have n2_ := Aside0.mk (Kd.R_below (by (with_reducible repeat (first | apply Kd.R_alloc | apply Kd.R_drewN | apply Kd.R_drew)); exact HO_115002.out) hb); have n3_ := Aside0.mk (blk_below (g := gb101) (o := .cells #[.string (⟨#[]⟩ : ByteArray), .string (⟨#[]⟩ : ByteArray), .slice none 0 0] 24 (0, 0)) (by (with_reducible repeat (first | refine blk_drewN ?_ _ | refine blk_drew ?_ | refine blk_alloc ?_ _)); exact BK101.out) hb); have n4_ := Aside0.mk (blk_below (g := gb102) (o := .cells #[.string x103000_1, .string x103001_1, u103002] 24 (0, 0)) (by (with_reducible repeat (first | refine blk_drewN ?_ _ | refine blk_drew ?_ | refine blk_alloc ?_ _)); exact BK102.out) hb); have n5_ := Aside0.mk (blk_below (g := gb114) (o := .cells #[.string t108, .string t109, .slice Ao17 t110.length co17] 24 (0, 0)) (by (with_reducible repeat (first | refine blk_drewN ?_ _ | refine blk_drew ?_ | refine blk_alloc ?_ _)); exact BK114.out) hb); have n6_ := Aside0.mk (below_step (by repeat (first | (with_reducible first | exact HB.out | apply below_alloc | apply pw_below_drewN | apply below_drew1 | refine below_set ?_ GE101.out | refine below_set ?_ GE102.out | refine below_set ?_ GE114.out) | exact HB.out)) hb); clear HO_21; clear HO_103002; clear HO_115002; clear BK101; clear BK102; clear BK114; clear HB; have HO_21 := n0_; have HO_103002 := n1_; have HO_115002 := n2_; have BK101 := n3_; have BK102 := n4_; have BK114 := n5_; have HB := n6_; clear n0_ n1_ n2_ n3_ n4_ n5_ n6_; (try clear hb); (try clear hb2); (try clear hk); (try clear hi); have hnb78 := NB102_101.out; have hnc78 := NB101_102.out; have hcz79_0 : w77.cell? ⟨gb102, 0, none⟩ = some (.string x103000_1) := (blk_cell BK102.out 0).trans rfl; have hcz79_1 : w77.cell? ⟨gb102, 1, none⟩ = some (.string x103001_1) := (blk_cell BK102.out 1).trans rfl; have hcz79_2 : w77.cell? ⟨gb102, 2, none⟩ = some (u103002) := (blk_cell BK102.out 2).trans rfl; have hfz79_0 := blk_frozen BK102.out 0; have hfz79_1 := blk_frozen BK102.out 1; have hfz79_2 := blk_frozen BK102.out 2; obtain ⟨Ao80, co80, eo80⟩ := Kd.R_slice HO_103002.out; subst eo80) | ((with_reducible refine gate_callee (f := 69) rfl ?_); refine goesL_ (some 46) rfl rfl Tryz.func69 (by kernel_rfl) rfl #[.agg #[.string x103000_1, .string x103001_1, .slice Ao80 x103002_1.length co80], .string (⟨#[99, 104, 97, 114, 115, 101, 116]⟩ : ByteArray)] rfl (by (try simp only [List.map_toArray, List.map_cons, List.map_nil]); first | done | rfl | (simp only [List.length_drop, List.length_take]; rfl)) ?_; (with_reducible refine (mime_Type_has.calls x103000_1 x103001_1 _ _ x103002_1 (⟨#[99, 104, 97, 114, 115, 101, 116]⟩ : ByteArray) t118 false _ ?side1 ?side2 A26.out).mono ?_); (case side1 => repeat (first | exact (Kd.R_reads' HO_103002.out).2.2 | (with_reducible refine Kd.C_alloc ?_ _) | (with_reducible refine Kd.C_drewN ?_ _) | (with_reducible refine Kd.C_drew ?_))); (case side2 => exact (Kd.R_reads' HO_103002.out).2.1); rintro e w81 ⟨rfl, hb⟩; refine ⟨_, rfl, ?_⟩; have n0_ := Aside0.mk (Kd.R_below (by (with_reducible repeat (first | apply Kd.R_alloc | apply Kd.R_drewN | apply Kd.R_drew)); exact HO_21.out) hb); have n1_ := Aside0.mk (Kd.R_below (by (with_reducible repeat (first | apply Kd.R_alloc | apply Kd.R_drewN | apply Kd.R_drew)); exact HO_103002.out) hb); have n2_ := Aside0.mk (Kd.R_below (by (with_reducible repeat (first | apply Kd.R_alloc | apply Kd.R_drewN | apply Kd.R_drew)); exact HO_115002.out) hb); have n3_ := Aside0.mk (blk_below (g := gb101) (o := .cells #[.string (⟨#[]⟩ : ByteArray), .string (⟨#[]⟩ : ByteArray), .slice none 0 0] 24 (0, 0)) (by (with_reducible repeat (first | refine blk_drewN ?_ _ | refine blk_drew ?_ | refine blk_alloc ?_ _)); exact BK101.out) hb); have n4_ := Aside0.mk (blk_below (g := gb102) (o := .cells #[.string x103000_1, .string x103001_1, .slice Ao80 x103002_1.length co80] 24 (0, 0)) (by (with_reducible repeat (first | refine blk_drewN ?_ _ | refine blk_drew ?_ | refine blk_alloc ?_ _)); exact BK102.out) hb); have n5_ := Aside0.mk (blk_below (g := gb114) (o := .cells #[.string t108, .string t109, .slice Ao17 t110.length co17] 24 (0, 0)) (by (with_reducible repeat (first | refine blk_drewN ?_ _ | refine blk_drew ?_ | refine blk_alloc ?_ _)); exact BK114.out) hb); have n6_ := Aside0.mk (below_step (by repeat (first | (with_reducible first | exact HB.out | apply below_alloc | apply pw_below_drewN | apply below_drew1 | refine below_set ?_ GE101.out | refine below_set ?_ GE102.out | refine below_set ?_ GE114.out) | exact HB.out)) hb); clear HO_21; clear HO_103002; clear HO_115002; clear BK101; clear BK102; clear BK114; clear HB; have HO_21 := n0_; have HO_103002 := n1_; have HO_115002 := n2_; have BK101 := n3_; have BK102 := n4_; have BK114 := n5_; have HB := n6_; clear n0_ n1_ n2_ n3_ n4_ n5_ n6_; (try clear hb); (try clear hb2); (try clear hk); (try clear hi)))
                      have n0_ := Aside0.mk (Kd.R_drew HO_21.out)
                      have n1_ := Aside0.mk (Kd.R_drew HO_103002.out)
                      have n2_ := Aside0.mk (Kd.R_drew HO_115002.out)
                      have n3_ := Aside0.mk (blk_drew BK101.out)
                      have n4_ := Aside0.mk (blk_drew BK102.out)
                      have n5_ := Aside0.mk (blk_drew BK114.out)
                      have n6_ := Aside0.mk (below_drew1 HB.out)
                      clear HO_21
                      clear HO_103002
                      clear HO_115002
                      clear BK101
                      clear BK102
                      clear BK114
                      clear HB
                      have HO_21 := n0_
                      have HO_103002 := n1_
                      have HO_115002 := n2_
                      have BK101 := n3_
                      have BK102 := n4_
                      have BK114 := n5_
                      have HB := n6_
                      clear n0_ n1_ n2_ n3_ n4_ n5_ n6_
                      refine start_ (n := 15) (S := fun w' => True) (ds := []) #[false, false, false, false, false, false, false, false, false, false, false, false, false, false, false] (by kernel_rfl) rfl rfl trivial (fun hHeld => ?_); refine with_tabW mime_Extract.tab11 mime_Extract.bits11 (fun HT_ HW_ => ?_)
                      generalize w81.drew = w82 at HO_21 HO_103002 HO_115002 BK101 BK102 BK114 HB hHeld ⊢
                      refine pure_ (i := 0) (N := some 49) (v := ?_) (a' := ?_) #[true, false, false, false, false, false, false, false, false, false, false, false, false, false, false] rfl rfl (any_of HT_.out (by kernel_rfl)) (fun _ _ _ h => h) (Or.inl ⟨by rfl, ?_⟩) ?_ ?_
                      rotate_left
                      · intro w'
                        go_simp
                        with_reducible rfl
                      rotate_left
                      · simp only [Act.put, List.setIfInBounds_toArray, List.set_cons_zero, List.set_cons_succ, i64_w, i32_w]
                        rfl
                      refine pure_ (i := 1) (N := some 50) (v := ?_) (a' := ?_) #[true, true, false, false, false, false, false, false, false, false, false, false, false, false, false] rfl rfl (any_of HT_.out (by kernel_rfl)) (fun _ _ _ h => h) (Or.inl ⟨by rfl, ?_⟩) ?_ ?_
                      rotate_left
                      · intro w'
                        go_simp
                        with_reducible rfl
                      rotate_left
                      · simp only [Act.put, List.setIfInBounds_toArray, List.set_cons_zero, List.set_cons_succ, i64_w, i32_w]
                        rfl
                      refine pure_ (i := 2) (N := some 51) (v := ?_) (a' := ?_) #[true, true, true, false, false, false, false, false, false, false, false, false, false, false, false] rfl rfl (any_of HT_.out (by kernel_rfl)) (fun _ _ _ h => h) (Or.inl ⟨by rfl, ?_⟩) ?_ ?_
                      rotate_left
                      · intro w'
                        go_simp
                        with_reducible rfl
                      rotate_left
                      · simp only [Act.put, List.setIfInBounds_toArray, List.set_cons_zero, List.set_cons_succ, i64_w, i32_w]
                        rfl
                      refine pure_ (i := 3) (N := some 52) (v := ?_) (a' := ?_) #[true, true, true, true, false, false, false, false, false, false, false, false, false, false, false] rfl rfl (any_of HT_.out (by kernel_rfl)) (fun _ _ _ h => h) (Or.inl ⟨by rfl, ?_⟩) ?_ ?_
                      rotate_left
                      · intro w'
                        go_simp
                        with_reducible rfl
                      rotate_left
                      · simp only [Act.put, List.setIfInBounds_toArray, List.set_cons_zero, List.set_cons_succ, i64_w, i32_w]
                        rfl
                      refine pure_ (i := 4) (N := some 53) (v := ?_) (a' := ?_) #[true, true, true, true, true, false, false, false, false, false, false, false, false, false, false] rfl rfl (any_of HT_.out (by kernel_rfl)) (fun _ _ _ h => h) (Or.inl ⟨by rfl, ?_⟩) ?_ ?_
                      rotate_left
                      · intro w'
                        go_simp
                        with_reducible rfl
                      rotate_left
                      · simp only [Act.put, List.setIfInBounds_toArray, List.set_cons_zero, List.set_cons_succ, i64_w, i32_w]
                        rfl
                      refine pure_ (i := 5) (N := some 54) (v := undef) (a' := ?_) #[true, true, true, true, true, true, false, false, false, false, false, false, false, false, false] rfl rfl (any_of HT_.out (by kernel_rfl)) (fun _ _ _ h => h) (Or.inr ⟨by rfl, rfl⟩) ?_ ?_
                      rotate_left
                      · simp only [Act.put, List.setIfInBounds_toArray, List.set_cons_zero, List.set_cons_succ, i64_w, i32_w]
                        rfl
                      refine pure_ (i := 6) (N := some 55) (v := undef) (a' := ?_) #[true, true, true, true, true, true, true, false, false, false, false, false, false, false, false] rfl rfl (any_of HT_.out (by kernel_rfl)) (fun _ _ _ h => h) (Or.inr ⟨by rfl, rfl⟩) ?_ ?_
                      rotate_left
                      · simp only [Act.put, List.setIfInBounds_toArray, List.set_cons_zero, List.set_cons_succ, i64_w, i32_w]
                        rfl
                      refine pure_ (i := 7) (N := some 56) (v := ?_) (a' := ?_) #[true, true, true, true, true, true, true, true, false, false, false, false, false, false, false] rfl rfl (any_of HT_.out (by kernel_rfl)) (fun _ _ _ h => h) (Or.inl ⟨by rfl, ?_⟩) ?_ ?_
                      rotate_left
                      · intro w'
                        go_simp
                        with_reducible rfl
                      rotate_left
                      · simp only [Act.put, List.setIfInBounds_toArray, List.set_cons_zero, List.set_cons_succ, i64_w, i32_w]
                        rfl
                      refine pure_ (i := 8) (N := some 57) (v := ?_) (a' := ?_) #[true, true, true, true, true, true, true, true, true, false, false, false, false, false, false] rfl rfl (any_of HT_.out (by kernel_rfl)) (fun _ _ _ h => h) (Or.inl ⟨by rfl, ?_⟩) ?_ ?_
                      rotate_left
                      · intro w'
                        go_simp
                        with_reducible rfl
                      rotate_left
                      · simp only [Act.put, List.setIfInBounds_toArray, List.set_cons_zero, List.set_cons_succ, i64_w, i32_w]
                        rfl
                      refine pure_ (i := 9) (N := some 58) (v := undef) (a' := ?_) #[true, true, true, true, true, true, true, true, true, true, false, false, false, false, false] rfl rfl (any_of HT_.out (by kernel_rfl)) (fun _ _ _ h => h) (Or.inr ⟨by rfl, rfl⟩) ?_ ?_
                      rotate_left
                      · simp only [Act.put, List.setIfInBounds_toArray, List.set_cons_zero, List.set_cons_succ, i64_w, i32_w]
                        rfl
                      refine pure_ (i := 10) (N := some 59) (v := undef) (a' := ?_) #[true, true, true, true, true, true, true, true, true, true, true, false, false, false, false] rfl rfl (any_of HT_.out (by kernel_rfl)) (fun _ _ _ h => h) (Or.inr ⟨by rfl, rfl⟩) ?_ ?_
                      rotate_left
                      · simp only [Act.put, List.setIfInBounds_toArray, List.set_cons_zero, List.set_cons_succ, i64_w, i32_w]
                        rfl
                      refine pure_ (i := 11) (N := some 60) (v := undef) (a' := ?_) #[true, true, true, true, true, true, true, true, true, true, true, true, false, false, false] rfl rfl (any_of HT_.out (by kernel_rfl)) (fun _ _ _ h => h) (Or.inr ⟨by rfl, rfl⟩) ?_ ?_
                      rotate_left
                      · simp only [Act.put, List.setIfInBounds_toArray, List.set_cons_zero, List.set_cons_succ, i64_w, i32_w]
                        rfl
                      refine pure_ (i := 12) (N := some 61) (v := undef) (a' := ?_) #[true, true, true, true, true, true, true, true, true, true, true, true, true, false, false] rfl rfl (any_of HT_.out (by kernel_rfl)) (fun _ _ _ h => h) (Or.inr ⟨by rfl, rfl⟩) ?_ ?_
                      rotate_left
                      · simp only [Act.put, List.setIfInBounds_toArray, List.set_cons_zero, List.set_cons_succ, i64_w, i32_w]
                        rfl
                      refine pure_ (i := 13) (N := some 62) (v := undef) (a' := ?_) #[true, true, true, true, true, true, true, true, true, true, true, true, true, true, false] rfl rfl (any_of HT_.out (by kernel_rfl)) (fun _ _ _ h => h) (Or.inr ⟨by rfl, rfl⟩) ?_ ?_
                      rotate_left
                      · simp only [Act.put, List.setIfInBounds_toArray, List.set_cons_zero, List.set_cons_succ, i64_w, i32_w]
                        rfl
                      refine pure_ (i := 14) (N := some 63) (v := ?_) (a' := ?_) #[true, true, true, true, true, true, true, true, true, true, true, true, true, true, true] rfl rfl (any_of HT_.out (by kernel_rfl)) (fun _ _ _ h => h) (Or.inl ⟨by rfl, ?_⟩) ?_ ?_
                      rotate_left
                      · intro w'
                        go_simp
                        with_reducible rfl
                      rotate_left
                      · simp only [Act.put, List.setIfInBounds_toArray, List.set_cons_zero, List.set_cons_succ, i64_w, i32_w]
                        rfl
                      refine done_ (done_of HT_.out (by kernel_rfl)) ?_
                      have hcz83_0 : w82.cell? ⟨gb114, 0, none⟩ = some (.string t108) := (blk_cell BK114.out 0).trans rfl
                      have hcz83_1 : w82.cell? ⟨gb114, 1, none⟩ = some (.string t109) := (blk_cell BK114.out 1).trans rfl
                      have hcz83_2 : w82.cell? ⟨gb114, 2, none⟩ = some (.slice Ao17 t110.length co17) := (blk_cell BK114.out 2).trans rfl
                      have hfz83_0 := blk_frozen BK114.out 0
                      have hfz83_1 := blk_frozen BK114.out 1
                      have hfz83_2 := blk_frozen BK114.out 2
                      have hcz84_0 : w82.cell? ⟨gb102, 0, none⟩ = some (.string x103000_1) := (blk_cell BK102.out 0).trans rfl
                      have hcz84_1 : w82.cell? ⟨gb102, 1, none⟩ = some (.string x103001_1) := (blk_cell BK102.out 1).trans rfl
                      have hcz84_2 : w82.cell? ⟨gb102, 2, none⟩ = some (.slice Ao80 x103002_1.length co80) := (blk_cell BK102.out 2).trans rfl
                      have hfz84_0 := blk_frozen BK102.out 0
                      have hfz84_1 := blk_frozen BK102.out 1
                      have hfz84_2 := blk_frozen BK102.out 2
                      try go_wp2
                      go_roundg kj10
                      case measure => have := HK1.out; have := HJ10.out; omega
                      case rel => exact ⟨(true), (wrap64 (x23_1 + 1)), (t108), (t109), (t110), (.slice Ao17 t110.length co17), (by first | rfl | (simp; done) | (simp [*]; done)), (by first | rfl | (simp; done) | (simp [*]; done)), H', ⟨by have := HK1.out; have := HJ10.out; omega⟩, ⟨by (with_reducible repeat (first | apply Kd.R_alloc | apply Kd.R_drewN | apply Kd.R_drew)); exact Kd.R_mono (Kd.R_far (p := ⟨gb102, 2, none⟩) (Kd.R_far (p := ⟨gb102, 1, none⟩) (Kd.R_far (p := ⟨gb102, 0, none⟩) (Kd.R_types HO_21.out BK102.out (by decide)) (fun _ hk => hk.2) (.string t108)) (fun _ hk => hk.2) (.string t109)) (fun _ hk => hk.2) (.slice Ao17 t110.length co17)) (fun _ hk => trivial)⟩, ⟨by (with_reducible repeat (first | apply Kd.R_alloc | apply Kd.R_drewN | apply Kd.R_drew)); exact Kd.R_mono (Kd.R_far (p := ⟨gb102, 2, none⟩) (Kd.R_far (p := ⟨gb102, 1, none⟩) (Kd.R_far (p := ⟨gb102, 0, none⟩) (Kd.R_types HO_115002.out BK102.out (by decide)) (fun _ hk => hk.2) (.string t108)) (fun _ hk => hk.2) (.string t109)) (fun _ hk => hk.2) (.slice Ao17 t110.length co17)) (fun _ hk => trivial)⟩, ⟨by (with_reducible repeat (first | refine blk_drewN ?_ _ | refine blk_drew ?_ | refine blk_alloc ?_ _)); refine blk_far ?_ NB101_102.out _; (with_reducible repeat (first | refine blk_drewN ?_ _ | refine blk_drew ?_ | refine blk_alloc ?_ _)); refine blk_far ?_ NB101_102.out _; (with_reducible repeat (first | refine blk_drewN ?_ _ | refine blk_drew ?_ | refine blk_alloc ?_ _)); refine blk_far ?_ NB101_102.out _; (with_reducible repeat (first | refine blk_drewN ?_ _ | refine blk_drew ?_ | refine blk_alloc ?_ _)); exact BK101.out⟩, ⟨by (with_reducible repeat (first | refine blk_drewN ?_ _ | refine blk_drew ?_ | refine blk_alloc ?_ _)); refine blk_put (cs := #[.string t108, .string t109, .slice Ao80 x103002_1.length co80]) ?_ 2 _ rfl; (with_reducible repeat (first | refine blk_drewN ?_ _ | refine blk_drew ?_ | refine blk_alloc ?_ _)); refine blk_put (cs := #[.string t108, .string x103001_1, .slice Ao80 x103002_1.length co80]) ?_ 1 _ rfl; (with_reducible repeat (first | refine blk_drewN ?_ _ | refine blk_drew ?_ | refine blk_alloc ?_ _)); refine blk_put (cs := #[.string x103000_1, .string x103001_1, .slice Ao80 x103002_1.length co80]) ?_ 0 _ rfl; (with_reducible repeat (first | refine blk_drewN ?_ _ | refine blk_drew ?_ | refine blk_alloc ?_ _)); exact BK102.out⟩, ⟨by repeat (first | (with_reducible first | exact HB.out | apply below_alloc | apply pw_below_drewN | apply below_drew1 | refine below_set ?_ GE101.out | refine below_set ?_ GE102.out | refine below_set ?_ GE114.out) | exact HB.out)⟩⟩
                  · replace c27 := Bool.eq_false_iff.mpr c27
                    subst c27
                    have H1 : (mime_Extract.l0 kj10 true t103 (t103.length : Int) (wrap64 (x23_1 + 1)) t108 t109 t110) = some (r1, r2, r3, r4) := by rw [if_neg (show ¬ (false = true) by decide)] at H; exact H
                    clear H
                    have H := H1
                    clear H1
                    have H' := Aside0.mk H
                    clear H
                    have hnb85 := NB114_101.out
                    have hnc85 := NB101_114.out
                    have hnb86 := NB114_102.out
                    have hnc86 := NB102_114.out
                    have hcz87_0 : wc.cell? ⟨gb114, 0, none⟩ = some (.string t108) := (blk_cell BK114.out 0).trans rfl
                    have hcz87_1 : wc.cell? ⟨gb114, 1, none⟩ = some (.string t109) := (blk_cell BK114.out 1).trans rfl
                    have hcz87_2 : wc.cell? ⟨gb114, 2, none⟩ = some (.slice Ao17 t110.length co17) := (blk_cell BK114.out 2).trans rfl
                    have hfz87_0 := blk_frozen BK114.out 0
                    have hfz87_1 := blk_frozen BK114.out 1
                    have hfz87_2 := blk_frozen BK114.out 2
                    try go_wp2_with (first | ((with_reducible refine gate_callee (f := 69) rfl ?_); refine goesL_ (some 41) rfl rfl Tryz.func69 (by kernel_rfl) rfl #[.agg #[.string t108, .string t109, .slice Ao17 t110.length co17], .string (⟨#[99, 104, 97, 114, 115, 101, 116]⟩ : ByteArray)] rfl (by (try simp only [List.map_toArray, List.map_cons, List.map_nil]); first | done | rfl | (simp only [List.length_drop, List.length_take]; rfl)) ?_; (with_reducible refine (mime_Type_has.calls t108 t109 _ _ t110 (⟨#[99, 104, 97, 114, 115, 101, 116]⟩ : ByteArray) t116 t117 _ ?side1 ?side2 A25.out).mono ?_); (case side1 => repeat (first | exact (Kd.R_reads' HO_115002.out).2.2 | (with_reducible refine Kd.C_alloc ?_ _) | (with_reducible refine Kd.C_drewN ?_ _) | (with_reducible refine Kd.C_drew ?_))); (case side2 => exact (Kd.R_reads' HO_115002.out).2.1); rintro e w88 ⟨rfl, hb⟩; refine ⟨_, rfl, ?_⟩; have n0_ := Aside0.mk (Kd.R_below (by (with_reducible repeat (first | apply Kd.R_alloc | apply Kd.R_drewN | apply Kd.R_drew)); exact HO_21.out) hb); have n1_ := Aside0.mk (Kd.R_below (by (with_reducible repeat (first | apply Kd.R_alloc | apply Kd.R_drewN | apply Kd.R_drew)); exact HO_103002.out) hb); have n2_ := Aside0.mk (Kd.R_below (by (with_reducible repeat (first | apply Kd.R_alloc | apply Kd.R_drewN | apply Kd.R_drew)); exact HO_115002.out) hb); have n3_ := Aside0.mk (blk_below (g := gb101) (o := .cells #[.string (⟨#[]⟩ : ByteArray), .string (⟨#[]⟩ : ByteArray), .slice none 0 0] 24 (0, 0)) (by (with_reducible repeat (first | refine blk_drewN ?_ _ | refine blk_drew ?_ | refine blk_alloc ?_ _)); exact BK101.out) hb); have n4_ := Aside0.mk (blk_below (g := gb102) (o := .cells #[.string x103000_1, .string x103001_1, u103002] 24 (0, 0)) (by (with_reducible repeat (first | refine blk_drewN ?_ _ | refine blk_drew ?_ | refine blk_alloc ?_ _)); exact BK102.out) hb); have n5_ := Aside0.mk (blk_below (g := gb114) (o := .cells #[.string t108, .string t109, .slice Ao17 t110.length co17] 24 (0, 0)) (by (with_reducible repeat (first | refine blk_drewN ?_ _ | refine blk_drew ?_ | refine blk_alloc ?_ _)); exact BK114.out) hb); have n6_ := Aside0.mk (below_step (by repeat (first | (with_reducible first | exact HB.out | apply below_alloc | apply pw_below_drewN | apply below_drew1 | refine below_set ?_ GE101.out | refine below_set ?_ GE102.out | refine below_set ?_ GE114.out) | exact HB.out)) hb); clear HO_21; clear HO_103002; clear HO_115002; clear BK101; clear BK102; clear BK114; clear HB; have HO_21 := n0_; have HO_103002 := n1_; have HO_115002 := n2_; have BK101 := n3_; have BK102 := n4_; have BK114 := n5_; have HB := n6_; clear n0_ n1_ n2_ n3_ n4_ n5_ n6_; (try clear hb); (try clear hb2); (try clear hk); (try clear hi); have hnb89 := NB102_101.out; have hnc89 := NB101_102.out; have hcz90_0 : w88.cell? ⟨gb102, 0, none⟩ = some (.string x103000_1) := (blk_cell BK102.out 0).trans rfl; have hcz90_1 : w88.cell? ⟨gb102, 1, none⟩ = some (.string x103001_1) := (blk_cell BK102.out 1).trans rfl; have hcz90_2 : w88.cell? ⟨gb102, 2, none⟩ = some (u103002) := (blk_cell BK102.out 2).trans rfl; have hfz90_0 := blk_frozen BK102.out 0; have hfz90_1 := blk_frozen BK102.out 1; have hfz90_2 := blk_frozen BK102.out 2; obtain ⟨Ao91, co91, eo91⟩ := Kd.R_slice HO_103002.out; subst eo91) | ((with_reducible refine gate_callee (f := 69) rfl ?_); refine goesL_ (some 46) rfl rfl Tryz.func69 (by kernel_rfl) rfl #[.agg #[.string x103000_1, .string x103001_1, .slice Ao91 x103002_1.length co91], .string (⟨#[99, 104, 97, 114, 115, 101, 116]⟩ : ByteArray)] rfl (by (try simp only [List.map_toArray, List.map_cons, List.map_nil]); first | done | rfl | (simp only [List.length_drop, List.length_take]; rfl)) ?_; (with_reducible refine (mime_Type_has.calls x103000_1 x103001_1 _ _ x103002_1 (⟨#[99, 104, 97, 114, 115, 101, 116]⟩ : ByteArray) t118 t119 _ ?side1 ?side2 A26.out).mono ?_); (case side1 => repeat (first | exact (Kd.R_reads' HO_103002.out).2.2 | (with_reducible refine Kd.C_alloc ?_ _) | (with_reducible refine Kd.C_drewN ?_ _) | (with_reducible refine Kd.C_drew ?_))); (case side2 => exact (Kd.R_reads' HO_103002.out).2.1); rintro e w92 ⟨rfl, hb⟩; refine ⟨_, rfl, ?_⟩; have n0_ := Aside0.mk (Kd.R_below (by (with_reducible repeat (first | apply Kd.R_alloc | apply Kd.R_drewN | apply Kd.R_drew)); exact HO_21.out) hb); have n1_ := Aside0.mk (Kd.R_below (by (with_reducible repeat (first | apply Kd.R_alloc | apply Kd.R_drewN | apply Kd.R_drew)); exact HO_103002.out) hb); have n2_ := Aside0.mk (Kd.R_below (by (with_reducible repeat (first | apply Kd.R_alloc | apply Kd.R_drewN | apply Kd.R_drew)); exact HO_115002.out) hb); have n3_ := Aside0.mk (blk_below (g := gb101) (o := .cells #[.string (⟨#[]⟩ : ByteArray), .string (⟨#[]⟩ : ByteArray), .slice none 0 0] 24 (0, 0)) (by (with_reducible repeat (first | refine blk_drewN ?_ _ | refine blk_drew ?_ | refine blk_alloc ?_ _)); exact BK101.out) hb); have n4_ := Aside0.mk (blk_below (g := gb102) (o := .cells #[.string x103000_1, .string x103001_1, .slice Ao91 x103002_1.length co91] 24 (0, 0)) (by (with_reducible repeat (first | refine blk_drewN ?_ _ | refine blk_drew ?_ | refine blk_alloc ?_ _)); exact BK102.out) hb); have n5_ := Aside0.mk (blk_below (g := gb114) (o := .cells #[.string t108, .string t109, .slice Ao17 t110.length co17] 24 (0, 0)) (by (with_reducible repeat (first | refine blk_drewN ?_ _ | refine blk_drew ?_ | refine blk_alloc ?_ _)); exact BK114.out) hb); have n6_ := Aside0.mk (below_step (by repeat (first | (with_reducible first | exact HB.out | apply below_alloc | apply pw_below_drewN | apply below_drew1 | refine below_set ?_ GE101.out | refine below_set ?_ GE102.out | refine below_set ?_ GE114.out) | exact HB.out)) hb); clear HO_21; clear HO_103002; clear HO_115002; clear BK101; clear BK102; clear BK114; clear HB; have HO_21 := n0_; have HO_103002 := n1_; have HO_115002 := n2_; have BK101 := n3_; have BK102 := n4_; have BK114 := n5_; have HB := n6_; clear n0_ n1_ n2_ n3_ n4_ n5_ n6_; (try clear hb); (try clear hb2); (try clear hk); (try clear hi)))
                    have n0_ := Aside0.mk (Kd.R_drew HO_21.out)
                    have n1_ := Aside0.mk (Kd.R_drew HO_103002.out)
                    have n2_ := Aside0.mk (Kd.R_drew HO_115002.out)
                    have n3_ := Aside0.mk (blk_drew BK101.out)
                    have n4_ := Aside0.mk (blk_drew BK102.out)
                    have n5_ := Aside0.mk (blk_drew BK114.out)
                    have n6_ := Aside0.mk (below_drew1 HB.out)
                    clear HO_21
                    clear HO_103002
                    clear HO_115002
                    clear BK101
                    clear BK102
                    clear BK114
                    clear HB
                    have HO_21 := n0_
                    have HO_103002 := n1_
                    have HO_115002 := n2_
                    have BK101 := n3_
                    have BK102 := n4_
                    have BK114 := n5_
                    have HB := n6_
                    clear n0_ n1_ n2_ n3_ n4_ n5_ n6_
                    refine start_ (n := 15) (S := fun w' => True) (ds := []) #[false, false, false, false, false, false, false, false, false, false, false, false, false, false, false] (by kernel_rfl) rfl rfl trivial (fun hHeld => ?_); refine with_tabW mime_Extract.tab11 mime_Extract.bits11 (fun HT_ HW_ => ?_)
                    generalize w92.drew = w93 at HO_21 HO_103002 HO_115002 BK101 BK102 BK114 HB hHeld ⊢
                    refine pure_ (i := 0) (N := some 49) (v := ?_) (a' := ?_) #[true, false, false, false, false, false, false, false, false, false, false, false, false, false, false] rfl rfl (any_of HT_.out (by kernel_rfl)) (fun _ _ _ h => h) (Or.inl ⟨by rfl, ?_⟩) ?_ ?_
                    rotate_left
                    · intro w'
                      go_simp
                      with_reducible rfl
                    rotate_left
                    · simp only [Act.put, List.setIfInBounds_toArray, List.set_cons_zero, List.set_cons_succ, i64_w, i32_w]
                      rfl
                    refine pure_ (i := 1) (N := some 50) (v := ?_) (a' := ?_) #[true, true, false, false, false, false, false, false, false, false, false, false, false, false, false] rfl rfl (any_of HT_.out (by kernel_rfl)) (fun _ _ _ h => h) (Or.inl ⟨by rfl, ?_⟩) ?_ ?_
                    rotate_left
                    · intro w'
                      go_simp
                      with_reducible rfl
                    rotate_left
                    · simp only [Act.put, List.setIfInBounds_toArray, List.set_cons_zero, List.set_cons_succ, i64_w, i32_w]
                      rfl
                    refine pure_ (i := 2) (N := some 51) (v := undef) (a' := ?_) #[true, true, true, false, false, false, false, false, false, false, false, false, false, false, false] rfl rfl (any_of HT_.out (by kernel_rfl)) (fun _ _ _ h => h) (Or.inr ⟨by rfl, rfl⟩) ?_ ?_
                    rotate_left
                    · simp only [Act.put, List.setIfInBounds_toArray, List.set_cons_zero, List.set_cons_succ, i64_w, i32_w]
                      rfl
                    refine pure_ (i := 3) (N := some 52) (v := ?_) (a' := ?_) #[true, true, true, true, false, false, false, false, false, false, false, false, false, false, false] rfl rfl (any_of HT_.out (by kernel_rfl)) (fun _ _ _ h => h) (Or.inl ⟨by rfl, ?_⟩) ?_ ?_
                    rotate_left
                    · intro w'
                      go_simp
                      with_reducible rfl
                    rotate_left
                    · simp only [Act.put, List.setIfInBounds_toArray, List.set_cons_zero, List.set_cons_succ, i64_w, i32_w]
                      rfl
                    refine pure_ (i := 4) (N := some 53) (v := ?_) (a' := ?_) #[true, true, true, true, true, false, false, false, false, false, false, false, false, false, false] rfl rfl (any_of HT_.out (by kernel_rfl)) (fun _ _ _ h => h) (Or.inl ⟨by rfl, ?_⟩) ?_ ?_
                    rotate_left
                    · intro w'
                      go_simp
                      with_reducible rfl
                    rotate_left
                    · simp only [Act.put, List.setIfInBounds_toArray, List.set_cons_zero, List.set_cons_succ, i64_w, i32_w]
                      rfl
                    refine pure_ (i := 5) (N := some 54) (v := undef) (a' := ?_) #[true, true, true, true, true, true, false, false, false, false, false, false, false, false, false] rfl rfl (any_of HT_.out (by kernel_rfl)) (fun _ _ _ h => h) (Or.inr ⟨by rfl, rfl⟩) ?_ ?_
                    rotate_left
                    · simp only [Act.put, List.setIfInBounds_toArray, List.set_cons_zero, List.set_cons_succ, i64_w, i32_w]
                      rfl
                    refine pure_ (i := 6) (N := some 55) (v := undef) (a' := ?_) #[true, true, true, true, true, true, true, false, false, false, false, false, false, false, false] rfl rfl (any_of HT_.out (by kernel_rfl)) (fun _ _ _ h => h) (Or.inr ⟨by rfl, rfl⟩) ?_ ?_
                    rotate_left
                    · simp only [Act.put, List.setIfInBounds_toArray, List.set_cons_zero, List.set_cons_succ, i64_w, i32_w]
                      rfl
                    refine pure_ (i := 7) (N := some 56) (v := ?_) (a' := ?_) #[true, true, true, true, true, true, true, true, false, false, false, false, false, false, false] rfl rfl (any_of HT_.out (by kernel_rfl)) (fun _ _ _ h => h) (Or.inl ⟨by rfl, ?_⟩) ?_ ?_
                    rotate_left
                    · intro w'
                      go_simp
                      with_reducible rfl
                    rotate_left
                    · simp only [Act.put, List.setIfInBounds_toArray, List.set_cons_zero, List.set_cons_succ, i64_w, i32_w]
                      rfl
                    refine pure_ (i := 8) (N := some 57) (v := ?_) (a' := ?_) #[true, true, true, true, true, true, true, true, true, false, false, false, false, false, false] rfl rfl (any_of HT_.out (by kernel_rfl)) (fun _ _ _ h => h) (Or.inl ⟨by rfl, ?_⟩) ?_ ?_
                    rotate_left
                    · intro w'
                      go_simp
                      with_reducible rfl
                    rotate_left
                    · simp only [Act.put, List.setIfInBounds_toArray, List.set_cons_zero, List.set_cons_succ, i64_w, i32_w]
                      rfl
                    refine pure_ (i := 9) (N := some 58) (v := undef) (a' := ?_) #[true, true, true, true, true, true, true, true, true, true, false, false, false, false, false] rfl rfl (any_of HT_.out (by kernel_rfl)) (fun _ _ _ h => h) (Or.inr ⟨by rfl, rfl⟩) ?_ ?_
                    rotate_left
                    · simp only [Act.put, List.setIfInBounds_toArray, List.set_cons_zero, List.set_cons_succ, i64_w, i32_w]
                      rfl
                    refine pure_ (i := 10) (N := some 59) (v := undef) (a' := ?_) #[true, true, true, true, true, true, true, true, true, true, true, false, false, false, false] rfl rfl (any_of HT_.out (by kernel_rfl)) (fun _ _ _ h => h) (Or.inr ⟨by rfl, rfl⟩) ?_ ?_
                    rotate_left
                    · simp only [Act.put, List.setIfInBounds_toArray, List.set_cons_zero, List.set_cons_succ, i64_w, i32_w]
                      rfl
                    refine pure_ (i := 11) (N := some 60) (v := undef) (a' := ?_) #[true, true, true, true, true, true, true, true, true, true, true, true, false, false, false] rfl rfl (any_of HT_.out (by kernel_rfl)) (fun _ _ _ h => h) (Or.inr ⟨by rfl, rfl⟩) ?_ ?_
                    rotate_left
                    · simp only [Act.put, List.setIfInBounds_toArray, List.set_cons_zero, List.set_cons_succ, i64_w, i32_w]
                      rfl
                    refine pure_ (i := 12) (N := some 61) (v := undef) (a' := ?_) #[true, true, true, true, true, true, true, true, true, true, true, true, true, false, false] rfl rfl (any_of HT_.out (by kernel_rfl)) (fun _ _ _ h => h) (Or.inr ⟨by rfl, rfl⟩) ?_ ?_
                    rotate_left
                    · simp only [Act.put, List.setIfInBounds_toArray, List.set_cons_zero, List.set_cons_succ, i64_w, i32_w]
                      rfl
                    refine pure_ (i := 13) (N := some 62) (v := undef) (a' := ?_) #[true, true, true, true, true, true, true, true, true, true, true, true, true, true, false] rfl rfl (any_of HT_.out (by kernel_rfl)) (fun _ _ _ h => h) (Or.inr ⟨by rfl, rfl⟩) ?_ ?_
                    rotate_left
                    · simp only [Act.put, List.setIfInBounds_toArray, List.set_cons_zero, List.set_cons_succ, i64_w, i32_w]
                      rfl
                    refine pure_ (i := 14) (N := some 63) (v := ?_) (a' := ?_) #[true, true, true, true, true, true, true, true, true, true, true, true, true, true, true] rfl rfl (any_of HT_.out (by kernel_rfl)) (fun _ _ _ h => h) (Or.inl ⟨by rfl, ?_⟩) ?_ ?_
                    rotate_left
                    · intro w'
                      go_simp
                      with_reducible rfl
                    rotate_left
                    · simp only [Act.put, List.setIfInBounds_toArray, List.set_cons_zero, List.set_cons_succ, i64_w, i32_w]
                      rfl
                    refine done_ (done_of HT_.out (by kernel_rfl)) ?_
                    have hcz94_0 : w93.cell? ⟨gb114, 0, none⟩ = some (.string t108) := (blk_cell BK114.out 0).trans rfl
                    have hcz94_1 : w93.cell? ⟨gb114, 1, none⟩ = some (.string t109) := (blk_cell BK114.out 1).trans rfl
                    have hcz94_2 : w93.cell? ⟨gb114, 2, none⟩ = some (.slice Ao17 t110.length co17) := (blk_cell BK114.out 2).trans rfl
                    have hfz94_0 := blk_frozen BK114.out 0
                    have hfz94_1 := blk_frozen BK114.out 1
                    have hfz94_2 := blk_frozen BK114.out 2
                    have hcz95_0 : w93.cell? ⟨gb102, 0, none⟩ = some (.string x103000_1) := (blk_cell BK102.out 0).trans rfl
                    have hcz95_1 : w93.cell? ⟨gb102, 1, none⟩ = some (.string x103001_1) := (blk_cell BK102.out 1).trans rfl
                    have hcz95_2 : w93.cell? ⟨gb102, 2, none⟩ = some (.slice Ao91 x103002_1.length co91) := (blk_cell BK102.out 2).trans rfl
                    have hfz95_0 := blk_frozen BK102.out 0
                    have hfz95_1 := blk_frozen BK102.out 1
                    have hfz95_2 := blk_frozen BK102.out 2
                    try go_wp2
                    go_roundg kj10
                    case measure => have := HK1.out; have := HJ10.out; omega
                    case rel => exact ⟨(true), (wrap64 (x23_1 + 1)), (t108), (t109), (t110), (.slice Ao17 t110.length co17), (by first | rfl | (simp; done) | (simp [*]; done)), (by first | rfl | (simp; done) | (simp [*]; done)), H', ⟨by have := HK1.out; have := HJ10.out; omega⟩, ⟨by (with_reducible repeat (first | apply Kd.R_alloc | apply Kd.R_drewN | apply Kd.R_drew)); exact Kd.R_mono (Kd.R_far (p := ⟨gb102, 2, none⟩) (Kd.R_far (p := ⟨gb102, 1, none⟩) (Kd.R_far (p := ⟨gb102, 0, none⟩) (Kd.R_types HO_21.out BK102.out (by decide)) (fun _ hk => hk.2) (.string t108)) (fun _ hk => hk.2) (.string t109)) (fun _ hk => hk.2) (.slice Ao17 t110.length co17)) (fun _ hk => trivial)⟩, ⟨by (with_reducible repeat (first | apply Kd.R_alloc | apply Kd.R_drewN | apply Kd.R_drew)); exact Kd.R_mono (Kd.R_far (p := ⟨gb102, 2, none⟩) (Kd.R_far (p := ⟨gb102, 1, none⟩) (Kd.R_far (p := ⟨gb102, 0, none⟩) (Kd.R_types HO_115002.out BK102.out (by decide)) (fun _ hk => hk.2) (.string t108)) (fun _ hk => hk.2) (.string t109)) (fun _ hk => hk.2) (.slice Ao17 t110.length co17)) (fun _ hk => trivial)⟩, ⟨by (with_reducible repeat (first | refine blk_drewN ?_ _ | refine blk_drew ?_ | refine blk_alloc ?_ _)); refine blk_far ?_ NB101_102.out _; (with_reducible repeat (first | refine blk_drewN ?_ _ | refine blk_drew ?_ | refine blk_alloc ?_ _)); refine blk_far ?_ NB101_102.out _; (with_reducible repeat (first | refine blk_drewN ?_ _ | refine blk_drew ?_ | refine blk_alloc ?_ _)); refine blk_far ?_ NB101_102.out _; (with_reducible repeat (first | refine blk_drewN ?_ _ | refine blk_drew ?_ | refine blk_alloc ?_ _)); exact BK101.out⟩, ⟨by (with_reducible repeat (first | refine blk_drewN ?_ _ | refine blk_drew ?_ | refine blk_alloc ?_ _)); refine blk_put (cs := #[.string t108, .string t109, .slice Ao91 x103002_1.length co91]) ?_ 2 _ rfl; (with_reducible repeat (first | refine blk_drewN ?_ _ | refine blk_drew ?_ | refine blk_alloc ?_ _)); refine blk_put (cs := #[.string t108, .string x103001_1, .slice Ao91 x103002_1.length co91]) ?_ 1 _ rfl; (with_reducible repeat (first | refine blk_drewN ?_ _ | refine blk_drew ?_ | refine blk_alloc ?_ _)); refine blk_put (cs := #[.string x103000_1, .string x103001_1, .slice Ao91 x103002_1.length co91]) ?_ 0 _ rfl; (with_reducible repeat (first | refine blk_drewN ?_ _ | refine blk_drew ?_ | refine blk_alloc ?_ _)); exact BK102.out⟩, ⟨by repeat (first | (with_reducible first | exact HB.out | apply below_alloc | apply pw_below_drewN | apply below_drew1 | refine below_set ?_ GE101.out | refine below_set ?_ GE102.out | refine below_set ?_ GE114.out) | exact HB.out)⟩⟩
          · rw [if_neg c9] at H
            exact absurd H (by simp)
        · rw [if_neg c8] at H
          exact absurd H (by simp)
      · rw [if_neg c7] at H
        have c7b0 : decide (x23_1 < (t103.length : Int)) = false := decide_eq_false c7
        clear c7
        simp only [Option.some.injEq, Prod.mk.injEq] at H
        obtain ⟨rfl, rfl, rfl, rfl⟩ := H
        have hnb96 := NB102_101.out
        have hnc96 := NB101_102.out
        have hcz97_0 : wr.cell? ⟨gb102, 0, none⟩ = some (.string x103000_1) := (blk_cell BK102.out 0).trans rfl
        have hcz97_1 : wr.cell? ⟨gb102, 1, none⟩ = some (.string x103001_1) := (blk_cell BK102.out 1).trans rfl
        have hcz97_2 : wr.cell? ⟨gb102, 2, none⟩ = some (u103002) := (blk_cell BK102.out 2).trans rfl
        have hfz97_0 := blk_frozen BK102.out 0
        have hfz97_1 := blk_frozen BK102.out 1
        have hfz97_2 := blk_frozen BK102.out 2
        have hcz98_0 : wr.cell? ⟨gb101, 0, none⟩ = some (.string (⟨#[]⟩ : ByteArray)) := (blk_cell BK101.out 0).trans rfl
        have hcz98_1 : wr.cell? ⟨gb101, 1, none⟩ = some (.string (⟨#[]⟩ : ByteArray)) := (blk_cell BK101.out 1).trans rfl
        have hcz98_2 : wr.cell? ⟨gb101, 2, none⟩ = some (.slice none 0 0) := (blk_cell BK101.out 2).trans rfl
        have hfz98_0 := blk_frozen BK101.out 0
        have hfz98_1 := blk_frozen BK101.out 1
        have hfz98_2 := blk_frozen BK101.out 2
        obtain ⟨Ao99, co99, eo99⟩ := Kd.R_slice HO_103002.out
        subst eo99
        go_wp2
        refine bodyPost_ret (results_ct rfl _ _ gb101 24 #[.string x103000_1, .string x103001_1, .slice Ao99 x103002_1.length co99] (0, 0) _ rfl (by (with_reducible repeat (first | refine blk_drewN ?_ _ | refine blk_drew ?_ | refine blk_alloc ?_ _)); refine blk_put (cs := #[.string x103000_1, .string x103001_1, .slice none 0 0]) ?_ 2 _ rfl; (with_reducible repeat (first | refine blk_drewN ?_ _ | refine blk_drew ?_ | refine blk_alloc ?_ _)); refine blk_put (cs := #[.string x103000_1, .string (⟨#[]⟩ : ByteArray), .slice none 0 0]) ?_ 1 _ rfl; (with_reducible repeat (first | refine blk_drewN ?_ _ | refine blk_drew ?_ | refine blk_alloc ?_ _)); refine blk_put (cs := #[.string (⟨#[]⟩ : ByteArray), .string (⟨#[]⟩ : ByteArray), .slice none 0 0]) ?_ 0 _ rfl; (with_reducible repeat (first | refine blk_drewN ?_ _ | refine blk_drew ?_ | refine blk_alloc ?_ _)); exact BK101.out) Tryz.underlying24 rfl (by kernel_rfl)) rfl ?_
        exact ⟨_, by first | rfl | (simp [errW_none, errW_some] <;> rfl) | (simp [*, errW_none, errW_some] <;> rfl), by (with_reducible repeat (first | apply Kd.R_alloc | apply Kd.R_drewN | apply Kd.R_drew)); exact Kd.R_mono (Kd.R_far (p := ⟨gb101, 2, none⟩) (Kd.R_far (p := ⟨gb101, 1, none⟩) (Kd.R_far (p := ⟨gb101, 0, none⟩) (Kd.R_types HO_103002.out BK101.out (by decide)) (fun _ hk => hk.2) (.string x103000_1)) (fun _ hk => hk.2) (.string x103001_1)) (fun _ hk => hk.2) (.slice Ao99 x103002_1.length co99)) (fun _ hk => trivial), by repeat (first | (with_reducible first | exact HB.out | apply below_alloc | apply pw_below_drewN | apply below_drew1 | refine below_set ?_ GE101.out | refine below_set ?_ GE102.out) | exact HB.out)⟩
end Go.Proofs.YteehjlciajhdoaaGreatDoor.X
