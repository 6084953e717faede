/- F, P0, E10, B, E11, E12, S, E13, E14, E3, F64, F129, F159, F106, F122, F62, P1, F29, E15, E7, E1, E2, E4, E6: this session's texts, joined; what the claim does not name is left out. -/
import Derived.Test.YteehjlciajhdoaaGreatDoorZe1
import Derived.Test.YteehjlciajhdoaaGreatDoorProg
import Derived.Lib.IndexMore
import Derived.Tactics2
import Derived.Defers
import Derived.Laws.Pointers
import Derived.Laws.LoneSync
import Derived.RegionTactic
import Derived.RegionCalls
import Derived.Lib.Hide
import Derived.Outline
import Derived.Deep.WholeRow
import Derived.Shelf.Strings.SlTrimAscii
import Derived.Shelf.Strings.Builder1
import Derived.Shelf.Strings.Builder2
import Derived.Shelf.Strings.OnBuilder
import Derived.Shelf.Strings.Trim
import Derived.Shelf.Small.Utf8
import Derived.Shelf.Small.Strs
import Derived.Shelf.Small.Wraps
import Derived.Shelf.Strings.Search1
import Derived.Shelf.Strings.Search2
import Derived.Shelf.Strings.Search3
import Derived.Shelf.Strings.Cut
import Derived.Shelf.Strings.Count
import Derived.Shelf.LaysM
import Derived.Shelf.Strings.Shaped
import Derived.Shelf.Sort.Plain
import Derived.Shelf.Strings.Prefix
import Derived.Shelf.Strings.Runes
import Derived.Shelf.Strings.IndexAny
import Derived.Shelf.Strings.AsciiSet
import Derived.Shelf.Strings.IndexAnyAll
import Derived.Shelf.Unicode.DecodeSlow
import Derived.Shelf.Slices.Turned
import Derived.Shelf.Slices.CompactS
import Derived.Laws.CopyOwn
import Derived.Deep.RegionLaw
import Derived.BigRegion
import Derived.StillTailTactics
import Derived.Laws.RangeAny
import Derived.Laws.Runes
import Derived.WalkMore
import Derived.ProofKit
import Derived.OpenShut
import Derived.ShutString
import Derived.ChangeOld
import Derived.SizedLaws
import Derived.LaidMore
import Derived.Lay
import Derived.SevenTiedAt
import Derived.Stop.Joined
namespace Go.Proofs.YteehjlciajhdoaaGreatDoor.X
open Go.RowKit Go.Proofs.YteehjlciajhdoaaGreatDoorW.PrintWords Go.Proofs.YteehjlciajhdoaaGreatDoorW.PrintLast Go.Proofs.YteehjlciajhdoaaGreatDoorW.PrintMore
attribute [local go_sem] max2_int min2_int max_two min_two max_three min_three max_four min_four
set_option linter.unusedVariables false
set_option linter.unusedSimpArgs false
def errW : Option Int → Value
  | none => .nilIface
  | some c => .iface 0 (.int .i64 c)
theorem errW_none : errW none = .nilIface := rfl
theorem errW_some (c : Int) : errW (some c) = .iface 0 (.int .i64 c) := rfl
theorem info5 : (Tryz.prog.info? 5).map (fun i => (i.zero, i.size, i.bytes)) = some (some (.int .u8 0), 1, 1) := by kernel_rfl
theorem info9 : (Tryz.prog.info? 9).map (fun i => (i.zero, i.size, i.bytes)) = some (some (.string ⟨#[]⟩), 1, 16) := by kernel_rfl
theorem info32 : (Tryz.prog.info? 32).map (fun i => (i.zero, i.size, i.bytes)) = some (some (.agg #[(.string ⟨#[]⟩), (.string ⟨#[]⟩)]), 2, 32) := by kernel_rfl
theorem info55 : (Tryz.prog.info? 55).map (fun i => (i.zero, i.size, i.bytes)) = some (some (.agg #[(.string ⟨#[]⟩), (.string ⟨#[]⟩)]), 2, 32) := by kernel_rfl
theorem info89 : (Tryz.prog.info? 89).map (fun i => (i.zero, i.size, i.bytes)) = some (some (.agg #[(.string ⟨#[]⟩), (.string ⟨#[]⟩)]), 2, 32) := by kernel_rfl
structure S32 where
  f0 : ByteArray
  f1 : ByteArray
def z32 : S32 := ⟨(⟨#[]⟩ : ByteArray), (⟨#[]⟩ : ByteArray)⟩
def k32 : Kd S32 := Kd.iso (Kd.pair Kd.string Kd.string) (fun x : S32 => (x.f0, x.f1))
theorem k32_open {w : World} {x : S32} {cs : List Value} (h : k32.K w x cs) : cs = [.string x.f0, .string x.f1] := by
  obtain ⟨_, _, rfl, rfl, rfl⟩ := h
  exact rfl
theorem k32_mkM (w : World) (base : Nat) (ok : Nat → Prop) (x : S32)  : k32.M w base ok x [.string x.f0, .string x.f1] := ⟨[.string x.f0], [.string x.f1], rfl, rfl, rfl⟩
def rd_T32 (xs : List S32) (i : Int) : S32 := xs.getD i.toNat z32
theorem at_T32 {w : World} {A : Option Addr} {n : Nat} {xs : List S32} (h : Kd.C k32 w A n xs) (i : Int) (h0 : 0 ≤ i) (h1 : i < n) : ∃ ad , A = some ad ∧ w.cell? (ad.add (i.toNat * 2)) = some (.string (rd_T32 xs i).f0) ∧ w.cell? ⟨(ad.add (i.toNat * 2)).block, (ad.add (i.toNat * 2)).off + 1, none⟩ = some (.string (rd_T32 xs i).f1) := by
  obtain ⟨ad, c, e, _, hK, hc0⟩ := Kd.C_get h z32 i h0 h1
  have hc : ∀ j u, c[j]? = some u → w.cell? (ad.add (i.toNat * 2 + j)) = some u := hc0
  obtain rfl := k32_open hK
  exact ⟨ad, e, hc 0 _ rfl, by rw [← add_field _ _ 1 (by omega)]; exact hc 1 _ rfl⟩
structure S55 where
  f0 : ByteArray
  f1 : ByteArray
def z55 : S55 := ⟨(⟨#[]⟩ : ByteArray), (⟨#[]⟩ : ByteArray)⟩
def k55 : Kd S55 := Kd.iso (Kd.pair Kd.string Kd.string) (fun x : S55 => (x.f0, x.f1))
theorem k55_open {w : World} {x : S55} {cs : List Value} (h : k55.K w x cs) : cs = [.string x.f0, .string x.f1] := by
  obtain ⟨_, _, rfl, rfl, rfl⟩ := h
  exact rfl
theorem k55_mkM (w : World) (base : Nat) (ok : Nat → Prop) (x : S55)  : k55.M w base ok x [.string x.f0, .string x.f1] := ⟨[.string x.f0], [.string x.f1], rfl, rfl, rfl⟩
def rd_T55 (xs : List S55) (i : Int) : S55 := xs.getD i.toNat z55
theorem at_T55 {w : World} {A : Option Addr} {n : Nat} {xs : List S55} (h : Kd.C k55 w A n xs) (i : Int) (h0 : 0 ≤ i) (h1 : i < n) : ∃ ad , A = some ad ∧ w.cell? (ad.add (i.toNat * 2)) = some (.string (rd_T55 xs i).f0) ∧ w.cell? ⟨(ad.add (i.toNat * 2)).block, (ad.add (i.toNat * 2)).off + 1, none⟩ = some (.string (rd_T55 xs i).f1) := by
  obtain ⟨ad, c, e, _, hK, hc0⟩ := Kd.C_get h z55 i h0 h1
  have hc : ∀ j u, c[j]? = some u → w.cell? (ad.add (i.toNat * 2 + j)) = some u := hc0
  obtain rfl := k55_open hK
  exact ⟨ad, e, hc 0 _ rfl, by rw [← add_field _ _ 1 (by omega)]; exact hc 1 _ rfl⟩
structure S89 where
  f0 : ByteArray
  f1 : ByteArray
def z89 : S89 := ⟨(⟨#[]⟩ : ByteArray), (⟨#[]⟩ : ByteArray)⟩
def k89 : Kd S89 := Kd.iso (Kd.pair Kd.string Kd.string) (fun x : S89 => (x.f0, x.f1))
theorem k89_open {w : World} {x : S89} {cs : List Value} (h : k89.K w x cs) : cs = [.string x.f0, .string x.f1] := by
  obtain ⟨_, _, rfl, rfl, rfl⟩ := h
  exact rfl
theorem k89_mkM (w : World) (base : Nat) (ok : Nat → Prop) (x : S89)  : k89.M w base ok x [.string x.f0, .string x.f1] := ⟨[.string x.f0], [.string x.f1], rfl, rfl, rfl⟩
def rd_T89 (xs : List S89) (i : Int) : S89 := xs.getD i.toNat z89
theorem at_T89 {w : World} {A : Option Addr} {n : Nat} {xs : List S89} (h : Kd.C k89 w A n xs) (i : Int) (h0 : 0 ≤ i) (h1 : i < n) : ∃ ad , A = some ad ∧ w.cell? (ad.add (i.toNat * 2)) = some (.string (rd_T89 xs i).f0) ∧ w.cell? ⟨(ad.add (i.toNat * 2)).block, (ad.add (i.toNat * 2)).off + 1, none⟩ = some (.string (rd_T89 xs i).f1) := by
  obtain ⟨ad, c, e, _, hK, hc0⟩ := Kd.C_get h z89 i h0 h1
  have hc : ∀ j u, c[j]? = some u → w.cell? (ad.add (i.toNat * 2 + j)) = some u := hc0
  obtain rfl := k89_open hK
  exact ⟨ad, e, hc 0 _ rfl, by rw [← add_field _ _ 1 (by omega)]; exact hc 1 _ rfl⟩
end Go.Proofs.YteehjlciajhdoaaGreatDoor.X
namespace Go.Proofs.YteehjlciajhdoaaGreatDoor.X
set_option linter.unusedVariables false
set_option linter.unusedSimpArgs false
open Go.RowKit Go.Proofs.YteehjlciajhdoaaGreatDoorW.PrintWords Go.Proofs.YteehjlciajhdoaaGreatDoorW.PrintLast Go.Proofs.YteehjlciajhdoaaGreatDoorW.PrintMore
abbrev B (l : List UInt8) : ByteArray := ⟨l.toArray⟩
abbrev Ls (s : ByteArray) : List UInt8 := s.data.toList
theorem B_Ls (s : ByteArray) : B (Ls s) = s := by cases s; simp [B, Ls]
theorem Ls_B (l : List UInt8) : Ls (B l) = l := by simp [B, Ls]
theorem size_B (l : List UInt8) : (B l).size = l.length := List.size_toArray
theorem size_Ls (s : ByteArray) : s.size = (Ls s).length := (Array.length_toList).symm
theorem toList_Ls (s : ByteArray) : s.toList = Ls s := Lib.toList_data s
theorem toList_B (l : List UInt8) : (B l).toList = l := by rw [toList_Ls, Ls_B]
theorem B_append (a b : List UInt8) : B a ++ B b = B (a ++ b) := by
  apply ByteArray.ext
  simp [B, ByteArray.data_append]
theorem B_extract (l : List UInt8) (i j : Nat) : (B l).extract i j = B ((l.take j).drop i) := by
  apply ByteArray.ext
  simp [B, ByteArray.data_extract, List.drop_take]
theorem bt_B (l : List UInt8) (i : Nat) (h : i < l.length) : bt (B l) (i : Int) = ((l[i]'h).toNat : Int) := by
  unfold bt
  rw [dif_pos (by rw [size_B]; simpa using h)]
  simp [B]
  rfl
theorem bt_mid (pre rest : List UInt8) (c : UInt8) : bt (B (pre ++ c :: rest)) (pre.length : Int) = (c.toNat : Int) := by
  rw [bt_B _ _ (by simp)]
  simp
theorem bt_mid' (pre rest : List UInt8) (c : UInt8) (i : Int) (hi : i = pre.length) : bt (B (pre ++ c :: rest)) i = (c.toNat : Int) := by subst hi; exact bt_mid pre rest c
theorem w64 {i : Int} (h0 : -9223372036854775808 ≤ i) (h1 : i ≤ 9223372036854775807) : wrap64 i = i := by unfold wrap64; omega
theorem u8_ext {a b : UInt8} (h : (a.toNat : Int) = (b.toNat : Int)) : a = b := UInt8.toNat_inj.1 (by omega)
theorem Ev.ite_pos {α : Type} {c : Prop} [Decidable c] {g f : Nat → Option α} {r : α} (hc : c) (h : Ev g r) : Ev (fun k => if c then g k else f k) r := by
  simp only [if_pos hc]; exact h
theorem Ev.ite_neg {α : Type} {c : Prop} [Decidable c] {g f : Nat → Option α} {r : α} (hc : ¬ c) (h : Ev f r) : Ev (fun k => if c then g k else f k) r := by
  simp only [if_neg hc]; exact h
theorem Ev.bnd {α β : Type} {g : Nat → Option α} {f : Nat → α → Option β} {a : α} {r : β} (h : Ev g a) (k : Ev (fun n => f n a) r) : Ev (fun n => (g n).bind (f n)) r := Ev.bind h k
theorem Ev.bnd0 {α β : Type} {o : Option α} {f : Nat → α → Option β} {a : α} {r : β} (h : o = some a) (k : Ev (fun n => f n a) r) : Ev (fun n => o.bind (f n)) r := by
  subst h; exact k
theorem Ev.const {α : Type} {o : Option α} {r : α} (h : o = some r) : Ev (fun _ => o) r := ⟨0, fun _ _ => h⟩
def tokc (c : UInt8) : Bool := (97 ≤ c.toNat && c.toNat ≤ 122) || (65 ≤ c.toNat && c.toNat ≤ 90) || (48 ≤ c.toNat && c.toNat ≤ 57) || [33, 35, 36, 37, 38, 39, 42, 43, 45, 46, 94, 95, 96, 124, 126].contains c
def isTok (l : List UInt8) : Bool := l.all tokc && !l.isEmpty
def finec (c : UInt8) : Bool := c.toNat == 9 || (32 ≤ c.toNat && c.toNat != 127)
def isFine (l : List UInt8) : Bool := l.all finec
def lowc (c : UInt8) : UInt8 := if 65 ≤ c.toNat ∧ c.toNat ≤ 90 then c + 32 else c
def lows (l : List UInt8) : List UInt8 := l.map lowc
end Go.Proofs.YteehjlciajhdoaaGreatDoor.X
namespace Go.Proofs.YteehjlciajhdoaaGreatDoor.X
set_option linter.unusedVariables false
set_option linter.unusedSimpArgs false
open Go.RowKit Go.Proofs.YteehjlciajhdoaaGreatDoorW.PrintWords Go.Proofs.YteehjlciajhdoaaGreatDoorW.PrintLast Go.Proofs.YteehjlciajhdoaaGreatDoorW.PrintMore
theorem once_disable (w : World) : (callFunc 252 #[]).run Tryz.prog w = .ok (.value (.tuple #[])) w := run_call_mark0 Tryz.func252 (by kernel_rfl) (by kernel_rfl) (by kernel_rfl) .disable (by kernel_rfl) w
theorem once_enable (w : World) : (callFunc 254 #[]).run Tryz.prog w = .ok (.value (.tuple #[])) w := run_call_mark0 Tryz.func254 (by kernel_rfl) (by kernel_rfl) (by kernel_rfl) .enable (by kernel_rfl) w
theorem once_acquire (a : Addr) (w : World) : (callFunc 255 #[.pointer (some a)]).run Tryz.prog w = .ok (.value (.tuple #[])) w := run_call_marked Tryz.func255 (by kernel_rfl) (by kernel_rfl) (by kernel_rfl) .acquire (by kernel_rfl) a w
theorem once_release (a : Addr) (w : World) : (callFunc 257 #[.pointer (some a)]).run Tryz.prog w = .ok (.value (.tuple #[])) w := run_call_marked Tryz.func257 (by kernel_rfl) (by kernel_rfl) (by kernel_rfl) .releaseMerge (by kernel_rfl) a w
set_option maxRecDepth 100000 in
theorem store_deferred (a : Addr) (x : Value) (u : FrameMode) (w : World) (hc : w.cell? a = some x) (hz : w.frozen? a = false) :
    CallsD Tryz.prog 214 #[.pointer (some a), .bool true] u w fun e u' w' => u' = u ∧ (e = .returned (.tuple #[]) ∧ w' = w.drew.setCell a (.int .u32 1)) := by
  have hc' : w.drew.cell? a = some x := by go_simp
  have hz' : w.drew.frozen? a = false := by go_simp
  have hst := run_call_store (P := Tryz.prog) Tryz.func238 (by kernel_rfl) (by kernel_rfl) (by kernel_rfl) (by kernel_rfl) (k := .u32) (y := 1) hc' hz'
  go_enter_d Tryz.func214, Tryz.ntmps214
  go_wp2
  go_region_calls
  all_goals (go_end0; exact ⟨rfl, rfl⟩)
set_option maxRecDepth 100000 in
theorem unlock_deferred (a : Addr) (u : FrameMode) (w : World) (hc : w.cell? a = some (.int .i32 1)) (hz : w.frozen? a = false) :
    CallsD Tryz.prog 213 #[.pointer (some a)] u w fun e u' w' => u' = u ∧ (e = .returned (.tuple #[]) ∧ w' = w.setCell a (.int .i32 0)) := by
  have hd := once_disable
  have he := once_enable
  have hr := once_release
  have hadd := run_call_add (P := Tryz.prog) Tryz.func258 (by kernel_rfl) (by kernel_rfl) (by kernel_rfl) .i32 (by kernel_rfl) (y := -1) (s := 0) hc hz (by simp [go_sem]; rfl)
  have hcv := run_convert_to_unsafe (P := Tryz.prog) (src := 288) (dst := 256) Tryz.underlying288 Tryz.underlying256 (by kernel_rfl) hc
  go_enter_d Tryz.func213, Tryz.ntmps213
  go_wp2
  go_end0
  go_wp2
  go_end0
  exact ⟨rfl, rfl⟩
set_option maxRecDepth 100000 in
theorem lock_free (a : Addr) (w : World) (hc : w.cell? a = some (.int .i32 0)) (hz : w.frozen? a = false) :
    Calls Tryz.prog 212 #[.pointer (some a)] w fun e w' => e = .returned (.tuple #[]) ∧ w' = w.setCell a (.int .i32 1) := by
  have hd := once_disable
  have he := once_enable
  have ha := once_acquire
  have hcas := run_call_cas_hit (P := Tryz.prog) Tryz.func253 (by kernel_rfl) (by kernel_rfl) (by kernel_rfl) .i32 (by kernel_rfl) (y := 1) hc hz
  have hc' : (w.setCell a (.int .i32 1)).cell? a = some (.int .i32 1) := World.cell?_setCell_same w a _ hc
  have hcv := run_convert_to_unsafe (P := Tryz.prog) (src := 288) (dst := 256) Tryz.underlying288 Tryz.underlying256 (by kernel_rfl) hc'
  go_enter Tryz.func212, Tryz.ntmps212
  go_wp2
  first | go_end0 | (simp only [Exit.inBlock, Exit.then]; refine bodyPost_ret (results_none rfl _ _ _) rfl ?_) | refine bodyPost_ret (results_none rfl _ _ _) rfl ?_
  go_wp2
  go_end0
  exact ⟨rfl, rfl⟩
def RpBlk (W : World) (b : Nat) (d m s : Int) (x3 : Value) (v : Value) : Prop := W.heap[b]? = some (.cells #[.int .u32 d, .int .i32 m, .int .u32 s, x3, v] 174 (0, 0))
set_option maxRecDepth 100000 in
set_option maxHeartbeats 1600000 in
theorem slow_any (b : Nat) (x3 v : Value) (w : World) (hb : RpBlk w b 0 0 0 x3 v) (Rel : Value → Value → World → World → Prop)
    (hbuild : ∀ W, RpBlk W b 0 1 0 x3 v → W = w.setCell ⟨b, 1, none⟩ (.int .i32 1) → Calls Tryz.prog 131 #[.pointer (some ⟨b, 0, none⟩)] W fun e w' => e = .returned (.tuple #[]) ∧ ∃ x3' v', RpBlk w' b 0 1 0 x3' v' ∧ Rel x3' v' W w') :
    Calls Tryz.prog 174 #[.pointer (some ⟨b, 0, none⟩), .func (.func 131) #[.pointer (some ⟨b, 0, none⟩)] #[]] w fun e w' => e = .returned (.tuple #[]) ∧
      ∃ x3' v' w1, RpBlk w1 b 0 1 0 x3' v' ∧ Rel x3' v' (w.setCell ⟨b, 1, none⟩ (.int .i32 1)) w1 ∧ w' = (w1.drew.setCell ⟨b, 0, none⟩ (.int .u32 1)).setCell ⟨b, 1, none⟩ (.int .i32 0) := by
  have h0 : w.cell? ⟨b, 0, none⟩ = some (.int .u32 0) := (blk_cell hb 0).trans rfl
  have h1 : w.cell? ⟨b, 1, none⟩ = some (.int .i32 0) := (blk_cell hb 1).trans rfl
  have f1 := blk_frozen hb 1
  have hb1 : RpBlk (w.setCell ⟨b, 1, none⟩ (.int .i32 1)) b 0 1 0 x3 v := blk_put hb 1 (.int .i32 1) rfl
  have HB1 := Aside0.mk hb1
  have h01 : (w.setCell ⟨b, 1, none⟩ (.int .i32 1)).cell? ⟨b, 0, none⟩ = some (.int .u32 0) := (blk_cell hb1 0).trans rfl
  have hl := run_call_load (P := Tryz.prog) Tryz.func211 (by kernel_rfl) (by kernel_rfl) (by kernel_rfl) .u32 (by kernel_rfl) (w := w.setCell ⟨b, 1, none⟩ (.int .i32 1)) (a := ⟨b, 0, none⟩) (x := 0) h01
  have hnot : ∀ (x : Bool) (w : World), (Op.unary .not (.bool x)).run Tryz.prog w = .ok (.bool (!x)) w := fun _ _ => rfl
  have HBU := Lib.hid hbuild
  clear hbuild hb1 hb
  go_enter_defers Tryz.func174, Tryz.ntmps174
  go_wp2_with (first | (go_at_call 212; refine (lock_free ⟨b, 1, none⟩ _ (by go_simp) (by go_simp)).mono ?_; rintro e w' ⟨rfl, rfl⟩) | (go_at_call 131; refine (HBU.out _ HB1.out rfl).mono ?_; rintro e w1 ⟨rfl, x3', v', hb2, hrel⟩) | go_in)
  have HB2 := Aside0.mk hb2
  have HR := Aside0.mk hrel
  clear hb2 hrel
  have e0 : w1.cell? ⟨b, 0, none⟩ = some (.int .u32 0) := (blk_cell HB2.out 0).trans rfl
  have ef0 := blk_frozen HB2.out 0
  refine leaves_cons (f := 214) (args := #[.pointer (some ⟨b, 0, none⟩), .bool true]) (by simp) (by simp [go_sem]) ?_
  refine (store_deferred ⟨b, 0, none⟩ (.int .u32 0) .returning _ e0 ef0).mono ?_
  rintro e u' w'' ⟨rfl, rfl, rfl⟩
  have hb3 : RpBlk (w1.drew.setCell ⟨b, 0, none⟩ (.int .u32 1)) b 1 1 0 x3' v' := blk_put (w := w1.drew) HB2.out 0 (.int .u32 1) rfl
  refine leaves_cons (f := 213) (args := #[.pointer (some ⟨b, 1, none⟩)]) (by simp [settle]) (by simp [go_sem]) ?_
  refine (unlock_deferred ⟨b, 1, none⟩ _ _ ((blk_cell hb3 1).trans rfl) (blk_frozen hb3 1)).mono ?_
  rintro e u' w'' ⟨rfl, rfl, rfl⟩
  simp [Leaves, settle, results, Tryz.results174]
  exact ⟨_, _, w1, HB2.out, HR.out, rfl⟩
set_option maxRecDepth 100000 in
set_option maxHeartbeats 1600000 in
theorem do_any (b : Nat) (x3 v : Value) (w : World) (hb : RpBlk w b 0 0 0 x3 v) (Rel : Value → Value → World → World → Prop)
    (hbuild : ∀ W, RpBlk W b 0 1 0 x3 v → W = w.setCell ⟨b, 1, none⟩ (.int .i32 1) → Calls Tryz.prog 131 #[.pointer (some ⟨b, 0, none⟩)] W fun e w' => e = .returned (.tuple #[]) ∧ ∃ x3' v', RpBlk w' b 0 1 0 x3' v' ∧ Rel x3' v' W w') :
    Calls Tryz.prog 130 #[.pointer (some ⟨b, 0, none⟩), .func (.func 131) #[.pointer (some ⟨b, 0, none⟩)] #[]] w fun e w' => e = .returned (.tuple #[]) ∧
      ∃ x3' v' w1, RpBlk w1 b 0 1 0 x3' v' ∧ Rel x3' v' (w.setCell ⟨b, 1, none⟩ (.int .i32 1)) w1 ∧ w' = (w1.drew.setCell ⟨b, 0, none⟩ (.int .u32 1)).setCell ⟨b, 1, none⟩ (.int .i32 0) := by
  have h0 : w.cell? ⟨b, 0, none⟩ = some (.int .u32 0) := (blk_cell hb 0).trans rfl
  have HB := Aside0.mk hb
  have HBU := Lib.hid hbuild
  clear hb hbuild
  have hl := run_call_load (P := Tryz.prog) Tryz.func211 (by kernel_rfl) (by kernel_rfl) (by kernel_rfl) .u32 (by kernel_rfl) h0
  have hnot : ∀ (x : Bool) (w : World), (Op.unary .not (.bool x)).run Tryz.prog w = .ok (.bool (!x)) w := fun _ _ => rfl
  go_enter Tryz.func130, Tryz.ntmps130
  go_wp2_with (first | (go_at_call 174; refine (slow_any b x3 v _ HB.out Rel HBU.out).mono ?_; rintro e w' ⟨rfl, x3', v', w1, h1, h2, rfl⟩; have H1 := Aside0.mk h1; have H2 := Aside0.mk h2; clear h1 h2) | (go_at_call 173; go_in))
  go_end0
  exact ⟨rfl, _, _, _, H1.out, H2.out, rfl⟩
end Go.Proofs.YteehjlciajhdoaaGreatDoor.X
namespace Go.Proofs.YteehjlciajhdoaaGreatDoor.X
set_option linter.unusedVariables false
set_option linter.unusedSimpArgs false
open Go.RowKit Go.Proofs.YteehjlciajhdoaaGreatDoorW.PrintWords Go.Proofs.YteehjlciajhdoaaGreatDoorW.PrintLast Go.Proofs.YteehjlciajhdoaaGreatDoorW.PrintMore
def BlkB (W : World) (g : Nat) (e : TypeId) (l : List Int) : Prop :=
  ∃ cs hi, W.heap[g]? = some (.cells cs e (cs.size, hi)) ∧ cs.toList.take l.length = nums .u8 l
theorem BlkB.len {W : World} {g : Nat} {e : TypeId} {l : List Int} {cs : Array Value} (h : cs.toList.take l.length = nums .u8 l) : l.length ≤ cs.size := by
  have := congrArg List.length h
  simp [nums] at this
  omega
theorem BlkB.of_bytes (W : World) (e : TypeId) (s : ByteArray) : BlkB (Lib.bytesWorld W e s) W.heap.size e (bytesOf s) := by
  refine ⟨_, _, Lib.bytesWorld_at_new W e s, ?_⟩
  have hl : (s.data.map fun b => Value.int .u8 b.toNat).toList.length = (bytesOf s).length := by simp [bytesOf]
  unfold Lib.bytesCells
  rw [Array.toList_append, ← hl, List.take_left]
  simp [bytesOf, nums]
theorem BlkB.cell {W : World} {g : Nat} {e : TypeId} {l : List Int} (h : BlkB W g e l) (i : Nat) (hi : i < l.length) : W.cell? ⟨g, i, none⟩ = some (.int .u8 (l.getD i 0)) := by
  obtain ⟨cs, hi', hh, ht⟩ := h
  rw [cell_of_row W g i cs e _ hh]
  have h1 : (cs.toList.take l.length)[i]? = some (.int .u8 (l.getD i 0)) := by
    rw [ht]; simp [nums, List.getElem?_eq_getElem hi, List.getD_eq_getElem?_getD]
  rw [List.getElem?_take, if_pos hi] at h1
  simpa using h1
theorem BlkB.frozen {W : World} {g : Nat} {e : TypeId} {l : List Int} (h : BlkB W g e l) (i : Nat) (hi : i < l.length) : W.frozen? ⟨g, i, none⟩ = false := by
  obtain ⟨cs, hi', hh, ht⟩ := h
  have hl := BlkB.len (W := W) (g := g) (e := e) ht
  simp [World.frozen?, hh]
  omega
theorem BlkB.set {W : World} {g : Nat} {e : TypeId} {l : List Int} (h : BlkB W g e l) (i : Nat) (x : Int) : BlkB (W.setCell ⟨g, i, none⟩ (.int .u8 x)) g e (l.set i x) := by
  obtain ⟨cs, hi', hh, ht⟩ := h
  refine ⟨cs.setIfInBounds i (.int .u8 x), hi', ?_, ?_⟩
  · have hs : (cs.setIfInBounds i (.int .u8 x)).size = cs.size := by simp
    rw [hs]
    obtain ⟨hlt, he⟩ := Array.getElem?_eq_some_iff.1 hh
    simp only [World.setCell, Array.getElem?_modify, hh]
    simp
  · rw [List.length_set, Array.toList_setIfInBounds, List.take_set, ht]
    simp [nums, List.map_set]
theorem BlkB.drewN {W : World} {g : Nat} {e : TypeId} {l : List Int} (h : BlkB W g e l) (n : Nat) : BlkB (W.drewN n) g e l := h
theorem BlkB.drew {W : World} {g : Nat} {e : TypeId} {l : List Int} (h : BlkB W g e l) : BlkB W.drew g e l := h
theorem BlkB.below {W W1 : World} {g : Nat} {e : TypeId} {l : List Int} (h : BlkB W g e l) (hb : Below W.heap.size W W1) : BlkB W1 g e l := by
  obtain ⟨cs, hi', hh, ht⟩ := h
  exact ⟨cs, hi', blk_below hh hb, ht⟩
theorem BlkB.string {P : Program} {W : World} {g n cap : Nat} {src dst e : TypeId} {l : List Int} (h : BlkB W g e l) (hs : P.underlying src = some (.slice e)) (he : P.underlying e = some (.int .u8)) (hd : P.underlying dst = some .string) (hn : l.length = n) :
    (convert src dst (.slice (some ⟨g, 0, none⟩) n cap)).run P W = .ok (.string (strOfNums l)) W := by
  refine run_convert_bytes_arg W src e hs he g 0 n cap l hn (fun i hi => ?_) dst hd
  rw [Nat.zero_add]
  exact h.cell i (by omega)
end Go.Proofs.YteehjlciajhdoaaGreatDoor.X
namespace Go.Proofs.YteehjlciajhdoaaGreatDoor.X
set_option linter.unusedVariables false
set_option linter.unusedSimpArgs false
open Go.RowKit Go.Proofs.YteehjlciajhdoaaGreatDoorW.PrintWords Go.Proofs.YteehjlciajhdoaaGreatDoorW.PrintLast Go.Proofs.YteehjlciajhdoaaGreatDoorW.PrintMore
def pairsL : List (UInt8 × List UInt8) → List ByteArray
  | [] => []
  | p :: ps => B [p.1] :: B p.2 :: pairsL ps
theorem pairsL_length : ∀ ps, (pairsL ps).length = 2 * ps.length
  | [] => rfl
  | p :: ps => by simp [pairsL, pairsL_length ps]; omega
theorem pairsL_even : ∀ ps (i : Nat) (h : i < ps.length), (pairsL ps)[2 * i]? = some (B [(ps[i]'h).1])
  | p :: ps, 0, h => rfl
  | p :: ps, i + 1, h => by
    have := pairsL_even ps i (by simpa using h)
    rw [show 2 * (i + 1) = 2 * i + 1 + 1 by omega]
    simpa [pairsL] using this
theorem pairsL_odd : ∀ ps (i : Nat) (h : i < ps.length), (pairsL ps)[2 * i + 1]? = some (B (ps[i]'h).2)
  | p :: ps, 0, h => rfl
  | p :: ps, i + 1, h => by
    have := pairsL_odd ps i (by simpa using h)
    rw [show 2 * (i + 1) + 1 = 2 * i + 1 + 1 + 1 by omega]
    simpa [pairsL] using this
theorem rd_even (ps) (i : Nat) (h : i < ps.length) : rdOf ByteArray.empty (pairsL ps) ((2 * i : Nat) : Int) = B [(ps[i]'h).1] := by
  simp only [rdOf, Int.toNat_natCast, List.getD_eq_getElem?_getD, pairsL_even ps i h, Option.getD_some]
theorem rd_odd (ps) (i : Nat) (h : i < ps.length) : rdOf ByteArray.empty (pairsL ps) ((2 * i + 1 : Nat) : Int) = B (ps[i]'h).2 := by
  simp only [rdOf, Int.toNat_natCast, List.getD_eq_getElem?_getD, pairsL_odd ps i h, Option.getD_some]
def tabOf : List (UInt8 × List UInt8) → UInt8 → Option (List UInt8)
  | [], _ => none
  | p :: ps, c => if p.1 = c then some p.2 else tabOf ps c
theorem tabOf_none : ∀ ps (c : UInt8), c ∉ ps.map Prod.fst → tabOf ps c = none
  | [], _, _ => rfl
  | p :: ps, c, h => by
    simp only [List.map_cons, List.mem_cons, not_or] at h
    simp only [tabOf, if_neg (Ne.symm h.1)]
    exact tabOf_none ps c h.2
theorem rd_even' {ps : List (UInt8 × List UInt8)} {i : Nat} {p} (h : ps[i]? = some p) : rdOf ByteArray.empty (pairsL ps) ((2 * i : Nat) : Int) = B [p.1] := by
  obtain ⟨hi, rfl⟩ := List.getElem?_eq_some_iff.1 h
  exact rd_even ps i hi
theorem rd_odd' {ps : List (UInt8 × List UInt8)} {i : Nat} {p} (h : ps[i]? = some p) : rdOf ByteArray.empty (pairsL ps) ((2 * i + 1 : Nat) : Int) = B p.2 := by
  obtain ⟨hi, rfl⟩ := List.getElem?_eq_some_iff.1 h
  exact rd_odd ps i hi
def keysR (ps : List (UInt8 × List UInt8)) : List ByteArray := (ps.map (fun p => B [p.1])).reverse
def Brow (W : World) (g lo : Nat) (v : Value) (cs : Array Value) (c : UInt8) : Option (List UInt8) → Prop
  | none => cs[c.toNat]? = some (.slice none 0 0)
  | some l => ∃ k cap, cs[c.toNat]? = some (.slice (some ⟨k, 0, none⟩) l.length cap) ∧ l.length ≤ cap ∧ k ≠ g ∧ some k ≠ v.ownBlock ∧ (lo ≤ k ∧ k < W.heap.size) ∧ BlkB W k 5 (bytesOf (B l))
def Bst (W : World) (g lo : Nat) (tab : UInt8 → Option (List UInt8)) (v : Value) : Prop :=
  ∃ cs : Array Value, cs.size = 257 ∧ W.heap[g]? = some (.cells cs 245 (0, 0)) ∧ cs[256]? = some v ∧ some g ≠ v.ownBlock ∧ lo ≤ g ∧ ∀ c : UInt8, Brow W g lo v cs c (tab c)
theorem u8_ltn (c : UInt8) : c.toNat < 256 := UInt8.toNat_lt c
theorem Brow.move {W W1 : World} {g lo : Nat} {v v1 : Value} {cs cs1 : Array Value} {c : UInt8} {o : Option (List UInt8)} (h : Brow W g lo v cs c o) (hcs : cs1[c.toNat]? = cs[c.toNat]?) (hs : W.heap.size ≤ W1.heap.size)
    (hm : ∀ j, lo ≤ j → j < W.heap.size → j ≠ g → some j ≠ v.ownBlock → W1.heap[j]? = W.heap[j]? ∧ some j ≠ v1.ownBlock) : Brow W1 g lo v1 cs1 c o := by
  cases o with
  | none => exact hcs.trans h
  | some l =>
    obtain ⟨k, cap, h1, h2, h3, h4, ⟨h50, h5⟩, h6⟩ := h
    obtain ⟨cc, hi, h7, h8⟩ := h6
    exact ⟨k, cap, hcs.trans h1, h2, h3, (hm k h50 h5 h3 h4).2, ⟨h50, by omega⟩, cc, hi, (hm k h50 h5 h3 h4).1.trans h7, h8⟩
theorem Bst.lt {W : World} {g lo : Nat} {tab : UInt8 → Option (List UInt8)} {v : Value} (h : Bst W g lo tab v) : g < W.heap.size := by
  obtain ⟨cs, _, h1, _⟩ := h
  exact (Array.getElem?_eq_some_iff.1 h1).1
theorem Bst.move {W W1 : World} {g lo : Nat} {tab : UInt8 → Option (List UInt8)} {v : Value} (h : Bst W g lo tab v) (hs : W.heap.size ≤ W1.heap.size)
    (hm : ∀ j, lo ≤ j → j < W.heap.size → some j ≠ v.ownBlock → W1.heap[j]? = W.heap[j]?) : Bst W1 g lo tab v := by
  have hlt := h.lt
  obtain ⟨cs, h0, h1, h2, h3, h5, h4⟩ := h
  exact ⟨cs, h0, (hm g h5 hlt h3).trans h1, h2, h3, h5, fun c => (h4 c).move rfl hs (fun j hl hj _ hv => ⟨hm j hl hj hv, hv⟩)⟩
theorem Bst.below {W W1 : World} {g lo : Nat} {tab : UInt8 → Option (List UInt8)} {v : Value} (h : Bst W g lo tab v) (hb : Below W.heap.size W W1) : Bst W1 g lo tab v := h.move hb.size (fun j _ hj _ => hb.block j hj)
theorem setCell_size (W : World) (a : Addr) (x : Value) : (W.setCell a x).heap.size = W.heap.size := by simp [World.setCell]
theorem Bst.far {W : World} {g lo : Nat} {tab : UInt8 → Option (List UInt8)} {v : Value} (h : Bst W g lo tab v) (b i : Nat) (hb : b < lo) (x : Value) : Bst (W.setCell ⟨b, i, none⟩ x) g lo tab v :=
  h.move (by rw [setCell_size]; exact Nat.le_refl _) (fun j hl _ _ => Below.heap_setCell W _ _ j (by simp only; omega))
theorem Bst.app {W W1 : World} {g lo : Nat} {tab : UInt8 → Option (List UInt8)} {v v1 : Value} (h : Bst W g lo tab v) (hg : W.grownBy W1 v.ownBlock) (hat : v1.ownBlock = v.ownBlock ∨ ∃ b, v1.ownBlock = some b ∧ W.heap.size ≤ b) :
    Bst (W1.setCell ⟨g, 256, none⟩ v1) g lo tab v1 := by
  have hlt := h.lt
  obtain ⟨cs, h0, h1, h2, h3, h5, h4⟩ := h
  have hne : ∀ j, j < W.heap.size → some j ≠ v.ownBlock → some j ≠ v1.ownBlock := by
    intro j hj hv e
    rcases hat with hat | ⟨b, hat, hb⟩
    · exact hv (e.trans hat)
    · rw [hat] at e; injection e with e; omega
  refine ⟨cs.setIfInBounds 256 v1, by simp [h0], heap_setCell_same W1 g 256 cs _ v1 ((hg.block g hlt h3).trans h1), ?_, hne g hlt h3, h5, fun c => (h4 c).move ?_ (by rw [setCell_size]; exact hg.size) (fun j _ hj hjg hv => ⟨?_, hne j hj hv⟩)⟩
  · rw [Array.getElem?_setIfInBounds]; simp [h0]
  · have := u8_ltn c
    rw [Array.getElem?_setIfInBounds, if_neg (by omega)]
  · exact (Below.heap_setCell W1 _ _ j hjg).trans (hg.block j hj hv)
theorem Bst.row {W : World} {g lo : Nat} {tab : UInt8 → Option (List UInt8)} {v : Value} (h : Bst W g lo tab v) (o : UInt8) (l : List UInt8) (k cap : Nat) (hk : BlkB W k 5 (bytesOf (B l))) (hl : l.length ≤ cap) (hg : k ≠ g) (hv : some k ≠ v.ownBlock) (hs : lo ≤ k ∧ k < W.heap.size) :
    Bst (W.setCell ⟨g, o.toNat, none⟩ (.slice (some ⟨k, 0, none⟩) l.length cap)) g lo (fun c => if o = c then some l else tab c) v := by
  obtain ⟨cs, h0, h1, h2, h3, h5, h4⟩ := h
  have ho := u8_ltn o
  refine ⟨cs.setIfInBounds o.toNat (.slice (some ⟨k, 0, none⟩) l.length cap), by simp [h0], heap_setCell_same W g o.toNat cs _ _ h1, ?_, h3, h5, fun c => ?_⟩
  · rw [Array.getElem?_setIfInBounds, if_neg (by omega)]; exact h2
  · have hmv : ∀ j, j ≠ g → (W.setCell ⟨g, o.toNat, none⟩ (.slice (some ⟨k, 0, none⟩) l.length cap)).heap[j]? = W.heap[j]? := fun j hj => Below.heap_setCell W _ _ j hj
    by_cases hc : o = c
    · subst hc
      simp only [if_true]
      obtain ⟨cc, hi, h7, h8⟩ := hk
      refine ⟨k, cap, ?_, hl, hg, hv, by rw [setCell_size]; exact hs, cc, hi, (hmv k hg).trans h7, h8⟩
      rw [Array.getElem?_setIfInBounds, if_pos rfl]; simp [h0]; omega
    · simp only [if_neg hc]
      refine (h4 c).move ?_ (by rw [setCell_size]; exact Nat.le_refl _) (fun j _ _ hj hv => ⟨hmv j hj, hv⟩)
      have : o.toNat ≠ c.toNat := fun e => hc (UInt8.toNat_inj.1 e)
      rw [Array.getElem?_setIfInBounds, if_neg this]
theorem nil_eql (W : World) : (binOp .eql 84 (.slice none 0 0) (.slice none 0 0)).run Tryz.prog W = .ok (.bool true) W := by kernel_rfl
theorem nil_neq (W : World) : (binOp .neq 84 (.slice none 0 0) (.slice none 0 0)).run Tryz.prog W = .ok (.bool false) W := by kernel_rfl
theorem some_neq (a : Addr) (n c : Nat) (W : World) : (binOp .neq 84 (.slice (some a) n c) (.slice none 0 0)).run Tryz.prog W = .ok (.bool true) W := by kernel_rfl
theorem zc_size : Tryz.zeroCells245.size = 257 := by kernel_rfl
theorem zc_one : Tryz.zeroCells245.all (·.oneCell') = true := by kernel_rfl
theorem zc_at : ∀ i, i < 256 → Tryz.zeroCells245[i]? = some (.slice none 0 0) := by
  have h : (List.range 256).all (fun i => match Tryz.zeroCells245[i]? with | some (.slice none 0 0) => true | _ => false) = true := by kernel_rfl
  intro i hi
  have h1 := List.all_eq_true.1 h i (List.mem_range.2 hi)
  split at h1
  · rename_i h2; exact h2
  · cases h1
theorem store_bst (w : World) (v : Value) (hv : v.oneCell' = true) : (storeCells ⟨w.heap.size, 0, none⟩ (Tryz.zeroCells245.toList.set 256 v)).run Tryz.prog (w.alloc (.cells Tryz.zeroCells245 245)) = .ok () (w.alloc (.cells (Tryz.zeroCells245.setIfInBounds 256 v) 245)) := by
  have h := run_storeCells_new (P := Tryz.prog) w 245 Tryz.zeroCells245 (Tryz.zeroCells245.setIfInBounds 256 v)
    (by rw [Array.size_setIfInBounds, zc_size]; kernel_rfl) (by rw [Array.size_setIfInBounds]) (by
      rw [Array.all_eq_true]
      intro i hi
      have h2 := Array.all_eq_true.1 zc_one i (by simpa using hi)
      rw [Array.getElem_setIfInBounds (by simpa using hi)]
      split
      · exact hv
      · exact h2)
  rw [Array.toList_setIfInBounds] at h
  exact h
theorem info_string : ∃ i, Tryz.prog.info? 9 = some i ∧ i.zero = some (.string (⟨#[]⟩ : ByteArray)) ∧ i.size = 1 ∧ i.bytes = 16 := by
  have h : (Tryz.prog.info? 9).map (fun i => (i.zero, i.size, i.bytes)) = some (some (.string (⟨#[]⟩ : ByteArray)), 1, 16) := by kernel_rfl
  cases hq : Tryz.prog.info? 9 with
  | none => rw [hq] at h; cases h
  | some i =>
    rw [hq] at h
    simp at h
    exact ⟨i, rfl, h.1, h.2.1, h.2.2⟩
set_option maxRecDepth 100000 in
set_option maxHeartbeats 1600000 in
theorem build_calls (ps : List (UInt8 × List UInt8)) (hn : 2 ≤ ps.length) (hle : ps.length ≤ 1000) (hnd : (ps.map Prod.fst).Nodup) (hnot : ∃ p, p ∈ ps ∧ p.2.length ≠ 1) (hsz : ∀ p, p ∈ ps → p.2.length ≤ 1000)
    (b : Nat) (d m s : Int) (x3 : Value) (A : Option Addr) (cc : Nat) (w : World) (hb : RpBlk w b d m s x3 (.slice A (pairsL ps).length cc)) (hC : Kd.C Kd.string w A (pairsL ps).length (pairsL ps)) :
    Calls Tryz.prog 175 #[.pointer (some ⟨b, 0, none⟩)] w fun e w' => ∃ g v, e = .returned (.iface 246 (.pointer (some ⟨g, 0, none⟩))) ∧ Bst w' g w.heap.size (tabOf ps) v ∧ Kd.R Kd.string 9 w' w.heap.size (fun k => k ≠ g) v (keysR ps) ∧ Below w.heap.size w w' := by
  have h2 : w.cell? ⟨b, 4, none⟩ = some (.slice A (pairsL ps).length cc) := (blk_cell hb 4).trans rfl
  have hlen := pairsL_length ps
  have HL := Aside0.mk hlen
  have HC := Aside0.mk hC
  have HB := Aside0.mk hb
  have HND := Aside0.mk hnd
  have HNOT := Aside0.mk hnot
  have HSZ := Aside0.mk hsz
  clear hC hb hnd hnot hsz hlen
  go_enter Tryz.func175, Tryz.ntmps175
  have c1 : ¬ ((pairsL ps).length : Int) = 2 := by have := HL.out; omega
  have c1b : (((pairsL ps).length : Int) == 2) = false := beq_eq_false_iff_ne.mpr c1
  go_wp2
  clear c1 c1b
  go_loopg [4, 5] (ps.length + 1) (fun n s4 s5 wx => ∃ (i : Nat) (x : Int) (an : Bool), wx = w ∧ Aside0 (x = ((2 * i : Nat) : Int)) ∧ s5 = .int .i64 x ∧ s4 = .bool an ∧ Aside0 (an = (ps.take i).all (fun p => p.2.length == 1)) ∧ Aside0 (i + n = ps.length + 1))
  case atStart => exact ⟨0, 0, true, rfl, ⟨rfl⟩, rfl, rfl, ⟨rfl⟩, ⟨by omega⟩⟩
  case round =>
    obtain ⟨i, x, an, rfl, HX, rfl, rfl, HA, HI⟩ := hrel
    have hx := HX.out
    have hin := HI.out
    have hlen := HL.out
    by_cases hi : i < ps.length
    · obtain ⟨n, rfl⟩ : ∃ n, gk = n + 1 := ⟨gk - 1, by omega⟩
      have t1 : (x < ((pairsL ps).length : Int)) = True := eq_true (by omega)
      have t2 : (0 ≤ x) = True := eq_true (by omega)
      have w1 : wrap64 (x + 1) = x + 1 := w64 (by omega) (by omega)
      have w2 : wrap64 (x + 2) = x + 2 := w64 (by omega) (by omega)
      have t3 : (wrap64 (x + 1) < ((pairsL ps).length : Int)) = True := eq_true (by omega)
      have t4 : (0 ≤ wrap64 (x + 1)) = True := eq_true (by omega)
      obtain ⟨ad1, e1, hx1⟩ := Kd.at_string HC.out x (by omega) (by omega)
      cases e1
      rw [hx, rd_even ps i hi, ← hx] at hx1
      obtain ⟨ad2, e2, hx2⟩ := Kd.at_string HC.out (wrap64 (x + 1)) (by omega) (by omega)
      cases e2
      rw [show rdOf ByteArray.empty (pairsL ps) (wrap64 (x + 1)) = B (ps[i]'hi).2 by rw [← rd_odd ps i hi]; congr 1; omega] at hx2
      have hs1 : ((B [(ps[i]'hi).1]).size : Int) = 1 := rfl
      by_cases h1 : (ps[i]'hi).2.length = 1
      · have hs2 : ((B (ps[i]'hi).2).size : Int) = 1 := by rw [size_B, h1]; rfl
        have hd : an = (ps.take (i + 1)).all (fun p => p.2.length == 1) := by
          rw [HA.out]
          rw [List.take_succ_eq_append_getElem hi, List.all_append]
          simp [h1]
        have HD := Aside0.mk hd
        have hx' := Aside0.mk (p := wrap64 (x + 2) = ((2 * (i + 1) : Nat) : Int)) (by omega)
        clear w1 w2 hx hin hlen hd
        go_wp2
        go_roundg n
        case measure => omega
        case rel => exact ⟨i + 1, _, _, rfl, hx', rfl, rfl, ⟨HD.out⟩, ⟨by have := HI.out; omega⟩⟩
      · have hs2 : ((B (ps[i]'hi).2).size : Int) ≠ 1 := by rw [size_B]; omega
        have hs3 : (((B (ps[i]'hi).2).size : Int) == 1) = false := beq_eq_false_iff_ne.mpr hs2
        have hs4 : (((B (ps[i]'hi).2).size : Int) != 1) = true := bne_iff_ne.mpr hs2
        have hd : false = (ps.take (i + 1)).all (fun p => p.2.length == 1) := by
          rw [List.take_succ_eq_append_getElem hi, List.all_append]
          simp [h1]
        have HD := Aside0.mk hd
        have hx' := Aside0.mk (p := wrap64 (x + 2) = ((2 * (i + 1) : Nat) : Int)) (by omega)
        clear w1 w2 hx hin hlen hd
        go_wp2
        go_roundg n
        case measure => omega
        case rel => exact ⟨i + 1, _, _, rfl, hx', rfl, rfl, ⟨HD.out⟩, ⟨by have := HI.out; omega⟩⟩
    · have t1 : (x < ((pairsL ps).length : Int)) = False := eq_false (by omega)
      obtain rfl : an = false := by
        rw [HA.out]
        rw [List.take_of_length_le (by omega)]
        obtain ⟨p, hp, hp1⟩ := HNOT.out
        rw [List.all_eq_false]
        exact ⟨p, hp, by simpa using hp1⟩
      have hq : wrap64 (((pairsL ps).length : Int) / 2) = (ps.length : Int) := by rw [w64 (by omega) (by omega)]; omega
      obtain ⟨w0, hw0⟩ : ∃ w0, w0 = wr := ⟨_, rfl⟩
      subst hw0
      obtain ⟨I9, i9, z9, s9, b9⟩ := info_string
      obtain ⟨w1, hmk, hown, hg⟩ := run_make_own (P := Tryz.prog) w0 w0.heap.size 68 9 _ _ 1 Tryz.underlying68 i9 z9 s9 .i64 .i64 ps.length (by rw [b9]; omega) (by simp [maxLen]; omega) (Nat.le_refl _)
      have hst := store_bst w1 (.slice (some ⟨w0.heap.size, 0, none⟩) 0 ps.length) rfl
      have hb0 : Bst (w1.alloc (.cells (Tryz.zeroCells245.setIfInBounds 256 (.slice (some ⟨w0.heap.size, 0, none⟩) 0 ps.length)) 245)) w1.heap.size w0.heap.size (tabOf (ps.drop ps.length)) (.slice (some ⟨w0.heap.size, 0, none⟩) 0 ps.length) := by
        have hgs := hg.size
        have hz := own_lt hown w0.heap.size rfl
        refine ⟨_, by rw [Array.size_setIfInBounds, zc_size], blk_new w1 _, ?_, ?_, ?_, fun c => ?_⟩
        · rw [Array.getElem?_setIfInBounds, zc_size]; simp
        · simp [Value.ownBlock]; omega
        · exact hgs
        · rw [List.drop_length]
          show (Tryz.zeroCells245.setIfInBounds 256 _)[c.toNat]? = _
          have := u8_ltn c
          rw [Array.getElem?_setIfInBounds, if_neg (by omega)]
          exact zc_at _ this
      have HB0 := Aside0.mk hb0
      have HBW := Aside0.mk (p := Below w0.heap.size w0 w1) ((Below.refl _ _).grown hg (Nat.le_refl _) (by simp))
      have HK0 := Aside0.mk (p := Kd.R Kd.string 9 (w1.alloc (.cells (Tryz.zeroCells245.setIfInBounds 256 (.slice (some ⟨w0.heap.size, 0, none⟩) 0 ps.length)) 245)) w0.heap.size (fun k => k ≠ w1.heap.size) (.slice (some ⟨w0.heap.size, 0, none⟩) 0 ps.length) (keysR (ps.drop ps.length))) (by
        rw [List.drop_length]
        have hgs := hg.size
        have hz := own_lt hown w0.heap.size rfl
        refine ⟨fun k hk => ?_, [], hown.kept (World.grownBy_alloc w1 _ none) (.inr (by simp [Value.ownBlock])), Reps.none _ _⟩
        simp [Value.ownBlock] at hk
        omega)
      have HG := Aside0.mk hg
      have HX2 := Aside0.mk (p := wrap64 (((pairsL ps).length : Int) - 2) = 2 * (ps.length : Int) - 2) (by rw [w64 (by omega) (by omega)]; omega)
      clear hx hin hlen hb0 hg hown
      go_wp2
      clear hmk hst
      go_loopg [12] ps.length (fun n s12 wx => ∃ (x : Int) (v : Value), Aside0 (x = 2 * (n : Int) - 2) ∧ s12 = .int .i64 x ∧ Aside0 (Bst wx w1.heap.size w0.heap.size (tabOf (ps.drop n)) v) ∧ Aside0 (Kd.R Kd.string 9 wx w0.heap.size (fun k => k ≠ w1.heap.size) v (keysR (ps.drop n))) ∧ Aside0 (Below w0.heap.size w0 wx) ∧ Aside0 (n ≤ ps.length))
      case atStart => exact ⟨_, _, HX2, rfl, HB0, HK0, ⟨below_alloc HBW.out _⟩, ⟨Nat.le_refl _⟩⟩
      case round =>
        clear HX HI t1 hq HX2 HB0 HK0
        obtain ⟨y, v, HX, rfl, HT, HK, HW, HN⟩ := hrel
        have hx := HX.out
        cases gk with
        | zero =>
          have t1 : (0 ≤ y) = False := eq_false (by omega)
          clear hx
          go_wp2
          go_ret
          rw [List.drop_zero] at HT HK
          exact ⟨_, _, rfl, HT.out, HK.out, HW.out⟩
        | succ m =>
          have hn' := HN.out
          obtain ⟨⟨o, nl⟩, hpm⟩ : ∃ p, ps[m]? = some p := ⟨_, List.getElem?_eq_getElem (by omega)⟩
          have hlen := HL.out
          have t1 : (0 ≤ y) = True := eq_true (by omega)
          have w1' : wrap64 (y + 1) = y + 1 := w64 (by omega) (by omega)
          have w2 : wrap64 (y - 2) = y - 2 := w64 (by omega) (by omega)
          have t2 : (y < ((pairsL ps).length : Int)) = True := eq_true (by omega)
          have t3 : (wrap64 (y + 1) < ((pairsL ps).length : Int)) = True := eq_true (by omega)
          have t4 : (0 ≤ wrap64 (y + 1)) = True := eq_true (by omega)
          have HCr := Kd.C_below HC.out (HW.out)
          obtain ⟨ad1, e1, hx1⟩ := Kd.at_string HCr y (by omega) (by omega)
          cases e1
          rw [show y = ((2 * m : Nat) : Int) by omega, rd_even' hpm, show ((2 * m : Nat) : Int) = y by omega] at hx1
          obtain ⟨ad2, e2, hx2⟩ := Kd.at_string HCr (wrap64 (y + 1)) (by omega) (by omega)
          cases e2
          rw [show rdOf ByteArray.empty (pairsL ps) (wrap64 (y + 1)) = B nl by rw [← rd_odd' hpm]; congr 1; omega] at hx2
          have hs1 : ((B [o]).size : Int) = 1 := rfl
          have hdrop : ps.drop m = (o, nl) :: ps.drop (m + 1) := by
            obtain ⟨hi, he⟩ := List.getElem?_eq_some_iff.1 hpm
            rw [List.drop_eq_getElem_cons hi, he]
          have hnone : tabOf (ps.drop (m + 1)) o = none := by
            refine tabOf_none _ _ (fun hmem => ?_)
            have hnd := HND.out
            rw [← List.take_append_drop m ps, hdrop] at hnd
            simp only [List.map_append, List.map_cons] at hnd
            exact (List.nodup_cons.1 (List.nodup_append.1 hnd).2.1).1 hmem
          obtain ⟨cs, hcs, hcb, hcv, hcg, -, hct⟩ := HT.out
          have hc0 : wr.cell? ⟨w1.heap.size, o.toNat, none⟩ = some (.slice none 0 0) := by
            rw [cell_of_row wr _ _ cs _ _ hcb]
            have := hct o
            rw [hnone] at this
            exact this
          have hcvv : wr.cell? ⟨w1.heap.size, 256, none⟩ = some v := (cell_of_row wr _ _ cs _ _ hcb).trans hcv
          have t5 : ((o.toNat : Int) < 256) = True := eq_true (by have := u8_ltn o; omega)
          have hi0 : ∀ h, (B [o])[0]'h = o := fun _ => rfl
          have t6 : (256 ≤ (o.toNat : Int)) = False := eq_false (by have := u8_ltn o; omega)
          clear w1' w2 hx hlen hct hnone HCr hn'
          have hnl := nil_eql
          go_upto_region 33 with (fail)
          clear hnl
          have hcv1 : (convert 84 9 (.slice (some ⟨wr.heap.size, 0, none⟩) 1 1)).run Tryz.prog (wr.alloc (.cells #[.int .u8 (o.toNat : Int)] 5)) = .ok (.string (B [o])) (wr.alloc (.cells #[.int .u8 (o.toNat : Int)] 5)) :=
            run_convert_bytes_back _ 84 9 5 ⟨wr.heap.size, 0, none⟩ 1 [o] Tryz.underlying84 Tryz.underlying5 Tryz.underlying9 (fun j hj => by
              obtain rfl : j = 0 := by simp at hj; omega
              exact (World.cell?_alloc_mark wr #[.int .u8 (o.toNat : Int)] 5 (0, 0) 0))
          obtain ⟨A1, c1, rfl, hcl, -⟩ := Kd.R_reads HK.out
          have hkl : (keysR (ps.drop (m + 1))).length ≤ 1000 := by have := HN.out; simp [keysR]; omega
          have hglt := HT.out.lt
          have HS := Aside0.mk HW.out.size
          have HSZ1 := Aside0.mk (p := wr.heap.size + 1 = (wr.alloc (.cells #[.int .u8 (o.toNat : Int)] 5)).heap.size) (by simp)
          go_upto_region 34 with ((with_reducible refine gate_builtin (b := .append) (xs := #[.tmp 119, .tmp 123]) rfl ?_); at_builtin; refine Kd.R_append Kd.string (w0 := w0) w0.heap.size rfl (.tmp 119) (.tmp 123) 68 9 (.string ⟨#[]⟩) 16 rfl Tryz.underlying68 info9 rfl (by decide) (by omega) (.slice A1 (keysR (ps.drop (m + 1))).length c1) (keysR (ps.drop (m + 1))) (B [o]) [.string (B [o])] (fun k => k ≠ w1.heap.size) (fun _ => False) rfl (congrArg (fun n => Value.slice (some ⟨n, 0, none⟩) 1 1) HSZ1.out) ?aP (fun _ hk => hk.elim) ?aF ?aO ?aB ?aS ?aL ?_; (case aP => rfl); (case aF => exact fun k hk => by simp at hk; omega); (case aO => exact Kd.R_below HK.out (below_alloc (Below.refl _ _) _)); (case aB => exact below_alloc HW.out _); (case aS => have := HS.out; simp; omega); (case aL => omega); intro v1 w2 ho hb hg1 hat1; obtain ⟨A2, c2, rfl, -⟩ := Kd.R_reads ho; rw [List.length_append, List.length_singleton] at ho hat1; have HO1 := Aside0.mk ho; have HB1 := Aside0.mk hb; have HG1 := Aside0.mk hg1; have HAT := Aside0.mk hat1; have hblk2 := (hg1.block w1.heap.size (by simp; omega) hcg).trans ((below_alloc (Below.refl _ _) _).block w1.heap.size hglt |>.trans hcb); have hc2 : w2.cell? ⟨w1.heap.size, 256, none⟩ = some (.slice A1 (keysR (ps.drop (m + 1))).length c1) := (blk_cell hblk2 256).trans hcv; have hf2 := blk_frozen hblk2 256; clear ho hb hg1 hat1)
          have hT1 : Bst (wr.alloc (.cells #[.int .u8 (o.toNat : Int)] 5)) w1.heap.size w0.heap.size (tabOf (ps.drop (m + 1))) (.slice A1 (keysR (ps.drop (m + 1))).length c1) := HT.out.below (below_alloc (Below.refl _ _) _)
          have HT3 := Aside0.mk (hT1.app (v1 := .slice A2 ((keysR (ps.drop (m + 1))).length + 1) c2) HG1.out HAT.out)
          have HK3 := Aside0.mk (Kd.R_far (p := ⟨w1.heap.size, 256, none⟩) HO1.out (fun k hk => hk) (.slice A2 ((keysR (ps.drop (m + 1))).length + 1) c2))
          have hw01 : w0.heap.size ≤ w1.heap.size := HBW.out.size
          have HW3 := Aside0.mk (HB1.out.setCell (p := ⟨w1.heap.size, 256, none⟩) hw01 (.slice A2 ((keysR (ps.drop (m + 1))).length + 1) c2))
          clear hT1 HO1 HB1 HG1 HAT hblk2 hc2 hf2 hcv1 hcb hcv hc0 hcvv HS HSZ1
          have hkey : keysR (ps.drop m) = keysR (ps.drop (m + 1)) ++ [B [o]] := by rw [hdrop]; simp [keysR]
          rw [← hkey] at HK3
          have htab : (fun c => if o = c then some nl else tabOf (ps.drop (m + 1)) c) = tabOf (ps.drop m) := by rw [hdrop]; rfl
          generalize (Value.slice A2 ((keysR (List.drop (m + 1) ps)).length + 1) c2) = v3 at *
          generalize w2.setCell ⟨w1.heap.size, 256, none⟩ v3 = w3 at *
          have hgl := HT3.out.lt
          have hW0 := HW3.out.size
          have hbw : Below w3.heap.size w3 (Lib.bytesWorld w3 5 (B nl)) := bytes_below (Below.refl _ _) (Nat.le_refl _) _ _
          have hT4 := HT3.out.below hbw
          have hvb : some w3.heap.size ≠ v3.ownBlock := fun e => by
            obtain ⟨hk0, -⟩ := Kd.R_bound HK3.out
            have := (hk0 w3.heap.size e.symm).2.2.1
            omega
          have HT5 := Aside0.mk (hT4.row o nl w3.heap.size (grownCap w3 (B nl).size 0 5) (BlkB.of_bytes w3 5 (B nl)) (by have := grownCap_ge w3 (B nl).size 0 5; rw [size_B] at this ⊢; exact this) (by omega) hvb ⟨hW0, by rw [Lib.bytesWorld_size]; omega⟩)
          rw [htab, ← size_B nl] at HT5
          have HK5 := Aside0.mk (Kd.R_far (p := ⟨w1.heap.size, o.toNat, none⟩) (Kd.R_below HK3.out hbw) (fun k hk => hk) (.slice (some ⟨w3.heap.size, 0, none⟩) (B nl).size (grownCap w3 (B nl).size 0 5)))
          have HW5 := Aside0.mk ((bytes_below HW3.out hW0 5 (B nl)).setCell (p := ⟨w1.heap.size, o.toNat, none⟩) hw01 (.slice (some ⟨w3.heap.size, 0, none⟩) (B nl).size (grownCap w3 (B nl).size 0 5)))
          obtain ⟨cs4, hcs4, hcb4, -, -, -, -⟩ := hT4
          have hcell4 : (Lib.bytesWorld w3 5 (B nl)).cell? ⟨w1.heap.size, o.toNat, none⟩ = some (cs4[o.toNat]'(by have := u8_ltn o; omega)) := by
            rw [blk_cell hcb4]; exact Array.getElem?_eq_getElem _
          have hfr4 := blk_frozen hcb4 o.toNat
          have hcb := fun W => print_bytes (P := Tryz.prog) 9 84 5 Tryz.underlying9 Tryz.underlying84 Tryz.underlying5 (B nl) W
          have hy := HX.out
          have hnn := HN.out
          have HY := Aside0.mk (p := wrap64 (y - 2) = 2 * (m : Int) - 2) (by rw [w64 (by omega) (by omega)]; omega)
          have HN' := Aside0.mk (p := m ≤ ps.length) (by have := HN.out; omega)
          clear hy hnn hgl hW0 hbw hvb htab hkey hdrop HX HN hcb4 HT3 HK3 HW3 HT HK HW
          go_wp2
          go_roundg m
          case measure => omega
          case rel => exact ⟨_, _, HY, rfl, HT5, HK5, HW5, HN'⟩
end Go.Proofs.YteehjlciajhdoaaGreatDoor.X
namespace Go.Proofs.YteehjlciajhdoaaGreatDoor.X
set_option linter.unusedVariables false
set_option linter.unusedSimpArgs false
open Go.RowKit Go.Proofs.YteehjlciajhdoaaGreatDoorW.PrintWords Go.Proofs.YteehjlciajhdoaaGreatDoorW.PrintLast Go.Proofs.YteehjlciajhdoaaGreatDoorW.PrintMore
structure TabOk (ps : List (UInt8 × List UInt8)) : Prop where
  two : 2 ≤ ps.length
  le : ps.length ≤ 1000
  nodup : (ps.map Prod.fst).Nodup
  other : ∃ p, p ∈ ps ∧ p.2.length ≠ 1
  small : ∀ p, p ∈ ps → p.2.length ≤ 1000
set_option maxRecDepth 100000 in
set_option maxHeartbeats 1600000 in
theorem buildOnce_calls (ps : List (UInt8 × List UInt8)) (hok : TabOk ps) (b : Nat) (x3 : Value) (A : Option Addr) (cc : Nat) (w : World) (hb : RpBlk w b 0 1 0 x3 (.slice A (pairsL ps).length cc)) (hC : Kd.C Kd.string w A (pairsL ps).length (pairsL ps)) :
    Calls Tryz.prog 131 #[.pointer (some ⟨b, 0, none⟩)] w fun e w' => e = .returned (.tuple #[]) ∧ ∃ x3' v', RpBlk w' b 0 1 0 x3' v' ∧ v' = .slice none 0 0 ∧
      ∃ g v, x3' = .iface 246 (.pointer (some ⟨g, 0, none⟩)) ∧ Bst w' g w.heap.size (tabOf ps) v ∧ Kd.R Kd.string 9 w' w.heap.size (fun k => k ≠ g) v (keysR ps) ∧ w.heap.size ≤ w'.heap.size ∧ ∀ B0 w0, Below B0 w0 w → B0 ≤ b → Below B0 w0 w' := by
  have HB := Aside0.mk hb
  have HC := Aside0.mk hC
  have hlt : b < w.heap.size := (Array.getElem?_eq_some_iff.1 hb).1
  clear hb hC
  go_enter Tryz.func131, Tryz.ntmps131
  go_wp2_with (go_at_call 175; refine (build_calls ps hok.two hok.le hok.nodup hok.other hok.small b 0 1 0 x3 A cc _ HB.out HC.out).mono ?_; rintro e w1 ⟨g, v, rfl, h1, h2, h3⟩; have hblk := blk_below HB.out h3; have hc3 : w1.cell? ⟨b, 3, none⟩ = some x3 := (blk_cell hblk 3).trans rfl; have hf3 := blk_frozen hblk 3; have hblk2 : RpBlk (w1.setCell ⟨b, 3, none⟩ (.iface 246 (.pointer (some ⟨g, 0, none⟩)))) b 0 1 0 (.iface 246 (.pointer (some ⟨g, 0, none⟩))) (.slice A (pairsL ps).length cc) := blk_put hblk 3 _ rfl; have hc4 : (w1.setCell ⟨b, 3, none⟩ (.iface 246 (.pointer (some ⟨g, 0, none⟩)))).cell? ⟨b, 4, none⟩ = some (.slice A (pairsL ps).length cc) := (blk_cell hblk2 4).trans rfl; have hf4 := blk_frozen hblk2 4; have HB2 := Aside0.mk hblk2; have H1 := Aside0.mk h1; have H2 := Aside0.mk h2; have H3 := Aside0.mk h3; clear hblk hblk2 h1 h2 h3)
  go_end0
  have hK := Kd.R_far (p := ⟨b, 4, none⟩) (Kd.R_bound (Kd.R_far (p := ⟨b, 3, none⟩) (Kd.R_bound H2.out) (fun k hk => by have := hk.2.1; simp only; omega) (.iface 246 (.pointer (some ⟨g, 0, none⟩))))) (fun k hk => by have := hk.2.1; simp only; omega) (.slice none 0 0)
  refine ⟨rfl, _, _, blk_put HB2.out 4 (.slice none 0 0) rfl, rfl, g, v, rfl, (H1.out.far b 3 hlt _).far b 4 hlt _, Kd.R_mono hK (fun k hk => hk.1.1), ?_, fun B0 w0 hB hle => ?_⟩
  · rw [setCell_size, setCell_size]; exact H3.out.size
  · exact ((below_then hB (by omega) H3.out).setCell (p := ⟨b, 3, none⟩) hle _).setCell (p := ⟨b, 4, none⟩) hle _
structure Built (w w' : World) (b : Nat) (ps : List (UInt8 × List UInt8)) (g lo : Nat) (v : Value) : Prop where
  blk : RpBlk w' b 1 0 0 (.iface 246 (.pointer (some ⟨g, 0, none⟩))) (.slice none 0 0)
  bst : Bst w' g lo (tabOf ps) v
  keys : Kd.R Kd.string 9 w' lo (fun k => k ≠ g) v (keysR ps)
  size : w.heap.size ≤ w'.heap.size
  below : ∀ B0 w0, Below B0 w0 w → B0 ≤ b → Below B0 w0 w'
set_option maxRecDepth 100000 in
set_option maxHeartbeats 1600000 in
theorem do_calls (ps : List (UInt8 × List UInt8)) (hok : TabOk ps) (b : Nat) (x3 : Value) (A : Option Addr) (cc : Nat) (w : World) (hb : RpBlk w b 0 0 0 x3 (.slice A (pairsL ps).length cc)) (hC : Kd.C Kd.string w A (pairsL ps).length (pairsL ps)) (hA : ∀ ad, A = some ad → ad.block ≠ b) :
    Calls Tryz.prog 130 #[.pointer (some ⟨b, 0, none⟩), .func (.func 131) #[.pointer (some ⟨b, 0, none⟩)] #[]] w fun e w' => e = .returned (.tuple #[]) ∧ ∃ g lo v, Built w w' b ps g lo v := by
  have hlt : b < w.heap.size := (Array.getElem?_eq_some_iff.1 hb).1
  refine (do_any b x3 _ w hb (fun x3' v' W w' => v' = Value.slice none 0 0 ∧ ∃ g v, x3' = Value.iface 246 (.pointer (some ⟨g, 0, none⟩)) ∧ Bst w' g W.heap.size (tabOf ps) v ∧ Kd.R Kd.string 9 w' W.heap.size (fun k => k ≠ g) v (keysR ps) ∧ W.heap.size ≤ w'.heap.size ∧ ∀ B0 w0, Below B0 w0 W → B0 ≤ b → Below B0 w0 w') ?_).mono ?_
  · rintro W hW rfl
    refine (buildOnce_calls ps hok b x3 A cc _ hW ?_).mono ?_
    · exact Kd.C_keep ByteArray.empty hC ⟨by rw [setCell_size]; exact Nat.le_refl _, fun i hi hg _ => Below.heap_setCell w _ _ i (by simpa using hg)⟩ (fun ad e _ => hA ad e)
    · rintro e w' ⟨rfl, x3', v', h1, h0, g, v, h2, h3, h4, h5, h6⟩
      exact ⟨rfl, x3', v', h1, h0, g, v, h2, h3, h4, h5, h6⟩
  · rintro e w' ⟨rfl, x3', v', w1, h1, ⟨rfl, g, v, rfl, h3, h4, h5, h6⟩, rfl⟩
    rw [setCell_size] at h3 h4 h5
    have h1d : RpBlk w1.drew b 0 1 0 _ _ := h1
    have hK := Kd.R_far (p := ⟨b, 1, none⟩) (Kd.R_bound (Kd.R_far (p := ⟨b, 0, none⟩) (Kd.R_bound (w := w1.drew) h4) (fun k hk => by have := hk.2.1; simp only; omega) (.int .u32 1))) (fun k hk => by have := hk.2.1; simp only; omega) (.int .i32 0)
    refine ⟨rfl, g, w.heap.size, v, ⟨?_, ?_, Kd.R_mono hK (fun k hk => hk.1.1), ?_, fun B0 w0 hB hle => ?_⟩⟩
    · exact blk_put (cs := #[.int .u32 1, .int .i32 1, .int .u32 0, _, _]) (blk_put h1d 0 (.int .u32 1) rfl) 1 (.int .i32 0) rfl
    · exact ((h3.below (W1 := w1.drew) ⟨rfl, rfl, rfl, Nat.le_refl _, fun _ _ => rfl⟩).far b 0 hlt _).far b 1 hlt _
    · rw [setCell_size, setCell_size]; exact h5
    · have h7 := h6 B0 w0 (hB.setCell (p := ⟨b, 1, none⟩) hle _) hle
      exact ((below_drew h7).setCell (p := ⟨b, 0, none⟩) hle _).setCell (p := ⟨b, 1, none⟩) hle _
end Go.Proofs.YteehjlciajhdoaaGreatDoor.X
namespace Go.Proofs
open Go.Shelf
def Tryz.lays156_ren : Go.Shelf.Ren := ⟨fun | 156 => 141 | 165 => 177 | 166 => 152 | 169 => 155 | 240 => 199 | 241 => 217 | 276 => 231 | 277 => 242 | n => n, fun | 31 => 68 | 9 => 9 | 3 => 3 | 4 => 4 | 0 => 0 | 20 => 20 | 72 => 194 | 76 => 197 | 70 => 192 | 37 => 84 | 75 => 196 | 127 => 229 | 164 => 256 | 5 => 5 | 80 => 158 | n => n, fun | n => n⟩
theorem Tryz.lays156 : Go.Proofs.Lays.n156 Tryz.prog Tryz.lays156_ren := {
  mixed := by kernel_rfl
  f156 := Tryz.func141.trans (congrArg some (by kernel_rfl))
  f165 := Tryz.func177.trans (congrArg some (by kernel_rfl))
  f166 := Tryz.func152.trans (congrArg some (by kernel_rfl))
  f169 := Tryz.func155.trans (congrArg some (by kernel_rfl))
  f240 := Tryz.func199.trans (congrArg some (by kernel_rfl))
  f241 := Tryz.func217.trans (congrArg some (by kernel_rfl))
  f276 := Tryz.func231.trans (congrArg some (by kernel_rfl))
  f277 := Tryz.func242.trans (congrArg some (by kernel_rfl))
  t0 := Tryz.underlying0
  a0 := Tryz.isAgg0
  z0 := Tryz.sizeOf0
  v0 := Tryz.zeroValue0
  t3 := Tryz.underlying3
  a3 := Tryz.isAgg3
  z3 := Tryz.sizeOf3
  v3 := Tryz.zeroValue3
  t4 := Tryz.underlying4
  a4 := Tryz.isAgg4
  z4 := Tryz.sizeOf4
  v4 := Tryz.zeroValue4
  t9 := Tryz.underlying9
  a9 := Tryz.isAgg9
  z9 := Tryz.sizeOf9
  v9 := Tryz.zeroValue9
  t20 := Tryz.underlying20
  a20 := Tryz.isAgg20
  z20 := Tryz.sizeOf20
  v20 := Tryz.zeroValue20
  t31 := Tryz.underlying68
  a31 := Tryz.isAgg68
  z31 := Tryz.sizeOf68
  v31 := Tryz.zeroValue68
  t37 := Tryz.underlying84
  a37 := Tryz.isAgg84
  z37 := Tryz.sizeOf84
  v37 := Tryz.zeroValue84
  t70 := Tryz.underlying192
  a70 := Tryz.isAgg192
  z70 := Tryz.sizeOf192
  v70 := Tryz.zeroValue192
  t72 := Tryz.underlying194
  a72 := Tryz.isAgg194
  z72 := Tryz.sizeOf194
  v72 := Tryz.zeroValue194
  t75 := Tryz.underlying196
  a75 := Tryz.isAgg196
  z75 := Tryz.sizeOf196
  v75 := Tryz.zeroValue196
  t76 := Tryz.underlying197
  a76 := Tryz.isAgg197
  z76 := Tryz.sizeOf197
  v76 := Tryz.zeroValue197
  t127 := Tryz.underlying229
  a127 := Tryz.isAgg229
  z127 := Tryz.sizeOf229
  v127 := Tryz.zeroValue229
  t164 := Tryz.underlying256
  a164 := Tryz.isAgg256
  z164 := Tryz.sizeOf256
  v164 := Tryz.zeroValue256 }
theorem Tryz.Builder_Extra_156 : Builder.Extra Tryz.prog Tryz.lays156_ren := {
  sizeBuilder := by kernel_rfl
  liesBuilder := by kernel_rfl
  t5 := Tryz.underlying5
  a5 := Tryz.isAgg5
  z5 := Tryz.sizeOf5
  v5 := Tryz.zeroValue5
  infoByte := by kernel_rfl
  cellsByte := by kernel_rfl
  sizeByte := by kernel_rfl
  neB5 := by decide }
open Go.RowKit in
theorem Tryz.strings_Join_none (a : Option Addr) (c : Nat) (sep : ByteArray) (w : World) :
    Calls Tryz.prog 141 #[.slice a 0 c, .string sep] w fun e w' => e = .returned (.string ⟨#[]⟩) ∧ w' = w := Any.strings_Join_none Tryz.lays156 Tryz.Builder_Extra_156 a c sep w
open Go.RowKit in
theorem Tryz.strings_Join (bk o c : Nat) (xs : List ByteArray) (sep : ByteArray) (w : World) (hcells : ∀ (j : Nat) x, xs[j]? = some x → w.cell? ⟨bk, o + j, none⟩ = some (.string x)) (hbk : bk < w.heap.size) (hN : xs.length ≤ 140737488355328) (hcap : xs.length ≤ c) (hlen : (Lib.join (xs.map (·.data.toList)) sep.data.toList).length ≤ 140737488355328) :
    Calls Tryz.prog 141 #[.slice (some ⟨bk, o, none⟩) xs.length c, .string sep] w fun e w' => e = .returned (.string ⟨(Lib.join (xs.map (·.data.toList)) sep.data.toList).toArray⟩) ∧ Below w.heap.size w w' := Any.strings_Join Tryz.lays156 Tryz.Builder_Extra_156 bk o c xs sep w hcells hbk hN hcap hlen
def Tryz.lays161_ren : Go.Shelf.Ren := ⟨fun | 161 => 126 | 231 => 115 | 227 => 117 | 233 => 118 | 235 => 120 | 228 => 165 | 197 => 166 | 151 => 167 | 260 => 204 | 152 => 171 | 137 => 123 | 119 => 210 | 224 => 207 | 225 => 206 | 217 => 170 | 266 => 209 | n => n, fun | 9 => 9 | 4 => 4 | 3 => 3 | 5 => 5 | 117 => 150 | 116 => 149 | 0 => 0 | 124 => 153 | 105 => 206 | 21 => 21 | 119 => 240 | 46 => 92 | 139 => 261 | 138 => 260 | n => n, fun | 3 => 1 | 4 => 2 | n => n⟩
theorem Tryz.lays161 : Go.Proofs.Lays.n161 Tryz.prog Tryz.lays161_ren := {
  mixed := by kernel_rfl
  f119 := Tryz.func210.trans (congrArg some (by kernel_rfl))
  f137 := Tryz.func123.trans (congrArg some (by kernel_rfl))
  f151 := Tryz.func167.trans (congrArg some (by kernel_rfl))
  f152 := Tryz.func171.trans (congrArg some (by kernel_rfl))
  f161 := Tryz.func126.trans (congrArg some (by kernel_rfl))
  f197 := Tryz.func166.trans (congrArg some (by kernel_rfl))
  f217 := Tryz.func170.trans (congrArg some (by kernel_rfl))
  f224 := Tryz.func207.trans (congrArg some (by kernel_rfl))
  f225 := Tryz.func206.trans (congrArg some (by kernel_rfl))
  f227 := Tryz.func117.trans (congrArg some (by kernel_rfl))
  f228 := Tryz.func165.trans (congrArg some (by kernel_rfl))
  f231 := Tryz.func115.trans (congrArg some (by kernel_rfl))
  f233 := Tryz.func118.trans (congrArg some (by kernel_rfl))
  f235 := Tryz.func120.trans (congrArg some (by kernel_rfl))
  f260 := Tryz.func204.trans (congrArg some (by kernel_rfl))
  f266 := Tryz.func209.trans (congrArg some (by kernel_rfl))
  t0 := Tryz.underlying0
  a0 := Tryz.isAgg0
  z0 := Tryz.sizeOf0
  v0 := Tryz.zeroValue0
  t3 := Tryz.underlying3
  a3 := Tryz.isAgg3
  z3 := Tryz.sizeOf3
  v3 := Tryz.zeroValue3
  t4 := Tryz.underlying4
  a4 := Tryz.isAgg4
  z4 := Tryz.sizeOf4
  v4 := Tryz.zeroValue4
  t5 := Tryz.underlying5
  a5 := Tryz.isAgg5
  z5 := Tryz.sizeOf5
  v5 := Tryz.zeroValue5
  t9 := Tryz.underlying9
  a9 := Tryz.isAgg9
  z9 := Tryz.sizeOf9
  v9 := Tryz.zeroValue9
  t21 := Tryz.underlying21
  a21 := Tryz.isAgg21
  z21 := Tryz.sizeOf21
  v21 := Tryz.zeroValue21
  t46 := Tryz.underlying92
  a46 := Tryz.isAgg92
  z46 := Tryz.sizeOf92
  v46 := Tryz.zeroValue92
  t105 := Tryz.underlying206
  a105 := Tryz.isAgg206
  z105 := Tryz.sizeOf206
  v105 := Tryz.zeroValue206
  t116 := Tryz.underlying149
  a116 := Tryz.isAgg149
  z116 := Tryz.sizeOf149
  t117 := Tryz.underlying150
  a117 := Tryz.isAgg150
  z117 := Tryz.sizeOf150
  v117 := Tryz.zeroValue150
  t119 := Tryz.underlying240
  a119 := Tryz.isAgg240
  z119 := Tryz.sizeOf240
  t124 := Tryz.underlying153
  a124 := Tryz.isAgg153
  z124 := Tryz.sizeOf153
  v124 := Tryz.zeroValue153
  t138 := Tryz.underlying260
  a138 := Tryz.isAgg260
  z138 := Tryz.sizeOf260
  v138 := Tryz.zeroValue260
  t139 := Tryz.underlying261
  a139 := Tryz.isAgg261
  z139 := Tryz.sizeOf261
  v139 := Tryz.zeroValue261
  g3 := by kernel_rfl
  g4 := by kernel_rfl }
def Tryz.lays162_ren : Go.Shelf.Ren := ⟨fun | 162 => 63 | 232 => 116 | 227 => 117 | 234 => 119 | 236 => 121 | 228 => 165 | 271 => 168 | 151 => 167 | 120 => 205 | 197 => 166 | 152 => 171 | 260 => 204 | 137 => 123 | 119 => 210 | 224 => 207 | 225 => 206 | 217 => 170 | 266 => 209 | n => n, fun | 9 => 9 | 4 => 4 | 3 => 3 | 5 => 5 | 117 => 150 | 116 => 149 | 0 => 0 | 124 => 153 | 21 => 21 | 105 => 206 | 46 => 92 | 119 => 240 | 139 => 261 | 138 => 260 | n => n, fun | 3 => 1 | 4 => 2 | n => n⟩
theorem Tryz.lays162 : Go.Proofs.Lays.n162 Tryz.prog Tryz.lays162_ren := {
  mixed := by kernel_rfl
  f119 := Tryz.func210.trans (congrArg some (by kernel_rfl))
  f120 := Tryz.func205.trans (congrArg some (by kernel_rfl))
  f137 := Tryz.func123.trans (congrArg some (by kernel_rfl))
  f151 := Tryz.func167.trans (congrArg some (by kernel_rfl))
  f152 := Tryz.func171.trans (congrArg some (by kernel_rfl))
  f162 := Tryz.func63.trans (congrArg some (by kernel_rfl))
  f197 := Tryz.func166.trans (congrArg some (by kernel_rfl))
  f217 := Tryz.func170.trans (congrArg some (by kernel_rfl))
  f224 := Tryz.func207.trans (congrArg some (by kernel_rfl))
  f225 := Tryz.func206.trans (congrArg some (by kernel_rfl))
  f227 := Tryz.func117.trans (congrArg some (by kernel_rfl))
  f228 := Tryz.func165.trans (congrArg some (by kernel_rfl))
  f232 := Tryz.func116.trans (congrArg some (by kernel_rfl))
  f234 := Tryz.func119.trans (congrArg some (by kernel_rfl))
  f236 := Tryz.func121.trans (congrArg some (by kernel_rfl))
  f260 := Tryz.func204.trans (congrArg some (by kernel_rfl))
  f266 := Tryz.func209.trans (congrArg some (by kernel_rfl))
  f271 := Tryz.func168.trans (congrArg some (by kernel_rfl))
  t0 := Tryz.underlying0
  a0 := Tryz.isAgg0
  z0 := Tryz.sizeOf0
  v0 := Tryz.zeroValue0
  t3 := Tryz.underlying3
  a3 := Tryz.isAgg3
  z3 := Tryz.sizeOf3
  v3 := Tryz.zeroValue3
  t4 := Tryz.underlying4
  a4 := Tryz.isAgg4
  z4 := Tryz.sizeOf4
  v4 := Tryz.zeroValue4
  t5 := Tryz.underlying5
  a5 := Tryz.isAgg5
  z5 := Tryz.sizeOf5
  v5 := Tryz.zeroValue5
  t9 := Tryz.underlying9
  a9 := Tryz.isAgg9
  z9 := Tryz.sizeOf9
  v9 := Tryz.zeroValue9
  t21 := Tryz.underlying21
  a21 := Tryz.isAgg21
  z21 := Tryz.sizeOf21
  v21 := Tryz.zeroValue21
  t46 := Tryz.underlying92
  a46 := Tryz.isAgg92
  z46 := Tryz.sizeOf92
  v46 := Tryz.zeroValue92
  t105 := Tryz.underlying206
  a105 := Tryz.isAgg206
  z105 := Tryz.sizeOf206
  v105 := Tryz.zeroValue206
  t116 := Tryz.underlying149
  a116 := Tryz.isAgg149
  z116 := Tryz.sizeOf149
  t117 := Tryz.underlying150
  a117 := Tryz.isAgg150
  z117 := Tryz.sizeOf150
  v117 := Tryz.zeroValue150
  t119 := Tryz.underlying240
  a119 := Tryz.isAgg240
  z119 := Tryz.sizeOf240
  t124 := Tryz.underlying153
  a124 := Tryz.isAgg153
  z124 := Tryz.sizeOf153
  v124 := Tryz.zeroValue153
  t138 := Tryz.underlying260
  a138 := Tryz.isAgg260
  z138 := Tryz.sizeOf260
  v138 := Tryz.zeroValue260
  t139 := Tryz.underlying261
  a139 := Tryz.isAgg261
  z139 := Tryz.sizeOf261
  v139 := Tryz.zeroValue261
  g3 := by kernel_rfl
  g4 := by kernel_rfl }
def Tryz.lays160_ren : Go.Shelf.Ren := ⟨fun | 160 => 61 | 232 => 116 | 231 => 115 | 227 => 117 | 234 => 119 | 233 => 118 | 236 => 121 | 235 => 120 | 228 => 165 | 271 => 168 | 151 => 167 | 197 => 166 | 120 => 205 | 152 => 171 | 260 => 204 | 137 => 123 | 119 => 210 | 224 => 207 | 225 => 206 | 217 => 170 | 266 => 209 | n => n, fun | 9 => 9 | 4 => 4 | 3 => 3 | 5 => 5 | 117 => 150 | 116 => 149 | 0 => 0 | 124 => 153 | 21 => 21 | 105 => 206 | 46 => 92 | 119 => 240 | 139 => 261 | 138 => 260 | n => n, fun | 3 => 1 | 4 => 2 | n => n⟩
theorem Tryz.lays160 : Go.Proofs.Lays.n160 Tryz.prog Tryz.lays160_ren := {
  mixed := by kernel_rfl
  f119 := Tryz.func210.trans (congrArg some (by kernel_rfl))
  f120 := Tryz.func205.trans (congrArg some (by kernel_rfl))
  f137 := Tryz.func123.trans (congrArg some (by kernel_rfl))
  f151 := Tryz.func167.trans (congrArg some (by kernel_rfl))
  f152 := Tryz.func171.trans (congrArg some (by kernel_rfl))
  f160 := Tryz.func61.trans (congrArg some (by kernel_rfl))
  f197 := Tryz.func166.trans (congrArg some (by kernel_rfl))
  f217 := Tryz.func170.trans (congrArg some (by kernel_rfl))
  f224 := Tryz.func207.trans (congrArg some (by kernel_rfl))
  f225 := Tryz.func206.trans (congrArg some (by kernel_rfl))
  f227 := Tryz.func117.trans (congrArg some (by kernel_rfl))
  f228 := Tryz.func165.trans (congrArg some (by kernel_rfl))
  f231 := Tryz.func115.trans (congrArg some (by kernel_rfl))
  f232 := Tryz.func116.trans (congrArg some (by kernel_rfl))
  f233 := Tryz.func118.trans (congrArg some (by kernel_rfl))
  f234 := Tryz.func119.trans (congrArg some (by kernel_rfl))
  f235 := Tryz.func120.trans (congrArg some (by kernel_rfl))
  f236 := Tryz.func121.trans (congrArg some (by kernel_rfl))
  f260 := Tryz.func204.trans (congrArg some (by kernel_rfl))
  f266 := Tryz.func209.trans (congrArg some (by kernel_rfl))
  f271 := Tryz.func168.trans (congrArg some (by kernel_rfl))
  t0 := Tryz.underlying0
  a0 := Tryz.isAgg0
  z0 := Tryz.sizeOf0
  v0 := Tryz.zeroValue0
  t3 := Tryz.underlying3
  a3 := Tryz.isAgg3
  z3 := Tryz.sizeOf3
  v3 := Tryz.zeroValue3
  t4 := Tryz.underlying4
  a4 := Tryz.isAgg4
  z4 := Tryz.sizeOf4
  v4 := Tryz.zeroValue4
  t5 := Tryz.underlying5
  a5 := Tryz.isAgg5
  z5 := Tryz.sizeOf5
  v5 := Tryz.zeroValue5
  t9 := Tryz.underlying9
  a9 := Tryz.isAgg9
  z9 := Tryz.sizeOf9
  v9 := Tryz.zeroValue9
  t21 := Tryz.underlying21
  a21 := Tryz.isAgg21
  z21 := Tryz.sizeOf21
  v21 := Tryz.zeroValue21
  t46 := Tryz.underlying92
  a46 := Tryz.isAgg92
  z46 := Tryz.sizeOf92
  v46 := Tryz.zeroValue92
  t105 := Tryz.underlying206
  a105 := Tryz.isAgg206
  z105 := Tryz.sizeOf206
  v105 := Tryz.zeroValue206
  t116 := Tryz.underlying149
  a116 := Tryz.isAgg149
  z116 := Tryz.sizeOf149
  t117 := Tryz.underlying150
  a117 := Tryz.isAgg150
  z117 := Tryz.sizeOf150
  v117 := Tryz.zeroValue150
  t119 := Tryz.underlying240
  a119 := Tryz.isAgg240
  z119 := Tryz.sizeOf240
  t124 := Tryz.underlying153
  a124 := Tryz.isAgg153
  z124 := Tryz.sizeOf153
  v124 := Tryz.zeroValue153
  t138 := Tryz.underlying260
  a138 := Tryz.isAgg260
  z138 := Tryz.sizeOf260
  v138 := Tryz.zeroValue260
  t139 := Tryz.underlying261
  a139 := Tryz.isAgg261
  z139 := Tryz.sizeOf261
  v139 := Tryz.zeroValue261
  g3 := by kernel_rfl
  g4 := by kernel_rfl }
def Tryz.lays119_ren : Go.Shelf.Ren := ⟨fun | 119 => 210 | n => n, fun | 21 => 21 | 4 => 4 | n => n, fun | n => n⟩
theorem Tryz.lays119 : Go.Proofs.Lays.n119 Tryz.prog Tryz.lays119_ren := {
  mixed := by kernel_rfl
  f119 := Tryz.func210.trans (congrArg some (by kernel_rfl))
  t4 := Tryz.underlying4
  a4 := Tryz.isAgg4
  z4 := Tryz.sizeOf4
  v4 := Tryz.zeroValue4
  t21 := Tryz.underlying21
  a21 := Tryz.isAgg21
  z21 := Tryz.sizeOf21
  v21 := Tryz.zeroValue21 }
theorem Tryz.utf8_ValidRune (r : Int) (w : World) :
    Calls Tryz.prog 210 #[.int .i32 r] w fun e w' => e = .returned (.bool (Lib.validRune r)) ∧ w' = w := Any.utf8_ValidRune Tryz.lays119 r w
def Tryz.lays137_ren : Go.Shelf.Ren := ⟨fun | 137 => 123 | 217 => 170 | 266 => 209 | n => n, fun | 9 => 9 | 5 => 5 | 3 => 3 | n => n, fun | n => n⟩
theorem Tryz.lays137 : Go.Proofs.Lays.n137 Tryz.prog Tryz.lays137_ren := {
  mixed := by kernel_rfl
  f137 := Tryz.func123.trans (congrArg some (by kernel_rfl))
  f217 := Tryz.func170.trans (congrArg some (by kernel_rfl))
  f266 := Tryz.func209.trans (congrArg some (by kernel_rfl))
  t3 := Tryz.underlying3
  a3 := Tryz.isAgg3
  z3 := Tryz.sizeOf3
  v3 := Tryz.zeroValue3
  t5 := Tryz.underlying5
  a5 := Tryz.isAgg5
  z5 := Tryz.sizeOf5
  v5 := Tryz.zeroValue5
  t9 := Tryz.underlying9
  a9 := Tryz.isAgg9
  z9 := Tryz.sizeOf9
  v9 := Tryz.zeroValue9 }
open Go.RowKit in
theorem Tryz.strings_IndexByte (s : ByteArray) (c : Int) (w : World) :
    Calls Tryz.prog 123 #[.string s, .int .u8 c] w fun e w' => e = .returned (.int .i64 (Lib.indexByte s.data.toList c.toNat.toUInt8)) ∧ w' = w := Any.strings_IndexByte Tryz.lays137 s c w
def Tryz.lays219_ren : Go.Shelf.Ren := ⟨fun | 219 => 169 | 217 => 170 | 225 => 206 | 224 => 207 | 267 => 208 | 266 => 209 | 314 => 235 | n => n, fun | 9 => 9 | 3 => 3 | 4 => 4 | 5 => 5 | 46 => 92 | 146 => 262 | 51 => 162 | n => n, fun | 1 => 0 | n => n⟩
theorem Tryz.lays219 : Go.Proofs.Lays.n219 Tryz.prog Tryz.lays219_ren := {
  mixed := by kernel_rfl
  f217 := Tryz.func170.trans (congrArg some (by kernel_rfl))
  f219 := Tryz.func169.trans (congrArg some (by kernel_rfl))
  f224 := Tryz.func207.trans (congrArg some (by kernel_rfl))
  f225 := Tryz.func206.trans (congrArg some (by kernel_rfl))
  f266 := Tryz.func209.trans (congrArg some (by kernel_rfl))
  f267 := Tryz.func208.trans (congrArg some (by kernel_rfl))
  f314 := Tryz.func235.trans (congrArg some (by kernel_rfl))
  t3 := Tryz.underlying3
  a3 := Tryz.isAgg3
  z3 := Tryz.sizeOf3
  v3 := Tryz.zeroValue3
  t4 := Tryz.underlying4
  a4 := Tryz.isAgg4
  z4 := Tryz.sizeOf4
  v4 := Tryz.zeroValue4
  t5 := Tryz.underlying5
  a5 := Tryz.isAgg5
  z5 := Tryz.sizeOf5
  v5 := Tryz.zeroValue5
  t9 := Tryz.underlying9
  a9 := Tryz.isAgg9
  z9 := Tryz.sizeOf9
  v9 := Tryz.zeroValue9
  t46 := Tryz.underlying92
  a46 := Tryz.isAgg92
  z46 := Tryz.sizeOf92
  v46 := Tryz.zeroValue92
  t51 := Tryz.underlying162
  a51 := Tryz.isAgg162
  z51 := Tryz.sizeOf162
  v51 := Tryz.zeroValue162
  t146 := Tryz.underlying262
  a146 := Tryz.isAgg262
  z146 := Tryz.sizeOf262
  v146 := Tryz.zeroValue262
  g1 := by kernel_rfl }
open Go.RowKit Go.Lib in
theorem Tryz.stringslite_Index_one (s : ByteArray) (c : UInt8) (w : World) :
    Calls Tryz.prog 169 #[.string s, .string ⟨#[c]⟩] w fun e w' => e = .returned (.int .i64 (Lib.indexByte s.data.toList c)) ∧ w' = w := Any.stringslite_Index_one Tryz.lays219 s c w
def Tryz.lays138_ren : Go.Shelf.Ren := ⟨fun | 138 => 202 | 195 => 233 | 218 => 234 | 143 => 203 | 219 => 169 | 217 => 170 | 225 => 206 | 224 => 207 | 267 => 208 | 266 => 209 | 314 => 235 | n => n, fun | 9 => 9 | 3 => 3 | 4 => 4 | 5 => 5 | 0 => 0 | 46 => 92 | 146 => 262 | 51 => 162 | n => n, fun | 1 => 0 | n => n⟩
theorem Tryz.lays138 : Go.Proofs.Lays.n138 Tryz.prog Tryz.lays138_ren := {
  mixed := by kernel_rfl
  f138 := Tryz.func202.trans (congrArg some (by kernel_rfl))
  f143 := Tryz.func203.trans (congrArg some (by kernel_rfl))
  f195 := Tryz.func233.trans (congrArg some (by kernel_rfl))
  f217 := Tryz.func170.trans (congrArg some (by kernel_rfl))
  f218 := Tryz.func234.trans (congrArg some (by kernel_rfl))
  f219 := Tryz.func169.trans (congrArg some (by kernel_rfl))
  f224 := Tryz.func207.trans (congrArg some (by kernel_rfl))
  f225 := Tryz.func206.trans (congrArg some (by kernel_rfl))
  f266 := Tryz.func209.trans (congrArg some (by kernel_rfl))
  f267 := Tryz.func208.trans (congrArg some (by kernel_rfl))
  f314 := Tryz.func235.trans (congrArg some (by kernel_rfl))
  t0 := Tryz.underlying0
  a0 := Tryz.isAgg0
  z0 := Tryz.sizeOf0
  v0 := Tryz.zeroValue0
  t3 := Tryz.underlying3
  a3 := Tryz.isAgg3
  z3 := Tryz.sizeOf3
  v3 := Tryz.zeroValue3
  t4 := Tryz.underlying4
  a4 := Tryz.isAgg4
  z4 := Tryz.sizeOf4
  v4 := Tryz.zeroValue4
  t5 := Tryz.underlying5
  a5 := Tryz.isAgg5
  z5 := Tryz.sizeOf5
  v5 := Tryz.zeroValue5
  t9 := Tryz.underlying9
  a9 := Tryz.isAgg9
  z9 := Tryz.sizeOf9
  v9 := Tryz.zeroValue9
  t46 := Tryz.underlying92
  a46 := Tryz.isAgg92
  z46 := Tryz.sizeOf92
  v46 := Tryz.zeroValue92
  t51 := Tryz.underlying162
  a51 := Tryz.isAgg162
  z51 := Tryz.sizeOf162
  v51 := Tryz.zeroValue162
  t146 := Tryz.underlying262
  a146 := Tryz.isAgg262
  z146 := Tryz.sizeOf262
  v146 := Tryz.zeroValue262
  g1 := by kernel_rfl }
open Go.RowKit Go.Lib in
theorem Tryz.strings_Count_one (s : ByteArray) (c : UInt8) (w : World) :
    Calls Tryz.prog 202 #[.string s, .string ⟨#[c]⟩] w fun e w' => e = .returned (.int .i64 (Lib.countByte s.data.toList c)) ∧ w' = w := Any.strings_Count_one Tryz.lays138 s c w
def Tryz.lays152_ren : Go.Shelf.Ren := ⟨fun | 152 => 171 | 137 => 123 | 119 => 210 | 224 => 207 | 225 => 206 | 217 => 170 | 266 => 209 | n => n, fun | 9 => 9 | 21 => 21 | 3 => 3 | 4 => 4 | 5 => 5 | 0 => 0 | 46 => 92 | n => n, fun | n => n⟩
theorem Tryz.lays152 : Go.Proofs.Lays.n152 Tryz.prog Tryz.lays152_ren := {
  mixed := by kernel_rfl
  f119 := Tryz.func210.trans (congrArg some (by kernel_rfl))
  f137 := Tryz.func123.trans (congrArg some (by kernel_rfl))
  f152 := Tryz.func171.trans (congrArg some (by kernel_rfl))
  f217 := Tryz.func170.trans (congrArg some (by kernel_rfl))
  f224 := Tryz.func207.trans (congrArg some (by kernel_rfl))
  f225 := Tryz.func206.trans (congrArg some (by kernel_rfl))
  f266 := Tryz.func209.trans (congrArg some (by kernel_rfl))
  t0 := Tryz.underlying0
  a0 := Tryz.isAgg0
  z0 := Tryz.sizeOf0
  v0 := Tryz.zeroValue0
  t3 := Tryz.underlying3
  a3 := Tryz.isAgg3
  z3 := Tryz.sizeOf3
  v3 := Tryz.zeroValue3
  t4 := Tryz.underlying4
  a4 := Tryz.isAgg4
  z4 := Tryz.sizeOf4
  v4 := Tryz.zeroValue4
  t5 := Tryz.underlying5
  a5 := Tryz.isAgg5
  z5 := Tryz.sizeOf5
  v5 := Tryz.zeroValue5
  t9 := Tryz.underlying9
  a9 := Tryz.isAgg9
  z9 := Tryz.sizeOf9
  v9 := Tryz.zeroValue9
  t21 := Tryz.underlying21
  a21 := Tryz.isAgg21
  z21 := Tryz.sizeOf21
  v21 := Tryz.zeroValue21
  t46 := Tryz.underlying92
  a46 := Tryz.isAgg92
  z46 := Tryz.sizeOf92
  v46 := Tryz.zeroValue92 }
open Go.RowKit Go.Lib in
theorem Tryz.strings_IndexRune_ascii (s : ByteArray) (r : Int) (w : World) (h0 : 0 ≤ r) (h1 : r < 128) :
    Calls Tryz.prog 171 #[.string s, .int .i32 r] w fun e w' => e = .returned (.int .i64 (Lib.indexByte s.data.toList r.toNat.toUInt8)) ∧ w' = w := Any.strings_IndexRune_ascii Tryz.lays152 s r w h0 h1
def Tryz.lays226_ren : Go.Shelf.Ren := ⟨fun | 226 => 172 | n => n, fun | 3 => 3 | 4 => 4 | n => n, fun | n => n⟩
theorem Tryz.lays226 : Go.Proofs.Lays.n226 Tryz.prog Tryz.lays226_ren := {
  mixed := by kernel_rfl
  f226 := Tryz.func172.trans (congrArg some (by kernel_rfl))
  t3 := Tryz.underlying3
  a3 := Tryz.isAgg3
  z3 := Tryz.sizeOf3
  v3 := Tryz.zeroValue3
  t4 := Tryz.underlying4
  a4 := Tryz.isAgg4
  z4 := Tryz.sizeOf4
  v4 := Tryz.zeroValue4 }
open Go.RowKit Go.Lib in
theorem Tryz.strings_shouldUseASCIISet (n : Int) (w : World) :
    Calls Tryz.prog 172 #[.int .i64 n] w fun e w' => e = .returned (.bool (decide (8 < n))) ∧ w' = w := Any.strings_shouldUseASCIISet Tryz.lays226 n w
def Tryz.lays153_ren : Go.Shelf.Ren := ⟨fun | 153 => 127 | 152 => 171 | 226 => 172 | 227 => 117 | 228 => 165 | 137 => 123 | 119 => 210 | 224 => 207 | 225 => 206 | 217 => 170 | 266 => 209 | n => n, fun | 9 => 9 | 3 => 3 | 4 => 4 | 5 => 5 | 21 => 21 | 117 => 150 | 116 => 149 | 0 => 0 | 46 => 92 | 124 => 153 | n => n, fun | n => n⟩
theorem Tryz.lays153 : Go.Proofs.Lays.n153 Tryz.prog Tryz.lays153_ren := {
  mixed := by kernel_rfl
  f119 := Tryz.func210.trans (congrArg some (by kernel_rfl))
  f137 := Tryz.func123.trans (congrArg some (by kernel_rfl))
  f152 := Tryz.func171.trans (congrArg some (by kernel_rfl))
  f153 := Tryz.func127.trans (congrArg some (by kernel_rfl))
  f217 := Tryz.func170.trans (congrArg some (by kernel_rfl))
  f224 := Tryz.func207.trans (congrArg some (by kernel_rfl))
  f225 := Tryz.func206.trans (congrArg some (by kernel_rfl))
  f226 := Tryz.func172.trans (congrArg some (by kernel_rfl))
  f227 := Tryz.func117.trans (congrArg some (by kernel_rfl))
  f228 := Tryz.func165.trans (congrArg some (by kernel_rfl))
  f266 := Tryz.func209.trans (congrArg some (by kernel_rfl))
  t0 := Tryz.underlying0
  a0 := Tryz.isAgg0
  z0 := Tryz.sizeOf0
  v0 := Tryz.zeroValue0
  t3 := Tryz.underlying3
  a3 := Tryz.isAgg3
  z3 := Tryz.sizeOf3
  v3 := Tryz.zeroValue3
  t4 := Tryz.underlying4
  a4 := Tryz.isAgg4
  z4 := Tryz.sizeOf4
  v4 := Tryz.zeroValue4
  t5 := Tryz.underlying5
  a5 := Tryz.isAgg5
  z5 := Tryz.sizeOf5
  v5 := Tryz.zeroValue5
  t9 := Tryz.underlying9
  a9 := Tryz.isAgg9
  z9 := Tryz.sizeOf9
  v9 := Tryz.zeroValue9
  t21 := Tryz.underlying21
  a21 := Tryz.isAgg21
  z21 := Tryz.sizeOf21
  v21 := Tryz.zeroValue21
  t46 := Tryz.underlying92
  a46 := Tryz.isAgg92
  z46 := Tryz.sizeOf92
  v46 := Tryz.zeroValue92
  t116 := Tryz.underlying149
  a116 := Tryz.isAgg149
  z116 := Tryz.sizeOf149
  t117 := Tryz.underlying150
  a117 := Tryz.isAgg150
  z117 := Tryz.sizeOf150
  v117 := Tryz.zeroValue150
  t124 := Tryz.underlying153
  a124 := Tryz.isAgg153
  z124 := Tryz.sizeOf153
  v124 := Tryz.zeroValue153 }
open Go.RowKit Go.Lib in
theorem Tryz.strings_IndexAny_long (hv116 : ∀ w, (zeroValue 149).run Tryz.prog w = .ok (.agg (Array.replicate 256 (.bool false))) w) (s chars : ByteArray) (w : World) (h2 : 2 ≤ chars.size) (h8 : 8 < s.size) (hs : s.size < 4294967281) (hcs : chars.size < 4294967281) (hascii : ∀ (j : Nat) b, chars.data.toList[j]? = some b → b.toNat < 128) :
    Calls Tryz.prog 127 #[.string s, .string chars] w fun e w' => e = .returned (.int .i64 (Lib.indexAny s.data.toList chars.data.toList)) ∧ w' = ((w.alloc (.cells (Lib.setCells chars.data.toList) 149)).alloc (.cells (Lib.setCells chars.data.toList) 149)) := Any.strings_IndexAny_long Tryz.lays153 hv116 (by kernel_rfl) s chars w h2 h8 hs hcs hascii
end Go.Proofs
namespace Go.Proofs.YteehjlciajhdoaaGreatDoor.X
set_option linter.unusedVariables false
set_option linter.unusedSimpArgs false
open Go.RowKit Go.Proofs.YteehjlciajhdoaaGreatDoorW.PrintWords Go.Proofs.YteehjlciajhdoaaGreatDoorW.PrintLast Go.Proofs.YteehjlciajhdoaaGreatDoorW.PrintMore
def repl (tab : UInt8 → Option (List UInt8)) (s : List UInt8) : List UInt8 := s.flatMap (fun c => (tab c).getD [c])
def gainB (tab : UInt8 → Option (List UInt8)) : List UInt8 → Int
  | [] => 0
  | c :: s => (((tab c).getD [c]).length : Int) - 1 + gainB tab s
def gainK : List (UInt8 × List UInt8) → List UInt8 → Int
  | [], _ => 0
  | p :: ps, s => (s.count p.1 : Int) * ((p.2.length : Int) - 1) + gainK ps s
theorem repl_cons (tab) (c : UInt8) (s) : repl tab (c :: s) = (tab c).getD [c] ++ repl tab s := rfl
theorem repl_append (tab) (s t) : repl tab (s ++ t) = repl tab s ++ repl tab t := List.flatMap_append
theorem gainB_append (tab) : ∀ s t, gainB tab (s ++ t) = gainB tab s + gainB tab t
  | [], t => by simp [gainB]
  | c :: s, t => by simp only [List.cons_append, gainB, gainB_append tab s t]; omega
theorem gainK_append : ∀ ps qs s, gainK (ps ++ qs) s = gainK ps s + gainK qs s
  | [], qs, s => by simp [gainK]
  | p :: ps, qs, s => by simp only [List.cons_append, gainK, gainK_append ps qs s]; omega
theorem gainK_reverse : ∀ ps s, gainK ps.reverse s = gainK ps s
  | [], s => rfl
  | p :: ps, s => by rw [List.reverse_cons, gainK_append, gainK_reverse ps s]; simp only [gainK]; omega
theorem repl_length (tab) : ∀ s, ((repl tab s).length : Int) = s.length + gainB tab s
  | [] => rfl
  | c :: s => by
    have := repl_length tab s
    simp only [repl_cons, List.length_append, List.length_cons, gainB]
    omega
theorem gainK_nil : ∀ ps, gainK ps [] = 0
  | [] => rfl
  | p :: ps => by simp [gainK, gainK_nil ps]
def hits : List (UInt8 × List UInt8) → UInt8 → Int
  | [], _ => 0
  | p :: ps, c => (if p.1 = c then (p.2.length : Int) - 1 else 0) + hits ps c
theorem gainK_cons (c : UInt8) (s : List UInt8) : ∀ ps, gainK ps (c :: s) = gainK ps s + hits ps c
  | [] => rfl
  | p :: ps => by
    simp only [gainK, hits, gainK_cons c s ps]
    by_cases h : p.1 = c
    · subst h
      rw [List.count_cons_self, if_pos rfl, Int.natCast_add, Int.add_mul]
      simp only [Int.natCast_one, Int.one_mul]
      omega
    · rw [List.count_cons_of_ne (Ne.symm h), if_neg h]
      omega
theorem hits_none (c : UInt8) : ∀ ps, c ∉ ps.map Prod.fst → hits ps c = 0
  | [], _ => rfl
  | p :: ps, h => by
    simp only [List.map_cons, List.mem_cons, not_or] at h
    simp [hits, Ne.symm h.1, hits_none c ps h.2]
theorem hits_eq (c : UInt8) : ∀ ps, (ps.map Prod.fst).Nodup → hits ps c = (((tabOf ps c).getD [c]).length : Int) - 1
  | [], _ => by simp [hits, tabOf]
  | p :: ps, h => by
    simp only [List.map_cons, List.nodup_cons] at h
    by_cases hc : p.1 = c
    · subst hc
      simp [hits, tabOf, hits_none p.1 ps h.1]
    · simp [hits, tabOf, hc, hits_eq c ps h.2]
theorem gainK_eq (ps) (h : (ps.map Prod.fst).Nodup) : ∀ s, gainK ps s = gainB (tabOf ps) s
  | [] => gainK_nil ps
  | c :: s => by rw [gainK_cons, hits_eq c ps h, gainK_eq ps h s]; simp only [gainB]; omega
theorem repl_none (tab) : ∀ s, (∀ c, c ∈ s → tab c = none) → repl tab s = s
  | [], _ => rfl
  | c :: s, h => by
    rw [repl_cons, h c List.mem_cons_self, repl_none tab s (fun d hd => h d (List.mem_cons_of_mem _ hd))]
    rfl
theorem tabOf_mem : ∀ ps (c : UInt8) (l), tabOf ps c = some l → (c, l) ∈ ps
  | p :: ps, c, l, h => by
    by_cases hc : p.1 = c
    · simp only [tabOf, if_pos hc, Option.some.injEq] at h
      rw [← hc, ← h]; exact List.mem_cons_self
    · simp only [tabOf, if_neg hc] at h
      exact List.mem_cons_of_mem _ (tabOf_mem ps c l h)
theorem tabOf_of : ∀ ps, (ps.map Prod.fst).Nodup → ∀ p ∈ ps, tabOf ps p.1 = some p.2
  | q :: ps, h, p, hp => by
    simp only [List.map_cons, List.nodup_cons] at h
    rcases List.mem_cons.1 hp with rfl | hp
    · simp [tabOf]
    · have : q.1 ≠ p.1 := fun e => h.1 (e ▸ List.mem_map_of_mem hp)
      simp only [tabOf, if_neg this]
      exact tabOf_of ps h.2 p hp
theorem gainB_le (tab) (N : Nat) (hN : ∀ c l, tab c = some l → l.length ≤ N) : ∀ s, gainB tab s ≤ s.length * N ∧ -(s.length : Int) ≤ gainB tab s
  | [] => by simp [gainB]
  | c :: s => by
    have ih := gainB_le tab N hN s
    have h1 : ((tab c).getD [c]).length ≤ N + 1 := by
      cases h : tab c with
      | none => simp
      | some l => have := hN c l h; simp; omega
    have h2 : (((s.length + 1 : Nat) : Int)) * (N : Int) = (s.length : Int) * N + N := by rw [Int.natCast_add, Int.add_mul]; simp
    simp only [gainB, List.length_cons]
    rw [h2]
    constructor <;> omega
theorem gainB_take_le (tab) (s : List UInt8) (i : Nat) : ((repl tab (s.take i)).length : Int) ≤ (repl tab s).length := by
  have : repl tab s = repl tab (s.take i) ++ repl tab (s.drop i) := by rw [← repl_append, List.take_append_drop]
  rw [this, List.length_append]; omega
theorem term_bound (a b : Int) (h0 : 0 ≤ a) (h1 : a ≤ 1000000000) (h2 : -1 ≤ b) (h3 : b ≤ 1000) : -1000000000000 ≤ a * b ∧ a * b ≤ 1000000000000 := by
  have e1 := Int.mul_le_mul_of_nonneg_left h3 h0
  have e2 := Int.mul_le_mul_of_nonneg_left h2 h0
  constructor <;> omega
theorem gainK_bound (s : List UInt8) (hs : s.length ≤ 1000000000) : ∀ qs : List (UInt8 × List UInt8), (∀ p, p ∈ qs → p.2.length ≤ 1000) → -(1000000000000 * (qs.length : Int)) ≤ gainK qs s ∧ gainK qs s ≤ 1000000000000 * (qs.length : Int)
  | [], _ => by simp [gainK]
  | p :: qs, h => by
    have ih := gainK_bound s hs qs (fun q hq => h q (List.mem_cons_of_mem _ hq))
    have hp := h p List.mem_cons_self
    have hc : s.count p.1 ≤ s.length := List.count_le_length
    have := term_bound (s.count p.1 : Int) ((p.2.length : Int) - 1) (by omega) (by omega) (by omega) (by omega)
    simp only [gainK, List.length_cons]
    constructor <;> omega
def bvals (l : List UInt8) : List Value := l.map (fun b => Value.int .u8 (b.toNat : Int))
def BufP (W : World) (gb n : Nat) (l : List UInt8) : Prop := ∃ cur : List Value, cur.length = n ∧ W.heap[gb]? = some (.cells cur.toArray 5 (0, 0)) ∧ cur.take l.length = bvals l
theorem bvals_length (l : List UInt8) : (bvals l).length = l.length := by simp [bvals]
theorem BufP.push {W : World} {gb n : Nat} {l : List UInt8} (h : BufP W gb n l) (c : UInt8) (hl : l.length < n) : BufP (W.setCell ⟨gb, l.length, none⟩ (.int .u8 (c.toNat : Int))) gb n (l ++ [c]) := by
  obtain ⟨cur, h1, h2, h3⟩ := h
  refine ⟨cur.set l.length (.int .u8 (c.toNat : Int)), by simp [h1], ?_, ?_⟩
  · rw [heap_setCell_same W gb l.length cur.toArray _ _ h2]
    simp
  · rw [List.length_append, List.length_singleton, List.take_set, List.take_succ_eq_append_getElem (by omega), h3]
    simp [bvals, List.set_append]
theorem BufP.splice {W1 : World} {gb n : Nat} {l : List UInt8} {cur : List Value} (h1 : cur.length = n) (h3 : cur.take l.length = bvals l) (c : List UInt8) (hl : l.length + c.length ≤ n)
    (h : W1.heap[gb]? = some (.cells (splice cur l.length (bvals c)).toArray 5 (0, 0))) : BufP W1 gb n (l ++ c) := by
  refine ⟨_, ?_, h, ?_⟩
  · rw [length_splice _ _ _ (by rw [bvals_length]; omega)]; exact h1
  · unfold Go.splice
    rw [← List.append_assoc, h3, List.length_append, List.take_append_of_le_length (by simp [bvals_length]), List.take_of_length_le (by simp [bvals_length])]
    simp [bvals]
theorem add_none (b j : Nat) : (⟨b, 0, none⟩ : Addr).add j = ⟨b, j, none⟩ := by unfold Addr.add; split <;> simp_all
theorem make_u8 (n : Nat) (hn : n ≤ 140737488355328) (W : World) : (Instr.makeSlice 84 (.int .i64 (n : Int)) (.int .i64 (n : Int))).run Tryz.prog W = .ok (.slice (some ⟨W.heap.size, 0, none⟩) n n) (W.alloc (.cells (List.replicate n (Value.int .u8 0)).toArray 5)) := by
  have h : (Tryz.prog.info? 5).map (fun i => (i.zero, i.size, i.bytes)) = some (some (.int .u8 0), 1, 1) := by kernel_rfl
  obtain ⟨i, hi, hz⟩ := Option.map_eq_some_iff.1 h
  simp only [Prod.mk.injEq] at hz
  obtain ⟨h1, h2, h3⟩ := hz
  have hr := run_make (P := Tryz.prog) W 84 5 i _ Tryz.underlying84 hi h1 .i64 .i64 (n : Int) (n : Int) (by omega) (Int.le_refl _) (by rw [h3]; omega) (by omega)
  rw [hr]
  have e : madeCells (Value.int .u8 0).cells (n * 1) = (List.replicate n (Value.int .u8 0)).toArray := by
    rw [← toList_madeCells_one, Nat.mul_one]
    rfl
  rw [Int.toNat_natCast, h2, e]
set_option maxRecDepth 100000 in
set_option maxHeartbeats 3200000 in
theorem replB_calls (ps : List (UInt8 × List UInt8)) (hok : TabOk ps) (s : List UInt8) (hs : s.length ≤ 1000000000) (g lo : Nat) (v : Value) (w : World) (hB : Bst w g lo (tabOf ps) v) (hK : Kd.R Kd.string 9 w lo (fun k => k ≠ g) v (keysR ps)) :
    Calls Tryz.prog 312 #[.pointer (some ⟨g, 0, none⟩), .string (B s)] w fun e w' => e = .returned (.string (B (repl (tabOf ps) s))) ∧ Below w.heap.size w w' := by
  have HOK := Aside0.mk hok
  have HB := Aside0.mk hB
  obtain ⟨A1, c1, rfl, hcl, hC⟩ := Kd.R_reads hK
  have HC := Aside0.mk hC
  obtain ⟨cs, hcs, hcb, hcv, hcg, hlo, hct⟩ := hB
  have hc256 : w.cell? ⟨g, 256, none⟩ = some (.slice A1 (keysR ps).length c1) := (cell_of_row w _ _ cs _ _ hcb).trans hcv
  have hrow : ∀ c l, tabOf ps c = some l → ∃ k cap, w.cell? ⟨g, c.toNat, none⟩ = some (.slice (some ⟨k, 0, none⟩) l.length cap) ∧ l.length ≤ cap ∧ BlkB w k 5 (bytesOf (B l)) := by
    intro c l h
    have h1 := hct c
    rw [h] at h1
    obtain ⟨k, cap, h2, h3, -, -, -, h4⟩ := h1
    exact ⟨k, cap, (cell_of_row w _ _ cs _ _ hcb).trans h2, h3, h4⟩
  have hrow0 : ∀ c, tabOf ps c = none → w.cell? ⟨g, c.toNat, none⟩ = some (.slice none 0 0) := by
    intro c h
    have h1 := hct c
    rw [h] at h1
    exact (cell_of_row w _ _ cs _ _ hcb).trans h1
  have HR := Aside0.mk hrow
  have HR0 := Aside0.mk hrow0
  have hkl : (keysR ps).length = ps.length := by simp [keysR]
  have HKL := Aside0.mk hkl
  have hps := hok.le
  have hsb : ((B s).size : Int) = (s.length : Int) := by rw [size_B]
  clear hcb hct hcv hcg hcs hrow hrow0 hok hK hC hlo hkl
  have hm8 : wrap64 (((keysR ps).length : Int) * 8) = ((keysR ps).length : Int) * 8 := w64 (by omega) (by have := HKL.out; omega)
  go_enter Tryz.func312, Tryz.ntmps312
  go_upto_if 26 with fail
  go_cut [5, 6] (fun s5 s6 wx => ∃ (x : Int) (any : Bool), s5 = .int .i64 x ∧ s6 = .bool any ∧ Aside0 (x = ((repl (tabOf ps) s).length : Int)) ∧ Aside0 (any = false → repl (tabOf ps) s = s) ∧ Drawn0 w wx)
  case first =>
    generalize decide (((keysR ps).length : Int) * 8 ≤ (s.length : Int)) = bb
    clear hm8
    cases bb with
    | true =>
      go_wp2_with fail
      go_loopg [5, 6, 32] ps.length (fun k s5 s6 s32 wx => ∃ (x y : Int) (any : Bool) (i : Nat), s5 = .int .i64 x ∧ s6 = .bool any ∧ s32 = .int .i64 y ∧ Aside0 (y = (i : Int)) ∧ Aside0 (x = (s.length : Int) + gainK (ps.reverse.take i) s) ∧ Aside0 (any = (ps.reverse.take i).any (fun p => s.count p.1 != 0)) ∧ Aside0 (i + k = ps.length) ∧ Drawn0 w wx)
      case atStart => exact ⟨(s.length : Int), 0, false, 0, by first | rfl | (simp [*]; done), rfl, rfl, ⟨rfl⟩, ⟨by simp [gainK]⟩, ⟨rfl⟩, ⟨by omega⟩, by repeat (first | exact Drawn0.refl _ | apply Drawn0.step)⟩
      case round =>
        obtain ⟨x, y, any, i, rfl, rfl, rfl, HY, HX, HA, HI, ⟨m1, rfl⟩⟩ := hrel
        have hkl := HKL.out
        have hy := HY.out
        have hi := HI.out
        cases gk with
        | zero =>
          have ti : (y < ((keysR ps).length : Int)) = False := eq_false (by omega)
          clear hkl hy hi
          go_wp2_with fail
          go_meet
          case rel =>
            have hi := HI.out
            have htk : ps.reverse.take i = ps.reverse := List.take_of_length_le (by simp; omega)
            refine ⟨_, _, rfl, rfl, ⟨?_⟩, ⟨?_⟩, by repeat (first | exact Drawn0.refl _ | apply Drawn0.step)⟩
            · rw [HX.out, htk, gainK_reverse, gainK_eq ps HOK.out.nodup, repl_length]
            · intro h0
              rw [HA.out, htk] at h0
              refine repl_none _ s (fun c hc => ?_)
              cases h1 : tabOf ps c with
              | none => rfl
              | some l =>
                have h2 := tabOf_mem ps c l h1
                have h3 := List.any_eq_false.1 h0 (c, l) (by simpa using h2)
                have h4 := List.count_pos_iff.2 hc
                simp at h3
                exact absurd hc (List.count_eq_zero.1 h3)
        | succ k1 =>
          have ti : (y < ((keysR ps).length : Int)) = True := eq_true (by omega)
          have t0 : (0 ≤ y) = True := eq_true (by omega)
          obtain ⟨p, hp⟩ : ∃ p, ps.reverse[i]? = some p := ⟨_, List.getElem?_eq_getElem (by simp; omega)⟩
          have hpm : p ∈ ps := by
            have := List.mem_of_getElem? hp
            simpa using this
          obtain ⟨ad1, e1, hx1⟩ := Kd.at_string HC.out y (by omega) (by omega)
          cases e1
          have hrd : rdOf ByteArray.empty (keysR ps) y = B [p.1] := by
            rw [hy]
            simp only [rdOf, Int.toNat_natCast, List.getD_eq_getElem?_getD, keysR, ← List.map_reverse, List.getElem?_map, hp, Option.map_some, Option.getD_some]
          rw [hrd] at hx1
          have hcnt : (Lib.countByte (B s).data.toList p.1 : Int) = (s.count p.1 : Int) := rfl
          obtain ⟨k, cap, hrw, -, -⟩ := HR.out p.1 p.2 (tabOf_of ps HOK.out.nodup p hpm)
          have htk : ps.reverse.take (i + 1) = ps.reverse.take i ++ [p] := by
            obtain ⟨hi2, he⟩ := List.getElem?_eq_some_iff.1 hp
            rw [List.take_succ_eq_append_getElem hi2, he]
          have HTK := Aside0.mk htk
          have hcl : s.count p.1 ≤ s.length := List.count_le_length
          have hpl := HOK.out.small p hpm
          clear hkl hy hi hp hrd htk
          by_cases hz : s.count p.1 = 0
          · have hz1 : ((s.count p.1 : Int) == 0) = true := by simp [hz]
            have hz2 : ((s.count p.1 : Int) != 0) = false := by simp [hz]
            have hz3 : ((s.count p.1 : Int) = 0) := by simp [hz]
            go_wp2_with (go_at_call 202; refine (Tryz.strings_Count_one (B s) p.1 _).mono ?_; rintro e w' ⟨he, rfl⟩; rw [hcnt] at he; subst he)
            have hi := HI.out
            have hy := HY.out
            go_roundg k1
            case measure => omega
            case rel =>
              refine ⟨_, _, any, i + 1, rfl, rfl, rfl, ⟨by rw [w64 (by omega) (by omega)]; omega⟩, ⟨?_⟩, ⟨?_⟩, ⟨by omega⟩, by repeat (first | exact Drawn0.refl _ | apply Drawn0.step)⟩
              · rw [HX.out, HTK.out, gainK_append]; simp [gainK, hz]
              · rw [HA.out, HTK.out, List.any_append]; simp [hz]
          · have hz3 : ¬ ((s.count p.1 : Int) = 0) := by omega
            have hz1 : ((s.count p.1 : Int) == 0) = false := beq_eq_false_iff_ne.mpr hz3
            have hz2 : ((s.count p.1 : Int) != 0) = true := bne_iff_ne.mpr hz3
            go_upto_region 9 with (go_at_call 202; refine (Tryz.strings_Count_one (B s) p.1 _).mono ?_; rintro e w' ⟨he, rfl⟩; rw [hcnt] at he; subst he)
            have hi0 : ∀ h, (B [p.1])[0]'h = p.1 := fun _ => rfl
            have hs1 : ((B [p.1]).size : Int) = 1 := rfl
            have t5 : ((p.1.toNat : Int) < 256) = True := eq_true (by have := u8_ltn p.1; omega)
            have t6 : (256 ≤ (p.1.toNat : Int)) = False := eq_false (by have := u8_ltn p.1; omega)
            have hk1 := gainK_bound s hs (ps.reverse.take i) (fun q hq => HOK.out.small q (by simpa using List.mem_of_mem_take hq))
            have hkl : (ps.reverse.take i).length ≤ 1000 := by simp; omega
            have hx := HX.out
            have ht := term_bound (s.count p.1 : Int) ((p.2.length : Int) - 1) (by omega) (by omega) (by omega) (by omega)
            have HW := Aside0.mk (p := wrap64 (x + wrap64 ((s.count p.1 : Int) * ((p.2.length : Int) - 1))) = x + (s.count p.1 : Int) * ((p.2.length : Int) - 1)) (by
              rw [w64 (i := (s.count p.1 : Int) * ((p.2.length : Int) - 1)) (by omega) (by omega), w64 (by omega) (by omega)])
            clear hk1 hkl hx ht
            go_quiet (fail)
            go_wp2_with fail
            have hi := HI.out
            have hy := HY.out
            go_roundg k1
            case measure => omega
            case rel =>
              refine ⟨_, _, true, i + 1, rfl, rfl, rfl, ⟨by rw [w64 (by omega) (by omega)]; omega⟩, ⟨?_⟩, ⟨?_⟩, ⟨by omega⟩, by repeat (first | exact Drawn0.refl _ | apply Drawn0.step)⟩
              · rw [HW.out, HX.out, HTK.out, gainK_append]; simp only [gainK]; omega
              · rw [HTK.out, List.any_append]; simp; right; exact hz
    | false =>
      go_wp2_with fail
      go_loopg [5, 6, 10] s.length (fun k s5 s6 s10 wx => ∃ (x y : Int) (any : Bool) (i : Nat), s5 = .int .i64 x ∧ s6 = .bool any ∧ s10 = .int .i64 y ∧ Aside0 (y = (i : Int)) ∧ Aside0 (x = (s.length : Int) + gainB (tabOf ps) (s.take i)) ∧ Aside0 (any = (s.take i).any (fun c => (tabOf ps c).isSome)) ∧ Aside0 (i + k = s.length) ∧ Drawn0 w wx)
      case atStart => exact ⟨(s.length : Int), 0, false, 0, by first | rfl | (simp [*]; done), rfl, rfl, ⟨rfl⟩, ⟨by simp [gainB]⟩, ⟨rfl⟩, ⟨by omega⟩, by repeat (first | exact Drawn0.refl _ | apply Drawn0.step)⟩
      case round =>
        obtain ⟨x, y, any, i, rfl, rfl, rfl, HY, HX, HA, HI, ⟨m1, rfl⟩⟩ := hrel
        have hy := HY.out
        have hi := HI.out
        cases gk with
        | zero =>
          have ti : (y < (s.length : Int)) = False := eq_false (by omega)
          clear hy hi
          go_wp2_with fail
          go_meet
          case rel =>
            have hi := HI.out
            have htk : s.take i = s := List.take_of_length_le (by omega)
            refine ⟨_, _, rfl, rfl, ⟨?_⟩, ⟨?_⟩, by repeat (first | exact Drawn0.refl _ | apply Drawn0.step)⟩
            · rw [HX.out, htk, repl_length]
            · intro h0
              rw [HA.out, htk] at h0
              refine repl_none _ s (fun c hc => ?_)
              have h3 := List.any_eq_false.1 h0 c hc
              cases h1 : tabOf ps c with
              | none => rfl
              | some l => rw [h1] at h3; simp at h3
        | succ k1 =>
          have ti : (y < (s.length : Int)) = True := eq_true (by omega)
          have t0 : (0 ≤ y) = True := eq_true (by omega)
          obtain ⟨c, hc⟩ : ∃ c, s[i]? = some c := ⟨_, List.getElem?_eq_getElem (by omega)⟩
          have htk : s.take (i + 1) = s.take i ++ [c] := by
            obtain ⟨hi2, he⟩ := List.getElem?_eq_some_iff.1 hc
            rw [List.take_succ_eq_append_getElem hi2, he]
          have HTK := Aside0.mk htk
          have hyn : y.toNat = i := by omega
          have hix : ∀ h, (B s)[y.toNat]'h = c := by
            intro h
            obtain ⟨hi2, he⟩ := List.getElem?_eq_some_iff.1 hc
            simp only [hyn]
            exact he
          have t5 : ((c.toNat : Int) < 256) = True := eq_true (by have := u8_ltn c; omega)
          have t6 : (256 ≤ (c.toNat : Int)) = False := eq_false (by have := u8_ltn c; omega)
          have hy2 := Aside0.mk (p := wrap64 (y + 1) = ((i + 1 : Nat) : Int)) (by rw [w64 (by omega) (by omega)]; omega)
          have ht1 := gainB_le (tabOf ps) 1000 (fun c l h => HOK.out.small _ (tabOf_mem ps c l h)) (s.take i)
          have htl : (s.take i).length ≤ 1000000000 := by simp; omega
          clear hy hi htk hyn
          cases hcc : tabOf ps c with
          | none =>
            have hrw := HR0.out c hcc
            have hnq := nil_neq
            clear ht1 htl
            go_wp2_with fail
            have hi := HI.out
            go_roundg k1
            case measure => omega
            case rel =>
              refine ⟨_, _, any, i + 1, rfl, rfl, rfl, hy2, ⟨?_⟩, ⟨?_⟩, ⟨by omega⟩, by repeat (first | exact Drawn0.refl _ | apply Drawn0.step)⟩
              · rw [HX.out, HTK.out, gainB_append]; simp [gainB, hcc]
              · rw [HA.out, HTK.out, List.any_append]; simp [hcc]
          | some l =>
            obtain ⟨k, cap, hrw, -, -⟩ := HR.out c l hcc
            have hnq := some_neq
            have hl : l.length ≤ 1000 := HOK.out.small _ (tabOf_mem ps c l hcc)
            have hx := HX.out
            have HW := Aside0.mk (p := wrap64 (x + wrap64 ((l.length : Int) - 1)) = x + ((l.length : Int) - 1)) (by rw [w64 (i := (l.length : Int) - 1) (by omega) (by omega), w64 (by omega) (by omega)])
            clear ht1 htl hl hx
            go_wp2_with fail
            have hi := HI.out
            go_roundg k1
            case measure => omega
            case rel =>
              refine ⟨_, _, true, i + 1, rfl, rfl, rfl, hy2, ⟨?_⟩, ⟨?_⟩, ⟨by omega⟩, by repeat (first | exact Drawn0.refl _ | apply Drawn0.step)⟩
              · rw [HW.out, HX.out, HTK.out, gainB_append]; simp [gainB, hcc]; omega
              · rw [HTK.out, List.any_append]; simp [hcc]
  case rest =>
    obtain ⟨x, any, rfl, rfl, HX, HA, ⟨m1, rfl⟩⟩ := hcut
    clear hm8
    cases any with
    | false =>
      go_wp2
      go_ret
      exact ⟨by rw [HA.out (by first | rfl | trivial)]; rfl, by repeat (first | exact Below.refl _ _ | apply pw_below_drewN)⟩
    | true =>
      have hrl := repl_length (tabOf ps) s
      have hgl := gainB_le (tabOf ps) 1000 (fun c l h => HOK.out.small _ (tabOf_mem ps c l h)) s
      obtain ⟨n, hn⟩ : ∃ n, n = (repl (tabOf ps) s).length := ⟨_, rfl⟩
      obtain rfl : x = (n : Int) := by rw [hn]; exact HX.out
      have hnl : n ≤ 140737488355328 := by omega
      have HN := Aside0.mk hn
      have hmk := make_u8 n hnl
      clear hrl hgl hn HX HA
      go_wp2
      clear hmk
      go_loopg [13, 14] s.length (fun k s13 s14 wx => ∃ (x y : Int) (i : Nat), s13 = .int .i64 x ∧ s14 = .int .i64 y ∧ Aside0 (y = (i : Int)) ∧ Aside0 (x = ((repl (tabOf ps) (s.take i)).length : Int)) ∧ Aside0 (i + k = s.length) ∧ Aside0 (BufP wx w.heap.size n (repl (tabOf ps) (s.take i))) ∧ Aside0 (Below w.heap.size w wx))
      case atStart => exact ⟨0, 0, 0, rfl, rfl, ⟨rfl⟩, ⟨rfl⟩, ⟨by omega⟩, ⟨⟨_, by simp, blk_new (w.drewN m1) _, by simp [repl, bvals]⟩⟩, ⟨below_alloc (pw_below_drewN (Below.refl _ _) m1) _⟩⟩
      case round =>
        obtain ⟨x, y, i, rfl, rfl, HY, HX, HI, HP, HW⟩ := hrel
        have hy := HY.out
        have hi := HI.out
        cases gk with
        | zero =>
          have ti : (y < (s.length : Int)) = False := eq_false (by omega)
          have htk : s.take i = s := List.take_of_length_le (by omega)
          rw [htk] at HP
          have hcv : (convert 84 9 (.slice (some ⟨w.heap.size, 0, none⟩) n n)).run Tryz.prog wr = .ok (.string (B (repl (tabOf ps) s))) wr := by
            obtain ⟨cur, h1, h2, h3⟩ := HP.out
            have := run_convert_bytes_back (P := Tryz.prog) wr 84 9 5 ⟨w.heap.size, 0, none⟩ n (repl (tabOf ps) s) Tryz.underlying84 Tryz.underlying5 Tryz.underlying9 (fun j hj => by
              rw [add_none, blk_cell h2]
              have h4 : (cur.take (repl (tabOf ps) s).length)[j]? = some (.int .u8 (((repl (tabOf ps) s)[j]'hj).toNat : Int)) := by
                rw [h3]; simp [bvals, List.getElem?_eq_getElem hj]
              rw [List.getElem?_take, if_pos hj] at h4
              simpa using h4)
            rw [← HN.out] at this
            exact this
          clear hy hi
          go_wp2
          go_ret
          exact ⟨rfl, HW.out⟩
        | succ k1 =>
          have ti : (y < (s.length : Int)) = True := eq_true (by omega)
          have t0 : (0 ≤ y) = True := eq_true (by omega)
          obtain ⟨c, hc⟩ : ∃ c, s[i]? = some c := ⟨_, List.getElem?_eq_getElem (by omega)⟩
          have htk : s.take (i + 1) = s.take i ++ [c] := by
            obtain ⟨hi2, he⟩ := List.getElem?_eq_some_iff.1 hc
            rw [List.take_succ_eq_append_getElem hi2, he]
          have HTK := Aside0.mk htk
          have hyn : y.toNat = i := by omega
          have hix : ∀ h, (B s)[y.toNat]'h = c := by
            intro h
            obtain ⟨hi2, he⟩ := List.getElem?_eq_some_iff.1 hc
            simp only [hyn]
            exact he
          have t5 : ((c.toNat : Int) < 256) = True := eq_true (by have := u8_ltn c; omega)
          have t6 : (256 ≤ (c.toNat : Int)) = False := eq_false (by have := u8_ltn c; omega)
          have hy2 := Aside0.mk (p := wrap64 (y + 1) = ((i + 1 : Nat) : Int)) (by rw [w64 (by omega) (by omega)]; omega)
          have hrt := gainB_take_le (tabOf ps) s (i + 1)
          rw [htk, repl_append, ← HN.out] at hrt
          have hx := HX.out
          clear hy hi htk hyn
          have hmv : ∀ a : Addr, a.block < w.heap.size → wr.cell? a = w.cell? a := fun a ha => HW.out.cell ha
          have hglt := HB.out.lt
          cases hcc : tabOf ps c with
          | none =>
            have hrw := (hmv _ hglt).trans (HR0.out c hcc)
            have hnq := nil_neq
            have hrc : repl (tabOf ps) [c] = [c] := by simp [repl, hcc]
            rw [hrc, List.length_append, List.length_singleton] at hrt
            have tx0 : (0 ≤ x) = True := eq_true (by omega)
            have tx1 : (x < (n : Int)) = True := eq_true (by omega)
            have hxn : x.toNat = (repl (tabOf ps) (s.take i)).length := by omega
            have hcell : ∃ u, wr.cell? ⟨w.heap.size, x.toNat, none⟩ = some u := by
              obtain ⟨cur, h1, h2, h3⟩ := HP.out
              exact ⟨cur[x.toNat]'(by omega), by rw [blk_cell h2]; simp⟩
            have hfr : wr.frozen? ⟨w.heap.size, x.toNat, none⟩ = false := by
              obtain ⟨cur, h1, h2, h3⟩ := HP.out
              exact blk_frozen h2 _
            obtain ⟨u, hcell⟩ := hcell
            have hp2 := HP.out.push c (by omega)
            rw [← hxn, ← hrc, ← repl_append, ← HTK.out] at hp2
            have HP2 := Aside0.mk hp2
            have HX2 := Aside0.mk (p := wrap64 (x + 1) = ((repl (tabOf ps) (s.take (i + 1))).length : Int)) (by rw [HTK.out, repl_append, hrc, List.length_append, List.length_singleton, w64 (by omega) (by omega)]; omega)
            clear hrc hrt hx hxn hp2 hmv
            go_wp2_with fail
            have hi := HI.out
            go_roundg k1
            case measure => omega
            case rel => exact ⟨_, _, i + 1, rfl, rfl, hy2, HX2, ⟨by omega⟩, HP2, ⟨HW.out.setCell (by simp) _⟩⟩
          | some l =>
            obtain ⟨k, cap, hrw, hlc, hblk⟩ := HR.out c l hcc
            have hrw := (hmv _ hglt).trans hrw
            have hnq := some_neq
            have hl : l.length ≤ 1000 := HOK.out.small _ (tabOf_mem ps c l hcc)
            have hrc : repl (tabOf ps) [c] = l := by simp [repl, hcc]
            rw [hrc, List.length_append] at hrt
            obtain ⟨J, hJ⟩ : ∃ J, J = (repl (tabOf ps) (s.take i)).length := ⟨_, rfl⟩
            rw [← hJ] at hrt hx
            subst hx
            have tJ : (J ≤ n) = True := eq_true (by omega)
            obtain ⟨dp, hdp⟩ : ∃ dp, (if n = J then some (⟨w.heap.size, 0, none⟩ : Addr) else some ⟨w.heap.size, J, none⟩) = dp := ⟨_, rfl⟩
            have HDP := Aside0.mk (p := 0 < (bvals l).length → dp = some ⟨w.heap.size, J, none⟩) (fun h => by rw [bvals_length] at h; rw [← hdp, if_neg (by omega)])
            obtain ⟨cur, hcur1, hcur2, hcur3⟩ := HP.out
            have HC1 := Aside0.mk hcur1
            have HC2 := Aside0.mk hcur2
            have HC3 := Aside0.mk hcur3
            have HSRC := Aside0.mk (p := ∀ j v, (bvals l)[j]? = some v → wr.drew.cell? ((⟨k, 0, none⟩ : Addr).add j) = some v) (fun j v hj => by
              have hjl : j < l.length := by
                have := (List.getElem?_eq_some_iff.1 hj).1
                rw [bvals_length] at this; exact this
              have hk : k < w.heap.size := by
                obtain ⟨cc, hi, h7, h8⟩ := hblk
                exact (Array.getElem?_eq_some_iff.1 h7).1
              have h1 := hblk.cell j (by rw [bytesOf_length, size_B]; exact hjl)
              rw [add_none]
              refine (hmv ⟨k, j, none⟩ hk).trans (h1.trans ?_)
              rw [← hj]
              simp [bvals, bytesOf, B, List.getD_eq_getElem?_getD, List.getElem?_eq_getElem hjl])
            have HLE := Aside0.mk (p := J + l.length ≤ n) (by omega)
            have HJ := Aside0.mk hJ
            have HRC := Aside0.mk hrc
            have HNJ := Aside0.mk (p := (bvals l).length = Nat.min l.length (n - J)) (by rw [bvals_length]; simp only [Nat.min_def]; split <;> omega)
            have HX2 := Aside0.mk (p := wrap64 ((J : Int) + ((bvals l).length : Int)) = ((repl (tabOf ps) (s.take (i + 1))).length : Int)) (by rw [HTK.out, repl_append, hrc, List.length_append, ← hJ, bvals_length, w64 (by omega) (by omega)]; omega)
            have hszu : (Tryz.prog.info? 5).map (·.size) = some 1 := by kernel_rfl
            have HSZU := Aside0.mk hszu
            clear hmv hblk hrt hcur1 hcur2 hcur3 hJ hrc hszu
            go_upto_region 28 with fail
            go_region_law (refine step_copy_splice rfl (.tmp 105) (.tmp 111) 84 84 rfl 5 Tryz.underlying84 HSZU.out dp (some ⟨k, 0, none⟩) (n - J) (n - J) l.length cap rfl rfl w.heap.size J cur 5 HC2.out (bvals l) HNJ.out (fun h => ⟨HDP.out h, _, rfl, HSRC.out⟩) (by rw [bvals_length, HC1.out]; exact HLE.out) (by simp [bvals, Value.oneCell']) w.heap.size w (below_drew HW.out) (Nat.le_refl _) ?_; intro w4 hg4 hb4)
            have HB4 := Aside0.mk hb4
            have HP4 := Aside0.mk (BufP.splice (l := repl (tabOf ps) (s.take i)) (n := n) (c := l) HC1.out HC3.out (by rw [← HJ.out]; exact HLE.out) (by rw [← HJ.out]; exact hg4.out))
            rw [← HRC.out, ← repl_append, ← HTK.out] at HP4
            clear hb4 hg4
            go_wp2_with fail
            have hi := HI.out
            go_roundg k1
            case measure => omega
            case rel => exact ⟨_, _, i + 1, rfl, rfl, hy2, HX2, ⟨by omega⟩, HP4, HB4⟩
end Go.Proofs.YteehjlciajhdoaaGreatDoor.X
namespace Go.Proofs.YteehjlciajhdoaaGreatDoor.X
set_option linter.unusedVariables false
set_option linter.unusedSimpArgs false
open Go.RowKit Go.Proofs.YteehjlciajhdoaaGreatDoorW.PrintWords Go.Proofs.YteehjlciajhdoaaGreatDoorW.PrintLast Go.Proofs.YteehjlciajhdoaaGreatDoorW.PrintMore
structure Fresh (w : World) (b : Nat) (ps : List (UInt8 × List UInt8)) (A : Option Addr) (c : Nat) : Prop where
  blk : RpBlk w b 0 0 0 .nilIface (.slice A (pairsL ps).length c)
  row : Kd.C Kd.string w A (pairsL ps).length (pairsL ps)
  apart : ∀ ad, A = some ad → ad.block ≠ b
set_option maxRecDepth 100000 in
set_option maxHeartbeats 3200000 in
theorem newrep_calls (ps : List (UInt8 × List UInt8)) (hle : ps.length ≤ 1000) (h0 : 0 < ps.length) (A : Option Addr) (c : Nat) (w : World) (hC : Kd.C Kd.string w A (pairsL ps).length (pairsL ps)) :
    Calls Tryz.prog 67 #[.slice A (pairsL ps).length c] w fun e w' => ∃ b A' c', e = .returned (.pointer (some ⟨b, 0, none⟩)) ∧ Fresh w' b ps A' c' ∧ w.heap.size ≤ b ∧ Below w.heap.size w w' := by
  have hlen := pairsL_length ps
  have HC := Aside0.mk hC
  have t1 : (((pairsL ps).length : Int) % 2 == 1) = false := beq_eq_false_iff_ne.mpr (by rw [hlen]; omega)
  have HL := Aside0.mk hlen
  clear hC hlen
  go_enter Tryz.func67, Tryz.ntmps67
  go_wp2_with ((with_reducible refine gate_builtin (b := .append) (xs := #[.const (.slice none 0 0), .tmp 8]) rfl ?_); at_builtin; refine Kd.R_append_row Value.string ByteArray.empty (h1 := fun _ => rfl) (w0 := w) w.heap.size rfl (.const (.slice none 0 0)) (.tmp 8) 68 9 (.string ⟨#[]⟩) 16 rfl Tryz.underlying68 info9 rfl (by decide) (.slice none 0 0) [] (pairsL ps) A (pairsL ps).length c (fun _ => True) rfl rfl (fun _ _ => trivial) ?aO ?aR ?aB ?aS ?aL ?_; (case aO => exact Kd.R_nil _ _ _ _ _); (case aR => exact HC.out); (case aB => exact Below.refl _ _); (case aS => exact Nat.le_refl _); (case aL => have := HL.out; simp; omega); intro v1 w1 ho hb hg1 hat1; obtain ⟨A2, c2, rfl, -, hC2⟩ := Kd.R_reads ho; have HO1 := Aside0.mk ho; have HB1 := Aside0.mk hb; have HC2 := Aside0.mk hC2; clear ho hb hg1 hat1 hC2)
  go_ret
  have hlt : ∀ ad, A2 = some ad → ad.block < w1.heap.size := by
    rintro ad rfl
    exact ((Kd.R_bound HO1.out).1 ad.block rfl).2.2.1
  refine ⟨_, A2, c2, rfl, ⟨blk_new w1 _, Kd.C_below HC2.out (below_alloc (Below.refl _ _) _), fun ad e => by have := hlt ad e; omega⟩, HB1.out.size, below_alloc HB1.out _⟩
theorem rp_method (a : Addr) (w : World) : (method 452 246 (.pointer (some a)) "Replace").run Tryz.prog w = .ok (312, .pointer (some a)) w := by kernel_rfl
set_option maxRecDepth 100000 in
set_option maxHeartbeats 3200000 in
theorem replace_calls (ps : List (UInt8 × List UInt8)) (hok : TabOk ps) (s : List UInt8) (hs : s.length ≤ 1000000000) (b : Nat) (A : Option Addr) (c : Nat) (w : World) (hf : Fresh w b ps A c) :
    Calls Tryz.prog 68 #[.pointer (some ⟨b, 0, none⟩), .string (B s)] w fun e w' => e = .returned (.string (B (repl (tabOf ps) s))) ∧ ∀ B0 w0, Below B0 w0 w → B0 ≤ b → Below B0 w0 w' := by
  have hlt : b < w.heap.size := (Array.getElem?_eq_some_iff.1 hf.blk).1
  have HF := Aside0.mk hf
  have HOK := Aside0.mk hok
  have hmf : ∀ (fn : Fn) (first cap : Array Value) (w : World), (Instr.makeFunc fn first cap).run Tryz.prog w = .ok (.func fn first cap) w := fun _ _ _ _ => rfl
  have hm := rp_method
  clear hf hok
  go_enter Tryz.func68, Tryz.ntmps68
  go_wp2_with (first | (go_at_call 130; refine (do_calls ps HOK.out b _ A c _ HF.out.blk HF.out.row HF.out.apart).mono ?_; rintro e w1 ⟨rfl, g, lo, v, hbu⟩; have h3 : w1.cell? ⟨b, 3, none⟩ = some (.iface 246 (.pointer (some ⟨g, 0, none⟩))) := (blk_cell hbu.blk 3).trans rfl; have HBU := Aside0.mk hbu; clear hbu) | (go_at_call 312; refine (replB_calls ps HOK.out s hs g lo v _ HBU.out.bst HBU.out.keys).mono ?_; rintro e w2 ⟨rfl, hb2⟩; have HB2 := Aside0.mk hb2; clear hb2))
  go_ret
  refine ⟨rfl, fun B0 w0 hB hle => ?_⟩
  have h1 := HBU.out.size
  exact below_then (HBU.out.below B0 w0 hB hle) (by omega) HB2.out
end Go.Proofs.YteehjlciajhdoaaGreatDoor.X
namespace Go.Proofs.YteehjlciajhdoaaGreatDoor.X
set_option linter.unusedVariables false
set_option linter.unusedSimpArgs false
open Go.RowKit Go.Proofs.YteehjlciajhdoaaGreatDoorW.PrintWords Go.Proofs.YteehjlciajhdoaaGreatDoorW.PrintLast Go.Proofs.YteehjlciajhdoaaGreatDoorW.PrintMore
def strings_IndexByte.f (a0 : ByteArray) (a1 : Int) : Option Int := some (Lib.indexByte a0.data.toList a1.toNat.toUInt8)
theorem strings_IndexByte.calls (a0 : ByteArray) (a1 : Int) (r : Int) (w : World) (h : strings_IndexByte.f a0 a1 = some r) :
    Calls Tryz.prog 123 #[.string a0, .int .u8 a1] w fun e w' => e = .returned (.int .i64 r) ∧ Drawn0 w w' := by
  obtain rfl := Option.some.inj h
  exact (Tryz.strings_IndexByte a0 a1 w).mono fun e w' ⟨h1, h2⟩ => ⟨h1, h2 ▸ Drawn0.refl _⟩
def stringslite_Index.f (a0 : ByteArray) (a1 : ByteArray) : Option Int := if a1.size = 1 then some (Lib.indexByte a0.data.toList (a1.data.toList.getD 0 0)) else none
theorem one_byte (a : ByteArray) (h : a.size = 1) : a = ⟨#[a.data.toList.getD 0 0]⟩ := by
  obtain ⟨⟨l⟩⟩ := a
  match l, h with
  | [x], _ => rfl
theorem stringslite_Index.calls (a0 : ByteArray) (a1 : ByteArray) (r : Int) (w : World) (h : stringslite_Index.f a0 a1 = some r) :
    Calls Tryz.prog 169 #[.string a0, .string a1] w fun e w' => e = .returned (.int .i64 r) ∧ Drawn0 w w' := by
  unfold stringslite_Index.f at h
  split at h
  · rename_i h1
    obtain rfl := Option.some.inj h
    have he := one_byte a1 h1
    generalize a1.data.toList.getD 0 0 = c at *
    subst he
    exact (Tryz.stringslite_Index_one a0 c w).mono fun e w' ⟨h1, h2⟩ => ⟨h1, h2 ▸ Drawn0.refl _⟩
  · cases h
def asciiB (a : ByteArray) : Bool := a.data.toList.all (fun b => decide (b.toNat < 128))
theorem asciiB_all {a : ByteArray} (h : asciiB a = true) : ∀ (j : Nat) b, a.data.toList[j]? = some b → b.toNat < 128 := by
  intro j b hb
  have := List.all_eq_true.1 h b (List.mem_of_getElem? hb)
  simpa using this
def strings_Trim.f (a0 a1 : ByteArray) : Option ByteArray := if a0.size ≤ 9223372036854775807 then if a1.size < 4294967281 then if asciiB a1 = true then some ⟨(Lib.trimS a0.data.toList a1.data.toList).toArray⟩ else none else none else none
theorem strings_Trim.calls (a0 : ByteArray) (a1 : ByteArray) (r : ByteArray) (w : World) (h : strings_Trim.f a0 a1 = some r) :
    Calls Tryz.prog 61 #[.string a0, .string a1] w fun e w' => e = .returned (.string r) ∧ Below w.heap.size w w' := by
  unfold strings_Trim.f at h
  split at h
  · split at h
    · split at h
      · rename_i h1 h2 h3
        obtain rfl := Option.some.inj h
        exact Any.strings_Trim_laid Tryz.lays160 (by kernel_rfl) a0 a1 w h1 h2 (asciiB_all h3)
      · cases h
    · cases h
  · cases h
def strings_TrimRight.f (a0 a1 : ByteArray) : Option ByteArray := if a0.size ≤ 9223372036854775807 then if a1.size < 4294967281 then if asciiB a1 = true then some ⟨(Lib.trimRightS a0.data.toList a1.data.toList).toArray⟩ else none else none else none
theorem strings_TrimRight.calls (a0 : ByteArray) (a1 : ByteArray) (r : ByteArray) (w : World) (h : strings_TrimRight.f a0 a1 = some r) :
    Calls Tryz.prog 63 #[.string a0, .string a1] w fun e w' => e = .returned (.string r) ∧ Below w.heap.size w w' := by
  unfold strings_TrimRight.f at h
  split at h
  · split at h
    · split at h
      · rename_i h1 h2 h3
        obtain rfl := Option.some.inj h
        exact Any.strings_TrimRight_laid Tryz.lays162 (by kernel_rfl) a0 a1 w h1 h2 (asciiB_all h3)
      · cases h
    · cases h
  · cases h
def strings_TrimLeft.f (a0 a1 : ByteArray) : Option ByteArray := if a1.size < 4294967281 then if asciiB a1 = true then some ⟨(Lib.trimLeftS a0.data.toList a1.data.toList).toArray⟩ else none else none
theorem strings_TrimLeft.calls (a0 : ByteArray) (a1 : ByteArray) (r : ByteArray) (w : World) (h : strings_TrimLeft.f a0 a1 = some r) :
    Calls Tryz.prog 126 #[.string a0, .string a1] w fun e w' => e = .returned (.string r) ∧ Below w.heap.size w w' := by
  unfold strings_TrimLeft.f at h
  split at h
  · split at h
    · rename_i h2 h3
      obtain rfl := Option.some.inj h
      exact Any.strings_TrimLeft_laid Tryz.lays161 (by kernel_rfl) a0 a1 w h2 (asciiB_all h3)
    · cases h
  · cases h
end Go.Proofs.YteehjlciajhdoaaGreatDoor.X
namespace Go.Proofs.YteehjlciajhdoaaGreatDoor.X
open Go.RowKit Go.Proofs.YteehjlciajhdoaaGreatDoorW.PrintWords Go.Proofs.YteehjlciajhdoaaGreatDoorW.PrintLast Go.Proofs.YteehjlciajhdoaaGreatDoorW.PrintMore
attribute [local go_sem] max2_int min2_int max_two min_two max_three min_three max_four min_four
set_option linter.unusedVariables false
set_option linter.unusedSimpArgs false
def infra_Token.l0 : Nat → ByteArray → Int → Int → Option (Bool)
  | 0, _, _, _ => none
  | k + 1, x0, x7, x8 => if x8 < x7 then (if 0 ≤ x8 then (if x8 < (x0.size : Int) then (if (bt x0 x8) ≥ 97 then (if (bt x0 x8) ≤ 122 then (infra_Token.l0 k x0 x7 (wrap64 (x8 + 1))) else (if (bt x0 x8) ≥ 65 then (if (bt x0 x8) ≤ 90 then (infra_Token.l0 k x0 x7 (wrap64 (x8 + 1))) else (if (bt x0 x8) ≥ 48 then (if ((bt x0 x8) ≤ 57) then (infra_Token.l0 k x0 x7 (wrap64 (x8 + 1))) else ((strings_IndexByte.f (⟨#[33, 35, 36, 37, 38, 39, 42, 43, 45, 46, 94, 95, 96, 124, 126]⟩ : ByteArray) (bt x0 x8)).bind fun t101 => (if t101 < 0 then (some false) else (infra_Token.l0 k x0 x7 (wrap64 (x8 + 1)))))) else ((strings_IndexByte.f (⟨#[33, 35, 36, 37, 38, 39, 42, 43, 45, 46, 94, 95, 96, 124, 126]⟩ : ByteArray) (bt x0 x8)).bind fun t102 => (if t102 < 0 then (some false) else (infra_Token.l0 k x0 x7 (wrap64 (x8 + 1))))))) else (if (bt x0 x8) ≥ 48 then (if ((bt x0 x8) ≤ 57) then (infra_Token.l0 k x0 x7 (wrap64 (x8 + 1))) else ((strings_IndexByte.f (⟨#[33, 35, 36, 37, 38, 39, 42, 43, 45, 46, 94, 95, 96, 124, 126]⟩ : ByteArray) (bt x0 x8)).bind fun t103 => (if t103 < 0 then (some false) else (infra_Token.l0 k x0 x7 (wrap64 (x8 + 1)))))) else ((strings_IndexByte.f (⟨#[33, 35, 36, 37, 38, 39, 42, 43, 45, 46, 94, 95, 96, 124, 126]⟩ : ByteArray) (bt x0 x8)).bind fun t104 => (if t104 < 0 then (some false) else (infra_Token.l0 k x0 x7 (wrap64 (x8 + 1)))))))) else (if (bt x0 x8) ≥ 65 then (if (bt x0 x8) ≤ 90 then (infra_Token.l0 k x0 x7 (wrap64 (x8 + 1))) else (if (bt x0 x8) ≥ 48 then (if ((bt x0 x8) ≤ 57) then (infra_Token.l0 k x0 x7 (wrap64 (x8 + 1))) else ((strings_IndexByte.f (⟨#[33, 35, 36, 37, 38, 39, 42, 43, 45, 46, 94, 95, 96, 124, 126]⟩ : ByteArray) (bt x0 x8)).bind fun t105 => (if t105 < 0 then (some false) else (infra_Token.l0 k x0 x7 (wrap64 (x8 + 1)))))) else ((strings_IndexByte.f (⟨#[33, 35, 36, 37, 38, 39, 42, 43, 45, 46, 94, 95, 96, 124, 126]⟩ : ByteArray) (bt x0 x8)).bind fun t106 => (if t106 < 0 then (some false) else (infra_Token.l0 k x0 x7 (wrap64 (x8 + 1))))))) else (if (bt x0 x8) ≥ 48 then (if ((bt x0 x8) ≤ 57) then (infra_Token.l0 k x0 x7 (wrap64 (x8 + 1))) else ((strings_IndexByte.f (⟨#[33, 35, 36, 37, 38, 39, 42, 43, 45, 46, 94, 95, 96, 124, 126]⟩ : ByteArray) (bt x0 x8)).bind fun t107 => (if t107 < 0 then (some false) else (infra_Token.l0 k x0 x7 (wrap64 (x8 + 1)))))) else ((strings_IndexByte.f (⟨#[33, 35, 36, 37, 38, 39, 42, 43, 45, 46, 94, 95, 96, 124, 126]⟩ : ByteArray) (bt x0 x8)).bind fun t108 => (if t108 < 0 then (some false) else (infra_Token.l0 k x0 x7 (wrap64 (x8 + 1)))))))) else (none)) else (none)) else (some (x0.toList != ([] : List UInt8)))
def infra_Token.f (k : Nat) (a0 : ByteArray) : Option (Bool) := infra_Token.l0 k a0 (a0.size : Int) 0
theorem infra_Token.mono_l : ∀ k, (∀ y0 y1 y2, LeO (infra_Token.l0 k y0 y1 y2) (infra_Token.l0 (k + 1) y0 y1 y2))
  | 0 => fun _ _ _ r h => by simp [infra_Token.l0] at h
  | k + 1 => by
    have ih0 := infra_Token.mono_l k
    · intro y0 y1 y2
      unfold infra_Token.l0
      repeat' first
      | (with_reducible exact ih0 _ _ _)
      | (with_reducible exact LeO.refl _)
      | (with_reducible exact LeO.none _)
      | (with_reducible refine LeO.ite ?_ ?_)
      | (with_reducible refine LeO.bind ?_ (fun _ => ?_))
      | exact ih0 _ _ _
      | exact LeO.none _
      | refine LeO.ite ?_ ?_
      | refine LeO.bind ?_ (fun _ => ?_)
theorem infra_Token.mono : ∀ a0 k, LeO (infra_Token.f k a0) (infra_Token.f (k + 1) a0) := by
  intro a0 k
  have ih0 := infra_Token.mono_l k
  unfold infra_Token.f
  repeat' first
      | (with_reducible exact ih0 _ _ _)
      | (with_reducible exact LeO.refl _)
      | (with_reducible exact LeO.none _)
      | (with_reducible refine LeO.ite ?_ ?_)
      | (with_reducible refine LeO.bind ?_ (fun _ => ?_))
      | exact ih0 _ _ _
      | exact LeO.none _
      | refine LeO.ite ?_ ?_
      | refine LeO.bind ?_ (fun _ => ?_)
set_option maxHeartbeats 8000000 in
set_option maxRecDepth 100000 in
theorem infra_Token.calls (k : Nat) (a0 : ByteArray) (r : Bool) (w : World) (h : infra_Token.f k a0 = some r) :
    Calls Tryz.prog 64 #[.string a0] w fun e w' => e = .returned (.bool r) ∧ Drawn0 w w' := by
  have H : (infra_Token.l0 k a0 (a0.size : Int) 0) = some r := h
  clear h
  have H' := Aside0.mk H
  clear H
  go_enter Tryz.func64, Tryz.ntmps64
  go_wp2
  go_loopg [8] k (fun kq v8 w' => ∃ (x8_1 : Int), v8 = .int .i64 x8_1 ∧ Aside0 (infra_Token.l0 kq a0 (a0.size : Int) x8_1 = some r) ∧ Aside0 (kq ≤ k) ∧ Drawn0 w w')
  case atStart => exact ⟨(0), (by first | rfl | (simp; done) | (simp [show ∀ l : List UInt8, (l != []) = !l.isEmpty from fun l => by cases l <;> rfl]; done) | (simp [*]; done)), H', ⟨Nat.le_refl _⟩, by repeat (first | exact Drawn0.refl _ | apply Drawn0.step)⟩
  case round =>
    clear H'
    obtain ⟨x8_1, rfl, HA, HK1, ⟨m1, rfl⟩⟩ := hrel
    cases gk with
    | zero => exact absurd HA.out (by simp [infra_Token.l0])
    | succ k1 =>
      have H := HA.out
      clear HA
      simp only [infra_Token.l0] at H
      by_cases c2 : x8_1 < (a0.size : Int)
      · rw [if_pos c2] at H
        have c2b0 : decide (x8_1 < (a0.size : Int)) = true := decide_eq_true c2
        clear c2
        by_cases c3 : 0 ≤ x8_1
        · rw [if_pos c3] at H
          have c3b0 : decide (0 ≤ x8_1) = true := decide_eq_true c3
          clear c3
          by_cases c4 : x8_1 < (a0.size : Int)
          · rw [if_pos c4] at H
            have c4b0 : decide (x8_1 < (a0.size : Int)) = true := decide_eq_true c4
            clear c4
            by_cases c6 : (bt a0 x8_1) ≥ 97
            · rw [if_pos c6] at H
              have c6b0 : decide (97 ≤ (bt a0 x8_1)) = true := decide_eq_true c6
              clear c6
              by_cases c7 : (bt a0 x8_1) ≤ 122
              · rw [if_pos c7] at H
                have c7b0 : decide ((bt a0 x8_1) ≤ 122) = true := decide_eq_true c7
                clear c7
                have H' := Aside0.mk H
                clear H
                have p5 : 0 ≤ (x8_1 : Int) := of_decide_eq_true (by first | (with_reducible assumption) | assumption)
                have q5 : x8_1 < (a0.size : Int) := of_decide_eq_true (by first | (with_reducible assumption) | assumption)
                have hx5 := bt_at a0 x8_1
                replace p5 := eq_true p5
                replace q5 := eq_true q5
                go_wp2
                go_roundg k1
                case measure => have := HK1.out; omega
                case rel => exact ⟨(wrap64 (x8_1 + 1)), (by first | rfl | (simp; done) | (simp [show ∀ l : List UInt8, (l != []) = !l.isEmpty from fun l => by cases l <;> rfl]; done) | (simp [*]; done)), H', ⟨by have := HK1.out; omega⟩, by repeat (first | exact Drawn0.refl _ | apply Drawn0.step)⟩
              · rw [if_neg c7] at H
                have c7b0 : decide ((bt a0 x8_1) ≤ 122) = false := decide_eq_false c7
                clear c7
                by_cases c8 : (bt a0 x8_1) ≥ 65
                · rw [if_pos c8] at H
                  have c8b0 : decide (65 ≤ (bt a0 x8_1)) = true := decide_eq_true c8
                  clear c8
                  by_cases c9 : (bt a0 x8_1) ≤ 90
                  · rw [if_pos c9] at H
                    have c9b0 : decide ((bt a0 x8_1) ≤ 90) = true := decide_eq_true c9
                    clear c9
                    have H' := Aside0.mk H
                    clear H
                    have p5 : 0 ≤ (x8_1 : Int) := of_decide_eq_true (by first | (with_reducible assumption) | assumption)
                    have q5 : x8_1 < (a0.size : Int) := of_decide_eq_true (by first | (with_reducible assumption) | assumption)
                    have hx5 := bt_at a0 x8_1
                    replace p5 := eq_true p5
                    replace q5 := eq_true q5
                    go_wp2
                    go_roundg k1
                    case measure => have := HK1.out; omega
                    case rel => exact ⟨(wrap64 (x8_1 + 1)), (by first | rfl | (simp; done) | (simp [show ∀ l : List UInt8, (l != []) = !l.isEmpty from fun l => by cases l <;> rfl]; done) | (simp [*]; done)), H', ⟨by have := HK1.out; omega⟩, by repeat (first | exact Drawn0.refl _ | apply Drawn0.step)⟩
                  · rw [if_neg c9] at H
                    have c9b0 : decide ((bt a0 x8_1) ≤ 90) = false := decide_eq_false c9
                    clear c9
                    by_cases c10 : (bt a0 x8_1) ≥ 48
                    · rw [if_pos c10] at H
                      have c10b0 : decide (48 ≤ (bt a0 x8_1)) = true := decide_eq_true c10
                      clear c10
                      by_cases c11 : ((bt a0 x8_1) ≤ 57)
                      · rw [if_pos c11] at H
                        have c11b0 : decide ((bt a0 x8_1) ≤ 57) = true := decide_eq_true c11
                        clear c11
                        have H' := Aside0.mk H
                        clear H
                        have p5 : 0 ≤ (x8_1 : Int) := of_decide_eq_true (by first | (with_reducible assumption) | assumption)
                        have q5 : x8_1 < (a0.size : Int) := of_decide_eq_true (by first | (with_reducible assumption) | assumption)
                        have hx5 := bt_at a0 x8_1
                        replace p5 := eq_true p5
                        replace q5 := eq_true q5
                        go_wp2
                        go_roundg k1
                        case measure => have := HK1.out; omega
                        case rel => exact ⟨(wrap64 (x8_1 + 1)), (by first | rfl | (simp; done) | (simp [show ∀ l : List UInt8, (l != []) = !l.isEmpty from fun l => by cases l <;> rfl]; done) | (simp [*]; done)), H', ⟨by have := HK1.out; omega⟩, by repeat (first | exact Drawn0.refl _ | apply Drawn0.step)⟩
                      · rw [if_neg c11] at H
                        have c11b0 : decide ((bt a0 x8_1) ≤ 57) = false := decide_eq_false c11
                        clear c11
                        replace H := Option.bind_eq_some_iff.mp H
                        obtain ⟨t101, A120, H⟩ := H
                        replace H : (if t101 < 0 then (some false) else (infra_Token.l0 k1 a0 (a0.size : Int) (wrap64 (x8_1 + 1)))) = some r := H
                        have A12 := Aside0.mk A120
                        clear A120
                        by_cases c13 : t101 < 0
                        · rw [if_pos c13] at H
                          have c13b0 : decide (t101 < 0) = true := decide_eq_true c13
                          clear c13
                          obtain rfl := Option.some.inj H
                          have p5 : 0 ≤ (x8_1 : Int) := of_decide_eq_true (by first | (with_reducible assumption) | assumption)
                          have q5 : x8_1 < (a0.size : Int) := of_decide_eq_true (by first | (with_reducible assumption) | assumption)
                          have hx5 := bt_at a0 x8_1
                          replace p5 := eq_true p5
                          replace q5 := eq_true q5
                          go_wp2_with (first | (go_at_call 123; (with_reducible refine (strings_IndexByte.calls (⟨#[33, 35, 36, 37, 38, 39, 42, 43, 45, 46, 94, 95, 96, 124, 126]⟩ : ByteArray) (bt a0 x8_1) t101 _ A12.out).mono ?_); rintro e w' ⟨rfl, ⟨nd, rfl⟩⟩))
                          go_ret
                          exact ⟨by first | rfl | (simp; done) | (simp [show ∀ l : List UInt8, (l != []) = !l.isEmpty from fun l => by cases l <;> rfl]; done) | (simp [*]; done), by repeat (first | exact Drawn0.refl _ | apply Drawn0.step)⟩
                        · rw [if_neg c13] at H
                          have c13b0 : decide (t101 < 0) = false := decide_eq_false c13
                          clear c13
                          have H' := Aside0.mk H
                          clear H
                          have p5 : 0 ≤ (x8_1 : Int) := of_decide_eq_true (by first | (with_reducible assumption) | assumption)
                          have q5 : x8_1 < (a0.size : Int) := of_decide_eq_true (by first | (with_reducible assumption) | assumption)
                          have hx5 := bt_at a0 x8_1
                          replace p5 := eq_true p5
                          replace q5 := eq_true q5
                          go_wp2_with (first | (go_at_call 123; (with_reducible refine (strings_IndexByte.calls (⟨#[33, 35, 36, 37, 38, 39, 42, 43, 45, 46, 94, 95, 96, 124, 126]⟩ : ByteArray) (bt a0 x8_1) t101 _ A12.out).mono ?_); rintro e w' ⟨rfl, ⟨nd, rfl⟩⟩))
                          go_roundg k1
                          case measure => have := HK1.out; omega
                          case rel => exact ⟨(wrap64 (x8_1 + 1)), (by first | rfl | (simp; done) | (simp [show ∀ l : List UInt8, (l != []) = !l.isEmpty from fun l => by cases l <;> rfl]; done) | (simp [*]; done)), H', ⟨by have := HK1.out; omega⟩, by repeat (first | exact Drawn0.refl _ | apply Drawn0.step)⟩
                    · rw [if_neg c10] at H
                      have c10b0 : decide (48 ≤ (bt a0 x8_1)) = false := decide_eq_false c10
                      clear c10
                      replace H := Option.bind_eq_some_iff.mp H
                      obtain ⟨t102, A140, H⟩ := H
                      replace H : (if t102 < 0 then (some false) else (infra_Token.l0 k1 a0 (a0.size : Int) (wrap64 (x8_1 + 1)))) = some r := H
                      have A14 := Aside0.mk A140
                      clear A140
                      by_cases c15 : t102 < 0
                      · rw [if_pos c15] at H
                        have c15b0 : decide (t102 < 0) = true := decide_eq_true c15
                        clear c15
                        obtain rfl := Option.some.inj H
                        have p5 : 0 ≤ (x8_1 : Int) := of_decide_eq_true (by first | (with_reducible assumption) | assumption)
                        have q5 : x8_1 < (a0.size : Int) := of_decide_eq_true (by first | (with_reducible assumption) | assumption)
                        have hx5 := bt_at a0 x8_1
                        replace p5 := eq_true p5
                        replace q5 := eq_true q5
                        go_wp2_with (first | (go_at_call 123; (with_reducible refine (strings_IndexByte.calls (⟨#[33, 35, 36, 37, 38, 39, 42, 43, 45, 46, 94, 95, 96, 124, 126]⟩ : ByteArray) (bt a0 x8_1) t102 _ A14.out).mono ?_); rintro e w' ⟨rfl, ⟨nd, rfl⟩⟩))
                        go_ret
                        exact ⟨by first | rfl | (simp; done) | (simp [show ∀ l : List UInt8, (l != []) = !l.isEmpty from fun l => by cases l <;> rfl]; done) | (simp [*]; done), by repeat (first | exact Drawn0.refl _ | apply Drawn0.step)⟩
                      · rw [if_neg c15] at H
                        have c15b0 : decide (t102 < 0) = false := decide_eq_false c15
                        clear c15
                        have H' := Aside0.mk H
                        clear H
                        have p5 : 0 ≤ (x8_1 : Int) := of_decide_eq_true (by first | (with_reducible assumption) | assumption)
                        have q5 : x8_1 < (a0.size : Int) := of_decide_eq_true (by first | (with_reducible assumption) | assumption)
                        have hx5 := bt_at a0 x8_1
                        replace p5 := eq_true p5
                        replace q5 := eq_true q5
                        go_wp2_with (first | (go_at_call 123; (with_reducible refine (strings_IndexByte.calls (⟨#[33, 35, 36, 37, 38, 39, 42, 43, 45, 46, 94, 95, 96, 124, 126]⟩ : ByteArray) (bt a0 x8_1) t102 _ A14.out).mono ?_); rintro e w' ⟨rfl, ⟨nd, rfl⟩⟩))
                        go_roundg k1
                        case measure => have := HK1.out; omega
                        case rel => exact ⟨(wrap64 (x8_1 + 1)), (by first | rfl | (simp; done) | (simp [show ∀ l : List UInt8, (l != []) = !l.isEmpty from fun l => by cases l <;> rfl]; done) | (simp [*]; done)), H', ⟨by have := HK1.out; omega⟩, by repeat (first | exact Drawn0.refl _ | apply Drawn0.step)⟩
                · rw [if_neg c8] at H
                  have c8b0 : decide (65 ≤ (bt a0 x8_1)) = false := decide_eq_false c8
                  clear c8
                  by_cases c16 : (bt a0 x8_1) ≥ 48
                  · rw [if_pos c16] at H
                    have c16b0 : decide (48 ≤ (bt a0 x8_1)) = true := decide_eq_true c16
                    clear c16
                    by_cases c17 : ((bt a0 x8_1) ≤ 57)
                    · rw [if_pos c17] at H
                      have c17b0 : decide ((bt a0 x8_1) ≤ 57) = true := decide_eq_true c17
                      clear c17
                      have H' := Aside0.mk H
                      clear H
                      have p5 : 0 ≤ (x8_1 : Int) := of_decide_eq_true (by first | (with_reducible assumption) | assumption)
                      have q5 : x8_1 < (a0.size : Int) := of_decide_eq_true (by first | (with_reducible assumption) | assumption)
                      have hx5 := bt_at a0 x8_1
                      replace p5 := eq_true p5
                      replace q5 := eq_true q5
                      go_wp2
                      go_roundg k1
                      case measure => have := HK1.out; omega
                      case rel => exact ⟨(wrap64 (x8_1 + 1)), (by first | rfl | (simp; done) | (simp [show ∀ l : List UInt8, (l != []) = !l.isEmpty from fun l => by cases l <;> rfl]; done) | (simp [*]; done)), H', ⟨by have := HK1.out; omega⟩, by repeat (first | exact Drawn0.refl _ | apply Drawn0.step)⟩
                    · rw [if_neg c17] at H
                      have c17b0 : decide ((bt a0 x8_1) ≤ 57) = false := decide_eq_false c17
                      clear c17
                      replace H := Option.bind_eq_some_iff.mp H
                      obtain ⟨t103, A180, H⟩ := H
                      replace H : (if t103 < 0 then (some false) else (infra_Token.l0 k1 a0 (a0.size : Int) (wrap64 (x8_1 + 1)))) = some r := H
                      have A18 := Aside0.mk A180
                      clear A180
                      by_cases c19 : t103 < 0
                      · rw [if_pos c19] at H
                        have c19b0 : decide (t103 < 0) = true := decide_eq_true c19
                        clear c19
                        obtain rfl := Option.some.inj H
                        have p5 : 0 ≤ (x8_1 : Int) := of_decide_eq_true (by first | (with_reducible assumption) | assumption)
                        have q5 : x8_1 < (a0.size : Int) := of_decide_eq_true (by first | (with_reducible assumption) | assumption)
                        have hx5 := bt_at a0 x8_1
                        replace p5 := eq_true p5
                        replace q5 := eq_true q5
                        go_wp2_with (first | (go_at_call 123; (with_reducible refine (strings_IndexByte.calls (⟨#[33, 35, 36, 37, 38, 39, 42, 43, 45, 46, 94, 95, 96, 124, 126]⟩ : ByteArray) (bt a0 x8_1) t103 _ A18.out).mono ?_); rintro e w' ⟨rfl, ⟨nd, rfl⟩⟩))
                        go_ret
                        exact ⟨by first | rfl | (simp; done) | (simp [show ∀ l : List UInt8, (l != []) = !l.isEmpty from fun l => by cases l <;> rfl]; done) | (simp [*]; done), by repeat (first | exact Drawn0.refl _ | apply Drawn0.step)⟩
                      · rw [if_neg c19] at H
                        have c19b0 : decide (t103 < 0) = false := decide_eq_false c19
                        clear c19
                        have H' := Aside0.mk H
                        clear H
                        have p5 : 0 ≤ (x8_1 : Int) := of_decide_eq_true (by first | (with_reducible assumption) | assumption)
                        have q5 : x8_1 < (a0.size : Int) := of_decide_eq_true (by first | (with_reducible assumption) | assumption)
                        have hx5 := bt_at a0 x8_1
                        replace p5 := eq_true p5
                        replace q5 := eq_true q5
                        go_wp2_with (first | (go_at_call 123; (with_reducible refine (strings_IndexByte.calls (⟨#[33, 35, 36, 37, 38, 39, 42, 43, 45, 46, 94, 95, 96, 124, 126]⟩ : ByteArray) (bt a0 x8_1) t103 _ A18.out).mono ?_); rintro e w' ⟨rfl, ⟨nd, rfl⟩⟩))
                        go_roundg k1
                        case measure => have := HK1.out; omega
                        case rel => exact ⟨(wrap64 (x8_1 + 1)), (by first | rfl | (simp; done) | (simp [show ∀ l : List UInt8, (l != []) = !l.isEmpty from fun l => by cases l <;> rfl]; done) | (simp [*]; done)), H', ⟨by have := HK1.out; omega⟩, by repeat (first | exact Drawn0.refl _ | apply Drawn0.step)⟩
                  · rw [if_neg c16] at H
                    have c16b0 : decide (48 ≤ (bt a0 x8_1)) = false := decide_eq_false c16
                    clear c16
                    replace H := Option.bind_eq_some_iff.mp H
                    obtain ⟨t104, A200, H⟩ := H
                    replace H : (if t104 < 0 then (some false) else (infra_Token.l0 k1 a0 (a0.size : Int) (wrap64 (x8_1 + 1)))) = some r := H
                    have A20 := Aside0.mk A200
                    clear A200
                    by_cases c21 : t104 < 0
                    · rw [if_pos c21] at H
                      have c21b0 : decide (t104 < 0) = true := decide_eq_true c21
                      clear c21
                      obtain rfl := Option.some.inj H
                      have p5 : 0 ≤ (x8_1 : Int) := of_decide_eq_true (by first | (with_reducible assumption) | assumption)
                      have q5 : x8_1 < (a0.size : Int) := of_decide_eq_true (by first | (with_reducible assumption) | assumption)
                      have hx5 := bt_at a0 x8_1
                      replace p5 := eq_true p5
                      replace q5 := eq_true q5
                      go_wp2_with (first | (go_at_call 123; (with_reducible refine (strings_IndexByte.calls (⟨#[33, 35, 36, 37, 38, 39, 42, 43, 45, 46, 94, 95, 96, 124, 126]⟩ : ByteArray) (bt a0 x8_1) t104 _ A20.out).mono ?_); rintro e w' ⟨rfl, ⟨nd, rfl⟩⟩))
                      go_ret
                      exact ⟨by first | rfl | (simp; done) | (simp [show ∀ l : List UInt8, (l != []) = !l.isEmpty from fun l => by cases l <;> rfl]; done) | (simp [*]; done), by repeat (first | exact Drawn0.refl _ | apply Drawn0.step)⟩
                    · rw [if_neg c21] at H
                      have c21b0 : decide (t104 < 0) = false := decide_eq_false c21
                      clear c21
                      have H' := Aside0.mk H
                      clear H
                      have p5 : 0 ≤ (x8_1 : Int) := of_decide_eq_true (by first | (with_reducible assumption) | assumption)
                      have q5 : x8_1 < (a0.size : Int) := of_decide_eq_true (by first | (with_reducible assumption) | assumption)
                      have hx5 := bt_at a0 x8_1
                      replace p5 := eq_true p5
                      replace q5 := eq_true q5
                      go_wp2_with (first | (go_at_call 123; (with_reducible refine (strings_IndexByte.calls (⟨#[33, 35, 36, 37, 38, 39, 42, 43, 45, 46, 94, 95, 96, 124, 126]⟩ : ByteArray) (bt a0 x8_1) t104 _ A20.out).mono ?_); rintro e w' ⟨rfl, ⟨nd, rfl⟩⟩))
                      go_roundg k1
                      case measure => have := HK1.out; omega
                      case rel => exact ⟨(wrap64 (x8_1 + 1)), (by first | rfl | (simp; done) | (simp [show ∀ l : List UInt8, (l != []) = !l.isEmpty from fun l => by cases l <;> rfl]; done) | (simp [*]; done)), H', ⟨by have := HK1.out; omega⟩, by repeat (first | exact Drawn0.refl _ | apply Drawn0.step)⟩
            · rw [if_neg c6] at H
              have c6b0 : decide (97 ≤ (bt a0 x8_1)) = false := decide_eq_false c6
              clear c6
              by_cases c22 : (bt a0 x8_1) ≥ 65
              · rw [if_pos c22] at H
                have c22b0 : decide (65 ≤ (bt a0 x8_1)) = true := decide_eq_true c22
                clear c22
                by_cases c23 : (bt a0 x8_1) ≤ 90
                · rw [if_pos c23] at H
                  have c23b0 : decide ((bt a0 x8_1) ≤ 90) = true := decide_eq_true c23
                  clear c23
                  have H' := Aside0.mk H
                  clear H
                  have p5 : 0 ≤ (x8_1 : Int) := of_decide_eq_true (by first | (with_reducible assumption) | assumption)
                  have q5 : x8_1 < (a0.size : Int) := of_decide_eq_true (by first | (with_reducible assumption) | assumption)
                  have hx5 := bt_at a0 x8_1
                  replace p5 := eq_true p5
                  replace q5 := eq_true q5
                  go_wp2
                  go_roundg k1
                  case measure => have := HK1.out; omega
                  case rel => exact ⟨(wrap64 (x8_1 + 1)), (by first | rfl | (simp; done) | (simp [show ∀ l : List UInt8, (l != []) = !l.isEmpty from fun l => by cases l <;> rfl]; done) | (simp [*]; done)), H', ⟨by have := HK1.out; omega⟩, by repeat (first | exact Drawn0.refl _ | apply Drawn0.step)⟩
                · rw [if_neg c23] at H
                  have c23b0 : decide ((bt a0 x8_1) ≤ 90) = false := decide_eq_false c23
                  clear c23
                  by_cases c24 : (bt a0 x8_1) ≥ 48
                  · rw [if_pos c24] at H
                    have c24b0 : decide (48 ≤ (bt a0 x8_1)) = true := decide_eq_true c24
                    clear c24
                    by_cases c25 : ((bt a0 x8_1) ≤ 57)
                    · rw [if_pos c25] at H
                      have c25b0 : decide ((bt a0 x8_1) ≤ 57) = true := decide_eq_true c25
                      clear c25
                      have H' := Aside0.mk H
                      clear H
                      have p5 : 0 ≤ (x8_1 : Int) := of_decide_eq_true (by first | (with_reducible assumption) | assumption)
                      have q5 : x8_1 < (a0.size : Int) := of_decide_eq_true (by first | (with_reducible assumption) | assumption)
                      have hx5 := bt_at a0 x8_1
                      replace p5 := eq_true p5
                      replace q5 := eq_true q5
                      go_wp2
                      go_roundg k1
                      case measure => have := HK1.out; omega
                      case rel => exact ⟨(wrap64 (x8_1 + 1)), (by first | rfl | (simp; done) | (simp [show ∀ l : List UInt8, (l != []) = !l.isEmpty from fun l => by cases l <;> rfl]; done) | (simp [*]; done)), H', ⟨by have := HK1.out; omega⟩, by repeat (first | exact Drawn0.refl _ | apply Drawn0.step)⟩
                    · rw [if_neg c25] at H
                      have c25b0 : decide ((bt a0 x8_1) ≤ 57) = false := decide_eq_false c25
                      clear c25
                      replace H := Option.bind_eq_some_iff.mp H
                      obtain ⟨t105, A260, H⟩ := H
                      replace H : (if t105 < 0 then (some false) else (infra_Token.l0 k1 a0 (a0.size : Int) (wrap64 (x8_1 + 1)))) = some r := H
                      have A26 := Aside0.mk A260
                      clear A260
                      by_cases c27 : t105 < 0
                      · rw [if_pos c27] at H
                        have c27b0 : decide (t105 < 0) = true := decide_eq_true c27
                        clear c27
                        obtain rfl := Option.some.inj H
                        have p5 : 0 ≤ (x8_1 : Int) := of_decide_eq_true (by first | (with_reducible assumption) | assumption)
                        have q5 : x8_1 < (a0.size : Int) := of_decide_eq_true (by first | (with_reducible assumption) | assumption)
                        have hx5 := bt_at a0 x8_1
                        replace p5 := eq_true p5
                        replace q5 := eq_true q5
                        go_wp2_with (first | (go_at_call 123; (with_reducible refine (strings_IndexByte.calls (⟨#[33, 35, 36, 37, 38, 39, 42, 43, 45, 46, 94, 95, 96, 124, 126]⟩ : ByteArray) (bt a0 x8_1) t105 _ A26.out).mono ?_); rintro e w' ⟨rfl, ⟨nd, rfl⟩⟩))
                        go_ret
                        exact ⟨by first | rfl | (simp; done) | (simp [show ∀ l : List UInt8, (l != []) = !l.isEmpty from fun l => by cases l <;> rfl]; done) | (simp [*]; done), by repeat (first | exact Drawn0.refl _ | apply Drawn0.step)⟩
                      · rw [if_neg c27] at H
                        have c27b0 : decide (t105 < 0) = false := decide_eq_false c27
                        clear c27
                        have H' := Aside0.mk H
                        clear H
                        have p5 : 0 ≤ (x8_1 : Int) := of_decide_eq_true (by first | (with_reducible assumption) | assumption)
                        have q5 : x8_1 < (a0.size : Int) := of_decide_eq_true (by first | (with_reducible assumption) | assumption)
                        have hx5 := bt_at a0 x8_1
                        replace p5 := eq_true p5
                        replace q5 := eq_true q5
                        go_wp2_with (first | (go_at_call 123; (with_reducible refine (strings_IndexByte.calls (⟨#[33, 35, 36, 37, 38, 39, 42, 43, 45, 46, 94, 95, 96, 124, 126]⟩ : ByteArray) (bt a0 x8_1) t105 _ A26.out).mono ?_); rintro e w' ⟨rfl, ⟨nd, rfl⟩⟩))
                        go_roundg k1
                        case measure => have := HK1.out; omega
                        case rel => exact ⟨(wrap64 (x8_1 + 1)), (by first | rfl | (simp; done) | (simp [show ∀ l : List UInt8, (l != []) = !l.isEmpty from fun l => by cases l <;> rfl]; done) | (simp [*]; done)), H', ⟨by have := HK1.out; omega⟩, by repeat (first | exact Drawn0.refl _ | apply Drawn0.step)⟩
                  · rw [if_neg c24] at H
                    have c24b0 : decide (48 ≤ (bt a0 x8_1)) = false := decide_eq_false c24
                    clear c24
                    replace H := Option.bind_eq_some_iff.mp H
                    obtain ⟨t106, A280, H⟩ := H
                    replace H : (if t106 < 0 then (some false) else (infra_Token.l0 k1 a0 (a0.size : Int) (wrap64 (x8_1 + 1)))) = some r := H
                    have A28 := Aside0.mk A280
                    clear A280
                    by_cases c29 : t106 < 0
                    · rw [if_pos c29] at H
                      have c29b0 : decide (t106 < 0) = true := decide_eq_true c29
                      clear c29
                      obtain rfl := Option.some.inj H
                      have p5 : 0 ≤ (x8_1 : Int) := of_decide_eq_true (by first | (with_reducible assumption) | assumption)
                      have q5 : x8_1 < (a0.size : Int) := of_decide_eq_true (by first | (with_reducible assumption) | assumption)
                      have hx5 := bt_at a0 x8_1
                      replace p5 := eq_true p5
                      replace q5 := eq_true q5
                      go_wp2_with (first | (go_at_call 123; (with_reducible refine (strings_IndexByte.calls (⟨#[33, 35, 36, 37, 38, 39, 42, 43, 45, 46, 94, 95, 96, 124, 126]⟩ : ByteArray) (bt a0 x8_1) t106 _ A28.out).mono ?_); rintro e w' ⟨rfl, ⟨nd, rfl⟩⟩))
                      go_ret
                      exact ⟨by first | rfl | (simp; done) | (simp [show ∀ l : List UInt8, (l != []) = !l.isEmpty from fun l => by cases l <;> rfl]; done) | (simp [*]; done), by repeat (first | exact Drawn0.refl _ | apply Drawn0.step)⟩
                    · rw [if_neg c29] at H
                      have c29b0 : decide (t106 < 0) = false := decide_eq_false c29
                      clear c29
                      have H' := Aside0.mk H
                      clear H
                      have p5 : 0 ≤ (x8_1 : Int) := of_decide_eq_true (by first | (with_reducible assumption) | assumption)
                      have q5 : x8_1 < (a0.size : Int) := of_decide_eq_true (by first | (with_reducible assumption) | assumption)
                      have hx5 := bt_at a0 x8_1
                      replace p5 := eq_true p5
                      replace q5 := eq_true q5
                      go_wp2_with (first | (go_at_call 123; (with_reducible refine (strings_IndexByte.calls (⟨#[33, 35, 36, 37, 38, 39, 42, 43, 45, 46, 94, 95, 96, 124, 126]⟩ : ByteArray) (bt a0 x8_1) t106 _ A28.out).mono ?_); rintro e w' ⟨rfl, ⟨nd, rfl⟩⟩))
                      go_roundg k1
                      case measure => have := HK1.out; omega
                      case rel => exact ⟨(wrap64 (x8_1 + 1)), (by first | rfl | (simp; done) | (simp [show ∀ l : List UInt8, (l != []) = !l.isEmpty from fun l => by cases l <;> rfl]; done) | (simp [*]; done)), H', ⟨by have := HK1.out; omega⟩, by repeat (first | exact Drawn0.refl _ | apply Drawn0.step)⟩
              · rw [if_neg c22] at H
                have c22b0 : decide (65 ≤ (bt a0 x8_1)) = false := decide_eq_false c22
                clear c22
                by_cases c30 : (bt a0 x8_1) ≥ 48
                · rw [if_pos c30] at H
                  have c30b0 : decide (48 ≤ (bt a0 x8_1)) = true := decide_eq_true c30
                  clear c30
                  by_cases c31 : ((bt a0 x8_1) ≤ 57)
                  · rw [if_pos c31] at H
                    have c31b0 : decide ((bt a0 x8_1) ≤ 57) = true := decide_eq_true c31
                    clear c31
                    have H' := Aside0.mk H
                    clear H
                    have p5 : 0 ≤ (x8_1 : Int) := of_decide_eq_true (by first | (with_reducible assumption) | assumption)
                    have q5 : x8_1 < (a0.size : Int) := of_decide_eq_true (by first | (with_reducible assumption) | assumption)
                    have hx5 := bt_at a0 x8_1
                    replace p5 := eq_true p5
                    replace q5 := eq_true q5
                    go_wp2
                    go_roundg k1
                    case measure => have := HK1.out; omega
                    case rel => exact ⟨(wrap64 (x8_1 + 1)), (by first | rfl | (simp; done) | (simp [show ∀ l : List UInt8, (l != []) = !l.isEmpty from fun l => by cases l <;> rfl]; done) | (simp [*]; done)), H', ⟨by have := HK1.out; omega⟩, by repeat (first | exact Drawn0.refl _ | apply Drawn0.step)⟩
                  · rw [if_neg c31] at H
                    have c31b0 : decide ((bt a0 x8_1) ≤ 57) = false := decide_eq_false c31
                    clear c31
                    replace H := Option.bind_eq_some_iff.mp H
                    obtain ⟨t107, A320, H⟩ := H
                    replace H : (if t107 < 0 then (some false) else (infra_Token.l0 k1 a0 (a0.size : Int) (wrap64 (x8_1 + 1)))) = some r := H
                    have A32 := Aside0.mk A320
                    clear A320
                    by_cases c33 : t107 < 0
                    · rw [if_pos c33] at H
                      have c33b0 : decide (t107 < 0) = true := decide_eq_true c33
                      clear c33
                      obtain rfl := Option.some.inj H
                      have p5 : 0 ≤ (x8_1 : Int) := of_decide_eq_true (by first | (with_reducible assumption) | assumption)
                      have q5 : x8_1 < (a0.size : Int) := of_decide_eq_true (by first | (with_reducible assumption) | assumption)
                      have hx5 := bt_at a0 x8_1
                      replace p5 := eq_true p5
                      replace q5 := eq_true q5
                      go_wp2_with (first | (go_at_call 123; (with_reducible refine (strings_IndexByte.calls (⟨#[33, 35, 36, 37, 38, 39, 42, 43, 45, 46, 94, 95, 96, 124, 126]⟩ : ByteArray) (bt a0 x8_1) t107 _ A32.out).mono ?_); rintro e w' ⟨rfl, ⟨nd, rfl⟩⟩))
                      go_ret
                      exact ⟨by first | rfl | (simp; done) | (simp [show ∀ l : List UInt8, (l != []) = !l.isEmpty from fun l => by cases l <;> rfl]; done) | (simp [*]; done), by repeat (first | exact Drawn0.refl _ | apply Drawn0.step)⟩
                    · rw [if_neg c33] at H
                      have c33b0 : decide (t107 < 0) = false := decide_eq_false c33
                      clear c33
                      have H' := Aside0.mk H
                      clear H
                      have p5 : 0 ≤ (x8_1 : Int) := of_decide_eq_true (by first | (with_reducible assumption) | assumption)
                      have q5 : x8_1 < (a0.size : Int) := of_decide_eq_true (by first | (with_reducible assumption) | assumption)
                      have hx5 := bt_at a0 x8_1
                      replace p5 := eq_true p5
                      replace q5 := eq_true q5
                      go_wp2_with (first | (go_at_call 123; (with_reducible refine (strings_IndexByte.calls (⟨#[33, 35, 36, 37, 38, 39, 42, 43, 45, 46, 94, 95, 96, 124, 126]⟩ : ByteArray) (bt a0 x8_1) t107 _ A32.out).mono ?_); rintro e w' ⟨rfl, ⟨nd, rfl⟩⟩))
                      go_roundg k1
                      case measure => have := HK1.out; omega
                      case rel => exact ⟨(wrap64 (x8_1 + 1)), (by first | rfl | (simp; done) | (simp [show ∀ l : List UInt8, (l != []) = !l.isEmpty from fun l => by cases l <;> rfl]; done) | (simp [*]; done)), H', ⟨by have := HK1.out; omega⟩, by repeat (first | exact Drawn0.refl _ | apply Drawn0.step)⟩
                · rw [if_neg c30] at H
                  have c30b0 : decide (48 ≤ (bt a0 x8_1)) = false := decide_eq_false c30
                  clear c30
                  replace H := Option.bind_eq_some_iff.mp H
                  obtain ⟨t108, A340, H⟩ := H
                  replace H : (if t108 < 0 then (some false) else (infra_Token.l0 k1 a0 (a0.size : Int) (wrap64 (x8_1 + 1)))) = some r := H
                  have A34 := Aside0.mk A340
                  clear A340
                  by_cases c35 : t108 < 0
                  · rw [if_pos c35] at H
                    have c35b0 : decide (t108 < 0) = true := decide_eq_true c35
                    clear c35
                    obtain rfl := Option.some.inj H
                    have p5 : 0 ≤ (x8_1 : Int) := of_decide_eq_true (by first | (with_reducible assumption) | assumption)
                    have q5 : x8_1 < (a0.size : Int) := of_decide_eq_true (by first | (with_reducible assumption) | assumption)
                    have hx5 := bt_at a0 x8_1
                    replace p5 := eq_true p5
                    replace q5 := eq_true q5
                    go_wp2_with (first | (go_at_call 123; (with_reducible refine (strings_IndexByte.calls (⟨#[33, 35, 36, 37, 38, 39, 42, 43, 45, 46, 94, 95, 96, 124, 126]⟩ : ByteArray) (bt a0 x8_1) t108 _ A34.out).mono ?_); rintro e w' ⟨rfl, ⟨nd, rfl⟩⟩))
                    go_ret
                    exact ⟨by first | rfl | (simp; done) | (simp [show ∀ l : List UInt8, (l != []) = !l.isEmpty from fun l => by cases l <;> rfl]; done) | (simp [*]; done), by repeat (first | exact Drawn0.refl _ | apply Drawn0.step)⟩
                  · rw [if_neg c35] at H
                    have c35b0 : decide (t108 < 0) = false := decide_eq_false c35
                    clear c35
                    have H' := Aside0.mk H
                    clear H
                    have p5 : 0 ≤ (x8_1 : Int) := of_decide_eq_true (by first | (with_reducible assumption) | assumption)
                    have q5 : x8_1 < (a0.size : Int) := of_decide_eq_true (by first | (with_reducible assumption) | assumption)
                    have hx5 := bt_at a0 x8_1
                    replace p5 := eq_true p5
                    replace q5 := eq_true q5
                    go_wp2_with (first | (go_at_call 123; (with_reducible refine (strings_IndexByte.calls (⟨#[33, 35, 36, 37, 38, 39, 42, 43, 45, 46, 94, 95, 96, 124, 126]⟩ : ByteArray) (bt a0 x8_1) t108 _ A34.out).mono ?_); rintro e w' ⟨rfl, ⟨nd, rfl⟩⟩))
                    go_roundg k1
                    case measure => have := HK1.out; omega
                    case rel => exact ⟨(wrap64 (x8_1 + 1)), (by first | rfl | (simp; done) | (simp [show ∀ l : List UInt8, (l != []) = !l.isEmpty from fun l => by cases l <;> rfl]; done) | (simp [*]; done)), H', ⟨by have := HK1.out; omega⟩, by repeat (first | exact Drawn0.refl _ | apply Drawn0.step)⟩
          · rw [if_neg c4] at H
            exact absurd H (by simp)
        · rw [if_neg c3] at H
          exact absurd H (by simp)
      · rw [if_neg c2] at H
        have c2b0 : decide (x8_1 < (a0.size : Int)) = false := decide_eq_false c2
        clear c2
        obtain rfl := Option.some.inj H
        go_wp2
        go_ret
        exact ⟨by first | rfl | (simp; done) | (simp [show ∀ l : List UInt8, (l != []) = !l.isEmpty from fun l => by cases l <;> rfl]; done) | (simp [*]; done), by repeat (first | exact Drawn0.refl _ | apply Drawn0.step)⟩
end Go.Proofs.YteehjlciajhdoaaGreatDoor.X
namespace Go.Proofs.YteehjlciajhdoaaGreatDoor.X
open Go.RowKit Go.Proofs.YteehjlciajhdoaaGreatDoorW.PrintWords Go.Proofs.YteehjlciajhdoaaGreatDoorW.PrintLast Go.Proofs.YteehjlciajhdoaaGreatDoorW.PrintMore
attribute [local go_sem] max2_int min2_int max_two min_two max_three min_three max_four min_four
set_option linter.unusedVariables false
set_option linter.unusedSimpArgs false
def mime_fine.l0 : Nat → ByteArray → Int → Int → Option (Bool)
  | 0, _, _, _ => none
  | k + 1, x0, x6, x7 => if x7 < x6 then (if 0 ≤ x7 then (if x7 < (x0.size : Int) then (if (bt x0 x7) = 9 then (mime_fine.l0 k x0 x6 (wrap64 (x7 + 1))) else (if (bt x0 x7) < 32 then (some false) else (if (bt x0 x7) = 127 then (some false) else (mime_fine.l0 k x0 x6 (wrap64 (x7 + 1)))))) else (none)) else (none)) else (some true)
def mime_fine.f (k : Nat) (a0 : ByteArray) : Option (Bool) := mime_fine.l0 k a0 (a0.size : Int) 0
theorem mime_fine.mono_l : ∀ k, (∀ y0 y1 y2, LeO (mime_fine.l0 k y0 y1 y2) (mime_fine.l0 (k + 1) y0 y1 y2))
  | 0 => fun _ _ _ r h => by simp [mime_fine.l0] at h
  | k + 1 => by
    have ih0 := mime_fine.mono_l k
    · intro y0 y1 y2
      unfold mime_fine.l0
      repeat' first
      | (with_reducible exact ih0 _ _ _)
      | (with_reducible exact LeO.refl _)
      | (with_reducible exact LeO.none _)
      | (with_reducible refine LeO.ite ?_ ?_)
      | (with_reducible refine LeO.bind ?_ (fun _ => ?_))
      | exact ih0 _ _ _
      | exact LeO.none _
      | refine LeO.ite ?_ ?_
      | refine LeO.bind ?_ (fun _ => ?_)
theorem mime_fine.mono : ∀ a0 k, LeO (mime_fine.f k a0) (mime_fine.f (k + 1) a0) := by
  intro a0 k
  have ih0 := mime_fine.mono_l k
  unfold mime_fine.f
  repeat' first
      | (with_reducible exact ih0 _ _ _)
      | (with_reducible exact LeO.refl _)
      | (with_reducible exact LeO.none _)
      | (with_reducible refine LeO.ite ?_ ?_)
      | (with_reducible refine LeO.bind ?_ (fun _ => ?_))
      | exact ih0 _ _ _
      | exact LeO.none _
      | refine LeO.ite ?_ ?_
      | refine LeO.bind ?_ (fun _ => ?_)
set_option maxHeartbeats 8000000 in
set_option maxRecDepth 100000 in
theorem mime_fine.calls (k : Nat) (a0 : ByteArray) (r : Bool) (w : World) (h : mime_fine.f k a0 = some r) :
    Calls Tryz.prog 129 #[.string a0] w fun e w' => e = .returned (.bool r) ∧ Drawn0 w w' := by
  have H : (mime_fine.l0 k a0 (a0.size : Int) 0) = some r := h
  clear h
  have H' := Aside0.mk H
  clear H
  go_enter Tryz.func129, Tryz.ntmps129
  go_wp2
  go_loopg [7] k (fun kq v7 w' => ∃ (x7_1 : Int), v7 = .int .i64 x7_1 ∧ Aside0 (mime_fine.l0 kq a0 (a0.size : Int) x7_1 = some r) ∧ Aside0 (kq ≤ k) ∧ Drawn0 w w')
  case atStart => exact ⟨(0), (by first | rfl | (simp; done) | (simp [*]; done)), H', ⟨Nat.le_refl _⟩, by repeat (first | exact Drawn0.refl _ | apply Drawn0.step)⟩
  case round =>
    clear H'
    try clear c1
    obtain ⟨x7_1, rfl, HA, HK1, ⟨m1, rfl⟩⟩ := hrel
    cases gk with
    | zero => exact absurd HA.out (by simp [mime_fine.l0])
    | succ k1 =>
      have H := HA.out
      clear HA
      simp only [mime_fine.l0] at H
      by_cases c2 : x7_1 < (a0.size : Int)
      · rw [if_pos c2] at H
        have c2b0 : decide (x7_1 < (a0.size : Int)) = true := decide_eq_true c2
        clear c2
        by_cases c3 : 0 ≤ x7_1
        · rw [if_pos c3] at H
          have c3b0 : decide (0 ≤ x7_1) = true := decide_eq_true c3
          clear c3
          by_cases c4 : x7_1 < (a0.size : Int)
          · rw [if_pos c4] at H
            have c4b0 : decide (x7_1 < (a0.size : Int)) = true := decide_eq_true c4
            clear c4
            by_cases c6 : (bt a0 x7_1) = 9
            · rw [if_pos c6] at H
              have c6b0 : ((bt a0 x7_1) == 9) = true := beq_iff_eq.mpr c6
              have c6b1 : ((bt a0 x7_1) != 9) = false := bne_eq_false_iff_eq.mpr c6
              clear c6
              have H' := Aside0.mk H
              clear H
              have p5 : 0 ≤ (x7_1 : Int) := of_decide_eq_true (by first | (with_reducible assumption) | assumption)
              have q5 : x7_1 < (a0.size : Int) := of_decide_eq_true (by first | (with_reducible assumption) | assumption)
              have hx5 := bt_at a0 x7_1
              replace p5 := eq_true p5
              replace q5 := eq_true q5
              go_wp2
              go_roundg k1
              case measure => have := HK1.out; omega
              case rel => exact ⟨(wrap64 (x7_1 + 1)), (by first | rfl | (simp; done) | (simp [*]; done)), H', ⟨by have := HK1.out; omega⟩, by repeat (first | exact Drawn0.refl _ | apply Drawn0.step)⟩
            · rw [if_neg c6] at H
              have c6b0 : ((bt a0 x7_1) == 9) = false := beq_eq_false_iff_ne.mpr c6
              have c6b1 : ((bt a0 x7_1) != 9) = true := bne_iff_ne.mpr c6
              by_cases c7 : (bt a0 x7_1) < 32
              · rw [if_pos c7] at H
                have c7b0 : decide ((bt a0 x7_1) < 32) = true := decide_eq_true c7
                clear c7
                obtain rfl := Option.some.inj H
                have p5 : 0 ≤ (x7_1 : Int) := of_decide_eq_true (by first | (with_reducible assumption) | assumption)
                have q5 : x7_1 < (a0.size : Int) := of_decide_eq_true (by first | (with_reducible assumption) | assumption)
                have hx5 := bt_at a0 x7_1
                replace p5 := eq_true p5
                replace q5 := eq_true q5
                go_wp2
                go_ret
                exact ⟨by first | rfl | (simp; done) | (simp [*]; done), by repeat (first | exact Drawn0.refl _ | apply Drawn0.step)⟩
              · rw [if_neg c7] at H
                have c7b0 : decide ((bt a0 x7_1) < 32) = false := decide_eq_false c7
                clear c7
                by_cases c8 : (bt a0 x7_1) = 127
                · rw [if_pos c8] at H
                  have c8b0 : ((bt a0 x7_1) == 127) = true := beq_iff_eq.mpr c8
                  have c8b1 : ((bt a0 x7_1) != 127) = false := bne_eq_false_iff_eq.mpr c8
                  clear c8
                  obtain rfl := Option.some.inj H
                  have p5 : 0 ≤ (x7_1 : Int) := of_decide_eq_true (by first | (with_reducible assumption) | assumption)
                  have q5 : x7_1 < (a0.size : Int) := of_decide_eq_true (by first | (with_reducible assumption) | assumption)
                  have hx5 := bt_at a0 x7_1
                  replace p5 := eq_true p5
                  replace q5 := eq_true q5
                  go_wp2
                  go_ret
                  exact ⟨by first | rfl | (simp; done) | (simp [*]; done), by repeat (first | exact Drawn0.refl _ | apply Drawn0.step)⟩
                · rw [if_neg c8] at H
                  have c8b0 : ((bt a0 x7_1) == 127) = false := beq_eq_false_iff_ne.mpr c8
                  have c8b1 : ((bt a0 x7_1) != 127) = true := bne_iff_ne.mpr c8
                  have H' := Aside0.mk H
                  clear H
                  have p5 : 0 ≤ (x7_1 : Int) := of_decide_eq_true (by first | (with_reducible assumption) | assumption)
                  have q5 : x7_1 < (a0.size : Int) := of_decide_eq_true (by first | (with_reducible assumption) | assumption)
                  have hx5 := bt_at a0 x7_1
                  replace p5 := eq_true p5
                  replace q5 := eq_true q5
                  go_wp2
                  go_roundg k1
                  case measure => have := HK1.out; omega
                  case rel => exact ⟨(wrap64 (x7_1 + 1)), (by first | rfl | (simp; done) | (simp [*]; done)), H', ⟨by have := HK1.out; omega⟩, by repeat (first | exact Drawn0.refl _ | apply Drawn0.step)⟩
          · rw [if_neg c4] at H
            exact absurd H (by simp)
        · rw [if_neg c3] at H
          exact absurd H (by simp)
      · rw [if_neg c2] at H
        have c2b0 : decide (x7_1 < (a0.size : Int)) = false := decide_eq_false c2
        clear c2
        obtain rfl := Option.some.inj H
        go_wp2
        go_ret
        exact ⟨by first | rfl | (simp; done) | (simp [*]; done), by repeat (first | exact Drawn0.refl _ | apply Drawn0.step)⟩
end Go.Proofs.YteehjlciajhdoaaGreatDoor.X
namespace Go.Proofs.YteehjlciajhdoaaGreatDoor.X
open Go.RowKit Go.Proofs.YteehjlciajhdoaaGreatDoorW.PrintWords Go.Proofs.YteehjlciajhdoaaGreatDoorW.PrintLast Go.Proofs.YteehjlciajhdoaaGreatDoorW.PrintMore
attribute [local go_sem] max2_int min2_int max_two min_two max_three min_three max_four min_four
set_option linter.unusedVariables false
set_option linter.unusedSimpArgs false
def stringslite_HasPrefix.f (a0 : ByteArray) (a1 : ByteArray) : Option (Bool) := if (a0.size : Int) ≥ (a1.size : Int) then (if 0 ≤ (a1.size : Int) then (if (a1.size : Int) ≤ (a0.size : Int) then (some ((a0.extract 0 ((a1.size : Int) : Int).toNat).toList == a1.toList)) else (none)) else (none)) else (some false)
set_option maxHeartbeats 8000000 in
set_option maxRecDepth 100000 in
theorem stringslite_HasPrefix.calls (a0 : ByteArray) (a1 : ByteArray) (r : Bool) (w : World) (h : stringslite_HasPrefix.f a0 a1 = some r) :
    Calls Tryz.prog 159 #[.string a0, .string a1] w fun e w' => e = .returned (.bool r) ∧ Drawn0 w w' := by
  have H : (if (a0.size : Int) ≥ (a1.size : Int) then (if 0 ≤ (a1.size : Int) then (if (a1.size : Int) ≤ (a0.size : Int) then (some ((a0.extract 0 ((a1.size : Int) : Int).toNat).toList == a1.toList)) else (none)) else (none)) else (some false)) = some r := h
  clear h
  by_cases c3 : (a0.size : Int) ≥ (a1.size : Int)
  · rw [if_pos c3] at H
    have c3b0 : decide ((a1.size : Int) ≤ (a0.size : Int)) = true := decide_eq_true c3
    have c3b1 : decide (a1.size ≤ a0.size) = true := decide_eq_true (Int.ofNat_le.mp c3)
    clear c3
    by_cases c4 : 0 ≤ (a1.size : Int)
    · rw [if_pos c4] at H
      have c4b0 := eq_true c4
      have c4b1 : decide (0 ≤ (a1.size : Int)) = true := decide_eq_true c4
      clear c4
      by_cases c5 : (a1.size : Int) ≤ (a0.size : Int)
      · rw [if_pos c5] at H
        have c5b0 := eq_true c5
        have c5b1 : decide ((a1.size : Int) ≤ (a0.size : Int)) = true := decide_eq_true c5
        clear c5
        obtain rfl := Option.some.inj H
        go_enter Tryz.func159, Tryz.ntmps159
        go_wp2
        go_ret
        exact ⟨by first | rfl | (simp; done) | (simp [*]; done), by repeat (first | exact Drawn0.refl _ | apply Drawn0.step)⟩
      · rw [if_neg c5] at H
        exact absurd H (by simp)
    · rw [if_neg c4] at H
      exact absurd H (by simp)
  · rw [if_neg c3] at H
    have c3b0 : decide ((a1.size : Int) ≤ (a0.size : Int)) = false := decide_eq_false c3
    have c3b1 : decide (a1.size ≤ a0.size) = false := decide_eq_false (fun h => c3 (Int.ofNat_le.mpr h))
    clear c3
    obtain rfl := Option.some.inj H
    go_enter Tryz.func159, Tryz.ntmps159
    go_wp2
    go_ret
    exact ⟨by first | rfl | (simp; done) | (simp [*]; done), by repeat (first | exact Drawn0.refl _ | apply Drawn0.step)⟩
end Go.Proofs.YteehjlciajhdoaaGreatDoor.X
namespace Go.Proofs.YteehjlciajhdoaaGreatDoor.X
open Go.RowKit Go.Proofs.YteehjlciajhdoaaGreatDoorW.PrintWords Go.Proofs.YteehjlciajhdoaaGreatDoorW.PrintLast Go.Proofs.YteehjlciajhdoaaGreatDoorW.PrintMore
attribute [local go_sem] max2_int min2_int max_two min_two max_three min_three max_four min_four
set_option linter.unusedVariables false
set_option linter.unusedSimpArgs false
def strings_HasPrefix.f (a0 : ByteArray) (a1 : ByteArray) : Option (Bool) := (stringslite_HasPrefix.f a0 a1).bind fun t101 => (some t101)
set_option maxHeartbeats 8000000 in
set_option maxRecDepth 100000 in
theorem strings_HasPrefix.calls (a0 : ByteArray) (a1 : ByteArray) (r : Bool) (w : World) (h : strings_HasPrefix.f a0 a1 = some r) :
    Calls Tryz.prog 106 #[.string a0, .string a1] w fun e w' => e = .returned (.bool r) ∧ Drawn0 w w' := by
  have H : ((stringslite_HasPrefix.f a0 a1).bind fun t101 => (some t101)) = some r := h
  clear h
  replace H := Option.bind_eq_some_iff.mp H
  obtain ⟨t101, A30, H⟩ := H
  replace H : (some t101) = some r := H
  have A3 := Aside0.mk A30
  clear A30
  obtain rfl := Option.some.inj H
  go_enter Tryz.func106, Tryz.ntmps106
  go_wp2_with (first | ((with_reducible refine gate_callee (f := 159) rfl ?_); refine goesL_ (some 7) rfl rfl Tryz.func159 (by kernel_rfl) rfl #[.string a0, .string a1] rfl (by (try simp only [List.map_toArray, List.map_cons, List.map_nil]); first | done | rfl | (simp only [List.length_drop, List.length_take]; rfl)) ?_; (with_reducible refine (stringslite_HasPrefix.calls a0 a1 t101 _ A3.out).mono ?_); rintro e w' ⟨rfl, ⟨nd, rfl⟩⟩; refine ⟨_, rfl, ?_⟩))
  go_ret
  exact ⟨by first | rfl | (simp; done) | (simp [*]; done), by repeat (first | exact Drawn0.refl _ | apply Drawn0.step)⟩
end Go.Proofs.YteehjlciajhdoaaGreatDoor.X
namespace Go.Proofs.YteehjlciajhdoaaGreatDoor.X
open Go.RowKit Go.Proofs.YteehjlciajhdoaaGreatDoorW.PrintWords Go.Proofs.YteehjlciajhdoaaGreatDoorW.PrintLast Go.Proofs.YteehjlciajhdoaaGreatDoorW.PrintMore
attribute [local go_sem] max2_int min2_int max_two min_two max_three min_three max_four min_four
set_option linter.unusedVariables false
set_option linter.unusedSimpArgs false
def stringslite_Cut.f (a0 : ByteArray) (a1 : ByteArray) : Option (ByteArray × ByteArray × Bool) := (stringslite_Index.f a0 a1).bind fun t101 => (if t101 ≥ 0 then (if 0 ≤ t101 then (if t101 ≤ (a0.size : Int) then (if 0 ≤ (wrap64 (t101 + (a1.size : Int))) then (if (wrap64 (t101 + (a1.size : Int))) ≤ (a0.size : Int) then (some (a0.extract 0 (t101 : Int).toNat, a0.extract ((wrap64 (t101 + (a1.size : Int))) : Int).toNat a0.size, true)) else (none)) else (none)) else (none)) else (none)) else (some (a0, (⟨#[]⟩ : ByteArray), false)))
set_option maxHeartbeats 8000000 in
set_option maxRecDepth 100000 in
theorem stringslite_Cut.calls (a0 : ByteArray) (a1 : ByteArray) (r1 : ByteArray) (r2 : ByteArray) (r3 : Bool) (w : World) (h : stringslite_Cut.f a0 a1 = some (r1, r2, r3)) :
    Calls Tryz.prog 122 #[.string a0, .string a1] w fun e w' => e = .returned (.tuple #[.string r1, .string r2, .bool r3]) ∧ Drawn0 w w' := by
  have H : ((stringslite_Index.f a0 a1).bind fun t101 => (if t101 ≥ 0 then (if 0 ≤ t101 then (if t101 ≤ (a0.size : Int) then (if 0 ≤ (wrap64 (t101 + (a1.size : Int))) then (if (wrap64 (t101 + (a1.size : Int))) ≤ (a0.size : Int) then (some (a0.extract 0 (t101 : Int).toNat, a0.extract ((wrap64 (t101 + (a1.size : Int))) : Int).toNat a0.size, true)) else (none)) else (none)) else (none)) else (none)) else (some (a0, (⟨#[]⟩ : ByteArray), false)))) = some (r1, r2, r3) := h
  clear h
  replace H := Option.bind_eq_some_iff.mp H
  obtain ⟨t101, A30, H⟩ := H
  replace H : (if t101 ≥ 0 then (if 0 ≤ t101 then (if t101 ≤ (a0.size : Int) then (if 0 ≤ (wrap64 (t101 + (a1.size : Int))) then (if (wrap64 (t101 + (a1.size : Int))) ≤ (a0.size : Int) then (some (a0.extract 0 (t101 : Int).toNat, a0.extract ((wrap64 (t101 + (a1.size : Int))) : Int).toNat a0.size, true)) else (none)) else (none)) else (none)) else (none)) else (some (a0, (⟨#[]⟩ : ByteArray), false))) = some (r1, r2, r3) := H
  have A3 := Aside0.mk A30
  clear A30
  by_cases c4 : t101 ≥ 0
  · rw [if_pos c4] at H
    have c4b0 : decide (0 ≤ t101) = true := decide_eq_true c4
    clear c4
    by_cases c5 : 0 ≤ t101
    · rw [if_pos c5] at H
      have c5b0 := eq_true c5
      have c5b1 : decide (0 ≤ t101) = true := decide_eq_true c5
      clear c5
      by_cases c6 : t101 ≤ (a0.size : Int)
      · rw [if_pos c6] at H
        have c6b0 := eq_true c6
        have c6b1 : decide (t101 ≤ (a0.size : Int)) = true := decide_eq_true c6
        clear c6
        obtain ⟨ji7, hji7⟩ : ∃ j_ : Int, (wrap64 (t101 + (a1.size : Int))) = j_ := ⟨_, rfl⟩
        replace H : (if 0 ≤ (ji7) then (if (ji7) ≤ (a0.size : Int) then (some (a0.extract 0 (t101 : Int).toNat, a0.extract ((ji7) : Int).toNat a0.size, true)) else (none)) else (none)) = some (r1, r2, r3) := by first | (rw [hji7] at H; exact H) | (simp only [hji7] at H ⊢; exact H)
        (try rw [hji7] at A3)
        have hji7w : (IntKind.i64.wrap (t101 + (a1.size : Int))) = ji7 := (i64_w _).trans hji7
        by_cases c8 : 0 ≤ (ji7)
        · rw [if_pos c8] at H
          have c8b0 := eq_true c8
          have c8b1 : decide (0 ≤ (ji7)) = true := decide_eq_true c8
          clear c8
          by_cases c9 : (ji7) ≤ (a0.size : Int)
          · rw [if_pos c9] at H
            have c9b0 := eq_true c9
            have c9b1 : decide ((ji7) ≤ (a0.size : Int)) = true := decide_eq_true c9
            clear c9
            simp only [Option.some.injEq, Prod.mk.injEq] at H
            obtain ⟨rfl, rfl, rfl⟩ := H
            go_enter Tryz.func122, Tryz.ntmps122
            go_wp2_with (first | (go_at_call 169; (with_reducible refine (stringslite_Index.calls a0 a1 t101 _ A3.out).mono ?_); rintro e w' ⟨rfl, ⟨nd, rfl⟩⟩; (try first | exact ⟨rfl, _, World.drewN_drewN _ _ _⟩ | exact ⟨rfl, _, Eq.trans (World.drewN_drewN _ _ _) (congrArg (World.drewN _) (Nat.add_assoc _ _ _))⟩)))
            repeat (go_quiet (first | (go_at_call 169; (with_reducible refine (stringslite_Index.calls a0 a1 t101 _ A3.out).mono ?_); rintro e w' ⟨rfl, ⟨nd, rfl⟩⟩; (try first | exact ⟨rfl, _, World.drewN_drewN _ _ _⟩ | exact ⟨rfl, _, Eq.trans (World.drewN_drewN _ _ _) (congrArg (World.drewN _) (Nat.add_assoc _ _ _))⟩))); try go_wp2_with (first | (go_at_call 169; (with_reducible refine (stringslite_Index.calls a0 a1 t101 _ A3.out).mono ?_); rintro e w' ⟨rfl, ⟨nd, rfl⟩⟩; (try first | exact ⟨rfl, _, World.drewN_drewN _ _ _⟩ | exact ⟨rfl, _, Eq.trans (World.drewN_drewN _ _ _) (congrArg (World.drewN _) (Nat.add_assoc _ _ _))⟩))))
            go_ret3
            exact ⟨by first | rfl | (simp; done) | (simp only [← hji7] <;> (first | rfl | simp)) | (simp [*]; done), by repeat (first | exact Drawn0.refl _ | apply Drawn0.step)⟩
          · rw [if_neg c9] at H
            exact absurd H (by simp)
        · rw [if_neg c8] at H
          exact absurd H (by simp)
      · rw [if_neg c6] at H
        exact absurd H (by simp)
    · rw [if_neg c5] at H
      exact absurd H (by simp)
  · rw [if_neg c4] at H
    have c4b0 : decide (0 ≤ t101) = false := decide_eq_false c4
    clear c4
    simp only [Option.some.injEq, Prod.mk.injEq] at H
    obtain ⟨rfl, rfl, rfl⟩ := H
    go_enter Tryz.func122, Tryz.ntmps122
    go_wp2_with (first | (go_at_call 169; (with_reducible refine (stringslite_Index.calls a0 a1 t101 _ A3.out).mono ?_); rintro e w' ⟨rfl, ⟨nd, rfl⟩⟩; (try first | exact ⟨rfl, _, World.drewN_drewN _ _ _⟩ | exact ⟨rfl, _, Eq.trans (World.drewN_drewN _ _ _) (congrArg (World.drewN _) (Nat.add_assoc _ _ _))⟩)))
    repeat (go_quiet (first | (go_at_call 169; (with_reducible refine (stringslite_Index.calls a0 a1 t101 _ A3.out).mono ?_); rintro e w' ⟨rfl, ⟨nd, rfl⟩⟩; (try first | exact ⟨rfl, _, World.drewN_drewN _ _ _⟩ | exact ⟨rfl, _, Eq.trans (World.drewN_drewN _ _ _) (congrArg (World.drewN _) (Nat.add_assoc _ _ _))⟩))); try go_wp2_with (first | (go_at_call 169; (with_reducible refine (stringslite_Index.calls a0 a1 t101 _ A3.out).mono ?_); rintro e w' ⟨rfl, ⟨nd, rfl⟩⟩; (try first | exact ⟨rfl, _, World.drewN_drewN _ _ _⟩ | exact ⟨rfl, _, Eq.trans (World.drewN_drewN _ _ _) (congrArg (World.drewN _) (Nat.add_assoc _ _ _))⟩))))
    go_ret3
    exact ⟨by first | rfl | (simp; done) | (simp [*]; done), by repeat (first | exact Drawn0.refl _ | apply Drawn0.step)⟩
end Go.Proofs.YteehjlciajhdoaaGreatDoor.X
namespace Go.Proofs.YteehjlciajhdoaaGreatDoor.X
open Go.RowKit Go.Proofs.YteehjlciajhdoaaGreatDoorW.PrintWords Go.Proofs.YteehjlciajhdoaaGreatDoorW.PrintLast Go.Proofs.YteehjlciajhdoaaGreatDoorW.PrintMore
attribute [local go_sem] max2_int min2_int max_two min_two max_three min_three max_four min_four
set_option linter.unusedVariables false
set_option linter.unusedSimpArgs false
def strings_Cut.f (a0 : ByteArray) (a1 : ByteArray) : Option (ByteArray × ByteArray × Bool) := (stringslite_Cut.f a0 a1).bind fun bt101 => (some (bt101.1, bt101.2.1, bt101.2.2))
set_option maxHeartbeats 8000000 in
set_option maxRecDepth 100000 in
theorem strings_Cut.calls (a0 : ByteArray) (a1 : ByteArray) (r1 : ByteArray) (r2 : ByteArray) (r3 : Bool) (w : World) (h : strings_Cut.f a0 a1 = some (r1, r2, r3)) :
    Calls Tryz.prog 62 #[.string a0, .string a1] w fun e w' => e = .returned (.tuple #[.string r1, .string r2, .bool r3]) ∧ Drawn0 w w' := by
  have H : ((stringslite_Cut.f a0 a1).bind fun bt101 => (some (bt101.1, bt101.2.1, bt101.2.2))) = some (r1, r2, r3) := h
  clear h
  replace H := Option.bind_eq_some_iff.mp H
  obtain ⟨⟨t101, t102, t103⟩, A30, H⟩ := H
  replace H : (some (t101, t102, t103)) = some (r1, r2, r3) := H
  have A3 := Aside0.mk A30
  clear A30
  simp only [Option.some.injEq, Prod.mk.injEq] at H
  obtain ⟨rfl, rfl, rfl⟩ := H
  go_enter Tryz.func62, Tryz.ntmps62
  go_wp2_with (first | ((with_reducible refine gate_callee (f := 122) rfl ?_); refine goesL_ (some 9) rfl rfl Tryz.func122 (by kernel_rfl) rfl #[.string a0, .string a1] rfl (by (try simp only [List.map_toArray, List.map_cons, List.map_nil]); first | done | rfl | (simp only [List.length_drop, List.length_take]; rfl)) ?_; (with_reducible refine (stringslite_Cut.calls a0 a1 t101 t102 t103 _ A3.out).mono ?_); rintro e w' ⟨rfl, ⟨nd, rfl⟩⟩; refine ⟨_, rfl, ?_⟩))
  go_ret3
  exact ⟨by first | rfl | (simp; done) | (simp [*]; done), by repeat (first | exact Drawn0.refl _ | apply Drawn0.step)⟩
end Go.Proofs.YteehjlciajhdoaaGreatDoor.X
namespace Go.Proofs.YteehjlciajhdoaaGreatDoor.X
set_option linter.unusedVariables false
set_option linter.unusedSimpArgs false
open Go.RowKit Go.Proofs.YteehjlciajhdoaaGreatDoorW.PrintWords Go.Proofs.YteehjlciajhdoaaGreatDoorW.PrintLast Go.Proofs.YteehjlciajhdoaaGreatDoorW.PrintMore
theorem indexByte_neg (l : List UInt8) (c : UInt8) : (Lib.indexByte l c < 0) ↔ l.contains c = false := by
  induction l with
  | nil => simp [Lib.indexByte]
  | cons b l ih =>
    unfold Lib.indexByte
    by_cases h : b = c
    · subst h; simp
    · have hb : (b == c) = false := by simpa using h
      have hc : (c == b) = false := by simpa using Ne.symm h
      rw [hb]
      simp only [Bool.false_eq_true, if_false]
      by_cases h1 : Lib.indexByte l c = -1
      · rw [h1]; simp only [beq_self_eq_true, if_true]
        have := ih.1 (by omega)
        simp only [List.contains_cons, hc, this, Bool.or_self]; simp
      · have h2 : (Lib.indexByte l c == -1) = false := by simpa using h1
        rw [h2]; simp only [Bool.false_eq_true, if_false]
        constructor
        · intro h3
          have h4 := Lib.indexByte_ge l c
          omega
        · intro h3
          simp only [List.contains_cons, hc, Bool.false_or] at h3
          have := ih.2 h3
          omega
theorem tokI (c : UInt8) : strings_IndexByte.f (⟨#[33, 35, 36, 37, 38, 39, 42, 43, 45, 46, 94, 95, 96, 124, 126]⟩ : ByteArray) (c.toNat : Int) = some (Lib.indexByte [33, 35, 36, 37, 38, 39, 42, 43, 45, 46, 94, 95, 96, 124, 126] c) := by
  unfold strings_IndexByte.f
  simp
theorem infra_Token_l0 (l : List UInt8) (hl : l.length ≤ 4611686018427387904) : ∀ (rest pre : List UInt8) (i : Int), l = pre ++ rest → i = pre.length →
    Ev (fun k => infra_Token.l0 k (B l) (l.length : Int) i) (rest.all tokc && !l.isEmpty) := by
  intro rest
  induction rest with
  | nil =>
    intro pre i he hi
    refine Ev.step (f := fun _ => some (!l.isEmpty)) (fun k => ?_) (Ev.now _)
    simp only [infra_Token.l0]
    rw [if_neg (by rw [he, hi]; simp), toList_B]
    cases l <;> rfl
  | cons c rest ih =>
    intro pre i he hi
    have hlt : i < (l.length : Int) := by rw [he, hi]; simp; omega
    have h0 : 0 ≤ i := by omega
    have hsz : i < ((B l).size : Int) := by rw [size_B]; exact hlt
    have hb : bt (B l) i = (c.toNat : Int) := by rw [he]; exact bt_mid' pre rest c i hi
    have hw : wrap64 (i + 1) = i + 1 := w64 (by omega) (by omega)
    have hn := ih (pre ++ [c]) (i + 1) (by rw [he]; simp) (by rw [hi]; simp)
    have hI := tokI c
    have hneg := indexByte_neg [33, 35, 36, 37, 38, 39, 42, 43, 45, 46, 94, 95, 96, 124, 126] c
    refine Ev.step (f := fun k => if tokc c = true then infra_Token.l0 k (B l) (l.length : Int) (i + 1) else some false) (fun k => ?_) ?_
    · simp only [infra_Token.l0]
      rw [if_pos hlt, if_pos h0, if_pos hsz]
      simp only [hb, hw, hI, Option.bind_some]
      unfold tokc
      by_cases h1 : (c.toNat : Int) ≥ 97 <;> by_cases h2 : (c.toNat : Int) ≤ 122 <;> by_cases h3 : (c.toNat : Int) ≥ 65 <;> by_cases h4 : (c.toNat : Int) ≤ 90 <;> by_cases h5 : (c.toNat : Int) ≥ 48 <;> by_cases h6 : (c.toNat : Int) ≤ 57 <;> by_cases h7 : Lib.indexByte [33, 35, 36, 37, 38, 39, 42, 43, 45, 46, 94, 95, 96, 124, 126] c < 0
      all_goals first
        | (exfalso; omega)
        | skip
      all_goals
        simp only [h1, h2, h3, h4, h5, h6, h7, if_true, if_false]
        first
        | (rw [if_pos]; simp only [Bool.or_eq_true, Bool.and_eq_true, decide_eq_true_eq]; first | (left; left; left; omega) | (left; left; right; omega) | (left; right; omega) | (right; by_cases hc : ([33, 35, 36, 37, 38, 39, 42, 43, 45, 46, 94, 95, 96, 124, 126] : List UInt8).contains c = true; exact hc; exact absurd (hneg.2 (by simpa using hc)) h7))
        | (rw [if_neg]; simp only [Bool.or_eq_true, Bool.and_eq_true, decide_eq_true_eq]; rintro (((h | h) | h) | h) <;> first | omega | (rw [hneg.1 h7] at h; cases h))
    · by_cases ht : tokc c = true
      · simp only [if_pos ht, List.all_cons, ht, Bool.true_and]; exact hn
      · simp only [if_neg ht]
        have : tokc c = false := by simpa using ht
        simp only [List.all_cons, this, Bool.false_and]
        exact Ev.now _
theorem infra_Token_ev (l : List UInt8) (hl : l.length ≤ 4611686018427387904) : Ev (fun k => infra_Token.f k (B l)) (isTok l) := by
  have := infra_Token_l0 l hl l [] 0 rfl rfl
  unfold infra_Token.f isTok
  simp only [size_B]
  exact this
theorem mime_fine_l0 (l : List UInt8) (hl : l.length ≤ 4611686018427387904) : ∀ (rest pre : List UInt8) (i : Int), l = pre ++ rest → i = pre.length →
    Ev (fun k => mime_fine.l0 k (B l) (l.length : Int) i) (rest.all finec) := by
  intro rest
  induction rest with
  | nil =>
    intro pre i he hi
    refine Ev.step (f := fun _ => some true) (fun k => ?_) (Ev.now _)
    simp only [mime_fine.l0]
    rw [if_neg (by rw [he, hi]; simp)]
  | cons c rest ih =>
    intro pre i he hi
    have hlt : i < (l.length : Int) := by rw [he, hi]; simp; omega
    have h0 : 0 ≤ i := by omega
    have hsz : i < ((B l).size : Int) := by rw [size_B]; exact hlt
    have hb : bt (B l) i = (c.toNat : Int) := by rw [he]; exact bt_mid' pre rest c i hi
    have hw : wrap64 (i + 1) = i + 1 := w64 (by omega) (by omega)
    have hn := ih (pre ++ [c]) (i + 1) (by rw [he]; simp) (by rw [hi]; simp)
    refine Ev.step (f := fun k => if finec c = true then mime_fine.l0 k (B l) (l.length : Int) (i + 1) else some false) (fun k => ?_) ?_
    · simp only [mime_fine.l0]
      rw [if_pos hlt, if_pos h0, if_pos hsz]
      simp only [hb, hw]
      have hf : finec c = true ↔ ((c.toNat : Int) = 9 ∨ (32 ≤ (c.toNat : Int) ∧ (c.toNat : Int) ≠ 127)) := by
        unfold finec
        simp only [Bool.or_eq_true, Bool.and_eq_true, decide_eq_true_eq, beq_iff_eq, bne_iff_ne]
        omega
      by_cases h1 : (c.toNat : Int) = 9
      · rw [if_pos h1, if_pos (hf.2 (.inl h1))]
      · rw [if_neg h1]
        by_cases h2 : (c.toNat : Int) < 32
        · rw [if_pos h2, if_neg (by rw [hf]; omega)]
        · rw [if_neg h2]
          by_cases h3 : (c.toNat : Int) = 127
          · rw [if_pos h3, if_neg (by rw [hf]; omega)]
          · rw [if_neg h3, if_pos (hf.2 (.inr (by omega)))]
    · by_cases ht : finec c = true
      · simp only [if_pos ht, List.all_cons, ht, Bool.true_and]; exact hn
      · simp only [if_neg ht]
        have : finec c = false := by simpa using ht
        simp only [List.all_cons, this, Bool.false_and]
        exact Ev.now _
theorem mime_fine_ev (l : List UInt8) (hl : l.length ≤ 4611686018427387904) : Ev (fun k => mime_fine.f k (B l)) (isFine l) := by
  have := mime_fine_l0 l hl l [] 0 rfl rfl
  unfold mime_fine.f isFine
  simp only [size_B]
  exact this
theorem hasPrefix_ev (l p : List UInt8) : strings_HasPrefix.f (B l) (B p) = some (p.isPrefixOf l) := by
  unfold strings_HasPrefix.f stringslite_HasPrefix.f
  simp only [size_B, toList_B, B_extract]
  by_cases h : (l.length : Int) ≥ (p.length : Int)
  · rw [if_pos h, if_pos (by omega), if_pos (by omega)]
    simp only [Option.bind_some, Int.toNat_natCast, List.drop_zero, toList_B]
    congr 1
    rw [Bool.eq_iff_iff, beq_iff_eq, List.isPrefixOf_iff_prefix]
    constructor
    · intro e; exact e ▸ List.take_prefix _ _
    · intro e; exact (List.prefix_iff_eq_take.1 e).symm
  · rw [if_neg h]
    simp only [Option.bind_some]
    congr 1
    symm
    rw [Bool.eq_false_iff]
    intro e
    have := (List.isPrefixOf_iff_prefix.1 e).length_le
    omega
def cutc (c : UInt8) : List UInt8 → List UInt8 × List UInt8 × Bool
  | [] => ([], [], false)
  | b :: l => if b = c then ([], l, true) else (b :: (cutc c l).1, (cutc c l).2)
theorem cutc_index (c : UInt8) (l : List UInt8) : (Lib.indexByte l c < 0 ∧ cutc c l = (l, [], false)) ∨
    (0 ≤ Lib.indexByte l c ∧ Lib.indexByte l c < l.length ∧ cutc c l = (l.take (Lib.indexByte l c).toNat, l.drop ((Lib.indexByte l c).toNat + 1), true)) := by
  induction l with
  | nil => left; simp [Lib.indexByte, cutc]
  | cons b l ih =>
    unfold Lib.indexByte cutc
    by_cases h : b = c
    · right; subst h; simp
    · have hb : (b == c) = false := by simpa using h
      rw [hb, if_neg h]
      simp only [Bool.false_eq_true, if_false]
      rcases ih with ⟨h1, h2⟩ | ⟨h1, h2, h3⟩
      · have h4 := Lib.indexByte_ge l c
        have h5 : (Lib.indexByte l c == -1) = true := by simp; omega
        left; rw [h5, h2]; simp
      · right
        have h5 : (Lib.indexByte l c == -1) = false := by simp; omega
        rw [h5, h3]
        simp only [Bool.false_eq_true, if_false, List.length_cons]
        refine ⟨by omega, by omega, ?_⟩
        rw [show (Lib.indexByte l c + 1).toNat = (Lib.indexByte l c).toNat + 1 from by omega]
        simp
theorem cut_ev (l : List UInt8) (c : UInt8) (hl : l.length ≤ 4611686018427387904) : strings_Cut.f (B l) (B [c]) = some (B (cutc c l).1, B (cutc c l).2.1, (cutc c l).2.2) := by
  unfold strings_Cut.f stringslite_Cut.f stringslite_Index.f
  simp only [size_B, List.length_cons, List.length_nil, B_extract]
  rw [if_pos trivial]
  simp only [Option.bind_some, show [c].getD 0 0 = c from rfl]
  rcases cutc_index c l with ⟨h1, h2⟩ | ⟨h1, h2, h3⟩
  · rw [if_neg (by omega), h2]
    rfl
  · have hw : wrap64 (Lib.indexByte l c + ((0 + 1 : Nat) : Int)) = Lib.indexByte l c + 1 := by rw [w64 (by omega) (by omega)]; rfl
    rw [if_pos (by omega), if_pos h1, if_pos (by omega), hw, if_pos (by omega), if_pos (by omega), h3]
    simp only [Option.bind_some, List.drop_zero]
    rw [show (Lib.indexByte l c + 1).toNat = (Lib.indexByte l c).toNat + 1 from by omega, List.take_length]
end Go.Proofs.YteehjlciajhdoaaGreatDoor.X
namespace Go.Proofs.YteehjlciajhdoaaGreatDoor.X
open Go.RowKit Go.Proofs.YteehjlciajhdoaaGreatDoorW.PrintWords Go.Proofs.YteehjlciajhdoaaGreatDoorW.PrintLast Go.Proofs.YteehjlciajhdoaaGreatDoorW.PrintMore
attribute [local go_sem] max2_int min2_int max_two min_two max_three min_three max_four min_four
set_option linter.unusedVariables false
set_option linter.unusedSimpArgs false
def mime_Essence.f (a0_0 : ByteArray) (a0_1 : ByteArray) (l0_2 : List (S32)) : Option (ByteArray) := if a0_0.size + 1 ≤ 9223372036854775807 then (if (a0_0 ++ (⟨#[47]⟩ : ByteArray)).size + a0_1.size ≤ 9223372036854775807 then (some ((a0_0 ++ (⟨#[47]⟩ : ByteArray)) ++ a0_1)) else (none)) else (none)
set_option maxHeartbeats 8000000 in
set_option maxRecDepth 100000 in
theorem mime_Essence.calls (a0_0 : ByteArray) (a0_1 : ByteArray) (A0_2 : Option Addr) (c0_2 : Nat) (l0_2 : List (S32)) (r : ByteArray) (w : World) (hr0_2 : Kd.C k32 w A0_2 l0_2.length l0_2) (hc0_2 : l0_2.length ≤ c0_2) (h : mime_Essence.f a0_0 a0_1 l0_2 = some r) :
    Calls Tryz.prog 29 #[.agg #[.string a0_0, .string a0_1, .slice A0_2 l0_2.length c0_2]] w fun e w' => e = .returned (.string r) ∧ Below w.heap.size w w' := by
  have hu24 := Tryz.underlying24
  have HR0_2 := Aside0.mk hr0_2
  have HC0_2 := Aside0.mk hc0_2
  clear hr0_2 hc0_2
  have HB := Aside0.mk (Below.refl w.heap.size w)
  have H : (if a0_0.size + 1 ≤ 9223372036854775807 then (if (a0_0 ++ (⟨#[47]⟩ : ByteArray)).size + a0_1.size ≤ 9223372036854775807 then (some ((a0_0 ++ (⟨#[47]⟩ : ByteArray)) ++ a0_1)) else (none)) else (none)) = some r := h
  clear h
  by_cases c2 : a0_0.size + 1 ≤ 9223372036854775807
  · rw [if_pos c2] at H
    have c2b0 := eq_true c2
    have c2b1 : decide (a0_0.size + 1 ≤ 9223372036854775807) = true := decide_eq_true c2
    try have c2b2 : (9223372036854775807 < a0_0.size + 1) = False := eq_false (Nat.not_lt.2 c2)
    by_cases c3 : (a0_0 ++ (⟨#[47]⟩ : ByteArray)).size + a0_1.size ≤ 9223372036854775807
    · rw [if_pos c3] at H
      have c3b0 := eq_true c3
      have c3b1 : decide ((a0_0 ++ (⟨#[47]⟩ : ByteArray)).size + a0_1.size ≤ 9223372036854775807) = true := decide_eq_true c3
      try have c3b2 : (9223372036854775807 < (a0_0 ++ (⟨#[47]⟩ : ByteArray)).size + a0_1.size) = False := eq_false (Nat.not_lt.2 c3)
      obtain rfl := Option.some.inj H
      go_enter Tryz.func29, Tryz.ntmps29
      go_wp2_with (first | ((with_reducible refine gate_dst (N := 1) rfl ?_); refine box_event ?hg (N := 1) ?hd (cs := #[.string a0_0, .string a0_1, .slice A0_2 l0_2.length c0_2]) (t := 24) ?hr ?_; (case hd => rfl); (case hg => rfl); (case hr => first | (go_simp; done) | (go_simp; rfl)); intro gb101 hg w4 hbox hb; have n0_ := Aside0.mk (below_step (by repeat (first | (with_reducible first | exact HB.out | apply below_alloc | apply pw_below_drewN | apply below_drew1) | exact HB.out)) hb); have n1_ := Aside0.mk (hbox); have n2_ := Aside0.mk ((by rw [hg]; exact (below_size (by repeat (first | (with_reducible first | exact HB.out | apply below_alloc | apply pw_below_drewN | apply below_drew1) | exact HB.out))) : w.heap.size ≤ gb101)); have n3_ := Aside0.mk ((by rw [hg]; exact (below_size (by repeat (first | (with_reducible first | exact HB.out | apply below_alloc | apply pw_below_drewN | apply below_drew1) | exact HB.out))) : w.heap.size ≤ gb101)); clear HB; have HB := n0_; have BK101 := n1_; have GW101 := n2_; have GE101 := n3_; clear n0_ n1_ n2_ n3_; clear hb hbox hg; have hcz5_0 : w4.cell? ⟨gb101, 0, none⟩ = some (.string a0_0) := (blk_cell BK101.out 0).trans rfl; have hcz5_1 : w4.cell? ⟨gb101, 1, none⟩ = some (.string a0_1) := (blk_cell BK101.out 1).trans rfl; have hcz5_2 : w4.cell? ⟨gb101, 2, none⟩ = some (.slice A0_2 l0_2.length c0_2) := (blk_cell BK101.out 2).trans rfl; have hfz5_0 := blk_frozen BK101.out 0; have hfz5_1 := blk_frozen BK101.out 1; have hfz5_2 := blk_frozen BK101.out 2))
      go_ret
      exact ⟨by first | rfl | (simp [errW_none, errW_some] <;> rfl) | (simp [*, errW_none, errW_some] <;> rfl), by repeat (first | (with_reducible first | exact HB.out | apply below_alloc | apply pw_below_drewN | apply below_drew1 | refine below_set ?_ GE101.out) | exact HB.out)⟩
    · rw [if_neg c3] at H
      exact absurd H (by simp)
  · rw [if_neg c2] at H
    exact absurd H (by simp)
end Go.Proofs.YteehjlciajhdoaaGreatDoor.X
namespace Go.Proofs.YteehjlciajhdoaaGreatDoor.X
set_option linter.unusedVariables false
set_option linter.unusedSimpArgs false
open Go.RowKit Go.Proofs.YteehjlciajhdoaaGreatDoorW.PrintWords Go.Proofs.YteehjlciajhdoaaGreatDoorW.PrintLast Go.Proofs.YteehjlciajhdoaaGreatDoorW.PrintMore
def escT : List (UInt8 × List UInt8) := [(34, [92, 34]), (92, [92, 92])]
theorem escT_ok : TabOk escT := ⟨by decide, by decide, by decide, ⟨(34, [92, 34]), by decide, by decide⟩, by decide⟩
def escB (l : List UInt8) : List UInt8 := repl (tabOf escT) l
def valT (l : List UInt8) : List UInt8 := if isTok l = true then l else 34 :: escB l ++ [34]
def parT (p : S32) : List UInt8 := 59 :: Ls p.f0 ++ 61 :: valT (Ls p.f1)
def textL (mj mn : List UInt8) (ps : List S32) : List UInt8 := mj ++ 47 :: mn ++ ps.flatMap parT
theorem escT_reads (W : World) (g : Nat) (h : W.heap[g]? = some (.cells #[.string (⟨#[34]⟩ : ByteArray), .string (⟨#[92, 34]⟩ : ByteArray), .string (⟨#[92]⟩ : ByteArray), .string (⟨#[92, 92]⟩ : ByteArray)] 9 (0, 0))) : Kd.C Kd.string W (some ⟨g, 0, none⟩) (pairsL escT).length (pairsL escT) := by
  refine Kd.C_of_reads (d := ByteArray.empty) ⟨rfl, by decide, fun _ => ⟨_, rfl, fun j hj => ?_⟩⟩
  rw [add_none, blk_cell h]
  have : j < 4 := hj
  rcases j with _ | _ | _ | _ | j
  · rfl
  · rfl
  · rfl
  · rfl
  · omega
theorem textL_take (mj mn : List UInt8) (ps : List S32) (i : Nat) : (textL mj mn (ps.take i)).length ≤ (textL mj mn ps).length := by
  have : textL mj mn ps = textL mj mn (ps.take i) ++ (ps.drop i).flatMap parT := by
    unfold textL
    conv => lhs; rw [← List.take_append_drop i ps, List.flatMap_append]
    simp only [List.append_assoc, List.cons_append]
  rw [this, List.length_append]; omega
theorem textL_succ (mj mn : List UInt8) (ps : List S32) (i : Nat) (p) (h : ps[i]? = some p) : textL mj mn (ps.take (i + 1)) = textL mj mn (ps.take i) ++ parT p := by
  obtain ⟨hi, he⟩ := List.getElem?_eq_some_iff.1 h
  unfold textL
  rw [List.take_succ_eq_append_getElem hi, he, List.flatMap_append, List.append_assoc]
  simp
def mime_Text.f (a0_0 a0_1 : ByteArray) (l0_2 : List S32) : Option ByteArray :=
  if l0_2.all (fun p => decide (p.f1.size ≤ 1000000000)) = true then (if (textL (Ls a0_0) (Ls a0_1) l0_2).length ≤ 1000000000000000 then some (B (textL (Ls a0_0) (Ls a0_1) l0_2)) else none) else none
set_option maxHeartbeats 4000000 in
set_option maxRecDepth 100000 in
theorem text_calls (mj mn : List UInt8) (A0_2 : Option Addr) (c0_2 : Nat) (ps : List S32) (hv : ∀ p, p ∈ ps → p.f1.size ≤ 1000000000) (hl : (textL mj mn ps).length ≤ 1000000000000000) (w : World) (hr : Kd.C k32 w A0_2 ps.length ps) (hc : ps.length ≤ c0_2) :
    Calls Tryz.prog 18 #[.agg #[.string (B mj), .string (B mn), .slice A0_2 ps.length c0_2]] w fun e w' => e = .returned (.string (B (textL mj mn ps))) ∧ Below w.heap.size w w' := by
  have hu := Tryz.underlying24
  have hu2 := Tryz.underlying32
  have HR := Aside0.mk hr
  have HM := Aside0.mk hr.2.1
  have HV := Aside0.mk hv
  have HL := Aside0.mk hl
  have hl0 : mj.length + 1 + mn.length ≤ 1000000000000000 := by
    have := textL_take mj mn ps 0
    simp [textL] at this hl
    omega
  have hess : mime_Essence.f (B mj) (B mn) ps = some (B (mj ++ 47 :: mn)) := by
    unfold mime_Essence.f
    have e1 : B mj ++ (⟨#[47]⟩ : ByteArray) = B (mj ++ [47]) := B_append mj [47]
    rw [e1, B_append, size_B, size_B, size_B, if_pos (by omega), if_pos (by simp; omega)]
    simp
  have HE := Aside0.mk hess
  clear hr hv hl hl0 hess
  go_enter Tryz.func18, Tryz.ntmps18
  go_upto_region 2 with (go_at_call 29; refine (mime_Essence.calls _ _ _ _ _ _ _ (Kd.C_below HR.out (below_alloc (Below.refl _ _) _)) hc HE.out).mono ?_; rintro e w1 ⟨rfl, hb1⟩; have hbox := blk_below (blk_new w _) hb1; have hx2 : w1.cell? ⟨w.heap.size, 2, none⟩ = some (.slice A0_2 ps.length c0_2) := (blk_cell hbox 2).trans rfl; have HB1 := Aside0.mk (below_then (below_alloc (Below.refl _ _) _) (by simp) hb1); clear hb1 hbox)
  go_wp2
  go_loopg [3, 12] ps.length (fun k s3 s12 wx => ∃ (y : Int) (i : Nat), s3 = .string (B (textL mj mn (ps.take i))) ∧ s12 = .int .i64 y ∧ Aside0 (y = (i : Int)) ∧ Aside0 (i + k = ps.length) ∧ Aside0 (Below w.heap.size w wx))
  case atStart => exact ⟨0, 0, by simp [textL], rfl, ⟨rfl⟩, ⟨by omega⟩, HB1⟩
  case round =>
    obtain ⟨y, i, rfl, rfl, HY, HI, HW⟩ := hrel
    have hy := HY.out
    have hi := HI.out
    have hm := HM.out
    cases gk with
    | zero =>
      have ti : (y < (ps.length : Int)) = False := eq_false (by omega)
      have htk : ps.take i = ps := List.take_of_length_le (by omega)
      rw [htk]
      clear hy hi hm htk
      go_wp2
      go_ret
      exact ⟨rfl, HW.out⟩
    | succ k1 =>
      have ti : (y < (ps.length : Int)) = True := eq_true (by omega)
      have t0 : (0 ≤ y) = True := eq_true (by omega)
      obtain ⟨p, hp⟩ : ∃ p, ps[i]? = some p := ⟨_, List.getElem?_eq_getElem (by omega)⟩
      obtain ⟨ad, rfl, hz0, hz1⟩ := at_T32 (Kd.C_below HR.out HW.out) y (by omega) (by omega)
      have hrd : rd_T32 ps y = p := by
        rw [hy]; unfold rd_T32
        rw [Int.toNat_natCast, List.getD_eq_getElem?_getD, hp]; rfl
      rw [hrd] at hz0 hz1
      obtain ⟨nm, hnm⟩ : ∃ l, p.f0 = B l := ⟨Ls p.f0, (B_Ls _).symm⟩
      obtain ⟨v, hvv⟩ : ∃ l, p.f1 = B l := ⟨Ls p.f1, (B_Ls _).symm⟩
      have hpt : parT p = 59 :: nm ++ 61 :: valT v := by unfold parT; rw [hnm, hvv, Ls_B, Ls_B]
      rw [hnm] at hz0
      rw [hvv] at hz1
      have hpm : p ∈ ps := List.mem_of_getElem? hp
      have hv1 := HV.out p hpm
      rw [hvv, size_B] at hv1
      have hsu := textL_succ mj mn ps i p hp
      rw [hpt] at hsu
      have HS := Aside0.mk hsu
      have htl := textL_take mj mn ps (i + 1)
      rw [HS.out] at htl
      have HTL := Aside0.mk (Nat.le_trans htl HL.out)
      have hy2 := Aside0.mk (p := wrap64 (y + 1) = ((i + 1 : Nat) : Int)) (by rw [w64 (by omega) (by omega)]; omega)
      obtain ⟨kt, hkt⟩ := Ev.rounds (infra_Token_ev v (by omega))
      have HKT := Aside0.mk hkt
      clear hy hi hrd htl hkt hsu hpt hnm hvv
      go_upto_region 5 with fail
      have hbp := blk_new wr (.cells #[.string (B nm), .string (B v)] 32)
      have hb5 := below_alloc HW.out (.cells #[.string (B nm), .string (B v)] 32)
      have hgp0 : w.heap.size ≤ wr.heap.size := HW.out.size
      obtain ⟨w5, hw5⟩ : ∃ w5, w5 = wr.alloc (.cells #[.string (B nm), .string (B v)] 32) := ⟨_, rfl⟩
      rw [← hw5] at hbp hb5 ⊢
      obtain ⟨gp, hgp⟩ : ∃ gp, gp = wr.heap.size := ⟨_, rfl⟩
      rw [← hgp] at hbp hgp0 ⊢
      have HP5 := Aside0.mk hbp
      have HB5 := Aside0.mk hb5
      have hz5 : w5.cell? ⟨gp, 1, none⟩ = some (.string (B v)) := (blk_cell hbp 1).trans rfl
      clear hw5 hgp hbp hb5 hz0 hz1
      go_upto_if 20 with (go_at_call 64; refine (infra_Token.calls _ _ _ _ HKT.out).mono ?_; rintro e w7 ⟨rfl, hd7⟩; have HD7 := Aside0.mk hd7; clear hd7)
      go_cut [6] (fun s6 wx => s6 = .string (B (valT v)) ∧ Aside0 (Below w.heap.size w wx) ∧ Aside0 (wx.heap[gp]? = some (.cells #[.string (B nm), .string (B v)] 32 (0, 0))))
      case first =>
        cases htk : isTok v with
        | true =>
          have HVT := Aside0.mk (p := valT v = v) (by unfold valT; rw [if_pos htk])
          go_wp2_with fail
          go_meet
          case rel => exact ⟨by rw [HVT.out], ⟨below_then HB5.out HB5.out.size HD7.out.below⟩, ⟨blk_below HP5.out HD7.out.below⟩⟩
        | false =>
          have hvt : valT v = 34 :: repl (tabOf escT) v ++ [34] := by unfold valT; rw [if_neg (by rw [htk]; decide)]; rfl
          have HTL2 := HTL.out
          rw [hvt] at HTL2
          have hle : (repl (tabOf escT) v).length ≤ 1000000000000000 := by
            simp only [List.length_append, List.length_cons, List.length_singleton, List.length_nil] at HTL2
            omega
          have HVT := Aside0.mk hvt
          have f1 : (9223372036854775807 < 1 + (repl (tabOf escT) v).length) = False := eq_false (by omega)
          have f2 : (9223372036854775807 < 1 + (repl (tabOf escT) v).length + 1) = False := eq_false (by omega)
          clear HTL2 hle hvt
          go_wp2_with (first | (go_at_call 67; refine (newrep_calls escT (by decide) (by decide) (some ⟨w7.heap.size, 0, none⟩) 4 _ (escT_reads _ _ (blk_new w7 _))).mono ?_; rintro e w8 ⟨b, A', c', rfl, hf8, hbs8, hb8⟩; have HF8 := Aside0.mk hf8; have HBS8 := Aside0.mk hbs8; have HB8 := Aside0.mk hb8; clear hf8 hbs8 hb8) | (go_at_call 68; refine (replace_calls escT escT_ok v hv1 b A' c' _ HF8.out).mono ?_; rintro e w9 ⟨rfl, h9⟩; have H9 := Aside0.mk h9; clear h9))
          go_meet
          case rel =>
            have hs7 := HD7.out.below.size
            have hb7 := below_then HB5.out HB5.out.size HD7.out.below
            have hw7 : w.heap.size ≤ w7.heap.size := hb7.size
            have hb8 := below_then (below_alloc hb7 (.cells #[.string (⟨#[34]⟩ : ByteArray), .string (⟨#[92, 34]⟩ : ByteArray), .string (⟨#[92]⟩ : ByteArray), .string (⟨#[92, 92]⟩ : ByteArray)] 9)) (by simp; omega) HB8.out
            have hp8 := blk_below (blk_below (blk_below HP5.out HD7.out.below) (below_alloc (Below.refl _ _) _)) HB8.out
            have hbs := HBS8.out
            simp at hbs
            have h9a := H9.out _ _ hb8 (by omega)
            have h9b := H9.out (gp + 1) _ (Below.refl _ _) (by have := blk_lt (blk_below HP5.out HD7.out.below); omega)
            refine ⟨?_, ⟨h9a⟩, ⟨(h9b.block gp (by omega)).trans hp8⟩⟩
            rw [HVT.out]
            show Value.string (B [34] ++ B (repl (tabOf escT) v) ++ B [34]) = _
            rw [B_append, B_append]; rfl
      case rest =>
        obtain ⟨rfl, HBc, HPc⟩ := hcut
        have hz6 : wc.cell? ⟨gp, 0, none⟩ = some (.string (B nm)) := (blk_cell HPc.out 0).trans rfl
        have htl := HTL.out
        simp only [List.length_append, List.length_cons, List.length_singleton, List.length_nil] at htl
        have f1 : (9223372036854775807 < 1 + nm.length) = False := eq_false (by omega)
        have f2 : (9223372036854775807 < 1 + nm.length + 1) = False := eq_false (by omega)
        have f3 : (9223372036854775807 < 1 + nm.length + 1 + (valT v).length) = False := eq_false (by omega)
        have f4 : (9223372036854775807 < (textL mj mn (ps.take i)).length + (1 + nm.length + 1 + (valT v).length)) = False := eq_false (by omega)
        clear htl
        go_wp2_with fail
        have hi := HI.out
        go_roundg k1
        case measure => omega
        case rel =>
          refine ⟨_, i + 1, ?_, rfl, hy2, ⟨by omega⟩, HBc⟩
          show Value.string (B (textL mj mn (ps.take i)) ++ (B [59] ++ B nm ++ B [61] ++ B (valT v))) = _
          rw [B_append, B_append, B_append, B_append, HS.out]
          simp
theorem mime_Text.calls (a0_0 a0_1 : ByteArray) (A0_2 : Option Addr) (c0_2 : Nat) (l0_2 : List S32) (r : ByteArray) (w : World) (hr0_2 : Kd.C k32 w A0_2 l0_2.length l0_2) (hc0_2 : l0_2.length ≤ c0_2) (h : mime_Text.f a0_0 a0_1 l0_2 = some r) :
    Calls Tryz.prog 18 #[.agg #[.string a0_0, .string a0_1, .slice A0_2 l0_2.length c0_2]] w fun e w' => e = .returned (.string r) ∧ Below w.heap.size w w' := by
  unfold mime_Text.f at h
  split at h
  · rename_i h1
    split at h
    · rename_i h2
      obtain rfl := Option.some.inj h
      have := text_calls (Ls a0_0) (Ls a0_1) A0_2 c0_2 l0_2 (fun p hp => by simpa using List.all_eq_true.1 h1 p hp) h2 w hr0_2 hc0_2
      rw [B_Ls, B_Ls] at this
      exact this
    · cases h
  · cases h
end Go.Proofs.YteehjlciajhdoaaGreatDoor.X
namespace Go.Proofs.YteehjlciajhdoaaGreatDoor.X
set_option linter.unusedVariables false
set_option linter.unusedSimpArgs false
open Go.RowKit Go.Proofs.YteehjlciajhdoaaGreatDoorW.PrintWords Go.Proofs.YteehjlciajhdoaaGreatDoorW.PrintLast Go.Proofs.YteehjlciajhdoaaGreatDoorW.PrintMore
def qv : List UInt8 → List UInt8 × List UInt8
  | [] => ([], [])
  | c :: l => if c = 34 then ([], c :: l) else if c = 92 then (match l with
    | [] => ([92], [])
    | d :: l' => (d :: (qv l').1, (qv l').2)) else (c :: (qv l).1, (qv l).2)
theorem qv_len : ∀ (n : Nat) (l : List UInt8), l.length ≤ n → (qv l).1.length + (qv l).2.length ≤ l.length := by
  intro n
  induction n with
  | zero => intro l h; cases l with
    | nil => simp [qv]
    | cons c l => simp at h
  | succ n ih =>
    intro l h
    cases l with
    | nil => simp [qv]
    | cons c l =>
      unfold qv
      split
      · simp
      · split
        · cases l with
          | nil => simp
          | cons d l' =>
            simp only [List.length_cons] at h ⊢
            have := ih l' (by omega)
            omega
        · simp only [List.length_cons] at h ⊢
          have := ih l (by omega)
          omega
theorem strOfNums_bytes (l : List UInt8) : strOfNums (l.map fun c => (c.toNat : Int)) = B l := by
  unfold strOfNums B
  congr 2
  rw [List.map_map]
  conv => rhs; rw [← List.map_id l]
  apply List.map_congr_left
  intro c _
  simp
def numsB (l : List UInt8) : List Int := l.map fun c => (c.toNat : Int)
theorem numsB_length (l : List UInt8) : (numsB l).length = l.length := by simp [numsB]
theorem numsB_snoc (l : List UInt8) (c : UInt8) : numsB (l ++ [c]) = numsB l ++ [(c.toNat : Int)] := by simp [numsB]
theorem qv_plain {l : List UInt8} {j : Nat} {c : UInt8} (h : l[j]? = some c) (h1 : c ≠ 34) (h2 : c ≠ 92) : qv (l.drop j) = (c :: (qv (l.drop (j + 1))).1, (qv (l.drop (j + 1))).2) := by
  obtain ⟨hl, he⟩ := List.getElem?_eq_some_iff.1 h
  rw [List.drop_eq_getElem_cons hl, he]
  conv => lhs; unfold qv
  rw [if_neg h1, if_neg h2]
theorem qv_stop {l : List UInt8} {j : Nat} (h : l[j]? = some 34) : qv (l.drop j) = ([], l.drop j) := by
  obtain ⟨hl, he⟩ := List.getElem?_eq_some_iff.1 h
  rw [List.drop_eq_getElem_cons hl, he]
  conv => lhs; unfold qv
  rw [if_pos rfl]
theorem qv_esc {l : List UInt8} {j : Nat} {d : UInt8} (h : l[j]? = some 92) (h1 : l[j + 1]? = some d) : qv (l.drop j) = (d :: (qv (l.drop (j + 2))).1, (qv (l.drop (j + 2))).2) := by
  obtain ⟨hl, he⟩ := List.getElem?_eq_some_iff.1 h
  obtain ⟨hl1, he1⟩ := List.getElem?_eq_some_iff.1 h1
  rw [List.drop_eq_getElem_cons hl, he, List.drop_eq_getElem_cons hl1, he1]
  conv => lhs; unfold qv
  rfl
theorem qv_last {l : List UInt8} {j : Nat} (h : l[j]? = some 92) (h1 : l.length = j + 1) : qv (l.drop j) = ([92], []) := by
  obtain ⟨hl, he⟩ := List.getElem?_eq_some_iff.1 h
  rw [List.drop_eq_getElem_cons hl, he, List.drop_eq_nil_of_le (by omega)]
  rfl
theorem qv_end {l : List UInt8} {j : Nat} (h : l.length ≤ j) : qv (l.drop j) = ([], []) := by
  rw [List.drop_eq_nil_of_le h]; rfl
def RdBlk (W : World) (g : Nat) (mj mn : ByteArray) (v : Value) (s : ByteArray) : Prop := W.heap[g]? = some (.cells #[.string mj, .string mn, v, .string s] 109 (0, 0))
theorem rd_grown {w wr w1 : World} {g : Nat} {mj mn : ByteArray} {v vv : Value} {s : ByteArray} {xs : List Int} (h : RdBlk wr g mj mn v s) (hB : Below w.heap.size w wr) (hlt : g < w.heap.size) (HO : Kd.R (Kd.int .u8) 5 wr w.heap.size (fun _ => True) vv xs) (hg : wr.grownBy w1 vv.ownBlock) : RdBlk w1 g mj mn v s := by
  refine blk_grown h hg ?_
  intro e
  have := own_base (Kd.own_of_R HO) g e.symm
  omega
set_option maxHeartbeats 4000000 in
set_option maxRecDepth 100000 in
theorem quoted_calls (rest : List UInt8) (g : Nat) (mj mn : ByteArray) (v : Value) (w0 w : World) (hsz : rest.length + 1 ≤ 140737488355000) (hg : w0.heap.size ≤ g) (hB : Below w0.heap.size w0 w)
    (hh : RdBlk w g mj mn v (B (34 :: rest))) :
    Calls Tryz.prog 128 #[.pointer (some ⟨g, 0, none⟩)] w fun e w' => e = .returned (.string (B (qv rest).1)) ∧
      RdBlk w' g mj mn v (B (qv rest).2) ∧ Below w0.heap.size w0 w' ∧ KeepBut w w' g none := by
  have HG := Aside0.mk hg
  have HB := Aside0.mk hB
  have HH := Aside0.mk hh
  have hlt : g < w.heap.size := blk_lt hh
  have HLT := Aside0.mk hlt
  have hu := Tryz.underlying109
  have hu2 := Tryz.underlying24
  obtain ⟨s, hs⟩ : ∃ s, s = B (34 :: rest) := ⟨_, rfl⟩
  have hss : s.size = rest.length + 1 := by rw [hs, size_B]; rfl
  have hat : ∀ (k : Nat) (h : k < s.size), 1 ≤ k → rest[k - 1]? = some (s[k]'h) := by
    intro k h hk
    have h1 := Lib.data_getElem? s k h
    rw [← h1, hs]
    show _ = (34 :: rest)[k]?
    obtain ⟨j, rfl⟩ : ∃ j, k = j + 1 := ⟨k - 1, by omega⟩
    simp
  have HAT := Aside0.mk hat
  have HSS := Aside0.mk hss
  have HS := Aside0.mk hs
  clear hB hh hs hss hat
  go_enter Tryz.func128, Tryz.ntmps128
  go_wp2
  go_loopw [3, 4] (fun vv i wr => ∃ (k : Nat) (xs : List UInt8), 1 ≤ k ∧ k ≤ rest.length + 1 ∧ i = .int .i64 k ∧ Aside0 (xs ++ (qv (rest.drop (k - 1))).1 = (qv rest).1 ∧ (qv (rest.drop (k - 1))).2 = (qv rest).2) ∧
      Aside0 (Kd.R (Kd.int .u8) 5 wr w.heap.size (fun _ => True) vv (numsB xs)) ∧ Aside0 (RdBlk wr g mj mn v s) ∧ Aside0 (Below w.heap.size w wr) ∧ Aside0 (xs.length < k)) (fun _ i _ => rest.length + 1 - (intOf i).toNat)
  case atStart => exact ⟨1, [], by omega, by omega, rfl, ⟨by simp⟩, ⟨Kd.R_nil _ _ _ _ _⟩, ⟨HS.out ▸ HH.out⟩, ⟨Below.refl _ _⟩, ⟨by simp⟩⟩
  case round =>
    obtain ⟨k, xs, hk1, hk, rfl, HQ, HO, HHr, HBr, HX⟩ := hrel
    have hz3 : wr.cell? ⟨g, 3, none⟩ = some (.string s) := (blk_cell HHr.out 3).trans rfl
    have hss1 : s.size ≤ 140737488355000 := by have := HSS.out; omega
    have hss2 : s.size ≤ rest.length + 1 := by have := HSS.out; omega
    have hss3 : rest.length + 1 ≤ s.size := by have := HSS.out; omega
    by_cases hks : k < s.size
    · have hc := HAT.out k hks hk1
      by_cases h34 : (((s[k]'hks).toNat : Int) = 34)
      · have hne : (((s[k]'hks).toNat : Int) != 34) = false := by rw [bne_eq_false_iff_eq]; exact h34
        have hq := qv_stop (l := rest) (j := k - 1) (by rw [hc]; congr 1; exact u8_ext h34)
        have HQ2 := Aside0.mk (p := xs = (qv rest).1 ∧ rest.drop (k - 1) = (qv rest).2) (by have := HQ.out; rw [hq] at this; simpa using this)
        have hdr : s.extract k s.size = B (qv rest).2 := by
          rw [← HQ2.out.2, HS.out, B_extract, size_B, List.take_length]
          obtain ⟨j, rfl⟩ : ∃ j, k = j + 1 := ⟨k - 1, by omega⟩
          rfl
        have HD := Aside0.mk hdr
        clear hc hq h34 hdr
        obtain ⟨A, cc, rfl, hle, hC0⟩ := Kd.R_reads HO.out
        have HO2 := Kd.R_set HO.out HHr.out (by simp [Kd.int, Kd.scalar]) 3 (.string (s.extract k s.size))
        have hC := (Kd.R_reads' HO2).2.2
        have hst := Kd.C_string (P := Tryz.prog) (c := cc) (src := 84) (dst := 9) Tryz.underlying84 Tryz.underlying5 Tryz.underlying9 (Kd.C_drew hC)
        have hmin : min (k : Int) (s.size : Int) = (k : Int) := by omega
        have hf3 := blk_frozen HHr.out 3
        clear hC hC0 hle HO2
        go_wp2
        go_region
        go_wp2
        go_ret
        refine ⟨?_, ?_, ?_, ?_⟩
        · rw [← HQ2.out.1]; exact congrArg (fun z => Ending.returned (.string z)) (strOfNums_bytes xs)
        · rw [← HD.out]; exact blk_put HHr.out 3 (.string (s.extract k s.size)) rfl
        · exact ((HB.out.trans (HBr.out.mono HB.out.size)).setCell HG.out _).drew
        · exact ((KeepBut.of_below HBr.out g none).set_ 3 _)
      · have hne : (((s[k]'hks).toNat : Int) != 34) = true := by rw [bne_iff_ne]; exact h34
        by_cases h92 : (((s[k]'hks).toNat : Int) = 92)
        · have hne2 : (((s[k]'hks).toNat : Int) == 92) = true := beq_iff_eq.2 h92
          by_cases hk1s : k + 1 < s.size
          · have hc1 := HAT.out (k + 1) hk1s (by omega)
            have hq := qv_esc (l := rest) (j := k - 1) (d := s[k + 1]'hk1s) (by rw [hc]; congr 1; exact u8_ext h92) (by rw [← hc1]; congr 1; omega)
            have HQ2 := Aside0.mk (p := (xs ++ [s[k + 1]'hk1s]) ++ (qv (rest.drop (k + 2 - 1))).1 = (qv rest).1 ∧ (qv (rest.drop (k + 2 - 1))).2 = (qv rest).2) (by
              have h1 := HQ.out
              rw [hq] at h1
              rw [show k + 2 - 1 = k - 1 + 2 from by omega]
              refine ⟨?_, h1.2⟩
              rw [← h1.1]; simp)
            have HN := Aside0.mk (numsB_snoc xs (s[k + 1]'hk1s))
            have hxl := HX.out
            have hnl := numsB_length xs
            have HNL := Aside0.mk hnl
            clear hc hc1 hq h34 h92 hnl HQ
            go_wp2_with (first | ((with_reducible refine gate_builtin (b := .append) (xs := #[.tmp 42, .tmp 49]) rfl ?_); at_builtin; refine Kd.R_append (Kd.int .u8) (w0 := w) w.heap.size rfl (.tmp 42) (.tmp 49) 84 5 (.int .u8 0) 1 rfl Tryz.underlying84 info5 rfl (by decide) (by omega) u3 (numsB xs) ((s[k + 1]'hk1s).toNat : Int) [.int .u8 ((s[k + 1]'hk1s).toNat : Int)] (fun _ => True) (fun _ => False) rfl rfl ?aP (fun _ hk => hk.elim) (fun _ _ => trivial) ?aO ?aB ?aS ?aL ?_; (case aP => rfl); (case aO => exact HO.out); (case aB => exact HBr.out); (case aS => exact HBr.out.size); (case aL => rw [HNL.out]; omega); intro v1 w1 ho hb hg1 hat1; rw [← HN.out] at ho; have HO1 := Aside0.mk ho; have HB1 := Aside0.mk hb; have HR1 := Aside0.mk (rd_grown HHr.out HBr.out HLT.out HO.out hg1); clear ho hb hg1 hat1))
            go_roundw
            case rel => exact ⟨k + 2, xs ++ [s[k + 1]'hk1s], by omega, by omega, by go_num, HQ2, HO1, HR1, HB1, ⟨by simp; omega⟩⟩
            case measure => simp [intOf]; omega
          · have hq := qv_last (l := rest) (j := k - 1) (by rw [hc]; congr 1; exact u8_ext h92) (by omega)
            have h92' : s[k]'hks = 92 := u8_ext h92
            have HQ2 := Aside0.mk (p := (xs ++ [s[k]'hks]) ++ (qv (rest.drop (k + 1 - 1))).1 = (qv rest).1 ∧ (qv (rest.drop (k + 1 - 1))).2 = (qv rest).2) (by
              have h1 := HQ.out
              rw [hq] at h1
              rw [qv_end (by omega), h92']
              refine ⟨?_, h1.2⟩
              rw [← h1.1]; simp)
            have HN := Aside0.mk (numsB_snoc xs (s[k]'hks))
            have hxl := HX.out
            have hnl := numsB_length xs
            have HNL := Aside0.mk hnl
            clear hc hq h34 h92 h92' hnl HQ
            go_wp2_with (first | ((with_reducible refine gate_builtin (b := .append) (xs := #[.tmp 42, .tmp 49]) rfl ?_); at_builtin; refine Kd.R_append (Kd.int .u8) (w0 := w) w.heap.size rfl (.tmp 42) (.tmp 49) 84 5 (.int .u8 0) 1 rfl Tryz.underlying84 info5 rfl (by decide) (by omega) u3 (numsB xs) ((s[k]'hks).toNat : Int) [.int .u8 ((s[k]'hks).toNat : Int)] (fun _ => True) (fun _ => False) rfl rfl ?aP (fun _ hk => hk.elim) (fun _ _ => trivial) ?aO ?aB ?aS ?aL ?_; (case aP => rfl); (case aO => exact HO.out); (case aB => exact HBr.out); (case aS => exact HBr.out.size); (case aL => rw [HNL.out]; omega); intro v1 w1 ho hb hg1 hat1; rw [← HN.out] at ho; have HO1 := Aside0.mk ho; have HB1 := Aside0.mk hb; have HR1 := Aside0.mk (rd_grown HHr.out HBr.out HLT.out HO.out hg1); clear ho hb hg1 hat1))
            go_roundw
            case rel => exact ⟨k + 1, xs ++ [s[k]'hks], by omega, by omega, by go_num, HQ2, HO1, HR1, HB1, ⟨by simp; omega⟩⟩
            case measure => simp [intOf]; omega
        · have hne2 : (((s[k]'hks).toNat : Int) == 92) = false := beq_eq_false_iff_ne.2 h92
          have hq := qv_plain hc (fun e => h34 (by rw [e]; rfl)) (fun e => h92 (by rw [e]; rfl))
          have HQ2 := Aside0.mk (p := (xs ++ [s[k]'hks]) ++ (qv (rest.drop (k + 1 - 1))).1 = (qv rest).1 ∧ (qv (rest.drop (k + 1 - 1))).2 = (qv rest).2) (by
            have h1 := HQ.out
            rw [hq] at h1
            rw [show k + 1 - 1 = k - 1 + 1 from by omega]
            refine ⟨?_, h1.2⟩
            rw [← h1.1]; simp)
          have HN := Aside0.mk (numsB_snoc xs (s[k]'hks))
          have hxl := HX.out
          have hnl := numsB_length xs
          have HNL := Aside0.mk hnl
          clear hc hq h34 h92 hnl HQ
          go_wp2_with (first | ((with_reducible refine gate_builtin (b := .append) (xs := #[.tmp 42, .tmp 49]) rfl ?_); at_builtin; refine Kd.R_append (Kd.int .u8) (w0 := w) w.heap.size rfl (.tmp 42) (.tmp 49) 84 5 (.int .u8 0) 1 rfl Tryz.underlying84 info5 rfl (by decide) (by omega) u3 (numsB xs) ((s[k]'hks).toNat : Int) [.int .u8 ((s[k]'hks).toNat : Int)] (fun _ => True) (fun _ => False) rfl rfl ?aP (fun _ hk => hk.elim) (fun _ _ => trivial) ?aO ?aB ?aS ?aL ?_; (case aP => rfl); (case aO => exact HO.out); (case aB => exact HBr.out); (case aS => exact HBr.out.size); (case aL => rw [HNL.out]; omega); intro v1 w1 ho hb hg1 hat1; rw [← HN.out] at ho; have HO1 := Aside0.mk ho; have HB1 := Aside0.mk hb; have HR1 := Aside0.mk (rd_grown HHr.out HBr.out HLT.out HO.out hg1); clear ho hb hg1 hat1))
          go_roundw
          case rel => exact ⟨k + 1, xs ++ [s[k]'hks], by omega, by omega, by go_num, HQ2, HO1, HR1, HB1, ⟨by simp; omega⟩⟩
          case measure => simp [intOf]; omega
    · have hkl : rest.length ≤ k - 1 := by omega
      have hq := qv_end hkl
      have HQ2 := Aside0.mk (p := xs = (qv rest).1 ∧ [] = (qv rest).2) (by have := HQ.out; rw [hq] at this; simpa using this)
      have hdr : s.extract k s.size = B (qv rest).2 := by
        rw [← HQ2.out.2, HS.out, B_extract, size_B, List.take_length]
        obtain ⟨j, rfl⟩ : ∃ j, k = j + 1 := ⟨k - 1, by omega⟩
        show B (rest.drop j) = B []
        rw [List.drop_eq_nil_of_le (by omega)]
      have HD := Aside0.mk hdr
      obtain rfl : k = s.size := by omega
      clear hq hdr hkl
      obtain ⟨A, cc, rfl, hle, hC0⟩ := Kd.R_reads HO.out
      have HO2 := Kd.R_set HO.out HHr.out (by simp [Kd.int, Kd.scalar]) 3 (.string ByteArray.empty)
      have hC := (Kd.R_reads' HO2).2.2
      have hst := Kd.C_string (P := Tryz.prog) (c := cc) (src := 84) (dst := 9) Tryz.underlying84 Tryz.underlying5 Tryz.underlying9 (Kd.C_drew hC)
      have hf3 := blk_frozen HHr.out 3
      clear hC hC0 hle HO2
      go_wp2
      go_region
      go_wp2
      go_ret
      refine ⟨?_, ?_, ?_, ?_⟩
      · rw [← HQ2.out.1]; exact congrArg (fun z => Ending.returned (.string z)) (strOfNums_bytes xs)
      · rw [← HQ2.out.2]; exact blk_put HHr.out 3 (.string ByteArray.empty) rfl
      · exact ((HB.out.trans (HBr.out.mono HB.out.size)).setCell HG.out _).drew
      · exact ((KeepBut.of_below HBr.out g none).set_ 3 _)
end Go.Proofs.YteehjlciajhdoaaGreatDoor.X
namespace Go.Proofs.YteehjlciajhdoaaGreatDoor.X
set_option linter.unusedVariables false
set_option linter.unusedSimpArgs false
open Go.RowKit Go.Proofs.YteehjlciajhdoaaGreatDoorW.PrintWords Go.Proofs.YteehjlciajhdoaaGreatDoorW.PrintLast Go.Proofs.YteehjlciajhdoaaGreatDoorW.PrintMore
def lowI (c : Int) : Int := if 65 ≤ c ∧ c ≤ 90 then c + 32 else c
def lowB (s : ByteArray) : ByteArray := strOfNums ((bytesOf s).map lowI)
def lowSt (l : List Int) (k : Nat) : List Int := (l.take k).map lowI ++ l.drop k
theorem lowSt_length (l : List Int) (k : Nat) : (lowSt l k).length = l.length := by
  unfold lowSt; simp; omega
theorem lowSt_get (l : List Int) (k : Nat) (h : k < l.length) : (lowSt l k).getD k 0 = l.getD k 0 := by
  unfold lowSt
  rw [List.getD_eq_getElem?_getD, List.getElem?_append_right (by simp; omega)]
  simp [List.getD_eq_getElem?_getD, Nat.min_eq_left (Nat.le_of_lt h)]
theorem lowSt_set (l : List Int) (k : Nat) (h : k < l.length) : (lowSt l k).set k (lowI (l.getD k 0)) = lowSt l (k + 1) := by
  unfold lowSt
  rw [List.set_append_right _ _ (by simp; omega)]
  simp only [List.length_map, List.length_take, Nat.min_eq_left (Nat.le_of_lt h), Nat.sub_self]
  rw [List.drop_eq_getElem_cons h, List.set_cons_zero, List.take_succ_eq_append_getElem h, List.map_append]
  simp only [List.map_cons, List.map_nil, List.append_assoc, List.singleton_append, List.getD_eq_getElem?_getD, List.getElem?_eq_getElem h, Option.getD_some]
theorem lowSt_same (l : List Int) (k : Nat) (h : k < l.length) (he : lowI (l.getD k 0) = l.getD k 0) : lowSt l k = lowSt l (k + 1) := by
  rw [← lowSt_set l k h, he, ← lowSt_get l k h]
  rw [List.getD_eq_getElem?_getD, List.getElem?_eq_getElem (by rw [lowSt_length]; exact h)]
  simp
theorem bytesOf_range (s : ByteArray) (i : Nat) : 0 ≤ (bytesOf s).getD i 0 ∧ (bytesOf s).getD i 0 ≤ 255 := by
  unfold bytesOf
  rw [List.getD_eq_getElem?_getD, List.getElem?_map]
  cases h : s.data.toList[i]? with
  | none => simp
  | some b => simp; have := b.toNat_lt; omega
def ostiaryref1_Lower.f (a0 : ByteArray) : Option ByteArray := if a0.size ≤ 140737488355328 then some (lowB a0) else none
set_option maxHeartbeats 2000000 in
set_option maxRecDepth 100000 in
theorem ostiaryref1_Lower.calls (a0 : ByteArray) (r : ByteArray) (w : World) (h : ostiaryref1_Lower.f a0 = some r) :
    Calls Tryz.prog 75 #[.string a0] w fun e w' => e = .returned (.string r) ∧ Below w.heap.size w w' := by
  unfold ostiaryref1_Lower.f at h
  split at h
  · rename_i hs
    obtain rfl := Option.some.inj h
    have kb := fun W => print_bytes (P := Tryz.prog) 9 84 5 Tryz.underlying9 Tryz.underlying84 Tryz.underlying5 a0 W
    have hb0 : Below w.heap.size w (Lib.bytesWorld w 5 a0) := bytes_below (Below.refl _ _) (Nat.le_refl _) _ _
    have hB0 := BlkB.of_bytes w 5 a0
    have hlen := bytesOf_length a0
    obtain ⟨l, hl⟩ : ∃ l, l = bytesOf a0 := ⟨_, rfl⟩
    obtain ⟨n, hn⟩ : ∃ n, n = a0.size := ⟨_, rfl⟩
    have HL := Lib.hid hl
    have HN := Lib.hid hlen
    rw [← hl] at hB0
    clear hl hlen
    go_enter Tryz.func75, Tryz.ntmps75
    go_wp2
    have hcap : (grownCap w a0.size 0 5) = (grownCap w a0.size 0 5) := rfl
    obtain ⟨cap, hcap⟩ : ∃ cap, grownCap w a0.size 0 5 = cap := ⟨_, rfl⟩
    rw [hcap]
    clear hcap
    go_loopw [4] (fun i wr => ∃ k : Nat, k ≤ a0.size ∧ i = .int .i64 k ∧ BlkB wr w.heap.size 5 (lowSt l k) ∧ Below w.heap.size w wr) (fun i _ => a0.size - (intOf i).toNat)
    case atStart => exact ⟨0, Nat.zero_le _, rfl, by simpa [lowSt] using hB0, hb0⟩
    case round =>
      obtain ⟨k, hk, rfl, hB, hb⟩ := hrel
      have hln : l.length = a0.size := by rw [HL.out]; exact HN.out
      by_cases hlt : k < a0.size
      · have hc0 := hB.cell k (by rw [lowSt_length]; omega)
        have hf0 := hB.frozen k (by rw [lowSt_length]; omega)
        rw [lowSt_get l k (by omega)] at hc0
        have hr := bytesOf_range a0 k
        rw [← HL.out] at hr
        have hset := fun x => hB.set k x
        obtain ⟨c, hc⟩ : ∃ c, c = l.getD k 0 := ⟨_, rfl⟩
        have HC := Lib.hid hc
        have HLN := Lib.hid hln
        rw [← hc] at hc0 hr
        clear hc hln
        by_cases h65 : 65 ≤ c ∧ c ≤ 90
        · obtain ⟨h1, h2⟩ := h65
          have hst : BlkB (wr.setCell ⟨w.heap.size, k, none⟩ (.int .u8 (c + 32))) w.heap.size 5 (lowSt l (k + 1)) := by
            rw [← lowSt_set l k (by rw [HLN.out]; exact hlt), ← HC.out, lowI, if_pos ⟨h1, h2⟩]; exact hB.set k _
          have hbs : Below w.heap.size w (wr.setCell ⟨w.heap.size, k, none⟩ (.int .u8 (c + 32))) := hb.setCell (Nat.le_refl _) _
          go_wp2
          go_roundw
          case rel => exact ⟨k + 1, by omega, by go_num, hst, hbs⟩
          case measure => simp [intOf]; omega
        · have hsm : lowSt l k = lowSt l (k + 1) := lowSt_same l k (by rw [HLN.out]; exact hlt) (by rw [← HC.out, lowI, if_neg h65])
          rw [hsm] at hB
          clear hsm
          have h65' : ¬ 65 ≤ c ∨ 65 ≤ c ∧ ¬ c ≤ 90 := by omega
          clear h65 hset
          rcases h65' with h1 | ⟨h1, h2⟩
          · go_wp2
            go_roundw
            case rel => exact ⟨k + 1, by omega, by go_num, hB, hb⟩
            case measure => simp [intOf]; omega
          · go_wp2
            go_roundw
            case rel => exact ⟨k + 1, by omega, by go_num, hB, hb⟩
            case measure => simp [intOf]; omega
      · obtain rfl : k = a0.size := by omega
        have hln' : l.length = a0.size := hln
        have hfin : lowSt l a0.size = (bytesOf a0).map lowI := by
          unfold lowSt; rw [← hln', List.take_length, List.drop_length, List.append_nil, HL.out]
        have hstr := fun cap => hB.string (P := Tryz.prog) (n := a0.size) (cap := cap) (src := 84) (dst := 9) Tryz.underlying84 Tryz.underlying5 Tryz.underlying9 (by rw [lowSt_length]; exact hln)
        have HF := Lib.hid hfin
        clear hln hln' hfin
        go_wp2
        go_ret
        exact ⟨by rw [HF.out]; rfl, hb⟩
  · cases h
end Go.Proofs.YteehjlciajhdoaaGreatDoor.X
namespace Go.Proofs.YteehjlciajhdoaaGreatDoor.X
set_option linter.unusedVariables false
set_option linter.unusedSimpArgs false
open Go.RowKit Go.Proofs.YteehjlciajhdoaaGreatDoorW.PrintWords Go.Proofs.YteehjlciajhdoaaGreatDoorW.PrintLast Go.Proofs.YteehjlciajhdoaaGreatDoorW.PrintMore
theorem lower_letter (c : Int) (w : World) (h0 : 0 ≤ c) (h1 : c ≤ 255) :
    Calls Tryz.prog 125 #[.int .u8 c] w fun e w' => e = .returned (.int .u8 (lowI c)) ∧ w = w' := by
  by_cases h : 65 ≤ c ∧ c ≤ 90
  · have hl : lowI c = c + 32 := by rw [lowI, if_pos h]
    obtain ⟨h2, h3⟩ := h
    have HL := Lib.hid hl
    clear hl
    go_enter Tryz.func125, Tryz.ntmps125
    go_wp2
    go_ret
    exact ⟨by rw [HL.out]; rfl, rfl⟩
  · have hl : lowI c = c := by rw [lowI, if_neg h]
    have h65' : ¬ 65 ≤ c ∨ 65 ≤ c ∧ ¬ c ≤ 90 := by omega
    have HL := Lib.hid hl
    clear hl h
    rcases h65' with h2 | ⟨h2, h3⟩
    · go_enter Tryz.func125, Tryz.ntmps125
      go_wp2
      go_ret
      exact ⟨by rw [HL.out]; rfl, rfl⟩
    · go_enter Tryz.func125, Tryz.ntmps125
      go_wp2
      go_ret
      exact ⟨by rw [HL.out]; rfl, rfl⟩
def infra_Lower.f (a0 : ByteArray) : Option ByteArray := if a0.size ≤ 140737488355328 then some (lowB a0) else none
set_option maxHeartbeats 2000000 in
set_option maxRecDepth 100000 in
theorem mapped_lower (a0 : ByteArray) (hs : a0.size ≤ 140737488355328) (w : World) :
    Calls Tryz.prog 124 #[.string a0, .func (.func 125) #[] #[]] w fun e w' => e = .returned (.string (lowB a0)) ∧ Below w.heap.size w w' := by
    have kb := fun W => print_bytes (P := Tryz.prog) 9 84 5 Tryz.underlying9 Tryz.underlying84 Tryz.underlying5 a0 W
    have hb0 : Below w.heap.size w (Lib.bytesWorld w 5 a0) := bytes_below (Below.refl _ _) (Nat.le_refl _) _ _
    have hB0 := BlkB.of_bytes w 5 a0
    have hlen := bytesOf_length a0
    obtain ⟨l, hl⟩ : ∃ l, l = bytesOf a0 := ⟨_, rfl⟩
    have HL := Lib.hid hl
    have HN := Lib.hid hlen
    rw [← hl] at hB0
    clear hl hlen
    go_enter Tryz.func124, Tryz.ntmps124
    go_wp2
    obtain ⟨cap, hcap⟩ : ∃ cap, grownCap w a0.size 0 5 = cap := ⟨_, rfl⟩
    rw [hcap]
    clear hcap
    go_loopw [12] (fun i wr => ∃ k : Nat, k ≤ a0.size ∧ i = .int .i64 k ∧ BlkB wr w.heap.size 5 (lowSt l k) ∧ Below w.heap.size w wr) (fun i _ => a0.size - (intOf i).toNat)
    case atStart => exact ⟨0, Nat.zero_le _, rfl, by simpa [lowSt] using hB0, hb0⟩
    case round =>
      obtain ⟨k, hk, rfl, hB, hb⟩ := hrel
      have hln : l.length = a0.size := by rw [HL.out]; exact HN.out
      by_cases hlt : k < a0.size
      · have hc0 := hB.cell k (by rw [lowSt_length]; omega)
        have hf0 := hB.frozen k (by rw [lowSt_length]; omega)
        rw [lowSt_get l k (by omega)] at hc0
        have hr := bytesOf_range a0 k
        rw [← HL.out] at hr
        obtain ⟨c, hc⟩ : ∃ c, c = l.getD k 0 := ⟨_, rfl⟩
        have HC := Lib.hid hc
        have HLN := Lib.hid hln
        rw [← hc] at hc0 hr
        clear hc hln
        obtain ⟨hr1, hr2⟩ := hr
        have hst : BlkB (wr.setCell ⟨w.heap.size, k, none⟩ (.int .u8 (lowI c))) w.heap.size 5 (lowSt l (k + 1)) := by
          rw [← lowSt_set l k (by rw [HLN.out]; exact hlt), ← HC.out]; exact hB.set k _
        have hbs : Below w.heap.size w (wr.setCell ⟨w.heap.size, k, none⟩ (.int .u8 (lowI c))) := hb.setCell (Nat.le_refl _) _
        go_wp2_with (go_at_call 125; refine (lower_letter c _ (by assumption) (by assumption)).mono ?_; rintro e w' ⟨rfl, rfl⟩)
        go_roundw
        case rel => exact ⟨k + 1, by omega, by go_num, hst, hbs⟩
        case measure => simp [intOf]; omega
      · obtain rfl : k = a0.size := by omega
        have hln' : l.length = a0.size := hln
        have hfin : lowSt l a0.size = (bytesOf a0).map lowI := by
          unfold lowSt; rw [← hln', List.take_length, List.drop_length, List.append_nil, HL.out]
        have hstr := fun cap => hB.string (P := Tryz.prog) (n := a0.size) (cap := cap) (src := 84) (dst := 9) Tryz.underlying84 Tryz.underlying5 Tryz.underlying9 (by rw [lowSt_length]; exact hln)
        have HF := Lib.hid hfin
        clear hln hln' hfin
        go_wp2
        go_ret
        exact ⟨by rw [HF.out]; rfl, hb⟩
set_option maxHeartbeats 2000000 in
set_option maxRecDepth 100000 in
theorem infra_Lower.calls (a0 : ByteArray) (r : ByteArray) (w : World) (h : infra_Lower.f a0 = some r) :
    Calls Tryz.prog 65 #[.string a0] w fun e w' => e = .returned (.string r) ∧ Below w.heap.size w w' := by
  unfold infra_Lower.f at h
  split at h
  · rename_i hs
    obtain rfl := Option.some.inj h
    have HS := Lib.hid hs
    clear hs h
    go_enter Tryz.func65, Tryz.ntmps65
    go_wp2_with (go_at_call 124; refine (mapped_lower a0 HS.out _).mono ?_; rintro e w' ⟨rfl, hb⟩)
    go_ret
    exact ⟨rfl, hb⟩
  · cases h
end Go.Proofs.YteehjlciajhdoaaGreatDoor.X
namespace Go.Proofs.YteehjlciajhdoaaGreatDoor.X
set_option linter.unusedVariables false
set_option linter.unusedSimpArgs false
open Go.RowKit Go.Proofs.YteehjlciajhdoaaGreatDoorW.PrintWords Go.Proofs.YteehjlciajhdoaaGreatDoorW.PrintLast Go.Proofs.YteehjlciajhdoaaGreatDoorW.PrintMore
def findP : List S32 → ByteArray → Option S32
  | [], _ => none
  | p :: l, n => if p.f0.toList = n.toList then some p else findP l n
def hasP (l : List S32) (n : ByteArray) : ByteArray × Bool := match findP l n with
  | some p => (p.f1, true)
  | none => (⟨#[]⟩, false)
def idxP : List S32 → ByteArray → Int
  | [], _ => -1
  | p :: l, n => if p.f0.toList = n.toList then 0 else if idxP l n < 0 then -1 else idxP l n + 1
theorem idxP_range (l : List S32) (n : ByteArray) : -1 ≤ idxP l n ∧ idxP l n < l.length := by
  induction l with
  | nil => simp [idxP]
  | cons p l ih =>
    unfold idxP
    simp only [List.length_cons]
    split
    · omega
    · split <;> omega
theorem idxP_find (l : List S32) (n : ByteArray) : (idxP l n < 0 ∧ findP l n = none) ∨ (0 ≤ idxP l n ∧ findP l n = some (rd_T32 l (idxP l n))) := by
  induction l with
  | nil => left; simp [idxP, findP]
  | cons p l ih =>
    unfold idxP findP
    by_cases h : p.f0.toList = n.toList
    · right; rw [if_pos h, if_pos h]; exact ⟨by omega, rfl⟩
    · rw [if_neg h, if_neg h]
      rcases ih with ⟨h1, h2⟩ | ⟨h1, h2⟩
      · left; rw [if_pos h1]; exact ⟨by omega, h2⟩
      · right
        rw [if_neg (by omega)]
        refine ⟨by omega, ?_⟩
        rw [h2]
        unfold rd_T32
        rw [show (idxP l n + 1).toNat = (idxP l n).toNat + 1 from by omega]
        simp
theorem has_letter (x y n : ByteArray) (b : Nat) (w : World) (hc : w.cell? ⟨b, 0, none⟩ = some (.string n)) (hb : b < w.heap.size) :
    Calls Tryz.prog 133 #[.agg #[.string x, .string y], .pointer (some ⟨b, 0, none⟩)] w fun e w' => e = .returned (.bool (x.toList == n.toList)) ∧ Below w.heap.size w w' := by
  have hne : b ≠ w.heap.size := by omega
  have hne' : w.heap.size ≠ b := by omega
  have hc1 : ∀ o, (w.alloc o).cell? ⟨b, 0, none⟩ = some (.string n) := fun o => pw_cell_below (below_alloc (Below.refl _ _) o) hc
  go_enter Tryz.func133, Tryz.ntmps133
  go_wp2
  go_ret
  exact ⟨rfl, by repeat (first | exact Below.refl _ _ | apply below_alloc | apply pw_below_drewN | apply below_drew1)⟩
theorem idxP_at (l : List S32) (n : ByteArray) (k : Nat) (hk : k < l.length) (h : ∀ j, j < k → ¬ ((rd_T32 l j).f0.toList = n.toList)) (he : (rd_T32 l k).f0.toList = n.toList) : idxP l n = k := by
  induction l generalizing k with
  | nil => simp at hk
  | cons p l ih =>
    unfold idxP
    cases k with
    | zero => rw [if_pos (by simpa [rd_T32] using he)]; rfl
    | succ k =>
      rw [if_neg (by simpa [rd_T32] using h 0 (by omega))]
      have := ih k (by simpa using hk) (fun j hj => by simpa [rd_T32, Int.toNat_natCast, show ((j : Int) + 1).toNat = j + 1 from by omega] using h (j + 1) (by omega)) (by simpa [rd_T32, show ((k : Int) + 1).toNat = k + 1 from by omega] using he)
      rw [this, if_neg (by omega)]
      omega
theorem idxP_none (l : List S32) (n : ByteArray) (h : ∀ j, j < l.length → ¬ ((rd_T32 l (j : Nat)).f0.toList = n.toList)) : idxP l n = -1 := by
  induction l with
  | nil => rfl
  | cons p l ih =>
    unfold idxP
    rw [if_neg (by simpa [rd_T32] using h 0 (by simp))]
    have := ih (fun j hj => by simpa [rd_T32, show ((j : Int) + 1).toNat = j + 1 from by omega] using h (j + 1) (by simpa using hj))
    rw [this, if_pos (by omega)]
set_option maxHeartbeats 2000000 in
set_option maxRecDepth 100000 in
theorem has_index (A0 : Option Addr) (c0 : Nat) (l0 : List S32) (n : ByteArray) (b : Nat) (w : World) (hr0 : Kd.C k32 w A0 l0.length l0) (hc0 : l0.length ≤ c0) (hc : w.cell? ⟨b, 0, none⟩ = some (.string n)) (hb : b < w.heap.size) :
    Calls Tryz.prog 132 #[.slice A0 l0.length c0, .func (.func 133) #[] #[.pointer (some ⟨b, 0, none⟩)]] w fun e w' => e = .returned (.int .i64 (idxP l0 n)) ∧ Below w.heap.size w w' := by
  have hu32 := Tryz.underlying32
  have HR := Aside0.mk hr0
  have HC := Aside0.mk hc
  have HM := Aside0.mk hr0.2.1
  clear hr0 hc
  go_enter Tryz.func132, Tryz.ntmps132
  go_wp2
  go_loopw [8] (fun i wr => ∃ k : Nat, k ≤ l0.length ∧ i = .int .i64 k ∧ Aside0 (Below w.heap.size w wr) ∧ Aside0 (∀ j : Nat, j < k → ¬ ((rd_T32 l0 j).f0.toList = n.toList))) (fun i _ => l0.length - (intOf i).toNat)
  case atStart => exact ⟨0, Nat.zero_le _, rfl, ⟨Below.refl _ _⟩, ⟨fun j hj => absurd hj (by omega)⟩⟩
  case round =>
    obtain ⟨k, hk, rfl, HB, HN⟩ := hrel
    have hm := HM.out
    by_cases hlt : k < l0.length
    · obtain ⟨ad, rfl, hz0, hz1⟩ := at_T32 (Kd.C_below HR.out HB.out) (k : Int) (by omega) (by omega)
      rw [Int.toNat_natCast] at hz0 hz1
      have hcb : wr.cell? ⟨b, 0, none⟩ = some (.string n) := pw_cell_below HB.out HC.out
      have HCB := Aside0.mk hcb
      have hbr : b < wr.heap.size := by have := HB.out.size; omega
      clear hcb
      by_cases he : (rd_T32 l0 k).f0.toList = n.toList
      · have hi := idxP_at l0 n k hlt HN.out he
        have he1 : ((rd_T32 l0 k).f0.toList == n.toList) = true := beq_iff_eq.2 he
        have HI := Aside0.mk hi
        clear hi he
        go_wp2_with (go_at_call 133; refine (has_letter _ _ n b _ HCB.out hbr).mono ?_; rintro e w' ⟨rfl, hb'⟩)
        go_ret
        exact ⟨by rw [HI.out]; rfl, below_then HB.out HB.out.size hb'⟩
      · have he1 : ((rd_T32 l0 k).f0.toList == n.toList) = false := beq_eq_false_iff_ne.2 he
        have HN' := Aside0.mk (p := ∀ j : Nat, j < k + 1 → ¬ ((rd_T32 l0 j).f0.toList = n.toList)) (fun j hj => by
          rcases Nat.lt_or_ge j k with h | h
          · exact HN.out j h
          · obtain rfl : j = k := by omega
            exact he)
        clear he
        go_wp2_with (go_at_call 133; refine (has_letter _ _ n b _ HCB.out hbr).mono ?_; rintro e w' ⟨rfl, hb'⟩)
        go_roundw
        case rel => exact ⟨k + 1, by omega, by go_num, ⟨below_then HB.out HB.out.size hb'⟩, HN'⟩
        case measure => simp [intOf]; omega
    · obtain rfl : k = l0.length := by omega
      have HI := Aside0.mk (idxP_none l0 n HN.out)
      go_wp2
      go_ret
      exact ⟨by rw [HI.out]; rfl, HB.out⟩
def mime_Type_has.f (a0_0 a0_1 : ByteArray) (l0_2 : List S32) (a1 : ByteArray) : Option (ByteArray × Bool) := some (hasP l0_2 a1)
set_option maxHeartbeats 2000000 in
set_option maxRecDepth 100000 in
theorem mime_Type_has.calls (a0_0 a0_1 : ByteArray) (A0_2 : Option Addr) (c0_2 : Nat) (l0_2 : List S32) (a1 : ByteArray) (r1 : ByteArray) (r2 : Bool) (w : World) (hr0_2 : Kd.C k32 w A0_2 l0_2.length l0_2) (hc0_2 : l0_2.length ≤ c0_2) (h : mime_Type_has.f a0_0 a0_1 l0_2 a1 = some (r1, r2)) :
    Calls Tryz.prog 69 #[.agg #[.string a0_0, .string a0_1, .slice A0_2 l0_2.length c0_2], .string a1] w fun e w' => e = .returned (.tuple #[.string r1, .bool r2]) ∧ Below w.heap.size w w' := by
  have hu32 := Tryz.underlying32
  have hu24 := Tryz.underlying24
  have H := Aside0.mk (Option.some.inj h)
  clear h
  have HR := Aside0.mk hr0_2
  have hm := hr0_2.2.1
  clear hr0_2
  have hrange := idxP_range l0_2 a1
  obtain ⟨i, hi⟩ : ∃ i, idxP l0_2 a1 = i := ⟨_, rfl⟩
  have hfind := idxP_find l0_2 a1
  rw [hi] at hrange hfind
  have HI := Aside0.mk hi
  clear hi
  obtain ⟨hr1, hr2⟩ := hrange
  rcases hfind with ⟨hlt, hf⟩ | ⟨hge, hf⟩
  · have hp : hasP l0_2 a1 = (⟨#[]⟩, false) := by rw [hasP, hf]
    rw [hp] at H
    obtain ⟨rfl, rfl⟩ := Prod.mk.inj H.out
    clear hf hp H
    have hlt' : decide (i < 0) = true := decide_eq_true hlt
    go_enter Tryz.func69, Tryz.ntmps69
    go_wp2_with (fail)
    have hbx0 := blk_alloc (blk_new w (.cells #[.string a0_0, .string a0_1, .slice A0_2 l0_2.length c0_2] 24)) (.cells #[.string a1] 9)
    have hbw : Below w.heap.size w ((w.alloc (.cells #[.string a0_0, .string a0_1, .slice A0_2 l0_2.length c0_2] 24)).alloc (.cells #[.string a1] 9)) := below_alloc (below_alloc (Below.refl _ _) _) _
    have hcn : ((w.alloc (.cells #[.string a0_0, .string a0_1, .slice A0_2 l0_2.length c0_2] 24)).alloc (.cells #[.string a1] 9)).cell? ⟨w.heap.size + 1, 0, none⟩ = some (.string a1) := by
      have := blk_new (w.alloc (.cells #[.string a0_0, .string a0_1, .slice A0_2 l0_2.length c0_2] 24)) (.cells #[.string a1] 9)
      rw [World.size_alloc] at this
      exact (blk_cell this 0).trans rfl
    refine (has_index A0_2 c0_2 l0_2 a1 (w.heap.size + 1) _ (Kd.C_below HR.out hbw) hc0_2 hcn (by simp)).mono ?_
    rintro e w1 ⟨he, hb1⟩
    rw [HI.out] at he
    subst he
    have hbox := blk_below hbx0 hb1
    have HB1 := Aside0.mk (below_then hbw hbw.size hb1)
    have hz2 : w1.cell? ⟨w.heap.size, 2, none⟩ = some (.slice A0_2 l0_2.length c0_2) := (blk_cell hbox 2).trans rfl
    have hz0 : w1.cell? ⟨w.heap.size, 0, none⟩ = some (.string a0_0) := (blk_cell hbox 0).trans rfl
    have hz1 : w1.cell? ⟨w.heap.size, 1, none⟩ = some (.string a0_1) := (blk_cell hbox 1).trans rfl
    clear hbx0 hcn hbox hbw hb1
    go_wp2
    go_ret2
    exact ⟨rfl, HB1.out⟩
  · have hp : hasP l0_2 a1 = ((rd_T32 l0_2 i).f1, true) := by rw [hasP, hf]
    rw [hp] at H
    obtain ⟨rfl, rfl⟩ := Prod.mk.inj H.out
    clear hf hp H
    have hlt' : decide (i < 0) = false := decide_eq_false (by omega)
    go_enter Tryz.func69, Tryz.ntmps69
    go_wp2_with (fail)
    have hbx0 := blk_alloc (blk_new w (.cells #[.string a0_0, .string a0_1, .slice A0_2 l0_2.length c0_2] 24)) (.cells #[.string a1] 9)
    have hbw : Below w.heap.size w ((w.alloc (.cells #[.string a0_0, .string a0_1, .slice A0_2 l0_2.length c0_2] 24)).alloc (.cells #[.string a1] 9)) := below_alloc (below_alloc (Below.refl _ _) _) _
    have hcn : ((w.alloc (.cells #[.string a0_0, .string a0_1, .slice A0_2 l0_2.length c0_2] 24)).alloc (.cells #[.string a1] 9)).cell? ⟨w.heap.size + 1, 0, none⟩ = some (.string a1) := by
      have := blk_new (w.alloc (.cells #[.string a0_0, .string a0_1, .slice A0_2 l0_2.length c0_2] 24)) (.cells #[.string a1] 9)
      rw [World.size_alloc] at this
      exact (blk_cell this 0).trans rfl
    refine (has_index A0_2 c0_2 l0_2 a1 (w.heap.size + 1) _ (Kd.C_below HR.out hbw) hc0_2 hcn (by simp)).mono ?_
    rintro e w1 ⟨he, hb1⟩
    rw [HI.out] at he
    subst he
    have hbox := blk_below hbx0 hb1
    have HB1 := Aside0.mk (below_then hbw hbw.size hb1)
    have hz2 : w1.cell? ⟨w.heap.size, 2, none⟩ = some (.slice A0_2 l0_2.length c0_2) := (blk_cell hbox 2).trans rfl
    have hz0 : w1.cell? ⟨w.heap.size, 0, none⟩ = some (.string a0_0) := (blk_cell hbox 0).trans rfl
    have hz1 : w1.cell? ⟨w.heap.size, 1, none⟩ = some (.string a0_1) := (blk_cell hbox 1).trans rfl
    clear hbx0 hcn hbox hbw hb1
    obtain ⟨ad, rfl, hy0, hy1⟩ := at_T32 (Kd.C_below HR.out HB1.out) i hge hr2
    go_wp2
    try go_quiet (fail)
    try go_wp2
    go_ret2
    exact ⟨rfl, HB1.out⟩
end Go.Proofs.YteehjlciajhdoaaGreatDoor.X
namespace Go.Proofs.YteehjlciajhdoaaGreatDoor.X
set_option linter.unusedVariables false
set_option linter.unusedSimpArgs false
open Go.RowKit Go.Proofs.YteehjlciajhdoaaGreatDoorW.PrintWords Go.Proofs.YteehjlciajhdoaaGreatDoorW.PrintLast Go.Proofs.YteehjlciajhdoaaGreatDoorW.PrintMore
theorem decode_high_more (s : ByteArray) (pos : Nat) (h : pos < s.size) (ha : 128 ≤ (s[pos]'h).toNat) :
    Utf8.valid ((Utf8.decode s pos).1 : Int) = true ∧ (Utf8.decode s pos).1 ≤ 1114111 ∧ 1 ≤ (Utf8.decode s pos).2 ∧ pos + (Utf8.decode s pos).2 ≤ s.size ∧
      ∀ j, j < (Utf8.decode s pos).2 → 128 ≤ (s.get! (pos + j)).toNat := by
  have hn : ¬ (s[pos]'h).toNat < 128 := by omega
  have hb : ∀ k, (s.get! (pos + k)).toNat < 256 := fun k => (s.get! (pos + k)).toNat_lt
  have b0 := (s[pos]'h).toNat_lt; have b1 := hb 1; have b2 := hb 2; have b3 := hb 3
  simp only [Utf8.decode, get_at s pos h, hn, if_false]
  have hz : ∀ j, j < 1 → 128 ≤ (s.get! (pos + j)).toNat := by
    intro j hj
    obtain rfl : j = 0 := by omega
    rw [get_at s pos h]; exact ha
  generalize (s[pos]'h).toNat = x0 at *
  have hE : Utf8.valid ((Utf8.runeError : Nat) : Int) = true ∧ Utf8.runeError ≤ 1114111 ∧ 1 ≤ 1 ∧ pos + 1 ≤ s.size ∧ ∀ j, j < 1 → 128 ≤ (s.get! (pos + j)).toNat :=
    ⟨by decide, by decide, by omega, by omega, hz⟩
  split
  · rename_i hc
    simp only [Bool.and_eq_true, beq_iff_eq, decide_eq_true_eq] at hc
    split
    · refine ⟨?_, ?_, by omega, by show pos + 2 ≤ s.size; omega, fun j hj => ?_⟩
      · simp only [Utf8.valid, Bool.or_eq_true, Bool.and_eq_true, decide_eq_true_eq]; left; constructor <;> omega
      · simp only; omega
      · have : j = 0 ∨ j = 1 := by have : j < 2 := hj; omega
        rcases this with rfl | rfl
        · exact hz 0 (by omega)
        · omega
    · exact hE
  · split
    · rename_i hc
      simp only [Bool.and_eq_true, beq_iff_eq, decide_eq_true_eq] at hc
      split
      · rename_i hv
        simp only [Bool.and_eq_true, decide_eq_true_eq] at hv
        refine ⟨hv.2, ?_, by omega, by show pos + 3 ≤ s.size; omega, fun j hj => ?_⟩
        · have := hv.2
          simp only [Utf8.valid, Bool.or_eq_true, Bool.and_eq_true, decide_eq_true_eq] at this
          omega
        · have : j = 0 ∨ j = 1 ∨ j = 2 := by have : j < 3 := hj; omega
          rcases this with rfl | rfl | rfl
          · exact hz 0 (by omega)
          · omega
          · omega
      · exact hE
    · split
      · rename_i hc
        simp only [Bool.and_eq_true, beq_iff_eq, decide_eq_true_eq] at hc
        split
        · rename_i hv
          simp only [Bool.and_eq_true, decide_eq_true_eq] at hv
          refine ⟨hv.2, ?_, by omega, by show pos + 4 ≤ s.size; omega, fun j hj => ?_⟩
          · have := hv.2
            simp only [Utf8.valid, Bool.or_eq_true, Bool.and_eq_true, decide_eq_true_eq] at this
            omega
          · have : j = 0 ∨ j = 1 ∨ j = 2 ∨ j = 3 := by have : j < 4 := hj; omega
            rcases this with rfl | rfl | rfl | rfl
            · exact hz 0 (by omega)
            · omega
            · omega
            · omega
        · exact hE
      · exact hE
theorem indexByte_absent (l : List UInt8) (c : UInt8) (h : ∀ b ∈ l, b ≠ c) : Lib.indexByte l c = -1 := by
  induction l with
  | nil => rfl
  | cons b l ih =>
    unfold Lib.indexByte
    rw [if_neg (by simpa using h b (by simp)), ih (fun x hx => h x (by simp [hx]))]
    rfl
set_option maxHeartbeats 2000000 in
set_option maxRecDepth 100000 in
theorem indexRune_error (t : ByteArray) (w : World) (ht : ∀ (j : Nat) b, t.data.toList[j]? = some b → b.toNat < 128) :
    Calls Tryz.prog 171 #[.string t, .int .i32 65533] w fun e w' => e = .returned (.int .i64 (-1)) ∧ Below w.heap.size w w' := by
  have HT := Aside0.mk ht
  clear ht
  go_enter Tryz.func171, Tryz.ntmps171
  go_wp2
  go_loopg [5, 6] t.size (fun g _ _ wx => ∃ i : Nat, i + g = t.size ∧ wx = w.iter t i)
  case atStart => exact ⟨0, by omega, rfl⟩
  case round =>
    obtain ⟨i, hig, rfl⟩ := hrel
    cases gk with
    | zero =>
      obtain rfl : i = t.size := by omega
      have hnx := run_next_end (P := Tryz.prog) w t t.size
      go_wp2
      go_ret
      exact ⟨rfl, (Below.refl _ _).alloc (Nat.le_refl _) _⟩
    | succ g =>
      have hi : i < t.size := by omega
      obtain ⟨x, hx⟩ : ∃ x : UInt8, t[i]'hi = x := ⟨_, rfl⟩
      have hxl : t.data.toList[i]? = some x := by rw [← hx]; exact Lib.data_getElem? t i hi
      have hx128 : x.toNat < 128 := HT.out i x hxl
      have hnx := fun ty => run_next_ascii (P := Tryz.prog) w t i ty hi (by rw [hx]; exact hx128)
      rw [hx] at hnx
      have hne : ((x.toNat : Int) == 65533) = false := beq_eq_false_iff_ne.2 (by omega)
      clear hxl hx
      go_wp2
      go_roundg g
      case measure => omega
      case rel => exact ⟨i + 1, by omega, rfl⟩
set_option maxHeartbeats 2000000 in
set_option maxRecDepth 100000 in
theorem indexRune_valid (t : ByteArray) (r : Int) (w : World) (hs : t.size ≤ 140737488355328) (ht : ∀ (j : Nat) b, t.data.toList[j]? = some b → b.toNat < 128) (hv : Utf8.valid r = true) (h128 : 128 ≤ r) (hm : r ≤ 1114111) (hne : r ≠ 65533) :
    Calls Tryz.prog 171 #[.string t, .int .i32 r] w fun e w' => e = .returned (.int .i64 (-1)) ∧ Below w.heap.size w w' := by
  have HT := Aside0.mk ht
  have hvl : Lib.validRune r = true := by
    have := hv
    simp only [Utf8.valid, Bool.or_eq_true, Bool.and_eq_true, decide_eq_true_eq] at this
    unfold Lib.validRune
    simp
    omega
  obtain ⟨h2, h4, hlast⟩ := encode_facts r hv h128
  obtain ⟨rs, hrs⟩ : ∃ rs, Utf8.encode r = rs := ⟨_, rfl⟩
  rw [hrs] at h2 h4 hlast
  obtain ⟨m, hm'⟩ : ∃ m, rs.size = m + 1 := ⟨rs.size - 1, by omega⟩
  have hl := hlast (by omega)
  have hcl : ∀ h : m < rs.size, 128 ≤ (rs[m]'h).toNat := by
    intro h
    have := hlast (by omega)
    simpa [hm'] using this
  have HCL := Aside0.mk hcl
  have HRS := Lib.hid hrs
  have h1 : decide (r < 128) = false := decide_eq_false (by omega)
  have h0 : decide (0 ≤ r) = true := decide_eq_true (by omega)
  have hn1 : (r == 65533) = false := beq_eq_false_iff_ne.2 hne
  have hms : m < rs.size := by omega
  have hsz : (rs.size : Int) - 1 = (m : Int) := by omega
  have hc1 : ((rs.size : Int)) = (m : Int) + 1 := by omega
  have HSZ := Lib.hid hsz
  clear ht hv hlast hcl hrs hl hne hsz hc1 hm'
  go_enter Tryz.func171, Tryz.ntmps171
  go_wp2_with (go_at_call 210; refine (Tryz.utf8_ValidRune r _).mono ?_; rintro e w' ⟨rfl, hw⟩; obtain rfl := hw.symm; rw [hvl])
  go_step3
  go_wp2
  have hwm : wrap64 (m : Int) = (m : Int) := IntWalk.wrap64_in _ ⟨by omega, by omega⟩
  rw [HRS.out, HSZ.out, hwm]
  clear hwm
  by_cases hlt : m < t.size
  · have hx128 : (t[m]'hlt).toNat < 128 := HT.out m _ (Lib.data_getElem? t m hlt)
    have hy128 := HCL.out hms
    have hne2 : (((t[m]'hlt).toNat : Int) != ((rs[m]'hms).toNat : Int)) = true := by rw [bne_iff_ne]; omega
    have hib : Lib.indexByte (t.extract (m + 1) t.size).data.toList ((((rs[m]'hms).toNat : Int)).toNat.toUInt8) = -1 := by
      refine indexByte_absent _ _ fun b hb hbc => ?_
      have hb1 := mem_extract hb
      obtain ⟨j, hj⟩ := List.getElem?_of_mem hb1
      have := HT.out j b hj
      rw [hbc] at this
      have e : ((((rs[m]'hms).toNat : Int)).toNat.toUInt8) = rs[m]'hms := by simp
      rw [e] at this
      omega
    have HIB := Lib.hid hib
    clear hx128 hy128 hib
    have hw1 : IntKind.i64.wrap ((m : Int) + 1) = (m : Int) + 1 := IntWalk.i64_in _ (by omega)
    have hw2 : (0 : Int) ≤ (m : Int) + 1 := by omega
    have hw3 : ((m : Int) + 1).toNat = m + 1 := by omega
    have hw4 : (m : Int) + 1 ≤ (t.size : Int) := by omega
    go_loopg [9] 1 (fun g i wx => w = wx ∧ i = .int .i64 m)
    case atStart => exact ⟨rfl, rfl⟩
    case round =>
      obtain ⟨rfl, rfl⟩ := hrel
      go_wp2
      go_step3
      go_wp2
      go_quiet (fail)
      go_wp2
      have hbd : Below w.heap.size w (w.drewN nq) := pw_below_drewN (Below.refl _ _) nq
      have HBD := Aside0.mk hbd
      clear hbd
      generalize w.drewN nq = w1 at *
      go_quiet ((go_at_call 123; exact Calls.quiet_of_same (Tryz.strings_IndexByte _ _ _)))
      rw [HIB.out]
      go_wp2
      rw [Exit.noGoto_ret]
      (try simp only [Exit.inBlock, Exit.then, Exit.noGoto_ret])
      go_ret
      exact ⟨rfl, pw_below_drewN HBD.out _⟩
  · have hge : decide ((m : Int) < (t.size : Int)) = false := decide_eq_false (by omega)
    go_loopg [9] 1 (fun g i wx => w = wx ∧ i = .int .i64 m)
    case atStart => exact ⟨rfl, rfl⟩
    case round =>
      obtain ⟨rfl, rfl⟩ := hrel
      go_wp2
      rw [Exit.noGoto_ret]
      (try simp only [Exit.inBlock, Exit.then, Exit.noGoto_ret])
      go_ret
      exact ⟨rfl, Below.refl _ _⟩
theorem indexRune_high (t : ByteArray) (r : Int) (w : World) (hs : t.size ≤ 140737488355328) (ht : ∀ (j : Nat) b, t.data.toList[j]? = some b → b.toNat < 128) (hv : Utf8.valid r = true) (h128 : 128 ≤ r) (hm : r ≤ 1114111) :
    Calls Tryz.prog 171 #[.string t, .int .i32 r] w fun e w' => e = .returned (.int .i64 (-1)) ∧ Below w.heap.size w w' := by
  by_cases hne : r = 65533
  · subst hne; exact indexRune_error t w ht
  · exact indexRune_valid t r w hs ht hv h128 hm hne
def IterAt (w wx : World) (s : ByteArray) (i : Nat) : Prop := Below w.heap.size w wx ∧ wx.heap[w.heap.size]? = some (.stringIter s i)
theorem run_next_at {P : Program} (wx : World) (g : Nat) (s : ByteArray) (pos : Nat) (ty : TypeId) (h : pos < s.size) (hh : wx.heap[g]? = some (.stringIter s pos)) :
    (Instr.next (.pointer (some ⟨g, 0, none⟩)) true ty).run P wx =
      .ok (.tuple #[.bool true, .int .i64 pos, .int .i32 (Utf8.decode s pos).1]) { wx with heap := wx.heap.setIfInBounds g (.stringIter s (pos + (Utf8.decode s pos).2)) } := by
  obtain ⟨hlt, he⟩ := Array.getElem?_eq_some_iff.1 hh
  simp only [Instr.next, getObj, setObj, Sem.run_bind, Sem.run, hh, Result.andThen, h, if_true]
  simp [goInt]
theorem run_next_at_end {P : Program} (wx : World) (g : Nat) (s : ByteArray) (pos : Nat) (ty : TypeId) (h : ¬ pos < s.size) (hh : wx.heap[g]? = some (.stringIter s pos)) :
    (Instr.next (.pointer (some ⟨g, 0, none⟩)) true ty).run P wx = .ok (.tuple #[.bool false]) wx := by
  simp [Instr.next, getObj, Sem.run, hh, h]
def itSet (wx : World) (g : Nat) (s : ByteArray) (p : Nat) : World := { wx with heap := wx.heap.setIfInBounds g (.stringIter s p) }
theorem itSet_below {w wx : World} {s : ByteArray} {i : Nat} (h : IterAt w wx s i) (p : Nat) : IterAt w (itSet wx w.heap.size s p) s p := by
  obtain ⟨hb, hh⟩ := h
  obtain ⟨hlt, he⟩ := Array.getElem?_eq_some_iff.1 hh
  refine ⟨⟨hb.os, hb.tape, hb.output, by simpa [itSet] using hb.size, fun k hk => ?_⟩, by simp [itSet, hlt]⟩
  have := hb.block k hk
  rw [← this]
  simp only [itSet]
  rw [Array.getElem?_setIfInBounds_ne (by omega)]
theorem IterAt.more {w wx wy : World} {s : ByteArray} {i : Nat} (h : IterAt w wx s i) (hb : Below wx.heap.size wx wy) : IterAt w wy s i :=
  ⟨below_then h.1 h.1.size hb, blk_below h.2 hb⟩
theorem noAny_high {s : ByteArray} {chars : List UInt8} {i n : Nat} (h : Lib.NoAny s.data.toList chars i) (hc : ∀ b ∈ chars, b.toNat < 128) (hh : ∀ j, j < n → 128 ≤ (s.get! (i + j)).toNat) (hn : i + n ≤ s.size) : Lib.NoAny s.data.toList chars (i + n) := by
  intro j b hj hb
  rcases Nat.lt_or_ge j i with h1 | h1
  · exact h j b h1 hb
  · have h2 := hh (j - i) (by omega)
    rw [show i + (j - i) = j from by omega] at h2
    have hjs : j < s.size := by omega
    have e : s.get! j = b := by
      rw [Lib.data_getElem? s j hjs] at hb
      rw [← Option.some.inj hb]
      have := get_at s j hjs
      simpa using this
    rw [e] at h2
    by_cases hcb : chars.contains b = true
    · have := hc b (by simpa using hcb); omega
    · simpa using hcb
set_option maxHeartbeats 4000000 in
set_option maxRecDepth 1000000 in
theorem indexAny_short (s chars : ByteArray) (w : World) (h2 : 2 ≤ chars.size) (hcs : chars.size ≤ 140737488355328) (h8 : s.size ≤ 8) (hca : ∀ (j : Nat) b, chars.data.toList[j]? = some b → b.toNat < 128) :
    Calls Tryz.prog 127 #[.string s, .string chars] w fun e w' => e = .returned (.int .i64 (Lib.indexAny s.data.toList chars.data.toList)) ∧ Below w.heap.size w w' := by
  have HCA := Aside0.mk hca
  clear hca
  have hemp : chars.toList.isEmpty = false := by
    rw [Lib.toList_data]
    cases h : chars.data.toList with
    | nil => have := Lib.size_eq chars; rw [h, List.length_nil] at this; omega
    | cons _ _ => rfl
  have hn1 : ((chars.size : Int) == 1) = false := beq_eq_false_iff_ne.2 (by omega)
  have h8z : decide ((8 : Int) < (s.size : Int)) = false := decide_eq_false (by omega)
  go_enter Tryz.func127, Tryz.ntmps127
  go_wp2_with (go_at_call 172; refine (Tryz.strings_shouldUseASCIISet _ _).mono ?_; rintro e w' ⟨rfl, hw⟩; rw [hw, h8z])
  go_loopg [9, 10] s.size (fun g _ _ wx => ∃ i : Nat, i + g = s.size ∧ Aside0 (IterAt w wx s i) ∧ Aside0 (Lib.NoAny s.data.toList chars.data.toList i))
  case atStart => exact ⟨0, by omega, ⟨⟨(Below.refl _ _).alloc (Nat.le_refl _) _, by first | exact World.iter_heap _ _ _ | exact heap_alloc_new _ _⟩⟩, ⟨Lib.NoAny.zero _ _⟩⟩
  case round =>
    obtain ⟨i, hig, HI, HN⟩ := hrel
    cases gk with
    | zero =>
      obtain rfl : i = s.size := by omega
      have hnx := fun ty => run_next_at_end (P := Tryz.prog) wr w.heap.size s s.size ty (by omega) HI.out.2
      go_wp2
      go_ret
      exact ⟨by rw [Lib.indexAny_none (by rw [← Lib.size_eq]; exact HN.out)]; rfl, HI.out.1⟩
    | succ g =>
      have hi : i < s.size := by omega
      obtain ⟨x, hx⟩ : ∃ x : UInt8, s[i]'hi = x := ⟨_, rfl⟩
      have hxl : s.data.toList[i]? = some x := by rw [← hx]; exact Lib.data_getElem? s i hi
      have Hx := Aside0.mk hxl
      by_cases hx128 : x.toNat < 128
      · have hdec := decode_ascii s i hi (by rw [hx]; exact hx128)
        rw [hx] at hdec
        have hnx := fun ty => run_next_at (P := Tryz.prog) wr w.heap.size s i ty hi HI.out.2
        rw [hdec] at hnx
        have HI2 := Aside0.mk (itSet_below HI.out (i + 1))
        have hnx' : ∀ ty, (Instr.next (.pointer (some ⟨w.heap.size, 0, none⟩)) true ty).run Tryz.prog wr = .ok (.tuple #[.bool true, .int .i64 i, .int .i32 x.toNat]) (itSet wr w.heap.size s (i + 1)) := hnx
        clear hxl hx hdec hnx
        generalize itSet wr w.heap.size s (i + 1) = wi at *
        have hcon := Lib.contains_iff_indexByte chars.data.toList x
        have hback : ((x.toNat : Int)).toNat.toUInt8 = x := by simp
        cases hin : chars.data.toList.contains x
        · rw [hin] at hcon
          have hlt : ¬ ((0 : Int) ≤ Lib.indexByte chars.data.toList x) := of_decide_eq_false hcon.symm
          clear hcon
          go_wp2_with (go_at_call 171; refine (Tryz.strings_IndexRune_ascii _ _ _ (by omega) (by omega)).mono ?_; rintro e w' ⟨rfl, hw⟩; rw [hw, hback])
          go_roundg g
          case measure => omega
          case rel => exact ⟨i + 1, by omega, HI2, ⟨HN.out.succ Hx.out hin⟩⟩
        · rw [hin] at hcon
          have hge : (0 : Int) ≤ Lib.indexByte chars.data.toList x := of_decide_eq_true hcon.symm
          clear hcon
          go_wp2_with (go_at_call 171; refine (Tryz.strings_IndexRune_ascii _ _ _ (by omega) (by omega)).mono ?_; rintro e w' ⟨rfl, hw⟩; rw [hw, hback])
          go_ret
          exact ⟨by rw [Lib.indexAny_hit HN.out Hx.out hin]; rfl, HI2.out.1⟩
      · obtain ⟨hv, hm, hn1', hn2, hall⟩ := decode_high_more s i hi (by rw [hx]; omega)
        have hd := decode_high s i hi (by rw [hx]; omega)
        have hnx := fun ty => run_next_at (P := Tryz.prog) wr w.heap.size s i ty hi HI.out.2
        have HNA := Aside0.mk (noAny_high HN.out (fun b hb => by obtain ⟨j, hj⟩ := List.getElem?_of_mem hb; exact HCA.out j b hj) hall hn2)
        have HI2 := Aside0.mk (itSet_below HI.out (i + (Utf8.decode s i).2))
        have hnx' : ∀ ty, (Instr.next (.pointer (some ⟨w.heap.size, 0, none⟩)) true ty).run Tryz.prog wr = .ok (.tuple #[.bool true, .int .i64 i, .int .i32 (Utf8.decode s i).1]) (itSet wr w.heap.size s (i + (Utf8.decode s i).2)) := hnx
        have h128 := hd.1
        clear hxl hx hnx hd hall Hx
        have HV := Aside0.mk hv
        clear hv
        generalize itSet wr w.heap.size s (i + (Utf8.decode s i).2) = wi at *
        generalize (Utf8.decode s i).1 = c at *
        generalize (Utf8.decode s i).2 = n at *
        go_wp2_with (go_at_call 171; refine (indexRune_high _ _ _ (by omega) HCA.out HV.out (by omega) (by omega)).mono ?_; rintro e w' ⟨rfl, hw⟩)
        go_roundg (g + 1 - n)
        case measure => omega
        case rel => exact ⟨i + n, by omega, ⟨HI2.out.more hw⟩, HNA⟩
theorem info_set : (Tryz.prog.info? (Tryz.lays153_ren.t 116)).map (fun i => (i.zero, i.size)) = some (some (.agg (Array.replicate 256 (.bool false))), 256) := by kernel_rfl
def strings_IndexAny.f (a0 a1 : ByteArray) : Option Int := if a0.size < 4294967281 then if 2 ≤ a1.size then if a1.size < 4294967281 then if asciiB a1 = true then some (Lib.indexAny a0.data.toList a1.data.toList) else none else none else none else none
theorem strings_IndexAny.calls (a0 : ByteArray) (a1 : ByteArray) (r : Int) (w : World) (h : strings_IndexAny.f a0 a1 = some r) :
    Calls Tryz.prog 127 #[.string a0, .string a1] w fun e w' => e = .returned (.int .i64 r) ∧ Below w.heap.size w w' := by
  unfold strings_IndexAny.f at h
  split at h
  · split at h
    · split at h
      · split at h
        · rename_i h1 h2 h3 h4
          obtain rfl := Option.some.inj h
          by_cases h8 : a0.size ≤ 8
          · exact indexAny_short a0 a1 w h2 (by omega) h8 (asciiB_all h4)
          · refine (Any.strings_IndexAny_long Tryz.lays153 (zero_of_info info_set).1 (zero_of_info info_set).2 a0 a1 w h2 (by omega) h1 h3 (asciiB_all h4)).mono fun e w' ⟨h5, h6⟩ => ⟨h5, ?_⟩
            rw [h6]
            exact below_alloc (below_alloc (Below.refl _ _) _) _
        · cases h
      · cases h
    · cases h
  · cases h
end Go.Proofs.YteehjlciajhdoaaGreatDoor.X
