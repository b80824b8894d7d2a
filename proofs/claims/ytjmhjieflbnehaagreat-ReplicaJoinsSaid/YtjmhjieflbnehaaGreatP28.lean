/- A part of the proof of ReplicaJoins. -/
import Derived.Test.YtjmhjieflbnehaaGreatP06
import Derived.Test.YtjmhjieflbnehaaGreatP15
import Derived.Test.YtjmhjieflbnehaaGreatP16
import Derived.Test.YtjmhjieflbnehaaGreatP22
import Derived.Test.YtjmhjieflbnehaaGreatP24
set_option linter.unusedSimpArgs false
set_option linter.unusedVariables false
set_option maxHeartbeats 16000000
set_option maxRecDepth 100000
section
set_option maxRecDepth 1000000
namespace Go.Proofs.YtjmhjieflbnehaaGreat
open Go.Ab Go.RowKit
def kW : List Int := [403701760, 303104152, 990904321, 403701760, 303104031, 990904327, 403701760, 303104004, 990904326, 404750336, 304218624, 405798912, 305332224, 406847488, 306446344, 340983816, 307560455, 342032386, 23461890, 592838656, 271777793, 708116474, 403701760, 303104006, 1024458759, 403701760, 303104002, 1024458761, 403701760, 303104100, 1024458755, 403701760, 303104640, 990904322, 403701760, 303104021, 990904320, 956301312, 990904325, 974127107, 386990096, 672137233, 974127106, 269549572, 990904322, 1009778690, 1026555904, 403701760, 303104001, 1024458756, 403701760, 303104007, 1024458757, 286392321, 269549569, 1024458758, 974127109, 956301312, 1007681536, 1024458752, 1023410182, 1023410185, 403701760, 303104006, 1024458759, 403701760, 303104002, 1024458761, 1007681538, 269549588, 1024458755, 1007681546, 1024458762, 974127109, 956301312]
def kMem (f : Nat → Int) : List Int := kW ++ (List.replicate 85 0 ++ (List.range 96).map f)
def kM0 (f : Nat → Int) : MchD := { zMch with cpu := ⟨fun _ => 0, 0, fun i => if i = 0 then 1 else 0⟩, mem := kMem f, dk := { zDsk with blocks := 4 } }
def itD (m : MchD) : Nat → MchD
 | 0 => m
 | n + 1 => (goD (itD m n) 0).1
def rdsD (m : MchD) : Bool := decide ((zAM m).cpu.csr 0 % 2 = 1) && zAU m.mem (zAM m).cpu.pc 4 && validD (decI (wAt m.mem ((zAM m).cpu.pc / 4))) && decide ((decI (wAt m.mem ((zAM m).cpu.pc / 4))).op = 60) && decide ((decI (wAt m.mem ((zAM m).cpu.pc / 4))).imm = 2)
def zH3 (m : MchD) : Bool := decide ((effD m).kind = 0) || (decide ((effD m).kind = 2) && (decide ((effD m).port = 3) || decide ((effD m).port = 7) || (decide ((effD m).port = 9) && decide ((effD m).val = 2))))
def zPL (m : MchD) : Bool := !zC1 (zAM m).cpu && [1, 16, 18, 20, 24, 35, 42, 57, 59, 61].contains (decI (wAt (zAG (zAM m).cpu m.mem (zAM m).cpu.pc 4 1).2.1 ((zAG (zAM m).cpu m.mem (zAM m).cpu.pc 4 1).1 / 4))).op
def zFm (m : MchD) : Bool := !m.halted && (!zHV m && (!rdsD m && (zH3 m && zPL m)))
theorem k_q1 (f : Nat → Int) : ((List.range 87).all fun k => zFm (itD (kM0 f) k)) = true := by kernel_rfl
end Go.Proofs.YtjmhjieflbnehaaGreat
end
section
namespace Go.Proofs.YtjmhjieflbnehaaGreat
open Go.Ab Go.RowKit
theorem zRB (m : MchD) : (zAM m).dk = m.dk := by
 unfold zAM
 split
 ·rfl
 ·split <;> rfl
theorem zPF {m : MchD} (h : zH3 m = true) : (goD m 0).1.dk = m.dk ∧ (goD m 0).2 = [] := by
 have ha : (zCK m).dk = m.dk := zRB m
 unfold goD zBm
 simp only
 unfold zH3 at h
 simp only [Bool.or_eq_true, Bool.and_eq_true, decide_eq_true_eq] at h
 generalize effD m = e at *
 rcases h with h | ⟨h, q⟩
 ·rw [if_neg (by omega), if_neg (by omega), if_neg (by omega), if_neg (by omega)]
  exact ⟨ha, rfl⟩
 ·rw [if_neg (by omega), if_pos h]
  rcases q with (q | q) | ⟨q, v⟩
  ·unfold zAO; rw [q]; exact ⟨ha, rfl⟩
  ·unfold zAO; rw [q]; exact ⟨ha, rfl⟩
  ·unfold zAO; rw [q, v]; exact ⟨ha, by simp [zAd]⟩
theorem it_ok {m : MchD} (hM : OkM m) (hmay : mayD m = true) (hc : m.count = 0) (n : Nat) (hn : n ≤ 1000) (hq : ∀ k < n, zFm (itD m k) = true) : OkM (itD m n) ∧ mayD (itD m n) = true ∧ (itD m n).count = n ∧ (itD m n).dk = m.dk := by
 induction n with
 | zero => exact ⟨hM, hmay, by show m.count = _; rw [hc]; rfl, rfl⟩
 | succ n ih =>
  obtain ⟨h1, h2, h3, h4⟩ := ih (by omega) fun k hk => hq k (by omega)
  have q := hq n (by omega)
  unfold zFm at q
  simp only [Bool.and_eq_true, Bool.not_eq_true'] at q
  obtain ⟨q1, q2, q3, q4, q5⟩ := q
  have hr : zE9 (itD m n) = true := by unfold zE9; rw [h2, q1, q2, h3]; simp; omega
  obtain ⟨g1, g2⟩ := go_ok h1 hr zBA
  refine ⟨g1, (zNB _).2 (go_may h1 hr 0), by rw [show itD m (n + 1) = (goD (itD m n) 0).1 from rfl, g2, h3]; simp, ?_⟩
  rw [show itD m (n + 1) = (goD (itD m n) 0).1 from rfl, (zPF q4).1, h4]
theorem zRk {w : List Int} (hw : OkW w) (hl : w.length ≤ 256) : OkM (newD w) := by
 have hp := zKT w hl
 refine ⟨⟨fun i => zBA, zBA, fun i => ?_, by simp [newD]⟩, ?_, by simp [newD, hp], by simp [newD], zBA, ?_, ?_, zBA, zBA, by simp [newD]⟩
 ·show W32 (if i = 0 then 1 else 0)
  split
  ·exact ⟨by omega, by omega⟩
  ·exact zBA
 ·intro x hx
  rcases List.mem_append.1 (show x ∈ w ++ List.replicate (256 - w.length) 0 from hx) with q | q
  ·exact hw x q
  ·rw [(List.mem_replicate.1 q).2]; exact zBA
 ·constructor <;> (constructor <;> simp [newD])
 ·constructor <;> (constructor <;> simp [newD])
theorem zKy {w : List Int} (hl : w.length ≤ 256) : mayD (newD w) = true := by
 have hp := zKT w hl
 have hg : pagesD (padW w) = 8 := by unfold pagesD; rw [hp]; decide
 have h0 : (8 != (0 : Int)) = true := by decide
 have h1 : balMay 0 8 = true := by kernel_rfl
 have h2 : nicMay zNic 8 = true := by kernel_rfl
 have h3 : dskMay { zDsk with blocks := 4 } 8 = true := by kernel_rfl
 have h4 : timMay zTim = true := by kernel_rfl
 have hm : (newD w).mem = padW w := rfl
 unfold mayD
 rw [hm, hg, show (newD w).given = 0 from rfl, show (newD w).nc = zNic from rfl, show (newD w).dk = { zDsk with blocks := 4 } from rfl, show (newD w).tim = zTim from rfl, h0, h1, h2, h3, h4]
 rfl
noncomputable def imgD (k : Int) (l : List Int) : List Int := if k < 2 then kW ++ (List.replicate 85 0 ++ zB9 l) else zB9 l
noncomputable def mkD (k : Int) (l : List Int) : MchD := if k = 1 then itD (newD (imgD k l)) 87 else newD (imgD k l)
theorem kW_w : OkW kW := by
 have h : kW.all (fun x => decide (0 ≤ x) && decide (x < 4294967296)) = true := by decide +kernel
 intro x hx
 have := List.all_eq_true.1 h x hx
 simp at this
 exact ⟨by omega, by omega⟩
theorem zHt (k : Int) (l : List Int) : (imgD k l).length ≤ l.length + 160 := by
 unfold imgD
 split
 ·simp only [List.length_append, List.length_replicate, zC5, show kW.length = 75 from rfl]; omega
 ·rw [zC5]; omega
theorem zRT (k : Int) (l : List Int) : OkW (imgD k l) := by
 unfold imgD
 split
 ·intro x hx
  rcases List.mem_append.1 hx with q | q
  ·exact kW_w x q
  ·rcases List.mem_append.1 q with q | q
   ·rw [(List.mem_replicate.1 q).2]; exact zBA
   ·exact zOO l x q
 ·exact zOO l
theorem zTc (c : List Int) (h : c.length ≤ 96) : c ++ List.replicate (96 - c.length) 0 = (List.range 96).map fun i => c.getD i 0 := by
 apply List.ext_getElem?
 intro j
 rw [List.getElem?_map, List.getElem?_append]
 by_cases hj : j < c.length
 ·rw [if_pos hj, List.getElem?_range (by omega), Option.map_some, List.getD_eq_getElem?_getD, List.getElem?_eq_getElem hj]; rfl
 ·rw [if_neg hj, List.getElem?_replicate]
  by_cases h2 : j < 96
  ·rw [if_pos (by omega), List.getElem?_range h2, Option.map_some, List.getD_eq_getElem?_getD, List.getElem?_eq_none (by omega)]; rfl
  ·rw [if_neg (by omega), List.getElem?_eq_none (by simpa using h2)]; rfl
theorem zRn (l : List Int) (hl : l.length ≤ 60) : newD (imgD 1 l) = kM0 fun i => (zB9 l).getD i 0 := by
 have hc := zC5 l
 have e : padW (imgD 1 l) = kMem fun i => (zB9 l).getD i 0 := by
  unfold padW imgD kMem
  rw [if_pos (by decide), ← zTc (zB9 l) (by omega)]
  have : 256 - (kW ++ (List.replicate 85 0 ++ zB9 l)).length = 96 - (zB9 l).length := by
   simp only [List.length_append, List.length_replicate, show kW.length = 75 from rfl]; omega
  rw [this, List.append_assoc, List.append_assoc]
 unfold newD kM0
 rw [e]
theorem mkD_ok (k : Int) (l : List Int) (hl : l.length ≤ 60) : OkM (mkD k l) ∧ mayD (mkD k l) = true ∧ (mkD k l).dk.state = 0 := by
 have hi := zHt k l
 have h1 := zRk (zRT k l) (by omega)
 have h2 := zKy (w := imgD k l) (by omega)
 unfold mkD
 split
 ·rename_i hk
  subst hk
  have hq : ∀ j < 87, zFm (itD (newD (imgD 1 l)) j) = true := by
   intro j hj
   rw [zRn l hl]
   exact List.all_eq_true.1 (k_q1 fun i => (zB9 l).getD i 0) j (List.mem_range.2 hj)
  obtain ⟨g1, g2, g3, g4⟩ := it_ok h1 h2 rfl 87 (by omega) hq
  exact ⟨g1, g2, by rw [g4]; rfl⟩
 ·exact ⟨h1, h2, rfl⟩
end Go.Proofs.YtjmhjieflbnehaaGreat
end
section
set_option maxRecDepth 1000000
namespace Go.Proofs.YtjmhjieflbnehaaGreat.As
open Go.Ab Go.RowKit
def kSrc : List UInt8 := [108, 105, 32, 114, 49, 44, 32, 104, 97, 110, 100, 108, 101, 114, 10, 99, 115, 114, 119, 32, 114, 49, 44, 32, 49, 10, 108, 105, 32, 114, 49, 44, 32, 51, 49, 10, 99, 115, 114, 119, 32, 114, 49, 44, 32, 55, 10, 108, 105, 32, 114, 49, 44, 32, 52, 10, 99, 115, 114, 119, 32, 114, 49, 44, 32, 54, 10, 108, 105, 32, 114, 50, 44, 32, 53, 49, 50, 10, 108, 105, 32, 114, 51, 44, 32, 48, 10, 108, 105, 32, 114, 52, 44, 32, 56, 10, 109, 97, 112, 58, 32, 115, 104, 108, 105, 32, 114, 53, 44, 32, 114, 51, 44, 32, 56, 10, 111, 114, 105, 32, 114, 53, 44, 32, 114, 53, 44, 32, 55, 10, 115, 104, 108, 105, 32, 114, 54, 44, 32, 114, 51, 44, 32, 50, 10, 97, 100, 100, 32, 114, 54, 44, 32, 114, 54, 44, 32, 114, 50, 10, 115, 119, 32, 114, 53, 44, 32, 48, 40, 114, 54, 41, 10, 97, 100, 100, 105, 32, 114, 51, 44, 32, 114, 51, 44, 32, 49, 10, 98, 108, 116, 32, 114, 51, 44, 32, 114, 52, 44, 32, 109, 97, 112, 10, 108, 105, 32, 114, 49, 44, 32, 54, 10, 111, 117, 116, 32, 114, 49, 44, 32, 55, 10, 108, 105, 32, 114, 49, 44, 32, 50, 10, 111, 117, 116, 32, 114, 49, 44, 32, 57, 10, 108, 105, 32, 114, 49, 44, 32, 49, 48, 48, 10, 111, 117, 116, 32, 114, 49, 44, 32, 51, 10, 108, 105, 32, 114, 49, 44, 32, 54, 52, 48, 10, 99, 115, 114, 119, 32, 114, 49, 44, 32, 50, 10, 108, 105, 32, 114, 49, 44, 32, 50, 49, 10, 99, 115, 114, 119, 32, 114, 49, 44, 32, 48, 10, 101, 114, 101, 116, 10, 104, 97, 110, 100, 108, 101, 114, 58, 32, 99, 115, 114, 119, 32, 114, 49, 44, 32, 53, 10, 99, 115, 114, 114, 32, 114, 49, 44, 32, 51, 10, 115, 108, 116, 105, 32, 114, 49, 44, 32, 114, 49, 44, 32, 49, 54, 10, 98, 101, 113, 32, 114, 49, 44, 32, 114, 48, 44, 32, 105, 114, 113, 10, 99, 115, 114, 114, 32, 114, 49, 44, 32, 50, 10, 97, 100, 100, 105, 32, 114, 49, 44, 32, 114, 49, 44, 32, 52, 10, 99, 115, 114, 119, 32, 114, 49, 44, 32, 50, 10, 105, 110, 32, 114, 51, 44, 32, 50, 10, 111, 117, 116, 32, 114, 51, 44, 32, 48, 10, 108, 105, 32, 114, 49, 44, 32, 49, 10, 111, 117, 116, 32, 114, 49, 44, 32, 52, 10, 108, 105, 32, 114, 49, 44, 32, 55, 10, 111, 117, 116, 32, 114, 49, 44, 32, 53, 10, 97, 110, 100, 105, 32, 114, 49, 44, 32, 114, 50, 44, 32, 49, 10, 97, 100, 100, 105, 32, 114, 49, 44, 32, 114, 49, 44, 32, 49, 10, 111, 117, 116, 32, 114, 49, 44, 32, 54, 10, 99, 115, 114, 114, 32, 114, 49, 44, 32, 53, 10, 101, 114, 101, 116, 10, 105, 114, 113, 58, 32, 105, 110, 32, 114, 49, 44, 32, 48, 10, 111, 117, 116, 32, 114, 49, 44, 32, 48, 10, 111, 117, 116, 32, 114, 48, 44, 32, 54, 10, 111, 117, 116, 32, 114, 48, 44, 32, 57, 10, 108, 105, 32, 114, 49, 44, 32, 54, 10, 111, 117, 116, 32, 114, 49, 44, 32, 55, 10, 108, 105, 32, 114, 49, 44, 32, 50, 10, 111, 117, 116, 32, 114, 49, 44, 32, 57, 10, 105, 110, 32, 114, 49, 44, 32, 50, 10, 97, 100, 100, 105, 32, 114, 49, 44, 32, 114, 49, 44, 32, 50, 48, 10, 111, 117, 116, 32, 114, 49, 44, 32, 51, 10, 105, 110, 32, 114, 49, 44, 32, 49, 48, 10, 111, 117, 116, 32, 114, 49, 44, 32, 49, 48, 10, 99, 115, 114, 114, 32, 114, 49, 44, 32, 53, 10, 101, 114, 101, 116, 10]
theorem kAsm : (match asmR kSrc with | .ok l => l == kW | .error _ => false) = true := by decide +kernel
theorem kernel_ok : zAD Tryz.prog 37 [.str kSrc] (.tup [.new 25 1 (ints .u32 kW), errV (0, 0)]) := by
 have h := zI8 kSrc (by decide)
 have k := kAsm
 unfold zGW at h
 cases e : asmR kSrc with
 | error z => rw [e] at k; simp at k
 | ok l =>
  rw [e] at h k
  simp only [beq_iff_eq] at k
  subst k
  exact h
end Go.Proofs.YtjmhjieflbnehaaGreat.As
end
section
namespace Go.Proofs.YtjmhjieflbnehaaGreat
open Go.Ab Go.RowKit
abbrev rowM (m : MchD) (v : V) : List V := m.cpu.row ++ v :: .str m.keys :: (m.tim.row ++ (m.dk.row ++ (m.nc.row ++ [uv m.tgt, uv m.given, lv m.count, .bool m.waiting, .bool m.halted])))
abbrev mchO (m : MchD) (v : V) : Ob := ⟨42, 49, true, false, [rowM m v]⟩
def zCm (nx : Nat) (ob : List (Nat × Option Ob)) (id j : Nat) (m : MchD) (nx' : Nat) (ob' : List (Nat × Option Ob)) : Prop :=
 nx ≤ nx' ∧ lookO ob' id = some (mchO m (.own j)) ∧ lookO ob' j = some (⟨25, 1, false, false, ints .u32 m.mem⟩) ∧ ∀ i, i < nx → i ≠ id → i ≠ j → lookO ob' i = lookO ob i
abbrev zMR0 := [uv 0, uv 0, uv 0, uv 0, uv 0, uv 0, uv 0, uv 0, uv 0, uv 0, uv 0, uv 0, uv 0, uv 0, uv 0, uv 0, uv 0, uv 0, uv 0, uv 0, uv 0, uv 0, uv 0, uv 0, uv 0, .sl 0 true [], .str [], .bool false, uv 0, .bool false, uv 0, uv 0, uv 0, iv 0, iv 0, uv 0, uv 0, .str [], uv 0, uv 0, .bool false, uv 0, .bool false, uv 0, uv 0, uv 0, lv 0, .bool false, .bool false]
abbrev nilE : V := .sl 0 true []
theorem zPd : zAD Tryz.prog 80 [nilE] (.bool true) := by
 refine sX Tryz.func80 Tryz.ntmps80 ?_;(repeat intro K hK);refine wr ?_
 refine zAK 1 ?_
 refine zAF fun K hK => ?_
 refine au ?_;(repeat intro K hK);refine wr ?_
 refine gF00 rfl ?_;(repeat intro K hK);refine wr ?_
 refine zAB ?_
 simp
theorem run_ok (m : MchD) (n : Nat) (hmay : mayD m = true) (hg : 0 ≤ m.given ∧ m.given ≤ 4294967295) (hc : m.count = 0) (hn : n ≤ 1000) (hml : m.mem.length ≤ 100000)
  (hq : ∀ k < n, (itD m k).halted = false ∧ zHV (itD m k) = false ∧ rdsD (itD m k) = false) (hct : ∀ k ≤ n, (itD m k).count = k)
  (hDl : ∀ k < n, zAD Tryz.prog 83 [.st (itD m k).row] (.bool (zHV (itD m k))))
  (hR : ∀ k < n, zAD Tryz.prog 84 [.st (itD m k).row] (.bool (rdsD (itD m k))))
  (hO : zAD Tryz.prog 81 [.st m.row] (.st (rowM m (.new 25 1 (ints .u32 m.mem)))))
  (hA : ∀ k < n, ∀ {nx : Nat} {ob : List (Nat × Option Ob)} (id j : Nat), lookO ob id = some (mchO (itD m k) (.own j)) → lookO ob j = some ⟨25, 1, false, false, ints .u32 (itD m k).mem⟩ → id < nx → j < nx → id ≠ j →
   InlC Tryz.prog 85 [.ptr id 49 0 0, uv 0] nx ob fun r nx' ob' => (r = .sl 0 true [] ∨ r = .sl 4 false []) ∧ zCm nx ob id j (itD m (k + 1)) nx' ob') :
  zAD Tryz.prog 35 [.st m.row, nilE, lv n] (.tup [.st (itD m n).row, .sl 4 false [], iv 0, iv 0]) := by
 have hm := zTN m hg.1 hg.2
 rw [hmay] at hm
 have g1 : ¬ (n : Int) < m.count := by omega
 have g2 : ¬ 4000 < IntKind.u64.wrap ((n : Int) - m.count) := by rw [hc, IntKind.wrap_u64]; omega
 refine sX Tryz.func35 Tryz.ntmps35 ?_;(repeat intro K hK);refine wr ?_
 refine cX (hm) ?_;(repeat intro K hK);refine wr ?_
 refine gF10 (kX2 @g1 @g2) rfl ?_;(repeat intro K hK);refine wr ?_
 refine zAE ([0, 1, 2, 3, 4, 5, 6, 7, 8, 9, 10, 11, 12, 13, 14, 15, 16] : List Nat) ([[], [0], [0, 1], [0, 1, 2], [0, 1, 2, 3], [0, 1, 2, 3, 4], [0, 1, 2, 3, 4, 5], [0, 1, 2, 3, 4, 5, 6], [0, 1, 2, 3, 4, 5, 6, 7], [0, 1, 2, 3, 4, 5, 6, 7, 8], [0, 1, 2, 3, 4, 5, 6, 7, 8, 9], [0, 1, 2, 3, 4, 5, 6, 7, 8, 9, 10], [0, 1, 2, 3, 4, 5, 6, 7], [0, 1, 2, 3, 4, 5, 6, 7, 12], [0, 1, 2, 3, 4, 5, 6, 7, 8, 9, 10, 11, 12, 13], [0, 1, 2, 3, 4, 5, 6, 7, 8, 9, 10, 11, 12, 13, 14], [0, 1, 2, 3, 4, 5, 6, 7, 8, 9, 10, 11, 12, 13, 14, 15]] : List (List Nat)) ([(1, ([], [])), (1, ([], [])), (1, ([], [])), (1, ([], [])), (1, ([], [])), (1, ([], [])), (1, ([], [])), (1, ([], [])), (6, ([[], [0], [0, 1], [0, 1, 2], [], [4]], [])), (1, ([], [])), (1, ([], [])), (1, ([], []))] : List (Nat × List (List Nat) × List (Nat × Nat))) (by kernel_rfl) (by kernel_rfl) (by kernel_rfl) ?_
 refine af ?_;(repeat intro K hK);refine wr ?_
 refine cXf (zPd) ?_;(repeat intro K hK);refine wr ?_
 refine zC9 rfl ?_;(repeat intro K hK);refine wr ?_
 refine cXf (hO) ?_;(repeat intro K hK);refine wr ?_
 refine zAc 10 81 4 (by decide) rfl ?_
 simp
 obtain ⟨I, hI⟩ : ∃ I : Nat → St → Prop, I = (fun kk ss => ∃ (i : Nat) , i ≤ n ∧ kk = n - i ∧ (True) ∧ ss = ⟨140, [(11, iv 0), (10, .own 53), (3, .ptr 0 49 0 0), (1, nilE), (2, lv n), (6, .ptr 1 49 0 0)], 54, [(0, some (mchO (itD m i) (.own 29))), (29, some ⟨25, 1, false, false, ints .u32 (itD m i).mem⟩), (53, some ⟨81, 4, false, false, []⟩), (1, some ⟨42, 49, true, false, [zMR0]⟩)], 0⟩) := ⟨_, rfl⟩
 refine lX1 I (id) (by rw [hI]; exact ⟨0, by simp, rfl, trivial, rfl⟩) @itD.eq_1 ?_
 intro kk ss hIk _
 rw [hI] at hIk
 obtain ⟨i, hi, rfl, hx, rfl⟩ := hIk
 have hci := hct i hi
 refine af1 @hci ?_;(repeat intro K hK);refine wr ?_
 by_cases hi' : i < n
 ·have c1 : (i : Int) < n := by omega
  have c2 : (i : Int) < 1152921504606846976 := by omega
  obtain ⟨q1, q2, q3⟩ := hq i hi'
  have hIi := hDl i hi'
  have hRi := hR i hi'
  rw [q2] at hIi
  rw [q3] at hRi
  refine zEG (kX2 @hi' @c2) rfl ?_;(repeat intro K hK);refine wr ?_
  refine zAK 1 ?_
  refine zAF fun K2 hK2 => ?_
  refine af ?_;(repeat intro K hK);refine wr ?_
  refine zAE ([0, 1, 2, 3, 4, 5, 6, 7, 8, 9, 10, 11, 12, 13, 14, 15, 16, 17, 18, 19, 20, 21, 22] : List Nat) ([[], [], [1], [0, 1, 2], [0, 1, 2, 3], [0, 1, 2, 3, 4], [0, 1, 2, 3, 4], [0, 1, 2, 3, 4, 5, 6], [0, 1, 2, 3, 4, 5, 6, 7], [0, 1, 2, 3, 4, 5, 6, 7, 8], [0, 1, 2, 3, 4], [0, 1, 2, 3, 4, 10], [0, 1, 2, 3, 4, 5, 6, 7, 8, 9, 10, 11], [0, 1, 2, 3, 4, 5, 6, 7, 8, 9, 10, 11, 12], [0, 1, 2, 3, 4, 5, 6, 7, 8, 9, 10, 11, 12, 13], [0, 1, 2, 3, 4, 5, 6, 7, 8, 9, 10, 11, 12, 13, 14], [0, 1, 2, 3, 4, 5, 6, 7, 8, 9, 10, 11, 12, 13, 14], [0, 1, 2, 3, 4, 5, 6, 7, 8, 9, 10, 11, 12, 13, 14, 15, 16], [0, 1, 2, 3, 4, 5, 6, 7, 8, 9, 10, 11, 12, 13, 14, 15, 16, 17], [0, 1, 2, 3, 4, 5, 6, 7, 8, 9, 10, 11, 12, 13, 14, 15, 16, 17, 18], [0, 1, 2, 3, 4, 5, 6, 7, 8, 9, 10, 11, 12, 13, 14, 15, 16, 17, 18, 19], [0, 1, 2, 3, 4, 5, 6, 7, 8, 9, 10, 11, 12, 13, 14, 15, 16, 17, 18, 19, 20], [0, 1, 2, 3, 4, 5, 6, 7, 8, 9, 10, 11, 12, 13, 14, 15, 16, 17, 18, 19, 20, 21]] : List (List Nat)) ([(3, ([[], [], [1]], [])), (1, ([], [])), (1, ([], [])), (7, ([[], [], [0, 1], [0, 1, 2], [0, 1, 2, 3], [], [5]], [])), (1, ([], [])), (1, ([], [])), (1, ([], [])), (2, ([[], []], [])), (1, ([], [])), (1, ([], [])), (1, ([], [])), (1, ([], [])), (1, ([], [])), (1, ([], []))] : List (Nat × List (List Nat) × List (Nat × Nat))) (by kernel_rfl) (by kernel_rfl) (by kernel_rfl) ?_
  refine af ?_;(repeat intro K hK);refine wr ?_
  refine gF01f rfl @q1 ?_;(repeat intro K hK);refine wr ?_
  refine zC9 rfl ?_;(repeat intro K hK);refine wr ?_
  first | refine .inl ⟨1, _, hIi, ?_⟩ | refine ⟨1, _, hIi, ?_⟩
  simp [aftC, noX, noXc, noX1]
  first | refine And.intro zAL ?_ | skip
  refine af ?_;(repeat intro K hK);refine wr ?_
  refine zC9 rfl ?_;(repeat intro K hK);refine wr ?_
  refine zAE ([0, 1, 2, 3, 4, 5, 6, 7, 8, 9, 10, 11, 12, 13, 14] : List Nat) ([[], [], [1], [0, 1, 2], [0, 1, 2, 3], [0, 1, 2, 3, 4], [0, 1, 2, 3, 4], [0, 1, 2, 3, 4, 5, 6], [0, 1, 2, 3, 4, 5, 6, 7], [0, 1, 2, 3, 4, 5, 6, 7, 8], [0, 1, 2, 3, 4], [0, 1, 2, 3, 4, 10], [0, 1, 2, 3, 4, 5, 6, 7, 8, 9, 10, 11], [0, 1, 2, 3, 4, 5, 6, 7, 8, 9, 10, 11, 12], [0, 1, 2, 3, 4, 5, 6, 7, 8, 9, 10, 11, 12, 13]] : List (List Nat)) ([(3, ([[], [], [1]], [])), (1, ([], [])), (1, ([], [])), (7, ([[], [], [0, 1], [0, 1, 2], [0, 1, 2, 3], [], [5]], [])), (1, ([], [])), (1, ([], [])), (1, ([], []))] : List (Nat × List (List Nat) × List (Nat × Nat))) (by kernel_rfl) (by kernel_rfl) (by kernel_rfl) ?_
  refine af ?_;(repeat intro K hK);refine wr ?_
  first | refine .inl ⟨1, _, hRi, ?_⟩ | refine ⟨1, _, hRi, ?_⟩
  simp [aftC, noX, noXc, noX1]
  first | refine And.intro zAL ?_ | skip
  refine af ?_;(repeat intro K hK);refine wr ?_
  refine zC9 rfl ?_;(repeat intro K hK);refine wr ?_
  refine zC9 rfl ?_;(repeat intro K hK);refine wr ?_
  first | refine .inr ((hA i hi' 0 29 (by simp [lookO]) (by simp [lookO]) (by omega) (by omega) (by decide)).mono fun r nx' ob' hp => ?_) | refine (hA i hi' 0 29 (by simp [lookO]) (by simp [lookO]) (by omega) (by omega) (by decide)).mono fun r nx' ob' hp => ?_ | refine ((hA i hi' 0 29 (by simp [lookO]) (by simp [lookO]) (by omega) (by omega) (by decide)).mono fun r nx' ob' hp => ?_).2
  simp only [aftI]
  obtain ⟨hr, p1, p2, p3, p4⟩ := hp
  have y1 := p4 1 (by omega) (by decide) (by decide)
  have y2 := p4 53 (by omega) (by decide) (by decide)
  simp [lookO] at y1 y2
  have z0 : ¬ nx' = 0 := by omega
  have z1 : ¬ nx' = 1 := by omega
  have z2 : ¬ nx' = 29 := by omega
  have w0 : ¬ 0 = nx' := by omega
  have w1 : ¬ 1 = nx' := by omega
  have w2 : ¬ 29 = nx' := by omega
  have w3 : 29 < nx' + 1 := by omega
  rcases hr with rfl | rfl
  ·simp [y2]
   refine af1 (kX4 @y1 @y2 @p2 @p3) ?_;(repeat intro K hK);refine wr ?_
   refine zFT (n - (i + 1)) ((fun (i : Nat)  => (⟨140, [(11, iv 0), (10, .own 53), (3, .ptr 0 49 0 0), (1, nilE), (2, lv n), (6, .ptr 1 49 0 0)], 54, [(0, some (mchO (itD m i) (.own 29))), (29, some ⟨25, 1, false, false, ints .u32 (itD m i).mem⟩), (53, some ⟨81, 4, false, false, []⟩), (1, some ⟨42, 49, true, false, [zMR0]⟩)], 0⟩ : St)) (i + 1) ) (fun x => if x = 53 then nx' else x) (by omega) (by rw [hI]; exact ⟨i + 1, by omega, rfl, trivial, rfl⟩) ⟨rfl, ?_, ?_, ?_, by simp⟩
   ·simp [leT, ltV, lt1, ren, ren1, zAC (n := (i : Int) + 1) (by omega) (by omega), lookO, y1, p2, p3, z0, z1, z2, w0, w1, w2, w3]
   ·simp [leO, lt1, ren1, lookO, y1, p2, p3, z0, z1, z2, w0, w1, w2, w3]
   ·(simp; try omega)
  ·simp [y2]
   refine af1 (kX4 @y1 @y2 @p2 @p3) ?_;(repeat intro K hK);refine wr ?_
   refine zFT (n - (i + 1)) ((fun (i : Nat)  => (⟨140, [(11, iv 0), (10, .own 53), (3, .ptr 0 49 0 0), (1, nilE), (2, lv n), (6, .ptr 1 49 0 0)], 54, [(0, some (mchO (itD m i) (.own 29))), (29, some ⟨25, 1, false, false, ints .u32 (itD m i).mem⟩), (53, some ⟨81, 4, false, false, []⟩), (1, some ⟨42, 49, true, false, [zMR0]⟩)], 0⟩ : St)) (i + 1) ) (fun x => if x = 53 then nx' else x) (by omega) (by rw [hI]; exact ⟨i + 1, by omega, rfl, trivial, rfl⟩) ⟨rfl, ?_, ?_, ?_, by simp⟩
   ·simp [leT, ltV, lt1, ren, ren1, zAC (n := (i : Int) + 1) (by omega) (by omega), lookO, y1, p2, p3, z0, z1, z2, w0, w1, w2, w3]
   ·simp [leO, lt1, ren1, lookO, y1, p2, p3, z0, z1, z2, w0, w1, w2, w3]
   ·(simp; try omega)
 ·have : i = n := by omega
  subst this
  refine zC9 rfl ?_;(repeat intro K hK);refine wr ?_
  refine zAI ?_
  refine zAB ?_
  simp
end Go.Proofs.YtjmhjieflbnehaaGreat
end
