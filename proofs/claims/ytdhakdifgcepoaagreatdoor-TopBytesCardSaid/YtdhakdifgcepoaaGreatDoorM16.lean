/-
  gzip.Parse OF THE DOCUMENT's ARCHIVE, in one law.
-/
import Derived.Test.YtdhakdifgcepoaaGreatDoorM08
import Derived.Test.YtdhakdifgcepoaaGreatDoorM09
import Derived.Test.YtdhakdifgcepoaaGreatDoorM10
import Derived.Test.YtdhakdifgcepoaaGreatDoorM11
import Derived.Test.YtdhakdifgcepoaaGreatDoorM12
import Derived.Test.YtdhakdifgcepoaaGreatDoorM13
import Derived.Test.YtdhakdifgcepoaaGreatDoorM14
import Derived.Test.YtdhakdifgcepoaaGreatDoorM15
/-
  gzip.Parse OF THE DOCUMENT's ARCHIVE, in one law.
-/
namespace Go.Cx
noncomputable section
open Go Go.Proofs Go.Conc

theorem pg_all (Post : Value → World → Prop) (x d : Nat → UInt8) (y : Nat → AV) {n : Nat} (h1 : 1 ≤ n) (h2 : n ≤ 300) : pgIs Post x d y n = pgBe Post x d n := by
  by_cases a : n ≤ 100
  · exact pg_from1 Post x d y h1 a
  by_cases b : n ≤ 200
  · exact pg_from101 Post x d y (by omega) b
  exact pg_from201 Post x d y (by omega) h2
theorem pb_all (Post : Value → World → Prop) (x d : Nat → UInt8) (y : Nat → AV) {n : Nat} (h1 : 1 ≤ n) (h2 : n ≤ 300) : pbIs Post x d y n = pbBe Post x d n := by
  by_cases a : n ≤ 100
  · exact pb_from1 Post x d y h1 a
  by_cases b : n ≤ 200
  · exact pb_from101 Post x d y (by omega) b
  exact pb_from201 Post x d y (by omega) h2

/-- An archive with a sum. -/
def arcF (l : List UInt8) (c : Nat) : List UInt8 := hdr ++ storedS l ++ le4 c ++ le4 l.length
theorem arcF_crc (l : List UInt8) : arcF l (crcF l) = archF l := rfl
theorem rowX_eq : ∀ (l : List UInt8) (x : Nat → UInt8) (i : Nat), (∀ j, j < l.length → some (x (i + j)) = l[j]?) → rowX l.length x i = l
  | [], _, _, _ => rfl
  | b :: l, x, i, h => by
    have h0 := h 0 (by simp)
    simp only [Nat.add_zero, List.getElem?_cons_zero, Option.some.injEq] at h0
    have := rowX_eq l x (i + 1) (fun j hj => by
      have := h (j + 1) (by simpa using hj)
      rw [List.getElem?_cons_succ] at this
      rw [← this]
      congr 2
      omega)
    simp only [List.length_cons, rowX, this, h0]
theorem rowW_X : ∀ (n : Nat) (x : Nat → UInt8) (i : Nat), rowW n x i = rowX n x i
  | 0, _, _ => rfl
  | n + 1, x, i => by simp only [rowW, rowX, wr_eq, rowW_X n]
theorem getD_some (l : List UInt8) (j : Nat) (h : j < l.length) : some (l.getD j 0) = l[j]? := by
  rw [List.getD_eq_getElem?_getD, List.getElem?_eq_getElem h]; rfl
def xOf (l : List UInt8) : Nat → UInt8 := fun i => l.getD i 0
theorem rowX_of (l : List UInt8) : rowX l.length (xOf l) 0 = l := rowX_eq l _ 0 (fun j hj => by rw [Nat.zero_add]; exact getD_some l j hj)
theorem bytes_map (l : List UInt8) : (l.map (·.toNat)).map UInt8.ofNat = l := by
  rw [List.map_map]
  conv => rhs; rw [← List.map_id l]
  exact List.map_congr_left fun b _ => by simp
theorem storedS_eq (l : List UInt8) : storedS l = UInt8.ofNat 1 :: UInt8.ofNat (l.length % 256) :: UInt8.ofNat (l.length / 256) :: UInt8.ofNat ((65535 - l.length) % 256) :: UInt8.ofNat ((65535 - l.length) / 256) :: l := by
  unfold storedS storedBytes
  rw [List.map_append, bytes_map]
  rfl
theorem arcX_eq (l : List UInt8) (c : Nat) : arcX l.length (xOf l) (xOf (le4 c ++ le4 l.length)) = arcF l c := by
  have e8 : rowX 8 (xOf (le4 c ++ le4 l.length)) 0 = le4 c ++ le4 l.length := by
    have := rowX_of (le4 c ++ le4 l.length)
    rw [List.length_append, le4_length, le4_length] at this
    exact this
  unfold arcX arcF
  rw [e8, rowX_of, storedS_eq]
  simp only [List.cons_append, List.append_assoc]
theorem le4_get (c i : Nat) (hi : i < 4) : (le4 c)[i]? = some (UInt8.ofNat (c / 256 ^ i % 256)) := by
  have e : le4 c = [UInt8.ofNat (c % 256), UInt8.ofNat (c / 256 % 256), UInt8.ofNat (c / 256 / 256 % 256), UInt8.ofNat (c / 256 / 256 / 256 % 256)] := rfl
  rw [e]
  have : i = 0 ∨ i = 1 ∨ i = 2 ∨ i = 3 := by omega
  rcases this with rfl | rfl | rfl | rfl
  · simp
  · simp
  · simp [Nat.div_div_eq_div_mul]
  · simp [Nat.div_div_eq_div_mul]
theorem arcF_tail {l : List UInt8} {c : Nat} (hl : l.length ≤ 400) (hc : c < 2 ^ 32) : Tail (arcF l c) l l.length c := by
  have h0 : hdr.length = 10 := rfl
  have h1 : (hdr ++ storedS l).length = 15 + l.length := by rw [List.length_append, storedS_length, h0]; omega
  have h2 : (hdr ++ storedS l ++ le4 c).length = 19 + l.length := by rw [List.length_append, h1, le4_length]; omega
  refine ⟨hl, hc, ?_, fun i hi => ?_, fun i hi => ?_, rfl⟩
  · unfold arcF
    rw [List.length_append, h2, le4_length]; omega
  · unfold arcF
    rw [List.getElem?_append_left (by rw [h2]; omega), List.getElem?_append_right (by rw [h1]; omega), h1, show 15 + l.length + i - (15 + l.length) = i by omega]
    exact le4_get c i hi
  · unfold arcF
    rw [List.getElem?_append_right (by rw [h2]; omega), h2, show 19 + l.length + i - (19 + l.length) = i by omega]
    exact le4_get _ i hi

set_option maxRecDepth 100000 in
theorem parse_good0 (Post : Value → World → Prop) {n c : Nat} {x d : Nat → UInt8} (h1 : 1 ≤ n) (h2 : n ≤ 300) (hT : Tail (arcX n x d) (rowW n x 0) n c) (he : c = crcF (rowW n x 0)) :
    SndF Q Post 33 [.str (arcX n x d)] h12 none (.tuple [.agg (infoA n (rowW n x 0) 12), .agg [.nilIface]]) { n := 13, t := h12.t.puts 12 [startB] } none := by
  have h := pg_all Post x d (fun _ => .tuple []) h1 h2
  unfold pgIs pgBe paR at h
  exact conH_sound h ⟨⟨fun _ => rfl, fun h hL => tail_good Post hT he h hL⟩, rfl, trivial⟩ (by kernel_rfl) Tryz.func33 rfl rfl (by rfl) (by kernel_rfl) (by kernel_rfl) (by kernel_rfl)
set_option maxRecDepth 100000 in
theorem parse_bad0 (Post : Value → World → Prop) {n c : Nat} {x d : Nat → UInt8} (h1 : 1 ≤ n) (h2 : n ≤ 300) (hT : Tail (arcX n x d) (rowW n x 0) n c) (he : c ≠ crcF (rowW n x 0)) :
    SndF Q Post 33 [.str (arcX n x d)] h12 none (.tuple [.agg zeroInfo, .agg [.iface 143 (.ptr (some (12, 0)))]]) { n := 13, t := h12.t.puts 12 [linkB n] } none := by
  have h := pb_all Post x d (fun _ => .tuple []) h1 h2
  unfold pbIs pbBe paR at h
  exact conH_sound h ⟨⟨fun _ => rfl, fun h hL => tail_bad Post hT he h hL⟩, rfl, trivial⟩ (by kernel_rfl) Tryz.func33 rfl rfl (by rfl) (by kernel_rfl) (by kernel_rfl) (by kernel_rfl)

noncomputable def LN (k : Nat) (h : AH) : Bool := Nat.beq h.n k && L12 h
theorem L12_lt {h : AH} (hL : L12 h = true) : ∀ c ∈ List.range 12, c < h.n := by
  unfold L12 at hL
  simp only [Bool.and_eq_true, Nat.ble_eq] at hL
  intro c hc
  simp only [List.mem_range] at hc
  omega
theorem L12_lent {h : AH} (hL : L12 h = true) : lentAll (List.range 12) h h12 (List.range 12) 0 = true := by
  unfold L12 at hL
  simp only [Bool.and_eq_true] at hL
  exact hL.2
theorem g12 (g : Nat) (hg : g < Q.globals.size) : (List.range 12)[g]? = some g := by
  rw [q_globals] at hg
  rw [List.getElem?_range (by omega)]
theorem LN_n {k : Nat} {h : AH} (hL : LN k h = true) : h.n = k ∧ L12 h = true := by
  unfold LN at hL
  simp only [Bool.and_eq_true] at hL
  exact ⟨Nat.eq_of_beq_eq_true hL.1, hL.2⟩
theorem frame12 {Post : Value → World → Prop} {f : FuncId} {args : List AV} {v v' : AV} {h1 : AH} {ids : List Nat} {blks : List ABlk} {k : Nat} {h : AH} (hs : SndF Q Post f args h12 none v h1 none) (hL : LN k h = true) (ha : AV.rens (lentAs (List.range 12)) args = some args) (hnod : ids.Nodup) (hids : ∀ b ∈ ids, 12 ≤ b)
    (hb : blksOf (nameOf (List.range 12) k h1 ids) h1 ids = some blks) (hv : v.ren (nameOf (List.range 12) k h1 ids) = some v') : SndF Q Post f args h none v' { n := k + ids.length, t := h.t.puts k blks } none := by
  obtain ⟨hn, hL2⟩ := LN_n hL
  subst hn
  exact SndF.frame (P := Q) (lay := h12) (h := h) (m := List.range 12) hs (L12_lt hL2) List.nodup_range rfl g12 (heapOf_out _) (L12_lent hL2) ha hnod (by simpa using hids) hb hv
set_option maxRecDepth 100000 in
theorem parse_good (Post : Value → World → Prop) {l : List UInt8} (h1 : 1 ≤ l.length) (h2 : l.length ≤ 300) (k : Nat) (h : AH) (hL : LN k h = true) :
    SndF Q Post 33 [.str (archF l)] h none (.tuple [.agg (infoA l.length l k), .agg [.nilIface]]) { n := k + 1, t := h.t.puts k [startB] } none := by
  have hT := arcF_tail (l := l) (c := crcF l) (by omega) (crcF_lt l)
  rw [← arcF_crc]
  rw [← arcX_eq] at hT ⊢
  have hw : rowW l.length (xOf l) 0 = l := by rw [rowW_X, rowX_of]
  have := parse_good0 Post h1 h2 (x := xOf l) (d := xOf (le4 (crcF l) ++ le4 l.length)) (c := crcF l) (by rw [hw]; exact hT) (by rw [hw])
  rw [hw] at this
  exact frame12 (ids := [12]) this hL (by kernel_rfl) (by decide) (by decide) (by kernel_rfl) (by kernel_rfl)
set_option maxRecDepth 100000 in
theorem parse_bad (Post : Value → World → Prop) {l : List UInt8} {c : Nat} (h1 : 1 ≤ l.length) (h2 : l.length ≤ 300) (hc : c < 2 ^ 32) (he : c ≠ crcF l) (k : Nat) (h : AH) (hL : LN k h = true) :
    SndF Q Post 33 [.str (arcF l c)] h none (.tuple [.agg zeroInfo, .agg [.iface 143 (.ptr (some (k, 0)))]]) { n := k + 1, t := h.t.puts k [linkB l.length] } none := by
  have hT := arcF_tail (l := l) (c := c) (by omega) hc
  rw [← arcX_eq] at hT ⊢
  have hw : rowW l.length (xOf l) 0 = l := by rw [rowW_X, rowX_of]
  have := parse_bad0 Post h1 h2 (x := xOf l) (d := xOf (le4 c ++ le4 l.length)) (c := c) (by rw [hw]; exact hT) (by rw [hw]; exact he)
  exact frame12 (ids := [12]) this hL (by kernel_rfl) (by decide) (by decide) (by kernel_rfl) (by kernel_rfl)
end
end Go.Cx

