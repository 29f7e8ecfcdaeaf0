/- A part of the proof of movingpointLong. -/
import Derived.Test.YtbenbmdkhcfcfaaGreatDoorC6
import Derived.Test.YtbenbmdkhcfcfaaGreatDoorB9
set_option linter.unusedVariables false
set_option linter.unusedSimpArgs false
open Go.Proofs.Tryz renaming call342 → cc342
namespace Go.Sx
def symF_K2 {α : Type} [Inhabited α] (c : α → α → Int) (rec_ : List α → Nat → Nat → Nat → List α) (data : List α) (a : Nat) (m : Nat) (b : Nat) (i : Nat) (j : Nat) (k2 : Nat) (data2 : List α) : List α :=
  data2
def so {α : Type} [Inhabited α] (c : α → α → Int) (rec_ : List α → Nat → Nat → Nat → List α) (data : List α) (a : Nat) (m : Nat) (b : Nat) (i : Nat) (j : Nat) (k2 : Nat) (data2 : List α) : Nx (Nat × (List α)) (List α) :=
  bif (decide (((k2 : Nat) : Int) < (((i - 1) : Nat) : Int))) then
    .go ((k2 + 1), ((data2.set k2 (gt data2 (k2 + 1))).set (k2 + 1) (gt data2 k2)))
  else
    .out (k2, data2)
def symF_K1 {α : Type} [Inhabited α] (c : α → α → Int) (rec_ : List α → Nat → Nat → Nat → List α) (data : List α) (a : Nat) (m : Nat) (b : Nat) (i : Nat) (j : Nat) : List α :=
  fin (bC (fun s => so c rec_ data a m b i j s.1 s.2) ((i - a) + 1) (a, data)) (fun s => symF_K2 c rec_ data a m b i j s.1 s.2) (fun r => r)
def sr {α : Type} [Inhabited α] (c : α → α → Int) (rec_ : List α → Nat → Nat → Nat → List α) (data : List α) (a : Nat) (m : Nat) (b : Nat) (i : Nat) (j : Nat) : Nx (Nat × Nat) (List α) :=
  bif (decide (((i : Nat) : Int) < ((j : Nat) : Int))) then
    bif (decide ((c (gt data ((i + j) / 2)) (gt data a)) < 0)) then
      .go ((((i + j) / 2) + 1), j)
    else
      .go (i, ((i + j) / 2))
  else
    .out (i, j)
def symF_K4 {α : Type} [Inhabited α] (c : α → α → Int) (rec_ : List α → Nat → Nat → Nat → List α) (data : List α) (a : Nat) (m : Nat) (b : Nat) (i : Nat) (j : Nat) (k4 : Nat) (data4 : List α) : List α :=
  data4
def sk {α : Type} [Inhabited α] (c : α → α → Int) (rec_ : List α → Nat → Nat → Nat → List α) (data : List α) (a : Nat) (m : Nat) (b : Nat) (i : Nat) (j : Nat) (k4 : Nat) (data4 : List α) : Nx (Nat × (List α)) (List α) :=
  bif (decide (((k4 : Nat) : Int) > ((i : Nat) : Int))) then
    .go ((k4 - 1), ((data4.set k4 (gt data4 (k4 - 1))).set (k4 - 1) (gt data4 k4)))
  else
    .out (k4, data4)
def symF_K3 {α : Type} [Inhabited α] (c : α → α → Int) (rec_ : List α → Nat → Nat → Nat → List α) (data : List α) (a : Nat) (m : Nat) (b : Nat) (i : Nat) (j : Nat) : List α :=
  fin (bC (fun s => sk c rec_ data a m b i j s.1 s.2) (m + 1) (m, data)) (fun s => symF_K4 c rec_ data a m b i j s.1 s.2) (fun r => r)
def sn {α : Type} [Inhabited α] (c : α → α → Int) (rec_ : List α → Nat → Nat → Nat → List α) (data : List α) (a : Nat) (m : Nat) (b : Nat) (i : Nat) (j : Nat) : Nx (Nat × Nat) (List α) :=
  bif (decide (((i : Nat) : Int) < ((j : Nat) : Int))) then
    bif (!(decide ((c (gt data m) (gt data ((i + j) / 2))) < 0))) then
      .go ((((i + j) / 2) + 1), j)
    else
      .go (i, ((i + j) / 2))
  else
    .out (i, j)
def gU {α : Type} [Inhabited α] (c : α → α → Int) (rec_ : List α → Nat → Nat → Nat → List α) (data : List α) (a : Nat) (m : Nat) (b : Nat) (start : Nat) (r : Nat) : List α :=
  bif ((decide (((start : Nat) : Int) < ((m : Nat) : Int))) && (decide (((m : Nat) : Int) < ((((((a + b) / 2) + m) - start) : Nat) : Int)))) then
    bif ((decide (((a : Nat) : Int) < ((start : Nat) : Int))) && (decide (((start : Nat) : Int) < ((((a + b) / 2 : Nat)) : Int)))) then
      bif ((decide (((((a + b) / 2 : Nat)) : Int) < ((((((a + b) / 2) + m) - start) : Nat) : Int))) && (decide (((((((a + b) / 2) + m) - start) : Nat) : Int) < ((b : Nat) : Int)))) then
        (rec_ (rec_ (rot data start m ((((a + b) / 2) + m) - start)) a start ((a + b) / 2)) ((a + b) / 2) ((((a + b) / 2) + m) - start) b)
      else
        (rec_ (rot data start m ((((a + b) / 2) + m) - start)) a start ((a + b) / 2))
    else
      bif ((decide (((((a + b) / 2 : Nat)) : Int) < ((((((a + b) / 2) + m) - start) : Nat) : Int))) && (decide (((((((a + b) / 2) + m) - start) : Nat) : Int) < ((b : Nat) : Int)))) then
        (rec_ (rot data start m ((((a + b) / 2) + m) - start)) ((a + b) / 2) ((((a + b) / 2) + m) - start) b)
      else
        (rot data start m ((((a + b) / 2) + m) - start))
  else
    bif ((decide (((a : Nat) : Int) < ((start : Nat) : Int))) && (decide (((start : Nat) : Int) < ((((a + b) / 2 : Nat)) : Int)))) then
      bif ((decide (((((a + b) / 2 : Nat)) : Int) < ((((((a + b) / 2) + m) - start) : Nat) : Int))) && (decide (((((((a + b) / 2) + m) - start) : Nat) : Int) < ((b : Nat) : Int)))) then
        (rec_ (rec_ data a start ((a + b) / 2)) ((a + b) / 2) ((((a + b) / 2) + m) - start) b)
      else
        (rec_ data a start ((a + b) / 2))
    else
      bif ((decide (((((a + b) / 2 : Nat)) : Int) < ((((((a + b) / 2) + m) - start) : Nat) : Int))) && (decide (((((((a + b) / 2) + m) - start) : Nat) : Int) < ((b : Nat) : Int)))) then
        (rec_ data ((a + b) / 2) ((((a + b) / 2) + m) - start) b)
      else
        data
def kv {α : Type} [Inhabited α] (c : α → α → Int) (rec_ : List α → Nat → Nat → Nat → List α) (data : List α) (a : Nat) (m : Nat) (b : Nat) (start : Nat) (r : Nat) : Nx (Nat × Nat) (List α) :=
  bif (decide (((start : Nat) : Int) < ((r : Nat) : Int))) then
    bif (!(decide ((c (gt data (((((a + b) / 2) + m) - 1) - ((start + r) / 2))) (gt data ((start + r) / 2))) < 0))) then
      .go ((((start + r) / 2) + 1), r)
    else
      .go (start, ((start + r) / 2))
  else
    .out (start, r)
def pB {α : Type} [Inhabited α] (c : α → α → Int) (rec_ : List α → Nat → Nat → Nat → List α) (data : List α) (a : Nat) (m : Nat) (b : Nat) : List α :=
  bif (((((m - a) : Nat) : Int)) == (((1 : Nat) : Int))) then
    fin (bC (fun s => sr c rec_ data a m b s.1 s.2) (b - m + 1) (m, b)) (fun s => symF_K1 c rec_ data a m b s.1 s.2) (fun r => r)
  else
    bif (((((b - m) : Nat) : Int)) == (((1 : Nat) : Int))) then
      fin (bC (fun s => sn c rec_ data a m b s.1 s.2) (m - a + 1) (a, m)) (fun s => symF_K3 c rec_ data a m b s.1 s.2) (fun r => r)
    else
      bif (decide (((m : Nat) : Int) > ((((a + b) / 2 : Nat)) : Int))) then
        fin (bC (fun s => kv c rec_ data a m b s.1 s.2) (((a + b) / 2) - ((((a + b) / 2) + m) - b) + 1) (((((a + b) / 2) + m) - b), ((a + b) / 2))) (fun s => gU c rec_ data a m b s.1 s.2) (fun r => r)
      else
        fin (bC (fun s => kv c rec_ data a m b s.1 s.2) (m - a + 1) (a, m)) (fun s => gU c rec_ data a m b s.1 s.2) (fun r => r)
def symN {α : Type} [Inhabited α] (c : α → α → Int) : Nat → List α → Nat → Nat → Nat → List α
  | 0, d, _, _, _ => d
  | K + 1, d, a, m, b => pB c (symN c K) d a m b
def sym {α : Type} [Inhabited α] (c : α → α → Int) (data : List α) (a : Nat) (m : Nat) (b : Nat) : List α := symN c (b - a + 1) data a m b
def stb_K2 {α : Type} [Inhabited α] (c : α → α → Int) (data : List α) (n : Nat) (a : Nat) (b : Nat) (data1 : List α) (blockSize : Nat) (data2 : List α) : List α :=
  data2
def qx {α : Type} [Inhabited α] (c : α → α → Int) (data : List α) (n : Nat) (a : Nat) (b : Nat) (data1 : List α) (blockSize : Nat) (data2 : List α) (a3 : Nat) (b3 : Nat) (data3 : List α) : Nx (Nat × (List α)) (List α) :=
  bif (decide (((a3 + blockSize : Nat) : Int) < ((n : Nat) : Int))) then
    .go ((blockSize * 2), (sym c data3 a3 (a3 + blockSize) n))
  else
    .go ((blockSize * 2), data3)
def nV {α : Type} [Inhabited α] (c : α → α → Int) (data : List α) (n : Nat) (a : Nat) (b : Nat) (data1 : List α) (blockSize : Nat) (data2 : List α) (a3 : Nat) (b3 : Nat) (data3 : List α) : Nx (Nat × Nat × (List α)) (List α) :=
  bif (decide (((b3 : Nat) : Int) ≤ ((n : Nat) : Int))) then
    .go (b3, (b3 + (2 * blockSize)), (sym c data3 a3 (a3 + blockSize) b3))
  else
    .out (a3, b3, data3)
def qy {α : Type} [Inhabited α] (c : α → α → Int) (data : List α) (n : Nat) (a : Nat) (b : Nat) (data1 : List α) (blockSize : Nat) (data2 : List α) : Nx (Nat × (List α)) (List α) :=
  bif (decide (((blockSize : Nat) : Int) < ((n : Nat) : Int))) then
    fin (bC (fun s => nV c data n a b data1 blockSize data2 s.1 s.2.1 s.2.2) (n - 0 + 1) (0, (2 * blockSize), data2)) (fun s => qx c data n a b data1 blockSize data2 s.1 s.2.1 s.2.2) (fun r => .ret r)
  else
    .out (blockSize, data2)
def stb_K1 {α : Type} [Inhabited α] (c : α → α → Int) (data : List α) (n : Nat) (a : Nat) (b : Nat) (data1 : List α) : List α :=
  fin (bC (fun s => qy c data n a b data1 s.1 s.2) (n - 20 + 1) (20, (jt c data1 a n))) (fun s => stb_K2 c data n a b data1 s.1 s.2) (fun r => r)
def qz {α : Type} [Inhabited α] (c : α → α → Int) (data : List α) (n : Nat) (a : Nat) (b : Nat) (data1 : List α) : Nx (Nat × Nat × (List α)) (List α) :=
  bif (decide (((b : Nat) : Int) ≤ ((n : Nat) : Int))) then
    .go (b, (b + 20), (jt c data1 a b))
  else
    .out (a, b, data1)
def stb {α : Type} [Inhabited α] (c : α → α → Int) (data : List α) (n : Nat) : List α :=
  fin (bC (fun s => qz c data n s.1 s.2.1 s.2.2) (n + 20 - 20 + 1) (0, 20, data)) (fun s => stb_K1 c data n s.1 s.2.1 s.2.2) (fun r => r)
end Go.Sx
namespace Go.Sx
section
variable {α : Type} [Inhabited α]
def Srtd (K : α → Nat) (d : List α) (a b : Nat) : Prop := ∀ x y, a ≤ x → x < y → y < b → K (gt d x) ≤ K (gt d y)
theorem Srtd.le {K : α → Nat} {d : List α} {a b : Nat} (h : Srtd K d a b) {x y : Nat} (h1 : a ≤ x) (h2 : x ≤ y) (h3 : y < b) : K (gt d x) ≤ K (gt d y) := by
  rcases Nat.lt_or_ge x y with e | e
  · exact h x y h1 e h3
  · have : x = y := by omega
    subst this; exact Nat.le_refl _
theorem up_loop {R : Type} {B : Nat × List α → Nx (Nat × List α) R} {e : Nat}
    (hB : ∀ k d, B (k, d) = bif decide (((k : Nat) : Int) < (((e - 1) : Nat) : Int)) then .go ((k + 1), ((d.set k (gt d (k + 1))).set (k + 1) (gt d k))) else .out (k, d))
    (d : List α) (a : Nat) (hae : a + 1 ≤ e) (hb : e ≤ d.length) (N : Nat) (hN : e - a < N) :
    ∃ k d', bC B N (a, d) = .inl (k, d') ∧ Mrg d d' a e ∧ ∀ x, gt d' x = if a ≤ x ∧ x + 1 < e then gt d (x + 1) else if x + 1 = e then gt d a else gt d x := by
  obtain ⟨⟨k, d'⟩, h, h1, h2⟩ := fZ (B := B) (I := fun s => a ≤ s.1 ∧ s.1 + 1 ≤ e ∧ Mrg d s.2 a e ∧ ∀ x, gt s.2 x = if a ≤ x ∧ x < s.1 then gt d (x + 1) else if x = s.1 then gt d a else gt d x)
    (Q := fun s => Mrg d s.2 a e ∧ ∀ x, gt s.2 x = if a ≤ x ∧ x + 1 < e then gt d (x + 1) else if x + 1 = e then gt d a else gt d x) (μ := fun s => e - s.1) (fun ⟨k, d1⟩ ⟨h1, h2, h3, h4⟩ => by
      dsimp only at h1 h2 h3 h4 ⊢
      have hl := h3.len
      by_cases hk : k + 1 < e
      · refine .inl ⟨(k + 1, nU d1 k (k + 1)), by rw [hB, decide_eq_true (by omega : ((k : Nat) : Int) < (((e - 1) : Nat) : Int))]; rfl, ⟨by dsimp only; omega, by dsimp only; omega, h3.trans (Mrg.swap h1 (by omega) (by omega) (by omega) (by omega) (by omega)), fun x => ?_⟩, by dsimp only; omega⟩
        dsimp only
        rw [iV (by omega) (by omega), h4, h4, h4]
        repeat' split
        all_goals first | rfl | (exfalso; omega) | (congr 1 <;> omega)
      · refine .inr ⟨(k, d1), by rw [hB, decide_eq_false (by omega : ¬ ((k : Nat) : Int) < (((e - 1) : Nat) : Int))]; rfl, h3, fun x => ?_⟩
        dsimp only
        rw [h4]
        repeat' split
        all_goals first | rfl | (exfalso; omega) | (congr 1 <;> omega)) N (a, d) ⟨Nat.le_refl _, hae, Mrg.refl _ _ _, fun x => by
          dsimp only
          repeat' split
          all_goals first | rfl | (exfalso; omega) | (congr 1 <;> omega)⟩ hN
  exact ⟨k, d', h, h1, h2⟩
theorem tR {R : Type} {B : Nat × List α → Nx (Nat × List α) R} {e : Nat}
    (hB : ∀ k d, B (k, d) = bif decide (((k : Nat) : Int) > ((e : Nat) : Int)) then .go ((k - 1), ((d.set k (gt d (k - 1))).set (k - 1) (gt d k))) else .out (k, d))
    (d : List α) (m : Nat) (hem : e ≤ m) (hb : m < d.length) (N : Nat) (hN : m < N) :
    ∃ k d', bC B N (m, d) = .inl (k, d') ∧ Mrg d d' e (m + 1) ∧ ∀ x, gt d' x = if e < x ∧ x ≤ m then gt d (x - 1) else if x = e then gt d m else gt d x := by
  obtain ⟨⟨k, d'⟩, h, h1, h2⟩ := fZ (B := B) (I := fun s => e ≤ s.1 ∧ s.1 ≤ m ∧ Mrg d s.2 e (m + 1) ∧ ∀ x, gt s.2 x = if s.1 < x ∧ x ≤ m then gt d (x - 1) else if x = s.1 then gt d m else gt d x)
    (Q := fun s => Mrg d s.2 e (m + 1) ∧ ∀ x, gt s.2 x = if e < x ∧ x ≤ m then gt d (x - 1) else if x = e then gt d m else gt d x) (μ := fun s => s.1) (fun ⟨k, d1⟩ ⟨h1, h2, h3, h4⟩ => by
      dsimp only at h1 h2 h3 h4 ⊢
      have hl := h3.len
      by_cases hk : e < k
      · refine .inl ⟨(k - 1, nU d1 k (k - 1)), by rw [hB, decide_eq_true (by omega : ((k : Nat) : Int) > ((e : Nat) : Int))]; rfl, ⟨by dsimp only; omega, by dsimp only; omega, h3.trans (Mrg.swap h1 (by omega) (by omega) (by omega) (by omega) (by omega)), fun x => ?_⟩, by dsimp only; omega⟩
        dsimp only
        rw [iV (by omega) (by omega), h4, h4, h4]
        repeat' split
        all_goals first | rfl | (exfalso; omega) | (congr 1 <;> omega)
      · refine .inr ⟨(k, d1), by rw [hB, decide_eq_false (by omega : ¬ ((k : Nat) : Int) > ((e : Nat) : Int))]; rfl, h3, fun x => ?_⟩
        dsimp only
        rw [h4]
        repeat' split
        all_goals first | rfl | (exfalso; omega) | (congr 1 <;> omega)) N (m, d) ⟨hem, Nat.le_refl _, Mrg.refl _ _ _, fun x => by
          dsimp only
          repeat' split
          all_goals first | rfl | (exfalso; omega) | (congr 1 <;> omega)⟩ hN
  exact ⟨k, d', h, h1, h2⟩
variable {c : α → α → Int} {K : α → Nat} {S : α → Prop}
def nP (K : α → Nat) (S : α → Prop) (f : List α → Nat → Nat → Nat → List α) (n : Nat) : Prop :=
  ∀ d a m b, a < m → m < b → b ≤ d.length → b - a < n → (∀ x ∈ d, S x) → Srtd K d a m → Srtd K d m b → Mrg d (f d a m b) a b ∧ Srtd K (f d a m b) a b
theorem fA {d d' : List α} {a b : Nat} (h : Mrg d d' a b) (hS : ∀ x ∈ d, S x) : ∀ x ∈ d', S x := fun x hx => hS x (h.perm.mem_iff.1 hx)
theorem rl (hc : ∀ x y, S x → S y → (c x y < 0 ↔ K x < K y)) {f : List α → Nat → Nat → Nat → List α} {d : List α} {a m b : Nat} (ham : m = a + 1) (hmb : m < b) (hb : b ≤ d.length)
    (hS : ∀ x ∈ d, S x) (h2 : Srtd K d m b) : Mrg d (pB c f d a m b) a b ∧ Srtd K (pB c f d a m b) a b := by
  have hs : ∀ i, i < d.length → S (gt d i) := fun i hi => hS _ (nB hi)
  obtain ⟨i, e, i1, i2, hlo, hhi⟩ := qo (B := fun s : Nat × Nat => sr c f d a m b s.1 s.2) (p := fun h => decide (c (gt d h) (gt d a) < 0)) (lo := m) (hi := b) (fun i j => rfl)
    (fun x y hx hxy hy hp => by
      have hp' := (hc _ _ (hs y (by omega)) (hs a (by omega))).1 (of_decide_eq_true hp)
      exact decide_eq_true ((hc _ _ (hs x (by omega)) (hs a (by omega))).2 (Nat.lt_of_le_of_lt (h2.le hx hxy hy) hp'))) (by omega) (b - m + 1) (by omega)
  obtain ⟨k, d', e2, hm, hg⟩ := up_loop (B := fun s : Nat × List α => so c f d a m b i i s.1 s.2) (e := i) (fun k d => rfl) d a (by omega) (by omega) ((i - a) + 1) (by omega)
  have he : pB c f d a m b = d' := by
    unfold pB
    rw [show (((m - a : Nat) : Int) == ((1 : Nat) : Int)) = true from beq_iff_eq.2 (by omega)]
    refine (iw e).trans ?_
    exact iw e2
  rw [he]
  refine ⟨hm.mono (by omega) (by omega), fun x y hx hxy hy => ?_⟩
  have lo : ∀ x, m ≤ x → x < i → K (gt d x) < K (gt d a) := fun x h1 h2 => (hc _ _ (hs x (by omega)) (hs a (by omega))).1 (of_decide_eq_true (hlo x h1 h2))
  have hi : ∀ x, i ≤ x → x < b → K (gt d a) ≤ K (gt d x) := fun x h1 h2 => by
    have := of_decide_eq_false (hhi x h1 h2)
    have q := mt (hc _ _ (hs x (by omega)) (hs a (by omega))).2 this
    omega
  rw [hg, hg]
  by_cases h1 : y + 1 < i
  · rw [if_pos ⟨hx, by omega⟩, if_pos ⟨by omega, h1⟩]; exact h2 _ _ (by omega) (by omega) (by omega)
  · by_cases h3 : y + 1 = i
    · rw [if_pos ⟨hx, by omega⟩, if_neg (by omega), if_pos h3]; exact Nat.le_of_lt (lo _ (by omega) (by omega))
    · rw [if_neg (c := a ≤ y ∧ y + 1 < i) (by omega), if_neg h3]
      by_cases h4 : x + 1 < i
      · rw [if_pos ⟨hx, h4⟩]; exact h2 _ _ (by omega) (by omega) hy
      · rw [if_neg (by omega)]
        by_cases h5 : x + 1 = i
        · rw [if_pos h5]; exact hi _ (by omega) hy
        · rw [if_neg h5]; exact h2 _ _ (by omega) hxy hy
theorem rk (hc : ∀ x y, S x → S y → (c x y < 0 ↔ K x < K y)) {f : List α → Nat → Nat → Nat → List α} {d : List α} {a m b : Nat} (ham : a + 1 < m) (hmb : b = m + 1) (hb : b ≤ d.length)
    (hS : ∀ x ∈ d, S x) (h1 : Srtd K d a m) : Mrg d (pB c f d a m b) a b ∧ Srtd K (pB c f d a m b) a b := by
  have hs : ∀ i, i < d.length → S (gt d i) := fun i hi => hS _ (nB hi)
  obtain ⟨i, e, i1, i2, hlo, hhi⟩ := qo (B := fun s : Nat × Nat => sn c f d a m b s.1 s.2) (p := fun h => !decide (c (gt d m) (gt d h) < 0)) (lo := a) (hi := m) (fun i j => rfl)
    (fun x y hx hxy hy hp => by
      have hp' := mt (hc _ _ (hs m (by omega)) (hs y (by omega))).2 (by simpa using hp)
      have hq : ¬ c (gt d m) (gt d x) < 0 := fun hq => by
        have := (hc _ _ (hs m (by omega)) (hs x (by omega))).1 hq
        have := h1.le hx hxy hy
        omega
      simpa using hq) (by omega) (m - a + 1) (by omega)
  obtain ⟨k, d', e2, hm, hg⟩ := tR (B := fun s : Nat × List α => sk c f d a m b i i s.1 s.2) (e := i) (fun k d => rfl) d m (by omega) (by omega) (m + 1) (by omega)
  have he : pB c f d a m b = d' := by
    unfold pB
    rw [show (((m - a : Nat) : Int) == ((1 : Nat) : Int)) = false from beq_eq_false_iff_ne.2 (by omega), show (((b - m : Nat) : Int) == ((1 : Nat) : Int)) = true from beq_iff_eq.2 (by omega)]
    refine (iw e).trans ?_
    exact iw e2
  rw [he]
  refine ⟨hm.mono (by omega) (by omega), fun x y hx hxy hy => ?_⟩
  have lo : ∀ x, a ≤ x → x < i → K (gt d x) ≤ K (gt d m) := fun x p q => by
    have := hlo x p q
    have q := mt (hc _ _ (hs m (by omega)) (hs x (by omega))).2 (by simpa using this)
    omega
  have hi : ∀ x, i ≤ x → x < m → K (gt d m) < K (gt d x) := fun x p q => by
    have := hhi x p q
    exact (hc _ _ (hs m (by omega)) (hs x (by omega))).1 (by simpa using this)
  rw [hg, hg]
  by_cases h3 : i < y
  · rw [if_pos (c := i < y ∧ y ≤ m) ⟨h3, by omega⟩]
    by_cases h4 : i < x
    · rw [if_pos ⟨h4, by omega⟩]; exact h1 _ _ (by omega) (by omega) (by omega)
    · rw [if_neg (by omega)]
      by_cases h5 : x = i
      · rw [if_pos h5]; exact Nat.le_of_lt (hi _ (by omega) (by omega))
      · rw [if_neg h5]; exact h1 _ _ hx (by omega) (by omega)
  · rw [if_neg (c := i < y ∧ y ≤ m) (by omega), if_neg (c := i < x ∧ x ≤ m) (by omega), if_neg (c := x = i) (by omega)]
    by_cases h5 : y = i
    · rw [if_pos h5]; exact lo _ hx (by omega)
    · rw [if_neg h5]; exact h1 _ _ hx hxy (by omega)
end
end Go.Sx
namespace Go.Sx
section
variable {α : Type} [Inhabited α] {c : α → α → Int} {K : α → Nat} {S : α → Prop}
theorem mu (hc : ∀ x y, S x → S y → (c x y < 0 ↔ K x < K y)) {f : List α → Nat → Nat → Nat → List α} {d : List α} {a m b mid lo hi : Nat} (hmid : (a + b) / 2 = mid) (hb : b ≤ d.length)
    (hS : ∀ x ∈ d, S x) (h1 : Srtd K d a m) (h2 : Srtd K d m b) (hlo : a ≤ lo) (hlob : mid + m ≤ lo + b) (him : hi ≤ m) (hi2 : hi ≤ mid) (hle : lo ≤ hi) (hmb : m ≤ b) (N : Nat) (hN : hi - lo < N) :
    ∃ s, bC (fun s => kv c f d a m b s.1 s.2) N (lo, hi) = .inl (s, s) ∧ lo ≤ s ∧ s ≤ hi ∧ (∀ x, lo ≤ x → x < s → K (gt d x) ≤ K (gt d (mid + m - 1 - x))) ∧ (∀ x, s ≤ x → x < hi → K (gt d (mid + m - 1 - x)) < K (gt d x)) := by
  have hs : ∀ i, i < d.length → S (gt d i) := fun i hi => hS _ (nB hi)
  subst hmid
  obtain ⟨s, e, s1, s2, f1, f2⟩ := qo (B := fun s : Nat × Nat => kv c f d a m b s.1 s.2) (p := fun h => !decide (c (gt d ((a + b) / 2 + m - 1 - h)) (gt d h) < 0)) (lo := lo) (hi := hi) (fun i j => rfl)
    (fun x y hx hxy hy hp => by
      have hp' := mt (hc _ _ (hs ((a + b) / 2 + m - 1 - y) (by omega)) (hs y (by omega))).2 (by simpa using hp)
      have hq : ¬ c (gt d ((a + b) / 2 + m - 1 - x)) (gt d x) < 0 := fun hq => by
        have q1 := (hc _ _ (hs ((a + b) / 2 + m - 1 - x) (by omega)) (hs x (by omega))).1 hq
        have q2 := h1.le (x := x) (y := y) (by omega) hxy (by omega)
        have q3 := h2.le (x := (a + b) / 2 + m - 1 - y) (y := (a + b) / 2 + m - 1 - x) (by omega) (by omega) (by omega)
        omega
      simpa using hq) hle N hN
  refine ⟨s, e, s1, s2, fun x p q => ?_, fun x p q => ?_⟩
  · have := f1 x p q
    have r := mt (hc _ _ (hs ((a + b) / 2 + m - 1 - x) (by omega)) (hs x (by omega))).2 (by simpa using this)
    omega
  · have := f2 x p q
    exact (hc _ _ (hs ((a + b) / 2 + m - 1 - x) (by omega)) (hs x (by omega))).1 (by simpa using this)
theorem qv {f : List α → Nat → Nat → Nat → List α} {n : Nat} (hf : nP K S f n) {d : List α} {a m b mid s lo hi : Nat} (hmid : (a + b) / 2 = mid) (ham : a < m) (hmb : m < b) (hab : a + 2 ≤ b) (hb : b ≤ d.length) (hn : b - a ≤ n)
    (hS : ∀ x ∈ d, S x) (h1 : Srtd K d a m) (h2 : Srtd K d m b) (hlo : a ≤ lo) (hlob : mid + m ≤ lo + b) (him : hi ≤ m) (hi2 : hi ≤ mid) (s1 : lo ≤ s) (s2 : s ≤ hi)
    (el : lo = a ∨ lo + b = mid + m) (eh : hi = m ∨ hi = mid)
    (f1 : ∀ x, lo ≤ x → x < s → K (gt d x) ≤ K (gt d (mid + m - 1 - x))) (f2 : ∀ x, s ≤ x → x < hi → K (gt d (mid + m - 1 - x)) < K (gt d x)) :
    Mrg d (gU c f d a m b s s) a b ∧ Srtd K (gU c f d a m b s s) a b := by
  obtain ⟨en, hen⟩ : ∃ q, mid + m - s = q := ⟨_, rfl⟩
  have he : gU c f d a m b s s = (bif (decide (((mid : Nat) : Int) < ((en : Nat) : Int)) && decide (((en : Nat) : Int) < ((b : Nat) : Int))) then
      f (bif (decide (((a : Nat) : Int) < ((s : Nat) : Int)) && decide (((s : Nat) : Int) < ((mid : Nat) : Int))) then f (bif (decide (((s : Nat) : Int) < ((m : Nat) : Int)) && decide (((m : Nat) : Int) < ((en : Nat) : Int))) then rot d s m en else d) a s mid
        else (bif (decide (((s : Nat) : Int) < ((m : Nat) : Int)) && decide (((m : Nat) : Int) < ((en : Nat) : Int))) then rot d s m en else d)) mid en b
      else (bif (decide (((a : Nat) : Int) < ((s : Nat) : Int)) && decide (((s : Nat) : Int) < ((mid : Nat) : Int))) then f (bif (decide (((s : Nat) : Int) < ((m : Nat) : Int)) && decide (((m : Nat) : Int) < ((en : Nat) : Int))) then rot d s m en else d) a s mid
        else (bif (decide (((s : Nat) : Int) < ((m : Nat) : Int)) && decide (((m : Nat) : Int) < ((en : Nat) : Int))) then rot d s m en else d))) := by
    unfold gU
    rw [hmid, hen]
    generalize (decide (((s : Nat) : Int) < ((m : Nat) : Int)) && decide (((m : Nat) : Int) < ((en : Nat) : Int))) = B1
    generalize (decide (((a : Nat) : Int) < ((s : Nat) : Int)) && decide (((s : Nat) : Int) < ((mid : Nat) : Int))) = B2
    generalize (decide (((mid : Nat) : Int) < ((en : Nat) : Int)) && decide (((en : Nat) : Int) < ((b : Nat) : Int))) = B3
    cases B1 <;> cases B2 <;> cases B3 <;> rfl
  rw [he]
  obtain ⟨d1, e1, m1, g1⟩ : ∃ d1, (bif (decide (((s : Nat) : Int) < ((m : Nat) : Int)) && decide (((m : Nat) : Int) < ((en : Nat) : Int))) then rot d s m en else d) = d1 ∧ Mrg d d1 a b ∧ ∀ k, gt d1 k = RO (gt d) s m en k := by
    by_cases h : s < m ∧ m < en
    · obtain ⟨p, q⟩ := rot_spec (d := d) (a := s) (m := m) (b := en) h.1 h.2 (by omega)
      exact ⟨rot d s m en, by rw [decide_eq_true (by omega : ((s : Nat) : Int) < ((m : Nat) : Int)), decide_eq_true (by omega : ((m : Nat) : Int) < ((en : Nat) : Int))]; rfl, p.mono (by omega) (by omega), q⟩
    · refine ⟨d, ?_, Mrg.refl _ _ _, fun k => ?_⟩
      · by_cases h3 : s < m
        · rw [decide_eq_false (by omega : ¬ ((m : Nat) : Int) < ((en : Nat) : Int)), Bool.and_false]; rfl
        · rw [decide_eq_false (by omega : ¬ ((s : Nat) : Int) < ((m : Nat) : Int)), Bool.false_and]; rfl
      · unfold RO
        repeat' split
        all_goals first | rfl | (exfalso; omega) | (congr 1 <;> omega)
  rw [e1]
  have hS1 := fA m1 hS
  have hl1 := m1.len
  have cross : ∀ x y, a ≤ x → x < mid → mid ≤ y → y < b → K (gt d1 x) ≤ K (gt d1 y) := by
    intro x y hx hx2 hy hy2
    rw [g1, g1]
    by_cases c1 : x < s
    · rw [show RO (gt d) s m en x = gt d x by unfold RO; rw [if_neg (by omega), if_neg (by omega)]]
      by_cases c2 : y < en
      · rw [show RO (gt d) s m en y = gt d (y - (en - m)) by unfold RO; rw [if_neg (by omega), if_pos (by omega)]]
        exact h1 _ _ hx (by omega) (by omega)
      · rw [show RO (gt d) s m en y = gt d y by unfold RO; rw [if_neg (by omega), if_neg (by omega)]]
        have q1 := h1.le (x := x) (y := s - 1) hx (by omega) (by omega)
        have q2 := f1 (s - 1) (by omega) (by omega)
        rw [show mid + m - 1 - (s - 1) = en by omega] at q2
        have q3 := h2.le (x := en) (y := y) (by omega) (by omega) hy2
        omega
    · rw [show RO (gt d) s m en x = gt d (x + (m - s)) by unfold RO; rw [if_pos (by omega)]]
      by_cases c2 : y < en
      · rw [show RO (gt d) s m en y = gt d (y - (en - m)) by unfold RO; rw [if_neg (by omega), if_pos (by omega)]]
        have q1 := h2.le (x := x + (m - s)) (y := en - 1) (by omega) (by omega) (by omega)
        have q2 := f2 s (Nat.le_refl _) (by omega)
        rw [show mid + m - 1 - s = en - 1 by omega] at q2
        have q3 := h1.le (x := s) (y := y - (en - m)) (by omega) (by omega) (by omega)
        omega
      · rw [show RO (gt d) s m en y = gt d y by unfold RO; rw [if_neg (by omega), if_neg (by omega)]]
        exact h2 _ _ (by omega) (by omega) hy2
  have L1 : Srtd K d1 a s := fun x y hx hxy hy => by
    rw [g1, g1, show RO (gt d) s m en x = gt d x by unfold RO; rw [if_neg (by omega), if_neg (by omega)], show RO (gt d) s m en y = gt d y by unfold RO; rw [if_neg (by omega), if_neg (by omega)]]
    exact h1 _ _ hx hxy (by omega)
  have L2 : Srtd K d1 s mid := fun x y hx hxy hy => by
    rw [g1, g1, show RO (gt d) s m en x = gt d (x + (m - s)) by unfold RO; rw [if_pos (by omega)], show RO (gt d) s m en y = gt d (y + (m - s)) by unfold RO; rw [if_pos (by omega)]]
    exact h2 _ _ (by omega) (by omega) (by omega)
  have R1 : Srtd K d1 mid en := fun x y hx hxy hy => by
    rw [g1, g1, show RO (gt d) s m en x = gt d (x - (en - m)) by unfold RO; rw [if_neg (by omega), if_pos (by omega)], show RO (gt d) s m en y = gt d (y - (en - m)) by unfold RO; rw [if_neg (by omega), if_pos (by omega)]]
    exact h1 _ _ (by omega) (by omega) (by omega)
  have R2 : Srtd K d1 en b := fun x y hx hxy hy => by
    rw [g1, g1, show RO (gt d) s m en x = gt d x by unfold RO; rw [if_neg (by omega), if_neg (by omega)], show RO (gt d) s m en y = gt d y by unfold RO; rw [if_neg (by omega), if_neg (by omega)]]
    exact h2 _ _ (by omega) hxy hy
  obtain ⟨d2, e2, m2, g2⟩ : ∃ d2, (bif (decide (((a : Nat) : Int) < ((s : Nat) : Int)) && decide (((s : Nat) : Int) < ((mid : Nat) : Int))) then f d1 a s mid else d1) = d2 ∧ Mrg d1 d2 a mid ∧ Srtd K d2 a mid := by
    by_cases h : a < s ∧ s < mid
    · obtain ⟨p, q⟩ := hf d1 a s mid h.1 h.2 (by omega) (by omega) hS1 L1 L2
      exact ⟨f d1 a s mid, by rw [decide_eq_true (by omega : ((a : Nat) : Int) < ((s : Nat) : Int)), decide_eq_true (by omega : ((s : Nat) : Int) < ((mid : Nat) : Int))]; rfl, p, q⟩
    · refine ⟨d1, ?_, Mrg.refl _ _ _, ?_⟩
      · by_cases h3 : a < s
        · rw [decide_eq_false (by omega : ¬ ((s : Nat) : Int) < ((mid : Nat) : Int)), Bool.and_false]; rfl
        · rw [decide_eq_false (by omega : ¬ ((a : Nat) : Int) < ((s : Nat) : Int)), Bool.false_and]; rfl
      · by_cases h3 : a < s
        · exact fun x y hx hxy hy => L1 x y hx hxy (by omega)
        · exact fun x y hx hxy hy => L2 x y (by omega) hxy hy
  rw [e2]
  have hS2 := fA m2 hS1
  have hl2 := m2.len
  have R1' : Srtd K d2 mid en := fun x y hx hxy hy => by rw [m2.out x (by omega), m2.out y (by omega)]; exact R1 x y hx hxy hy
  have R2' : Srtd K d2 en b := fun x y hx hxy hy => by rw [m2.out x (by omega), m2.out y (by omega)]; exact R2 x y hx hxy hy
  obtain ⟨d3, e3, m3, g3⟩ : ∃ d3, (bif (decide (((mid : Nat) : Int) < ((en : Nat) : Int)) && decide (((en : Nat) : Int) < ((b : Nat) : Int))) then f d2 mid en b else d2) = d3 ∧ Mrg d2 d3 mid b ∧ Srtd K d3 mid b := by
    by_cases h : mid < en ∧ en < b
    · obtain ⟨p, q⟩ := hf d2 mid en b h.1 h.2 (by omega) (by omega) hS2 R1' R2'
      exact ⟨f d2 mid en b, by rw [decide_eq_true (by omega : ((mid : Nat) : Int) < ((en : Nat) : Int)), decide_eq_true (by omega : ((en : Nat) : Int) < ((b : Nat) : Int))]; rfl, p, q⟩
    · refine ⟨d2, ?_, Mrg.refl _ _ _, ?_⟩
      · by_cases h3 : mid < en
        · rw [decide_eq_false (by omega : ¬ ((en : Nat) : Int) < ((b : Nat) : Int)), Bool.and_false]; rfl
        · rw [decide_eq_false (by omega : ¬ ((mid : Nat) : Int) < ((en : Nat) : Int)), Bool.false_and]; rfl
      · by_cases h3 : mid < en
        · exact fun x y hx hxy hy => R1' x y hx hxy (by omega)
        · exact fun x y hx hxy hy => R2' x y (by omega) hxy hy
  rw [e3]
  refine ⟨(m1.trans (m2.mono (Nat.le_refl _) (by omega))).trans (m3.mono (by omega) (Nat.le_refl _)), fun x y hx hxy hy => ?_⟩
  by_cases hy2 : y < mid
  · rw [m3.out x (by omega), m3.out y (by omega)]; exact g2 x y hx hxy hy2
  · by_cases hx2 : mid ≤ x
    · exact g3 x y hx2 hxy hy
    · obtain ⟨x', p1, p2, p3⟩ := m2.inn x hx (by omega)
      obtain ⟨y', q1, q2, q3⟩ := m3.inn y (by omega) hy
      rw [m3.out x (by omega), p3, q3, m2.out y' (by omega)]
      exact cross x' y' p1 p2 q1 q2
theorem sym_ok (hc : ∀ x y, S x → S y → (c x y < 0 ↔ K x < K y)) {f : List α → Nat → Nat → Nat → List α} {n : Nat} (hf : nP K S f n) : nP K S (pB c f) (n + 1) := by
  intro d a m b ham hmb hb hn hS h1 h2
  by_cases c1 : m = a + 1
  · exact rl hc c1 hmb hb hS h2
  · by_cases c2 : b = m + 1
    · exact rk hc (by omega) c2 hb hS h1
    · have e0 : pB c f d a m b = bif (decide (((m : Nat) : Int) > ((((a + b) / 2 : Nat)) : Int))) then
          fin (bC (fun s => kv c f d a m b s.1 s.2) (((a + b) / 2) - ((((a + b) / 2) + m) - b) + 1) (((((a + b) / 2) + m) - b), ((a + b) / 2))) (fun s => gU c f d a m b s.1 s.2) (fun r => r)
        else fin (bC (fun s => kv c f d a m b s.1 s.2) (m - a + 1) (a, m)) (fun s => gU c f d a m b s.1 s.2) (fun r => r) := by
        unfold pB
        rw [show (((m - a : Nat) : Int) == ((1 : Nat) : Int)) = false from beq_eq_false_iff_ne.2 (by omega), show (((b - m : Nat) : Int) == ((1 : Nat) : Int)) = false from beq_eq_false_iff_ne.2 (by omega)]
        rfl
      have hk : ∀ s : Nat, gU c f d a m b s s = gU c f d a m b s s := fun _ => rfl
      by_cases c3 : (a + b) / 2 < m
      · obtain ⟨s, e, s1, s2, f1, f2⟩ := mu (c := c) (K := K) (S := S) hc (f := f) (d := d) (a := a) (m := m) (b := b) (lo := (a + b) / 2 + m - b) (hi := (a + b) / 2) rfl hb hS h1 h2 (by omega) (by omega) (by omega) (by omega) (by omega) (by omega) (((a + b) / 2) - ((((a + b) / 2) + m) - b) + 1) (by omega)
        have e1 : pB c f d a m b = gU c f d a m b s s := by
          rw [e0, decide_eq_true (by omega : ((m : Nat) : Int) > ((((a + b) / 2 : Nat)) : Int))]
          exact iw e
        rw [e1]
        exact qv hf rfl ham hmb (by omega) hb (by omega) hS h1 h2 (lo := (a + b) / 2 + m - b) (hi := (a + b) / 2) (by omega) (by omega) (by omega) (by omega) s1 s2 (.inr (by omega)) (.inr rfl) f1 f2
      · obtain ⟨s, e, s1, s2, f1, f2⟩ := mu (c := c) (K := K) (S := S) hc (f := f) (d := d) (a := a) (m := m) (b := b) (lo := a) (hi := m) rfl hb hS h1 h2 (by omega) (by omega) (by omega) (by omega) (by omega) (by omega) (m - a + 1) (by omega)
        have e1 : pB c f d a m b = gU c f d a m b s s := by
          rw [e0, decide_eq_false (by omega : ¬ ((m : Nat) : Int) > ((((a + b) / 2 : Nat)) : Int))]
          exact iw e
        rw [e1]
        exact qv hf rfl ham hmb (by omega) hb (by omega) hS h1 h2 (lo := a) (hi := m) (by omega) (by omega) (by omega) (by omega) s1 s2 (.inl rfl) (.inl rfl) f1 f2
theorem si (hc : ∀ x y, S x → S y → (c x y < 0 ↔ K x < K y)) : ∀ n, nP K S (symN c n) n
  | 0 => fun d a m b _ _ _ h => absurd h (Nat.not_lt_zero _)
  | n + 1 => sym_ok hc (si hc n)
theorem qw (hc : ∀ x y, S x → S y → (c x y < 0 ↔ K x < K y)) {d : List α} {a m b : Nat} (ham : a < m) (hmb : m < b) (hb : b ≤ d.length) (hS : ∀ x ∈ d, S x) (h1 : Srtd K d a m) (h2 : Srtd K d m b) :
    Mrg d (sym c d a m b) a b ∧ Srtd K (sym c d a m b) a b := si hc (b - a + 1) d a m b ham hmb hb (by omega) hS h1 h2
end
end Go.Sx
namespace Go.Sx
section
variable {α : Type} [Inhabited α] {c : α → α → Int} {K : α → Nat} {S : α → Prop}
theorem ins_one (hc : ∀ x y, S x → S y → (c x y < 0 ↔ K x < K y)) {d : List α} {a i : Nat} (hai : a < i) (hi : i < d.length) (hS : ∀ x ∈ d, S x) (h1 : Srtd K d a i) :
    ∃ j d', bC (fun s : Nat × List α => r7 c a s.1 s.2) (i + 1) (i, d) = .inl (j, d') ∧ Mrg d d' a (i + 1) ∧ Srtd K d' a (i + 1) := by
  obtain ⟨⟨j, d'⟩, e, h⟩ := fZ (B := fun s : Nat × List α => r7 c a s.1 s.2) (I := fun s => a ≤ s.1 ∧ s.1 ≤ i ∧ Mrg d s.2 a (i + 1) ∧ ∀ x y, a ≤ x → x < y → y ≤ i → y ≠ s.1 → K (gt s.2 x) ≤ K (gt s.2 y))
    (Q := fun s => Mrg d s.2 a (i + 1) ∧ Srtd K s.2 a (i + 1)) (μ := fun s => s.1) (fun ⟨j, d1⟩ ⟨h1, h2, h3, h4⟩ => by
      dsimp only at h1 h2 h3 h4 ⊢
      have hl := h3.len
      have hS1 := fA h3 hS
      have hs : ∀ i, i < d1.length → S (gt d1 i) := fun i hi => hS1 _ (nB hi)
      by_cases hj : a < j
      · cases hp : decide (c (gt d1 j) (gt d1 (j - 1)) < 0) with
        | true =>
          have hk := (hc _ _ (hs j (by omega)) (hs (j - 1) (by omega))).1 (of_decide_eq_true hp)
          refine .inl ⟨(j - 1, nU d1 j (j - 1)), ?_, ⟨by dsimp only; omega, by dsimp only; omega, h3.trans (Mrg.swap h1 (by omega) (by omega) (by omega) (by omega) (by omega)), fun x y hx hxy hy hyj => ?_⟩, by dsimp only; omega⟩
          · unfold r7; rw [decide_eq_true (by omega : ((j : Nat) : Int) > ((a : Nat) : Int)), hp]; rfl
          · dsimp only at hyj ⊢
            rw [iV (by omega) (by omega), iV (by omega) (by omega), if_neg (c := y = j - 1) hyj]
            by_cases c1 : y = j
            · rw [if_pos (c := y = j) c1]
              by_cases c2 : x = j - 1
              · rw [if_pos c2]; exact Nat.le_of_lt hk
              · rw [if_neg c2, if_neg (by omega)]; exact h4 _ _ hx (by omega) (by omega) (by omega)
            · rw [if_neg (c := y = j) c1]
              by_cases c2 : x = j - 1
              · rw [if_pos c2]; exact h4 _ _ h1 (by omega) hy c1
              · rw [if_neg c2]
                by_cases c3 : x = j
                · rw [if_pos c3]; exact h4 _ _ (by omega) (by omega) hy c1
                · rw [if_neg c3]; exact h4 _ _ hx hxy hy c1
        | false =>
          have hk := mt (hc _ _ (hs j (by omega)) (hs (j - 1) (by omega))).2 (of_decide_eq_false hp)
          refine .inr ⟨(j, d1), ?_, h3, fun x y hx hxy hy => ?_⟩
          · unfold r7; rw [hp, Bool.and_false]; rfl
          · dsimp only
            by_cases c1 : y = j
            · subst c1
              rcases Nat.lt_or_ge x (y - 1) with c2 | c2
              · have := h4 x (y - 1) hx c2 (by omega) (by omega); omega
              · rw [show x = y - 1 by omega]; omega
            · exact h4 _ _ hx hxy (by omega) c1
      · refine .inr ⟨(j, d1), ?_, h3, fun x y hx hxy hy => ?_⟩
        · unfold r7; rw [decide_eq_false (by omega : ¬ ((j : Nat) : Int) > ((a : Nat) : Int)), Bool.false_and]; rfl
        · exact h4 _ _ hx hxy (by omega) (by omega)) (i + 1) (i, d) ⟨by dsimp only; omega, Nat.le_refl _, Mrg.refl _ _ _, fun x y hx hxy hy hyi => h1 x y hx hxy (by dsimp only at hyi; omega)⟩ (Nat.lt_succ_self _)
  exact ⟨j, d', e, h⟩
theorem qT (hc : ∀ x y, S x → S y → (c x y < 0 ↔ K x < K y)) {d : List α} {a b : Nat} (hab : a ≤ b) (hb : b ≤ d.length) (hS : ∀ x ∈ d, S x) :
    Mrg d (jt c d a b) a b ∧ Srtd K (jt c d a b) a b := by
  obtain ⟨⟨i, d'⟩, e, h⟩ := fZ (B := fun s : Nat × List α => isB1 c a b s.1 s.2) (I := fun s => a < s.1 ∧ Mrg d s.2 a b ∧ Srtd K s.2 a s.1)
    (Q := fun s => Mrg d s.2 a b ∧ Srtd K s.2 a b) (μ := fun s => b - s.1) (fun ⟨i, d1⟩ ⟨h1, h2, h3⟩ => by
      dsimp only at h1 h2 h3 ⊢
      have hl := h2.len
      by_cases hi : i < b
      · obtain ⟨j, d2, e, q1, q2⟩ := ins_one hc h1 (by omega) (fA h2 hS) h3
        refine .inl ⟨(i + 1, d2), ?_, ⟨by dsimp only; omega, h2.trans (q1.mono (Nat.le_refl _) (by omega)), q2⟩, by dsimp only; omega⟩
        unfold isB1
        rw [decide_eq_true (by omega : ((i : Nat) : Int) < ((b : Nat) : Int))]
        exact iw e
      · refine .inr ⟨(i, d1), ?_, h2, fun x y hx hxy hy => h3 x y hx hxy (by omega)⟩
        unfold isB1
        rw [decide_eq_false (by omega : ¬ ((i : Nat) : Int) < ((b : Nat) : Int))]; rfl) ((b + 1 - (a + 1)) + 1) (a + 1, d) ⟨Nat.lt_succ_self _, Mrg.refl _ _ _, fun x y hx hxy hy => by dsimp only at hy; omega⟩ (by dsimp only; omega)
  have e2 : jt c d a b = d' := iw e
  rw [e2]; exact h
theorem Srtd.keep {d d' : List α} {a b x y : Nat} (h : Srtd K d x y) (hm : Mrg d d' a b) (hd : y ≤ a ∨ b ≤ x) : Srtd K d' x y := fun p q h1 h2 h3 => by
  rw [hm.out p (by omega), hm.out q (by omega)]; exact h p q h1 h2 h3
def BS (K : α → Nat) (w : Nat) (d : List α) (n : Nat) : Prop := ∀ p, Srtd K d (w * p) (min (w * p + w) n)
theorem su (hc : ∀ x y, S x → S y → (c x y < 0 ↔ K x < K y)) {d0 dz d : List α} {n a0 b0 w : Nat} (hw : 0 < w) (hn : d.length = n) (hS : ∀ x ∈ d, S x) (hB : BS K w d n) :
    ∃ d', fin (bC (fun s => nV c d0 n a0 b0 dz w d s.1 s.2.1 s.2.2) (n - 0 + 1) (0, (2 * w), d)) (fun s => qx c d0 n a0 b0 dz w d s.1 s.2.1 s.2.2) (fun r => .ret r) = .go ((w * 2), d') ∧ Mrg d d' 0 n ∧ BS K (w * 2) d' n := by
  obtain ⟨⟨a, b, d1⟩, e, q, h1, h2, h3, h4, h5, h6⟩ := fZ (B := fun s : Nat × Nat × List α => nV c d0 n a0 b0 dz w d s.1 s.2.1 s.2.2)
    (I := fun s => ∃ q, s.1 = w * 2 * q ∧ s.2.1 = s.1 + 2 * w ∧ s.1 ≤ n ∧ Mrg d s.2.2 0 n ∧ (∀ p, p < q → Srtd K s.2.2 (w * 2 * p) (w * 2 * p + w * 2)) ∧ ∀ p, 2 * q ≤ p → Srtd K s.2.2 (w * p) (min (w * p + w) n))
    (Q := fun s => ∃ q, s.1 = w * 2 * q ∧ n < s.1 + 2 * w ∧ s.1 ≤ n ∧ Mrg d s.2.2 0 n ∧ (∀ p, p < q → Srtd K s.2.2 (w * 2 * p) (w * 2 * p + w * 2)) ∧ ∀ p, 2 * q ≤ p → Srtd K s.2.2 (w * p) (min (w * p + w) n))
    (μ := fun s => n - s.1) (fun ⟨a, b, d1⟩ ⟨q, h1, h2, h3, h4, h5, h6⟩ => by
      dsimp only at h1 h2 h3 h4 h5 h6 ⊢
      subst h2
      have hl := h4.len
      have ea : w * (2 * q) = a := by rw [h1, Nat.mul_assoc]
      have ea1 : w * (2 * q + 1) = a + w := by rw [Nat.mul_succ, ea]
      by_cases hb : a + 2 * w ≤ n
      · have r1 := h6 (2 * q) (Nat.le_refl _)
        have r2 := h6 (2 * q + 1) (by omega)
        rw [ea, Nat.min_eq_left (by omega)] at r1
        rw [ea1, Nat.min_eq_left (by omega)] at r2
        obtain ⟨m1, s1⟩ := qw hc (d := d1) (a := a) (m := a + w) (b := a + 2 * w) (by omega) (by omega) (by omega) (fA h4 hS) r1 (by rw [show a + 2 * w = a + w + w by omega]; exact r2)
        refine .inl ⟨(a + 2 * w, a + 2 * w + 2 * w, sym c d1 a (a + w) (a + 2 * w)), ?_, ⟨q + 1, ?_, rfl, hb, h4.trans (m1.mono (by omega) (by omega)), fun p hp => ?_, fun p hp => ?_⟩, by dsimp only; omega⟩
        · unfold nV
          rw [decide_eq_true (by omega : ((a + 2 * w : Nat) : Int) ≤ ((n : Nat) : Int))]; rfl
        · dsimp only; rw [Nat.mul_succ, ← h1]; omega
        · rcases Nat.lt_or_ge p q with c1 | c1
          · refine (h5 p c1).keep m1 (.inl ?_)
            have := Nat.mul_le_mul_left (w * 2) (show p + 1 ≤ q by omega)
            rw [Nat.mul_succ, ← h1] at this; exact this
          · have : p = q := by omega
            subst this
            dsimp only
            rw [← h1, show a + w * 2 = a + 2 * w by omega]; exact s1
        · refine (h6 p (by omega)).keep m1 (.inr ?_)
          have := Nat.mul_le_mul_left w (show 2 * q + 1 + 1 ≤ p by omega)
          rw [Nat.mul_succ, ea1] at this; omega
      · refine .inr ⟨(a, a + 2 * w, d1), ?_, q, h1, by dsimp only; omega, h3, h4, h5, h6⟩
        unfold nV
        rw [decide_eq_false (by omega : ¬ ((a + 2 * w : Nat) : Int) ≤ ((n : Nat) : Int))]; rfl) (n - 0 + 1) (0, 2 * w, d) ⟨0, rfl, by dsimp only; omega, Nat.zero_le _, Mrg.refl _ _ _, fun p hp => absurd hp (Nat.not_lt_zero _), fun p _ => hB p⟩ (by dsimp only; omega)
  dsimp only at h1 h2 h3 h4 h5 h6
  have hl := h4.len
  have ea : w * (2 * q) = a := by rw [h1, Nat.mul_assoc]
  have ea1 : w * (2 * q + 1) = a + w := by rw [Nat.mul_succ, ea]
  have r1 := h6 (2 * q) (Nat.le_refl _)
  have r2 := h6 (2 * q + 1) (by omega)
  rw [ea] at r1
  rw [ea1] at r2
  have fine : ∀ d' : List α, Mrg d1 d' a n → Srtd K d' a n → BS K (w * 2) d' n := fun d' hm hs p => by
    rcases Nat.lt_trichotomy p q with c1 | c1 | c1
    · have := Nat.mul_le_mul_left (w * 2) (show p + 1 ≤ q by omega)
      rw [Nat.mul_succ, ← h1] at this
      rw [Nat.min_eq_left (by omega)]
      exact (h5 p c1).keep hm (.inl this)
    · subst c1
      rw [← h1, Nat.min_eq_right (by omega)]; exact hs
    · have := Nat.mul_le_mul_left (w * 2) (show q + 1 ≤ p by omega)
      rw [Nat.mul_succ, ← h1] at this
      intro x y hx hxy hy
      rw [Nat.min_eq_right (by omega)] at hy; omega
  by_cases hb : a + w < n
  · rw [Nat.min_eq_left (by omega)] at r1
    rw [Nat.min_eq_right (by omega)] at r2
    obtain ⟨m1, s1⟩ := qw hc (d := d1) (a := a) (m := a + w) (b := n) (by omega) hb (by omega) (fA h4 hS) r1 r2
    refine ⟨sym c d1 a (a + w) n, (iw e).trans ?_, h4.trans (m1.mono (by omega) (Nat.le_refl _)), fine _ m1 s1⟩
    dsimp only
    unfold qx
    rw [decide_eq_true (by omega : ((a + w : Nat) : Int) < ((n : Nat) : Int))]; rfl
  · rw [Nat.min_eq_right (by omega)] at r1
    refine ⟨d1, (iw e).trans ?_, h4, fine _ (Mrg.refl _ _ _) r1⟩
    dsimp only
    unfold qx
    rw [decide_eq_false (by omega : ¬ ((a + w : Nat) : Int) < ((n : Nat) : Int))]; rfl
theorem stb_spec (hc : ∀ x y, S x → S y → (c x y < 0 ↔ K x < K y)) {d : List α} {n : Nat} (hn : d.length = n) (hS : ∀ x ∈ d, S x) : (stb c d n).Perm d ∧ Srtd K (stb c d n) 0 n := by
  obtain ⟨⟨a, b, d1⟩, e, q, h1, h2, h3, h4, h5⟩ := fZ (B := fun s : Nat × Nat × List α => qz c d n s.1 s.2.1 s.2.2)
    (I := fun s => ∃ q, s.1 = 20 * q ∧ s.2.1 = s.1 + 20 ∧ s.1 ≤ n ∧ Mrg d s.2.2 0 n ∧ (∀ p, p < q → Srtd K s.2.2 (20 * p) (20 * p + 20)))
    (Q := fun s => ∃ q, s.1 = 20 * q ∧ n < s.1 + 20 ∧ s.1 ≤ n ∧ Mrg d s.2.2 0 n ∧ (∀ p, p < q → Srtd K s.2.2 (20 * p) (20 * p + 20)))
    (μ := fun s => n + 20 - s.2.1) (fun ⟨a, b, d1⟩ ⟨q, h1, h2, h3, h4, h5⟩ => by
      dsimp only at h1 h2 h3 h4 h5 ⊢
      subst h2
      have hl := h4.len
      by_cases hb : a + 20 ≤ n
      · obtain ⟨m1, s1⟩ := qT hc (d := d1) (a := a) (b := a + 20) (by omega) (by omega) (fA h4 hS)
        refine .inl ⟨(a + 20, a + 20 + 20, jt c d1 a (a + 20)), ?_, ⟨q + 1, by dsimp only; omega, rfl, hb, h4.trans (m1.mono (by omega) (by omega)), fun p hp => ?_⟩, by dsimp only; omega⟩
        · unfold qz
          rw [decide_eq_true (by omega : ((a + 20 : Nat) : Int) ≤ ((n : Nat) : Int))]; rfl
        · rcases Nat.lt_or_ge p q with c1 | c1
          · exact (h5 p c1).keep m1 (.inl (by omega))
          · have : p = q := by omega
            subst this
            rw [← h1]; exact s1
      · refine .inr ⟨(a, a + 20, d1), ?_, q, h1, by dsimp only; omega, h3, h4, h5⟩
        unfold qz
        rw [decide_eq_false (by omega : ¬ ((a + 20 : Nat) : Int) ≤ ((n : Nat) : Int))]; rfl) (n + 20 - 20 + 1) (0, 20, d) ⟨0, rfl, rfl, Nat.zero_le _, Mrg.refl _ _ _, fun p hp => absurd hp (Nat.not_lt_zero _)⟩ (by dsimp only; omega)
  dsimp only at h1 h2 h3 h4 h5
  have hl := h4.len
  obtain ⟨m1, s1⟩ := qT hc (d := d1) (a := a) (b := n) h3 (by omega) (fA h4 hS)
  have hB : BS K 20 (jt c d1 a n) n := fun p => by
    rcases Nat.lt_trichotomy p q with c1 | c1 | c1
    · rw [Nat.min_eq_left (by omega)]; exact (h5 p c1).keep m1 (.inl (by omega))
    · subst c1
      rw [← h1, Nat.min_eq_right (by omega)]; exact s1
    · intro x y hx hxy hy
      rw [Nat.min_eq_right (by omega)] at hy; omega
  have hm := h4.trans (m1.mono (by omega) (Nat.le_refl _))
  obtain ⟨⟨w, d2⟩, e2, q1, q2⟩ := fZ (B := fun s : Nat × List α => qy c d n a b d1 s.1 s.2) (I := fun s => 0 < s.1 ∧ Mrg d s.2 0 n ∧ BS K s.1 s.2 n) (Q := fun s => Mrg d s.2 0 n ∧ Srtd K s.2 0 n) (μ := fun s => n - s.1) (fun ⟨w, d2⟩ ⟨p1, p2, p3⟩ => by
      dsimp only at p1 p2 p3 ⊢
      by_cases hw : w < n
      · obtain ⟨d3, e3, r1, r2⟩ := su hc (d0 := d) (dz := d1) (a0 := a) (b0 := b) p1 (p2.len.trans hn) (fA p2 hS) p3
        refine .inl ⟨(w * 2, d3), ?_, ⟨by dsimp only; omega, p2.trans r1, r2⟩, by dsimp only; omega⟩
        unfold qy
        rw [decide_eq_true (by omega : ((w : Nat) : Int) < ((n : Nat) : Int))]
        exact e3
      · refine .inr ⟨(w, d2), ?_, p2, ?_⟩
        · unfold qy
          rw [decide_eq_false (by omega : ¬ ((w : Nat) : Int) < ((n : Nat) : Int))]; rfl
        · have := p3 0
          rw [Nat.mul_zero, Nat.min_eq_right (by omega)] at this; exact this) (n - 20 + 1) (20, jt c d1 a n) ⟨by dsimp only; omega, hm, hB⟩ (by dsimp only; omega)
  have he : stb c d n = d2 := by
    refine (iw e).trans ?_
    exact iw e2
  rw [he]
  exact ⟨q1.perm, q2⟩
end
end Go.Sx
namespace Go.Sx
open Go Go.RowKit Go.Proofs
set_option maxRecDepth 100000
set_option maxHeartbeats 40000000
attribute [local irreducible] Code.wp wpList Rd Step ObS Ent
attribute [local irreducible] ar aO am au aA bG
def gj (data : List (U Ln)) (a : Nat) (b : Nat) (n : Nat) (i : Nat) (data1 : List (U Ln)) : List (U Ln) :=
 data1
def dJ (data : List (U Ln)) (a : Nat) (b : Nat) (n : Nat) (i : Nat) (data1 : List (U Ln)) : Nx (Nat × (List (U Ln))) (List (U Ln)) :=
 bif (decide (((i : Nat) : Int) < ((n : Nat) : Int))) then
  .go ((i + 1), ((data1.set (a + i) (gt data1 (b + i))).set (b + i) (gt data1 (a + i))))
 else
  .out (i, data1)
def bk (data : List (U Ln)) (a : Nat) (b : Nat) (n : Nat) : List (U Ln) :=
 fin (bC (fun s => dJ data a b n s.1 s.2) ((n - 0) + 1) (0, data)) (fun s => gj data a b n s.1 s.2) (fun r => r)
theorem dI (data : List (U Ln)) (datav : Value) (a : Nat) (b : Nat) (n : Nat) (hab : a + n ≤ b) (hb : b + n ≤ data.length) (hb2 : b + n ≤ 1000000) (zdata : All (fS 30) data) (w0 w : World) (B : Asn) (hbel : Below w0.heap.size w0 w) (hsep : ∃ Z_, Sep w0.heap.size w [.row (α := U Ln) 199 datav data, B] Z_)  : Calls Tryz.prog 342 #[datav, (.int .i64 ((a : Nat) : Int)), (.int .i64 ((b : Nat) : Int)), (.int .i64 ((n : Nat) : Int)), (.func (.func 273) #[] #[])] w (RetY w0 (fun v => v = .tuple #[] ∧ (All (fS 30) (bk data a b n) ∧ (bk data a b n).length = data.length)) (fun v => [.row (α := U Ln) 199 datav (bk data a b n), B])) := by
 refine jP (N := 38) (args := [datav, (.int .i64 ((a : Nat) : Int)), (.int .i64 ((b : Nat) : Int)), (.int .i64 ((n : Nat) : Int)), (.func (.func 273) #[] #[])]) Tryz.func342 rfl rfl hbel hsep ?_; intro ac h
 have hlendata := h.len 0 rfl
 obtain ⟨X1, hX1⟩ : ∃ X, bC (fun s => dJ data a b n s.1 s.2) ((n - 0) + 1) (0, data) = X := ⟨_, rfl⟩
 refine gz h <| (W) ?_; clear h ac; intro ac wo h
 refine wp_loop_ghost (fun n_ a_ w_ => ∃ (i : Nat) (data1 : List (U Ln)), ((n - i) < n_) ∧ (bC (fun s => dJ data a b n s.1 s.2) n_ (i, data1) = X1) ∧ (i ≤ n) ∧ (All (fS 30) data1) ∧ (data1.length = data.length) ∧ St w0 38 [(0, datav), (1, (.int .i64 ((a : Nat) : Int))), (2, (.int .i64 ((b : Nat) : Int))), (3, (.int .i64 ((n : Nat) : Int))), (10, (.int .i64 ((i : Nat) : Int)))] [.row (α := U Ln) 199 datav data1, B] a_ w_) ((n - 0) + 1) ⟨0, data, og, hX1, og, zdata, og, h.rs⟩ ?_
 clear h ac wo; rintro n1 ac wo ⟨i, data1, hm1, hL1, hi, zdata1, hdl, h⟩
 obtain ⟨m1, rfl⟩ : ∃ m, n1 = m + 1 := ⟨n1 - 1, by omega⟩
 refine gz h <| (ai) ?_ ?_ <;> clear h ac wo <;> intro ac wo h hc1
 ·
  have hd1 := of_decide_eq_true hc1
  refine gz h <| (dr1 (H := [⟨.row (α := U Ln) 199 datav data1, [(21, .con (.row (α := U Ln) 199 datav (data1.set (a + i) (gt data1 (b + i))))), (23, .con (.row (α := U Ln) 199 datav ((data1.set (a + i) (gt data1 (b + i))).set (b + i) (gt data1 (a + i)))))]⟩, ⟨_, []⟩]) (hob := (oY (h := by exact fun _ => jT (acc := [0]) _ [.row (α := U Ln) 199 datav (data1.set (a + i) (gt data1 (b + i)))] rfl rfl (fw (k := 0) (u' := (gt data1 (b + i))) Tryz.sizeOf199 (iL og) rfl (Nat.add_zero _) rfl rfl rfl rfl rfl rfl))) <| (oY (h := by exact fun _ => jT (acc := [0]) _ [.row (α := U Ln) 199 datav ((data1.set (a + i) (gt data1 (b + i))).set (b + i) (gt data1 (a + i)))] rfl rfl (fw (k := 0) (u' := (gt data1 (a + i))) Tryz.sizeOf199 (iL og) rfl (Nat.add_zero _) rfl rfl rfl rfl rfl rfl))) <| oE)) <| (W) ?_; clear h ac wo; intro ac wo h
  have hg := bQ hL1 pt
  exact aE ⟨m1, og, _, _, og, hg, og, (All.set (All.set zdata1 (All.gt zdata1 (bc _))) (All.gt zdata1 (bc _))), og, h.re [0, 1]⟩
 ·
  have hd1 := of_decide_eq_false hc1
  have hx1 := dM hL1 pt
  have hd : bk data a b n = data1 := pt
  refine gz h <| (W) ?_; clear h ac wo; intro ac wo h
  exact kP (vs := []) h rfl .nil rfl ((h.pick [0, 1] (by decide)).retY ⟨rfl, (by rw [hd]; exact ⟨zdata1, og⟩)⟩ (by rw [hd]; rfl))
attribute [irreducible] bk
def g7 (data : List (U Ln)) (a : Nat) (m : Nat) (b : Nat) (i : Nat) (j : Nat) (data1 : List (U Ln)) : List (U Ln) :=
 (bk data1 (m - i) m i)
def dV (data : List (U Ln)) (a : Nat) (m : Nat) (b : Nat) (i : Nat) (j : Nat) (data1 : List (U Ln)) : Nx (Nat × Nat × (List (U Ln))) (List (U Ln)) :=
 bif ((((i : Nat) : Int)) != (((j : Nat) : Int))) then
  bif (decide (((i : Nat) : Int) > ((j : Nat) : Int))) then
   .go ((i - j), j, (bk data1 (m - i) m j))
  else
   .go (i, (j - i), (bk data1 (m - i) ((m + j) - i) i))
 else
  .out (i, j, data1)
def aB (data : List (U Ln)) (a : Nat) (m : Nat) (b : Nat) : List (U Ln) :=
 fin (bC (fun s => dV data a m b s.1 s.2.1 s.2.2) ((m - a) + (b - m) + 1) ((m - a), (b - m), data)) (fun s => g7 data a m b s.1 s.2.1 s.2.2) (fun r => r)
theorem fh (data : List (U Ln)) (datav : Value) (a : Nat) (m : Nat) (b : Nat) (ham : a < m) (hmb : m < b) (hb : b ≤ data.length) (hb2 : b ≤ 1000000) (zdata : All (fS 30) data) (w0 w : World) (B : Asn) (hbel : Below w0.heap.size w0 w) (hsep : ∃ Z_, Sep w0.heap.size w [.row (α := U Ln) 199 datav data, B] Z_)  : Calls Tryz.prog 332 #[datav, (.int .i64 ((a : Nat) : Int)), (.int .i64 ((m : Nat) : Int)), (.int .i64 ((b : Nat) : Int)), (.func (.func 273) #[] #[])] w (RetY w0 (fun v => v = .tuple #[] ∧ (All (fS 30) (aB data a m b) ∧ (aB data a m b).length = data.length)) (fun v => [.row (α := U Ln) 199 datav (aB data a m b), B])) := by
 refine jP (N := 58) (args := [datav, (.int .i64 ((a : Nat) : Int)), (.int .i64 ((m : Nat) : Int)), (.int .i64 ((b : Nat) : Int)), (.func (.func 273) #[] #[])]) Tryz.func332 rfl rfl hbel hsep ?_; intro ac h
 have hlendata := h.len 0 rfl
 obtain ⟨X1, hX1⟩ : ∃ X, bC (fun s => dV data a m b s.1 s.2.1 s.2.2) ((m - a) + (b - m) + 1) ((m - a), (b - m), data) = X := ⟨_, rfl⟩
 refine gz h <| (xo (hs := by exact d5 rfl rfl (r := (((m - a) : Nat) : Int)) (by rw [IntKind.wrap_i64]; first | omega | grind))) <| (xo (hs := by exact d5 rfl rfl (r := (((b - m) : Nat) : Int)) (by rw [IntKind.wrap_i64]; first | omega | grind))) <| (W) ?_; clear h ac; intro ac wo h
 refine wp_loop_ghost (fun n_ a_ w_ => ∃ (i : Nat) (j : Nat) (data1 : List (U Ln)), (i + j < n_) ∧ (bC (fun s => dV data a m b s.1 s.2.1 s.2.2) n_ (i, j, data1) = X1) ∧ (All (fS 30) data1) ∧ (0 < i) ∧ (0 < j) ∧ (i ≤ m) ∧ (m + j ≤ b) ∧ (data1.length = data.length) ∧ St w0 58 [(0, datav), (2, (.int .i64 ((m : Nat) : Int))), (4, (.func (.func 273) #[] #[])), (10, (.int .i64 ((i : Nat) : Int))), (11, (.int .i64 ((j : Nat) : Int)))] [.row (α := U Ln) 199 datav data1, B] a_ w_) ((m - a) + (b - m) + 1) ⟨(m - a), (b - m), data, og, hX1, zdata, og, og, og, og, og, h.rs⟩ ?_
 clear h ac wo; rintro n1 ac wo ⟨i, j, data1, hm1, hL1, zdata1, hi0, hj0, him, hjb, hdl, h⟩
 obtain ⟨m1, rfl⟩ : ∃ m, n1 = m + 1 := ⟨n1 - 1, by omega⟩
 refine gz h <| (ai) ?_ ?_ <;> clear h ac wo <;> intro ac wo h hc1
 ·
  have hq1 := hc1; try simp at hq1
  refine gz h <| (ai) ?_ ?_ <;> clear h ac wo <;> intro ac wo h hc2
  ·
   have hd2 := of_decide_eq_true hc2
   refine gz h <| (xo (hs := by exact d5 rfl rfl (r := (((m - i) : Nat) : Int)) (by rw [IntKind.wrap_i64]; first | omega | grind))) <| (W) ?_; clear h ac wo; intro ac wo h
   refine on1 h 0 rfl (gH (vs := [datav, (.int .i64 (((m - i) : Nat) : Int)), (.int .i64 ((m : Nat) : Int)), (.int .i64 ((j : Nat) : Int)), (.func (.func 273) #[] #[])]) (A := fun v => [.row (α := U Ln) 199 datav (bk data1 (m - i) m j)]) (cO cc342 rfl) (fun w_ B_ hB_ hS_ => dI data1 datav (m - i) m j og og og zdata1 w0 w_ B_ hB_ hS_ )) rfl ?_; clear h ac wo; intro vc ac wo s2 h
   obtain rfl : vc = _ := s2.1
   have p3 := s2.2.2
   refine gz h <| (xo (hs := by exact d5 rfl rfl (r := (((i - j) : Nat) : Int)) (by rw [IntKind.wrap_i64]; first | omega | grind))) <| (W) ?_; clear h ac wo; intro ac wo h
   have hg := bQ hL1 pt
   exact aE ⟨m1, og, _, _, _, og, hg, s2.2.1, og, og, og, og, og, h.re [0, 1]⟩
  ·
   have hd2 := of_decide_eq_false hc2
   refine gz h <| (xo (hs := by exact d5 rfl rfl (r := (((m - i) : Nat) : Int)) (by rw [IntKind.wrap_i64]; first | omega | grind))) <| (xo (hs := by exact d5 rfl rfl (r := ((((m + j) - i) : Nat) : Int)) (by rw [IntKind.wrap_i64]; first | omega | grind))) <| (W) ?_; clear h ac wo; intro ac wo h
   refine on1 h 0 rfl (gH (vs := [datav, (.int .i64 (((m - i) : Nat) : Int)), (.int .i64 ((((m + j) - i) : Nat) : Int)), (.int .i64 ((i : Nat) : Int)), (.func (.func 273) #[] #[])]) (A := fun v => [.row (α := U Ln) 199 datav (bk data1 (m - i) ((m + j) - i) i)]) (cO cc342 rfl) (fun w_ B_ hB_ hS_ => dI data1 datav (m - i) ((m + j) - i) i og og og zdata1 w0 w_ B_ hB_ hS_ )) rfl ?_; clear h ac wo; intro vc ac wo s5 h
   obtain rfl : vc = _ := s5.1
   have p6 := s5.2.2
   refine gz h <| (xo (hs := by exact d5 rfl rfl (r := (((j - i) : Nat) : Int)) (by rw [IntKind.wrap_i64]; first | omega | grind))) <| (W) ?_; clear h ac wo; intro ac wo h
   have hg := bQ hL1 pt
   exact aE ⟨m1, og, _, _, _, og, hg, s5.2.1, og, og, og, og, og, h.re [0, 1]⟩
 ·
  have hq1 := hc1; try simp at hq1
  have hx1 := dM hL1 pt
  refine gz h <| (xo (hs := by exact d5 rfl rfl (r := (((m - i) : Nat) : Int)) (by rw [IntKind.wrap_i64]; first | omega | grind))) <| (W) ?_; clear h ac wo; intro ac wo h
  refine on1 h 0 rfl (gH (vs := [datav, (.int .i64 (((m - i) : Nat) : Int)), (.int .i64 ((m : Nat) : Int)), (.int .i64 ((i : Nat) : Int)), (.func (.func 273) #[] #[])]) (A := fun v => [.row (α := U Ln) 199 datav (bk data1 (m - i) m i)]) (cO cc342 rfl) (fun w_ B_ hB_ hS_ => dI data1 datav (m - i) m i og og og zdata1 w0 w_ B_ hB_ hS_ )) rfl ?_; clear h ac wo; intro vc ac wo s8 h
  obtain rfl : vc = _ := s8.1
  have p9 := s8.2.2
  refine gz h <| (W) ?_; clear h ac wo; intro ac wo h
  replace h := h.sub (F' := []) trivial
  have hd : aB data a m b = (bk data1 (m - i) m i) := pt
  exact kP (vs := []) h rfl .nil rfl ((h.pick [0, 1] (by decide)).retY ⟨rfl, (by rw [hd]; exact ⟨s8.2.1, og⟩)⟩ (by rw [hd]; rfl))
attribute [irreducible] aB
end Go.Sx
