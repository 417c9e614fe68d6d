/- Plain laws: patterns of blocks, runners, diagrams. -/
import Derived.Test.YtehpiiimckodmaaEv5
import Derived.Test.YtehpiiimckodmaaEw0
set_option linter.unusedVariables false
set_option linter.unusedSimpArgs false
section
namespace Go.Co
open Go Go.Ev Go.EvW

/-- The number of combinations, cut off. -/
def sizeL : List Int → List Int → Int → Int
  | i :: is, p :: ps, n => if i > 2000 ∨ p > 2000 then 2001 else sizeL is ps (min (n * (i + p)) 2001)
  | _, _, n => n

/-- Indices and periods in order. -/
def Good (idx per : List Int) : Prop := idx.length = per.length ∧ (∀ n ∈ idx, 0 ≤ n) ∧ ∀ n ∈ per, 1 ≤ n

def prod : List Int → Int
  | [] => 1
  | m :: ms => m * prod ms

def mods (idx per : List Int) : List Int := List.zipWith (· + ·) idx per

theorem prod_pos : ∀ {ms : List Int}, (∀ m ∈ ms, 1 ≤ m) → 1 ≤ prod ms
  | [], _ => Int.le_refl _
  | m :: ms, h => by
    have h1 := prod_pos (ms := ms) fun x hx => h x (List.mem_cons_of_mem _ hx)
    have h2 := h m (List.mem_cons_self ..)
    have := Int.mul_le_mul h2 h1 (by omega) (by omega)
    simp only [prod]; omega

theorem prod_append : ∀ (a b : List Int), prod (a ++ b) = prod a * prod b
  | [], b => by simp [prod]
  | m :: a, b => by simp only [List.cons_append, prod, prod_append a b, Int.mul_assoc]

theorem mods_pos {idx per : List Int} (h : Good idx per) : ∀ m ∈ mods idx per, 1 ≤ m := by
  obtain ⟨hl, h1, h2⟩ := h
  unfold mods
  induction idx generalizing per with
  | nil => intro m hm; simp at hm
  | cons i is ih =>
    cases per with
    | nil => intro m hm; simp at hm
    | cons p ps =>
      intro m hm
      simp only [List.zipWith_cons_cons, List.mem_cons] at hm
      rcases hm with rfl | hm
      · have := h1 i (List.mem_cons_self ..); have := h2 p (List.mem_cons_self ..); omega
      · exact ih (by simpa using hl) (fun x hx => h1 x (List.mem_cons_of_mem _ hx)) (fun x hx => h2 x (List.mem_cons_of_mem _ hx)) m hm

theorem sizeL_eq : ∀ {idx per : List Int} {n : Int}, Good idx per → 1 ≤ n → n ≤ 2001 → sizeL idx per n = if n * prod (mods idx per) ≤ 2000 then n * prod (mods idx per) else 2001
  | [], per, n, h, h1, h2 => by
    simp only [sizeL, mods, List.zipWith_nil_left, prod, Int.mul_one]
    split <;> omega
  | i :: is, [], n, h, h1, h2 => by obtain ⟨hl, _⟩ := h; simp at hl
  | i :: is, p :: ps, n, h, h1, h2 => by
    obtain ⟨hl, h3, h4⟩ := h
    have hi := h3 i (List.mem_cons_self ..)
    have hp := h4 p (List.mem_cons_self ..)
    have hg : Good is ps := ⟨by simpa using hl, fun x hx => h3 x (List.mem_cons_of_mem _ hx), fun x hx => h4 x (List.mem_cons_of_mem _ hx)⟩
    have hr := prod_pos (mods_pos hg)
    have e : mods (i :: is) (p :: ps) = (i + p) :: mods is ps := rfl
    simp only [sizeL, e, prod]
    have hbig : ∀ z : Int, 2001 ≤ z → ¬ z * prod (mods is ps) ≤ 2000 := fun z hz => by
      have := Int.mul_le_mul hz hr (by omega) (by omega)
      omega
    have ha : n * ((i + p) * prod (mods is ps)) = n * (i + p) * prod (mods is ps) := (Int.mul_assoc ..).symm
    rw [ha]
    have hnm : n * (i + p) ≥ i + p := by
      have := Int.mul_le_mul_of_nonneg_right h1 (show 0 ≤ i + p by omega)
      omega
    split
    · rw [if_neg (hbig _ (by omega))]
    · by_cases hz : n * (i + p) ≤ 2001
      · rw [Int.min_eq_left hz, sizeL_eq hg (by omega) hz]
      · rw [Int.min_eq_right (by omega), sizeL_eq hg (by omega) (by omega), if_neg (hbig 2001 (by omega)), if_neg (hbig _ (by omega))]

/-- The number of a combination after one more letter. -/
def nextF (idx per : List Int) (at' a : Int) : Int :=
  if at' / prod ((mods idx per).drop (a + 1).toNat) % (geti idx a + geti per a) + 1 = geti idx a + geti per a
  then at' - (at' / prod ((mods idx per).drop (a + 1).toNat) % (geti idx a + geti per a) - geti idx a) * prod ((mods idx per).drop (a + 1).toNat)
  else at' + prod ((mods idx per).drop (a + 1).toNat)

theorem mods_length {idx per : List Int} (h : Good idx per) : (mods idx per).length = idx.length := by
  simp [mods, h.1]

theorem mods_drop {idx per : List Int} (h : Good idx per) {i : Nat} (hi : i < idx.length) : (mods idx per).drop i = (geti idx (i : Nat) + geti per (i : Nat)) :: (mods idx per).drop (i + 1) := by
  have h2 : i < per.length := by rw [← h.1]; exact hi
  have h3 : i < (mods idx per).length := by rw [mods_length h]; exact hi
  rw [List.drop_eq_getElem_cons h3]
  simp [mods, geti, hi, h2]

theorem prod_drop_le {idx per : List Int} (h : Good idx per) (i : Nat) : 1 ≤ prod ((mods idx per).drop i) ∧ prod ((mods idx per).drop i) ≤ prod (mods idx per) := by
  have hp := mods_pos h
  have h1 := prod_pos (ms := (mods idx per).drop i) fun m hm => hp m (List.mem_of_mem_drop hm)
  have h2 := prod_pos (ms := (mods idx per).take i) fun m hm => hp m (List.mem_of_mem_take hm)
  have h3 : prod (mods idx per) = prod ((mods idx per).take i) * prod ((mods idx per).drop i) := by rw [← prod_append, List.take_append_drop]
  refine ⟨h1, ?_⟩
  rw [h3]
  have := Int.mul_le_mul_of_nonneg_right h2 (show 0 ≤ prod ((mods idx per).drop i) by omega)
  omega

/-- A valid word over some letters. -/
def WordOk (w : List UInt8) (k : Int) : Prop := 1 ≤ k ∧ k ≤ 6 ∧ w.length ≤ 2048 ∧ ∀ c ∈ w, 97 ≤ c.toNat ∧ (c.toNat : Int) - 97 < k
instance (w : List UInt8) (k : Int) : Decidable (WordOk w k) := by unfold WordOk; infer_instance

/-! ### the number of a combination, by the numbers of the letters -/

def asF (n i p : Int) : Int := if n < i then n else i + (n - i) % p

def encA : List Int → List Int → List Int → Int
  | i :: is, p :: ps, n :: ns => asF n i p * prod (mods is ps) + encA is ps ns
  | _, _, _ => 0

theorem Good.tail {i p : Int} {is ps : List Int} (h : Good (i :: is) (p :: ps)) : Good is ps ∧ 0 ≤ i ∧ 1 ≤ p :=
  ⟨⟨by simpa using h.1, fun x hx => h.2.1 x (List.mem_cons_of_mem _ hx), fun x hx => h.2.2 x (List.mem_cons_of_mem _ hx)⟩, h.2.1 i (List.mem_cons_self ..), h.2.2 p (List.mem_cons_self ..)⟩

theorem asF_range {n i p : Int} (hn : 0 ≤ n) (hi : 0 ≤ i) (hp : 1 ≤ p) : 0 ≤ asF n i p ∧ asF n i p < i + p := by
  have h1 := Int.emod_nonneg (n - i) (show p ≠ 0 by omega)
  have h2 := Int.emod_lt_of_pos (n - i) (show 0 < p by omega)
  unfold asF
  split <;> omega

theorem asF_succ {n i p : Int} (hn : 0 ≤ n) (hi : 0 ≤ i) (hp : 1 ≤ p) : asF (n + 1) i p = if asF n i p + 1 = i + p then i else asF n i p + 1 := by
  have h1 := Int.emod_nonneg (n - i) (show p ≠ 0 by omega)
  have h2 := Int.emod_lt_of_pos (n - i) (show 0 < p by omega)
  unfold asF
  by_cases h : n < i
  · rw [if_pos h, if_neg (show ¬ (n + 1 = i + p) by omega)]
    split
    · rfl
    · rw [show n + 1 - i = 0 by omega]; simp; omega
  · rw [if_neg h, if_neg (by omega)]
    have e : n + 1 - i = (n - i) + 1 := by omega
    rw [e, Int.add_emod]
    by_cases hq : (n - i) % p = p - 1
    · rw [if_pos (by omega), hq]
      by_cases hp1 : p = 1
      · subst hp1; simp [Int.emod_one]
      · rw [Int.emod_eq_of_lt (show (0:Int) ≤ 1 by omega) (by omega), show p - 1 + 1 = p by omega, Int.emod_self]; omega
    · rw [if_neg (by omega)]
      by_cases hp1 : p = 1
      · omega
      · rw [Int.emod_eq_of_lt (show (0:Int) ≤ 1 by omega) (by omega), Int.emod_eq_of_lt (by omega) (by omega)]; omega

theorem encA_range : ∀ {idx per ns : List Int}, Good idx per → (∀ n ∈ ns, 0 ≤ n) → ns.length = idx.length → 0 ≤ encA idx per ns ∧ encA idx per ns < prod (mods idx per)
  | [], per, ns, h, hn, hl => by simp [encA, mods, prod]
  | i :: is, [], ns, h, hn, hl => by have := h.1; simp at this
  | i :: is, p :: ps, [], h, hn, hl => by simp at hl
  | i :: is, p :: ps, n :: ns, h, hn, hl => by
    obtain ⟨hg, hi, hp⟩ := h.tail
    have ih := encA_range (ns := ns) hg (fun x hx => hn x (List.mem_cons_of_mem _ hx)) (by simpa using hl)
    have ha := asF_range (hn n (List.mem_cons_self ..)) hi hp
    have e : mods (i :: is) (p :: ps) = (i + p) :: mods is ps := rfl
    simp only [encA, e, prod]
    generalize prod (mods is ps) = u at *
    generalize asF n i p = d at *
    have h1 : 0 ≤ d * u := Int.mul_nonneg ha.1 (by omega)
    have h2 : (d + 1) * u ≤ (i + p) * u := Int.mul_le_mul_of_nonneg_right (by omega) (by omega)
    rw [Int.add_mul, Int.one_mul] at h2
    omega

theorem geti_cons_zero (x : Int) (xs : List Int) : geti (x :: xs) 0 = x := rfl
theorem geti_cons_succ (x : Int) (xs : List Int) (a : Nat) : geti (x :: xs) ((a : Int) + 1) = geti xs a := by
  unfold geti
  rw [show ((a : Int) + 1).toNat = a + 1 by omega]
  simp

theorem nextF_zero {i p : Int} {is ps : List Int} {d e : Int} (hd : 0 ≤ d ∧ d < i + p) (he : 0 ≤ e ∧ e < prod (mods is ps)) :
    nextF (i :: is) (p :: ps) (d * prod (mods is ps) + e) 0 = (if d + 1 = i + p then i else d + 1) * prod (mods is ps) + e := by
  have ed : (mods (i :: is) (p :: ps)).drop ((0 : Int) + 1).toNat = mods is ps := rfl
  unfold nextF
  rw [ed, geti_cons_zero, geti_cons_zero]
  generalize prod (mods is ps) = u at *
  have e1 : (d * u + e) / u = d := by
    rw [Int.add_comm, Int.add_mul_ediv_right _ _ (by omega), Int.ediv_eq_zero_of_lt he.1 he.2]; omega
  rw [e1, Int.emod_eq_of_lt hd.1 hd.2]
  split
  · rw [Int.sub_mul]; omega
  · rw [Int.add_mul]; omega

theorem nextF_succ {i p : Int} {is ps : List Int} (hg : Good is ps) {d e : Int} {a : Nat} (ha : a < is.length) :
    nextF (i :: is) (p :: ps) (d * prod (mods is ps) + e) ((a : Int) + 1) = d * prod (mods is ps) + nextF is ps e a := by
  have ed : (mods (i :: is) (p :: ps)).drop ((a : Int) + 1 + 1).toNat = (mods is ps).drop ((a : Int) + 1).toNat := by
    rw [show ((a : Int) + 1 + 1).toNat = a + 2 by omega, show ((a : Int) + 1).toNat = a + 1 by omega]; rfl
  have hap : a < ps.length := by rw [← hg.1]; exact ha
  unfold nextF
  rw [ed, geti_cons_succ, geti_cons_succ, show ((a : Int) + 1).toNat = a + 1 by omega]
  have hm : (mods is ps).drop a = (geti is a + geti ps a) :: (mods is ps).drop (a + 1) := mods_drop hg ha
  have hu : prod (mods is ps) = prod ((mods is ps).take a) * ((geti is a + geti ps a) * prod ((mods is ps).drop (a + 1))) := by
    have : prod (mods is ps) = prod ((mods is ps).take a) * prod ((mods is ps).drop a) := by rw [← prod_append, List.take_append_drop]
    rw [this, hm]; rfl
  have hu1 := (prod_drop_le hg (a + 1)).1
  have hm1 : 1 ≤ geti is a + geti ps a := by
    have := hg.2.1 _ (geti_mem (xs := is) (i := a) (by omega) (by omega))
    have := hg.2.2 _ (geti_mem (xs := ps) (i := a) (by omega) (by omega))
    omega
  generalize prod ((mods is ps).drop (a + 1)) = u at *
  generalize geti is a + geti ps a = m at *
  generalize prod ((mods is ps).take a) = q at *
  generalize prod (mods is ps) = z at *
  have e1 : (d * z + e) / u % m = e / u % m := by
    have e2 : d * z + e = e + (d * q * m) * u := by rw [hu]; simp only [Int.mul_assoc]; omega
    rw [e2, Int.add_mul_ediv_right _ _ (by omega), Int.add_mul_emod_self_right]
  rw [e1]
  split <;> omega

theorem nextF_enc : ∀ {idx per ns : List Int} {a : Nat}, Good idx per → (∀ n ∈ ns, 0 ≤ n) → ns.length = idx.length → a < idx.length →
    nextF idx per (encA idx per ns) a = encA idx per (ns.set a (geti ns a + 1))
  | [], per, ns, a, h, hn, hl, ha => by simp at ha
  | i :: is, [], ns, a, h, hn, hl, ha => by have := h.1; simp at this
  | i :: is, p :: ps, [], a, h, hn, hl, ha => by simp at hl
  | i :: is, p :: ps, n :: ns, a, h, hn, hl, ha => by
    obtain ⟨hg, hi, hp⟩ := h.tail
    have hr := encA_range (ns := ns) hg (fun x hx => hn x (List.mem_cons_of_mem _ hx)) (by simpa using hl)
    have hn0 := hn n (List.mem_cons_self ..)
    have hd := asF_range hn0 hi hp
    cases a with
    | zero =>
      simp only [encA, List.set_cons_zero]
      rw [show ((0 : Nat) : Int) = 0 from rfl, nextF_zero hd hr, geti_cons_zero, asF_succ hn0 hi hp]
    | succ a =>
      simp only [encA, List.set_cons_succ]
      rw [show ((a + 1 : Nat) : Int) = (a : Int) + 1 by omega, nextF_succ hg (by simpa using ha), geti_cons_succ, nextF_enc hg (fun x hx => hn x (List.mem_cons_of_mem _ hx)) (by simpa using hl) (by simpa using ha)]

/-- How often letter 'a' occurs. -/
def cnt (w : List UInt8) (a : Nat) : Int := ((w.countP fun c => c.toNat == 97 + a : Nat) : Int)
def cnts (k : Nat) (w : List UInt8) : List Int := (List.range k).map (cnt w)

theorem cnts_length (k : Nat) (w : List UInt8) : (cnts k w).length = k := by simp [cnts]
theorem cnts_nonneg (k : Nat) (w : List UInt8) : ∀ n ∈ cnts k w, 0 ≤ n := by
  intro n hn
  simp only [cnts, List.mem_map] at hn
  obtain ⟨a, _, rfl⟩ := hn
  unfold cnt; omega
theorem cnts_snoc {k : Nat} {w : List UInt8} {c : UInt8} {a : Nat} (hc : c.toNat = 97 + a) : cnts k (w ++ [c]) = (cnts k w).set a (geti (cnts k w) a + 1) := by
  apply List.ext_getElem
  · simp [cnts]
  · intro j h1 h2
    have hj : j < k := by simpa [cnts] using h1
    rw [List.getElem_set]
    by_cases e : a = j
    · subst e
      rw [if_pos rfl]
      simp [cnts, cnt, geti, hj, List.countP_append, hc]
    · rw [if_neg e]
      have : ¬ c.toNat = 97 + j := by omega
      simp [cnts, cnt, List.countP_append, this]

theorem encA_nil : ∀ {idx per : List Int} {k : Nat}, Good idx per → encA idx per (List.replicate k 0) = 0
  | [], per, k, h => by simp [encA]
  | i :: is, [], k, h => by have := h.1; simp at this
  | i :: is, p :: ps, 0, h => by simp [encA]
  | i :: is, p :: ps, k + 1, h => by
    obtain ⟨hg, hi, hp⟩ := h.tail
    rw [List.replicate_succ]
    simp only [encA]
    rw [encA_nil hg]
    unfold asF
    split
    · simp
    · rw [show i = 0 by omega]; simp

theorem cnts_nil (k : Nat) : cnts k [] = List.replicate k 0 := by
  apply List.ext_getElem <;> simp [cnts, cnt]

/-- What counters are worth. -/
def validF (idx per : List Int) (acc : Nat) : Int :=
  if idx.length < 1 ∨ 6 < idx.length then 1
  else if per.length ≠ idx.length then 22
  else if ∃ i, i < idx.length ∧ (geti idx (i : Nat) < 0 ∨ geti per (i : Nat) < 1) then 22
  else if 2000 < prod (mods idx per) then 3
  else if (acc : Int) ≠ prod (mods idx per) then 22 else 0

theorem validF_good {idx per : List Int} {acc : Nat} (h : validF idx per acc = 0) : Good idx per ∧ 1 ≤ idx.length ∧ idx.length ≤ 6 ∧ prod (mods idx per) ≤ 2000 ∧ (acc : Int) = prod (mods idx per) := by
  unfold validF at h
  split at h
  · simp at h
  · split at h
    · simp at h
    · split at h
      · simp at h
      · split at h
        · simp at h
        · split at h
          · simp at h
          · rename_i h1 h2 h3 h4 h5
            refine ⟨⟨by omega, fun n hn => ?_, fun n hn => ?_⟩, by omega, by omega, by omega, by omega⟩
            · obtain ⟨j, hj, rfl⟩ := List.getElem_of_mem hn
              refine Int.not_lt.1 fun hlt => h3 ⟨j, hj, .inl ?_⟩
              simpa [geti, hj] using hlt
            · obtain ⟨j, hj, rfl⟩ := List.getElem_of_mem hn
              refine Int.not_lt.1 fun hlt => h3 ⟨j, by omega, .inr ?_⟩
              simpa [geti, hj] using hlt

theorem good_of {idx per : List Int} (hl : per.length = idx.length) (h : ∀ i, i < idx.length → 0 ≤ geti idx (i : Nat) ∧ 1 ≤ geti per (i : Nat)) : Good idx per := by
  refine ⟨hl.symm, fun n hn => ?_, fun n hn => ?_⟩
  · obtain ⟨j, hj, rfl⟩ := List.getElem_of_mem hn
    have := (h j hj).1
    simpa [geti, hj] using this
  · obtain ⟨j, hj, rfl⟩ := List.getElem_of_mem hn
    have := (h j (by omega)).2
    simpa [geti, hj] using this

def matchF (idx per : List Int) (acc : List Bool) (w : List UInt8) : Bool :=
  decide (validF idx per acc.length = 0) && decide (WordOk w idx.length) && getb acc (encA idx per (cnts idx.length w))


/-- Two words with the same letters. -/
def SameW (xs ys : List UInt8) : Prop := xs.length = ys.length ∧ ∀ p : UInt8 → Bool, xs.countP p = ys.countP p

theorem SameW.match_eq {xs ys : List UInt8} (h : SameW xs ys) (idx per : List Int) (acc : List Bool) : matchF idx per acc xs = matchF idx per acc ys := by
  have hc : cnts idx.length xs = cnts idx.length ys := by
    unfold cnts
    refine List.map_congr_left fun a _ => ?_
    unfold cnt
    rw [h.2]
  have hall : ∀ k : Int, (∀ c ∈ xs, 97 ≤ c.toNat ∧ (c.toNat : Int) - 97 < k) ↔ (∀ c ∈ ys, 97 ≤ c.toNat ∧ (c.toNat : Int) - 97 < k) := fun k => by
    have e : ∀ zs : List UInt8, (∀ c ∈ zs, 97 ≤ c.toNat ∧ (c.toNat : Int) - 97 < k) ↔ zs.countP (fun c => decide (97 ≤ c.toNat ∧ (c.toNat : Int) - 97 < k)) = zs.length := fun zs => by
      rw [List.countP_eq_length]; simp
    rw [e, e, h.2, h.1]
  have hw : WordOk xs idx.length ↔ WordOk ys idx.length := by
    unfold WordOk
    rw [h.1, hall]
  unfold matchF
  rw [hc, decide_eq_decide.2 hw]

theorem SameW.swap {xs ys : List UInt8} (h : SameW xs ys) {i j : Int} (hi : 0 ≤ i ∧ i < xs.length) (hj : 0 ≤ j ∧ j < xs.length) : SameW ((xs.set i.toNat (getu xs j)).set j.toNat (getu xs i)) ys := by
  refine ⟨by simpa using h.1, fun p => ?_⟩
  rw [← h.2]
  have hi' : i.toNat < xs.length := by omega
  have hj' : j.toNat < xs.length := by omega
  rw [List.countP_set (by simpa using hj'), List.countP_set hi']
  have e1 : getu xs i = xs[i.toNat] := by simp [getu, hi']
  have e2 : getu xs j = xs[j.toNat] := by simp [getu, hj']
  rw [e1, e2, List.getElem_set]
  have c1 : xs.countP p ≥ if p xs[i.toNat] = true then 1 else 0 := by
    split
    · rename_i hp; exact List.countP_pos_iff.2 ⟨_, List.getElem_mem hi', hp⟩
    · omega
  have c2 : xs.countP p ≥ if p xs[j.toNat] = true then 1 else 0 := by
    split
    · rename_i hp; exact List.countP_pos_iff.2 ⟨_, List.getElem_mem hj', hp⟩
    · omega
  by_cases e : i.toNat = j.toNat
  · simp only [e, if_true]
    simp only [e] at c1
    omega
  · rw [if_neg e]
    generalize (if p xs[i.toNat] = true then 1 else 0) = a at *
    generalize (if p xs[j.toNat] = true then 1 else 0) = b at *
    omega
end Go.Co
end

section
namespace Go.Co

/-- What may stand behind a gap. -/
def tailM : List (List UInt8) → List UInt8 → Prop
  | [], w => w = []
  | [b], w => ∃ x, w = x ++ b
  | b :: c :: bs, w => ∃ x y, w = x ++ (b ++ y) ∧ tailM (c :: bs) y

/-- A word matches a pattern of blocks. -/
def Mt : List (List UInt8) → List UInt8 → Prop
  | [], w => False
  | [b], w => w = b
  | b :: c :: bs, w => ∃ y, w = b ++ y ∧ tailM (c :: bs) y

theorem tailM_left {c : List UInt8} {bs : List (List UInt8)} {y z : List UInt8} (h : tailM (c :: bs) y) : tailM (c :: bs) (z ++ y) := by
  cases bs with
  | nil => obtain ⟨x, rfl⟩ := h; exact ⟨z ++ x, by simp⟩
  | cons d bs => obtain ⟨x, u, rfl, h⟩ := h; exact ⟨z ++ x, u, by simp, h⟩

/-- The leftmost place of a block is as good as any other one. -/
theorem tailM_first {b c : List UInt8} {bs : List (List UInt8)} {w x0 y0 : List UInt8} (h : w = x0 ++ (b ++ y0)) (hm : ∀ x y, w = x ++ (b ++ y) → x0.length ≤ x.length) : tailM (b :: c :: bs) w ↔ tailM (c :: bs) y0 := by
  constructor
  · rintro ⟨x, y, e, hy⟩
    have hl := hm x y e
    have e2 : (x0 ++ b) ++ y0 = (x ++ b) ++ y := by rw [List.append_assoc, List.append_assoc, ← h, ← e]
    have : ∃ z, y0 = z ++ y := by
      have e3 := congrArg (List.drop (x0 ++ b).length) e2
      rw [List.drop_left, List.drop_append_of_le_length (by simp; omega)] at e3
      exact ⟨_, e3⟩
    obtain ⟨z, rfl⟩ := this
    exact tailM_left hy
  · intro hy
    exact ⟨x0, y0, h, hy⟩
theorem tailM_none {b c : List UInt8} {bs : List (List UInt8)} {w : List UInt8} (h : ∀ x y, w ≠ x ++ (b ++ y)) : ¬ tailM (b :: c :: bs) w := by
  rintro ⟨x, y, e, _⟩
  exact h x y e

/-! ### runs over places -/

/-- Acceptance from a place. -/
def acc (all : List UInt8) (gap : Nat → Prop) : Nat → List UInt8 → Prop
  | i, [] => i = all.length
  | i, a :: w => (gap i ∧ acc all gap i w) ∨ (all[i]? = some a ∧ acc all gap (i + 1) w)

theorem acc_le {all : List UInt8} {gap : Nat → Prop} : ∀ {w : List UInt8} {i : Nat}, acc all gap i w → i ≤ all.length
  | [], i, h => by simp only [acc] at h; omega
  | a :: w, i, h => by
    rcases h with ⟨_, h⟩ | ⟨h1, h⟩
    · exact acc_le h
    · have := (List.getElem?_eq_some_iff.1 h1).1; omega

/-- From a gap on, whatever a place ahead of it accepts is accepted. -/
theorem acc_gap {all : List UInt8} {gap : Nat → Prop} {g : Nat} (hg : gap g) (hgl : g ≤ all.length) : ∀ {w : List UInt8} {i : Nat}, i ≤ g → acc all gap i w → acc all gap g w
  | [], i, hi, h => by simp only [acc] at h ⊢; omega
  | a :: w, i, hi, h => by
    by_cases e : i = g
    · subst e; exact h
    · rcases h with ⟨_, h⟩ | ⟨_, h⟩
      · exact .inl ⟨hg, acc_gap hg hgl hi h⟩
      · exact .inl ⟨hg, acc_gap hg hgl (by omega) h⟩

/-- Reading a block without gaps inside. -/
theorem acc_block {all : List UInt8} {gap : Nat → Prop} : ∀ {b : List UInt8} {i : Nat} {w : List UInt8}, (∀ j, i ≤ j → j < i + b.length → ¬ gap j) → (all.drop i).take b.length = b → (acc all gap i w ↔ (∃ y, w = b ++ y ∧ acc all gap (i + b.length) y))
  | [], i, w, _, _ => by simp
  | c :: b, i, w, hg, hd => by
    have hi : all[i]? = some c := by
      have := congrArg (fun l => l[0]?) hd
      simpa using this
    have hlt := (List.getElem?_eq_some_iff.1 hi).1
    have hd2 : (all.drop (i + 1)).take b.length = b := by
      rw [List.drop_eq_getElem_cons hlt, List.length_cons, List.take_succ_cons, List.cons.injEq] at hd
      exact hd.2
    cases w with
    | nil =>
      simp only [acc]
      constructor
      · intro h; omega
      · rintro ⟨y, h, _⟩; simp at h
    | cons a w =>
      simp only [acc]
      have ih := acc_block (all := all) (gap := gap) (b := b) (i := i + 1) (w := w) (fun j h1 h2 => hg j (by omega) (by simp; omega)) hd2
      rw [show i + (c :: b).length = i + 1 + b.length by simp; omega]
      constructor
      · rintro (⟨h, _⟩ | ⟨h, h'⟩)
        · exact absurd h (hg i (by omega) (by simp))
        · rw [hi] at h; cases h
          obtain ⟨y, rfl, hy⟩ := ih.1 h'
          exact ⟨y, rfl, hy⟩
      · rintro ⟨y, h, hy⟩
        rw [List.cons_append, List.cons.injEq] at h
        obtain ⟨rfl, rfl⟩ := h
        exact .inr ⟨hi, ih.2 ⟨y, rfl, hy⟩⟩

theorem acc_end {all : List UInt8} {gap : Nat → Prop} (hg : ¬ gap all.length) {w : List UInt8} : acc all gap all.length w ↔ w = [] := by
  cases w with
  | nil => simp [acc]
  | cons a w =>
    simp only [acc]
    constructor
    · rintro (⟨h, _⟩ | ⟨h, _⟩)
      · exact absurd h hg
      · simp at h
    · intro h; simp at h
theorem acc_all {all : List UInt8} {gap : Nat → Prop} (hg : gap all.length) : ∀ w : List UInt8, acc all gap all.length w
  | [] => rfl
  | _ :: w => .inl ⟨hg, acc_all hg w⟩

/-- From a gap on: a block is read somewhere. -/
theorem acc_some {all : List UInt8} {gap : Nat → Prop} {c : UInt8} {b : List UInt8} {s : Nat} (hs : gap s) (hg : ∀ j, s < j → j < s + (c :: b).length → ¬ gap j) (hd : (all.drop s).take (c :: b).length = c :: b) :
    ∀ {w : List UInt8}, acc all gap s w ↔ ∃ x y, w = x ++ ((c :: b) ++ y) ∧ acc all gap (s + (c :: b).length) y := by
  have hi : all[s]? = some c := by
    have := congrArg (fun l => l[0]?) hd
    simpa using this
  have hlt := (List.getElem?_eq_some_iff.1 hi).1
  have hd2 : (all.drop (s + 1)).take b.length = b := by
    rw [List.drop_eq_getElem_cons hlt, List.length_cons, List.take_succ_cons, List.cons.injEq] at hd
    exact hd.2
  have hblk := fun w => acc_block (all := all) (gap := gap) (b := b) (i := s + 1) (w := w) (fun j h1 h2 => hg j (by omega) (by simp; omega)) hd2
  have hlen : s + (c :: b).length = s + 1 + b.length := by simp; omega
  rw [hlen]
  intro w
  induction w with
  | nil =>
    simp only [acc]
    constructor
    · intro h; omega
    · rintro ⟨x, y, h, _⟩; simp at h
  | cons a w ih =>
    simp only [acc]
    constructor
    · rintro (⟨_, h⟩ | ⟨h, h'⟩)
      · obtain ⟨x, y, rfl, hy⟩ := ih.1 h
        exact ⟨a :: x, y, rfl, hy⟩
      · rw [hi] at h; cases h
        obtain ⟨y, rfl, hy⟩ := (hblk w).1 h'
        exact ⟨[], y, rfl, hy⟩
    · rintro ⟨x, y, h, hy⟩
      cases x with
      | nil =>
        rw [List.nil_append, List.cons_append, List.cons.injEq] at h
        obtain ⟨rfl, rfl⟩ := h
        exact .inr ⟨hi, (hblk _).2 ⟨y, rfl, hy⟩⟩
      | cons a' x =>
        rw [List.cons_append, List.cons.injEq] at h
        obtain ⟨rfl, rfl⟩ := h
        exact .inl ⟨hs, ih.2 ⟨x, y, rfl, hy⟩⟩

/-- The gaps of blocks that begin at a place. -/
def gapP : List (List UInt8) → Nat → Nat → Prop
  | [], _, _ => False
  | [_], _, _ => False
  | b :: c :: bs, s, j => j = s + b.length ∨ gapP (c :: bs) (s + b.length) j

theorem gapP_ge : ∀ {bs : List (List UInt8)} {s j : Nat}, gapP bs s j → s ≤ j
  | [_], _, _, h => h.elim
  | b :: c :: bs, s, j, h => by
    rcases h with rfl | h
    · omega
    · have := gapP_ge h; omega

/-- All blocks but the last one have letters. -/
def Full : List (List UInt8) → Prop
  | [] => True
  | [_] => True
  | b :: c :: bs => b ≠ [] ∧ Full (c :: bs)

theorem acc_tail {all : List UInt8} {gap : Nat → Prop} : ∀ {c : List UInt8} {bs : List (List UInt8)} {s : Nat}, Full (c :: bs) → gap s → (∀ j, s < j → (gap j ↔ gapP (c :: bs) s j)) → all.drop s = (c :: bs).flatten → s ≤ all.length → ∀ {w : List UInt8}, acc all gap s w ↔ tailM (c :: bs) w
  | c, [], s, hf, hs, hg, hd, hle, w => by
    simp only [List.flatten_cons, List.flatten_nil, List.append_nil] at hd
    have hl : all.length = s + c.length := by have := congrArg List.length hd; simp at this; omega
    cases c with
    | nil =>
      simp at hl
      simp only [tailM]
      constructor
      · intro _; exact ⟨w, by simp⟩
      · intro _; subst hl; exact acc_all hs w
    | cons c b =>
      rw [acc_some (c := c) (b := b) hs (fun j h1 h2 h3 => (hg j h1).1 h3) (by rw [hd]; simp)]
      simp only [tailM]
      have he : ¬ gap all.length := fun h => (hg _ (by rw [hl]; simp)).1 h
      rw [← hl]
      constructor
      · rintro ⟨x, y, rfl, hy⟩
        rw [acc_end he] at hy; subst hy
        exact ⟨x, by simp⟩
      · rintro ⟨x, rfl⟩
        exact ⟨x, [], by simp, (acc_end he).2 rfl⟩
  | c, d :: bs, s, hf, hs, hg, hd, hle, w => by
    obtain ⟨hc, hf2⟩ := hf
    have hl : c.length ≤ (all.drop s).length := by rw [hd]; simp
    have hl2 : s + c.length ≤ all.length := by simp at hl; omega
    have hd2 : all.drop (s + c.length) = (d :: bs).flatten := by
      rw [← List.drop_drop, hd, List.flatten_cons, List.drop_left]
    have hcp := List.length_pos_iff.2 hc
    have ih := fun w => acc_tail (all := all) (gap := gap) (c := d) (bs := bs) (s := s + c.length) hf2 ((hg _ (by omega)).2 (.inl rfl)) (fun j hj => by
      rw [hg j (by omega)]
      constructor
      · rintro (rfl | h)
        · omega
        · exact h
      · exact .inr) hd2 hl2 (w := w)
    cases c with
    | nil => exact absurd rfl hc
    | cons c b =>
      rw [acc_some (c := c) (b := b) hs (fun j h1 h2 h3 => by
        rcases (hg j h1).1 h3 with rfl | h
        · omega
        · have := gapP_ge h; omega) (by rw [hd]; simp)]
      simp only [tailM]
      constructor
      · rintro ⟨x, y, rfl, hy⟩; exact ⟨x, y, rfl, (ih y).1 hy⟩
      · rintro ⟨x, y, rfl, hy⟩; exact ⟨x, y, rfl, (ih y).2 hy⟩

/-- Runs over places tell what matches. -/
theorem acc_match {gap : Nat → Prop} {b : List UInt8} {bs : List (List UInt8)} (hf : ∀ c cs, bs = c :: cs → Full (c :: cs)) (hg : ∀ j, gap j ↔ gapP (b :: bs) 0 j) {w : List UInt8} : acc (b :: bs).flatten gap 0 w ↔ Mt (b :: bs) w := by
  have hblk := acc_block (all := (b :: bs).flatten) (gap := gap) (b := b) (i := 0) (w := w) (fun j _ h2 h3 => by
    rw [hg] at h3
    cases bs with
    | nil => exact h3
    | cons c bs =>
      rcases h3 with rfl | h
      · omega
      · have := gapP_ge h; omega) (by simp)
  rw [hblk, Nat.zero_add]
  cases bs with
  | nil =>
    have e : ([b] : List (List UInt8)).flatten.length = b.length := by simp
    have he : ¬ gap ([b] : List (List UInt8)).flatten.length := fun h => (hg _).1 h
    simp only [Mt]
    constructor
    · rintro ⟨y, rfl, hy⟩
      rw [← e, acc_end he] at hy
      simp [hy]
    · rintro rfl
      exact ⟨[], by simp, by rw [← e]; exact (acc_end he).2 rfl⟩
  | cons c bs =>
    simp only [Mt]
    have ht := fun y => acc_tail (all := (b :: c :: bs).flatten) (gap := gap) (c := c) (bs := bs) (s := b.length) (hf c bs rfl) ((hg _).2 (.inl (by omega))) (fun j hj => by
      rw [hg]
      constructor
      · rintro (h | h)
        · omega
        · rw [Nat.zero_add] at h; exact h
      · intro h; exact .inr (by rw [Nat.zero_add]; exact h)) (by simp) (by simp) (w := y)
    constructor
    · rintro ⟨y, rfl, hy⟩; exact ⟨y, rfl, (ht y).1 hy⟩
    · rintro ⟨y, rfl, hy⟩; exact ⟨y, rfl, (ht y).2 hy⟩
end Go.Co
end

section
set_option linter.unusedVariables false
namespace Go.Co
open Go Go.Ev Go.EvW
def tot (bs : List (List UInt8)) : Nat := (bs.map List.length).sum
theorem tot_snoc (bs : List (List UInt8)) (b : List UInt8) : tot (bs ++ [b]) = tot bs + b.length := by simp [tot]
theorem take_gets {xs : List (List UInt8)} {i : Nat} (h : i < xs.length) : xs.take (i + 1) = xs.take i ++ [gets xs (i : Nat)] := by
  rw [List.take_succ_eq_append_getElem h]; simp [gets, h]
theorem gets_mem' {xs : List (List UInt8)} {i : Nat} (h : i < xs.length) : gets xs (i : Nat) ∈ xs := by simp [gets, h]
def BlkOk (L : Int) (bs : List (List UInt8)) (i : Nat) : Prop := WordOk (gets bs (i : Nat)) L ∧ ¬ (0 < i ∧ i < bs.length - 1 ∧ gets bs (i : Nat) = [])
instance (L : Int) (bs : List (List UInt8)) (i : Nat) : Decidable (BlkOk L bs i) := by unfold BlkOk; infer_instance
/-- What a pattern is worth. -/
def validP (L : Int) (bs : List (List UInt8)) : Int :=
  if L < 1 ∨ 6 < L then 1
  else if 8 < bs.length ∨ 64 < tot bs then 3
  else if bs.length = 0 then 22
  else if ∀ i, i < bs.length → BlkOk L bs i then 0 else 22
theorem validP_bad {L : Int} {bs : List (List UInt8)} {i : Nat} (h1 : ¬ (L < 1 ∨ 6 < L)) (h2 : ¬ (8 < bs.length ∨ 64 < tot bs)) (h3 : ¬ bs.length = 0) (hi : i < bs.length) (hb : ¬ BlkOk L bs i) : validP L bs = 22 := by
  unfold validP
  rw [if_neg h1, if_neg h2, if_neg h3, if_neg fun h => hb (h i hi)]
theorem tot_le {M : Nat} : ∀ {bs : List (List UInt8)}, (∀ b, b ∈ bs → b.length ≤ M) → tot bs ≤ bs.length * M
  | [], _ => by simp [tot]
  | b :: bs, h => by
    have ih := tot_le (bs := bs) fun c hc => h c (List.mem_cons_of_mem _ hc)
    have h1 := h b (List.mem_cons_self ..)
    simp only [tot, List.map_cons, List.sum_cons, List.length_cons] at ih ⊢
    rw [Nat.add_mul, Nat.one_mul]
    omega
theorem tot_take {M : Nat} {bs : List (List UInt8)} (h : ∀ b, b ∈ bs → b.length ≤ M) (i : Nat) : tot (bs.take i) ≤ bs.length * M := by
  have h1 := tot_le (bs := bs.take i) fun c hc => h c (List.mem_of_mem_take hc)
  have h2 : (bs.take i).length ≤ bs.length := by rw [List.length_take]; omega
  exact Nat.le_trans h1 (Nat.mul_le_mul_right _ h2)
end Go.Co
end

section
set_option linter.unusedVariables false
namespace Go.Co
open Go Go.Ev Go.EvW
/-- The last gap that is reached. -/
def lastP (gap : List Bool) (xs : List UInt8) : Nat → Nat
  | 0 => 0
  | i + 1 => if getu xs (i : Nat) = 1 ∧ getb gap (i : Nat) = true then i else lastP gap xs i
theorem lastP_le (gap : List Bool) (xs : List UInt8) : ∀ i, lastP gap xs i ≤ i
  | 0 => Nat.le_refl _
  | i + 1 => by simp only [lastP]; split; omega; have := lastP_le gap xs i; omega
def zeroP (xs : List UInt8) (j : Nat) : List UInt8 := List.replicate j 0 ++ xs.drop j
theorem zeroP_length {xs : List UInt8} {j : Nat} (h : j ≤ xs.length) : (zeroP xs j).length = xs.length := by simp [zeroP]; omega
theorem zeroP_set {xs : List UInt8} {j : Nat} (h : j < xs.length) : (zeroP xs j).set j 0 = zeroP xs (j + 1) := by
  unfold zeroP
  rw [List.set_append_right _ _ (by simp), List.length_replicate, Nat.sub_self, List.drop_eq_getElem_cons h, List.set_cons_zero, List.replicate_succ', List.append_assoc]
  rfl
end Go.Co
end

section
set_option linter.unusedVariables false
namespace Go.Co
open Go Go.Ev Go.EvW
theorem tot_flat : ∀ bs : List (List UInt8), bs.flatten.length = tot bs
  | [] => rfl
  | b :: bs => by simp [tot]
theorem tot_cons (b : List UInt8) (bs : List (List UInt8)) : tot (b :: bs) = b.length + tot bs := by simp [tot]
/-- The gaps as they are marked, block by block. -/
def gapN (bs : List (List UInt8)) : Nat → List Bool
  | 0 => List.replicate (tot bs + 1) false
  | i + 1 => (gapN bs i).set (tot (bs.take (i + 1))) true
theorem gapN_length (bs : List (List UInt8)) : ∀ i, (gapN bs i).length = tot bs + 1
  | 0 => by simp [gapN]
  | i + 1 => by simp [gapN, gapN_length bs i]
theorem tot_take_le (bs : List (List UInt8)) (i : Nat) : tot (bs.take i) ≤ tot bs := by
  have h : tot bs = tot (bs.take i) + tot (bs.drop i) := by
    conv => lhs; rw [← List.take_append_drop i bs]
    simp only [tot, List.map_append, List.sum_append]
  omega
theorem gapN_get (bs : List (List UInt8)) : ∀ (i j : Nat), getb (gapN bs i) (j : Nat) = true ↔ ∃ k, k < i ∧ j = tot (bs.take (k + 1))
  | 0, j => by
    simp only [gapN, getb, Int.toNat_natCast, List.getD_eq_getElem?_getD]
    constructor
    · intro h
      rw [List.getElem?_replicate] at h
      split at h <;> simp at h
    · rintro ⟨k, hk, _⟩; omega
  | i + 1, j => by
    have ih := gapN_get bs i j
    have hl := gapN_length bs i
    have ht := tot_take_le bs (i + 1)
    simp only [getb, Int.toNat_natCast, List.getD_eq_getElem?_getD] at ih
    simp only [gapN, getb, Int.toNat_natCast, List.getD_eq_getElem?_getD, List.getElem?_set]
    by_cases e : tot (bs.take (i + 1)) = j
    · rw [if_pos e, if_pos (by omega)]
      simp only [Option.getD_some, true_iff]
      exact ⟨i, by omega, e.symm⟩
    · rw [if_neg e, ih]
      constructor
      · rintro ⟨k, hk, h⟩; exact ⟨k, by omega, h⟩
      · rintro ⟨k, hk, h⟩
        by_cases e2 : k = i
        · subst e2; exact absurd h.symm e
        · exact ⟨k, by omega, h⟩
theorem gapP_iff : ∀ (bs : List (List UInt8)) (s j : Nat), gapP bs s j ↔ ∃ k, k + 1 < bs.length ∧ j = s + tot (bs.take (k + 1))
  | [], s, j => by simp [gapP]
  | [b], s, j => by simp [gapP]
  | b :: c :: bs, s, j => by
    have ih := gapP_iff (c :: bs) (s + b.length) j
    simp only [gapP, ih]
    constructor
    · rintro (h | ⟨k, h1, h2⟩)
      · exact ⟨0, by simp, by simp [tot]; omega⟩
      · refine ⟨k + 1, by simp at h1 ⊢; omega, ?_⟩
        rw [List.take_succ_cons, tot_cons]; omega
    · rintro ⟨k, h1, h2⟩
      cases k with
      | zero => left; simp [tot] at h2; omega
      | succ k =>
        right
        refine ⟨k, by simp at h1 ⊢; omega, ?_⟩
        rw [List.take_succ_cons, tot_cons] at h2; omega
theorem gap_iff (bs : List (List UInt8)) (j : Nat) : getb (gapN bs (bs.length - 1)) (j : Nat) = true ↔ gapP bs 0 j := by
  rw [gapN_get, gapP_iff]
  constructor
  · rintro ⟨k, h1, h2⟩; exact ⟨k, by omega, by omega⟩
  · rintro ⟨k, h1, h2⟩; exact ⟨k, by omega, by omega⟩

/-- The places after a letter, as they are marked one after the other. -/
def stepN (al : List UInt8) (gap : List Bool) (xs : List UInt8) (a : Int) : Nat → List UInt8
  | 0 => List.replicate gap.length 0
  | i + 1 => if getu xs (i : Nat) = 0 then stepN al gap xs a i else
    let y := if getb gap (i : Nat) = true then (stepN al gap xs a i).set i 1 else stepN al gap xs a i
    if i < al.length ∧ (((getu al (i : Nat)).toNat : Nat) : Int) - 97 = a then y.set (i + 1) 1 else y
theorem stepN_length (al : List UInt8) (gap : List Bool) (xs : List UInt8) (a : Int) : ∀ i, (stepN al gap xs a i).length = gap.length
  | 0 => by simp [stepN]
  | i + 1 => by
    have ih := stepN_length al gap xs a i
    simp only [stepN]
    split
    · exact ih
    · split <;> split <;> simp [ih]
theorem getu_nat (xs : List UInt8) (j : Nat) : getu xs (j : Nat) = xs.getD j 0 := by simp [getu]
theorem getu_set {xs : List UInt8} {i j : Nat} {c : UInt8} (h : i < xs.length) : getu (xs.set i c) (j : Nat) = if i = j then c else getu xs (j : Nat) := by
  simp only [getu_nat, List.getD_eq_getElem?_getD, List.getElem?_set]
  by_cases e : i = j
  · rw [if_pos e, if_pos e, if_pos (by omega)]; rfl
  · rw [if_neg e, if_neg e]
theorem getu_rep (n j : Nat) : getu (List.replicate n (0 : UInt8)) (j : Nat) = 0 := by
  simp only [getu_nat, List.getD_eq_getElem?_getD, List.getElem?_replicate]
  split <;> rfl
def Bin (xs : List UInt8) : Prop := ∀ j : Nat, getu xs (j : Nat) = 0 ∨ getu xs (j : Nat) = 1
theorem Bin.set {xs : List UInt8} {i : Nat} {c : UInt8} (h : Bin xs) (hc : c = 0 ∨ c = 1) : Bin (xs.set i c) := by
  intro j
  by_cases hi : i < xs.length
  · rw [getu_set hi]
    by_cases e : i = j
    · rw [if_pos e]; exact hc
    · rw [if_neg e]; exact h j
  · rw [List.set_eq_of_length_le (by omega)]; exact h j
theorem Bin.rep (n : Nat) : Bin (List.replicate n 0) := fun j => .inl (getu_rep n j)
theorem stepN_bin (al : List UInt8) (gap : List Bool) (xs : List UInt8) (a : Int) : ∀ i, Bin (stepN al gap xs a i)
  | 0 => Bin.rep _
  | i + 1 => by
    have ih := stepN_bin al gap xs a i
    simp only [stepN]
    split
    · exact ih
    · split <;> split
      · exact (ih.set (.inr rfl)).set (.inr rfl)
      · exact ih.set (.inr rfl)
      · exact ih.set (.inr rfl)
      · exact ih
theorem one_ne : (1 : UInt8) ≠ 0 := by decide
theorem stepN_get {al : List UInt8} {gap : List Bool} {xs : List UInt8} {a : Int} (hl : gap.length = al.length + 1) : ∀ (i j : Nat), i ≤ gap.length → (getu (stepN al gap xs a i) (j : Nat) = 1 ↔
    (j < i ∧ getu xs (j : Nat) ≠ 0 ∧ getb gap (j : Nat) = true) ∨ ∃ p, j = p + 1 ∧ p < i ∧ getu xs (p : Nat) ≠ 0 ∧ p < al.length ∧ (((getu al (p : Nat)).toNat : Nat) : Int) - 97 = a)
  | 0, j, _ => by
    simp only [stepN]
    rw [getu_rep]
    constructor
    · intro h; exact absurd h.symm one_ne
    · rintro (⟨h, _⟩ | ⟨p, _, h, _⟩) <;> omega
  | i + 1, j, hi => by
    have ih := stepN_get (al := al) (gap := gap) (xs := xs) (a := a) hl i j (by omega)
    have hlen := stepN_length al gap xs a i
    simp only [stepN]
    by_cases h0 : getu xs (i : Nat) = 0
    · rw [if_pos h0, ih]
      constructor
      · rintro (⟨h1, h2⟩ | ⟨p, h1, h2, h3⟩)
        · exact .inl ⟨by omega, h2⟩
        · exact .inr ⟨p, h1, by omega, h3⟩
      · rintro (⟨h1, h2, h3⟩ | ⟨p, h1, h2, h3, h4⟩)
        · by_cases e : j = i
          · subst e; exact absurd h0 h2
          · exact .inl ⟨by omega, h2, h3⟩
        · by_cases e : p = i
          · subst e; exact absurd h0 h3
          · exact .inr ⟨p, h1, by omega, h3, h4⟩
    · rw [if_neg h0]
      have hy : (getu (if getb gap (i : Nat) = true then (stepN al gap xs a i).set i 1 else stepN al gap xs a i) (j : Nat) = 1) ↔ (getu (stepN al gap xs a i) (j : Nat) = 1 ∨ (j = i ∧ getb gap (i : Nat) = true)) := by
        by_cases hg : getb gap (i : Nat) = true
        · rw [if_pos hg, getu_set (by omega)]
          by_cases e : i = j
          · rw [if_pos e]; simp [e]; exact .inr (by rw [← e]; exact hg)
          · rw [if_neg e]
            constructor
            · exact .inl
            · rintro (h | ⟨h, _⟩)
              · exact h
              · exact absurd h.symm e
        · rw [if_neg hg]
          constructor
          · exact .inl
          · rintro (h | ⟨_, h⟩)
            · exact h
            · exact absurd h hg
      have hyl : (if getb gap (i : Nat) = true then (stepN al gap xs a i).set i 1 else stepN al gap xs a i).length = gap.length := by split <;> simp [hlen]
      by_cases hc : i < al.length ∧ (((getu al (i : Nat)).toNat : Nat) : Int) - 97 = a
      · rw [if_pos hc, getu_set (by omega)]
        by_cases e : i + 1 = j
        · rw [if_pos e]
          simp only [true_iff]
          exact .inr ⟨i, e.symm, by omega, h0, hc⟩
        · rw [if_neg e, hy, ih]
          constructor
          · rintro ((⟨h1, h2⟩ | ⟨p, h1, h2, h3⟩) | ⟨h1, h2⟩)
            · exact .inl ⟨by omega, h2⟩
            · exact .inr ⟨p, h1, by omega, h3⟩
            · subst h1; exact .inl ⟨by omega, h0, h2⟩
          · rintro (⟨h1, h2, h3⟩ | ⟨p, h1, h2, h3⟩)
            · by_cases e2 : j = i
              · subst e2; exact .inr ⟨rfl, h3⟩
              · exact .inl (.inl ⟨by omega, h2, h3⟩)
            · by_cases e2 : p = i
              · subst e2; omega
              · exact .inl (.inr ⟨p, h1, by omega, h3⟩)
      · rw [if_neg hc, hy, ih]
        constructor
        · rintro ((⟨h1, h2⟩ | ⟨p, h1, h2, h3⟩) | ⟨h1, h2⟩)
          · exact .inl ⟨by omega, h2⟩
          · exact .inr ⟨p, h1, by omega, h3⟩
          · subst h1; exact .inl ⟨by omega, h0, h2⟩
        · rintro (⟨h1, h2, h3⟩ | ⟨p, h1, h2, h3, h4⟩)
          · by_cases e2 : j = i
            · subst e2; exact .inr ⟨rfl, h3⟩
            · exact .inl (.inl ⟨by omega, h2, h3⟩)
          · by_cases e2 : p = i
            · subst e2; exact absurd h4 hc
            · exact .inl (.inr ⟨p, h1, by omega, h3, h4⟩)

theorem zeroP_get {xs : List UInt8} {k : Nat} (hk : k ≤ xs.length) (j : Nat) : getu (zeroP xs k) (j : Nat) = if j < k then 0 else getu xs (j : Nat) := by
  simp only [getu_nat, List.getD_eq_getElem?_getD, zeroP, List.getElem?_append, List.length_replicate, List.getElem?_replicate, List.getElem?_drop]
  by_cases h : j < k
  · simp [h]
  · simp only [h, if_false]
    rw [show k + (j - k) = j by omega]
theorem lastP_gap (gap : List Bool) (xs : List UInt8) : ∀ i, lastP gap xs i = 0 ∨ (lastP gap xs i < i ∧ getu xs ((lastP gap xs i : Nat) : Int) = 1 ∧ getb gap ((lastP gap xs i : Nat) : Int) = true)
  | 0 => .inl rfl
  | i + 1 => by
    simp only [lastP]
    split
    · rename_i h; exact .inr ⟨by omega, h.1, h.2⟩
    · rcases lastP_gap gap xs i with h | ⟨h1, h2⟩
      · exact .inl h
      · exact .inr ⟨by omega, h2⟩
/-- Cleaned or not: the same words are accepted. -/
theorem clean_acc {al : List UInt8} {gap : List Bool} {xs : List UInt8} (hl : gap.length = al.length + 1) (hx : xs.length = gap.length) (w : List UInt8) :
    (∃ j : Nat, getu (zeroP xs (lastP gap xs xs.length)) (j : Nat) = 1 ∧ acc al (fun j => getb gap (j : Nat) = true) j w) ↔ ∃ j : Nat, getu xs (j : Nat) = 1 ∧ acc al (fun j => getb gap (j : Nat) = true) j w := by
  have hle := lastP_le gap xs xs.length
  constructor
  · rintro ⟨j, h1, h2⟩
    rw [zeroP_get hle] at h1
    split at h1
    · exact absurd h1.symm one_ne
    · exact ⟨j, h1, h2⟩
  · rintro ⟨j, h1, h2⟩
    rcases lastP_gap gap xs xs.length with h | ⟨h3, h4, h5⟩
    · exact ⟨j, by rw [zeroP_get hle, if_neg (by omega)]; exact h1, h2⟩
    · by_cases hj : j < lastP gap xs xs.length
      · exact ⟨lastP gap xs xs.length, by rw [zeroP_get hle, if_neg (by omega)]; exact h4, acc_gap (gap := fun j => getb gap (j : Nat) = true) h5 (by omega) (by omega) h2⟩
      · exact ⟨j, by rw [zeroP_get hle, if_neg hj]; exact h1, h2⟩

/-- The set after a letter. -/
def nextP (al : List UInt8) (gap : List Bool) (xs : List UInt8) (a : Int) : List UInt8 :=
  zeroP (stepN al gap xs a gap.length) (lastP gap (stepN al gap xs a gap.length) gap.length)
theorem nextP_length (al : List UInt8) (gap : List Bool) (xs : List UInt8) (a : Int) : (nextP al gap xs a).length = gap.length := by
  unfold nextP
  have h := stepN_length al gap xs a gap.length
  rw [zeroP_length (by have := lastP_le gap (stepN al gap xs a gap.length) gap.length; omega), h]
theorem nextP_bin (al : List UInt8) (gap : List Bool) (xs : List UInt8) (a : Int) : Bin (nextP al gap xs a) := by
  intro j
  have h := stepN_length al gap xs a gap.length
  unfold nextP
  rw [zeroP_get (by have := lastP_le gap (stepN al gap xs a gap.length) gap.length; omega)]
  split
  · exact .inl rfl
  · exact stepN_bin al gap xs a gap.length j
theorem nextP_acc {al : List UInt8} {gap : List Bool} {xs : List UInt8} (hl : gap.length = al.length + 1) (hx : xs.length = gap.length) (hb : Bin xs) (c : UInt8) (w : List UInt8) :
    (∃ j : Nat, getu (nextP al gap xs (((c.toNat : Nat) : Int) - 97)) (j : Nat) = 1 ∧ acc al (fun j => getb gap (j : Nat) = true) j w) ↔ ∃ j : Nat, getu xs (j : Nat) = 1 ∧ acc al (fun j => getb gap (j : Nat) = true) j (c :: w) := by
  have hsl := stepN_length al gap xs (((c.toNat : Nat) : Int) - 97) gap.length
  have h1 := clean_acc (al := al) (gap := gap) (xs := stepN al gap xs (((c.toNat : Nat) : Int) - 97) gap.length) hl hsl w
  rw [hsl] at h1
  unfold nextP
  rw [h1]
  have hs := fun j => stepN_get (al := al) (gap := gap) (xs := xs) (a := ((c.toNat : Nat) : Int) - 97) hl gap.length j (Nat.le_refl _)
  have hne : ∀ j : Nat, getu xs (j : Nat) ≠ 0 → getu xs (j : Nat) = 1 := fun j h => (hb j).resolve_left h
  have hout : ∀ j : Nat, getu xs (j : Nat) ≠ 0 → j < gap.length := fun j h => by
    refine Classical.byContradiction fun hn => h ?_
    rw [getu_nat, List.getD_eq_getElem?_getD, List.getElem?_eq_none (by omega)]; rfl
  constructor
  · rintro ⟨j, h2, h3⟩
    rcases (hs j).1 h2 with ⟨h4, h5, h6⟩ | ⟨p, rfl, h5, h6, h7, h8⟩
    · exact ⟨j, hne j h5, .inl ⟨h6, h3⟩⟩
    · refine ⟨p, hne p h6, .inr ⟨?_, h3⟩⟩
      rw [List.getElem?_eq_getElem h7, Option.some.injEq]
      have e : getu al (p : Nat) = al[p] := by rw [getu_nat, List.getD_eq_getElem?_getD, List.getElem?_eq_getElem h7]; rfl
      rw [e] at h8
      exact UInt8.toNat_inj.1 (by omega)
  · rintro ⟨j, h2, h3⟩
    have h0 : getu xs (j : Nat) ≠ 0 := by rw [h2]; exact one_ne
    rcases h3 with ⟨h3, h4⟩ | ⟨h3, h4⟩
    · exact ⟨j, (hs j).2 (.inl ⟨hout j h0, h0, h3⟩), h4⟩
    · have h7 := (List.getElem?_eq_some_iff.1 h3).1
      refine ⟨j + 1, (hs (j + 1)).2 (.inr ⟨j, rfl, hout j h0, h0, h7, ?_⟩), h4⟩
      rw [List.getElem?_eq_getElem h7, Option.some.injEq] at h3
      rw [getu_nat, List.getD_eq_getElem?_getD, List.getElem?_eq_getElem h7]
      simp [h3]

/-- The set after a word. -/
def runP (al : List UInt8) (gap : List Bool) (xs : List UInt8) (w : List UInt8) : List UInt8 := w.foldl (fun x c => nextP al gap x (((c.toNat : Nat) : Int) - 97)) xs
theorem runP_snoc (al : List UInt8) (gap : List Bool) (xs w : List UInt8) (c : UInt8) : runP al gap xs (w ++ [c]) = nextP al gap (runP al gap xs w) (((c.toNat : Nat) : Int) - 97) := by simp [runP]
theorem runP_length {al : List UInt8} {gap : List Bool} {xs : List UInt8} (hx : xs.length = gap.length) : ∀ w, (runP al gap xs w).length = gap.length := by
  intro w
  induction w generalizing xs with
  | nil => exact hx
  | cons c w ih => exact ih (nextP_length ..)
theorem runP_acc {al : List UInt8} {gap : List Bool} (hl : gap.length = al.length + 1) : ∀ (w : List UInt8) {xs : List UInt8}, xs.length = gap.length → Bin xs →
    (getu (runP al gap xs w) (al.length : Nat) = 1 ↔ ∃ j : Nat, getu xs (j : Nat) = 1 ∧ acc al (fun j => getb gap (j : Nat) = true) j w)
  | [], xs, hx, hb => by
    simp only [runP, List.foldl_nil, acc]
    constructor
    · intro h; exact ⟨_, h, rfl⟩
    · rintro ⟨j, h, rfl⟩; exact h
  | c :: w, xs, hx, hb => by
    have ih := runP_acc hl w (nextP_length al gap xs (((c.toNat : Nat) : Int) - 97)) (nextP_bin al gap xs (((c.toNat : Nat) : Int) - 97))
    rw [← nextP_acc hl hx hb, ← ih]
    rfl
def startP (n : Nat) : List UInt8 := (List.replicate n 0).set 0 1
theorem startP_get {n : Nat} (h : 0 < n) (j : Nat) : getu (startP n) (j : Nat) = 1 ↔ j = 0 := by
  unfold startP
  rw [getu_set (by simpa using h), getu_rep]
  by_cases e : 0 = j
  · simp [e]
  · rw [if_neg e]
    constructor
    · intro h; exact absurd h.symm one_ne
    · intro h; omega
/-- A run tells what matches. -/
theorem run_match {bs : List (List UInt8)} (hne : bs ≠ []) (hf : ∀ b c cs, bs = b :: c :: cs → Full (c :: cs)) (w : List UInt8) :
    getu (runP bs.flatten (gapN bs (bs.length - 1)) (startP (tot bs + 1)) w) (bs.flatten.length : Nat) = 1 ↔ Mt bs w := by
  have hl := gapN_length bs (bs.length - 1)
  rw [runP_acc (by rw [hl, tot_flat]) w (by rw [hl]; simp [startP]) (by unfold startP; exact (Bin.rep _).set (.inr rfl))]
  cases bs with
  | nil => exact absurd rfl hne
  | cons b bs =>
    have h := acc_match (gap := fun j => getb (gapN (b :: bs) ((b :: bs).length - 1)) (j : Nat) = true) (b := b) (bs := bs) (fun c cs e => hf b c cs (by rw [e])) (fun j => gap_iff (b :: bs) j) (w := w)
    rw [← h]
    constructor
    · rintro ⟨j, h1, h2⟩
      rw [startP_get (by omega)] at h1
      subst h1; exact h2
    · intro h2; exact ⟨0, (startP_get (by omega) 0).2 rfl, h2⟩
theorem full_of {L : Int} : ∀ {bs : List (List UInt8)}, (∀ i, i + 1 < bs.length → gets bs (i : Nat) ≠ []) → Full bs
  | [], _ => trivial
  | [b], _ => trivial
  | b :: c :: bs, h => ⟨by have := h 0 (by simp); simpa [gets] using this, full_of (L := L) fun i hi => by have := h (i + 1) (by simp at hi ⊢; omega); simpa [gets] using this⟩
theorem full_ok {L : Int} {bs : List (List UInt8)} (h : ∀ i, i < bs.length → BlkOk L bs i) (b c : List UInt8) (cs : List (List UInt8)) (e : bs = b :: c :: cs) : Full (c :: cs) := by
  refine full_of (L := L) fun i hi => ?_
  subst e
  intro h0
  refine (h (i + 1) (by simp at hi ⊢; omega)).2 ⟨by omega, by simp at hi ⊢; omega, ?_⟩
  simpa [gets] using h0
noncomputable def mtB (bs : List (List UInt8)) (w : List UInt8) : Bool := @decide (Mt bs w) (Classical.propDecidable _)
theorem mtB_true {bs : List (List UInt8)} {w : List UInt8} : mtB bs w = true ↔ Mt bs w := by unfold mtB; simp
/-- Whether a word matches a pattern. -/
noncomputable def matchP (bs : List (List UInt8)) (w : List UInt8) : Bool := decide (validP 6 bs = 0) && (decide (WordOk w 6) && mtB bs w)
theorem validP_zero {L : Int} {bs : List (List UInt8)} (h : validP L bs = 0) : 1 ≤ L ∧ L ≤ 6 ∧ bs.length ≤ 8 ∧ tot bs ≤ 64 ∧ bs ≠ [] ∧ ∀ i, i < bs.length → BlkOk L bs i := by
  unfold validP at h
  split at h
  · omega
  · split at h
    · omega
    · split at h
      · omega
      · split at h
        · rename_i h1 h2 h3 h4
          exact ⟨by omega, by omega, by omega, by omega, fun e => h3 (by rw [e]; rfl), h4⟩
        · omega
end Go.Co
end

section
set_option linter.unusedVariables false
namespace Go.Co
open Go Go.Ev Go.EvW
/-- What the first bad pattern is worth. -/
def firstBad (L : Int) : List (List (List UInt8)) → Int
  | [] => 0
  | p :: ps => if validP L p = 0 then firstBad L ps else validP L p
theorem firstBad_zero {L : Int} : ∀ {ps : List (List (List UInt8))}, (∀ j, j < ps.length → validP L (getp ps (j : Nat)) = 0) → firstBad L ps = 0
  | [], _ => rfl
  | p :: ps, h => by
    have h0 := h 0 (by simp)
    simp only [getp, Int.toNat_natCast, List.getD_cons_zero] at h0
    simp only [firstBad]
    rw [if_pos h0]
    exact firstBad_zero fun j hj => by have := h (j + 1) (by simpa using hj); simpa [getp] using this
theorem firstBad_at {L : Int} : ∀ {ps : List (List (List UInt8))} {i : Nat}, i < ps.length → (∀ j, j < i → validP L (getp ps (j : Nat)) = 0) → validP L (getp ps (i : Nat)) ≠ 0 → firstBad L ps = validP L (getp ps (i : Nat))
  | p :: ps, 0, _, _, hb => by
    simp only [getp, Int.toNat_natCast, List.getD_cons_zero] at hb ⊢
    simp only [firstBad]
    rw [if_neg hb]
  | p :: ps, i + 1, hi, h, hb => by
    have h0 := h 0 (by omega)
    simp only [getp, Int.toNat_natCast, List.getD_cons_zero] at h0
    have ih := firstBad_at (L := L) (ps := ps) (i := i) (by simpa using hi) (fun j hj => by have := h (j + 1) (by omega); simpa [getp] using this) (by simpa [getp] using hb)
    simp only [firstBad]
    rw [if_pos h0, ih]
    simp [getp]
/-- A reference of a choice. -/
def RefOk (chs : List (Int × Int × Int)) (i : Nat) (t : Int) : Prop := 0 ≤ t ∧ t ≤ 1 + (i : Int) ∧ (1 < t → (getc chs (i : Nat)).1 < (getc chs (t - 2)).1)
instance (chs : List (Int × Int × Int)) (i : Nat) (t : Int) : Decidable (RefOk chs i t) := by unfold RefOk; infer_instance
def ChOk (np : Nat) (chs : List (Int × Int × Int)) (i : Nat) : Prop := 0 ≤ (getc chs (i : Nat)).1 ∧ (getc chs (i : Nat)).1 < (np : Int) ∧ RefOk chs i (getc chs (i : Nat)).2.1 ∧ RefOk chs i (getc chs (i : Nat)).2.2
instance (np : Nat) (chs : List (Int × Int × Int)) (i : Nat) : Decidable (ChOk np chs i) := by unfold ChOk; infer_instance
/-- What a diagram is worth. -/
def validG (L : Int) (pats : List (List (List UInt8))) (chs : List (Int × Int × Int)) (root : Int) : Int :=
  if L < 1 ∨ 6 < L then 1
  else if 300 < pats.length ∨ 20000 < chs.length then 3
  else if firstBad L pats ≠ 0 then firstBad L pats
  else if (∀ i, i < chs.length → ChOk pats.length chs i) ∧ 0 ≤ root ∧ root ≤ 1 + (chs.length : Int) then 0 else 22
theorem validG_pat {L : Int} {pats : List (List (List UInt8))} {chs : List (Int × Int × Int)} {root : Int} {i : Nat} (h1 : ¬ (L < 1 ∨ 6 < L)) (h2 : ¬ (300 < pats.length ∨ 20000 < chs.length)) (hi : i < pats.length) (h : ∀ j, j < i → validP L (getp pats (j : Nat)) = 0) (hb : validP L (getp pats (i : Nat)) ≠ 0) :
    validG L pats chs root = validP L (getp pats (i : Nat)) := by
  unfold validG
  rw [if_neg h1, if_neg h2, firstBad_at hi h hb, if_pos hb]
theorem validG_last {L : Int} {pats : List (List (List UInt8))} {chs : List (Int × Int × Int)} {root : Int} (h1 : ¬ (L < 1 ∨ 6 < L)) (h2 : ¬ (300 < pats.length ∨ 20000 < chs.length)) (h : ∀ j, j < pats.length → validP L (getp pats (j : Nat)) = 0) :
    validG L pats chs root = if (∀ i, i < chs.length → ChOk pats.length chs i) ∧ 0 ≤ root ∧ root ≤ 1 + (chs.length : Int) then 0 else 22 := by
  unfold validG
  rw [if_neg h1, if_neg h2, firstBad_zero h, if_neg (by decide)]
theorem validG_ch {L : Int} {pats : List (List (List UInt8))} {chs : List (Int × Int × Int)} {root : Int} {i : Nat} (h1 : ¬ (L < 1 ∨ 6 < L)) (h2 : ¬ (300 < pats.length ∨ 20000 < chs.length)) (h : ∀ j, j < pats.length → validP L (getp pats (j : Nat)) = 0) (hi : i < chs.length) (hb : ¬ ChOk pats.length chs i) :
    validG L pats chs root = 22 := by
  rw [validG_last h1 h2 h, if_neg fun g => hb (g.1 i hi)]
theorem validG_zero {L : Int} {pats : List (List (List UInt8))} {chs : List (Int × Int × Int)} {root : Int} (h : validG L pats chs root = 0) : 1 ≤ L ∧ L ≤ 6 ∧ pats.length ≤ 300 ∧ chs.length ≤ 20000 ∧ (∀ i, i < chs.length → ChOk pats.length chs i) ∧ 0 ≤ root ∧ root ≤ 1 + (chs.length : Int) := by
  unfold validG at h
  split at h
  · omega
  · split at h
    · omega
    · split at h
      · rename_i h3; exact absurd h h3
      · split at h
        · rename_i h1 h2 h3 h4; exact ⟨by omega, by omega, by omega, by omega, h4.1, h4.2.1, h4.2.2⟩
        · omega
/-- Going through a diagram. -/
inductive Dec (chs : List (Int × Int × Int)) (m : Int → Bool) : Int → Bool → Prop
  | stop {t : Int} (h : t ≤ 1) : Dec chs m t (decide (t = 1))
  | go {t : Int} {b : Bool} (h : 1 < t) (k : Dec chs m (if m (getc chs (t - 2)).1 = true then (getc chs (t - 2)).2.1 else (getc chs (t - 2)).2.2) b) : Dec chs m t b
theorem Dec.det {chs : List (Int × Int × Int)} {m : Int → Bool} {t : Int} {b b' : Bool} (h : Dec chs m t b) (h' : Dec chs m t b') : b = b' := by
  induction h with
  | stop h =>
    cases h' with
    | stop _ => rfl
    | go g _ => omega
  | go h _ ih =>
    cases h' with
    | stop g => omega
    | go _ k => exact ih k
theorem Dec.congr {chs : List (Int × Int × Int)} {m m' : Int → Bool} {np : Nat} (hm : ∀ p : Int, 0 ≤ p → p < (np : Int) → m p = m' p) (hc : ∀ i, i < chs.length → ChOk np chs i) {t : Int} {b : Bool} (h : Dec chs m t b) : 0 ≤ t → t ≤ 1 + (chs.length : Int) → Dec chs m' t b := by
  induction h with
  | stop h => intro _ _; exact .stop h
  | @go t b h k ih =>
    intro h0 h1
    have hk := hc (t - 2).toNat (by omega)
    have e : (((t - 2).toNat : Nat) : Int) = t - 2 := by omega
    unfold ChOk RefOk at hk
    rw [e] at hk
    have em := hm _ hk.1 hk.2.1
    refine .go h ?_
    rw [← em]
    refine ih ?_ ?_ <;> split <;> omega
theorem chok_ref {np : Nat} {chs : List (Int × Int × Int)} {i : Nat} (h : ChOk np chs i) (q : Nat) (hq : q < 2) : RefOk chs i (geti [(getc chs (i : Nat)).2.1, (getc chs (i : Nat)).2.2] ((q : Nat) : Int)) := by
  match q with
  | 0 => exact h.2.2.1
  | 1 => exact h.2.2.2
  | q + 2 => omega
theorem map_takeP {β : Type} {f : List (List UInt8) → β} {ps : List (List (List UInt8))} {i : Nat} (h : i < ps.length) : (ps.take i).map f ++ [f (getp ps (i : Nat))] = (ps.take (i + 1)).map f := by
  have e : getp ps (i : Nat) = ps[i] := by simp [getp, h]
  rw [List.take_succ_eq_append_getElem h, List.map_append, List.map_cons, List.map_nil, e]
theorem chok_at {np : Nat} {chs : List (Int × Int × Int)} (hk : ∀ i, i < chs.length → ChOk np chs i) {t : Int} (h2 : 2 ≤ t) (ht : t ≤ 1 + (chs.length : Int)) :
    0 ≤ (getc chs (t - 2)).1 ∧ (getc chs (t - 2)).1 < (np : Int) ∧ 0 ≤ (getc chs (t - 2)).2.1 ∧ (getc chs (t - 2)).2.1 ≤ t - 1 ∧ 0 ≤ (getc chs (t - 2)).2.2 ∧ (getc chs (t - 2)).2.2 ≤ t - 1 := by
  have h := hk (t - 2).toNat (by omega)
  have e : (((t - 2).toNat : Nat) : Int) = t - 2 := by omega
  unfold ChOk RefOk at h
  rw [e] at h
  omega
theorem Dec.dec1 {chs : List (Int × Int × Int)} {m : Int → Bool} {t : Int} (h : t ≤ 1) : Dec chs m t (decide (t = 1)) := .stop h
/-- The decision for a word. -/
def HoldsG (pats : List (List (List UInt8))) (chs : List (Int × Int × Int)) (root : Int) (w : List UInt8) (b : Bool) : Prop :=
  if validG 6 pats chs root = 0 ∧ WordOk w 6 then Dec chs (fun p => matchP (getp pats p) w) root b else b = false
theorem HoldsG.det {pats : List (List (List UInt8))} {chs : List (Int × Int × Int)} {root : Int} {w : List UInt8} {b b' : Bool} (h : HoldsG pats chs root w b) (h' : HoldsG pats chs root w b') : b = b' := by
  unfold HoldsG at h h'
  split at h
  · rename_i hv; rw [if_pos hv] at h'; exact h.det h'
  · rename_i hv; rw [if_neg hv] at h'; rw [h, h']
theorem HoldsG.yes {pats : List (List (List UInt8))} {chs : List (Int × Int × Int)} {root : Int} {w : List UInt8} {b : Bool} (hv : validG 6 pats chs root = 0) (hw : WordOk w 6) (h : Dec chs (fun p => matchP (getp pats p) w) root b) : HoldsG pats chs root w b := by
  unfold HoldsG; rw [if_pos ⟨hv, hw⟩]; exact h
theorem HoldsG.no {pats : List (List (List UInt8))} {chs : List (Int × Int × Int)} {root : Int} {w : List UInt8} (h : ¬ (validG 6 pats chs root = 0 ∧ WordOk w 6)) : HoldsG pats chs root w false := by
  unfold HoldsG; rw [if_neg h]
theorem getb_map {pats : List (List (List UInt8))} {f : List (List UInt8) → Bool} {p : Int} (h0 : 0 ≤ p) (h : p < (pats.length : Int)) : getb (pats.map f) p = f (getp pats p) := by
  have hl : p.toNat < pats.length := by omega
  simp [getb, getp, hl]
theorem geti2 {a b : Int} (ha : I64 a) (hb : I64 b) (q : Nat) : I64 (geti [a, b] ((q : Nat) : Int)) := by
  match q with
  | 0 => exact ha
  | 1 => exact hb
  | q + 2 =>
    have e : geti [a, b] ((q + 2 : Nat) : Int) = 0 := rfl
    rw [e]; exact ⟨by omega, by omega⟩
end Go.Co
end

section
set_option linter.unusedVariables false
namespace Go.Co
open Go Go.Ev Go.EvW
theorem gets_take {xs : List (List UInt8)} {i m : Nat} (h : i < m) : gets (xs.take m) (i : Nat) = gets xs (i : Nat) := by
  simp only [gets, Int.toNat_natCast, List.getD_eq_getElem?_getD, List.getElem?_take]
  rw [if_pos h]
theorem flat_take {xs : List (List UInt8)} {i : Nat} (h : i < xs.length) : (xs.take (i + 1)).flatten = (xs.take i).flatten ++ gets xs (i : Nat) := by
  rw [take_gets h]; simp
theorem tot_take_succ {xs : List (List UInt8)} {i : Nat} (h : i < xs.length) : tot (xs.take (i + 1)) = tot (xs.take i) + (gets xs (i : Nat)).length := by rw [take_gets h, tot_snoc]
theorem gets_le {xs : List (List UInt8)} {i : Nat} (h : i < xs.length) : (gets xs (i : Nat)).length ≤ tot xs := by
  have h1 := tot_take_succ h
  have h2 := tot_take_le xs (i + 1)
  omega
theorem flat_take_le (xs : List (List UInt8)) (i : Nat) : (xs.take i).flatten.length ≤ tot xs := by rw [tot_flat]; exact tot_take_le xs i
theorem take0 {xs : List (List UInt8)} (h : 1 ≤ xs.length) : (xs.drop 0).take (((xs.length : Nat) : Int) - 1).toNat = xs.take (xs.length - 1) := by
  rw [List.drop_zero]; congr 1; omega
theorem gap_start (bs : List (List UInt8)) : List.replicate ((((bs.flatten.length : Nat) : Int) + 1).toNat) false = gapN bs 0 := by
  simp only [gapN, tot_flat]; congr 1
theorem match_end {bs : List (List UInt8)} {w : List UInt8} (hv : validP 6 bs = 0) (hw : WordOk w 6) :
    decide ((((getu (runP bs.flatten (gapN bs (bs.length - 1)) (startP (tot bs + 1)) w) (bs.flatten.length : Nat)).toNat : Nat) : Int) = 1) = matchP bs w := by
  obtain ⟨_, _, _, _, hne, hok⟩ := validP_zero hv
  have h := run_match hne (full_ok hok) w
  have hm : matchP bs w = mtB bs w := by unfold matchP; simp [hv, hw]
  rw [hm]
  cases hb : mtB bs w with
  | true =>
    have := h.2 (mtB_true.1 hb)
    rw [this]; rfl
  | false =>
    rw [decide_eq_false]
    intro h1
    have : mtB bs w = true := mtB_true.2 (h.1 (UInt8.toNat_inj.1 (by show _ = 1; omega)))
    rw [hb] at this; cases this
theorem flat_ok {L : Int} {bs : List (List UInt8)} (h : ∀ i, i < bs.length → BlkOk L bs i) : ∀ c, c ∈ bs.flatten → 97 ≤ c.toNat := by
  intro c hc
  obtain ⟨b, hb, hc⟩ := List.mem_flatten.1 hc
  obtain ⟨i, hi⟩ := List.getElem?_of_mem hb
  have hil := (List.getElem?_eq_some_iff.1 hi).1
  have := (h i hil).1.2.2.2 c
  have e : gets bs (i : Nat) = b := by simp [gets, hi]
  rw [e] at this
  exact (this hc).1
theorem stepN_zero (al : List UInt8) (gap : List Bool) (xs : List UInt8) (a : Int) : List.replicate (((gap.length : Nat) : Int).toNat) 0 = stepN al gap xs a 0 := rfl
theorem stepN_skip {al : List UInt8} {gap : List Bool} {xs : List UInt8} {a : Int} {i : Nat} (h : getu xs (i : Nat) = 0) : stepN al gap xs a (i + 1) = stepN al gap xs a i := by simp only [stepN]; rw [if_pos h]
theorem stepN_go {al : List UInt8} {gap : List Bool} {xs : List UInt8} {a : Int} {i : Nat} (h : ¬ getu xs (i : Nat) = 0) : stepN al gap xs a (i + 1) =
    if i < al.length ∧ (((getu al (i : Nat)).toNat : Nat) : Int) - 97 = a then (if getb gap (i : Nat) = true then (stepN al gap xs a i).set i 1 else stepN al gap xs a i).set (i + 1) 1 else (if getb gap (i : Nat) = true then (stepN al gap xs a i).set i 1 else stepN al gap xs a i) := by simp only [stepN]; rw [if_neg h]
theorem getu_zero {xs : List UInt8} {i : Nat} : getu xs (i : Nat) = 0 ↔ (((getu xs (i : Nat)).toNat : Nat) : Int) = 0 := by
  constructor
  · intro h; rw [h]; rfl
  · intro h; exact UInt8.toNat_inj.1 (by show _ = 0; omega)
end Go.Co
end

section
set_option linter.unusedVariables false
namespace Go.Co
open Go Go.Ev Go.EvW
theorem drop_gets {bs : List (List UInt8)} {i : Nat} (h : i < bs.length) : bs.drop i = gets bs (i : Nat) :: bs.drop (i + 1) := by
  rw [List.drop_eq_getElem_cons h]; simp [gets, h]
theorem drop_two {bs : List (List UInt8)} {i : Nat} (h : i + 1 < bs.length) : bs.drop i = gets bs (i : Nat) :: gets bs ((i + 1 : Nat) : Int) :: bs.drop (i + 2) := by
  rw [drop_gets (by omega), drop_gets h]
theorem mt_pre {bs : List (List UInt8)} {w : List UInt8} (h : Mt bs w) : ∃ y, w = gets bs (0 : Nat) ++ y := by
  cases bs with
  | nil => exact h.elim
  | cons b bs =>
    cases bs with
    | nil => exact ⟨[], by simp [Mt] at h; simp [gets, h]⟩
    | cons c bs => obtain ⟨y, h, _⟩ := h; exact ⟨y, by simpa [gets] using h⟩
theorem mt_fail1 {bs : List (List UInt8)} {w : List UInt8} (h : w.length < (gets bs (0 : Nat)).length) : mtB bs w = false := by
  cases hb : mtB bs w with
  | false => rfl
  | true =>
    obtain ⟨y, e⟩ := mt_pre (mtB_true.1 hb)
    have := congrArg List.length e
    rw [List.length_append] at this; omega
theorem mt_fail2 {bs : List (List UInt8)} {w : List UInt8} (h : w.take (gets bs (0 : Nat)).length ≠ gets bs (0 : Nat)) : mtB bs w = false := by
  cases hb : mtB bs w with
  | false => rfl
  | true =>
    obtain ⟨y, e⟩ := mt_pre (mtB_true.1 hb)
    exact absurd (by rw [e, List.take_left]) h
theorem mt_one {bs : List (List UInt8)} {w : List UInt8} (hl : bs.length = 1) (h : w.take (gets bs (0 : Nat)).length = gets bs (0 : Nat)) : mtB bs w = decide (w.drop (gets bs (0 : Nat)).length = []) := by
  match bs, hl with
  | [b], _ =>
    have e : gets [b] (0 : Nat) = b := rfl
    rw [e] at h ⊢
    have key : Mt [b] w ↔ w.drop b.length = [] := by
      simp only [Mt]
      constructor
      · rintro rfl; simp
      · intro h2
        have := List.take_append_drop b.length w
        rw [h, h2, List.append_nil] at this
        exact this.symm
    cases hb : mtB [b] w with
    | true => rw [decide_eq_true (key.1 (mtB_true.1 hb))]
    | false => rw [decide_eq_false]; intro h3; rw [mtB_true.2 (key.2 h3)] at hb; cases hb
theorem mt_go {bs : List (List UInt8)} {w : List UInt8} (hl : 2 ≤ bs.length) (h : w.take (gets bs (0 : Nat)).length = gets bs (0 : Nat)) : Mt bs w ↔ tailM (bs.drop 1) (w.drop (gets bs (0 : Nat)).length) := by
  match bs, hl with
  | b :: c :: bs, _ =>
    have e : gets (b :: c :: bs) (0 : Nat) = b := rfl
    rw [e] at h ⊢
    simp only [Mt, List.drop_succ_cons, List.drop_zero]
    constructor
    · rintro ⟨y, rfl, hy⟩; simpa using hy
    · intro hy
      refine ⟨_, ?_, hy⟩
      have := List.take_append_drop b.length w
      rw [h] at this
      exact this.symm
/-- The search for a block. -/
def FindI (w b : List UInt8) (k : Nat) (p : Int) : Prop := (p = -1 ∧ ∀ j, j < k → j + b.length ≤ w.length → (w.drop j).take b.length ≠ b) ∨
  ∃ j0 : Nat, p = (j0 : Int) ∧ j0 + b.length ≤ w.length ∧ (w.drop j0).take b.length = b ∧ ∀ j, j < j0 → (w.drop j).take b.length ≠ b
def FindX (w b : List UInt8) (p : Int) : Prop := (p = -1 ∧ ∀ j, j + b.length ≤ w.length → (w.drop j).take b.length ≠ b) ∨
  ∃ j0 : Nat, p = (j0 : Int) ∧ j0 + b.length ≤ w.length ∧ (w.drop j0).take b.length = b ∧ ∀ j, j < j0 → (w.drop j).take b.length ≠ b
theorem FindI.zero (w b : List UInt8) : FindI w b 0 (-1) := .inl ⟨rfl, fun j h => by omega⟩
theorem FindI.no {w b : List UInt8} {k : Nat} {p : Int} (h : FindI w b k p) (hp : p = -1) (hn : (w.drop k).take b.length ≠ b) : FindI w b (k + 1) p := by
  rcases h with ⟨h1, h2⟩ | ⟨j0, h1, _⟩
  · refine .inl ⟨h1, fun j hj hl => ?_⟩
    by_cases e : j = k
    · subst e; exact hn
    · exact h2 j (by omega) hl
  · omega
theorem FindI.yes {w b : List UInt8} {k : Nat} {p : Int} (h : FindI w b k p) (hp : p = -1) (hl : k + b.length ≤ w.length) (hn : (w.drop k).take b.length = b) : FindI w b (k + 1) (k : Int) := by
  rcases h with ⟨h1, h2⟩ | ⟨j0, h1, _⟩
  · exact .inr ⟨k, rfl, hl, hn, fun j hj => h2 j hj (by omega)⟩
  · omega
theorem FindI.stop {w b : List UInt8} {k : Nat} {p : Int} (h : FindI w b k p) (hs : w.length < k + b.length ∨ p ≠ -1) : FindX w b p := by
  rcases h with ⟨h1, h2⟩ | h
  · refine .inl ⟨h1, fun j hj => ?_⟩
    rcases hs with hs | hs
    · exact h2 j (by omega) hj
    · exact absurd h1 hs
  · exact .inr h
theorem take_ne_of {w b x y : List UInt8} (e : w = x ++ (b ++ y)) : (w.drop x.length).take b.length = b := by
  rw [e, List.drop_left, List.take_left]
theorem tail_none {bs : List (List UInt8)} {i : Nat} {w : List UInt8} (hi : i + 1 < bs.length) (h : ∀ j, j + (gets bs (i : Nat)).length ≤ w.length → (w.drop j).take (gets bs (i : Nat)).length ≠ gets bs (i : Nat)) : ¬ tailM (bs.drop i) w := by
  rw [drop_two hi]
  refine tailM_none fun x y e => ?_
  have hl := congrArg List.length e
  simp at hl
  exact h x.length (by omega) (take_ne_of e)
theorem tail_first {bs : List (List UInt8)} {i : Nat} {w : List UInt8} {j0 : Nat} (hi : i + 1 < bs.length) (hl : j0 + (gets bs (i : Nat)).length ≤ w.length) (hm : (w.drop j0).take (gets bs (i : Nat)).length = gets bs (i : Nat)) (h : ∀ j, j < j0 → (w.drop j).take (gets bs (i : Nat)).length ≠ gets bs (i : Nat)) :
    tailM (bs.drop i) w ↔ tailM (bs.drop (i + 1)) (w.drop (j0 + (gets bs (i : Nat)).length)) := by
  have h1 := drop_gets (bs := bs) (i := i + 1) (by omega)
  rw [drop_two hi, h1]
  have e : w = w.take j0 ++ (gets bs (i : Nat) ++ w.drop (j0 + (gets bs (i : Nat)).length)) := by
    rw [← List.drop_drop]
    conv => rhs; rhs; lhs; rw [← hm]
    rw [List.take_append_drop, List.take_append_drop]
  refine tailM_first e fun x y e2 => ?_
  rw [List.length_take]
  refine Classical.byContradiction fun hn => ?_
  exact h x.length (by omega) (take_ne_of e2)
theorem tail_last {bs : List (List UInt8)} {i : Nat} {w : List UInt8} (hi : i + 1 = bs.length) : tailM (bs.drop i) w ↔ ((gets bs (i : Nat)).length ≤ w.length ∧ w.drop (w.length - (gets bs (i : Nat)).length) = gets bs (i : Nat)) := by
  rw [drop_gets (by omega), List.drop_eq_nil_of_le (by omega)]
  simp only [tailM]
  constructor
  · rintro ⟨x, rfl⟩
    simp
  · rintro ⟨h1, h2⟩
    refine ⟨w.take (w.length - (gets bs (i : Nat)).length), ?_⟩
    conv => rhs; rhs; rw [← h2]
    rw [List.take_append_drop]
theorem mt_end {bs : List (List UInt8)} {w0 w : List UInt8} {i : Nat} (hi : i + 1 = bs.length) (h : Mt bs w0 ↔ tailM (bs.drop i) w) (b : Bool) (hb : b = true ↔ ((gets bs (i : Nat)).length ≤ w.length ∧ w.drop (w.length - (gets bs (i : Nat)).length) = gets bs (i : Nat))) : b = mtB bs w0 := by
  rw [tail_last hi] at h
  cases hm : mtB bs w0 with
  | true => exact hb.2 (h.1 (mtB_true.1 hm))
  | false =>
    cases b with
    | false => rfl
    | true => have := mtB_true.2 (h.2 (hb.1 rfl)); rw [hm] at this; cases this
theorem mt_no {bs : List (List UInt8)} {w0 w : List UInt8} {i : Nat} (h : Mt bs w0 ↔ tailM (bs.drop i) w) (hn : ¬ tailM (bs.drop i) w) : false = mtB bs w0 := by
  cases hm : mtB bs w0 with
  | true => exact absurd (h.1 (mtB_true.1 hm)) hn
  | false => rfl
theorem sub_at {w : List UInt8} {k b : Nat} : (w.drop ((k : Nat) : Int).toNat).take ((((k : Nat) : Int) + ((b : Nat) : Int)).toNat - ((k : Nat) : Int).toNat) = (w.drop k).take b := by
  rw [Int.toNat_natCast]; congr 1; omega
theorem sub_pre {w : List UInt8} {b : Nat} : (w.drop 0).take (((b : Nat) : Int).toNat - 0) = w.take b := by simp
theorem sub_suf {w : List UInt8} {b : Nat} (h : b ≤ w.length) : (w.drop ((b : Nat) : Int).toNat).take (w.length - ((b : Nat) : Int).toNat) = w.drop b := by
  rw [Int.toNat_natCast, List.take_of_length_le (by simp)]
theorem sub_sum {w : List UInt8} {a b : Nat} (h : a + b ≤ w.length) : (w.drop (((a : Nat) : Int) + ((b : Nat) : Int)).toNat).take (w.length - (((a : Nat) : Int) + ((b : Nat) : Int)).toNat) = w.drop (a + b) := by
  rw [show (((a : Nat) : Int) + ((b : Nat) : Int)).toNat = a + b by omega, List.take_of_length_le (by simp)]
theorem sub_dif {w : List UInt8} {a b : Nat} (h : b ≤ a) (ha : a = w.length) : (w.drop (((a : Nat) : Int) - ((b : Nat) : Int)).toNat).take (w.length - (((a : Nat) : Int) - ((b : Nat) : Int)).toNat) = w.drop (a - b) := by
  rw [show (((a : Nat) : Int) - ((b : Nat) : Int)).toNat = a - b by omega, List.take_of_length_le (by simp)]
end Go.Co
end
