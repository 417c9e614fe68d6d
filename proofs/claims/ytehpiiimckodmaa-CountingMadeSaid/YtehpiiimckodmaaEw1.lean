/- Plain laws: automata in memory, classes, counters. -/
import Derived.Test.YtehpiiimckodmaaEw0
import Derived.Test.YtehpiiimckodmaaEv5
set_option linter.unusedVariables false
set_option linter.unusedSimpArgs false
section
namespace Go.Co
open Go Go.Ev Go.EvW Go.Aut

/-- A valid automaton: rows of numbers of states. -/
structure AutOk (k : Nat) (st : Int) (F : List Bool) (R : List (List Int)) : Prop where
  len : R.length = F.length
  row : ∀ r, r ∈ R → r.length = k ∧ ∀ x, x ∈ r → 0 ≤ x ∧ x < F.length
  st : 0 ≤ st ∧ st < F.length

def faOf (st : Int) (F : List Bool) (R : List (List Int)) : FA := ⟨F.length, st.toNat, fun q => F.getD q false, fun q a => ((R.getD q []).getD a 0).toNat⟩

theorem getr_mem {R : List (List Int)} {q : Int} (h0 : 0 ≤ q) (h : q < R.length) : getr R q ∈ R := by
  have : q.toNat < R.length := by omega
  simp [getr, this]

theorem AutOk.ok {k : Nat} {st : Int} {F : List Bool} {R : List (List Int)} (h : AutOk k st F R) : (faOf st F R).Ok k := by
  refine ⟨by have := h.st; simp only [faOf]; omega, fun q a hq ha => ?_⟩
  have hq' : q < F.length := hq
  have hm : R.getD q [] ∈ R := by have : q < R.length := by rw [h.len]; exact hq'
                                  simp [this]
  obtain ⟨h1, h2⟩ := h.row _ hm
  have hx : (R.getD q []).getD a 0 ∈ R.getD q [] := by
    have : a < (R.getD q []).length := by omega
    rw [List.getD_eq_getElem?_getD (l := R.getD q []), List.getElem?_eq_getElem this, Option.getD_some]
    exact List.getElem_mem _
  have := h2 _ hx
  show ((R.getD q []).getD a 0).toNat < F.length
  omega

theorem AutOk.get {k : Nat} {st : Int} {F : List Bool} {R : List (List Int)} (h : AutOk k st F R) {q a : Nat} (hq : q < F.length) (ha : a < k) :
    (getr R (q : Nat)).length = k ∧ geti (getr R (q : Nat)) (a : Nat) = (((faOf st F R).d q a : Nat) : Int) := by
  have hm := getr_mem (R := R) (q := (q : Nat)) (by omega) (by rw [h.len]; omega)
  obtain ⟨h1, h2⟩ := h.row _ hm
  refine ⟨h1, ?_⟩
  have hx := h2 _ (geti_mem (xs := getr R (q : Nat)) (i := (a : Nat)) (by omega) (by omega))
  have e : (((faOf st F R).d q a : Nat) : Int) = (((geti (getr R (q : Nat)) (a : Nat)).toNat : Nat) : Int) := by
    simp only [faOf, geti, getr, Int.toNat_natCast]
  rw [e]; omega

def ordI (ord : List Nat) : List Int := ord.map fun q => ((q : Nat) : Int)
def atF (n : Nat) (ord : List Nat) : List Int := (List.range n).map fun q => if q ∈ ord then ((ord.idxOf q : Nat) : Int) else -1
def rowF (d : Nat → Nat → Nat) (k : Nat) (ord : List Nat) (p : Nat) : List Int := (List.range k).map fun a => ((ord.idxOf (d p a) : Nat) : Int)
def rowP (d : Nat → Nat → Nat) (k : Nat) (ord : List Nat) (p a : Nat) : List Int := (List.range k).map fun b => if b < a then ((ord.idxOf (d p b) : Nat) : Int) else 0

theorem ordI_length (ord : List Nat) : (ordI ord).length = ord.length := by simp [ordI]
theorem ordI_get {ord : List Nat} {i : Nat} (h : i < ord.length) : geti (ordI ord) (i : Nat) = ((ord.getD i 0 : Nat) : Int) := by simp [ordI, geti, h]
theorem ordI_snoc (ord : List Nat) (q : Nat) : ordI (ord ++ [q]) = ordI ord ++ [((q : Nat) : Int)] := by simp [ordI]
theorem atF_length (n : Nat) (ord : List Nat) : (atF n ord).length = n := by simp [atF]
theorem atF_get {n q : Nat} {ord : List Nat} (h : q < n) : geti (atF n ord) (q : Nat) = if q ∈ ord then ((ord.idxOf q : Nat) : Int) else -1 := by simp [atF, geti, h]
theorem atF_push {n q : Nat} {ord : List Nat} (h : q < n) (hq : q ∉ ord) : (atF n ord).set q ((ord.length : Nat) : Int) = atF n (ord ++ [q]) := by
  apply List.ext_getElem
  · simp [atF]
  · intro j h1 h2
    have hj : j < n := by simpa [atF] using h1
    rw [List.getElem_set]
    by_cases e : q = j
    · subst e
      rw [if_pos rfl]
      simp only [atF, List.getElem_map, List.getElem_range, List.mem_append, List.mem_singleton, or_true, if_true]
      rw [List.idxOf_append, if_neg hq]; simp
    · rw [if_neg e]
      simp only [atF, List.getElem_map, List.getElem_range, List.mem_append, List.mem_singleton]
      by_cases hm : j ∈ ord
      · rw [if_pos hm, if_pos (.inl hm), List.idxOf_append, if_pos hm]
      · rw [if_neg hm, if_neg (by rintro (h | h); exact hm h; exact e h.symm)]
theorem atF_nil {n : Nat} {xs : List Int} (hl : xs.length = n) (h : ∀ j, j < n → geti xs (j : Nat) = -1) : xs = atF n [] := by
  apply List.ext_getElem
  · simp [atF, hl]
  · intro j h1 h2
    have := h j (by omega)
    simp [geti, h1] at this
    simp [atF, this]
theorem set_step {xs : List Int} {i : Nat} {v : Int} (hi : i < xs.length) (h : ∀ j, j < i → geti xs (j : Nat) = v) : ∀ j, j < i + 1 → geti (xs.set ((i : Nat) : Int).toNat v) (j : Nat) = v := by
  intro j hj
  by_cases e : j = i
  · subst e; simp [geti, hi]
  · have := h j (by omega)
    simp only [geti, Int.toNat_natCast] at this ⊢
    rw [← this, List.getD_eq_getElem?_getD, List.getD_eq_getElem?_getD, List.getElem?_set_ne (by omega)]
theorem geti_set {xs : List Int} {i j : Nat} {v : Int} (hi : i < xs.length) : geti (xs.set i v) (j : Nat) = if i = j then v else geti xs (j : Nat) := by
  simp only [geti, Int.toNat_natCast]
  by_cases e : i = j
  · subst e; simp [hi]
  · rw [if_neg e, List.getD_eq_getElem?_getD, List.getD_eq_getElem?_getD, List.getElem?_set_ne e]
theorem rowP_length (d : Nat → Nat → Nat) (k : Nat) (ord : List Nat) (p a : Nat) : (rowP d k ord p a).length = k := by simp [rowP]
theorem rowP_zero (d : Nat → Nat → Nat) (k : Nat) (ord : List Nat) (p : Nat) : rowP d k ord p 0 = List.replicate k 0 := by
  apply List.ext_getElem <;> simp [rowP]
theorem rowP_full (d : Nat → Nat → Nat) (k : Nat) (ord : List Nat) (p : Nat) : rowP d k ord p k = rowF d k ord p := by
  apply List.map_congr_left
  intro b hb
  rw [if_pos (List.mem_range.1 hb)]
theorem rowP_set {d : Nat → Nat → Nat} {k : Nat} {ord : List Nat} {p a : Nat} (ha : a < k) : (rowP d k ord p a).set a ((ord.idxOf (d p a) : Nat) : Int) = rowP d k ord p (a + 1) := by
  apply List.ext_getElem
  · simp [rowP]
  · intro j h1 h2
    have hj : j < k := by simpa [rowP] using h1
    rw [List.getElem_set]
    by_cases e : a = j
    · subst e; rw [if_pos rfl]; simp [rowP]
    · rw [if_neg e]
      simp only [rowP, List.getElem_map, List.getElem_range]
      by_cases hja : j < a
      · rw [if_pos hja, if_pos (by omega)]
      · rw [if_neg hja, if_neg (by omega)]
theorem rowP_ord {d : Nat → Nat → Nat} {k : Nat} {ord t : List Nat} {p a : Nat} (h : ∀ b, b < a → d p b ∈ ord) : rowP d k (ord ++ t) p a = rowP d k ord p a := by
  apply List.map_congr_left
  intro b _
  by_cases hb : b < a
  · rw [if_pos hb, if_pos hb, List.idxOf_append, if_pos (h b hb)]
  · rw [if_neg hb, if_neg hb]
theorem rowF_ord {d : Nat → Nat → Nat} {k : Nat} {ord t : List Nat} {p : Nat} (h : ∀ b, b < k → d p b ∈ ord) : rowF d k (ord ++ t) p = rowF d k ord p := by
  rw [← rowP_full, ← rowP_full, rowP_ord h]

theorem nodup_len : ∀ {n : Nat} {l : List Nat}, l.Nodup → (∀ x, x ∈ l → x < n) → l.length ≤ n
  | 0, l, _, h => by
    cases l with
    | nil => simp
    | cons x l => exact absurd (h x (List.mem_cons_self ..)) (by omega)
  | n + 1, l, hd, h => by
    have ih := nodup_len (n := n) (l := l.erase n) (hd.erase n) fun x hx => by
      have h1 := h x (List.mem_of_mem_erase hx)
      have h2 : x ≠ n := fun e => by subst e; exact (List.Nodup.not_mem_erase hd) hx
      omega
    by_cases hm : n ∈ l
    · rw [List.length_erase_of_mem hm] at ih; omega
    · rw [List.erase_of_not_mem hm] at ih; omega

theorem take_snoc {ord ord2 t : List Nat} {i : Nat} (hi : i < ord.length) (h2 : ord2 = ord ++ t) : ord2.take (i + 1) = ord.take i ++ [ord.getD i 0] := by
  subst h2
  rw [List.take_append_of_le_length (by omega), List.take_succ_eq_append_getElem hi]
  simp [hi]
theorem step_fin {ord ord2 t : List Nat} {i : Nat} (f : Nat → Bool) (hi : i < ord.length) (h2 : ord2 = ord ++ t) : (ord.take i).map f ++ [f (ord.getD i 0)] = (ord2.take (i + 1)).map f := by
  rw [take_snoc hi h2]; simp
theorem step_rows {d : Nat → Nat → Nat} {k : Nat} {ord ord2 t : List Nat} {i : Nat} (hi : i < ord.length) (h2 : ord2 = ord ++ t) (hm : ∀ p, p ∈ ord.take i → ∀ a, a < k → d p a ∈ ord) :
    (ord.take i).map (rowF d k ord) ++ [rowF d k ord2 (ord.getD i 0)] = (ord2.take (i + 1)).map (rowF d k ord2) := by
  rw [take_snoc hi h2, List.map_append]
  congr 1
  apply List.map_congr_left
  intro p hp
  rw [h2, rowF_ord (hm p hp)]

/-- Rows in memory of a table. -/
def encT (t : List (List Nat)) : List (List Int) := t.map fun r => r.map fun n => ((n : Nat) : Int)

theorem tab_rows (d : Nat → Nat → Nat) (f : Nat → Bool) (k : Nat) (ord : List Nat) : encT (tab d f k ord).2 = ord.map (rowF d k ord) := by
  simp only [encT, tab, List.map_map]
  apply List.map_congr_left
  intro p _
  simp [rowF, Function.comp]

theorem getb_getD (F : List Bool) (q : Nat) : getb F (q : Nat) = F.getD q false := by simp [getb]
end Go.Co
end

section
namespace Go.Co
open Go Go.Ev Go.EvW Go.Aut

def enc3 (c : Nat) : List UInt8 := [UInt8.ofNat c, UInt8.ofNat (c / 256), UInt8.ofNat (c / 65536)]

theorem enc3_inj {c d : Nat} (hc : c < 16777216) (hd : d < 16777216) (h : enc3 c = enc3 d) : c = d := by
  simp only [enc3, List.cons.injEq, and_true] at h
  obtain ⟨h1, h2, h3⟩ := h
  have a1 := congrArg UInt8.toNat h1
  have a2 := congrArg UInt8.toNat h2
  have a3 := congrArg UInt8.toNat h3
  simp at a1 a2 a3
  omega

def encs (l : List Nat) : List UInt8 := l.flatMap enc3

theorem encs_length (l : List Nat) : (encs l).length = 3 * l.length := by
  induction l with
  | nil => rfl
  | cons c l ih => simp only [encs, List.flatMap_cons, List.length_append] at ih ⊢; rw [ih]; simp [enc3]; omega
theorem encs_snoc (l : List Nat) (c : Nat) : encs (l ++ [c]) = encs l ++ enc3 c := by simp [encs]
theorem encs_inj : ∀ {l m : List Nat}, (∀ c, c ∈ l → c < 16777216) → (∀ c, c ∈ m → c < 16777216) → l.length = m.length → encs l = encs m → l = m
  | [], [], _, _, _, _ => rfl
  | [], _ :: _, _, _, h, _ => by simp at h
  | _ :: _, [], _, _, h, _ => by simp at h
  | c :: l, d :: m, hl, hm, h, e => by
    have e' : enc3 c ++ encs l = enc3 d ++ encs m := by simpa [encs] using e
    obtain ⟨e1, e2⟩ := List.append_inj e' (by simp [enc3])
    have := enc3_inj (hl c (List.mem_cons_self ..)) (hm d (List.mem_cons_self ..)) e1
    subst this
    rw [encs_inj (fun x hx => hl x (List.mem_cons_of_mem _ hx)) (fun x hx => hm x (List.mem_cons_of_mem _ hx)) (by simpa using h) e2]

/-- What a state is split by. -/
def keyL (k : Nat) (M : FA) (cl : List Nat) (i : Nat) : List Nat := cl.getD i 0 :: (List.range k).map fun a => cl.getD (M.d i a) 0
def keysF (k : Nat) (M : FA) (cl : List Nat) : List (List UInt8) := (List.range M.n).map fun i => encs (keyL k M cl i)

theorem keysF_length (k : Nat) (M : FA) (cl : List Nat) : (keysF k M cl).length = M.n := by simp [keysF]
theorem keysF_get {k : Nat} {M : FA} {cl : List Nat} {i : Nat} (h : i < M.n) : (keysF k M cl).getD i [] = encs (keyL k M cl i) := by simp [keysF, h]

theorem keys_step {k : Nat} {M : FA} {cl : List Nat} (hsm : ∀ i, cl.getD i 0 < 16777216) : IsStep k M cl (number (keysF k M cl) []) := by
  refine ⟨by rw [number_length, keysF_length], number_first _ _, fun p q hp hq => ?_⟩
  rw [number_eq (by rw [keysF_length]; exact hp) (by rw [keysF_length]; exact hq), keysF_get hp, keysF_get hq]
  have hk : ∀ i c, c ∈ keyL k M cl i → c < 16777216 := fun i c hc => by
    simp only [keyL, List.mem_cons, List.mem_map] at hc
    rcases hc with rfl | ⟨a, _, rfl⟩
    · exact hsm i
    · exact hsm _
  constructor
  · intro h
    have := encs_inj (hk p) (hk q) (by simp [keyL]) h
    simp only [keyL, List.cons.injEq] at this
    refine ⟨this.1, fun a ha => ?_⟩
    have h2 := congrArg (fun l => l.getD a 0) this.2
    simpa [ha] using h2
  · rintro ⟨h1, h2⟩
    congr 1
    simp only [keyL, h1, List.cons.injEq, true_and]
    exact List.map_congr_left fun a ha => h2 a (List.mem_range.1 ha)

theorem first_lt {cl : List Nat} {n : Nat} (hl : cl.length = n) (h : First cl) (i : Nat) (hi : i < n) : cl.getD i 0 < (reps cl n).length := (reps_spec h (i := n) (by omega)).1 i hi

/-- The classes by acceptance. -/
def finC (F : List Bool) : List Nat := F.map fun f => if f ≠ F.getD 0 false then 1 else 0

theorem finC_get {F : List Bool} {i : Nat} (h : i < F.length) : (finC F).getD i 0 = if F.getD i false ≠ F.getD 0 false then 1 else 0 := by simp [finC, h]

theorem finC_first (F : List Bool) : First (finC F) := by
  intro i hi
  have hl : (finC F).length = F.length := by simp [finC]
  rw [hl] at hi
  rw [finC_get hi]
  by_cases h0 : i = 0
  · subst h0; simp
  · have : 1 ≤ (reps (finC F) i).length := by
      have : ∀ j, 1 ≤ j → 1 ≤ (reps (finC F) j).length := by
        intro j
        induction j with
        | zero => intro h; omega
        | succ j ih =>
          intro _
          simp only [reps]
          split
          · by_cases e : j = 0
            · subst e; rename_i h; simp [reps] at h
            · exact ih (by omega)
          · rw [List.length_append, List.length_singleton]; omega
      exact this i (by omega)
    split <;> omega

theorem finC_coarse {k : Nat} {st : Int} {F : List Bool} {R : List (List Int)} : Coarse k (faOf st F R) (finC F) := by
  refine ⟨fun p q hp hq h => ?_, fun p q hp hq h => ?_⟩
  · have := h.fin
    have hp' : p < F.length := hp
    have hq' : q < F.length := hq
    rw [finC_get hp', finC_get hq']
    simp only [faOf] at this
    rw [this]
  · have hp' : p < F.length := hp
    have hq' : q < F.length := hq
    rw [finC_get hp', finC_get hq'] at h
    show F.getD p false = F.getD q false
    generalize F.getD p false = x at h
    generalize F.getD q false = y at h
    generalize F.getD 0 false = z at h
    cases x <;> cases y <;> cases z <;> simp at h <;> rfl

theorem conv0 (c : Nat) : IntKind.u8.wrap ((c : Nat) : Int) = (((UInt8.ofNat c).toNat : Nat) : Int) := by rw [wrap_u8]; simp
theorem conv1 (c : Nat) : IntKind.u8.wrap (((c : Nat) : Int) / ((256 : Nat) : Int)) = (((UInt8.ofNat (c / 256)).toNat : Nat) : Int) := by rw [wrap_u8]; simp
theorem conv2 (c : Nat) : IntKind.u8.wrap (((c : Nat) : Int) / ((65536 : Nat) : Int)) = (((UInt8.ofNat (c / 65536)).toNat : Nat) : Int) := by rw [wrap_u8]; simp

/-- A row whose first places are filled. -/
def preI (l : List Nat) (n i : Nat) : List Int := (List.range n).map fun j => if j < i then ((l.getD j 0 : Nat) : Int) else 0
theorem preI_length (l : List Nat) (n i : Nat) : (preI l n i).length = n := by simp [preI]
theorem preI_zero (l : List Nat) (n : Nat) : preI l n 0 = List.replicate n 0 := by apply List.ext_getElem <;> simp [preI]
theorem preI_set {l : List Nat} {n i : Nat} (hi : i < n) : (preI l n i).set i ((l.getD i 0 : Nat) : Int) = preI l n (i + 1) := by
  apply List.ext_getElem
  · simp [preI]
  · intro j h1 h2
    have hj : j < n := by simpa [preI] using h1
    rw [List.getElem_set]
    by_cases e : i = j
    · subst e; rw [if_pos rfl]; simp [preI]
    · rw [if_neg e]
      simp only [preI, List.getElem_map, List.getElem_range]
      by_cases hji : j < i
      · rw [if_pos hji, if_pos (by omega)]
      · rw [if_neg hji, if_neg (by omega)]
theorem preI_skip {l : List Nat} {n i : Nat} (h : l.getD i 0 = 0) : preI l n (i + 1) = preI l n i := by
  apply List.map_congr_left
  intro j _
  by_cases e : j = i
  · subst e; rw [if_pos (by omega), if_neg (by omega), h]; rfl
  · by_cases hji : j < i
    · rw [if_pos hji, if_pos (by omega)]
    · rw [if_neg hji, if_neg (by omega)]
theorem preI_full {l : List Nat} {n : Nat} (h : l.length = n) : preI l n n = ordI l := by
  subst h
  apply List.ext_getElem
  · simp [preI, ordI]
  · intro j h1 h2
    have hj : j < l.length := by simpa [preI] using h1
    simp [preI, ordI, hj]
theorem preI_of (f : Nat → Nat) (k : Nat) : preI ((List.range k).map f) k k = (List.range k).map fun a => ((f a : Nat) : Int) := by
  rw [preI_full (by simp)]; simp [ordI]
theorem geti_ordI (cl : List Nat) (i : Nat) : geti (ordI cl) (i : Nat) = ((cl.getD i 0 : Nat) : Int) := by
  by_cases h : i < cl.length <;> simp [geti, ordI, h]

/-- The automaton of the classes, as it lies in memory. -/
def quotF (M : FA) (cl : List Nat) : List Bool := (reps cl M.n).map M.f
def quotR (k : Nat) (M : FA) (cl : List Nat) : List (List Int) := (reps cl M.n).map fun p => (List.range k).map fun a => ((cl.getD (M.d p a) 0 : Nat) : Int)

theorem quot_lists {k : Nat} {M : FA} {cl : List Nat} (hM : M.Ok k) (h : Nerode k M cl) : AutOk k ((cl.getD M.s 0 : Nat) : Int) (quotF M cl) (quotR k M cl) ∧
    (∀ N : FA, ∀ t, (faOf ((cl.getD M.s 0 : Nat) : Int) (quotF M cl) (quotR k M cl)).Tab k t → Same k M M.s N N.s → Minimal k N t) := by
  have hq := quot_ok hM h
  obtain ⟨hl, hf, hs⟩ := id h
  obtain ⟨r1, r2⟩ := reps_spec hf (i := M.n) (by omega)
  have hlen : (quotF M cl).length = (reps cl M.n).length := by simp [quotF]
  have hin : ∀ p, p < M.n → cl.getD p 0 < (reps cl M.n).length := r1
  have hok : AutOk k ((cl.getD M.s 0 : Nat) : Int) (quotF M cl) (quotR k M cl) := by
    refine ⟨by simp [quotF, quotR], fun r hr => ?_, ?_⟩
    · simp only [quotR, List.mem_map] at hr
      obtain ⟨p, hp, rfl⟩ := hr
      refine ⟨by simp, fun x hx => ?_⟩
      simp only [List.mem_map, List.mem_range] at hx
      obtain ⟨a, ha, rfl⟩ := hx
      obtain ⟨j, hj, rfl⟩ := List.getElem_of_mem hp
      have hj2 := (r2 j hj).1
      have e : (reps cl M.n).getD j 0 = (reps cl M.n)[j] := by simp [hj]
      rw [e] at hj2
      have := hin _ (hM.2 _ a hj2 ha)
      rw [hlen]; omega
    · have := hin _ hM.1
      rw [hlen]; omega
  refine ⟨hok, fun N t ht hN => ?_⟩
  -- the same automaton, told by lists
  have hfd : ∀ j, j < (reps cl M.n).length → (faOf ((cl.getD M.s 0 : Nat) : Int) (quotF M cl) (quotR k M cl)).f j = (quot M cl).f j := fun j hj => by simp [faOf, quotF, quot, hj]
  have hdd : ∀ j a, j < (reps cl M.n).length → a < k → (faOf ((cl.getD M.s 0 : Nat) : Int) (quotF M cl) (quotR k M cl)).d j a = (quot M cl).d j a := fun j a hj ha => by simp [faOf, quotR, quot, hj, ha]
  have hsame : ∀ j, j < (reps cl M.n).length → Same k (faOf ((cl.getD M.s 0 : Nat) : Int) (quotF M cl) (quotR k M cl)) j (quot M cl) j := fun j hj =>
    same_of_bisim (fun p q => p = q ∧ p < (reps cl M.n).length) (fun p q hh => by obtain ⟨rfl, hp⟩ := hh; exact hfd p hp)
      (fun p q a ha hh => by obtain ⟨rfl, hp⟩ := hh; exact ⟨hdd p a hp ha, by rw [hdd p a hp ha]; exact hq.1.2 p a hp ha⟩) ⟨rfl, hj⟩
  have hn : (faOf ((cl.getD M.s 0 : Nat) : Int) (quotF M cl) (quotR k M cl)).n = (reps cl M.n).length := hlen
  have hss : (faOf ((cl.getD M.s 0 : Nat) : Int) (quotF M cl) (quotR k M cl)).s = (quot M cl).s := by simp [faOf, quot]
  refine ⟨faOf ((cl.getD M.s 0 : Nat) : Int) (quotF M cl) (quotR k M cl), hok.ok, fun p q hp hq' hh => ?_, ?_, ht⟩
  · rw [hn] at hp hq'
    exact hq.2.1 p q hp hq' ((hsame p hp).symm.trans (hh.trans (hsame q hq')))
  · rw [hss]
    exact (hsame _ hq.1.1).trans (hq.2.2.trans hN)

/-- A table in memory is its automaton. -/
theorem faOf_tab (t : List Bool × List (List Nat)) : faOf 0 t.1 (encT t.2) = ofTab t 0 := by
  unfold faOf ofTab encT
  congr 1
  funext q a
  by_cases hq : q < t.2.length
  · by_cases ha : a < t.2[q].length <;> simp [hq, ha]
  · simp [hq]

theorem tab_ok {k : Nat} {st : Int} {F : List Bool} {R : List (List Int)} (hA : AutOk k st F R) {ord : List Nat} (hb : Bfs (faOf st F R).d k (faOf st F R).s ord) :
    AutOk k 0 (ord.map (faOf st F R).f) (ord.map (rowF (faOf st F R).d k ord)) ∧ Same k (faOf 0 (ord.map (faOf st F R).f) (ord.map (rowF (faOf st F R).d k ord))) 0 (faOf st F R) (faOf st F R).s := by
  obtain ⟨h1, h2, ⟨t, h3⟩, h4⟩ := hb.inv (fun q => q < (faOf st F R).n) hA.ok.1 (fun p a ha hp => hA.ok.2 p a hp ha)
  have hl : 0 < ord.length := by rw [h3]; simp
  refine ⟨⟨by simp, fun r hr => ?_, by simp; omega⟩, ?_⟩
  · rw [List.mem_map] at hr
    obtain ⟨p, hp, rfl⟩ := hr
    refine ⟨by simp [rowF], fun x hx => ?_⟩
    simp only [rowF, List.mem_map, List.mem_range] at hx
    obtain ⟨a, ha, rfl⟩ := hx
    have := List.idxOf_lt_length_of_mem (h4 p hp a ha)
    rw [List.length_map]; omega
  · have e := faOf_tab (tab (faOf st F R).d (faOf st F R).f k ord)
    rw [tab_rows] at e
    have e1 : (tab (faOf st F R).d (faOf st F R).f k ord).1 = ord.map (faOf st F R).f := rfl
    rw [e1] at e
    rw [e]
    exact (ofTab_hom hb hA.ok).2
end Go.Co
end

section
set_option linter.unusedVariables false
namespace Go.Co
open Go Go.Ev Go.EvW Go.Aut

def RowOk (L : Int) (n : Nat) (r : List Int) : Prop := (r.length : Int) = L ∧ ∀ x, x ∈ r → 0 ≤ x ∧ x < (n : Int)
instance (L : Int) (n : Nat) (r : List Int) : Decidable (RowOk L n r) := by unfold RowOk; infer_instance

/-- What an automaton is worth. -/
def validD (L st : Int) (F : List Bool) (R : List (List Int)) : Int :=
  if L < 1 ∨ 6 < L then 1
  else if 512 < F.length then 3
  else if F.length = 0 ∨ R.length ≠ F.length ∨ st < 0 ∨ (F.length : Int) ≤ st then 4
  else if ∀ r, r ∈ R → RowOk L F.length r then 0 else 4

theorem validD_bad {L st : Int} {F : List Bool} {R : List (List Int)} {r : List Int} (h1 : ¬ (L < 1 ∨ 6 < L)) (h2 : ¬ 512 < F.length) (hr : r ∈ R) (hb : ¬ RowOk L F.length r) : validD L st F R = 4 := by
  unfold validD
  rw [if_neg h1, if_neg h2]
  split
  · rfl
  · rw [if_neg fun h => hb (h r hr)]
theorem validD_ok {k : Nat} {st : Int} {F : List Bool} {R : List (List Int)} (h : AutOk k st F R) (hk : 1 ≤ k ∧ k ≤ 6) (hn : F.length ≤ 512) : validD ((k : Nat) : Int) st F R = 0 := by
  have hs := h.st
  have hl := h.len
  unfold validD
  rw [if_neg (by omega), if_neg (by omega), if_neg (by omega), if_pos fun r hr => ?_]
  have := h.row r hr
  exact ⟨by omega, this.2⟩
theorem validD_aut {L st : Int} {F : List Bool} {R : List (List Int)} (h : validD L st F R = 0) : ∃ k : Nat, L = ((k : Nat) : Int) ∧ 1 ≤ k ∧ k ≤ 6 ∧ F.length ≤ 512 ∧ AutOk k st F R := by
  unfold validD at h
  split at h
  · simp at h
  · split at h
    · simp at h
    · split at h
      · simp at h
      · split at h
        · rename_i h1 h2 h3 h4
          refine ⟨L.toNat, by omega, by omega, by omega, by omega, ⟨by omega, fun r hr => ⟨by have := (h4 r hr).1; omega, (h4 r hr).2⟩, by omega⟩⟩
        · simp at h
theorem take_geti {xs : List Int} {i : Nat} (h : i < xs.length) : xs.take (i + 1) = xs.take i ++ [geti xs (i : Nat)] := by
  rw [List.take_succ_eq_append_getElem h]
  simp [geti, h]
theorem take_getr {R : List (List Int)} {i : Nat} (h : i < R.length) : R.take (i + 1) = R.take i ++ [getr R (i : Nat)] := by
  rw [List.take_succ_eq_append_getElem h]
  simp [getr, h]
theorem take_getb {xs : List Bool} {i : Nat} (h : i < xs.length) : xs.take (i + 1) = xs.take i ++ [getb xs (i : Nat)] := by
  rw [List.take_succ_eq_append_getElem h]
  simp [getb, h]
end Go.Co
end

section
set_option linter.unusedVariables false
namespace Go.Co
open Go Go.Ev Go.EvW Go.Aut

theorem getD_geti (xs : List Int) (i : Nat) : geti xs (i : Nat) = xs.getD i 0 := by simp [geti]

/-- Two lists of numbers of classes, taken together. -/
def bothI (p q : List Nat) (n : Nat) : List Int := (List.range n).map fun i => ((p.getD i 0 : Nat) : Int) * (n + 1) + ((q.getD i 0 : Nat) : Int)

theorem bothI_length (p q : List Nat) (n : Nat) : (bothI p q n).length = n := by simp [bothI]
theorem bothI_get {p q : List Nat} {n i : Nat} (h : i < n) : (bothI p q n).getD i 0 = ((p.getD i 0 : Nat) : Int) * (n + 1) + ((q.getD i 0 : Nat) : Int) := by simp [bothI, h]

theorem bothI_eq {p q : List Nat} {n : Nat} (hq : ∀ i, i < n → q.getD i 0 ≤ n) {i j : Nat} (hi : i < n) (hj : j < n) : (bothI p q n).getD i 0 = (bothI p q n).getD j 0 ↔ p.getD i 0 = p.getD j 0 ∧ q.getD i 0 = q.getD j 0 := by
  rw [bothI_get hi, bothI_get hj]
  have h1 := hq i hi
  have h2 := hq j hj
  generalize p.getD i 0 = a at *
  generalize p.getD j 0 = b at *
  generalize q.getD i 0 = c at *
  generalize q.getD j 0 = d at *
  constructor
  · intro h
    have e : ((a : Nat) : Int) = ((b : Nat) : Int) := by
      have h3 := congrArg (· / ((n : Int) + 1)) h
      rw [Int.add_comm, Int.add_mul_ediv_right _ _ (by omega), Int.add_comm (_ * _), Int.add_mul_ediv_right _ _ (by omega), Int.ediv_eq_zero_of_lt (by omega) (by omega), Int.ediv_eq_zero_of_lt (by omega) (by omega)] at h3
      omega
    rw [e] at h
    exact ⟨by omega, by omega⟩
  · rintro ⟨rfl, rfl⟩; rfl

theorem both_number {p q : List Nat} {n : Nat} (hq : ∀ i, i < n → q.getD i 0 ≤ n) : (number (bothI p q n) 0).length = n ∧ First (number (bothI p q n) 0) ∧ ∀ i j, i < n → j < n → ((number (bothI p q n) 0).getD i 0 = (number (bothI p q n) 0).getD j 0 ↔ p.getD i 0 = p.getD j 0 ∧ q.getD i 0 = q.getD j 0) := by
  refine ⟨by rw [number_length, bothI_length], number_first _ _, fun i j hi hj => ?_⟩
  rw [number_eq (by rw [bothI_length]; exact hi) (by rw [bothI_length]; exact hj), bothI_eq hq hi hj]

theorem ordI_inj {a b : List Nat} (h : ordI a = ordI b) : a = b := by
  unfold ordI at h
  exact (List.map_inj_right (fun x y e => by omega)).1 h
end Go.Co
end

section
namespace Go.Co
open Go Go.Ev Go.EvW Go.Aut
def accC (F : List Bool) : List Nat := F.map fun f => if f then 1 else 0
theorem accC_length (F : List Bool) : (accC F).length = F.length := by simp [accC]
theorem accC_get {F : List Bool} {i : Nat} (h : i < F.length) : (accC F).getD i 0 = if F.getD i false then 1 else 0 := by simp [accC, h]
theorem accC_coarse {k : Nat} {st : Int} {F : List Bool} {R : List (List Int)} : Coarse k (faOf st F R) (number (ordI (accC F)) 0) := by
  have key : ∀ p q, p < F.length → q < F.length → ((number (ordI (accC F)) 0).getD p 0 = (number (ordI (accC F)) 0).getD q 0 ↔ F.getD p false = F.getD q false) := fun p q hp hq => by
    rw [number_eq (by rw [ordI_length, accC_length]; exact hp) (by rw [ordI_length, accC_length]; exact hq), ← getD_geti, ← getD_geti, geti_ordI, geti_ordI, accC_get hp, accC_get hq]
    generalize F.getD p false = x
    generalize F.getD q false = y
    cases x <;> cases y <;> simp
  exact ⟨fun p q hp hq h => (key p q hp hq).2 h.fin, fun p q hp hq h => (key p q hp hq).1 h⟩
theorem reps_le' (cl : List Nat) : ∀ n, (reps cl n).length ≤ n := reps_le cl
theorem first_le {p : List Nat} {n : Nat} (h : First p) (hl : p.length = n) (i : Nat) (hi : i < n) : p.getD i 0 ≤ n := by
  have h1 := h i (by omega)
  have h2 := reps_le p i
  omega
end Go.Co
end

section
namespace Go.Co
open Go Go.Ev Go.EvW Go.Aut
/-- Which states were met. -/
def metF (n : Nat) (ord : List Nat) : List Bool := (List.range n).map fun q => decide (q ∈ ord)
theorem metF_length (n : Nat) (ord : List Nat) : (metF n ord).length = n := by simp [metF]
theorem metF_nil (n : Nat) : metF n [] = List.replicate n false := by apply List.ext_getElem <;> simp [metF]
theorem metF_get {n q : Nat} {ord : List Nat} (h : q < n) : getb (metF n ord) (q : Nat) = decide (q ∈ ord) := by simp [metF, getb, h]
theorem metF_push {n q : Nat} {ord : List Nat} : (metF n ord).set q true = metF n (ord ++ [q]) := by
  apply List.ext_getElem
  · simp [metF]
  · intro j h1 h2
    rw [List.getElem_set]
    by_cases e : q = j
    · subst e; rw [if_pos rfl]; simp [metF]
    · rw [if_neg e]
      have e' : ¬ j = q := fun h => e h.symm
      simp [metF, e']
theorem gets_mem {xs : List (List UInt8)} {i : Nat} (h : i < xs.length) : gets xs (i : Nat) ∈ xs := by simp [gets, h]
theorem scan_sub {d : Nat → Nat → Nat} {p a : Nat} {ord : List Nat} {n : Nat} (hl : ∀ q, q ∈ ord → q < n) (hd : ∀ b, b < a → d p b < n) : ∀ q, q ∈ scan d p a ord → q < n := fun q hq => by
  rcases mem_scan.1 hq with hq | ⟨b, hb, rfl⟩
  · exact hl q hq
  · exact hd b hb
theorem scan_get {d : Nat → Nat → Nat} {p a : Nat} {ord : List Nat} {i : Nat} (hi : i < ord.length) : i < (scan d p a ord).length ∧ geti (ordI (scan d p a ord)) ((i : Nat) : Int) = ((ord.getD i 0 : Nat) : Int) := by
  obtain ⟨t, ht⟩ := scan_prefix d p a ord
  have h1 : i < (scan d p a ord).length := by rw [ht, List.length_append]; omega
  refine ⟨h1, ?_⟩
  rw [ordI_get h1, ht]
  simp [List.getElem?_append_left hi]
theorem convB (n : Int) (h : 0 ≤ n ∧ n < 256) : IntKind.u8.wrap n = (((UInt8.ofNat n.toNat).toNat : Nat) : Int) := by rw [wrap_u8]; simp; omega
end Go.Co
end

section
namespace Go.Co
open Go Go.Ev Go.EvW

/-- The number of combinations, cut off. -/
def sizeL : List Int → List Int → Int → Int
  | i :: is, p :: ps, n => if i > 2000 ∨ p > 2000 then 2001 else sizeL is ps (min (n * (i + p)) 2001)
  | _, _, n => n

/-- Indices and periods in order. -/
def Good (idx per : List Int) : Prop := idx.length = per.length ∧ (∀ n ∈ idx, 0 ≤ n) ∧ ∀ n ∈ per, 1 ≤ n

def prod : List Int → Int
  | [] => 1
  | m :: ms => m * prod ms

def mods (idx per : List Int) : List Int := List.zipWith (· + ·) idx per

theorem prod_pos : ∀ {ms : List Int}, (∀ m ∈ ms, 1 ≤ m) → 1 ≤ prod ms
  | [], _ => Int.le_refl _
  | m :: ms, h => by
    have h1 := prod_pos (ms := ms) fun x hx => h x (List.mem_cons_of_mem _ hx)
    have h2 := h m (List.mem_cons_self ..)
    have := Int.mul_le_mul h2 h1 (by omega) (by omega)
    simp only [prod]; omega

theorem prod_append : ∀ (a b : List Int), prod (a ++ b) = prod a * prod b
  | [], b => by simp [prod]
  | m :: a, b => by simp only [List.cons_append, prod, prod_append a b, Int.mul_assoc]

theorem mods_pos {idx per : List Int} (h : Good idx per) : ∀ m ∈ mods idx per, 1 ≤ m := by
  obtain ⟨hl, h1, h2⟩ := h
  unfold mods
  induction idx generalizing per with
  | nil => intro m hm; simp at hm
  | cons i is ih =>
    cases per with
    | nil => intro m hm; simp at hm
    | cons p ps =>
      intro m hm
      simp only [List.zipWith_cons_cons, List.mem_cons] at hm
      rcases hm with rfl | hm
      · have := h1 i (List.mem_cons_self ..); have := h2 p (List.mem_cons_self ..); omega
      · exact ih (by simpa using hl) (fun x hx => h1 x (List.mem_cons_of_mem _ hx)) (fun x hx => h2 x (List.mem_cons_of_mem _ hx)) m hm

theorem sizeL_eq : ∀ {idx per : List Int} {n : Int}, Good idx per → 1 ≤ n → n ≤ 2001 → sizeL idx per n = if n * prod (mods idx per) ≤ 2000 then n * prod (mods idx per) else 2001
  | [], per, n, h, h1, h2 => by
    simp only [sizeL, mods, List.zipWith_nil_left, prod, Int.mul_one]
    split <;> omega
  | i :: is, [], n, h, h1, h2 => by obtain ⟨hl, _⟩ := h; simp at hl
  | i :: is, p :: ps, n, h, h1, h2 => by
    obtain ⟨hl, h3, h4⟩ := h
    have hi := h3 i (List.mem_cons_self ..)
    have hp := h4 p (List.mem_cons_self ..)
    have hg : Good is ps := ⟨by simpa using hl, fun x hx => h3 x (List.mem_cons_of_mem _ hx), fun x hx => h4 x (List.mem_cons_of_mem _ hx)⟩
    have hr := prod_pos (mods_pos hg)
    have e : mods (i :: is) (p :: ps) = (i + p) :: mods is ps := rfl
    simp only [sizeL, e, prod]
    have hbig : ∀ z : Int, 2001 ≤ z → ¬ z * prod (mods is ps) ≤ 2000 := fun z hz => by
      have := Int.mul_le_mul hz hr (by omega) (by omega)
      omega
    have ha : n * ((i + p) * prod (mods is ps)) = n * (i + p) * prod (mods is ps) := (Int.mul_assoc ..).symm
    rw [ha]
    have hnm : n * (i + p) ≥ i + p := by
      have := Int.mul_le_mul_of_nonneg_right h1 (show 0 ≤ i + p by omega)
      omega
    split
    · rw [if_neg (hbig _ (by omega))]
    · by_cases hz : n * (i + p) ≤ 2001
      · rw [Int.min_eq_left hz, sizeL_eq hg (by omega) hz]
      · rw [Int.min_eq_right (by omega), sizeL_eq hg (by omega) (by omega), if_neg (hbig 2001 (by omega)), if_neg (hbig _ (by omega))]

/-- The number of a combination after one more letter. -/
def nextF (idx per : List Int) (at' a : Int) : Int :=
  if at' / prod ((mods idx per).drop (a + 1).toNat) % (geti idx a + geti per a) + 1 = geti idx a + geti per a
  then at' - (at' / prod ((mods idx per).drop (a + 1).toNat) % (geti idx a + geti per a) - geti idx a) * prod ((mods idx per).drop (a + 1).toNat)
  else at' + prod ((mods idx per).drop (a + 1).toNat)

theorem mods_length {idx per : List Int} (h : Good idx per) : (mods idx per).length = idx.length := by
  simp [mods, h.1]

theorem mods_drop {idx per : List Int} (h : Good idx per) {i : Nat} (hi : i < idx.length) : (mods idx per).drop i = (geti idx (i : Nat) + geti per (i : Nat)) :: (mods idx per).drop (i + 1) := by
  have h2 : i < per.length := by rw [← h.1]; exact hi
  have h3 : i < (mods idx per).length := by rw [mods_length h]; exact hi
  rw [List.drop_eq_getElem_cons h3]
  simp [mods, geti, hi, h2]

theorem prod_drop_le {idx per : List Int} (h : Good idx per) (i : Nat) : 1 ≤ prod ((mods idx per).drop i) ∧ prod ((mods idx per).drop i) ≤ prod (mods idx per) := by
  have hp := mods_pos h
  have h1 := prod_pos (ms := (mods idx per).drop i) fun m hm => hp m (List.mem_of_mem_drop hm)
  have h2 := prod_pos (ms := (mods idx per).take i) fun m hm => hp m (List.mem_of_mem_take hm)
  have h3 : prod (mods idx per) = prod ((mods idx per).take i) * prod ((mods idx per).drop i) := by rw [← prod_append, List.take_append_drop]
  refine ⟨h1, ?_⟩
  rw [h3]
  have := Int.mul_le_mul_of_nonneg_right h2 (show 0 ≤ prod ((mods idx per).drop i) by omega)
  omega

/-- A valid word over some letters. -/
def WordOk (w : List UInt8) (k : Int) : Prop := 1 ≤ k ∧ k ≤ 6 ∧ w.length ≤ 2048 ∧ ∀ c ∈ w, 97 ≤ c.toNat ∧ (c.toNat : Int) - 97 < k
instance (w : List UInt8) (k : Int) : Decidable (WordOk w k) := by unfold WordOk; infer_instance

/-! ### the number of a combination, by the numbers of the letters -/

def asF (n i p : Int) : Int := if n < i then n else i + (n - i) % p

def encA : List Int → List Int → List Int → Int
  | i :: is, p :: ps, n :: ns => asF n i p * prod (mods is ps) + encA is ps ns
  | _, _, _ => 0

theorem Good.tail {i p : Int} {is ps : List Int} (h : Good (i :: is) (p :: ps)) : Good is ps ∧ 0 ≤ i ∧ 1 ≤ p :=
  ⟨⟨by simpa using h.1, fun x hx => h.2.1 x (List.mem_cons_of_mem _ hx), fun x hx => h.2.2 x (List.mem_cons_of_mem _ hx)⟩, h.2.1 i (List.mem_cons_self ..), h.2.2 p (List.mem_cons_self ..)⟩

theorem asF_range {n i p : Int} (hn : 0 ≤ n) (hi : 0 ≤ i) (hp : 1 ≤ p) : 0 ≤ asF n i p ∧ asF n i p < i + p := by
  have h1 := Int.emod_nonneg (n - i) (show p ≠ 0 by omega)
  have h2 := Int.emod_lt_of_pos (n - i) (show 0 < p by omega)
  unfold asF
  split <;> omega

theorem asF_succ {n i p : Int} (hn : 0 ≤ n) (hi : 0 ≤ i) (hp : 1 ≤ p) : asF (n + 1) i p = if asF n i p + 1 = i + p then i else asF n i p + 1 := by
  have h1 := Int.emod_nonneg (n - i) (show p ≠ 0 by omega)
  have h2 := Int.emod_lt_of_pos (n - i) (show 0 < p by omega)
  unfold asF
  by_cases h : n < i
  · rw [if_pos h, if_neg (show ¬ (n + 1 = i + p) by omega)]
    split
    · rfl
    · rw [show n + 1 - i = 0 by omega]; simp; omega
  · rw [if_neg h, if_neg (by omega)]
    have e : n + 1 - i = (n - i) + 1 := by omega
    rw [e, Int.add_emod]
    by_cases hq : (n - i) % p = p - 1
    · rw [if_pos (by omega), hq]
      by_cases hp1 : p = 1
      · subst hp1; simp [Int.emod_one]
      · rw [Int.emod_eq_of_lt (show (0:Int) ≤ 1 by omega) (by omega), show p - 1 + 1 = p by omega, Int.emod_self]; omega
    · rw [if_neg (by omega)]
      by_cases hp1 : p = 1
      · omega
      · rw [Int.emod_eq_of_lt (show (0:Int) ≤ 1 by omega) (by omega), Int.emod_eq_of_lt (by omega) (by omega)]; omega

theorem encA_range : ∀ {idx per ns : List Int}, Good idx per → (∀ n ∈ ns, 0 ≤ n) → ns.length = idx.length → 0 ≤ encA idx per ns ∧ encA idx per ns < prod (mods idx per)
  | [], per, ns, h, hn, hl => by simp [encA, mods, prod]
  | i :: is, [], ns, h, hn, hl => by have := h.1; simp at this
  | i :: is, p :: ps, [], h, hn, hl => by simp at hl
  | i :: is, p :: ps, n :: ns, h, hn, hl => by
    obtain ⟨hg, hi, hp⟩ := h.tail
    have ih := encA_range (ns := ns) hg (fun x hx => hn x (List.mem_cons_of_mem _ hx)) (by simpa using hl)
    have ha := asF_range (hn n (List.mem_cons_self ..)) hi hp
    have e : mods (i :: is) (p :: ps) = (i + p) :: mods is ps := rfl
    simp only [encA, e, prod]
    generalize prod (mods is ps) = u at *
    generalize asF n i p = d at *
    have h1 : 0 ≤ d * u := Int.mul_nonneg ha.1 (by omega)
    have h2 : (d + 1) * u ≤ (i + p) * u := Int.mul_le_mul_of_nonneg_right (by omega) (by omega)
    rw [Int.add_mul, Int.one_mul] at h2
    omega

theorem geti_cons_zero (x : Int) (xs : List Int) : geti (x :: xs) 0 = x := rfl
theorem geti_cons_succ (x : Int) (xs : List Int) (a : Nat) : geti (x :: xs) ((a : Int) + 1) = geti xs a := by
  unfold geti
  rw [show ((a : Int) + 1).toNat = a + 1 by omega]
  simp

theorem nextF_zero {i p : Int} {is ps : List Int} {d e : Int} (hd : 0 ≤ d ∧ d < i + p) (he : 0 ≤ e ∧ e < prod (mods is ps)) :
    nextF (i :: is) (p :: ps) (d * prod (mods is ps) + e) 0 = (if d + 1 = i + p then i else d + 1) * prod (mods is ps) + e := by
  have ed : (mods (i :: is) (p :: ps)).drop ((0 : Int) + 1).toNat = mods is ps := rfl
  unfold nextF
  rw [ed, geti_cons_zero, geti_cons_zero]
  generalize prod (mods is ps) = u at *
  have e1 : (d * u + e) / u = d := by
    rw [Int.add_comm, Int.add_mul_ediv_right _ _ (by omega), Int.ediv_eq_zero_of_lt he.1 he.2]; omega
  rw [e1, Int.emod_eq_of_lt hd.1 hd.2]
  split
  · rw [Int.sub_mul]; omega
  · rw [Int.add_mul]; omega

theorem nextF_succ {i p : Int} {is ps : List Int} (hg : Good is ps) {d e : Int} {a : Nat} (ha : a < is.length) :
    nextF (i :: is) (p :: ps) (d * prod (mods is ps) + e) ((a : Int) + 1) = d * prod (mods is ps) + nextF is ps e a := by
  have ed : (mods (i :: is) (p :: ps)).drop ((a : Int) + 1 + 1).toNat = (mods is ps).drop ((a : Int) + 1).toNat := by
    rw [show ((a : Int) + 1 + 1).toNat = a + 2 by omega, show ((a : Int) + 1).toNat = a + 1 by omega]; rfl
  have hap : a < ps.length := by rw [← hg.1]; exact ha
  unfold nextF
  rw [ed, geti_cons_succ, geti_cons_succ, show ((a : Int) + 1).toNat = a + 1 by omega]
  have hm : (mods is ps).drop a = (geti is a + geti ps a) :: (mods is ps).drop (a + 1) := mods_drop hg ha
  have hu : prod (mods is ps) = prod ((mods is ps).take a) * ((geti is a + geti ps a) * prod ((mods is ps).drop (a + 1))) := by
    have : prod (mods is ps) = prod ((mods is ps).take a) * prod ((mods is ps).drop a) := by rw [← prod_append, List.take_append_drop]
    rw [this, hm]; rfl
  have hu1 := (prod_drop_le hg (a + 1)).1
  have hm1 : 1 ≤ geti is a + geti ps a := by
    have := hg.2.1 _ (geti_mem (xs := is) (i := a) (by omega) (by omega))
    have := hg.2.2 _ (geti_mem (xs := ps) (i := a) (by omega) (by omega))
    omega
  generalize prod ((mods is ps).drop (a + 1)) = u at *
  generalize geti is a + geti ps a = m at *
  generalize prod ((mods is ps).take a) = q at *
  generalize prod (mods is ps) = z at *
  have e1 : (d * z + e) / u % m = e / u % m := by
    have e2 : d * z + e = e + (d * q * m) * u := by rw [hu]; simp only [Int.mul_assoc]; omega
    rw [e2, Int.add_mul_ediv_right _ _ (by omega), Int.add_mul_emod_self_right]
  rw [e1]
  split <;> omega

theorem nextF_enc : ∀ {idx per ns : List Int} {a : Nat}, Good idx per → (∀ n ∈ ns, 0 ≤ n) → ns.length = idx.length → a < idx.length →
    nextF idx per (encA idx per ns) a = encA idx per (ns.set a (geti ns a + 1))
  | [], per, ns, a, h, hn, hl, ha => by simp at ha
  | i :: is, [], ns, a, h, hn, hl, ha => by have := h.1; simp at this
  | i :: is, p :: ps, [], a, h, hn, hl, ha => by simp at hl
  | i :: is, p :: ps, n :: ns, a, h, hn, hl, ha => by
    obtain ⟨hg, hi, hp⟩ := h.tail
    have hr := encA_range (ns := ns) hg (fun x hx => hn x (List.mem_cons_of_mem _ hx)) (by simpa using hl)
    have hn0 := hn n (List.mem_cons_self ..)
    have hd := asF_range hn0 hi hp
    cases a with
    | zero =>
      simp only [encA, List.set_cons_zero]
      rw [show ((0 : Nat) : Int) = 0 from rfl, nextF_zero hd hr, geti_cons_zero, asF_succ hn0 hi hp]
    | succ a =>
      simp only [encA, List.set_cons_succ]
      rw [show ((a + 1 : Nat) : Int) = (a : Int) + 1 by omega, nextF_succ hg (by simpa using ha), geti_cons_succ, nextF_enc hg (fun x hx => hn x (List.mem_cons_of_mem _ hx)) (by simpa using hl) (by simpa using ha)]

/-- How often letter 'a' occurs. -/
def cnt (w : List UInt8) (a : Nat) : Int := ((w.countP fun c => c.toNat == 97 + a : Nat) : Int)
def cnts (k : Nat) (w : List UInt8) : List Int := (List.range k).map (cnt w)

theorem cnts_length (k : Nat) (w : List UInt8) : (cnts k w).length = k := by simp [cnts]
theorem cnts_nonneg (k : Nat) (w : List UInt8) : ∀ n ∈ cnts k w, 0 ≤ n := by
  intro n hn
  simp only [cnts, List.mem_map] at hn
  obtain ⟨a, _, rfl⟩ := hn
  unfold cnt; omega
theorem cnts_snoc {k : Nat} {w : List UInt8} {c : UInt8} {a : Nat} (hc : c.toNat = 97 + a) : cnts k (w ++ [c]) = (cnts k w).set a (geti (cnts k w) a + 1) := by
  apply List.ext_getElem
  · simp [cnts]
  · intro j h1 h2
    have hj : j < k := by simpa [cnts] using h1
    rw [List.getElem_set]
    by_cases e : a = j
    · subst e
      rw [if_pos rfl]
      simp [cnts, cnt, geti, hj, List.countP_append, hc]
    · rw [if_neg e]
      have : ¬ c.toNat = 97 + j := by omega
      simp [cnts, cnt, List.countP_append, this]

theorem encA_nil : ∀ {idx per : List Int} {k : Nat}, Good idx per → encA idx per (List.replicate k 0) = 0
  | [], per, k, h => by simp [encA]
  | i :: is, [], k, h => by have := h.1; simp at this
  | i :: is, p :: ps, 0, h => by simp [encA]
  | i :: is, p :: ps, k + 1, h => by
    obtain ⟨hg, hi, hp⟩ := h.tail
    rw [List.replicate_succ]
    simp only [encA]
    rw [encA_nil hg]
    unfold asF
    split
    · simp
    · rw [show i = 0 by omega]; simp

theorem cnts_nil (k : Nat) : cnts k [] = List.replicate k 0 := by
  apply List.ext_getElem <;> simp [cnts, cnt]

/-- What counters are worth. -/
def validF (idx per : List Int) (acc : Nat) : Int :=
  if idx.length < 1 ∨ 6 < idx.length then 1
  else if per.length ≠ idx.length then 22
  else if ∃ i, i < idx.length ∧ (geti idx (i : Nat) < 0 ∨ geti per (i : Nat) < 1) then 22
  else if 2000 < prod (mods idx per) then 3
  else if (acc : Int) ≠ prod (mods idx per) then 22 else 0

theorem validF_good {idx per : List Int} {acc : Nat} (h : validF idx per acc = 0) : Good idx per ∧ 1 ≤ idx.length ∧ idx.length ≤ 6 ∧ prod (mods idx per) ≤ 2000 ∧ (acc : Int) = prod (mods idx per) := by
  unfold validF at h
  split at h
  · simp at h
  · split at h
    · simp at h
    · split at h
      · simp at h
      · split at h
        · simp at h
        · split at h
          · simp at h
          · rename_i h1 h2 h3 h4 h5
            refine ⟨⟨by omega, fun n hn => ?_, fun n hn => ?_⟩, by omega, by omega, by omega, by omega⟩
            · obtain ⟨j, hj, rfl⟩ := List.getElem_of_mem hn
              refine Int.not_lt.1 fun hlt => h3 ⟨j, hj, .inl ?_⟩
              simpa [geti, hj] using hlt
            · obtain ⟨j, hj, rfl⟩ := List.getElem_of_mem hn
              refine Int.not_lt.1 fun hlt => h3 ⟨j, by omega, .inr ?_⟩
              simpa [geti, hj] using hlt

theorem good_of {idx per : List Int} (hl : per.length = idx.length) (h : ∀ i, i < idx.length → 0 ≤ geti idx (i : Nat) ∧ 1 ≤ geti per (i : Nat)) : Good idx per := by
  refine ⟨hl.symm, fun n hn => ?_, fun n hn => ?_⟩
  · obtain ⟨j, hj, rfl⟩ := List.getElem_of_mem hn
    have := (h j hj).1
    simpa [geti, hj] using this
  · obtain ⟨j, hj, rfl⟩ := List.getElem_of_mem hn
    have := (h j (by omega)).2
    simpa [geti, hj] using this

def matchF (idx per : List Int) (acc : List Bool) (w : List UInt8) : Bool :=
  decide (validF idx per acc.length = 0) && decide (WordOk w idx.length) && getb acc (encA idx per (cnts idx.length w))


/-- Two words with the same letters. -/
def SameW (xs ys : List UInt8) : Prop := xs.length = ys.length ∧ ∀ p : UInt8 → Bool, xs.countP p = ys.countP p

theorem SameW.match_eq {xs ys : List UInt8} (h : SameW xs ys) (idx per : List Int) (acc : List Bool) : matchF idx per acc xs = matchF idx per acc ys := by
  have hc : cnts idx.length xs = cnts idx.length ys := by
    unfold cnts
    refine List.map_congr_left fun a _ => ?_
    unfold cnt
    rw [h.2]
  have hall : ∀ k : Int, (∀ c ∈ xs, 97 ≤ c.toNat ∧ (c.toNat : Int) - 97 < k) ↔ (∀ c ∈ ys, 97 ≤ c.toNat ∧ (c.toNat : Int) - 97 < k) := fun k => by
    have e : ∀ zs : List UInt8, (∀ c ∈ zs, 97 ≤ c.toNat ∧ (c.toNat : Int) - 97 < k) ↔ zs.countP (fun c => decide (97 ≤ c.toNat ∧ (c.toNat : Int) - 97 < k)) = zs.length := fun zs => by
      rw [List.countP_eq_length]; simp
    rw [e, e, h.2, h.1]
  have hw : WordOk xs idx.length ↔ WordOk ys idx.length := by
    unfold WordOk
    rw [h.1, hall]
  unfold matchF
  rw [hc, decide_eq_decide.2 hw]

theorem SameW.swap {xs ys : List UInt8} (h : SameW xs ys) {i j : Int} (hi : 0 ≤ i ∧ i < xs.length) (hj : 0 ≤ j ∧ j < xs.length) : SameW ((xs.set i.toNat (getu xs j)).set j.toNat (getu xs i)) ys := by
  refine ⟨by simpa using h.1, fun p => ?_⟩
  rw [← h.2]
  have hi' : i.toNat < xs.length := by omega
  have hj' : j.toNat < xs.length := by omega
  rw [List.countP_set (by simpa using hj'), List.countP_set hi']
  have e1 : getu xs i = xs[i.toNat] := by simp [getu, hi']
  have e2 : getu xs j = xs[j.toNat] := by simp [getu, hj']
  rw [e1, e2, List.getElem_set]
  have c1 : xs.countP p ≥ if p xs[i.toNat] = true then 1 else 0 := by
    split
    · rename_i hp; exact List.countP_pos_iff.2 ⟨_, List.getElem_mem hi', hp⟩
    · omega
  have c2 : xs.countP p ≥ if p xs[j.toNat] = true then 1 else 0 := by
    split
    · rename_i hp; exact List.countP_pos_iff.2 ⟨_, List.getElem_mem hj', hp⟩
    · omega
  by_cases e : i.toNat = j.toNat
  · simp only [e, if_true]
    simp only [e] at c1
    omega
  · rw [if_neg e]
    generalize (if p xs[i.toNat] = true then 1 else 0) = a at *
    generalize (if p xs[j.toNat] = true then 1 else 0) = b at *
    omega
end Go.Co
end

section
namespace Go.Co
open Go Go.Ev Go.EvW Go.Aut

theorem mods_take (idx per : List Int) (i : Nat) : (mods idx per).take i = mods (idx.take i) (per.take i) := by
  simp [mods, List.take_zipWith]
theorem Good.take {idx per : List Int} (h : Good idx per) (i : Nat) : Good (idx.take i) (per.take i) :=
  ⟨by simp [h.1], fun n hn => h.2.1 n (List.mem_of_mem_take hn), fun n hn => h.2.2 n (List.mem_of_mem_take hn)⟩
theorem mods_take_succ {idx per : List Int} (h : Good idx per) {i : Nat} (hi : i < idx.length) : (mods idx per).take (i + 1) = (mods idx per).take i ++ [geti idx (i : Nat) + geti per (i : Nat)] := by
  have h3 : i < (mods idx per).length := by rw [mods_length h]; exact hi
  have h2 : i < per.length := by rw [← h.1]; exact hi
  rw [List.take_succ_eq_append_getElem h3]
  simp [mods, geti, hi, h2]
theorem prod_take_le {idx per : List Int} (h : Good idx per) (i : Nat) : 1 ≤ prod ((mods idx per).take i) ∧ prod ((mods idx per).take i) ≤ prod (mods idx per) := by
  have hp := mods_pos h
  have h1 := prod_pos (ms := (mods idx per).drop i) fun m hm => hp m (List.mem_of_mem_drop hm)
  have h2 := prod_pos (ms := (mods idx per).take i) fun m hm => hp m (List.mem_of_mem_take hm)
  have h3 : prod (mods idx per) = prod ((mods idx per).take i) * prod ((mods idx per).drop i) := by rw [← prod_append, List.take_append_drop]
  refine ⟨h2, ?_⟩
  rw [h3]
  have := Int.mul_le_mul_of_nonneg_left h1 (show 0 ≤ prod ((mods idx per).take i) by omega)
  omega
theorem prod_snoc (a : List Int) (m : Int) : prod (a ++ [m]) = prod a * m := by rw [prod_append]; simp [prod]
theorem good_get {idx per : List Int} (h : Good idx per) {i : Nat} (hi : i < idx.length) : 0 ≤ geti idx (i : Nat) ∧ 1 ≤ geti per (i : Nat) ∧ geti idx (i : Nat) + geti per (i : Nat) ≤ prod (mods idx per) := by
  have h1 := h.2.1 _ (geti_mem (xs := idx) (i := (i : Nat)) (by omega) (by omega))
  have h2 := h.2.2 _ (geti_mem (xs := per) (i := (i : Nat)) (by omega) (by have := h.1; omega))
  refine ⟨h1, h2, ?_⟩
  have h3 := prod_take_le h (i + 1)
  rw [mods_take_succ h hi, prod_snoc] at h3
  have h4 := prod_take_le h i
  have h5 := Int.mul_le_mul_of_nonneg_right h4.1 (show 0 ≤ geti idx (i : Nat) + geti per (i : Nat) by omega)
  omega
theorem prod_step {idx per : List Int} (h : Good idx per) {i : Nat} (hi : i < idx.length) : prod ((mods idx per).take (i + 1)) = prod ((mods idx per).take i) * (geti idx (i : Nat) + geti per (i : Nat)) := by
  rw [mods_take_succ h hi, prod_snoc]
theorem prod_full {idx per : List Int} (h : Good idx per) : (mods idx per).take idx.length = mods idx per := by
  rw [List.take_of_length_le (by rw [mods_length h]; omega)]

/-- The number of a combination is read from the left. -/
theorem encA_snoc : ∀ {is ps ns : List Int} {i p n : Int}, is.length = ps.length → ns.length = is.length →
    encA (is ++ [i]) (ps ++ [p]) (ns ++ [n]) = encA is ps ns * (i + p) + asF n i p
  | [], [], [], i, p, n, _, _ => by simp [encA, mods, prod]
  | [], _ :: _, _, _, _, _, h, _ => by simp at h
  | _ :: _, [], _, _, _, _, h, _ => by simp at h
  | [], [], _ :: _, _, _, _, _, h => by simp at h
  | _ :: _, _ :: _, [], _, _, _, _, h => by simp at h
  | j :: is, q :: ps, m :: ns, i, p, n, h1, h2 => by
    have ih := encA_snoc (is := is) (ps := ps) (ns := ns) (i := i) (p := p) (n := n) (by simpa using h1) (by simpa using h2)
    simp only [List.cons_append, encA, ih]
    have e : prod (mods (is ++ [i]) (ps ++ [p])) = prod (mods is ps) * (i + p) := by
      unfold mods
      rw [List.zipWith_append (by simpa using h1), prod_append]; simp [prod]
    rw [e, Int.add_mul, ← Int.mul_assoc, Int.add_assoc]
theorem take_snoc_geti {xs : List Int} {i : Nat} (h : i < xs.length) : xs.take (i + 1) = xs.take i ++ [geti xs (i : Nat)] := by
  rw [List.take_succ_eq_append_getElem h]; simp [geti, h]
theorem encA_step {idx per ns : List Int} (h : Good idx per) (hl : ns.length = idx.length) {i : Nat} (hi : i < idx.length) :
    encA (idx.take (i + 1)) (per.take (i + 1)) (ns.take (i + 1)) = encA (idx.take i) (per.take i) (ns.take i) * (geti idx (i : Nat) + geti per (i : Nat)) + asF (geti ns (i : Nat)) (geti idx (i : Nat)) (geti per (i : Nat)) := by
  have := h.1
  rw [take_snoc_geti hi, take_snoc_geti (xs := per) (by omega), take_snoc_geti (xs := ns) (by omega), encA_snoc (by simp; omega) (by simp; omega)]
theorem encA_take_range {idx per ns : List Int} (h : Good idx per) (hl : ns.length = idx.length) (hn : ∀ n ∈ ns, 0 ≤ n) (i : Nat) :
    0 ≤ encA (idx.take i) (per.take i) (ns.take i) ∧ encA (idx.take i) (per.take i) (ns.take i) < prod (mods idx per) := by
  have h1 := encA_range (idx := idx.take i) (per := per.take i) (ns := ns.take i) (h.take i) (fun n hn2 => hn n (List.mem_of_mem_take hn2)) (by simp [hl])
  have h2 := prod_take_le h i
  rw [mods_take] at h2
  omega

/-! ### the digits of a number -/

def digF (idx per : List Int) (x : Int) (a : Nat) : Int := x / prod ((mods idx per).drop (a + 1)) % (geti idx (a : Nat) + geti per (a : Nat))
def digs (idx per : List Int) (x : Int) : List Int := (List.range idx.length).map (digF idx per x)

theorem digs_length (idx per : List Int) (x : Int) : (digs idx per x).length = idx.length := by simp [digs]
theorem digs_get {idx per : List Int} {x : Int} {a : Nat} (h : a < idx.length) : geti (digs idx per x) (a : Nat) = digF idx per x a := by simp [digs, geti, h]
theorem digF_range {idx per : List Int} (h : Good idx per) (x : Int) {a : Nat} (ha : a < idx.length) : 0 ≤ digF idx per x a ∧ digF idx per x a < geti idx (a : Nat) + geti per (a : Nat) := by
  have hg := good_get h ha
  exact ⟨Int.emod_nonneg _ (by omega), Int.emod_lt_of_pos _ (by omega)⟩
theorem digs_range {idx per : List Int} (h : Good idx per) (x : Int) : ∀ n ∈ digs idx per x, 0 ≤ n ∧ n < prod (mods idx per) := by
  intro n hn
  simp only [digs, List.mem_map, List.mem_range] at hn
  obtain ⟨a, ha, rfl⟩ := hn
  have h1 := digF_range h x ha
  have h2 := good_get h ha
  omega
theorem emod_mul {x m u : Int} (hx : 0 ≤ x) (hm : 1 ≤ m) (hu : 1 ≤ u) : x % (m * u) = x / u % m * u + x % u := by
  have h1 := Int.emod_nonneg x (show u ≠ 0 by omega)
  have h2 := Int.emod_lt_of_pos x (show 0 < u by omega)
  have h3 := Int.emod_nonneg (x / u) (show m ≠ 0 by omega)
  have h4 := Int.emod_lt_of_pos (x / u) (show 0 < m by omega)
  have e1 := Int.mul_ediv_add_emod x u
  have e2 := Int.mul_ediv_add_emod (x / u) m
  generalize x / u = q at *
  generalize q % m = r at *
  generalize q / m = z at *
  generalize x % u = y at *
  have e3 : x = (r * u + y) + (m * u) * z := by
    rw [← e1, ← e2, Int.mul_add]
    rw [show u * (m * z) = m * u * z by rw [Int.mul_left_comm, Int.mul_assoc], Int.mul_comm u r]
    omega
  have hb : r * u ≤ (m - 1) * u := Int.mul_le_mul_of_nonneg_right (by omega) (by omega)
  rw [Int.sub_mul, Int.one_mul] at hb
  have hr : 0 ≤ r * u := Int.mul_nonneg h3 (by omega)
  rw [e3, Int.add_mul_emod_self_left, Int.emod_eq_of_lt (by omega) (by omega)]
theorem asF_small {n i p : Int} (h0 : 0 ≤ n) (h : n < i + p) : asF n i p = n := by
  unfold asF
  split
  · rfl
  · rw [Int.emod_eq_of_lt (by omega) (by omega)]; omega
theorem encA_digs : ∀ {idx per : List Int} {x : Int}, Good idx per → 0 ≤ x → encA idx per (digs idx per x) = x % prod (mods idx per)
  | [], per, x, h, hx => by simp [encA, mods, prod, Int.emod_one]
  | i :: is, [], x, h, hx => by have := h.1; simp at this
  | i :: is, p :: ps, x, h, hx => by
    obtain ⟨hg, hi, hp⟩ := h.tail
    have ih := encA_digs (x := x) hg hx
    have e : mods (i :: is) (p :: ps) = (i + p) :: mods is ps := rfl
    have hd : digs (i :: is) (p :: ps) x = (x / prod (mods is ps) % (i + p)) :: digs is ps x := by
      unfold digs
      rw [List.length_cons, List.range_succ_eq_map, List.map_cons, List.map_map]
      have e0 : digF (i :: is) (p :: ps) x 0 = x / prod (mods is ps) % (i + p) := rfl
      rw [e0, List.cons.injEq]
      refine ⟨rfl, List.map_congr_left fun a _ => ?_⟩
      show digF (i :: is) (p :: ps) x (a + 1) = digF is ps x a
      unfold digF
      rw [e, List.drop_succ_cons, show ((a + 1 : Nat) : Int) = (a : Int) + 1 by omega, geti_cons_succ, geti_cons_succ]
    have hu := prod_pos (mods_pos hg)
    rw [hd]
    simp only [encA, e, prod]
    rw [asF_small (Int.emod_nonneg _ (by omega)) (Int.emod_lt_of_pos _ (by omega)), ih, emod_mul hx (by omega) hu]
theorem encA_digs' {idx per : List Int} {x : Int} (h : Good idx per) (hx : 0 ≤ x ∧ x < prod (mods idx per)) : encA idx per (digs idx per x) = x := by
  rw [encA_digs h hx.1, Int.emod_eq_of_lt hx.1 hx.2]
theorem nextF_digs {idx per : List Int} {x : Int} {a : Nat} (h : Good idx per) (hx : 0 ≤ x ∧ x < prod (mods idx per)) (ha : a < idx.length) :
    encA idx per ((digs idx per x).set a (geti (digs idx per x) (a : Nat) + 1)) = nextF idx per x (a : Nat) := by
  rw [← nextF_enc h (fun n hn => (digs_range h x n hn).1) (digs_length ..) ha, encA_digs' h hx]
theorem nextF_range {idx per : List Int} {x : Int} {a : Nat} (h : Good idx per) (hx : 0 ≤ x ∧ x < prod (mods idx per)) (ha : a < idx.length) : 0 ≤ nextF idx per x (a : Nat) ∧ nextF idx per x (a : Nat) < prod (mods idx per) := by
  rw [← nextF_digs h hx ha]
  refine encA_range h (fun n hn => ?_) (by simp [digs_length])
  rcases List.mem_or_eq_of_mem_set hn with hn | rfl
  · exact (digs_range h x n hn).1
  · have := digF_range h x ha; rw [digs_get ha]; omega

/-- The rows of the counters. -/
def nextR (idx per : List Int) (q : Nat) : List Int := (List.range idx.length).map fun a => nextF idx per (q : Nat) (a : Nat)
def nextRows (idx per : List Int) (n : Nat) : List (List Int) := (List.range n).map (nextR idx per)
theorem nextRows_ok {idx per : List Int} {acc : List Bool} (h : Good idx per) (hl : (acc.length : Int) = prod (mods idx per)) : AutOk idx.length 0 acc (nextRows idx per acc.length) := by
  refine ⟨by simp [nextRows], fun r hr => ?_, ?_⟩
  · simp only [nextRows, List.mem_map, List.mem_range] at hr
    obtain ⟨q, hq, rfl⟩ := hr
    refine ⟨by simp [nextR], fun x hx => ?_⟩
    simp only [nextR, List.mem_map, List.mem_range] at hx
    obtain ⟨a, ha, rfl⟩ := hx
    have := nextF_range (x := (q : Nat)) h ⟨by omega, by omega⟩ ha
    omega
  · have := prod_pos (mods_pos h); omega
end Go.Co
namespace Go.Co
open Go Go.Ev Go.EvW Go.Aut
theorem cnts_le (k : Nat) (w : List UInt8) : ∀ n ∈ cnts k w, n ≤ w.length := by
  intro n hn
  simp only [cnts, List.mem_map] at hn
  obtain ⟨a, _, rfl⟩ := hn
  unfold cnt
  have := List.countP_le_length (p := fun c : UInt8 => c.toNat == 97 + a) (l := w)
  omega
end Go.Co
end

section
namespace Go.Co
open Go Go.Ev Go.EvW Go.Aut

/-- A row filled from the left. -/
def preZ (f : Nat → Int) (k a : Nat) : List Int := (List.range k).map fun b => if b < a then f b else 0
theorem preZ_length (f : Nat → Int) (k a : Nat) : (preZ f k a).length = k := by simp [preZ]
theorem preZ_zero (f : Nat → Int) (k : Nat) : preZ f k 0 = List.replicate k 0 := by apply List.ext_getElem <;> simp [preZ]
theorem preZ_set {f : Nat → Int} {k a : Nat} : (preZ f k a).set a (f a) = preZ f k (a + 1) := by
  apply List.ext_getElem
  · simp [preZ]
  · intro j h1 h2
    rw [List.getElem_set]
    by_cases e : a = j
    · subst e; rw [if_pos rfl]; simp [preZ]
    · rw [if_neg e]
      simp only [preZ, List.getElem_map, List.getElem_range]
      by_cases hja : j < a
      · rw [if_pos hja, if_pos (by omega)]
      · rw [if_neg hja, if_neg (by omega)]
theorem preZ_full (f : Nat → Int) (k : Nat) : preZ f k k = (List.range k).map f := by
  refine List.map_congr_left fun b hb => ?_
  rw [if_pos (List.mem_range.1 hb)]
/-- A row filled from the right. -/
def postZ (f : Nat → Int) (k a : Nat) : List Int := (List.range k).map fun b => if a ≤ b then f b else 0
theorem postZ_length (f : Nat → Int) (k a : Nat) : (postZ f k a).length = k := by simp [postZ]
theorem postZ_none (f : Nat → Int) (k : Nat) : postZ f k k = List.replicate k 0 := by
  apply List.ext_getElem
  · simp [postZ]
  · intro j h1 h2
    have hj : j < k := by simpa [postZ] using h1
    simp [postZ]; omega
theorem postZ_set {f : Nat → Int} {k a : Nat} : (postZ f k (a + 1)).set a (f a) = postZ f k a := by
  apply List.ext_getElem
  · simp [postZ]
  · intro j h1 h2
    rw [List.getElem_set]
    by_cases e : a = j
    · subst e; rw [if_pos rfl]; simp [postZ]
    · rw [if_neg e]
      simp only [postZ, List.getElem_map, List.getElem_range]
      by_cases hja : a ≤ j
      · rw [if_pos hja, if_pos (by omega)]
      · rw [if_neg hja, if_neg (by omega)]
theorem postZ_full (f : Nat → Int) (k : Nat) : postZ f k 0 = (List.range k).map f := by
  refine List.map_congr_left fun b hb => ?_
  rw [if_pos (Nat.zero_le _)]
theorem set_back {xs : List Int} {a : Nat} (h : a < xs.length) (v : Int) : (xs.set a v).set a (geti xs (a : Nat)) = xs := by
  rw [List.set_set]
  apply List.ext_getElem
  · simp
  · intro j h1 h2
    rw [List.getElem_set]
    by_cases e : a = j
    · subst e; rw [if_pos rfl]; simp [geti, h]
    · rw [if_neg e]
theorem geti_set_self {xs : List Int} {a : Nat} (h : a < xs.length) (v : Int) : geti (xs.set a v) (a : Nat) = v := by simp [geti, h]
/-- What is left of a number when digits are taken off. -/
theorem rest_step {idx per : List Int} (h : Good idx per) {x : Int} {a : Nat} (ha : a < idx.length) :
    x / prod ((mods idx per).drop (a + 1)) / (geti idx (a : Nat) + geti per (a : Nat)) = x / prod ((mods idx per).drop a) := by
  have h1 := (prod_drop_le h (a + 1)).1
  rw [Int.ediv_ediv_of_nonneg (by omega), mods_drop h ha]
  simp only [prod]
  rw [Int.mul_comm]
theorem rest_full {idx per : List Int} (h : Good idx per) (x : Int) : x / prod ((mods idx per).drop idx.length) = x := by
  rw [List.drop_eq_nil_of_le (by rw [mods_length h]; omega)]
  simp [prod]
theorem rest_range {idx per : List Int} (h : Good idx per) {x : Int} (hx : 0 ≤ x) (j : Nat) : 0 ≤ x / prod ((mods idx per).drop j) ∧ x / prod ((mods idx per).drop j) ≤ x := by
  have h1 := (prod_drop_le h j).1
  exact ⟨Int.ediv_nonneg hx (by omega), Int.ediv_le_self _ hx⟩
theorem nextRows_snoc (idx per : List Int) (i : Nat) : nextRows idx per i ++ [nextR idx per i] = nextRows idx per (i + 1) := by simp [nextRows, List.range_succ]

/-- What comes out of the automaton of counters. -/
def DfaC (idx per : List Int) (acc : List Bool) (s s' : St) (v : Value) : Prop :=
  (validF idx per acc.length ≠ 0 ∧ v = .tuple ⟨[.agg ⟨[.int .i64 0, .int .i64 0, .slice none 0 0, .slice none 0 0]⟩, .int .i64 (validF idx per acc.length)]⟩ ∧ Pur s s') ∨
  (validF idx per acc.length = 0 ∧ ∃ t, Minimal idx.length (faOf 0 acc (nextRows idx per acc.length)) t ∧ AutOk idx.length 0 t.1 (encT t.2) ∧
      ((512 < t.1.length ∧ v = .tuple ⟨[.agg ⟨[.int .i64 0, .int .i64 0, .slice none 0 0, .slice none 0 0]⟩, .int .i64 3]⟩ ∧ Pur s s') ∨
       (t.1.length ≤ 512 ∧ ∃ vF' vN' vs' G, v = .tuple ⟨[.agg ⟨[.int .i64 ((idx.length : Nat) : Int), .int .i64 0, vF', vN']⟩, .int .i64 0]⟩ ∧ New s s' [Item.lst 1 vF' (enB t.1), Item.rows vN' vs' (encT t.2) G])))
end Go.Co
end

section
namespace Go.EvW
open Go Go.Ev _root_.Ev
section
variable {s s' : St} {P : Nat → Prop}
theorem Sl.veq1 {z n : Nat} {v : Value} {cells : List Value} (h : Sl s P z v n cells) : veq1 v v = true := by
  have h2 := h.veq
  obtain ⟨a, c, rfl, _⟩ := h
  exact h2
theorem IsRows.veq1 {v : Value} {R : List (List Int)} (h : IsRows s P v R) : veq1 v v = true := by
  obtain ⟨vs, h1, _⟩ := h; exact h1.veq1
theorem veq_agg3 {a b c : Value} (h1 : veq1 a a = true) (h2 : veq1 b b = true) (h3 : veq1 c c = true) : veq (.agg ⟨[a, b, c]⟩) (.agg ⟨[a, b, c]⟩) = true := by
  simp only [veq, veqs1, h1, h2, h3]
theorem New.both {x y : Item} (h : New s s' [x, y]) : New s s' [Item.and x y] := by
  obtain ⟨h1, h2, _⟩ := h
  obtain ⟨a1, a2⟩ := h2 0 x rfl
  obtain ⟨b1, b2⟩ := h2 1 y rfl
  refine ⟨h1, fun i z hz => ?_, fun i j z w hij hz hw => ?_⟩
  · have hi : i = 0 := by
      have := (List.getElem?_eq_some_iff.1 hz).1
      simp at this; omega
    subst hi
    obtain rfl : Item.and x y = z := by simpa using hz
    refine ⟨⟨a1, b1⟩, fun B hB => ?_⟩
    rcases List.mem_append.1 hB with hB | hB
    · exact a2 B hB
    · exact b2 B hB
  · have h1 := (List.getElem?_eq_some_iff.1 hz).1
    have h2 := (List.getElem?_eq_some_iff.1 hw).1
    simp at h1 h2; omega
theorem New.emp (h : Pur s s') : New s s' [Item.emp] := by
  refine ⟨h, fun i z hz => ?_, fun i j z w hij hz hw => ?_⟩
  · have hi : i = 0 := by
      have := (List.getElem?_eq_some_iff.1 hz).1
      simp at this; omega
    subst hi
    obtain rfl : Item.emp = z := by simpa using hz
    exact ⟨trivial, fun B hB => by cases hB⟩
  · have h1 := (List.getElem?_eq_some_iff.1 hz).1
    have h2 := (List.getElem?_eq_some_iff.1 hw).1
    simp at h1 h2; omega
theorem nilBools : IsBools s P (.slice none 0 0) [] := Sl.nil
theorem nilRows : IsRows s P (.slice none 0 0) [] := ⟨[], Sl.nil, fun i u r h => by simp at h⟩
end
end Go.EvW
namespace Go.Co
open Go Go.Ev Go.EvW Go.Aut

/-- What an automaton of counters is: letters, start, ends, rows, code. -/
def DfaD (idx per : List Int) (acc : List Bool) (x0 x1 c : Int) (F : List Bool) (R : List (List Int)) : Prop :=
  (validF idx per acc.length ≠ 0 ∧ x0 = 0 ∧ x1 = 0 ∧ F = [] ∧ R = [] ∧ c = validF idx per acc.length) ∨
  (validF idx per acc.length = 0 ∧ ∃ t, Minimal idx.length (faOf 0 acc (nextRows idx per acc.length)) t ∧ AutOk idx.length 0 t.1 (encT t.2) ∧
    ((512 < t.1.length ∧ x0 = 0 ∧ x1 = 0 ∧ F = [] ∧ R = [] ∧ c = 3) ∨ (t.1.length ≤ 512 ∧ x0 = ((idx.length : Nat) : Int) ∧ x1 = 0 ∧ F = t.1 ∧ R = encT t.2 ∧ c = 0)))

theorem DfaD.det {idx per : List Int} {acc : List Bool} {x0 x1 c y0 y1 e : Int} {F G : List Bool} {R S : List (List Int)} (h : DfaD idx per acc x0 x1 c F R) (h' : DfaD idx per acc y0 y1 e G S) :
    c = e ∧ (x0 = y0 ∧ x1 = y1 ∧ F = G ∧ R = S) := by
  rcases h with ⟨a0, rfl, rfl, rfl, rfl, rfl⟩ | ⟨a0, t, a1, a2, a3⟩
  · rcases h' with ⟨_, rfl, rfl, rfl, rfl, rfl⟩ | ⟨b0, _⟩
    · exact ⟨rfl, rfl, rfl, rfl, rfl⟩
    · exact absurd b0 a0
  · rcases h' with ⟨b0, _⟩ | ⟨_, u, b1, b2, b3⟩
    · exact absurd a0 b0
    · obtain rfl := a1.unique b1 (fun _ _ => rfl)
      rcases a3 with ⟨k, rfl, rfl, rfl, rfl, rfl⟩ | ⟨k, rfl, rfl, rfl, rfl, rfl⟩ <;> rcases b3 with ⟨l, rfl, rfl, rfl, rfl, rfl⟩ | ⟨l, rfl, rfl, rfl, rfl, rfl⟩
      · exact ⟨rfl, rfl, rfl, rfl, rfl⟩
      · omega
      · omega
      · exact ⟨rfl, rfl, rfl, rfl, rfl⟩

theorem DfaD.small {idx per : List Int} {acc : List Bool} {x0 x1 c : Int} {F : List Bool} {R : List (List Int)} (h : DfaD idx per acc x0 x1 c F R) : F.length ≤ 512 ∧ R.length ≤ 512 ∧ ∀ r, r ∈ R → r.length ≤ 6 := by
  rcases h with ⟨_, _, _, rfl, rfl, _⟩ | ⟨a0, t, a1, a2, ⟨_, _, _, rfl, rfl, _⟩ | ⟨h, _, _, rfl, rfl, _⟩⟩
  · exact ⟨by simp, by simp, fun r h => by simp at h⟩
  · exact ⟨by simp, by simp, fun r h => by simp at h⟩
  · have h6 := (validF_good a0).2.2.1
    exact ⟨h, by rw [a2.len]; exact h, fun r hr => by rw [(a2.row r hr).1]; exact h6⟩

theorem DfaC.out {idx per : List Int} {acc : List Bool} {s s' : St} {v : Value} (h : DfaC idx per acc s s' v) :
    ∃ (x0 x1 c : Int) (vF vN : Value) (F : List Bool) (R : List (List Int)) (Z : EvW.Item), v = .tuple ⟨[.agg ⟨[.int .i64 x0, .int .i64 x1, vF, vN]⟩, .int .i64 c]⟩ ∧ DfaD idx per acc x0 x1 c F R ∧
      (∀ s2, Z.ok s2 → IsBools s2 (fun A => A < s2.nextId) vF F ∧ IsRows s2 (fun A => A < s2.nextId) vN R) ∧ New s s' [Z] := by
  have zero : ∀ s2, EvW.Item.emp.ok s2 → IsBools s2 (fun A => A < s2.nextId) (.slice none 0 0) [] ∧ IsRows s2 (fun A => A < s2.nextId) (.slice none 0 0) [] := fun s2 _ => ⟨nilBools, nilRows⟩
  rcases h with ⟨h0, rfl, hp⟩ | ⟨h0, t, h1, h2, ⟨h3, rfl, hp⟩ | ⟨h3, vF, vN, vs, G, rfl, hn⟩⟩
  · exact ⟨_, _, _, _, _, [], [], _, rfl, .inl ⟨h0, rfl, rfl, rfl, rfl, rfl⟩, zero, New.emp hp⟩
  · exact ⟨_, _, _, _, _, [], [], _, rfl, .inr ⟨h0, t, h1, h2, .inl ⟨h3, rfl, rfl, rfl, rfl, rfl⟩⟩, zero, New.emp hp⟩
  · refine ⟨_, _, _, _, _, _, _, _, rfl, .inr ⟨h0, t, h1, h2, .inr ⟨h3, rfl, rfl, rfl, rfl, rfl⟩⟩, fun s2 hz => ?_, hn.both⟩
    obtain ⟨z1, z2⟩ := hz
    have z3 := (EvW.Item.and _ _).lt ⟨z1, z2⟩
    refine ⟨(Lsv.sl (n := t.1.length) z1 (by omega) (by simp)).mono fun A h _ => h, (Rws.rows z2).mono fun A h _ => h⟩
end Go.Co
end

section
set_option linter.unusedVariables false
namespace Go.EvW
open Go Go.Ev _root_.Ev
section
variable {N : Nat} {s0 s s' : St} {L : List Item} {P : Nat → Prop}
theorem own_bools {A n : Nat} {xs : List Bool} (h : Own s A 1 (enB xs)) (hn : n = xs.length) : IsBools s (fun B => B < s.nextId) (.slice (some ⟨A, 0, none⟩) n n) xs := by
  subst hn
  exact Sl.of_own h h.1 (by simp)
theorem Lst.fullI {A : Nat} {v : Value} {xs : List Int} (h : Lst s A 1 v (enI xs)) (hne : xs ≠ []) : v = .slice (some ⟨A, 0, none⟩) xs.length xs.length ∧ Own s A 1 (enI xs) := by
  rcases h with ⟨_, h⟩ | ⟨n, h1, h2, h3, _⟩
  · simp [enI] at h; exact absurd h hne
  · simp at h2; subst h2; exact ⟨h1, h3⟩
theorem Lst.fullB {A : Nat} {v : Value} {xs : List Bool} (h : Lst s A 1 v (enB xs)) (hne : xs ≠ []) : v = .slice (some ⟨A, 0, none⟩) xs.length xs.length ∧ Own s A 1 (enB xs) := by
  rcases h with ⟨_, h⟩ | ⟨n, h1, h2, h3, _⟩
  · simp [enB] at h; exact absurd h hne
  · simp at h2; subst h2; exact ⟨h1, h3⟩
theorem Sl.cutB {xs : List Bool} {l h : Nat} {v : Value} (h1 : l ≤ h) (h2 : h ≤ xs.length) (hs : Sl s P 1 v (h - l) (((enB xs).drop (l * 1)).take ((h - l) * 1))) : IsBools s P v ((xs.drop l).take (h - l)) := by
  have e : ((enB xs).drop (l * 1)).take ((h - l) * 1) = enB ((xs.drop l).take (h - l)) := by simp [enB, List.map_drop, List.map_take]
  have e2 : ((xs.drop l).take (h - l)).length = h - l := by simp; omega
  unfold IsBools
  rw [e2, ← e]; exact hs
/-- A part of a row of bools that is ours. -/
def Item.bls (A : Nat) (v : Value) (xs : List Bool) : Item := ⟨[A], fun s => A < s.nextId ∧ IsBools s (fun B => B = A) v xs,
  fun {s s'} h1 h2 ⟨h3, h4⟩ => ⟨Nat.lt_of_lt_of_le h3 h1, Sl.mono2 h1 (fun B hB => h2 B (List.mem_singleton.2 hB)) h4⟩,
  fun {s} h B hB => by rw [List.mem_singleton] at hB; subst hB; exact h.1⟩
theorem Hs.four {A B C D : Nat} {x y z u : Item} (e : Ext N s0 s) (hb : N ≤ s0.nextId) (hx : x.ok s) (hy : y.ok s) (hz : z.ok s) (hu : u.ok s) (fx : x.fp = [A]) (fy : y.fp = [B]) (fz : z.fp = [C]) (fu : u.fp = [D])
    (gA : N ≤ A) (gB : N ≤ B) (gC : N ≤ C) (gD : N ≤ D) (d : A ≠ B ∧ A ≠ C ∧ A ≠ D ∧ B ≠ C ∧ B ≠ D ∧ C ≠ D) : Hs N s0 s [x, y, z, u] := by
  obtain ⟨d1, d2, d3, d4, d5, d6⟩ := d
  refine ⟨e, hb, fun i w hw => ?_, fun i w hw K hK => ?_, fun i j w v hij hw hv K hK hK2 => ?_⟩
  · rcases i with _ | _ | _ | _ | i <;> simp at hw <;> subst hw <;> assumption
  · rcases i with _ | _ | _ | _ | i <;> simp at hw <;> subst hw <;> simp_all
  · rcases i with _ | _ | _ | _ | i <;> simp at hw <;> subst hw <;> (rcases j with _ | _ | _ | _ | j <;> simp at hv <;> subst hv <;> simp_all)
end
end Go.EvW
end
