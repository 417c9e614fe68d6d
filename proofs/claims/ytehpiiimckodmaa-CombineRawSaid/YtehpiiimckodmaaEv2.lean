/- Operations, all of them. -/
import Derived.Test.YtehpiiimckodmaaEv1
import Derived.Lib.ConvBytes
set_option linter.unusedVariables false
set_option linter.unusedSimpArgs false
section
set_option linter.unusedSimpArgs false
set_option linter.unusedVariables false
namespace Go.Ev
open Go _root_.Ev Go.RowKit

section
variable {P : Program} {β : Bl} {t : T Value} {s s' : St} {a : Act} {v : Value} {cop : COp}

theorem zeroT_some {ty : TypeId} {z : Value} (h : zeroT P ty = some z) : ∃ i, P.info? ty = some i ∧ i.zero = some z ∧ plainV z = true := by
  unfold zeroT at h
  cases hi : P.info? ty with
  | none => simp [hi] at h
  | some i =>
    cases hz : i.zero with
    | none => simp [hi, hz] at h
    | some z' =>
      simp [hi, hz] at h
      obtain ⟨h1, rfl⟩ := h
      exact ⟨i, rfl, hz, h1⟩

theorem run_zero {ty : TypeId} {z : Value} (h : zeroT P ty = some z) (w : World) : (zeroValue ty).run P w = .ok z w := by
  obtain ⟨i, h1, h2, _⟩ := zeroT_some h
  simp [zeroValue, typeInfo, program, Sem.run, h1, h2, pure, bind, Sem.bind]

theorem cells_plain {z : Value} (h : plainV z = true) : z.cells.toList = cellsOfV z ∧ VRs β (cellsOfV z) (cellsOfV z) := by
  have e : z.cells.toList = cellsOfV z := by cases z <;> simp [Value.cells, cellsOfV]
  exact ⟨e, by have := (plainV_refl (β := β) h).cells; rwa [e] at this⟩

theorem run_places {w : World} : ∀ {fs : List Field} {pl : List (Nat × Nat)}, placesOf P fs = some pl → (fs.mapM fun (f : Field) => (do pure (f.offset, ← sizeOf f.type) : Sem (Nat × Nat))).run P w = .ok pl w
  | [], pl, h => by simp [placesOf] at h; subst h; simp
  | f :: fs, pl, h => by
    simp only [placesOf] at h
    cases h1 : sizeT P f.type with
    | none => simp [h1] at h
    | some n =>
      cases h2 : placesOf P fs with
      | none => simp [h1, h2] at h
      | some r =>
        simp [h1, h2] at h; subst h
        have ih := run_places (w := w) h2
        simp only [List.mapM_cons, Sem.run_bind, run_size h1, Result.andThen, Sem.run_pure]
        rw [ih]

theorem pure_build {o : Oper} {ty : TypeId} {parts : Array (Nat × Operand)} (ho : o.op = .build ty parts) (h : cOp P o = some cop) (hd : doOp t s cop = some (v, s')) (ht : TR β t a.tmps) : s' = s ∧ PureOk P β a o v := by
  simp only [cOp, ho] at h
  cases hz : zeroT P ty with
  | none => simp [hz] at h
  | some z =>
    simp [hz] at h
    obtain ⟨i, hi1, hi2, hpl⟩ := zeroT_some hz
    obtain ⟨hc1, hc2⟩ := cells_plain (β := β) hpl
    cases hu : P.underlying ty with
    | none => simp [hu] at h
    | some d =>
      cases d <;> simp [hu] at h
      · -- an array
        rename_i n el
        cases hs : sizeT P el with
        | none => simp [hs] at h
        | some m =>
          cases hp : partsOf (fun i => some (i * m, m)) parts.toList with
          | none => simp [hs, hp] at h
          | some ps =>
            simp [hs, hp] at h; subst h
            simp only [doOp] at hd
            cases hf : fillF (cellsOfV z) (partsV t ps) with
            | none => simp [hf] at hd
            | some r =>
              simp [hf] at hd
              obtain ⟨rfl, rfl⟩ := hd
              obtain ⟨k1, k2⟩ := partsOf_ok hp ht
              obtain ⟨r', h1, h2⟩ := fill_ok hf hc2 k1 k2
              refine ⟨rfl, _, .agg _ _ h2, fun w => ?_⟩
              have e1 : z.cells = ⟨cellsOfV z⟩ := by rw [← hc1]
              have e2 : (parts.map fun (p : Nat × Operand) => (p.1, a.eval p.2)).toList = parts.toList.map fun (p : Nat × Operand) => (p.1, a.eval p.2) := by simp
              simp [execOp, ho, Instr.build, Sem.run_bind, run_zero hz, run_under hu, run_size hs, Result.andThen]
              rw [e1, h1]
              simp
      · -- a struct
        rename_i fs
        cases hs : placesOf P fs.toList with
        | none => simp [hs] at h
        | some pl =>
          cases hp : partsOf (fun i => pl[i]?) parts.toList with
          | none => simp [hs, hp] at h
          | some ps =>
            simp [hs, hp] at h; subst h
            simp only [doOp] at hd
            cases hf : fillF (cellsOfV z) (partsV t ps) with
            | none => simp [hf] at hd
            | some r =>
              simp [hf] at hd
              obtain ⟨rfl, rfl⟩ := hd
              obtain ⟨k1, k2⟩ := partsOf_ok hp ht
              obtain ⟨r', h1, h2⟩ := fill_ok hf hc2 k1 k2
              refine ⟨rfl, _, .agg _ _ h2, fun w => ?_⟩
              have e1 : z.cells = ⟨cellsOfV z⟩ := by rw [← hc1]
              have e3 : (fs.mapM fun (f : Field) => (do pure (f.offset, ← sizeOf f.type) : Sem (Nat × Nat))).run P w = .ok ⟨pl⟩ w := by
                rw [Array.mapM_eq_mapM_toList]
                simp only [Sem.run_bind, Sem.run_map, run_places hs]
                rfl
              simp [execOp, ho, Instr.build, Sem.run_bind, run_zero hz, run_under hu, Result.andThen]
              simp at e3
              have e4 : (fun (x : Nat) => (⟨pl⟩ : Array (Nat × Nat))[x]?) = fun i => pl[i]? := by funext x; simp
              rw [e3]
              simp only
              rw [e4, e1, h1]
              simp

theorem bounds_some {n cap : Nat} {lo hi lo' hi' : Option Value} {l hh : Nat} (h : bounds n cap lo hi = some (l, hh)) (hlo : ∀ v, lo = some v → ∃ v', lo' = some v' ∧ VR β v v') (hlo0 : lo = none → lo' = none)
    (hhi : ∀ v, hi = some v → ∃ v', hi' = some v' ∧ VR β v v') (hhi0 : hi = none → hi' = none) (hn : n ≤ cap) (b : Bool) (cap' : Nat) (hc : cap ≤ cap') (w : World) :
    (Instr.sliceBounds b n cap' lo' hi' none).run P w = .ok (l, hh, cap') w ∧ l ≤ hh ∧ hh ≤ cap := by
  unfold bounds at h
  cases h1 : hiOf n hi with
  | none => simp [h1] at h
  | some h0 =>
    simp only [h1] at h
    cases h2 : Nat.ble h0 cap with
    | false => simp [h2] at h
    | true =>
      have h2' := Nat.le_of_ble_eq_true h2
      simp only [h2] at h
      cases h3 : hiOf 0 lo with
      | none => simp [h3] at h
      | some l0 =>
        simp only [h3] at h
        cases h4 : Nat.ble l0 h0 with
        | false => simp [h4] at h
        | true =>
          have h4' := Nat.le_of_ble_eq_true h4
          simp [h4] at h
          obtain ⟨rfl, rfl⟩ := h
          refine ⟨?_, h4', h2'⟩
          have bnd : ∀ (x : Value) (k : IntKind) (m y : Nat) (code : BoundsCode), m ≤ y → (Instr.sliceBound (.int k (m : Nat)) y code).run P w = .ok m w := fun x k m y code hm => by
            simp [Instr.sliceBound, asIntOf, hm]
          cases hi with
          | none =>
            rw [hhi0 rfl]
            simp [hiOf] at h1; subst h1
            cases lo with
            | none =>
              rw [hlo0 rfl]
              simp [hiOf] at h3; subst h3
              simp [Instr.sliceBounds]
            | some v =>
              obtain ⟨v', rfl, hv⟩ := hlo v rfl
              obtain ⟨k, rfl⟩ := intN_some h3 hv
              simp [Instr.sliceBounds, Sem.run_bind, bnd v k _ _ _ h4', Result.andThen]
          | some u =>
            obtain ⟨u', rfl, hu⟩ := hhi u rfl
            obtain ⟨k2, rfl⟩ := intN_some h1 hu
            have h5 : h0 ≤ cap' := by omega
            cases lo with
            | none =>
              rw [hlo0 rfl]
              simp [hiOf] at h3; subst h3
              simp [Instr.sliceBounds, Sem.run_bind, bnd u k2 _ _ _ h5, Result.andThen]
            | some v =>
              obtain ⟨v', rfl, hv⟩ := hlo v rfl
              obtain ⟨k, rfl⟩ := intN_some h3 hv
              simp [Instr.sliceBounds, Sem.run_bind, bnd v k _ _ _ h4', bnd u k2 _ _ _ h5, Result.andThen]

theorem optOpd_eval {x : Option Operand} {y : Option Opd} (h : optOpd x = some y) (ht : TR β t a.tmps) :
    (∀ v, optEv t y = some v → ∃ v', x.map a.eval = some v' ∧ VR β v v') ∧ (optEv t y = none → x.map a.eval = none) := by
  cases x with
  | none => simp [optOpd] at h; subst h; exact ⟨fun v hv => by simp [optEv] at hv, fun _ => rfl⟩
  | some x =>
    simp only [optOpd] at h
    cases hx : cOpd x with
    | none => simp [hx] at h
    | some y' =>
      simp [hx] at h; subst h
      exact ⟨fun v hv => by simp [optEv] at hv; subst hv; exact ⟨_, rfl, cOpd_eval hx ht⟩, fun hv => by simp [optEv] at hv⟩

theorem pure_sub {o : Oper} {ty : TypeId} {x : Operand} {lo hi mx : Option Operand} (ho : o.op = .slice ty x lo hi mx) (h : cOp P o = some cop) (hc : cop.cls = .pure) (hd : doOp t s cop = some (v, s')) (ht : TR β t a.tmps) : s' = s ∧ PureOk P β a o v := by
  simp only [cOp, ho] at h
  cases mx with
  | some m => simp at h
  | none =>
    simp at h
    cases hu : P.underlying ty with
    | none => simp [hu] at h
    | some d =>
      cases hx : cOpd x with
      | none => cases d <;> simp [hu, hx] at h
      | some x' =>
        cases hl : optOpd lo with
        | none => cases d <;> simp [hu, hx, hl] at h
        | some lo' =>
          cases hh : optOpd hi with
          | none => cases d <;> simp [hu, hx, hl, hh] at h
          | some hi' =>
            cases d <;> simp [hu, hx, hl, hh] at h
            · subst h
              have e := cOpd_eval hx ht
              simp only [doOp] at hd
              generalize x'.ev t = xv at hd e
              generalize hxv : a.eval x = xv' at e
              cases e <;> try (simp at hd; done)
              rename_i b
              simp only at hd
              cases hb : bounds (len b.data.toList 0) (len b.data.toList 0) (optEv t lo') (optEv t hi') with
              | none => simp [hb] at hd
              | some lh =>
                obtain ⟨l, r⟩ := lh
                simp only [hb] at hd
                cases hcut : cut b.data.toList l (r - l) with
                | none => simp [hcut] at hd
                | some q =>
                  simp [hcut] at hd
                  obtain ⟨rfl, rfl⟩ := hd
                  have hsz : len b.data.toList 0 = b.size := by rw [len_eq]; simp
                  rw [hsz] at hb
                  obtain ⟨o1, o2⟩ := optOpd_eval hl ht
                  obtain ⟨o3, o4⟩ := optOpd_eval hh ht
                  obtain ⟨c1, rfl⟩ := cut_some _ _ _ _ hcut
                  refine ⟨rfl, _, .string _, fun w => ?_⟩
                  obtain ⟨b1, b2, b3⟩ := bounds_some (P := P) hb o1 o2 o3 o4 (Nat.le_refl _) false b.size (Nat.le_refl _) w
                  have e2 : b.extract l r = ⟨⟨(b.data.toList.drop l).take (r - l)⟩⟩ := by
                    apply ByteArray.ext
                    apply Array.ext'
                    exact Lib.extract_data b l r
                  simp [execOp, ho, hxv, Instr.sliceAt, Instr.slice, Sem.run_bind, run_under hu, Result.andThen, b1, e2]
            · rename_i el
              cases hz : sizeT P el <;> simp [hz] at h
              subst h
              simp [COp.cls] at hc

theorem pure_builtin {o : Oper} {c : Call} {b : Builtin} (ho : o.op = .call c) (hb : c.callee = .builtin b) (h : cOp P o = some cop) (hc : cop.cls = .pure) (hd : doOp t s cop = some (v, s')) (ht : TR β t a.tmps) : s' = s ∧ PureOk P β a o v := by
  obtain ⟨cal, args, types⟩ := c
  obtain ⟨args⟩ := args
  obtain ⟨types⟩ := types
  simp at hb; subst hb
  simp only [cOp, ho] at h
  have hexec : execOp a.eval o = (do let r ← builtin b ⟨types⟩ o.type ((⟨args⟩ : Array Operand).map fun | .const _ => true | _ => false) (⟨args.map a.eval⟩); pure r) := by
    simp [execOp, ho, resolve, invoke]
    rfl
  unfold cBuiltin at h
  split at h
  · -- len
    rename_i x ty
    cases hx : cOpd x with
    | none => simp [hx] at h
    | some x' =>
      have e := cOpd_eval hx ht
      simp [hx] at h
      cases hu : P.underlying ty with
      | none => simp [hu] at h
      | some d =>
        cases d <;> simp [hu] at h
        · subst h
          simp only [doOp] at hd
          generalize x'.ev t = xv at hd e
          generalize hxv : a.eval x = xv' at e
          cases e <;> try (simp at hd; done)
          rename_i bs
          simp only [Option.some.injEq, Prod.mk.injEq] at hd
          obtain ⟨rfl, rfl⟩ := hd
          refine ⟨rfl, _, .int _ _, fun w => ?_⟩
          rw [hexec]
          have : len bs.data.toList 0 = bs.size := by rw [len_eq]; simp
          rw [this]
          simp [hxv, builtin, Builtin.len_, Sem.run_bind, run_under hu, Result.andThen, goInt]
        · -- a pointer to an array
          rename_i el
          cases hu2 : P.underlying el with
          | none => simp [hu2] at h
          | some d2 =>
            cases d2 <;> simp [hu2] at h
            subst h
            simp only [doOp, Option.some.injEq, Prod.mk.injEq] at hd
            obtain ⟨rfl, rfl⟩ := hd
            refine ⟨rfl, _, .int _ _, fun w => ?_⟩
            rw [hexec]
            simp [builtin, Builtin.len_, Sem.run_bind, run_under hu, run_under hu2, Result.andThen, goInt]
        · subst h
          simp only [doOp] at hd
          generalize x'.ev t = xv at hd e
          generalize hxv : a.eval x = xv' at e
          cases e <;> try (simp at hd; done)
          all_goals
            simp only [Option.some.injEq, Prod.mk.injEq] at hd
            obtain ⟨rfl, rfl⟩ := hd
            refine ⟨rfl, _, .int _ _, fun w => ?_⟩
            rw [hexec]
            simp [hxv, builtin, Builtin.len_, Sem.run_bind, run_under hu, Result.andThen, goInt]
        · subst h
          simp only [doOp, Option.some.injEq, Prod.mk.injEq] at hd
          obtain ⟨rfl, rfl⟩ := hd
          refine ⟨rfl, _, .int _ _, fun w => ?_⟩
          rw [hexec]
          simp [builtin, Builtin.len_, Sem.run_bind, run_under hu, Result.andThen, goInt]
        · subst h; simp [COp.cls] at hc
  · -- append
    exfalso
    rename_i x y ty uy
    cases hx : cOpd x <;> cases hy : cOpd y <;> simp [hx, hy] at h
    split at h <;> try (simp at h; done)
    all_goals
      simp only [cAppend, bind, Option.bind_eq_some_iff] at h
      obtain ⟨z, _, n, _, u, _, h⟩ := h
      split at h <;> simp at h
      subst h
      simp [COp.cls] at hc
  · exfalso
    rename_i x y ty uy
    cases hx : cOpd x <;> cases hy : cOpd y <;> simp [hx, hy] at h
    split at h <;> try (simp at h; done)
    simp only [Option.bind_eq_some_iff] at h
    obtain ⟨z, _, h⟩ := h
    cases h
    simp [COp.cls] at hc
  · rename_i x y
    cases hx : cOpd x with
    | none => simp [hx] at h
    | some x' =>
      cases hy : cOpd y with
      | none => simp [hx, hy] at h
      | some y' =>
        simp [hx, hy] at h; subst h
        have ex := cOpd_eval hx ht
        have ey := cOpd_eval hy ht
        simp only [doOp] at hd
        generalize x'.ev t = xv at hd ex
        generalize hxv : a.eval x = xv' at ex
        generalize y'.ev t = yv at hd ey
        generalize hyv : a.eval y = yv' at ey
        cases ex <;> try (simp at hd; done)
        cases ey <;> try (simp at hd; done)
        rename_i k m k' n
        simp only at hd
        cases hk : decide (k = k') with
        | false => simp [hk] at hd
        | true =>
          obtain rfl := decide_kind hk
          simp only [hk, ltF_eq] at hd
          by_cases hlt : m < n
          · simp [hlt] at hd
            obtain ⟨rfl, rfl⟩ := hd
            refine ⟨rfl, _, .int _ _, fun w => ?_⟩
            rw [hexec]
            simp [hxv, hyv, builtin, Builtin.max_, Builtin.max2, hlt]
          · simp [hlt] at hd
            obtain ⟨rfl, rfl⟩ := hd
            refine ⟨rfl, _, .int _ _, fun w => ?_⟩
            rw [hexec]
            simp [hxv, hyv, builtin, Builtin.max_, Builtin.max2, hlt]
  · rename_i x y
    cases hx : cOpd x with
    | none => simp [hx] at h
    | some x' =>
      cases hy : cOpd y with
      | none => simp [hx, hy] at h
      | some y' =>
        simp [hx, hy] at h; subst h
        have ex := cOpd_eval hx ht
        have ey := cOpd_eval hy ht
        simp only [doOp] at hd
        generalize x'.ev t = xv at hd ex
        generalize hxv : a.eval x = xv' at ex
        generalize y'.ev t = yv at hd ey
        generalize hyv : a.eval y = yv' at ey
        cases ex <;> try (simp at hd; done)
        cases ey <;> try (simp at hd; done)
        rename_i k m k' n
        simp only at hd
        cases hk : decide (k = k') with
        | false => simp [hk] at hd
        | true =>
          obtain rfl := decide_kind hk
          simp only [hk, ltF_eq] at hd
          by_cases hlt : n < m
          · simp [hlt] at hd
            obtain ⟨rfl, rfl⟩ := hd
            refine ⟨rfl, _, .int _ _, fun w => ?_⟩
            rw [hexec]
            simp [hxv, hyv, builtin, Builtin.min_, Builtin.min2, hlt]
          · simp [hlt] at hd
            obtain ⟨rfl, rfl⟩ := hd
            refine ⟨rfl, _, .int _ _, fun w => ?_⟩
            rw [hexec]
            simp [hxv, hyv, builtin, Builtin.min_, Builtin.min2, hlt]
  · simp at h

end
end Go.Ev
end

section
set_option linter.unusedSimpArgs false
set_option linter.unusedVariables false
namespace Go.Ev
open Go _root_.Ev Go.RowKit

section
variable {P : Program} {β : Bl} {t : T Value} {s s' : St} {a : Act} {v : Value} {cop : COp} {base : Nat} {w0 w : World}

/-- It yields a value that belongs to 'v' and leaves the world alone. -/
def ReadOk (P : Program) (β : Bl) (a : Act) (o : Oper) (v : Value) (w : World) : Prop := ∃ v', VR β v v' ∧ (execOp a.eval o).run P w = .ok (.value v') w

theorem read_load {o : Oper} {ty : TypeId} {x : Operand} (ho : o.op = .load ty x) (h : cOp P o = some cop) (hd : doOp t s cop = some (v, s')) (ht : TR β t a.tmps) (hw : WR base w0 β s w) : s' = s ∧ ReadOk P β a o v w := by
  simp only [cOp, ho] at h
  cases hag : aggT P ty with
  | none => simp [hag] at h
  | some b =>
    cases hx : cOpd x with
    | none => cases b <;> simp [hag, hx] at h
    | some x' =>
      have e := cOpd_eval hx ht
      cases b with
      | false =>
        simp [hag, hx] at h; subst h
        simp only [doOp] at hd
        generalize x'.ev t = xv at hd e
        generalize hxv : a.eval x = xv' at e
        cases e <;> try (simp [addrOf] at hd; done)
        rename_i A p oo hA
        simp only [addrOf] at hd
        cases hc : s.cellsOf A with
        | none => simp [hc] at hd
        | some cs =>
          simp only [hc] at hd
          cases hn : nth cs oo with
          | none => simp [hn] at hd
          | some u =>
            simp [hn] at hd
            obtain ⟨rfl, rfl⟩ := hd
            obtain ⟨v', h1, h2⟩ := hw.cell hA hc hn
            exact ⟨rfl, v', h2, by simp [execOp, ho, hxv, Instr.loadAt, Instr.sureAddr, Sem.run_bind, loadVar, run_agg hag, Result.andThen, load, Sem.run, h1]⟩
      | true =>
        cases hz : sizeT P ty with
        | none => simp [hag, hx, hz] at h
        | some n =>
          simp [hag, hx, hz] at h; subst h
          simp only [doOp] at hd
          generalize x'.ev t = xv at hd e
          generalize hxv : a.eval x = xv' at e
          cases e <;> try (simp [addrOf] at hd; done)
          rename_i A p oo hA
          simp only [addrOf] at hd
          cases hc : s.cellsOf A with
          | none => simp [hc] at hd
          | some cs =>
            simp only [hc] at hd
            cases hn : cut cs oo n with
            | none => simp [hn] at hd
            | some r =>
              simp [hn] at hd
              obtain ⟨rfl, rfl⟩ := hd
              obtain ⟨r', k1, k2, k3⟩ := hw.run hA hc hn
              have hl : (loadCells ⟨p.b, p.sh + oo, none⟩ n).run P w = .ok r'.toArray w := by
                rw [← k1]
                refine run_loadCells_list w _ r' fun j u hj => ?_
                have hjn : j < n := by rw [← k1]; exact (List.getElem?_eq_some_iff.1 hj).1
                have := k3 j hjn
                rw [hj] at this
                rw [← this]
                unfold Addr.add
                by_cases h0 : j = 0 <;> simp [h0]
              refine ⟨rfl, _, .agg _ _ k2, ?_⟩
              simp [execOp, ho, hxv, Instr.loadAt, Instr.sureAddr, Sem.run_bind, loadVar, run_agg hag, run_size hz, Result.andThen, hl]

/-- The cells behind a slice. -/
theorem slice_cells {z : Nat} {x x' : Value} {r : List Value} (h : sliceCells s z x = some r) (hx : VR β x x') (hw : WR base w0 β s w) :
    (x' = .slice none 0 0 ∧ r = []) ∨ ∃ ad n c r', x' = .slice (some ad) n c ∧ VRs β r r' ∧ r'.length = n * z ∧ (loadCells ad (n * z)).run P w = .ok r'.toArray w ∧ ∀ j, j < n * z → w.cell? (ad.add j) = r'[j]? := by
  cases hx <;> simp only [sliceCells] at h <;> try (simp at h; done)
  · simp at h; exact .inl ⟨rfl, h⟩
  · rename_i A p o n c c' hA h1 h2 h3
    right
    cases n with
    | zero =>
      simp at h; subst h
      exact ⟨_, 0, _, [], rfl, .nil, by simp, by simp [loadCells, loadCellsFrom], fun j hj => by omega⟩
    | succ n =>
      simp only at h
      cases hc : s.cellsOf A with
      | none => simp [hc] at h
      | some cs =>
        simp only [hc] at h
        obtain ⟨r', k1, k2, k3⟩ := hw.run hA hc h
        have hcell : ∀ j, j < (n + 1) * z → w.cell? ((⟨p.b, p.sh + o, none⟩ : Addr).add j) = r'[j]? := fun j hj => by
          rw [← k3 j hj]
          unfold Addr.add
          by_cases h0 : j = 0 <;> simp [h0]
        refine ⟨_, _, _, r', rfl, k2, k1, ?_, hcell⟩
        rw [← k1]
        refine run_loadCells_list w _ r' fun j u hj => ?_
        have hjn : j < (n + 1) * z := by rw [← k1]; exact (List.getElem?_eq_some_iff.1 hj).1
        rw [hcell j hjn, hj]
  · simp at h; subst h
    exact .inr ⟨_, 0, _, [], rfl, .nil, by simp, by simp [loadCells, loadCellsFrom], fun j hj => by omega⟩

theorem unbytes_vrs : ∀ {cs : List Value} {l : List UInt8}, unbytes cs = some l → ∀ {cs' : List Value}, VRs β cs cs' → cs' = cs
  | [], l, h, cs', hv => by cases hv; rfl
  | c :: cs, l, h, cs', hv => by
    cases c <;> try (simp [unbytes] at h; done)
    rename_i k n
    cases k <;> cases n <;> try (simp [unbytes] at h; done)
    rename_i m
    simp only [unbytes] at h
    cases hr : unbytes cs with
    | none => simp [hr] at h
    | some l' =>
      cases hv with
      | cons _ x' _ xs'' hx hs => cases hx; rw [unbytes_vrs hr hs]

theorem run_bytes {f : Value → ByteArray → Sem (ForInStep ByteArray)} (hf : ∀ n r, f (.int .u8 n) r = pure (ForInStep.yield (r.push (UInt8.ofNat n.toNat)))) : ∀ {cs : List Value} {l : List UInt8}, unbytes cs = some l → ∀ (acc : ByteArray) (w : World),
    (forIn cs acc f : Sem ByteArray).run P w = .ok ⟨⟨acc.data.toList ++ l⟩⟩ w
  | [], l, h, acc, w => by
    simp [unbytes] at h; subst h
    simp
  | c :: cs, l, h, acc, w => by
    cases c <;> try (simp [unbytes] at h; done)
    rename_i k n
    cases k <;> cases n <;> try (simp [unbytes] at h; done)
    rename_i m
    simp only [unbytes] at h
    cases hr : unbytes cs with
    | none => simp [hr] at h
    | some l' =>
      simp [hr] at h; subst h
      simp only [List.forIn_cons, Sem.run_bind, hf, Sem.run_pure, Result.andThen]
      rw [run_bytes hf hr]
      congr 1
      apply ByteArray.ext
      apply Array.ext'
      simp [ByteArray.push]

theorem read_strOf {o : Oper} {st dt : TypeId} {x : Operand} (ho : o.op = .convert st dt x) (h : cOp P o = some cop) (hc : cop.cls = .read) (hd : doOp t s cop = some (v, s')) (ht : TR β t a.tmps) (hw : WR base w0 β s w) : s' = s ∧ ReadOk P β a o v w := by
  simp only [cOp, ho] at h
  cases hx : cOpd x with
  | none => simp [hx] at h
  | some x' =>
    have e := cOpd_eval hx ht
    simp only [hx, Option.bind_eq_bind, Option.bind_some] at h
    cases hs : P.underlying st with
    | none => simp [hs] at h
    | some sd =>
      cases hdd : P.underlying dt with
      | none => simp [hs, hdd] at h
      | some dd =>
        cases sd <;> cases dd <;> simp only [hs, hdd] at h <;> try (simp at h; done)
        all_goals try (simp at h; subst h; simp [COp.cls] at hc; done)
        · -- string to bytes
          split at h <;> simp at h
          subst h; simp [COp.cls] at hc
        · rename_i el
          cases hu : P.underlying el with
          | none => simp [hu] at h
          | some d =>
            simp only [hu] at h
            split at h <;> simp at h
            rename_i hk
            cases hk
            subst h
            simp only [doOp] at hd
            cases hsc : sliceCells s 1 (x'.ev t) with
            | none => simp [hsc] at hd
            | some cs =>
              simp only [hsc] at hd
              cases hun : unbytes cs with
              | none => simp [hun] at hd
              | some l =>
                simp [hun] at hd
                obtain ⟨rfl, rfl⟩ := hd
                refine ⟨rfl, _, .string _, ?_⟩
                rcases slice_cells (P := P) hsc e hw with ⟨hx', rfl⟩ | ⟨ad, n, c, r', hx', k1, k2, k3, k4⟩
                · simp [unbytes] at hun; subst hun
                  simp [execOp, ho, hx', convert, Sem.run_bind, run_under hs, run_under hdd, run_under hu, Result.andThen, Conv.bytesToString]
                  rfl
                · have : r' = cs := unbytes_vrs hun k1
                  subst this
                  simp only [Nat.mul_one] at k3
                  simp [execOp, ho, hx', convert, Sem.run_bind, run_under hs, run_under hdd, run_under hu, Result.andThen, Conv.bytesToString, k3]
                  rw [run_bytes (fun n r => rfl) hun]
                  simp

theorem strideIs_row {A z : Nat} (h : s.strideIs A z = true) : ∃ e cs g old, s.obj A = some (.row e z cs g old) := by
  cases s with | mk hp nx ep =>
  simp only [St.strideIs] at h
  simp only [St.obj]
  cases hg : hp.get A with
  | none => simp [hg] at h
  | some o =>
    cases o <;> simp [hg] at h
    subst h
    exact ⟨_, _, _, _, rfl⟩

theorem read_slice {o : Oper} {ty : TypeId} {x : Operand} {lo hi mx : Option Operand} (ho : o.op = .slice ty x lo hi mx) (h : cOp P o = some cop) (hc : cop.cls = .read) (hd : doOp t s cop = some (v, s')) (ht : TR β t a.tmps) (hw : WR base w0 β s w) : s' = s ∧ ReadOk P β a o v w := by
  simp only [cOp, ho] at h
  cases mx with
  | some m => simp at h
  | none =>
    simp at h
    cases hu : P.underlying ty with
    | none => simp [hu] at h
    | some d =>
      cases hx : cOpd x with
      | none => cases d <;> simp [hu, hx] at h
      | some x' =>
        cases hl : optOpd lo with
        | none => cases d <;> simp [hu, hx, hl] at h
        | some lo' =>
          cases hh : optOpd hi with
          | none => cases d <;> simp [hu, hx, hl, hh] at h
          | some hi' =>
            cases d <;> simp [hu, hx, hl, hh] at h
            · subst h; simp [COp.cls] at hc
            · rename_i el
              cases hz : sizeT P el <;> simp [hz] at h
              rename_i z
              subst h
              have e := cOpd_eval hx ht
              obtain ⟨o1, o2⟩ := optOpd_eval hl ht
              obtain ⟨o3, o4⟩ := optOpd_eval hh ht
              simp only [doOp] at hd
              generalize x'.ev t = xv at hd e
              generalize hxv : a.eval x = xv' at e
              cases e <;> try (simp at hd; done)
              · -- nil
                simp only at hd
                cases hb : bounds 0 0 (optEv t lo') (optEv t hi') with
                | none => simp [hb] at hd
                | some lh =>
                  obtain ⟨l, r⟩ := lh
                  simp [hb] at hd
                  obtain ⟨rfl, rfl⟩ := hd
                  obtain ⟨b1, b2, b3⟩ := bounds_some (P := P) hb o1 o2 o3 o4 (Nat.le_refl _) true 0 (Nat.le_refl _) w
                  obtain rfl : r = 0 := by omega
                  obtain rfl : l = 0 := by omega
                  exact ⟨rfl, _, .sliceNil, by simp [execOp, ho, hxv, Instr.sliceAt, Instr.slice, Sem.run_bind, run_under hu, Result.andThen, b1, run_size hz]⟩
              · rename_i A p oo n c c' hA h1 h2 h3
                simp only at hd
                cases hb : bounds n c (optEv t lo') (optEv t hi') with
                | none => simp [hb] at hd
                | some lh =>
                  obtain ⟨l, r⟩ := lh
                  simp only [hb] at hd
                  cases hst : s.strideIs A z with
                  | false => simp [hst] at hd
                  | true =>
                    simp [hst] at hd
                    obtain ⟨rfl, rfl⟩ := hd
                    obtain ⟨er, cs, g, old, hob⟩ := strideIs_row hst
                    have hpz : p.z = z := (hw.rel A p _ hA hob).1
                    obtain ⟨b1, b2, b3⟩ := bounds_some (P := P) hb o1 o2 o3 o4 h1 true c' h2 w
                    by_cases hcl : c' = l
                    · -- nothing is left of it
                      subst hcl
                      have e1 : r - c' = 0 := by omega
                      have e2 : c - c' = 0 := by omega
                      refine ⟨rfl, .slice (some ⟨p.b, p.sh + oo, none⟩) (r - c') (c' - c'), ?_, by simp [execOp, ho, hxv, Instr.sliceAt, Instr.slice, Sem.run_bind, run_under hu, Result.andThen, b1, run_size hz]⟩
                      rw [e1, e2, Nat.sub_self]
                      exact .sliceE _ _ _
                    · refine ⟨rfl, .slice (some ⟨p.b, p.sh + (oo + l * z), none⟩) (r - l) (c' - l), .slice A p _ _ _ _ hA (by omega) (by omega) ?_, ?_⟩
                      · rw [hpz] at h3 ⊢
                        have : (c' - l) * z + l * z = c' * z := by rw [← Nat.add_mul]; congr 1; omega
                        omega
                      · have ha : (⟨p.b, p.sh + oo, none⟩ : Addr).add (l * z) = ⟨p.b, p.sh + (oo + l * z), none⟩ := by
                          unfold Addr.add; split <;> simp_all [Nat.add_assoc]
                        simp [execOp, ho, hxv, Instr.sliceAt, Instr.slice, Sem.run_bind, run_under hu, Result.andThen, b1, run_size hz, hcl, ha]
              · rename_i A oo ad
                simp only at hd
                cases hb : bounds 0 0 (optEv t lo') (optEv t hi') with
                | none => simp [hb] at hd
                | some lh =>
                  obtain ⟨l, r⟩ := lh
                  simp only [hb] at hd
                  cases hst : s.strideIs A z with
                  | false => simp [hst] at hd
                  | true =>
                    simp [hst] at hd
                    obtain ⟨rfl, rfl⟩ := hd
                    obtain ⟨b1, b2, b3⟩ := bounds_some (P := P) hb o1 o2 o3 o4 (Nat.le_refl _) true 0 (Nat.le_refl _) w
                    obtain rfl : r = 0 := by omega
                    obtain rfl : l = 0 := by omega
                    exact ⟨rfl, _, .sliceE _ _ ad, by simp [execOp, ho, hxv, Instr.sliceAt, Instr.slice, Sem.run_bind, run_under hu, Result.andThen, b1, run_size hz]⟩

end
end Go.Ev
end

section
set_option linter.unusedSimpArgs false
set_option linter.unusedVariables false
namespace Go.Ev
open Go _root_.Ev Go.RowKit

section
variable {P : Program} {β : Bl} {t : T Value} {s s' : St} {a : Act} {v : Value} {cop : COp} {base : Nat} {w0 w : World}

/-- What a search finds, in the machine's list. -/
def Found (β : Bl) (k : Value) (all : List MapEntry) : Option (Nat × Value × Nat) → Option (Nat × Value) → Prop
  | none, r => r = none
  | some (j, v, b), r => ∃ e, r = some (j, e.val) ∧ all[j]? = some e ∧ VR β v e.val ∧ e.born = b ∧ e.key = k

def Got (β : Bl) : Option (Nat × Value × Nat) → Option (Nat × Value) → Prop
  | none, r => r = none
  | some (j, u, _), r => ∃ u', r = some (j, u') ∧ VR β u u'

theorem sameNow_one {kt : TypeId} {fk : FK} {d : TypeDesc} (h1 : oneT P kt = some fk) (hu : P.underlying kt = some d) {x y : Value} {b : Bool} (h : flatEq1 fk x y = some b) : Instr.sameNow d x y = some b := by
  rcases one_under h1 with ⟨rfl, q, hu'⟩ | ⟨rfl, hu'⟩ | ⟨rfl, hu'⟩ <;> rw [hu] at hu' <;> cases hu'
  · cases x <;> cases y <;> simp only [flatEq1] at h <;> try (simp at h; done)
    rename_i k1 m k2 n
    cases hk : decide (k1 = k2) with
    | false => simp [hk] at h
    | true =>
      obtain rfl := decide_kind hk
      simp [beqF_eq] at h
      simp [Instr.sameNow, ← h]
      rfl
  · cases x <;> cases y <;> simp only [flatEq1] at h <;> try (simp at h; done)
    rename_i m n
    cases m <;> cases n <;> simp [boolXor] at h <;> subst h <;> rfl
  · cases x <;> cases y <;> simp only [flatEq1] at h <;> try (simp at h; done)
    rename_i m n
    simp only [beqBytes_eq] at h
    simp only [Instr.sameNow, beq_toListBytes, ByteArray.toList_eq]
    exact h

theorem findNow_ok {kt : TypeId} {fk : FK} {d : TypeDesc} (h1 : oneT P kt = some fk) (hu : P.underlying kt = some d) {k : Value} {all : List MapEntry} : ∀ {es : List (Value × Value × Nat)} {es' : List MapEntry} {i : Nat} {r : Option (Nat × Value × Nat)},
    ER β es es' → findK (.one fk) k es i = some r → (∀ j, es'[j]? = all[i + j]?) → ∃ r', Instr.findNow d k es' i = some r' ∧ Found β k all r r'
  | [], es', i, r, he, h, _ => by
    cases he
    simp [findK] at h; subst h
    exact ⟨none, rfl, rfl⟩
  | (k', v, b) :: es, es', i, r, he, h, hall => by
    cases he with
    | cons _ _ v' _ _ es'' hv he =>
      simp only [findK] at h
      cases hq : flatEq (.one fk) k k' with
      | none => simp [hq] at h
      | some c =>
        have hs := sameNow_one h1 hu (x := k) (y := k') (b := c) hq
        cases c with
        | true =>
          simp [hq] at h; subst h
          have hkk := (flatEq_iff hq).1 rfl
          exact ⟨some (i, v'), by simp [Instr.findNow, hs], ⟨k', v', b⟩, rfl, by have := hall 0; simpa using this.symm, hv, rfl, hkk.symm⟩
        | false =>
          simp only [hq] at h
          obtain ⟨r', h2, h3⟩ := findNow_ok h1 hu he h (fun j => by have := hall (j + 1); simp at this; rw [this]; congr 1; omega)
          exact ⟨r', by simp [Instr.findNow, hs]; exact h2, h3⟩

theorem findAsking_ok {kt : TypeId} {kk : KK} (h1 : keyT P kt = some kk) {k : Value} {all : List MapEntry} (w : World) : ∀ {es : List (Value × Value × Nat)} {es' : List MapEntry} {i : Nat} {r : Option (Nat × Value × Nat)},
    ER β es es' → findK kk k es i = some r → (∀ j, es'[j]? = all[i + j]?) → ∃ r', (Instr.findAsking kt k es' i).run P w = .ok r' w ∧ Found β k all r r'
  | [], es', i, r, he, h, _ => by
    cases he
    simp [findK] at h; subst h
    exact ⟨none, rfl, rfl⟩
  | (k', v, b) :: es, es', i, r, he, h, hall => by
    cases he with
    | cons _ _ v' _ _ es'' hv he =>
      simp only [findK] at h
      cases hq : flatEq kk k k' with
      | none => simp [hq] at h
      | some c =>
        have hs := run_eqKey h1 hq w
        cases c with
        | true =>
          simp [hq] at h; subst h
          have hkk := (flatEq_iff hq).1 rfl
          exact ⟨some (i, v'), by simp [Instr.findAsking, Sem.run_bind, hs, Result.andThen], ⟨k', v', b⟩, rfl, by have := hall 0; simpa using this.symm, hv, rfl, hkk.symm⟩
        | false =>
          simp only [hq] at h
          obtain ⟨r', h2, h3⟩ := findAsking_ok h1 w he h (fun j => by have := hall (j + 1); simp at this; rw [this]; congr 1; omega)
          exact ⟨r', by simp [Instr.findAsking, Sem.run_bind, hs, Result.andThen]; exact h2, h3⟩

theorem findKey_ok {kt : TypeId} {kk : KK} (h1 : keyT P kt = some kk) {k : Value} (w : World) {es : List (Value × Value × Nat)} {es' : List MapEntry} {r : Option (Nat × Value × Nat)}
    (he : ER β es es') (h : findK kk k es 0 = some r) : ∃ r', (Instr.findKey kt k es').run P w = .ok r' w ∧ Found β k es' r r' := by
  have h0 := h1
  unfold keyT at h1
  cases ho : oneT P kt with
  | some fk =>
    simp [ho] at h1; subst h1
    obtain ⟨d, hu⟩ : ∃ d, P.underlying kt = some d := by
      rcases one_under ho with ⟨_, q, hu⟩ | ⟨_, hu⟩ | ⟨_, hu⟩ <;> exact ⟨_, hu⟩
    obtain ⟨r', h2, h3⟩ := findNow_ok (all := es') ho hu he h (fun j => by simp)
    exact ⟨r', by simp [Instr.findKey, Sem.run_bind, run_under hu, Result.andThen, h2], h3⟩
  | none =>
    obtain ⟨r', h2, h3⟩ := findAsking_ok (all := es') h0 w he h (fun j => by simp)
    cases hf : flatT P kt with
    | none => simp [ho, hf] at h1
    | some ks =>
      simp [ho, hf] at h1; subst h1
      cases he with
      | nil =>
        simp [Instr.findAsking] at h2
        subst h2
        have : ∃ d, P.underlying kt = some d := by
          rcases flat_under hf with ⟨fs, hu, _⟩ | ⟨n, e, k, i, hu, _⟩ <;> exact ⟨_, hu⟩
        obtain ⟨d, hu⟩ := this
        exact ⟨none, by simp [Instr.findKey, Sem.run_bind, run_under hu, Result.andThen, Instr.findNow], h3⟩
      | cons k' v v' b es es'' hv he =>
        refine ⟨r', ?_, h3⟩
        have hnow : ∀ d, P.underlying kt = some d → Instr.findNow d k (⟨k', v', b⟩ :: es'') 0 = none := by
          intro d hu
          have : Instr.sameNow d k k' = none := by
            rcases flat_under hf with ⟨fs, hu', _⟩ | ⟨n, e, k, i, hu', _⟩ <;> rw [hu] at hu' <;> cases hu' <;> rfl
          simp [Instr.findNow, this]
        have : ∃ d, P.underlying kt = some d := by
          rcases flat_under hf with ⟨fs, hu, _⟩ | ⟨n, e, k, i, hu, _⟩ <;> exact ⟨_, hu⟩
        obtain ⟨d, hu⟩ := this
        simp [Instr.findKey, Sem.run_bind, run_under hu, Result.andThen, hnow d hu]
        exact h2

theorem mapOf_obj {A : Nat} {es : List (Value × Value × Nat)} {c : Nat} (h : s.mapOf A = some (es, c)) : s.obj A = some (.map es c) := by
  cases s with | mk hp nx ep =>
  simp only [St.mapOf] at h
  simp only [St.obj]
  cases hg : hp.get A with
  | none => simp [hg] at h
  | some o => cases o <;> simp [hg] at h; obtain ⟨rfl, rfl⟩ := h; rfl

theorem read_lookup {o : Oper} {ty : TypeId} {x i : Operand} {ok : Bool} (ho : o.op = .lookup ty x i ok) (h : cOp P o = some cop) (hd : doOp t s cop = some (v, s')) (ht : TR β t a.tmps) (hw : WR base w0 β s w) : s' = s ∧ ReadOk P β a o v w := by
  simp only [cOp, ho] at h
  cases hu : P.underlying ty with
  | none => simp [hu] at h
  | some d =>
    cases d <;> simp [hu] at h
    rename_i kt et
    cases hk : keyT P kt with
    | none => simp [hk] at h
    | some kk =>
      cases hz : zeroT P et with
      | none => simp [hk, hz] at h
      | some z =>
        cases hx : cOpd x with
        | none => simp [hk, hz, hx] at h
        | some x' =>
          cases hi : cOpd i with
          | none => simp [hk, hz, hx, hi] at h
          | some i' =>
            simp [hk, hz, hx, hi] at h; subst h
            have ex := cOpd_eval hx ht
            have ei := cOpd_eval hi ht
            obtain ⟨inf, _, _, hpl⟩ := zeroT_some hz
            simp only [doOp] at hd
            -- the search
            cases hm : mapGet s kk (x'.ev t) (i'.ev t) with
            | none => simp [hm] at hd
            | some r =>
              have key : ∃ b, flatEq kk (i'.ev t) (i'.ev t) = some b := by
                unfold mapGet at hm
                split at hm
                · split at hm
                  · exact ⟨_, ‹_›⟩
                  · simp at hm
                · split at hm
                  · split at hm
                    · exact ⟨_, ‹_›⟩
                    · simp at hm
                  · simp at hm
                · simp at hm
              obtain ⟨b, hb⟩ := key
              have hik := flatKey_same hb ei
              have hck := fun em w => run_checkKey (em := em) hk hb w
              have main : ∃ r' : Option (Nat × Value), Got β r r' ∧
                  ∀ (f : Value × Bool → Value), (execOp a.eval o).run P w = (match r' with | some (_, u') => .ok (.value (if ok then .tuple #[u', .bool true] else u')) w | none => .ok (.value (if ok then .tuple #[z, .bool false] else z)) w) := by
                generalize x'.ev t = xv at hm ex
                generalize hxv : a.eval x = xv' at ex
                cases ex <;> try (simp [mapGet] at hm; done)
                · -- a nil map
                  simp only [mapGet, hb] at hm
                  split at hm <;> simp at hm
                  subst hm
                  refine ⟨none, rfl, fun f => ?_⟩
                  have hfk : (Instr.findKey kt (i'.ev t) []).run P w = .ok none w := by
                    obtain ⟨r', h2, h3⟩ := findKey_ok (β := β) (r := none) hk (k := i'.ev t) w .nil rfl
                    rw [h2, h3]
                  cases ok <;> simp [execOp, ho, hxv, hik, Instr.lookup, Sem.run_bind, run_under hu, Result.andThen, hck, hfk, run_zero hz]
                · rename_i A p hA
                  simp only [mapGet] at hm
                  cases hmo : s.mapOf A with
                  | none => simp [hmo] at hm
                  | some ec =>
                    obtain ⟨es, c⟩ := ec
                    simp only [hmo, hb] at hm
                    split at hm <;> try (simp at hm; done)
                    obtain ⟨es', hheap, hE⟩ := hw.rel A p _ hA (mapOf_obj hmo)
                    obtain ⟨r', h2, h3⟩ := findKey_ok (k := i'.ev t) hk w hE hm
                    refine ⟨r', ?_, fun f => ?_⟩
                    · cases r with
                      | none => exact h3
                      | some q => obtain ⟨j, u, bb⟩ := q; obtain ⟨e, k1, k2, k3, k4⟩ := h3; exact ⟨_, k1, k3⟩
                    · have hg : (getObj p.b).run P w = .ok (.map es' c) w := by simp [getObj, Sem.run, hheap]
                      cases r' <;> cases ok <;> simp [execOp, ho, hxv, hik, Instr.lookup, Sem.run_bind, run_under hu, Result.andThen, hg, hck, h2, run_zero hz]
              obtain ⟨r', hr, hrun⟩ := main
              have hrun := hrun (fun x => x.1)
              cases r with
              | none =>
                simp only [Got] at hr
                subst hr
                simp only [hm] at hd
                cases ok <;> simp at hd <;> obtain ⟨rfl, rfl⟩ := hd
                · exact ⟨rfl, z, plainV_refl hpl, by rw [hrun]; rfl⟩
                · exact ⟨rfl, .tuple #[z, .bool false], .tuple [z, .bool false] [z, .bool false] (.cons _ _ _ _ (plainV_refl hpl) (.cons _ _ _ _ (.bool _) .nil)), by rw [hrun]; rfl⟩
              | some q =>
                obtain ⟨j, u, bb⟩ := q
                obtain ⟨u', rfl, hu'⟩ := hr
                simp only [hm] at hd
                cases ok <;> simp at hd <;> obtain ⟨rfl, rfl⟩ := hd
                · exact ⟨rfl, u', hu', by rw [hrun]; rfl⟩
                · exact ⟨rfl, .tuple #[u', .bool true], .tuple [_, .bool true] [u', .bool true] (.cons _ _ _ _ hu' (.cons _ _ _ _ (.bool _) .nil)), by rw [hrun]; rfl⟩

theorem read_lenMap {o : Oper} {c : Call} {b : Builtin} (ho : o.op = .call c) (hb : c.callee = .builtin b) (h : cOp P o = some cop) (hc : cop.cls = .read) (hd : doOp t s cop = some (v, s')) (ht : TR β t a.tmps) (hw : WR base w0 β s w) : s' = s ∧ ReadOk P β a o v w := by
  obtain ⟨cal, args, types⟩ := c
  obtain ⟨args⟩ := args
  obtain ⟨types⟩ := types
  simp at hb; subst hb
  simp only [cOp, ho] at h
  have hexec : execOp a.eval o = (do let r ← builtin b ⟨types⟩ o.type ((⟨args⟩ : Array Operand).map fun | .const _ => true | _ => false) (⟨args.map a.eval⟩); pure r) := by
    simp [execOp, ho, resolve, invoke]
    rfl
  unfold cBuiltin at h
  split at h
  · rename_i x ty
    cases hx : cOpd x with
    | none => simp [hx] at h
    | some x' =>
      have e := cOpd_eval hx ht
      simp [hx] at h
      cases hu : P.underlying ty with
      | none => simp [hu] at h
      | some d =>
        cases d <;> simp [hu] at h
        all_goals try (subst h; simp [COp.cls] at hc; done)
        · split at h <;> simp at h
          subst h; simp [COp.cls] at hc
        · subst h
          simp only [doOp] at hd
          generalize x'.ev t = xv at hd e
          generalize hxv : a.eval x = xv' at e
          cases e <;> try (simp at hd; done)
          · simp only [Option.some.injEq, Prod.mk.injEq] at hd
            obtain ⟨rfl, rfl⟩ := hd
            exact ⟨rfl, _, .int _ _, by rw [hexec]; simp [hxv, builtin, Builtin.len_, Sem.run_bind, run_under hu, Result.andThen, goInt]⟩
          · rename_i A p hA
            simp only at hd
            cases hmo : s.mapOf A with
            | none => simp [hmo] at hd
            | some ec =>
              obtain ⟨es, c⟩ := ec
              simp [hmo] at hd
              obtain ⟨rfl, rfl⟩ := hd
              obtain ⟨es', hheap, hE⟩ := hw.rel A p _ hA (mapOf_obj hmo)
              have hlen : ∀ {x : List (Value × Value × Nat)} {y : List MapEntry}, ER β x y → x.length = y.length := by
                intro x y hxy
                induction hxy with
                | nil => rfl
                | cons _ _ _ _ _ _ _ _ ih => simp [ih]
              have e1 : len es 0 = es'.size := by rw [len_eq, ← Array.length_toList, hlen hE]; simp
              have hg : (getObj p.b).run P w = .ok (.map es' c) w := by simp [getObj, Sem.run, hheap]
              refine ⟨rfl, _, .int _ _, ?_⟩
              rw [hexec, e1]
              simp [hxv, builtin, Builtin.len_, Sem.run_bind, run_under hu, Result.andThen, hg, goInt]
  · exfalso
    rename_i x y ty uy
    cases hx : cOpd x <;> cases hy : cOpd y <;> simp [hx, hy] at h
    split at h <;> try (simp at h; done)
    all_goals
      simp only [cAppend, bind, Option.bind_eq_some_iff] at h
      obtain ⟨z, _, n, _, u, _, h⟩ := h
      split at h <;> simp at h
      subst h
      simp [COp.cls] at hc
  · exfalso
    rename_i x y ty uy
    cases hx : cOpd x <;> cases hy : cOpd y <;> simp [hx, hy] at h
    split at h <;> try (simp at h; done)
    simp only [Option.bind_eq_some_iff] at h
    obtain ⟨z, _, h⟩ := h
    cases h
    simp [COp.cls] at hc
  · exfalso
    rename_i x y
    cases hx : cOpd x <;> cases hy : cOpd y <;> simp [hx, hy] at h
    subst h; simp [COp.cls] at hc
  · exfalso
    rename_i x y
    cases hx : cOpd x <;> cases hy : cOpd y <;> simp [hx, hy] at h
    subst h; simp [COp.cls] at hc
  · simp at h

end
end Go.Ev
end

section
set_option linter.unusedSimpArgs false
set_option linter.unusedVariables false
namespace Go.Ev
open Go _root_.Ev Go.RowKit

section
variable {P : Program} {β : Bl} {t : T Value} {s s' : St} {a : Act} {v : Value} {cop : COp} {base : Nat} {w0 w : World}

/-- An object that the machine makes now; the evaluator has it already. -/
theorem WR.late (h : WR base w0 β s w) {A : Nat} {o : AObj} {p : Pl} {w' : World} {ob : Obj} (hA : β A = none) (ho : s.obj A = some o) (hAn : A < s.nextId) (hp : p.b = w.heap.size) (hh : w'.heap = w.heap.push ob) (hos : w'.os = w.os) (ht : w'.tape = w.tape) (hout : w'.output = w.output)
    (hor : OR (β.add A p) s.eps o p w') : WR base w0 (β.add A p) s w' := by
  have hle : β.le (β.add A p) := fun B x hB => by
    unfold Bl.add
    by_cases e : B = A
    · subst e; rw [hA] at hB; cases hB
    · simp [e, hB]
  have hold : ∀ B, B ≠ A → (β.add A p) B = β B := fun B hB => by simp [Bl.add, hB]
  have hnew : (β.add A p) A = some p := by simp [Bl.add]
  have hblk : ∀ k, k < w.heap.size → w'.heap[k]? = w.heap[k]? := fun k hk => by rw [hh, Array.getElem?_push, if_neg (by omega)]
  have hsz : w'.heap.size = w.heap.size + 1 := by rw [hh]; simp
  refine ⟨Below.push h.below h.hb hh hos ht hout, by have := h.hb; omega, ?_, ?_, h.fresh, h.eld, ?_⟩
  · intro B q hB
    rw [hsz]
    by_cases e : B = A
    · subst e; rw [hnew] at hB; cases hB; exact ⟨hAn, by omega, o, ho⟩
    · rw [hold B e] at hB
      obtain ⟨h1, h2, h3⟩ := h.dom B q hB
      exact ⟨h1, by omega, h3⟩
  · intro B q ob' hB hob
    by_cases e : B = A
    · subst e; rw [hnew] at hB; cases hB; rw [ho] at hob; cases hob; exact hor
    · rw [hold B e] at hB
      exact ((h.rel B q ob' hB hob).of_block (hblk _ (h.dom B q hB).2.1)).mono hle
  · intro B q ob' hB hob hm
    by_cases e : B = A
    · subst e
      rw [hnew] at hB; cases hB
      refine ⟨by rw [hp]; exact h.hb, fun A' p' o'' hne hA' hbb ho'' => ?_⟩
      rw [hold A' hne] at hA'
      have := (h.dom A' p' hA').2.1
      omega
    · rw [hold B e] at hB
      obtain ⟨h1, h2⟩ := h.own B q ob' hB hob hm
      refine ⟨h1, fun A' p' o'' hne hA' hbb ho'' => ?_⟩
      by_cases e' : A' = A
      · subst e'
        rw [hnew] at hA'; cases hA'
        have := (h.dom B q hB).2.1
        omega
      · rw [hold A' e'] at hA'
        exact h2 A' p' o'' hne hA' hbb ho''

/-- It makes an object and yields a value that belongs to 'mk' of its number. -/
def MakeOk (P : Program) (β : Bl) (a : Act) (o : Oper) (ob : AObj) (mk : Nat → Value) : Prop :=
  ∀ w : World, ∃ v' w' p obj, (execOp a.eval o).run P w = .ok (.value v') w' ∧ p.b = w.heap.size ∧ w'.heap = w.heap.push obj ∧ w'.os = w.os ∧ w'.tape = w.tape ∧ w'.output = w.output ∧
    ∀ (β' : Bl) (A : Nat), β.le β' → β' A = some p → VR β' (mk A) v' ∧ ∀ ep, OR β' ep ob p w'

def Makes (P : Program) (β : Bl) (a : Act) (o : Oper) (s s' : St) (v : Value) : Prop :=
  ∃ ob mk, s' = (s.new ob).2 ∧ v = mk s.nextId ∧ ob.mine = true ∧ MakeOk P β a o ob mk

theorem new_pair {s : St} {o : AObj} {A : Nat} {s' : St} (h : s.new o = (A, s')) : A = s.nextId ∧ s' = (s.new o).2 := by
  rw [h]; exact ⟨by rw [← id_new s o, h], rfl⟩

/-- A new row. -/
theorem row_or {β' : Bl} {A : Nat} {p : Pl} {e el : TypeId} {z : Nat} {cs cs' : List Value} {w' : World} {n : Nat} (hp : p = ⟨n, 0, cs'.length, z⟩) (hh : w'.heap[n]? = some (.cells ⟨cs'⟩ el (0, 0))) (hv : VRs β' cs cs') (ep : T Nat) : OR β' ep (.row e z cs none none) p w' := by
  subst hp
  refine ⟨rfl, fun _ => ⟨⟨cs'⟩, el, (0, 0), hh, rfl, by simp [hv.length], fun i v hi => ?_, fun _ j _ _ => by omega⟩⟩
  obtain ⟨v', h1, h2⟩ := hv.get hi
  exact ⟨v', by simpa using h1, h2⟩

theorem run_newObj' (o : Obj) (w : World) : (newObj o).run P w = .ok w.heap.size (w.alloc o) := rfl

theorem push_new (w : World) (o : Obj) : (w.alloc o).heap[w.heap.size]? = some o := by show (w.heap.push o)[w.heap.size]? = _; simp

theorem make_alloc {o : Oper} {e : TypeId} (ho : o.op = .alloc e) (h : cOp P o = some cop) (hd : doOp t s cop = some (v, s')) (ht : TR β t a.tmps) : Makes P β a o s s' v := by
  simp only [cOp, ho] at h
  cases hz : zeroT P e with
  | none => simp [hz] at h
  | some z =>
    simp [hz] at h; subst h
    obtain ⟨inf, hi1, hi2, hpl⟩ := zeroT_some hz
    simp only [doOp] at hd
    cases hn : s.new (.row e 0 (cellsOfV z) none none) with
    | mk A s1 =>
      simp only [hn, Option.some.injEq, Prod.mk.injEq] at hd
      obtain ⟨rfl, rfl⟩ := hd
      obtain ⟨rfl, rfl⟩ := new_pair hn
      refine ⟨_, fun A => ptrV A 0, rfl, rfl, rfl, fun w => ?_⟩
      have hc := (cells_plain (β := β) hpl).1
      refine ⟨.pointer (some ⟨w.heap.size, 0, none⟩), w.alloc (.cells z.cells e), ⟨w.heap.size, 0, (cellsOfV z).length, 0⟩, _, ?_, rfl, rfl, rfl, rfl, rfl, fun β' A hle hA => ⟨by simpa [ptrV] using VR.ptr A _ 0 hA, fun ep => ?_⟩⟩
      · simp [execOp, ho, Instr.alloc, Sem.run_bind, run_zero hz, newVar, newRow]
      · refine row_or (A := A) (el := e) (n := w.heap.size) rfl ?_ (cells_plain hpl).2 ep
        rw [push_new, ← hc]

theorem make_box {o : Oper} {e : TypeId} {x : Operand} (ho : o.op = .box e x) (h : cOp P o = some cop) (hd : doOp t s cop = some (v, s')) (ht : TR β t a.tmps) : Makes P β a o s s' v := by
  simp only [cOp, ho] at h
  cases hx : cOpd x with
  | none => simp [hx] at h
  | some x' =>
    simp [hx] at h; subst h
    have ex := (cOpd_eval hx ht).cells
    simp only [doOp] at hd
    cases hn : s.new (.row e 0 (cellsOfV (x'.ev t)) none none) with
    | mk A s1 =>
      simp only [hn, Option.some.injEq, Prod.mk.injEq] at hd
      obtain ⟨rfl, rfl⟩ := hd
      obtain ⟨rfl, rfl⟩ := new_pair hn
      refine ⟨_, fun A => ptrV A 0, rfl, rfl, rfl, fun w => ?_⟩
      refine ⟨.pointer (some ⟨w.heap.size, 0, none⟩), w.alloc (.cells (a.eval x).cells e), ⟨w.heap.size, 0, (a.eval x).cells.toList.length, 0⟩, _, ?_, rfl, rfl, rfl, rfl, rfl, fun β' A hle hA => ⟨by simpa [ptrV] using VR.ptr A _ 0 hA, fun ep => ?_⟩⟩
      · simp [execOp, ho, Instr.box, Sem.run_bind, newVar, newRow]
      · exact row_or (A := A) (n := w.heap.size) rfl (push_new w _) (ex.mono hle) ep

theorem make_map {o : Oper} {ty : TypeId} {r : Option Operand} (ho : o.op = .makeMap ty r) (h : cOp P o = some cop) (hd : doOp t s cop = some (v, s')) (ht : TR β t a.tmps) : Makes P β a o s s' v := by
  simp only [cOp, ho] at h
  cases hu : P.underlying ty with
  | none => simp [hu] at h
  | some d =>
    cases d <;> simp [hu] at h
    rename_i kt et
    have hcop : cop = .mkMap ∧ (r = none ∨ ∃ k n, r = some (.const (.int k n))) := by
      split at h <;> simp at h
      · exact ⟨h.symm, .inl rfl⟩
      · exact ⟨h.symm, .inr ⟨_, _, rfl⟩⟩
    obtain ⟨rfl, hr⟩ := hcop
    simp only [doOp] at hd
    cases hn : s.new (.map [] 0) with
    | mk A s1 =>
      simp only [hn, Option.some.injEq, Prod.mk.injEq] at hd
      obtain ⟨rfl, rfl⟩ := hd
      obtain ⟨rfl, rfl⟩ := new_pair hn
      refine ⟨_, fun A => .map (some A), rfl, rfl, rfl, fun w => ?_⟩
      refine ⟨.map (some w.heap.size), w.alloc (.map #[] 0), ⟨w.heap.size, 0, 0, 0⟩, _, ?_, rfl, rfl, rfl, rfl, rfl, fun β' A hle hA => ⟨VR.map A _ hA, fun ep => ⟨#[], push_new w _, .nil⟩⟩⟩
      rcases hr with rfl | ⟨k, n, rfl⟩
      · simp [execOp, ho, Instr.makeMap, Sem.run_bind]
      · simp [execOp, ho, Instr.makeMap, Sem.run_bind, run_under hu, Act.eval, asInt, asIntOf]

theorem make_range {o : Oper} {ty : TypeId} {x : Operand} (ho : o.op = .range ty x) (h : cOp P o = some cop) (hd : doOp t s cop = some (v, s')) (ht : TR β t a.tmps) : Makes P β a o s s' v := by
  simp only [cOp, ho] at h
  cases hu : P.underlying ty with
  | none => simp [hu] at h
  | some d =>
    cases d <;> simp [hu] at h
    cases hx : cOpd x with
    | none => simp [hx] at h
    | some x' =>
      simp [hx] at h; subst h
      have e := cOpd_eval hx ht
      simp only [doOp] at hd
      generalize x'.ev t = xv at hd e
      generalize hxv : a.eval x = xv' at e
      cases e <;> try (simp at hd; done)
      rename_i b
      simp only at hd
      cases hn : s.new (.siter b.data.toList 0) with
      | mk A s1 =>
        simp only [hn, Option.some.injEq, Prod.mk.injEq] at hd
        obtain ⟨rfl, rfl⟩ := hd
        obtain ⟨rfl, rfl⟩ := new_pair hn
        refine ⟨_, fun A => ptrV A 0, rfl, rfl, rfl, fun w => ?_⟩
        refine ⟨.pointer (some ⟨w.heap.size, 0, none⟩), w.alloc (.stringIter b 0), ⟨w.heap.size, 0, 0, 0⟩, _, ?_, rfl, rfl, rfl, rfl, rfl, fun β' A hle hA => ⟨by simpa [ptrV] using VR.ptr A _ 0 hA, fun ep => ⟨rfl, push_new w _⟩⟩⟩
        simp [execOp, ho, hxv, Instr.range, Sem.run_bind, run_under hu]

theorem zerosF_get (zero : List Value) : ∀ (n i : Nat) (v : Value), (zerosF zero n)[i]? = some v → zero[i % zero.length]? = some v
  | 0, i, v, h => by simp [zerosF] at h
  | n + 1, i, v, h => by
    simp only [zerosF, app_eq] at h
    by_cases hi : i < zero.length
    · rw [List.getElem?_append_left hi] at h
      rw [Nat.mod_eq_of_lt hi]; exact h
    · rw [List.getElem?_append_right (by omega)] at h
      have := zerosF_get zero n _ v h
      by_cases h0 : zero.length = 0
      · simp [List.length_eq_zero_iff.1 h0] at this
      · rw [← this]
        congr 1
        rw [Nat.mod_eq_sub_mod (by omega)]

theorem zerosF_length (zero : List Value) : ∀ n, (zerosF zero n).length = n * zero.length
  | 0 => by simp [zerosF]
  | n + 1 => by simp only [zerosF, app_eq, List.length_append, zerosF_length zero n]; rw [Nat.succ_mul]; omega

/-- The cells that the machine writes for 'n' zero values. -/
theorem zeros_cells {z : Value} (hz : z.cells.toList = cellsOfV z) (n : Nat) : ((Array.range (n * (cellsOfV z).length)).map fun i => z.cells[i % z.cells.size]!).toList = zerosF (cellsOfV z) n := by
  have hs : z.cells.size = (cellsOfV z).length := by rw [← Array.length_toList, hz]
  apply List.ext_getElem?
  intro i
  by_cases hi : i < n * (cellsOfV z).length
  · have h1 : i < (zerosF (cellsOfV z) n).length := by rw [zerosF_length]; exact hi
    have h2 := zerosF_get (cellsOfV z) n i _ (List.getElem?_eq_getElem h1)
    rw [List.getElem?_eq_getElem h1]
    simp only [Array.getElem?_toList, Array.getElem?_map, Array.getElem?_range, hi, if_true, Option.map_some]
    congr 1
    rw [hs]
    have h3 : z.cells[i % (cellsOfV z).length]? = some (zerosF (cellsOfV z) n)[i] := by rw [← h2, ← hz]; simp
    simp [getElem!_def, h3]
  · have h1 := zerosF_length (cellsOfV z) n
    rw [List.getElem?_eq_none (l := zerosF (cellsOfV z) n) (by omega)]
    simp; omega

theorem make_buildSlice {o : Oper} {ty : TypeId} {n : Nat} {parts : Array (Nat × Operand)} (ho : o.op = .buildSlice ty n parts) (h : cOp P o = some cop) (hd : doOp t s cop = some (v, s')) (ht : TR β t a.tmps) : Makes P β a o s s' v := by
  simp only [cOp, ho] at h
  cases hu : P.underlying ty with
  | none => simp [hu] at h
  | some d =>
    cases d <;> simp [hu] at h
    rename_i e
    cases hz : sizeT P e with
    | none => simp [hz] at h
    | some z =>
      cases hzv : zeroT P e with
      | none => simp [hz, hzv] at h
      | some zv =>
        simp [hz, hzv] at h
        obtain ⟨hlim, h⟩ := h
        cases hp : partsOfS parts.toList with
        | none => simp [hp] at h
        | some ps =>
          simp [hp] at h; subst h
          obtain ⟨inf, hi1, hi2, hpl⟩ := zeroT_some hzv
          obtain ⟨hc1, hc2⟩ := cells_plain (β := β) hpl
          simp only [doOp] at hd
          cases hf : fillF (zerosF (cellsOfV zv) n) (partsS t z ps) with
          | none => simp [hf] at hd
          | some r =>
            simp only [hf] at hd
            cases hn : s.new (.row e z r none none) with
            | mk A s1 =>
              simp only [hn, Option.some.injEq, Prod.mk.injEq] at hd
              obtain ⟨rfl, rfl⟩ := hd
              obtain ⟨rfl, rfl⟩ := new_pair hn
              refine ⟨_, fun A => .slice (some ⟨A, 0, none⟩) n n, rfl, rfl, rfl, fun w => ?_⟩
              obtain ⟨k1, k2⟩ := partsOfS_ok (z := z) hp ht
              have hzs : ∀ m, VRs β (zerosF (cellsOfV zv) m) (zerosF (cellsOfV zv) m) := by
                intro m
                induction m with
                | zero => exact .nil
                | succ m ih => simp only [zerosF, app_eq]; exact hc2.append ih
              obtain ⟨r', h1, h2⟩ := fill_ok (place := fun i => some (i * z, z)) hf (hzs n) k1 k2
              have hlen : r'.length = n * z := by
                have e1 : ∀ {cs : List Value} {ps : List (Nat × Nat × Value)} {r : List Value}, fillF cs ps = some r → r.length = cs.length := by
                  intro cs ps
                  induction ps generalizing cs with
                  | nil => intro r hr; simp [fillF] at hr; rw [hr]
                  | cons q ps ih =>
                    obtain ⟨q1, q2, q3⟩ := q
                    intro r hr
                    simp only [fillF] at hr
                    split at hr <;> try (simp at hr; done)
                    split at hr <;> try (simp at hr; done)
                    rename_i hs
                    rw [ih hr, (spl_some _ _ _ _ hs).2.1]
                rw [← h2.length, e1 hf, zerosF_length, hlim.2]
              refine ⟨.slice (some ⟨w.heap.size, 0, none⟩) n n, w.alloc (.cells ⟨r'⟩ e), ⟨w.heap.size, 0, r'.length, z⟩, _, ?_, rfl, rfl, rfl, rfl, rfl, fun β' A hle hA => ⟨?_, fun ep => row_or (A := A) (n := w.heap.size) rfl (push_new w _) (h2.mono hle) ep⟩⟩
              · have hlim1 : ¬ (16777216 < n * z) := by have := hlim.1; omega
                by_cases h0 : n * z = 0
                · have e0 : zerosF (cellsOfV zv) n = [] := List.length_eq_zero_iff.1 (by rw [zerosF_length, hlim.2, h0])
                  rw [e0] at h1
                  simp [execOp, ho, Instr.buildSlice, Sem.run_bind, run_under hu, run_size hz, h0]
                  have hr0 : (Array.map (fun _ => (default : Value)) (Array.range 0)) = ⟨[]⟩ := by simp
                  rw [hr0, h1]
                  simp [newRow]
                · have hcells := zeros_cells hc1 n
                  rw [hlim.2] at hcells
                  have hc' : ((Array.range (n * z)).map fun i => zv.cells[i % zv.cells.size]!) = ⟨zerosF (cellsOfV zv) n⟩ := Array.ext' hcells
                  have h0' : ¬ (n = 0 ∨ z = 0) := fun hh => h0 (by rcases hh with rfl | rfl <;> simp)
                  simp [execOp, ho, Instr.buildSlice, Sem.run_bind, run_under hu, run_size hz, run_zero hzv, h0', hlim1]
                  rw [hc', h1]
                  simp [newRow]
                  exact fun hh => absurd hh h0
              · have := VR.slice A _ 0 n n n hA (Nat.le_refl _) (Nat.le_refl _) (by simp [hlen])
                simpa using this

end
end Go.Ev
end

section
set_option linter.unusedSimpArgs false
set_option linter.unusedVariables false
namespace Go.Ev
open Go _root_.Ev Go.RowKit

section
variable {P : Program} {β : Bl} {t : T Value} {s s' : St} {a : Act} {v : Value} {cop : COp} {base : Nat} {w0 w : World}

theorem wrap_nat {n : Nat} (h : n ≤ 281474976710656) : IntKind.i64.wrap (n : Int) = n := by
  simp only [IntKind.wrap, IntKind.bits, IntKind.signed]
  simp
  omega

theorem make_makeSlice {o : Oper} {ty : TypeId} {l c : Operand} (ho : o.op = .makeSlice ty l c) (h : cOp P o = some cop) (hd : doOp t s cop = some (v, s')) (ht : TR β t a.tmps) : Makes P β a o s s' v := by
  simp only [cOp, ho] at h
  cases hu : P.underlying ty with
  | none => simp [hu] at h
  | some d =>
    cases d <;> simp [hu] at h
    rename_i e
    cases hz : sizeT P e with
    | none => simp [hz] at h
    | some z =>
      cases hbt : bytesT P e with
      | none => simp [hz, hbt] at h
      | some by_ =>
        cases hzv : zeroT P e with
        | none => simp [hz, hbt, hzv] at h
        | some zv =>
          simp [hz, hbt, hzv] at h
          obtain ⟨hlz, h⟩ := h
          cases hl : cOpd l with
          | none => simp [hl] at h
          | some l' =>
            cases hc : cOpd c with
            | none => simp [hl, hc] at h
            | some c' =>
              simp [hl, hc] at h; subst h
              obtain ⟨inf, hi1, hi2, hpl⟩ := zeroT_some hzv
              obtain ⟨hc1, hc2⟩ := cells_plain (β := β) hpl
              simp only [doOp] at hd
              cases hnl : intN (l'.ev t) with
              | none => simp [hnl] at hd
              | some n =>
                cases hnc : intN (c'.ev t) with
                | none => simp [hnl, hnc] at hd
                | some m =>
                  obtain ⟨k1, hk1⟩ := intN_some hnl (cOpd_eval hl ht)
                  obtain ⟨k2, hk2⟩ := intN_some hnc (cOpd_eval hc ht)
                  simp only [hnl, hnc] at hd
                  cases hb1 : Nat.ble n m with
                  | false => simp [hb1] at hd
                  | true =>
                    have hnm := Nat.le_of_ble_eq_true hb1
                    simp only [hb1] at hd
                    cases hb2 : Nat.ble (m * by_) 281474976710656 with
                    | false => simp [hb2] at hd
                    | true =>
                      have hmb := Nat.le_of_ble_eq_true hb2
                      simp only [hb2] at hd
                      cases hb3 : Nat.ble m 281474976710656 with
                      | false => simp [hb3] at hd
                      | true =>
                        have hm := Nat.le_of_ble_eq_true hb3
                        simp only [hb3] at hd
                        cases hn : s.new (.row e z (zerosF (cellsOfV zv) m) none none) with
                        | mk A s1 =>
                          simp only [hn, Option.some.injEq, Prod.mk.injEq] at hd
                          obtain ⟨rfl, rfl⟩ := hd
                          obtain ⟨rfl, rfl⟩ := new_pair hn
                          refine ⟨_, fun A => .slice (some ⟨A, 0, none⟩) n m, rfl, rfl, rfl, fun w => ?_⟩
                          have hzs : ∀ m, VRs β (zerosF (cellsOfV zv) m) (zerosF (cellsOfV zv) m) := by
                            intro m
                            induction m with
                            | zero => exact .nil
                            | succ m ih => simp only [zerosF, app_eq]; exact hc2.append ih
                          have hlen : (zerosF (cellsOfV zv) m).length = m * z := by rw [zerosF_length, hlz]
                          refine ⟨.slice (some ⟨w.heap.size, 0, none⟩) n m, w.alloc (.cells ⟨zerosF (cellsOfV zv) m⟩ e), ⟨w.heap.size, 0, (zerosF (cellsOfV zv) m).length, z⟩, _, ?_, rfl, rfl, rfl, rfl, rfl, fun β' A hle hA => ⟨?_, fun ep => row_or (A := A) (n := w.heap.size) rfl (push_new w _) ((hzs m).mono hle) ep⟩⟩
                          · obtain ⟨bi, hbi, rfl⟩ : ∃ i, P.info? e = some i ∧ i.bytes = by_ := by
                              cases hbi : P.info? e with
                              | none => simp [bytesT, hbi] at hbt
                              | some i => exact ⟨i, rfl, by simpa [bytesT, hbi] using hbt⟩
                            have hti : (typeInfo e).run P w = .ok bi w := run_typeInfo w hbi
                            have w1 : IntKind.i64.wrap (n : Int) = n := wrap_nat (by omega)
                            have w2 : IntKind.i64.wrap (m : Int) = m := wrap_nat hm
                            have big : ¬ ((bi.bytes : Int) * m > 2 ^ 48) := by
                              have : ((m * bi.bytes : Nat) : Int) ≤ 281474976710656 := by omega
                              rw [Int.natCast_mul] at this
                              rw [Int.mul_comm]; omega
                            have big' : (bi.bytes : Int) * m ≤ 281474976710656 := by omega
                            have hroom : (askRoom (m * bi.bytes)).run P w = .ok () w := by
                              unfold askRoom
                              split <;> rfl
                            have hcells := zeros_cells hc1 m
                            rw [hlz] at hcells
                            have hc' : ((Array.range (m * z)).map fun i => zv.cells[i % zv.cells.size]!) = ⟨zerosF (cellsOfV zv) m⟩ := Array.ext' hcells
                            have hneg : ¬ ((n : Int) < 0) := by omega
                            have hneg2 : ¬ ((m : Int) < 0) := by omega
                            have hlt : ¬ ((n : Int) > m) := by omega
                            have hif : ¬ (281474976710656 < (bi.bytes : Int) * m ∨ m < n) := by omega
                            by_cases h0 : m * z = 0
                            · have e0 : zerosF (cellsOfV zv) m = [] := List.length_eq_zero_iff.1 (by rw [hlen, h0])
                              rw [e0]
                              simp [execOp, ho, hk1, hk2, Instr.makeSlice, asInt, asIntOf, Sem.run_bind, run_under hu, run_size hz, hti, w1, w2, big', hneg, hneg2, hnm, hroom, h0, newRow]
                              rw [if_neg hif]
                              have hr0 : (Array.map (fun _ => (default : Value)) (Array.range 0)) = ⟨[]⟩ := by simp
                              simp only [Sem.run_bind, hroom, hr0, Result.andThen_ok]
                            · simp [execOp, ho, hk1, hk2, Instr.makeSlice, asInt, asIntOf, Sem.run_bind, run_under hu, run_size hz, hti, w1, w2, big', hneg, hneg2, hnm, hroom, h0, run_zero hzv, newRow]
                              rw [if_neg hif]
                              rw [hc']
                          · have := VR.slice A _ 0 n m m hA hnm (Nat.le_refl _) (by simp [hlen])
                            simpa using this


theorem bytesV_eq : ∀ (l : List UInt8), bytesV l = l.map fun b => Value.int .u8 b.toNat
  | [] => rfl
  | b :: l => by simp only [bytesV, bytesV_eq l, List.map_cons]; rfl

theorem bytesV_vrs {β' : Bl} : ∀ (l : List UInt8), VRs β' (bytesV l) (bytesV l)
  | [] => .nil
  | b :: l => .cons _ _ _ _ (.int _ _) (bytesV_vrs l)

theorem make_bytesOf {o : Oper} {st dt : TypeId} {x : Operand} (ho : o.op = .convert st dt x) (h : cOp P o = some cop) (hc : cop.cls = .make) (hd : doOp t s cop = some (v, s')) (ht : TR β t a.tmps) : Makes P β a o s s' v := by
  simp only [cOp, ho] at h
  cases hx : cOpd x with
  | none => simp [hx] at h
  | some x' =>
    have e := cOpd_eval hx ht
    simp only [hx, Option.bind_eq_bind, Option.bind_some] at h
    cases hs : P.underlying st with
    | none => simp [hs] at h
    | some sd =>
      cases hdd : P.underlying dt with
      | none => simp [hs, hdd] at h
      | some dd =>
        cases sd <;> cases dd <;> simp only [hs, hdd] at h <;> try (simp at h; done)
        all_goals try (simp at h; subst h; simp [COp.cls] at hc; done)
        · rename_i el
          cases hu : P.underlying el with
          | none => simp [hu] at h
          | some d =>
            simp only [hu] at h
            split at h <;> simp at h
            rename_i hk
            cases hk
            subst h
            simp only [doOp] at hd
            generalize x'.ev t = xv at hd e
            generalize hxv : a.eval x = xv' at e
            cases e <;> try (simp at hd; done)
            rename_i b
            simp only at hd
            cases hn : s.new (.row el 1 (bytesV b.data.toList) none none) with
            | mk A s1 =>
              simp only [hn, Option.some.injEq, Prod.mk.injEq] at hd
              obtain ⟨rfl, rfl⟩ := hd
              obtain ⟨rfl, rfl⟩ := new_pair hn
              refine ⟨_, fun A => .slice (some ⟨A, 0, none⟩) (len b.data.toList 0) (len b.data.toList 0), rfl, rfl, rfl, fun w => ?_⟩
              have hlen : len b.data.toList 0 = b.size := by rw [len_eq]; simp
              -- the capacity that the machine draws
              generalize hcg : grownCap w b.size 0 el = cap
              have hcap : b.size ≤ cap := by rw [← hcg]; unfold grownCap; simp [Question.cut]
              have hcl : (Lib.bytesCells w el b).size = cap := by
                simp only [Lib.bytesCells, hcg, Array.size_append, Array.size_map, Array.size_replicate]
                show b.size + (cap - b.size) = cap
                omega
              have hheap : (Lib.bytesWorld w el b).heap = w.heap.push (.cells (Lib.bytesCells w el b) el (cap, cap + 1)) := by
                apply Array.ext_getElem?
                intro i
                by_cases hi : i < w.heap.size
                · rw [Lib.bytesWorld_at_old w el b i hi, Array.getElem?_push, if_neg (by omega)]
                · by_cases he : i = w.heap.size
                  · subst he; rw [Lib.bytesWorld_at_new, hcl]; simp
                  · rw [Array.getElem?_eq_none (by rw [Lib.bytesWorld_size]; omega), Array.getElem?_eq_none (by simp; omega)]
              refine ⟨.slice (some ⟨w.heap.size, 0, none⟩) b.size cap, Lib.bytesWorld w el b, ⟨w.heap.size, 0, cap, 1⟩, _, ?_, rfl, hheap, ?_, ?_, ?_, fun β' A hle hA => ⟨?_, fun ep => ?_⟩⟩
              · have := Lib.run_convert_string_bytes w st dt el b hs hdd hu
                rw [hcg] at this
                simp [execOp, ho, hxv, Sem.run_bind, this]
              · unfold Lib.bytesWorld World.freeze; simp only [Nat.one_ne_zero, if_false]; rfl
              · unfold Lib.bytesWorld World.freeze; simp only [Nat.one_ne_zero, if_false]; rfl
              · unfold Lib.bytesWorld World.freeze; simp only [Nat.one_ne_zero, if_false]; rfl
              · have := VR.slice A _ 0 (len b.data.toList 0) (len b.data.toList 0) cap hA (Nat.le_refl _) (by omega) (by simp)
                rw [hlen] at this ⊢
                simpa using this
              · refine ⟨rfl, fun _ => ⟨Lib.bytesCells w el b, el, (cap, cap + 1), by rw [Lib.bytesWorld_at_new, hcl], hcl, by simp [bytesV_eq]; exact hcap, fun i v hi => ?_, fun _ j h1 h2 h3 => by simp at h2 h3; omega⟩⟩
                refine ⟨v, ?_, ?_⟩
                · show (Lib.bytesCells w el b)[0 + i]? = _
                  rw [Nat.zero_add]
                  have hil : i < (bytesV b.data.toList).length := (List.getElem?_eq_some_iff.1 hi).1
                  rw [bytesV_eq] at hi hil
                  simp only [Lib.bytesCells]
                  rw [Array.getElem?_append_left (by simpa using hil)]
                  simpa using hi
                · obtain ⟨v', h1, h2⟩ := (bytesV_vrs (β' := β') b.data.toList).get hi
                  rw [hi] at h1; cases h1; exact h2
        · exfalso
          split at h <;> simp at h
          subst h; simp [COp.cls] at hc

end
end Go.Ev
end

section
set_option linter.unusedSimpArgs false
set_option linter.unusedVariables false
namespace Go.Ev
open Go _root_.Ev Go.RowKit

section
variable {P : Program} {β : Bl} {t : T Value} {s s' : St} {a : Act} {v : Value} {cop : COp} {base : Nat} {w0 w : World}

def Grow (s : St) (β β' : Bl) : Prop := ∀ A p, β' A = some p → β A = some p ∨ s.nextId ≤ A

theorem Grow.refl (s : St) (β : Bl) : Grow s β β := fun _ _ h => .inl h

def EffOk (P : Program) (base : Nat) (w0 : World) (β : Bl) (a : Act) (o : Oper) (s s' : St) (v : Value) (w : World) : Prop :=
  ∃ r v' w' β', (execOp a.eval o).run P w = .ok r w' ∧ (r = .value v' ∨ r = .skip ∧ v' = undef) ∧ VR β' v v' ∧ β.le β' ∧ Grow s β β' ∧ WR base w0 β' s' w'

theorem ones_vrs : ∀ {vs vs' : List Value}, ones vs = true → VRs β vs vs' → ∀ x ∈ vs', x.oneCell' = true
  | [], _, _, .nil, x, hx => by simp at hx
  | v :: vs, _, h, .cons _ v' _ vs' hv hs, x, hx => by
    have : ones vs = true ∧ v'.oneCell' = true := by
      simp only [ones] at h
      cases hv <;> simp at h <;> exact ⟨h, rfl⟩
    rcases List.mem_cons.1 hx with rfl | hx
    · exact this.2
    · exact ones_vrs this.1 hs x hx

/-- Cells stored in a row. -/
theorem run_stores {b o : Nat} {el : TypeId} {fz : Nat × Nat} : ∀ (vs : List Value) (i : Nat) (c : Array Value) (w : World), w.heap[b]? = some (.cells c el fz) → o + i + vs.length ≤ c.size → (∀ j, o + i ≤ j → j < o + i + vs.length → ¬ (fz.1 ≤ j ∧ j < fz.2)) → (∀ x ∈ vs, x.oneCell' = true) →
    ∃ c' w', (storeCells ⟨b, o, none⟩ vs i).run P w = .ok () w' ∧ w'.heap = w.heap.setIfInBounds b (.cells c' el fz) ∧ w'.os = w.os ∧ w'.tape = w.tape ∧ w'.output = w.output ∧ c'.size = c.size ∧
      ∀ j, c'[j]? = if o + i ≤ j ∧ j < o + i + vs.length then vs[j - (o + i)]? else c[j]?
  | [], i, c, w, hb, _, _, _ => by
    refine ⟨c, w, rfl, ?_, rfl, rfl, rfl, rfl, fun j => by rw [if_neg (by simp)]⟩
    apply Array.ext_getElem?
    intro k
    by_cases hk : k = b
    · subst hk
      rw [hb, Array.getElem?_setIfInBounds_self_of_lt (Array.getElem?_eq_some_iff.1 hb).1]
    · rw [Array.getElem?_setIfInBounds_ne (Ne.symm hk)]
  | v :: vs, i, c, w, hb, hlen, hfz, h1 => by
    simp only [List.length_cons] at hlen hfz
    have hadd : (⟨b, o, none⟩ : Addr).add i = ⟨b, o + i, none⟩ := by unfold Addr.add; split <;> simp_all
    have hlt : o + i < c.size := by omega
    have hblt : b < w.heap.size := (Array.getElem?_eq_some_iff.1 hb).1
    have hcell : w.cell? ⟨b, o + i, none⟩ = some c[o + i] := by simp [World.cell?, hb, hlt]
    have hfr : w.frozen? ⟨b, o + i, none⟩ = false := by
      simp only [World.frozen?, hb]
      have := hfz (o + i) (by omega) (by omega)
      rw [Bool.and_eq_false_iff]
      by_cases hh : fz.1 ≤ o + i
      · right; simp; omega
      · left; simpa using hh
    have hst : (store ⟨b, o + i, none⟩ v).run P w = .ok () (w.setCell ⟨b, o + i, none⟩ v) := by
      rw [run_store P w _ v _ (h1 v (by simp)), hcell, hfr]; rfl
    have hheap : (w.setCell ⟨b, o + i, none⟩ v).heap[b]? = some (.cells (c.setIfInBounds (o + i) v) el fz) := by
      simp [World.setCell, Array.getElem?_modify, hb]
    obtain ⟨c', w', r1, r2, r3, r4, r5, r6, r7⟩ := run_stores (o := o) vs (i + 1) (c.setIfInBounds (o + i) v) (w.setCell ⟨b, o + i, none⟩ v) hheap (by simp; omega) (fun j h2 h3 => hfz j (by omega) (by omega)) (fun x hx => h1 x (by simp [hx]))
    refine ⟨c', w', ?_, ?_, r3, r4, r5, by simpa using r6, fun j => ?_⟩
    · simp only [storeCells, hadd, Sem.run_bind, hst, Result.andThen_ok]
      exact r1
    · rw [r2]
      apply Array.ext_getElem?
      intro k
      by_cases hk : k = b
      · subst hk
        rw [Array.getElem?_setIfInBounds_self_of_lt hblt, Array.getElem?_setIfInBounds_self_of_lt (by simp [World.setCell]; exact hblt)]
      · rw [Array.getElem?_setIfInBounds_ne (Ne.symm hk), Array.getElem?_setIfInBounds_ne (Ne.symm hk)]
        simp only [World.setCell, Array.getElem?_modify]
        rw [if_neg (Ne.symm hk)]
    · rw [r7]
      simp only [List.length_cons]
      by_cases c1 : o + (i + 1) ≤ j ∧ j < o + (i + 1) + vs.length
      · rw [if_pos c1, if_pos (by omega)]
        have : j - (o + i) = (j - (o + (i + 1))) + 1 := by omega
        rw [this]; simp
      · rw [if_neg c1]
        by_cases c2 : j = o + i
        · subst c2
          rw [if_pos (by omega), Array.getElem?_setIfInBounds_self_of_lt hlt]; simp
        · rw [if_neg (by omega), Array.getElem?_setIfInBounds_ne (by omega)]

/-- A store through the evaluator's own heap, and the machine's. -/
theorem write_run {A o : Nat} {vs vs' : List Value} {p : Pl} (hw : WR base w0 β s w) (hA : β A = some p) (hwr : s.write A o vs = some s') (hv : VRs β vs vs') (h1 : ones vs = true) :
    ∃ w', (storeCells ⟨p.b, p.sh + o, none⟩ vs').run P w = .ok () w' ∧ WR base w0 β s' w' := by
  obtain ⟨e, z, cs, g, cs', ho, hs, hn, hobj, hep⟩ := write_some hwr
  obtain ⟨hsl, hlen, hget⟩ := spl_some _ _ _ _ hs
  obtain ⟨hz, hrow⟩ := hw.rel A p _ hA ho
  obtain ⟨c, el, fz, k1, k2, k3, k4, k5⟩ := hrow rfl
  have hvl := hv.length
  obtain ⟨c', w', r1, r2, r3, r4, r5, r6, r7⟩ := run_stores (P := P) (b := p.b) (o := p.sh + o) vs' 0 c w k1 (by omega) (fun j h2 h3 => k5 rfl j (by omega) (by omega)) (ones_vrs h1 hv)
  refine ⟨w', r1, hw.store hA hwr hv k1 r2 r3 r4 r5 r6 fun i => ?_⟩
  rw [r7]
  simp only [Nat.add_zero, hvl]

theorem eff_store {o : Oper} {ty : TypeId} {x y : Operand} (ho : o.op = .store ty x y) (h : cOp P o = some cop) (hd : doOp t s cop = some (v, s')) (ht : TR β t a.tmps) (hw : WR base w0 β s w) : EffOk P base w0 β a o s s' v w := by
  simp only [cOp, ho] at h
  cases hz : sizeT P ty with
  | none => simp [hz] at h
  | some n =>
    cases hx : cOpd x with
    | none => simp [hz, hx] at h
    | some x' =>
      cases hy : cOpd y with
      | none => simp [hz, hx, hy] at h
      | some y' =>
        simp [hz, hx, hy] at h; subst h
        have ex := cOpd_eval hx ht
        have ey := (cOpd_eval hy ht).cells
        simp only [doOp] at hd
        generalize x'.ev t = xv at hd ex
        generalize hxv : a.eval x = xv' at ex
        cases ex <;> try (simp [addrOf] at hd; done)
        rename_i A p oo hA
        simp only [addrOf] at hd
        cases hb : Nat.beq (len (cellsOfV (y'.ev t)) 0) n with
        | false => simp [hb] at hd
        | true =>
          have hn := Nat.eq_of_beq_eq_true hb
          rw [len_eq] at hn
          simp only [hb] at hd
          cases h1 : ones (cellsOfV (y'.ev t)) with
          | false => simp [h1] at hd
          | true =>
            simp only [h1] at hd
            cases hwr : s.write A oo (cellsOfV (y'.ev t)) with
            | none => simp [hwr] at hd
            | some s1 =>
              simp [hwr] at hd
              obtain ⟨rfl, rfl⟩ := hd
              obtain ⟨w', r1, r2⟩ := write_run (P := P) hw hA hwr ey h1
              have hsz : (a.eval y).cells.size = n := by rw [← Array.length_toList, ← ey.length]; omega
              refine ⟨.skip, undef, w', β, ?_, .inr ⟨rfl, rfl⟩, .undef, Bl.le_refl _, .refl _ _, r2⟩
              simp [execOp, ho, hxv, Instr.storeAt, Instr.sureAddr, Sem.run_bind, storeVar, run_size hz, hsz, r1]

theorem findK_lt {kk : KK} {k : Value} : ∀ {es : List (Value × Value × Nat)} {i j : Nat} {v : Value} {b : Nat}, findK kk k es i = some (some (j, v, b)) → i ≤ j ∧ ∃ e, es[j - i]? = some e ∧ e.2 = (v, b) ∧ e.1 = k
  | [], i, j, v, b, h => by simp [findK] at h
  | (k', v', b') :: es, i, j, v, b, h => by
    simp only [findK] at h
    cases hq : flatEq kk k k' with
    | none => simp [hq] at h
    | some c =>
      cases c with
      | true => simp [hq] at h; obtain ⟨rfl, rfl, rfl⟩ := h; exact ⟨Nat.le_refl _, (k', v', b'), by simp, rfl, ((flatEq_iff hq).1 rfl).symm⟩
      | false =>
        simp only [hq] at h
        obtain ⟨h1, e, h2, h3, h4⟩ := findK_lt h
        have h1' : i + 1 ≤ j := h1
        refine ⟨by omega, e, ?_, h3, h4⟩
        have : j - i = (j - i.succ) + 1 := by show j - i = (j - (i + 1)) + 1; omega
        rw [this]; simpa using h2

theorem er_set : ∀ {es : List (Value × Value × Nat)} {es' : List MapEntry} {j : Nat} {k u u' : Value}, ER β es es' → VR β u u' → ER β (setEnt es j k u) (es'.modify j fun e => { e with key := k, val := u' })
  | [], _, j, k, u, u', .nil, hu => by simp [setEnt]; exact .nil
  | _, _, 0, k, u, u', .cons k0 v0 v0' b es es' hv he, hu => by simp [setEnt]; exact .cons _ _ _ _ _ _ hu he
  | _, _, j + 1, k, u, u', .cons k0 v0 v0' b es es' hv he, hu => by
    have ih := er_set (j := j) (k := k) he hu
    simp only [setEnt, List.modify_succ_cons]
    cases hq : setEnt es j k u with
    | nil => rw [hq] at ih; simpa using ER.cons _ _ _ _ _ _ hv ih
    | cons q qs => rw [hq] at ih; simpa using ER.cons _ _ _ _ _ _ hv ih

theorem er_snoc : ∀ {es : List (Value × Value × Nat)} {es' : List MapEntry} {k u u' : Value} {b : Nat}, ER β es es' → VR β u u' → ER β (snocF es (k, u, b)) (es' ++ [⟨k, u', b⟩])
  | [], _, k, u, u', b, .nil, hu => .cons _ _ _ _ _ _ hu .nil
  | _, _, k, u, u', b, .cons k0 v0 v0' b0 es es' hv he, hu => by
    have ih := er_snoc (k := k) (b := b) he hu
    simp only [snocF]
    cases hq : snocF es (k, u, b) with
    | nil => rw [hq] at ih; exact .cons _ _ _ _ _ _ hv ih
    | cons q qs => rw [hq] at ih; exact .cons _ _ _ _ _ _ hv ih

theorem sameBits_flat {kk : KK} {k : Value} {b : Bool} (h : flatEq kk k k = some b) : Instr.sameBits 10000 k k = true := by
  have one : ∀ {fk : FK} {x : Value} (n : Nat), fk.has x → Instr.sameBits n x x = true := by
    intro fk x n hx
    cases fk <;> cases x <;> first | exact hx.elim | (cases n <;> simp [Instr.sameBits]; done) | (cases n <;> simp only [Instr.sameBits, beq_toListBytes] <;> simp)
  cases kk with
  | one fk => exact one _ (flatEq1_spec h).1
  | row ks =>
    cases k <;> simp [flatEq] at h
    rename_i l
    obtain ⟨l⟩ := l
    simp at h
    show Instr.sameBits (9999 + 1) _ _ = true
    simp only [Instr.sameBits]
    simp
    intro x y hxy
    have hz : x = y ∧ x ∈ l := by
      have : ∀ (l : List Value) {x y : Value}, (x, y) ∈ l.zip l → x = y ∧ x ∈ l := by
        intro l
        induction l with
        | nil => intro x y h; simp at h
        | cons q l ih =>
          intro x y h
          simp only [List.zip_cons_cons, List.mem_cons, Prod.mk.injEq] at h
          rcases h with ⟨rfl, rfl⟩ | h
          · exact ⟨rfl, by simp⟩
          · obtain ⟨h1, h2⟩ := ih h; exact ⟨h1, by simp [h2]⟩
      exact this l hxy
    obtain ⟨rfl, hm⟩ := hz
    obtain ⟨i, hi⟩ := List.mem_iff_getElem?.1 hm
    have hl := (flatEqs_spec h).1
    have hil : i < l.length := (List.getElem?_eq_some_iff.1 hi).1
    obtain ⟨k, hk⟩ : ∃ k, ks[i]? = some k := ⟨_, List.getElem?_eq_getElem (by omega)⟩
    obtain ⟨x1, y1, c, g1, g2, g3⟩ := flatEqs_get h i k hk
    rw [hi] at g1; cases g1
    exact one 9999 (flatEq1_spec g3).1

theorem eff_mapSet {o : Oper} {ty : TypeId} {m k u : Operand} (ho : o.op = .mapUpdate ty m k u ∨ o.op = .insert ty m k u) (h : cOp P o = some cop) (hd : doOp t s cop = some (v, s')) (ht : TR β t a.tmps) (hw : WR base w0 β s w) : EffOk P base w0 β a o s s' v w := by
  have h' : cMapSet P ty m k u = some cop := by rcases ho with ho | ho <;> simpa only [cOp, ho] using h
  unfold cMapSet at h'
  cases hu : P.underlying ty with
  | none => simp [hu] at h'
  | some d =>
    cases d <;> simp [hu] at h'
    rename_i kt et
    cases hk : keyT P kt with
    | none => simp [hk] at h'
    | some kk =>
      cases hm : cOpd m with
      | none => simp [hk, hm] at h'
      | some m' =>
        cases hkk : cOpd k with
        | none => simp [hk, hm, hkk] at h'
        | some k' =>
          cases huu : cOpd u with
          | none => simp [hk, hm, hkk, huu] at h'
          | some u' =>
            simp [hk, hm, hkk, huu] at h'; subst h'
            have em := cOpd_eval hm ht
            have ek := cOpd_eval hkk ht
            have eu := cOpd_eval huu ht
            simp only [doOp] at hd
            cases hms : mapSetF s kk (m'.ev t) (k'.ev t) (u'.ev t) with
            | none => simp [hms] at hd
            | some s1 =>
              simp [hms] at hd
              obtain ⟨rfl, rfl⟩ := hd
              generalize m'.ev t = mv at hms em
              generalize hmv : a.eval m = mv' at em
              cases em <;> try (simp [mapSetF] at hms; done)
              rename_i A p hA
              simp only [mapSetF] at hms
              cases hmo : s.mapOf A with
              | none => simp [hmo] at hms
              | some ec =>
                obtain ⟨es, c⟩ := ec
                simp only [hmo] at hms
                cases hfe : flatEq kk (k'.ev t) (k'.ev t) with
                | none => simp [hfe] at hms
                | some bb =>
                  have hik := flatKey_same hfe ek
                  have hck := run_checkKey (em := false) hk hfe w
                  cases bb with
                  | false => simp [hfe] at hms
                  | true =>
                    simp only [hfe] at hms
                    have hobj := mapOf_obj hmo
                    obtain ⟨es', hheap, hE⟩ := hw.rel A p _ hA hobj
                    have hg : (getObj p.b).run P w = .ok (.map es' c) w := by simp [getObj, Sem.run, hheap]
                    have hset : ∀ ob, (setObj p.b ob).run P w = .ok () { w with heap := w.heap.setIfInBounds p.b ob } := fun ob => by simp [setObj, Sem.run, hheap]
                    have hplt := (hw.dom A p hA).2.1
                    cases hf : findK kk (k'.ev t) es 0 with
                    | none => simp [hf] at hms
                    | some r =>
                      obtain ⟨r', h2, h3⟩ := findKey_ok (k := k'.ev t) hk w hE hf
                      cases r with
                      | none =>
                        simp [hf] at hms; subst hms
                        simp only [Found] at h3
                        subst h3
                        let ob : Obj := .map (es'.push { key := k'.ev t, val := a.eval u, born := c }) (c + 1)
                        refine ⟨.skip, undef, { w with heap := w.heap.setIfInBounds p.b ob }, β, ?_, .inr ⟨rfl, rfl⟩, .undef, Bl.le_refl _, .refl _ _, ?_⟩
                        · rcases ho with ho | ho <;> simp [execOp, ho, hmv, hik, Instr.mapUpdate, Sem.run_bind, run_under hu, hg, hck, h2, hset, ob]
                        · refine hw.setObj hA hobj rfl rfl rfl rfl rfl rfl ⟨es'.push { key := k'.ev t, val := a.eval u, born := c }, by simp [hplt, ob], ?_⟩
                          simpa using er_snoc (k := k'.ev t) (b := c) hE eu
                      | some q =>
                        obtain ⟨j, uu, b0⟩ := q
                        simp [hf] at hms; subst hms
                        obtain ⟨e, q1, q2, q3, q4, q5⟩ := h3
                        subst q1
                        have hst : (Instr.keyThatStays (k'.ev t) (k'.ev t)).run P w = .ok (k'.ev t) w := by simp [Instr.keyThatStays, sameBits_flat hfe]
                        have hkey : ((es'[j]?).map (·.key)).getD (k'.ev t) = k'.ev t := by
                          have : es'[j]? = some e := by simpa using q2
                          simp [this, q5]
                        let ob : Obj := .map (es'.modify j fun e => { e with key := k'.ev t, val := a.eval u }) c
                        refine ⟨.skip, undef, { w with heap := w.heap.setIfInBounds p.b ob }, β, ?_, .inr ⟨rfl, rfl⟩, .undef, Bl.le_refl _, .refl _ _, ?_⟩
                        · rcases ho with ho | ho <;> simp [execOp, ho, hmv, hik, Instr.mapUpdate, Sem.run_bind, run_under hu, hg, hck, h2, hkey, hst, hset, ob]
                        · refine hw.setObj hA hobj rfl rfl rfl rfl rfl rfl ⟨es'.modify j fun e => { e with key := k'.ev t, val := a.eval u }, by simp [hplt, ob], ?_⟩
                          have := er_set (j := j) (k := k'.ev t) hE eu
                          simpa using this

theorem eff_next {o : Oper} {x : Operand} {b : Bool} (ho : o.op = .next x b) (h : cOp P o = some cop) (hd : doOp t s cop = some (v, s')) (ht : TR β t a.tmps) (hw : WR base w0 β s w) : EffOk P base w0 β a o s s' v w := by
  simp only [cOp, ho] at h
  cases b with
  | false => simp at h
  | true =>
    cases hx : cOpd x with
    | none => simp [hx] at h
    | some x' =>
      simp [hx] at h; subst h
      have e := cOpd_eval hx ht
      simp only [doOp] at hd
      generalize x'.ev t = xv at hd e
      generalize hxv : a.eval x = xv' at e
      cases e <;> try (simp at hd; done)
      rename_i A p oo hA
      cases oo with
      | succ n => simp at hd
      | zero =>
        simp only at hd
        cases hio : s.iterOf A with
        | none => simp [hio] at hd
        | some lp =>
          obtain ⟨l, pos⟩ := lp
          have hobj : s.obj A = some (.siter l pos) := by
            cases s with | mk hp nx ep =>
            simp only [St.iterOf] at hio
            simp only [St.obj]
            cases hg : hp.get A with
            | none => simp [hg] at hio
            | some o => cases o <;> simp [hg] at hio; obtain ⟨rfl, rfl⟩ := hio; rfl
          obtain ⟨hsh, hheap⟩ := hw.rel A p _ hA hobj
          simp only [hio] at hd
          have hg : (getObj p.b).run P w = .ok (.stringIter ⟨⟨l⟩⟩ pos) w := by simp [getObj, Sem.run, hheap]
          have hset : ∀ ob, (setObj p.b ob).run P w = .ok () { w with heap := w.heap.setIfInBounds p.b ob } := fun ob => by simp [setObj, Sem.run, hheap]
          have hplt := (hw.dom A p hA).2.1
          have hsz : (⟨⟨l⟩⟩ : ByteArray).size = l.length := rfl
          cases hn : nth l pos with
          | none =>
            simp only [hn] at hd
            cases hb : Nat.ble (len l 0) pos with
            | false => simp [hb] at hd
            | true =>
              have := Nat.le_of_ble_eq_true hb
              rw [len_eq] at this
              simp [hb] at hd
              obtain ⟨rfl, rfl⟩ := hd
              have hnot : ¬ pos < (⟨⟨l⟩⟩ : ByteArray).size := by rw [hsz]; omega
              refine ⟨.value (.tuple #[.bool false]), _, w, β, ?_, .inl rfl, .tuple [.bool false] [.bool false] (.cons _ _ _ _ (.bool _) .nil), Bl.le_refl _, .refl _ _, hw⟩
              simp [execOp, ho, hxv, hsh, Instr.next, Sem.run_bind, hg, hnot]
          | some c =>
            simp only [hn] at hd
            cases hb : Nat.ble c.toNat 127 with
            | false => simp [hb] at hd
            | true =>
              have hc := Nat.le_of_ble_eq_true hb
              simp [hb] at hd
              obtain ⟨rfl, rfl⟩ := hd
              rw [nth_eq] at hn
              have hpl : pos < l.length := (List.getElem?_eq_some_iff.1 hn).1
              have hlt : pos < (⟨⟨l⟩⟩ : ByteArray).size := by rw [hsz]; exact hpl
              have hdec : Utf8.decode ⟨⟨l⟩⟩ pos = (c.toNat, 1) := by
                have hget : (ByteArray.get! (⟨⟨l⟩⟩ : ByteArray) (pos + 0)) = c := by
                  have : l[pos] = c := (List.getElem?_eq_some_iff.1 hn).2
                  show (⟨l⟩ : Array UInt8)[pos + 0]! = c
                  simp [getElem!_def, hn]
                have h128 : c.toNat < 128 := by omega
                simp only [Utf8.decode, hget]
                rw [if_pos h128]
              let ob : Obj := .stringIter ⟨⟨l⟩⟩ (pos + 1)
              refine ⟨.value (.tuple #[.bool true, .int .i64 pos, .int .i32 c.toNat]), _, { w with heap := w.heap.setIfInBounds p.b ob }, β, ?_, .inl rfl,
                .tuple [.bool true, .int .i64 pos, .int .i32 c.toNat] _ (.cons _ _ _ _ (.bool _) (.cons _ _ _ _ (.int _ _) (.cons _ _ _ _ (.int _ _) .nil))), Bl.le_refl _, .refl _ _, ?_⟩
              · simp [execOp, ho, hxv, hsh, Instr.next, Sem.run_bind, hg, hlt, hdec, hset, ob, goInt]
              · exact hw.setObj hA hobj rfl rfl rfl rfl rfl rfl ⟨hsh, by simp [hplt, ob]⟩

end
end Go.Ev
end

section
set_option linter.unusedSimpArgs false
set_option linter.unusedVariables false
namespace Go.Ev
open Go _root_.Ev Go.RowKit

section
variable {P : Program} {β : Bl} {t : T Value} {s s' : St} {a : Act} {v : Value} {cop : COp} {base : Nat} {w0 w : World}

theorem growBy_le (m : Nat) (h : 256 ≤ m) : ∀ (r c : Nat), c ≤ 2 * m → Builtin.growBy m r c ≤ 2 * m
  | 0, c, hc => by simpa [Builtin.growBy] using hc
  | r + 1, c, hc => by
    simp only [Builtin.growBy]
    split
    · exact hc
    · exact growBy_le m h r _ (by omega)

theorem nextcap_le {need old : Nat} (h : old < need) : Builtin.nextslicecap need old ≤ 2 * need := by
  unfold Builtin.nextslicecap
  split
  · omega
  · split
    · omega
    · exact growBy_le need (by omega) 4 old (by omega)

theorem bytesV_len (l : List UInt8) : (bytesV l).length = l.length := by rw [bytesV_eq]; simp

/-- The items that are appended or copied. -/
theorem src_ok {z k m : Nat} {y y' : Value} {new : List Value} (hl : srcLen y = some k) (hm : m ≤ k) (hc : srcCells s z m y = some new) (hy : VR β y y') (hw : WR base w0 β s w) :
    (Builtin.lenOf y').run P w = .ok k w ∧ ∃ new', (Builtin.firstCells z m y').run P w = .ok ⟨new'⟩ w ∧ VRs β new new' ∧ new.length = m * z := by
  cases hy <;> try (simp [srcLen] at hl; done)
  · -- a string
    rename_i b
    simp only [srcLen, Option.some.injEq] at hl
    have hsz : len b.data.toList 0 = b.size := by rw [len_eq]; simp
    rw [hsz] at hl
    subst hl
    refine ⟨rfl, ?_⟩
    simp only [srcCells] at hc
    split at hc <;> try (simp at hc; done)
    obtain ⟨c1, rfl⟩ := cut_some _ _ _ _ hc
    rw [bytesV_len] at c1
    refine ⟨(bytesV b.data.toList).take m, ?_, by simpa using (bytesV_vrs b.data.toList).take m, by simp [bytesV_len]; have := c1; simp at this; omega⟩
    show Result.ok _ w = _
    congr 1
    apply Array.ext'
    have he : (b.extract 0 m).data.toList = b.data.toList.take m := by rw [Lib.extract_data]; simp
    simp only [Array.toList_map, he, bytesV_eq, List.map_take]
  · simp only [srcLen, Option.some.injEq] at hl
    subst hl
    have : m = 0 := by omega
    subst this
    simp [srcCells] at hc
    subst hc
    exact ⟨rfl, [], rfl, .nil, by simp⟩
  · rename_i A p o n c c' hA h1 h2 h3
    simp only [srcLen, Option.some.injEq] at hl
    subst hl
    refine ⟨rfl, ?_⟩
    simp only [srcCells, Nat.ble_eq_true_of_le hm] at hc
    cases m with
    | zero =>
      simp at hc; subst hc
      exact ⟨[], by simp [Builtin.firstCells, loadCells, loadCellsFrom], .nil, by simp⟩
    | succ m =>
      simp only at hc
      cases hcs : s.cellsOf A with
      | none => simp [hcs] at hc
      | some cs =>
        simp only [hcs] at hc
        obtain ⟨r', k1, k2, k3⟩ := hw.run hA hcs hc
        refine ⟨r', ?_, k2, by rw [k2.length, k1]⟩
        simp only [Builtin.firstCells]
        rw [← k1]
        refine run_loadCells_list w _ r' fun j u hj => ?_
        have hjn : j < (m + 1) * z := by rw [← k1]; exact (List.getElem?_eq_some_iff.1 hj).1
        have := k3 j hjn
        rw [hj] at this
        rw [← this]
        unfold Addr.add
        by_cases h0 : j = 0 <;> simp [h0]
  · simp only [srcLen, Option.some.injEq] at hl
    subst hl
    have : m = 0 := by omega
    subst this
    simp [srcCells, Nat.ble] at hc
    subst hc
    exact ⟨rfl, [], by simp [Builtin.firstCells, loadCells, loadCellsFrom], .nil, by simp⟩

/-- The machine's append, where there is room. -/
theorem run_append_room' {ts us : TypeId} {e : TypeId} {ud : TypeDesc} {z n k c : Nat} {b0 : Option Addr} {y' : Value} {new' : List Value} {ty : TypeId} (hu : P.underlying ts = some (.slice e)) (hus : P.underlying us = some ud) (hud : (∃ e', ud = .slice e') ∨ ud = .string) (hz : sizeT P e = some z)
    (hl : (Builtin.lenOf y').run P w = .ok k w) (hf : (Builtin.firstCells z k y').run P w = .ok ⟨new'⟩ w) (hroom : n + k ≤ c) {w' : World} (hst : ∀ ad, b0 = some ad → (storeCells (ad.add (n * z)) new').run P w = .ok () w') (hst0 : b0 = none → w' = w) :
    (Builtin.append_ #[ts, us] ty #[.slice b0 n c, y']).run P w = .ok (.slice b0 (n + k) c) w' := by
  cases b0 with
  | none =>
    rw [hst0 rfl]
    rcases hud with ⟨e', rfl⟩ | rfl <;>
      simp [Builtin.append_, Sem.run_bind, run_under hu, run_size hz, run_under hus, hl, hf, hroom]
  | some ad =>
    have := hst ad rfl
    rcases hud with ⟨e', rfl⟩ | rfl <;>
      simp [Builtin.append_, Sem.run_bind, run_under hu, run_size hz, run_under hus, hl, hf, hroom, this]

/-- The machine's append, where there is none. -/
theorem run_append_grows {ts us : TypeId} {e : TypeId} {ud : TypeDesc} {z by_ n k c : Nat} {b0 : Option Addr} {y' zv : Value} {new' old' : List Value} {ty : TypeId} (hu : P.underlying ts = some (.slice e)) (hus : P.underlying us = some ud) (hud : (∃ e', ud = .slice e') ∨ ud = .string) (hz : sizeT P e = some z) (hbt : bytesT P e = some by_) (hzv : zeroT P e = some zv)
    (hl : (Builtin.lenOf y').run P w = .ok k w) (hf : (Builtin.firstCells z k y').run P w.drew = .ok ⟨new'⟩ w.drew) (hfo : (Builtin.firstCells z n (.slice b0 n c)).run P w.drew = .ok ⟨old'⟩ w.drew) (hroom : ¬ n + k ≤ c) (h48 : 2 * (n + k) * by_ ≤ 281474976710656) (hk : n + k ≤ 281474976710656) :
    (Builtin.append_ #[ts, us] ty #[.slice b0 n c, y']).run P w =
      .ok (.slice (some ⟨w.heap.size, 0, none⟩) (n + k) (grownCap w (n + k) c e)) (w.drew.alloc (.cells ((⟨old' ++ new'⟩ : Array Value) ++ Builtin.zeroCells zv.cells (grownCap w (n + k) c e - (n + k))) e)) := by
  obtain ⟨bi, hbi, rfl⟩ : ∃ i, P.info? e = some i ∧ i.bytes = by_ := by
    cases hbi : P.info? e with
    | none => simp [bytesT, hbi] at hbt
    | some i => exact ⟨i, rfl, by simpa [bytesT, hbi] using hbt⟩
  have hti : ∀ w, (typeInfo e).run P w = .ok bi w := fun w => run_typeInfo w hbi
  have h63 : ¬ (9223372036854775807 < ((n : Int) + (k : Int))) := by omega
  have h48' : ¬ (281474976710656 < Builtin.nextslicecap (n + k) c * bi.bytes) := by
    have h1 := nextcap_le (need := n + k) (old := c) (by omega)
    have h2 : Builtin.nextslicecap (n + k) c * bi.bytes ≤ 2 * (n + k) * bi.bytes := Nat.mul_le_mul_right _ h1
    omega
  have hroom' : ∀ m w, (askRoom m).run P w = .ok () w := fun m w => by unfold askRoom; split <;> rfl
  rcases hud with ⟨e', rfl⟩ | rfl <;>
    simp [Builtin.append_, Sem.run_bind, run_under hu, run_size hz, run_under hus, hl, hroom, h63, h48', hti, Question.forced, hf, hfo, run_zero hzv, newRow, grownCap, hroom']
  all_goals
    congr 2
    apply Array.ext'
    simp

theorem eff_append {o : Oper} {c : Call} {x y : Operand} {ts us e : TypeId} {ud : TypeDesc} {x' y' : Opd} (ho : o.op = .call c) (hcal : c.callee = .builtin .append) (hargs : c.args = ⟨[x, y]⟩) (htys : c.argTypes = ⟨[ts, us]⟩)
    (hu : P.underlying ts = some (.slice e)) (hus : P.underlying us = some ud) (hud : (∃ e', ud = .slice e') ∨ ud = .string) (hx : cOpd x = some x') (hy : cOpd y = some y') (h : cAppend P e x' y' = some cop)
    (hd : doOp t s cop = some (v, s')) (ht : TR β t a.tmps) (hw : WR base w0 β s w) : EffOk P base w0 β a o s s' v w := by
  unfold cAppend at h
  simp only [bind, Option.bind_eq_some_iff] at h
  obtain ⟨z, hz, by_, hbt, zv, hzv, h⟩ := h
  split at h <;> simp at h
  rename_i hzl
  subst h
  have hexec : execOp a.eval o = (do let r ← Builtin.append_ #[ts, us] o.type #[a.eval x, a.eval y]; pure (.value r)) := by
    obtain ⟨cal, args, types⟩ := c
    simp at hcal hargs htys
    subst hcal; subst hargs; subst htys
    simp [execOp, ho, resolve, invoke, builtin]
  have ex := cOpd_eval hx ht
  have ey := cOpd_eval hy ht
  simp only [doOp] at hd
  generalize x'.ev t = xv at hd ex
  generalize hxv : a.eval x = xv' at ex
  generalize y'.ev t = yv at hd ey
  generalize hyv : a.eval y = yv' at ey
  rw [hxv, hyv] at hexec
  -- what is appended
  obtain ⟨base0, n, cap, rfl⟩ : ∃ b n c, xv = .slice b n c := by
    cases ex <;> try (simp [appendF] at hd; done)
    all_goals exact ⟨_, _, _, rfl⟩
  cases hk : srcLen yv with
  | none => simp [appendF, hk] at hd
  | some k =>
    cases hn : srcCells s z k yv with
    | none => simp [appendF, hk, hn] at hd
    | some new =>
      obtain ⟨l1, new', l2, l3, l4⟩ := src_ok (P := P) hk (Nat.le_refl _) hn ey hw
      have hwd : WR base w0 β s w.drew := hw.of_heap rfl rfl rfl rfl
      obtain ⟨m1, new2, m2, m3, m4⟩ := src_ok (P := P) hk (Nat.le_refl _) hn ey hwd
      simp only [appendF, hk, hn] at hd
      cases hroom : Nat.ble (n + k) cap with
      | true =>
        have hr := Nat.le_of_ble_eq_true hroom
        simp only [hroom] at hd
        cases ex with
        | sliceNil =>
          simp only at hd
          cases hk0 : Nat.beq k 0 with
          | false => simp [hk0] at hd
          | true =>
            obtain rfl := Nat.eq_of_beq_eq_true hk0
            simp [hk0] at hd
            obtain ⟨rfl, rfl⟩ := hd
            refine ⟨.value (.slice none 0 0), _, w, β, ?_, .inl rfl, .sliceNil, Bl.le_refl _, .refl _ _, hw⟩
            rw [hexec, Sem.run_bind, run_append_room' hu hus hud hz l1 l2 (by omega) (fun ad hh => by cases hh) (fun _ => rfl)]
            rfl
        | sliceE A oo ad =>
          obtain rfl : k = 0 := by omega
          have hnew : new = [] := List.length_eq_zero_iff.1 (by rw [l4]; simp)
          subst hnew
          simp at hd
          obtain ⟨rfl, rfl⟩ := hd
          cases l3
          refine ⟨.value (.slice (some ad) 0 0), _, w, β, ?_, .inl rfl, .sliceE _ _ _, Bl.le_refl _, .refl _ _, hw⟩
          rw [hexec, Sem.run_bind, run_append_room' hu hus hud hz l1 l2 (by omega) (fun ad hh => rfl) (fun hh => by cases hh)]
          rfl
        | slice A p oo _ _ c' hA h1 h2 h3 =>
          simp only at hd
          cases new with
          | nil =>
            simp at hd
            obtain ⟨rfl, rfl⟩ := hd
            cases l3
            refine ⟨.value (.slice (some ⟨p.b, p.sh + oo, none⟩) (n + k) c'), _, w, β, ?_, .inl rfl, .slice A p _ _ _ _ hA (by omega) h2 h3, Bl.le_refl _, .refl _ _, hw⟩
            rw [hexec, Sem.run_bind, run_append_room' hu hus hud hz l1 l2 (by omega) (fun ad hh => rfl) (fun hh => by cases hh)]
            rfl
          | cons q qs =>
            simp only at hd
            cases ho1 : ones (q :: qs) with
            | false => simp [ho1] at hd
            | true =>
              simp only [ho1] at hd
              cases hwr : s.write A (oo + n * z) (q :: qs) with
              | none => simp [hwr] at hd
              | some s1 =>
                simp [hwr] at hd
                obtain ⟨rfl, rfl⟩ := hd
                obtain ⟨w', r1, r2⟩ := write_run (P := P) hw hA hwr l3 ho1
                have hadd : (⟨p.b, p.sh + oo, none⟩ : Addr).add (n * z) = ⟨p.b, p.sh + (oo + n * z), none⟩ := by
                  unfold Addr.add; split <;> simp_all [Nat.add_assoc]
                refine ⟨.value (.slice (some ⟨p.b, p.sh + oo, none⟩) (n + k) c'), _, w', β, ?_, .inl rfl, .slice A p _ _ _ _ hA (by omega) h2 h3, Bl.le_refl _, .refl _ _, r2⟩
                rw [hexec, Sem.run_bind, run_append_room' hu hus hud hz l1 l2 (by omega) (fun ad hh => by cases hh; rw [hadd]; exact r1) (fun hh => by cases hh)]
                rfl
      | false =>
        have hr : ¬ n + k ≤ cap := fun e => by rw [Nat.ble_eq_true_of_le e] at hroom; cases hroom
        simp only [hroom] at hd
        cases hb1 : Nat.ble (2 * (n + k) * by_) 281474976710656 with
        | false => simp [hb1] at hd
        | true =>
          cases hb2 : Nat.ble (n + k) 281474976710656 with
          | false => simp [hb1, hb2] at hd
          | true =>
            have h48 := Nat.le_of_ble_eq_true hb1
            have hkk := Nat.le_of_ble_eq_true hb2
            simp only [hb1, hb2] at hd
            obtain ⟨_, _, _, hpl⟩ := zeroT_some hzv
            obtain ⟨hc1, hc2⟩ := cells_plain (β := β) hpl
            have hzs : zv.cells.size = z := by rw [← Array.length_toList, hc1]; exact hzl
            -- the machine makes a new row
            have grows : ∀ {b0 : Option Addr} {c' : Nat} {old old' : List Value}, (Builtin.firstCells z n (.slice b0 n c')).run P w.drew = .ok ⟨old'⟩ w.drew → VRs β old old' → old.length = n * z → ¬ n + k ≤ c' →
                ∃ w' gc row, (Builtin.append_ #[ts, us] o.type #[.slice b0 n c', yv']).run P w = .ok (.slice (some ⟨w.heap.size, 0, none⟩) (n + k) gc) w' ∧ w'.heap = w.heap.push (.cells row e) ∧ w'.os = w.os ∧ w'.tape = w.tape ∧ w'.output = w.output ∧ n + k ≤ gc ∧ row.size = gc * z ∧
                  ∀ (i : Nat) (u : Value), (old ++ new)[i]? = some u → ∃ u', row[i]? = some u' ∧ VR β u u' := by
              intro b0 c' old old' ho1 ho2 ho3 ho4
              have hrun := run_append_grows (ty := o.type) hu hus hud hz hbt hzv l1 m2 ho1 ho4 h48 hkk
              have hge := grownCap_ge w (n + k) c' e
              have hl' : (old' ++ new2).length = (n + k) * z := by rw [List.length_append, ← ho2.length, ← m3.length, ho3, l4, Nat.add_mul]
              refine ⟨_, _, _, hrun, rfl, rfl, rfl, rfl, hge, ?_, fun i u hi => ?_⟩
              · simp only [Array.size_append, Builtin.zeroCells, Array.size_map, Array.size_range, hzs]
                show (old' ++ new2).length + _ = _
                rw [hl', ← Nat.add_mul]; congr 1; omega
              · have hi' : i < (old ++ new).length := (List.getElem?_eq_some_iff.1 hi).1
                obtain ⟨u', g1, g2⟩ := (ho2.append m3).get hi
                refine ⟨u', ?_, g2⟩
                have : i < (⟨old' ++ new2⟩ : Array Value).size := by
                  show i < (old' ++ new2).length
                  rw [← (ho2.append m3).length]; exact hi'
                rw [Array.getElem?_append_left this]
                simpa using g1
            cases ex with
            | sliceNil =>
              simp only at hd
              cases hnew : s.new (.row e z new none none) with
              | mk A' s1 =>
                simp [hnew] at hd
                obtain ⟨rfl, rfl⟩ := hd
                obtain ⟨rfl, rfl⟩ := new_pair hnew
                obtain ⟨w', gc, row, r1, r2, r3, r4, r5, r6, r7, r8⟩ := grows (b0 := none) (c' := 0) (old := []) (old' := []) rfl .nil (by simp) hr
                let p : Pl := ⟨w.heap.size, 0, row.size, z⟩
                refine ⟨.value (.slice (some ⟨w.heap.size, 0, none⟩) (0 + k) gc), _, w', β.add s.nextId p, ?_, .inl rfl, ?_, hw.le_add p, ?_, hw.alloc (p := p) rfl r2 r3 r4 r5 ?_ rfl⟩
                · rw [hexec, Sem.run_bind, r1]; rfl
                · have := VR.slice (β := β.add s.nextId p) s.nextId p 0 (0 + k) (0 + k) gc (by simp [Bl.add]) (Nat.le_refl _) (by omega) (by simp [p]; omega)
                  simpa using this
                · intro B q hB
                  unfold Bl.add at hB
                  by_cases eB : B = s.nextId
                  · right; omega
                  · left; simpa [eB] using hB
                · have hlen8 : new.length ≤ row.size := by
                    rw [r7, l4]; exact Nat.mul_le_mul_right _ (by omega)
                  refine ⟨rfl, fun _ => ⟨row, e, (0, 0), by rw [r2]; simp [p], rfl, by simp [p]; exact hlen8, fun i u hi => ?_, fun _ j _ _ => by omega⟩⟩
                  obtain ⟨u', g1, g2⟩ := r8 i u (by simpa using hi)
                  exact ⟨u', by simpa [p] using g1, g2.mono (hw.le_add p)⟩
            | sliceE A oo ad =>
              simp only at hd
              have hsc : sliceCells s z (.slice (some ⟨A, oo, none⟩) 0 0) = some [] := by simp [sliceCells]
              simp only [hsc] at hd
              cases ho1 : ones new with
              | false => simp [ho1] at hd
              | true =>
                simp only [ho1] at hd
                cases hh : s.heir A oo (0 * z) e z (app [] new) with
                | none => simp only [hh] at hd; cases hd
                | some r =>
                  obtain ⟨A', s1⟩ := r
                  simp only [hh, Option.some.injEq, Prod.mk.injEq] at hd
                  obtain ⟨rfl, rfl⟩ := hd
                  obtain ⟨w', gc, row, r1, r2, r3, r4, r5, r6, r7, r8⟩ := grows (b0 := some ad) (c' := 0) (old := []) (old' := []) (by simp [Builtin.firstCells, loadCells, loadCellsFrom]) .nil (by simp) hr
                  let q : Pl := ⟨w.heap.size, 0, row.size, z⟩
                  obtain ⟨hA', hn', _⟩ := heir_some hh
                  subst hA'
                  have hlen8 : new.length ≤ row.size := by
                    rw [r7, l4]; exact Nat.mul_le_mul_right _ (by omega)
                  refine ⟨.value (.slice (some ⟨w.heap.size, 0, none⟩) (0 + k) gc), _, w', β.add s.nextId q, ?_, .inl rfl, ?_, hw.le_add q, ?_,
                    hw.heir (q := q) hh (Below.push hw.below hw.hb r2 r3 r4 r5) (by rw [r2]; simp) (by rw [r2]; simp [q]) hw.hb ?_ (.inl ⟨Nat.le_refl _, fun k hk => by rw [r2, Array.getElem?_push, if_neg (by omega)]⟩)⟩
                  · rw [hexec, Sem.run_bind, r1]; rfl
                  · have := VR.slice (β := β.add s.nextId q) s.nextId q 0 (0 + k) (0 + k) gc (by simp [Bl.add]) (Nat.le_refl _) (by omega) (by simp [q]; omega)
                    simpa using this
                  · intro B x hB
                    unfold Bl.add at hB
                    by_cases eB : B = s.nextId
                    · right; omega
                    · left; simpa [eB] using hB
                  · refine ⟨rfl, fun _ => ⟨row, e, (0, 0), by rw [r2]; simp [q], rfl, by simp [q, app]; exact hlen8, fun i u hi => ?_, fun _ j _ _ => by omega⟩⟩
                    obtain ⟨u', g1, g2⟩ := r8 i u (by simpa [app] using hi)
                    exact ⟨u', by simpa [q] using g1, g2.mono (hw.le_add q)⟩
            | slice A p oo _ _ c' hA h1 h2 h3 =>
              simp only at hd
              cases hsc : sliceCells s z (.slice (some ⟨A, oo, none⟩) n cap) with
              | none => simp [hsc] at hd
              | some old =>
                simp only [hsc] at hd
                cases ho1 : ones new with
                | false => simp [ho1] at hd
                | true =>
                  simp only [ho1] at hd
                  cases hh : s.heir A oo (n * z) e z (app old new) with
                  | none => simp [hh] at hd
                  | some r =>
                    obtain ⟨A', s1⟩ := r
                    simp [hh] at hd
                    obtain ⟨rfl, rfl⟩ := hd
                    obtain ⟨hA', hn', er, cs, g, g', hobj, _, hle, _⟩ := heir_some hh
                    subst hA'
                    have hpz : p.z = z := (hw.rel A p _ hA hobj).1
                    have hx' : VR β (.slice (some ⟨A, oo, none⟩) n cap) (.slice (some ⟨p.b, p.sh + oo, none⟩) n c') := .slice A p _ _ _ _ hA h1 h2 h3
                    rcases slice_cells (P := P) hsc hx' hwd with ⟨hbad, _⟩ | ⟨ad, n2, c2, old', heq, k1, k2, k3, k4⟩
                    · cases hbad
                    · cases heq
                      have hol : old.length = n * z := by rw [k1.length, k2]
                      by_cases hroom2 : n + k ≤ c'
                      · -- the machine writes behind the elder row
                        obtain ⟨hz0, hrow⟩ := hw.rel A p _ hA hobj
                        obtain ⟨c, el, fz, j1, j2, j3, j4, j5⟩ := hrow rfl
                        have hadd : (⟨p.b, p.sh + oo, none⟩ : Addr).add (n * z) = ⟨p.b, p.sh + oo + n * z, none⟩ := by
                          unfold Addr.add; split <;> simp_all
                        have hnl : new'.length = k * z := by rw [← l3.length]; exact l4
                        have hfit : p.sh + oo + n * z + new'.length ≤ p.tot := by
                          have : (n + k) * z ≤ c' * z := Nat.mul_le_mul_right _ hroom2
                          rw [Nat.add_mul] at this
                          rw [hpz] at h3
                          omega
                        obtain ⟨c2', w', r1, r2, r3, r4, r5, r6, r7⟩ := run_stores (P := P) (b := p.b) (o := p.sh + oo + n * z) new' 0 c w j1 (by omega) (fun j h2 h3 => j5 rfl j (by omega) (by omega)) (ones_vrs ho1 l3)
                        let q : Pl := ⟨p.b, p.sh + oo, p.tot, z⟩
                        have hplt := (hw.dom A p hA).2.1
                        have hw'b : w'.heap[p.b]? = some (.cells c2' el fz) := by rw [r2]; simp [hplt]
                        have hw'o : ∀ k, k ≠ p.b → w'.heap[k]? = w.heap[k]? := fun k hk => by rw [r2, Array.getElem?_setIfInBounds_ne (Ne.symm hk)]
                        have hsz : w'.heap.size = w.heap.size := by rw [r2]; simp
                        obtain ⟨hown1, _⟩ := hw.own A p _ hA hobj rfl
                        have hbel : Below base w0 w' := ⟨r3.trans hw.below.os, r4.trans hw.below.tape, r5.trans hw.below.output, by rw [hsz]; exact hw.below.size, fun k hk => by rw [hw'o k (by omega)]; exact hw.below.block k hk⟩
                        refine ⟨.value (.slice (some ⟨p.b, p.sh + oo, none⟩) (n + k) c'), _, w', β.add s.nextId q, ?_, .inl rfl, ?_, hw.le_add q, ?_,
                          hw.heir (q := q) hh hbel (by omega) (by rw [hsz]; exact hplt) hown1 ?_ (.inr ⟨p, c, c2', el, fz, hA, rfl, rfl, by rw [app_eq]; simp; omega, j1, hw'b, r6, fun i hi => ?_, hw'o⟩)⟩
                        · rw [hexec, Sem.run_bind, run_append_room' hu hus hud hz l1 l2 hroom2 (fun ad hh => by cases hh; rw [hadd]; exact r1) (fun hh => by cases hh)]
                          rfl
                        · have := VR.slice (β := β.add s.nextId q) s.nextId q 0 (n + k) (n + k) c' (by simp [Bl.add]) (Nat.le_refl _) hroom2 (by simp only [q]; rw [hpz] at h3; omega)
                          simpa [q] using this
                        · intro B x hB
                          unfold Bl.add at hB
                          by_cases eB : B = s.nextId
                          · right; omega
                          · left; simpa [eB] using hB
                        · refine ⟨rfl, fun _ => ⟨c2', el, fz, hw'b, by rw [r6]; exact j2, ?_, fun i u hi => ?_, fun _ j h4 h5 => j5 rfl j (by simp only [q] at h4; omega) h5⟩⟩
                          · rw [app_eq, List.length_append, hol, l4]
                            simp only [q]; omega
                          · rw [app_eq] at hi
                            simp only [q]
                            rw [r7]
                            simp only [Nat.add_zero]
                            by_cases hin : i < n * z
                            · rw [if_neg (by omega)]
                              rw [List.getElem?_append_left (by omega)] at hi
                              obtain ⟨u', g1, g2⟩ := k1.get hi
                              refine ⟨u', ?_, g2.mono (hw.le_add q)⟩
                              have hk4 := k4 i hin
                              rw [g1] at hk4
                              have hadd2 : (⟨p.b, p.sh + oo, none⟩ : Addr).add i = ⟨p.b, p.sh + oo + i, none⟩ := by
                                unfold Addr.add; split <;> simp_all
                              rw [hadd2] at hk4
                              have hj1 : w.drew.heap[p.b]? = some (.cells c el fz) := j1
                              simp only [World.cell?, hj1] at hk4
                              simpa using hk4
                            · rw [List.getElem?_append_right (by omega)] at hi
                              have hil : i - old.length < new.length := (List.getElem?_eq_some_iff.1 hi).1
                              rw [if_pos (by omega)]
                              obtain ⟨u', g1, g2⟩ := l3.get hi
                              refine ⟨u', ?_, g2.mono (hw.le_add q)⟩
                              rw [← g1]; congr 1; omega
                        · rw [r7, if_neg (by omega)]
                      · obtain ⟨w', gc, row, r1, r2, r3, r4, r5, r6, r7, r8⟩ := grows (b0 := some ⟨p.b, p.sh + oo, none⟩) (c' := c') (old := old) (old' := old') (by simpa [Builtin.firstCells] using k3) k1 hol hroom2
                        let q : Pl := ⟨w.heap.size, 0, row.size, z⟩
                        have hlen8 : (old ++ new).length ≤ row.size := by
                          rw [r7, List.length_append, hol, l4, ← Nat.add_mul]; exact Nat.mul_le_mul_right _ (by omega)
                        refine ⟨.value (.slice (some ⟨w.heap.size, 0, none⟩) (n + k) gc), _, w', β.add s.nextId q, ?_, .inl rfl, ?_, hw.le_add q, ?_,
                          hw.heir (q := q) hh (Below.push hw.below hw.hb r2 r3 r4 r5) (by rw [r2]; simp) (by rw [r2]; simp [q]) hw.hb ?_ (.inl ⟨Nat.le_refl _, fun k hk => by rw [r2, Array.getElem?_push, if_neg (by omega)]⟩)⟩
                        · rw [hexec, Sem.run_bind, r1]; rfl
                        · have := VR.slice (β := β.add s.nextId q) s.nextId q 0 (n + k) (n + k) gc (by simp [Bl.add]) (Nat.le_refl _) (by omega) (by simp [q]; omega)
                          simpa using this
                        · intro B x hB
                          unfold Bl.add at hB
                          by_cases eB : B = s.nextId
                          · right; omega
                          · left; simpa [eB] using hB
                        · refine ⟨rfl, fun _ => ⟨row, e, (0, 0), by rw [r2]; simp [q], rfl, by rw [app_eq]; simpa [q] using hlen8, fun i u hi => ?_, fun _ j _ _ => by omega⟩⟩
                          obtain ⟨u', g1, g2⟩ := r8 i u (by simpa [app_eq] using hi)
                          exact ⟨u', by simpa [q] using g1, g2.mono (hw.le_add q)⟩

end
end Go.Ev
end

section
set_option linter.unusedSimpArgs false
set_option linter.unusedVariables false
namespace Go.Ev
open Go _root_.Ev Go.RowKit

section
variable {P : Program} {β : Bl} {t : T Value} {s s' : St} {a : Act} {v : Value} {cop : COp} {base : Nat} {w0 w : World}

theorem eff_copy {o : Oper} {c : Call} {x y : Operand} {ts us e : TypeId} {x' y' : Opd} {z : Nat} (ho : o.op = .call c) (hcal : c.callee = .builtin .copy) (hargs : c.args = ⟨[x, y]⟩) (htys : c.argTypes = ⟨[ts, us]⟩)
    (hu : P.underlying ts = some (.slice e)) (hx : cOpd x = some x') (hy : cOpd y = some y') (hz : sizeT P e = some z)
    (hd : doOp t s (.copy z x' y') = some (v, s')) (ht : TR β t a.tmps) (hw : WR base w0 β s w) : EffOk P base w0 β a o s s' v w := by
  have hexec : execOp a.eval o = (do let r ← Builtin.copy_ #[ts, us] o.type #[a.eval x, a.eval y]; pure (.value r)) := by
    obtain ⟨cal, args, types⟩ := c
    simp at hcal hargs htys
    subst hcal; subst hargs; subst htys
    simp [execOp, ho, resolve, invoke, builtin]
  have ex := cOpd_eval hx ht
  have ey := cOpd_eval hy ht
  simp only [doOp] at hd
  generalize x'.ev t = xv at hd ex
  generalize hxv : a.eval x = xv' at ex
  generalize y'.ev t = yv at hd ey
  generalize hyv : a.eval y = yv' at ey
  rw [hxv, hyv] at hexec
  obtain ⟨base0, n, cap, rfl⟩ : ∃ b n c, xv = .slice b n c := by
    cases ex <;> try (simp at hd; done)
    all_goals exact ⟨_, _, _, rfl⟩
  cases hk : srcLen yv with
  | none => simp [hk] at hd
  | some k =>
    simp only [hk, minF_eq] at hd
    cases hn : srcCells s z (min k n) yv with
    | none => simp [hn] at hd
    | some new =>
      simp only [hn] at hd
      obtain ⟨l1, new', l2, l3, l4⟩ := src_ok (P := P) hk (Nat.min_le_left _ _) hn ey hw
      have run : ∀ {b0 : Option Addr} {c' : Nat} {w' : World}, (∀ ad, b0 = some ad → (storeCells ad new').run P w = .ok () w') → (b0 = none → w' = w) → (Builtin.copy_ #[ts, us] o.type #[.slice b0 n c', yv']).run P w = .ok (goInt (min k n : Nat)) w' := by
        intro b0 c' w' h1 h2
        cases b0 with
        | none =>
          rw [h2 rfl]
          simp [Builtin.copy_, Sem.run_bind, run_under hu, run_size hz, l1, Nat.min_def] at l2 ⊢
          rw [l2]
          rfl
        | some ad =>
          have := h1 ad rfl
          simp [Builtin.copy_, Sem.run_bind, run_under hu, run_size hz, l1, Nat.min_def] at l2 ⊢
          rw [l2]
          simp [this]
      cases new with
      | nil =>
        simp at hd
        obtain ⟨rfl, rfl⟩ := hd
        cases l3
        refine ⟨.value (goInt (min k n : Nat)), _, w, β, ?_, .inl rfl, .int _ _, Bl.le_refl _, .refl _ _, hw⟩
        cases ex <;> rw [hexec, Sem.run_bind, run (fun ad _ => rfl) (fun _ => rfl)] <;> rfl
      | cons q qs =>
        simp only at hd
        cases ex with
        | sliceNil => simp at hd
        | sliceE A oo ad =>
          have : (q :: qs).length = min k 0 * z := l4
          simp at this
        | slice A p oo _ _ c' hA h1 h2 h3 =>
          simp only at hd
          cases ho1 : ones (q :: qs) with
          | false => simp [ho1] at hd
          | true =>
            simp only [ho1] at hd
            cases hwr : s.write A oo (q :: qs) with
            | none => simp [hwr] at hd
            | some s1 =>
              simp [hwr] at hd
              obtain ⟨rfl, rfl⟩ := hd
              obtain ⟨w', r1, r2⟩ := write_run (P := P) hw hA hwr l3 ho1
              refine ⟨.value (goInt (min k n : Nat)), _, w', β, ?_, .inl rfl, .int _ _, Bl.le_refl _, .refl _ _, r2⟩
              rw [hexec, Sem.run_bind, run (fun ad hh => by cases hh; exact r1) (fun hh => by cases hh)]
              rfl

/-! ### by what they are -/

/-- Is it a call of a function? -/
def COp.isCall : COp → Bool
  | .call .. | .callv .. => true
  | _ => false

theorem call_args {c : Call} {b : Builtin} (hb : c.callee = .builtin b) {o : Oper} (ho : o.op = .call c) (h : cOp P o = some cop) : cBuiltin P b c.args.toList c.argTypes.toList = some cop := by
  obtain ⟨cal, args, types⟩ := c
  simp at hb; subst hb
  simpa [cOp, ho] using h

theorem pure_ok {o : Oper} (h : cOp P o = some cop) (hc : cop.cls = .pure) (hd : doOp t s cop = some (v, s')) (ht : TR β t a.tmps) : s' = s ∧ PureOk P β a o v := by
  cases hop : o.op with
  | move x => exact pure_move (.inl hop) h hd ht
  | assign x => exact pure_move (.inr hop) h hd ht
  | pick c x y => exact pure_pick hop h hd ht
  | alloc e =>
    exfalso
    simp only [cOp, hop] at h
    cases hz : zeroT P e <;> simp [hz] at h
    subst h; simp [COp.cls] at hc
  | box e x =>
    exfalso
    simp only [cOp, hop] at h
    cases hx : cOpd x <;> simp [hx] at h
    subst h; simp [COp.cls] at hc
  | build ty ps => exact pure_build hop h hd ht
  | buildSlice ty n ps =>
    exfalso
    have := h
    simp only [cOp, hop] at this
    cases hu : P.underlying ty with
    | none => simp [hu] at this
    | some d =>
      cases d <;> simp [hu] at this
      rename_i e
      cases h1 : sizeT P e <;> simp [h1] at this
      cases h2 : zeroT P e <;> simp [h2] at this
      obtain ⟨_, this⟩ := this
      cases h3 : partsOfS ps.toList <;> simp [h3] at this
      subst this; simp [COp.cls] at hc
  | load ty x =>
    exfalso
    simp only [cOp, hop] at h
    cases h1 : aggT P ty with
    | none => simp [h1] at h
    | some b =>
      cases hx : cOpd x <;> cases b <;> cases h2 : sizeT P ty <;> simp [h1, hx, h2] at h <;> subst h <;> simp [COp.cls] at hc
  | store ty x y =>
    exfalso
    simp only [cOp, hop] at h
    cases h2 : sizeT P ty <;> cases hx : cOpd x <;> cases hy : cOpd y <;> simp [h2, hx, hy] at h
    subst h; simp [COp.cls] at hc
  | ready g => simp [cOp, hop] at h
  | waits g => simp [cOp, hop] at h
  | nilCheck x => exact pure_nilCheck hop h hd ht
  | binOp op xt x y yt =>
    simp only [cOp, hop, cBin] at h
    cases hx : cOpd x with
    | none => simp [hx] at h
    | some x' =>
      cases hy : cOpd y with
      | none => simp [hx, hy] at h
      | some y' =>
        simp only [hx, hy, Option.bind_eq_bind, Option.bind_some] at h
        cases hu : P.underlying xt with
        | none => simp [hu] at h
        | some d =>
          simp only [hu] at h
          have nilcase : cNil d op x y x' y' = some cop → s' = s ∧ PureOk P β a o v := by
            intro hn
            unfold cNil at hn
            cases hnt : nilT d with
            | none => simp [hnt] at hn
            | some nk =>
              simp only [hnt] at hn
              cases h1 : isNilC nk y with
              | true =>
                simp only [h1] at hn
                cases op <;> simp at hn <;> subst hn
                · exact pure_eqNil hop hu hnt (.inl ⟨rfl, rfl⟩) hx (.inl ⟨rfl, h1⟩) hd ht
                · exact pure_eqNil hop hu hnt (.inr ⟨rfl, rfl⟩) hx (.inl ⟨rfl, h1⟩) hd ht
              | false =>
                simp only [h1] at hn
                cases h2 : isNilC nk x with
                | false => simp [h2] at hn
                | true =>
                  simp only [h2] at hn
                  cases op <;> simp at hn <;> subst hn
                  · exact pure_eqNil hop hu hnt (.inl ⟨rfl, rfl⟩) hy (.inr ⟨rfl, h2⟩) hd ht
                  · exact pure_eqNil hop hu hnt (.inr ⟨rfl, rfl⟩) hy (.inr ⟨rfl, h2⟩) hd ht
          have flatcase : cFlat P op xt x' y' = some cop → s' = s ∧ PureOk P β a o v := by
            intro hn
            unfold cFlat at hn
            cases hft : flatT P xt with
            | none => simp [hft] at hn
            | some ks =>
              cases hg : P.eqGuardType P.depth xt with
              | true => simp [hft, hg] at hn
              | false =>
                simp only [hft, hg] at hn
                cases op <;> simp at hn <;> subst hn
                · exact pure_eqFlat hop hft hg (.inl ⟨rfl, rfl⟩) hx hy hd ht
                · exact pure_eqFlat hop hft hg (.inr ⟨rfl, rfl⟩) hx hy hd ht
          cases d
          case int k => simp at h; subst h; exact pure_bin hop hx hy hd ht
          case string => simp at h; subst h; exact pure_bin hop hx hy hd ht
          case bool =>
            simp only at h
            cases op <;> simp at h <;> subst h
            · exact pure_eqB hop hu (.inl ⟨rfl, rfl⟩) hx hy hd ht
            · exact pure_eqB hop hu (.inr ⟨rfl, rfl⟩) hx hy hd ht
          case struct fs => exact flatcase h
          case array n e => exact flatcase h
          all_goals exact nilcase h
  | unOp op xt x => exact pure_unOp hop h hd ht
  | convert st dt x => exact pure_convert hop h hc hd ht
  | sliceToArrayPointer dt x => simp [cOp, hop] at h
  | makeInterface xt x => simp [cOp, hop] at h
  | makeFunc fn fs cs => exact pure_mkFunc hop h hd ht
  | makeMap ty r =>
    exfalso
    simp only [cOp, hop] at h
    cases hu : P.underlying ty with
    | none => simp [hu] at h
    | some d =>
      cases d <;> simp [hu] at h
      split at h <;> simp at h <;> subst h <;> simp [COp.cls] at hc
  | makeChan ty x => simp [cOp, hop] at h
  | makeSlice ty l c =>
    exfalso
    simp only [cOp, hop] at h
    cases hu : P.underlying ty with
    | none => simp [hu] at h
    | some d =>
      cases d <;> simp [hu] at h
      rename_i e
      cases h1 : sizeT P e <;> simp [h1] at h
      cases h2 : bytesT P e <;> simp [h2] at h
      cases h3 : zeroT P e <;> simp [h3] at h
      obtain ⟨_, h⟩ := h
      cases h4 : cOpd l <;> simp [h4] at h
      cases h5 : cOpd c <;> simp [h5] at h
      subst h; simp [COp.cls] at hc
  | slice ty x lo hi mx => exact pure_sub hop h hc hd ht
  | fieldAddr sT x f => exact pure_fieldAddr hop h hd ht
  | field xt x f => exact pure_field hop h hd ht
  | indexAddr ty x i => exact pure_indexAddr hop h hd ht
  | index ty x i => exact pure_index hop h hd ht
  | lookup ty x i ok =>
    exfalso
    simp only [cOp, hop] at h
    cases hu : P.underlying ty with
    | none => simp [hu] at h
    | some d =>
      cases d <;> simp [hu] at h
      rename_i kt et
      cases h1 : keyT P kt <;> simp [h1] at h
      cases h2 : zeroT P et <;> simp [h2] at h
      cases h3 : cOpd x <;> simp [h3] at h
      cases h4 : cOpd i <;> simp [h4] at h
      subst h; simp [COp.cls] at hc
  | mapUpdate ty m k u =>
    exfalso
    simp only [cOp, hop, cMapSet] at h
    cases hu : P.underlying ty with
    | none => simp [hu] at h
    | some d =>
      cases d <;> simp [hu] at h
      rename_i kt et
      cases h1 : keyT P kt <;> simp [h1] at h
      cases h2 : cOpd m <;> simp [h2] at h
      cases h3 : cOpd k <;> simp [h3] at h
      cases h4 : cOpd u <;> simp [h4] at h
      subst h; simp [COp.cls] at hc
  | insert ty m k u =>
    exfalso
    simp only [cOp, hop, cMapSet] at h
    cases hu : P.underlying ty with
    | none => simp [hu] at h
    | some d =>
      cases d <;> simp [hu] at h
      rename_i kt et
      cases h1 : keyT P kt <;> simp [h1] at h
      cases h2 : cOpd m <;> simp [h2] at h
      cases h3 : cOpd k <;> simp [h3] at h
      cases h4 : cOpd u <;> simp [h4] at h
      subst h; simp [COp.cls] at hc
  | mapEntry ty m k => simp [cOp, hop] at h
  | entryStore ty m st x => simp [cOp, hop] at h
  | range ty x =>
    exfalso
    simp only [cOp, hop] at h
    cases hu : P.underlying ty with
    | none => simp [hu] at h
    | some d =>
      cases d <;> simp [hu] at h
      cases h1 : cOpd x <;> simp [h1] at h
      subst h; simp [COp.cls] at hc
  | next x b =>
    exfalso
    simp only [cOp, hop] at h
    cases b <;> simp at h
    cases h1 : cOpd x <;> simp [h1] at h
    subst h; simp [COp.cls] at hc
  | entry x => simp [cOp, hop] at h
  | typeAssert x xt at_ ok => simp [cOp, hop] at h
  | extract x i => exact pure_extract hop h hd ht
  | call c =>
    cases hcal : c.callee with
    | builtin b => exact pure_builtin hop hcal h hc hd ht
    | value f =>
      exfalso
      simp only [cOp, hop, hcal] at h
      cases f <;> simp at h
      · cases h1 : cOpds c.args.toList <;> simp [h1] at h
        subst h; simp [COp.cls] at hc
      · cases h1 : cOpds c.args.toList <;> simp [h1] at h
        subst h; simp [COp.cls] at hc
    | invoke r m => simp [cOp, hop, hcal] at h
  | go c => simp [cOp, hop] at h
  | defer c => simp [cOp, hop] at h
  | panic x => simp [cOp, hop] at h
  | send ch x => simp [cOp, hop] at h
  | recv ct ch ok => simp [cOp, hop] at h
  | select cs b => simp [cOp, hop] at h

end
end Go.Ev
end

section
set_option linter.unusedSimpArgs false
set_option linter.unusedVariables false
namespace Go.Ev
open Go _root_.Ev Go.RowKit

section
variable {P : Program} {β : Bl} {t : T Value} {s s' : St} {a : Act} {v : Value} {cop : COp} {base : Nat} {w0 w : World}

def Op.is : Op → Cls → Prop
  | .load .., c | .lookup .., c => c = .read
  | .alloc _, c | .box .., c | .buildSlice .., c | .makeMap .., c | .makeSlice .., c | .range .., c => c = .make
  | .store .., c | .mapUpdate .., c | .insert .., c | .next .., c => c = .eff
  | .slice .., c => c = .pure ∨ c = .read
  | .convert .., c => c = .pure ∨ c = .read ∨ c = .make
  | .call _, _ => True
  | _, c => c = .pure

theorem cOp_is {o : Oper} (h : cOp P o = some cop) : Op.is o.op cop.cls := by
  cases hop : o.op with
  | move x => simp only [cOp, hop] at h; cases hx : cOpd x <;> simp [hx] at h; subst h; rfl
  | assign x => simp only [cOp, hop] at h; cases hx : cOpd x <;> simp [hx] at h; subst h; rfl
  | pick c x y => simp only [cOp, hop] at h; cases hc : cOpd c <;> cases hx : cOpd x <;> cases hy : cOpd y <;> simp [hc, hx, hy] at h; subst h; rfl
  | alloc e => simp only [cOp, hop] at h; cases hz : zeroT P e <;> simp [hz] at h; subst h; rfl
  | box e x => simp only [cOp, hop] at h; cases hx : cOpd x <;> simp [hx] at h; subst h; rfl
  | build ty ps =>
    simp only [cOp, hop] at h
    cases hz : zeroT P ty <;> simp [hz] at h
    cases hu : P.underlying ty with
    | none => simp [hu] at h
    | some d =>
      cases d <;> simp [hu] at h
      · rename_i n e
        cases h1 : sizeT P e <;> simp [h1] at h
        rename_i m
        cases h2 : partsOf (fun i => some (i * m, m)) ps.toList <;> simp [h2] at h
        subst h; rfl
      · rename_i fs
        cases h1 : placesOf P fs.toList <;> simp [h1] at h
        rename_i pl
        cases h2 : partsOf (fun i => pl[i]?) ps.toList <;> simp [h2] at h
        subst h; rfl
  | buildSlice ty n ps =>
    simp only [cOp, hop] at h
    cases hu : P.underlying ty with
    | none => simp [hu] at h
    | some d =>
      cases d <;> simp [hu] at h
      rename_i e
      cases h1 : sizeT P e <;> simp [h1] at h
      cases h2 : zeroT P e <;> simp [h2] at h
      obtain ⟨_, h⟩ := h
      cases h3 : partsOfS ps.toList <;> simp [h3] at h
      subst h; rfl
  | load ty x =>
    simp only [cOp, hop] at h
    cases h1 : aggT P ty with
    | none => simp [h1] at h
    | some b => cases hx : cOpd x <;> cases b <;> cases h2 : sizeT P ty <;> simp [h1, hx, h2] at h <;> subst h <;> rfl
  | store ty x y => simp only [cOp, hop] at h; cases h2 : sizeT P ty <;> cases hx : cOpd x <;> cases hy : cOpd y <;> simp [h2, hx, hy] at h; subst h; rfl
  | ready g => simp [cOp, hop] at h
  | waits g => simp [cOp, hop] at h
  | nilCheck x => simp only [cOp, hop] at h; cases hx : cOpd x <;> simp [hx] at h; subst h; rfl
  | binOp op xt x y yt =>
    simp only [cOp, hop, cBin] at h
    cases hx : cOpd x with
    | none => simp [hx] at h
    | some x' =>
      cases hy : cOpd y with
      | none => simp [hx, hy] at h
      | some y' =>
        simp only [hx, hy, Option.bind_eq_bind, Option.bind_some] at h
        cases hu : P.underlying xt with
        | none => simp [hu] at h
        | some d =>
          simp only [hu] at h
          have nilcase : cNil d op x y x' y' = some cop → cop.cls = .pure := by
            intro hn
            unfold cNil at hn
            repeat' split at hn
            all_goals first
              | (simp at hn; done)
              | (simp at hn; subst hn; rfl)
          have flatcase : cFlat P op xt x' y' = some cop → cop.cls = .pure := by
            intro hn
            unfold cFlat at hn
            repeat' split at hn
            all_goals first
              | (simp at hn; done)
              | (simp at hn; subst hn; rfl)
          cases d
          case int k => simp at h; subst h; rfl
          case string => simp at h; subst h; rfl
          case bool => simp only at h; cases op <;> simp at h <;> subst h <;> rfl
          case struct fs => exact flatcase h
          case array n e => exact flatcase h
          all_goals exact nilcase h
  | unOp op xt x => simp only [cOp, hop] at h; cases hx : cOpd x <;> cases op <;> simp [hx] at h <;> subst h <;> rfl
  | convert st dt x =>
    simp only [cOp, hop] at h
    cases hx : cOpd x with
    | none => simp [hx] at h
    | some x' =>
      simp only [hx, Option.bind_eq_bind, Option.bind_some] at h
      cases hs : P.underlying st with
      | none => simp [hs] at h
      | some sd =>
        cases hdd : P.underlying dt with
        | none => simp [hs, hdd] at h
        | some dd =>
          cases sd <;> cases dd <;> simp only [hs, hdd] at h <;> try (simp at h; done)
          · simp at h; subst h; exact .inl rfl
          · simp at h; subst h; exact .inl rfl
          · simp at h; subst h; exact .inl rfl
          · split at h <;> simp at h; subst h; exact .inr (.inr rfl)
          · split at h <;> simp at h; subst h; exact .inr (.inl rfl)
  | sliceToArrayPointer dt x => simp [cOp, hop] at h
  | makeInterface xt x => simp [cOp, hop] at h
  | makeFunc fn fs cs =>
    simp only [cOp, hop] at h
    cases fn <;> simp at h
    cases h1 : cOpds fs.toList <;> cases h2 : cOpds cs.toList <;> simp [h1, h2] at h
    subst h; rfl
  | makeMap ty r =>
    simp only [cOp, hop] at h
    cases hu : P.underlying ty with
    | none => simp [hu] at h
    | some d =>
      cases d <;> simp [hu] at h
      split at h <;> simp at h <;> subst h <;> rfl
  | makeChan ty x => simp [cOp, hop] at h
  | makeSlice ty l c =>
    simp only [cOp, hop] at h
    cases hu : P.underlying ty with
    | none => simp [hu] at h
    | some d =>
      cases d <;> simp [hu] at h
      rename_i e
      cases h1 : sizeT P e <;> simp [h1] at h
      cases h2 : bytesT P e <;> simp [h2] at h
      cases h3 : zeroT P e <;> simp [h3] at h
      obtain ⟨_, h⟩ := h
      cases h4 : cOpd l <;> simp [h4] at h
      cases h5 : cOpd c <;> simp [h5] at h
      subst h; rfl
  | slice ty x lo hi mx =>
    simp only [cOp, hop] at h
    cases mx with
    | some m => simp at h
    | none =>
      simp at h
      cases hu : P.underlying ty with
      | none => simp [hu] at h
      | some d =>
        cases hx : cOpd x <;> cases hl : optOpd lo <;> cases hh : optOpd hi <;> cases d <;> simp [hu, hx, hl, hh] at h
        · subst h; exact .inl rfl
        · rename_i e
          cases hz : sizeT P e <;> simp [hz] at h
          subst h; exact .inr rfl
  | fieldAddr sT x f =>
    simp only [cOp, hop] at h
    cases hu : P.underlying sT with
    | none => simp [hu] at h
    | some d =>
      cases d <;> simp [hu] at h
      rename_i fs
      cases hf : fs[f]? with
      | none => simp [hf] at h
      | some fd =>
        simp [hf] at h
        cases hz : sizeT P fd.type <;> cases hx : cOpd x <;> simp [hz, hx] at h
        obtain ⟨_, rfl⟩ := h; rfl
  | field xt x f =>
    simp only [cOp, hop] at h
    cases hu : P.underlying xt with
    | none => simp [hu] at h
    | some d =>
      cases d <;> simp [hu] at h
      rename_i fs
      cases hf : fs[f]? with
      | none => simp [hf] at h
      | some fd =>
        simp [hf] at h
        cases hag : aggT P fd.type with
        | none => simp [hag] at h
        | some b => cases b <;> cases hz : sizeT P fd.type <;> cases hx : cOpd x <;> simp [hag, hz, hx] at h <;> subst h <;> rfl
  | indexAddr ty x i =>
    simp only [cOp, hop] at h
    cases hu : P.underlying ty with
    | none => simp [hu] at h
    | some d =>
      cases d <;> simp [hu] at h
      · rename_i e
        cases hz : sizeT P e <;> cases hx : cOpd x <;> cases hi : cOpd i <;> simp [hz, hx, hi] at h
        subst h; rfl
      · rename_i n e
        cases hz : sizeT P e <;> cases hx : cOpd x <;> cases hi : cOpd i <;> simp [hz, hx, hi] at h
        subst h; rfl
  | index ty x i =>
    simp only [cOp, hop] at h
    cases hu : P.underlying ty with
    | none => simp [hu] at h
    | some d =>
      cases d <;> simp [hu] at h
      · cases hx : cOpd x <;> cases hi : cOpd i <;> simp [hx, hi] at h
        subst h; rfl
      · rename_i n e
        cases hag : aggT P e with
        | none => simp [hag] at h
        | some b =>
          cases b
          · simp [hag] at h
            obtain ⟨z, hz, h⟩ := Option.bind_eq_some_iff.1 h
            split at h
            · cases hx : cOpd x <;> cases hi : cOpd i <;> simp [hx, hi] at h
              subst h; rfl
            · simp at h
          · cases hz : sizeT P e <;> cases hx : cOpd x <;> cases hi : cOpd i <;> simp [hag, hz, hx, hi] at h
            subst h; rfl
  | lookup ty x i ok =>
    simp only [cOp, hop] at h
    cases hu : P.underlying ty with
    | none => simp [hu] at h
    | some d =>
      cases d <;> simp [hu] at h
      rename_i kt et
      cases h1 : keyT P kt <;> simp [h1] at h
      cases h2 : zeroT P et <;> simp [h2] at h
      cases h3 : cOpd x <;> simp [h3] at h
      cases h4 : cOpd i <;> simp [h4] at h
      subst h; rfl
  | mapUpdate ty m k u =>
    simp only [cOp, hop, cMapSet] at h
    cases hu : P.underlying ty with
    | none => simp [hu] at h
    | some d =>
      cases d <;> simp [hu] at h
      rename_i kt et
      cases h1 : keyT P kt <;> cases h2 : cOpd m <;> cases h3 : cOpd k <;> cases h4 : cOpd u <;> simp [h1, h2, h3, h4] at h
      subst h; rfl
  | insert ty m k u =>
    simp only [cOp, hop, cMapSet] at h
    cases hu : P.underlying ty with
    | none => simp [hu] at h
    | some d =>
      cases d <;> simp [hu] at h
      rename_i kt et
      cases h1 : keyT P kt <;> cases h2 : cOpd m <;> cases h3 : cOpd k <;> cases h4 : cOpd u <;> simp [h1, h2, h3, h4] at h
      subst h; rfl
  | mapEntry ty m k => simp [cOp, hop] at h
  | entryStore ty m st x => simp [cOp, hop] at h
  | range ty x =>
    simp only [cOp, hop] at h
    cases hu : P.underlying ty with
    | none => simp [hu] at h
    | some d =>
      cases d <;> simp [hu] at h
      cases h1 : cOpd x <;> simp [h1] at h
      subst h; rfl
  | next x b =>
    simp only [cOp, hop] at h
    cases b <;> simp at h
    cases h1 : cOpd x <;> simp [h1] at h
    subst h; rfl
  | entry x => simp [cOp, hop] at h
  | typeAssert x xt at_ ok => simp [cOp, hop] at h
  | extract x i => simp only [cOp, hop] at h; cases hx : cOpd x <;> simp [hx] at h; subst h; rfl
  | call c => trivial
  | go c => simp [cOp, hop] at h
  | defer c => simp [cOp, hop] at h
  | panic x => simp [cOp, hop] at h
  | send ch x => simp [cOp, hop] at h
  | recv ct ch ok => simp [cOp, hop] at h
  | select cs b => simp [cOp, hop] at h

theorem call_cls {o : Oper} {c : Call} (hop : o.op = .call c) (hno : ∀ b, c.callee ≠ .builtin b) (h : cOp P o = some cop) : cop.cls = .eff ∧ cop.isCall = true := by
  simp only [cOp, hop] at h
  cases hcal : c.callee with
  | builtin b => exact absurd hcal (hno b)
  | value f =>
    simp only [hcal] at h
    cases f <;> simp at h
    · cases h1 : cOpds c.args.toList <;> simp [h1] at h
      subst h; exact ⟨rfl, rfl⟩
    · cases h1 : cOpds c.args.toList <;> simp [h1] at h
      subst h; exact ⟨rfl, rfl⟩
  | invoke r m => simp [hcal] at h

theorem builtin_cls {b : Builtin} {args : List Operand} {types : List TypeId} (h : cBuiltin P b args types = some cop) : cop.cls ≠ .make ∧ cop.isCall = false := by
  unfold cBuiltin at h
  split at h
  · rename_i x ty
    cases hx : cOpd x <;> simp [hx] at h
    cases hu : P.underlying ty with
    | none => simp [hu] at h
    | some d =>
      cases d <;> simp [hu] at h
      all_goals first
        | (subst h; exact ⟨by simp [COp.cls], rfl⟩)
        | (split at h <;> simp at h; subst h; exact ⟨by simp [COp.cls], rfl⟩)
  · rename_i x y ty uy
    cases hx : cOpd x <;> cases hy : cOpd y <;> simp [hx, hy] at h
    split at h <;> try (simp at h; done)
    all_goals
      simp only [cAppend, bind, Option.bind_eq_some_iff] at h
      obtain ⟨z, _, n, _, u, _, h⟩ := h
      split at h <;> simp at h
      subst h; exact ⟨by simp [COp.cls], rfl⟩
  · rename_i x y ty uy
    cases hx : cOpd x <;> cases hy : cOpd y <;> simp [hx, hy] at h
    split at h <;> try (simp at h; done)
    simp only [Option.bind_eq_some_iff] at h
    obtain ⟨z, _, h⟩ := h
    cases h; exact ⟨by simp [COp.cls], rfl⟩
  · rename_i x y
    cases hx : cOpd x <;> cases hy : cOpd y <;> simp [hx, hy] at h
    subst h; exact ⟨by simp [COp.cls], rfl⟩
  · rename_i x y
    cases hx : cOpd x <;> cases hy : cOpd y <;> simp [hx, hy] at h
    subst h; exact ⟨by simp [COp.cls], rfl⟩
  · simp at h

theorem read_ok {o : Oper} (h : cOp P o = some cop) (hc : cop.cls = .read) (hd : doOp t s cop = some (v, s')) (ht : TR β t a.tmps) (hw : WR base w0 β s w) : s' = s ∧ ReadOk P β a o v w := by
  have his := cOp_is h
  rw [hc] at his
  cases hop : o.op <;> rw [hop] at his <;> try (simp [Op.is] at his; done)
  case load ty x => exact read_load hop h hd ht hw
  case lookup ty x i ok => exact read_lookup hop h hd ht hw
  case slice ty x lo hi mx => exact read_slice hop h hc hd ht hw
  case convert st dt x => exact read_strOf hop h hc hd ht hw
  case call c =>
    cases hcal : c.callee with
    | builtin b => exact read_lenMap hop hcal h hc hd ht hw
    | value f => have := (call_cls hop (fun b hb => by rw [hcal] at hb; cases hb) h).1; rw [hc] at this; cases this
    | invoke r m => have := (call_cls hop (fun b hb => by rw [hcal] at hb; cases hb) h).1; rw [hc] at this; cases this

theorem make_ok {o : Oper} (h : cOp P o = some cop) (hc : cop.cls = .make) (hd : doOp t s cop = some (v, s')) (ht : TR β t a.tmps) : Makes P β a o s s' v := by
  have his := cOp_is h
  rw [hc] at his
  cases hop : o.op <;> rw [hop] at his <;> try (simp [Op.is] at his; done)
  case alloc e => exact make_alloc hop h hd ht
  case box e x => exact make_box hop h hd ht
  case buildSlice ty n ps => exact make_buildSlice hop h hd ht
  case makeMap ty r => exact make_map hop h hd ht
  case makeSlice ty l c => exact make_makeSlice hop h hd ht
  case range ty x => exact make_range hop h hd ht
  case convert st dt x => exact make_bytesOf hop h hc hd ht
  case call c =>
    exfalso
    cases hcal : c.callee with
    | builtin b => exact (builtin_cls (call_args hcal hop h)).1 hc
    | value f => have := (call_cls hop (fun b hb => by rw [hcal] at hb; cases hb) h).1; rw [hc] at this; cases this
    | invoke r m => have := (call_cls hop (fun b hb => by rw [hcal] at hb; cases hb) h).1; rw [hc] at this; cases this

theorem eff_ok {o : Oper} (h : cOp P o = some cop) (hc : cop.cls = .eff) (hnc : cop.isCall = false) (hd : doOp t s cop = some (v, s')) (ht : TR β t a.tmps) (hw : WR base w0 β s w) : EffOk P base w0 β a o s s' v w := by
  have his := cOp_is h
  rw [hc] at his
  cases hop : o.op <;> rw [hop] at his <;> try (simp [Op.is] at his; done)
  case store ty x y => exact eff_store hop h hd ht hw
  case mapUpdate ty m k u => exact eff_mapSet (.inl hop) h hd ht hw
  case insert ty m k u => exact eff_mapSet (.inr hop) h hd ht hw
  case next x b => exact eff_next hop h hd ht hw
  case call c =>
    cases hcal : c.callee with
    | value f => have := (call_cls hop (fun b hb => by rw [hcal] at hb; cases hb) h).2; rw [hnc] at this; cases this
    | invoke r m => have := (call_cls hop (fun b hb => by rw [hcal] at hb; cases hb) h).2; rw [hnc] at this; cases this
    | builtin b =>
      have hb := call_args hcal hop h
      obtain ⟨cal, ⟨args⟩, ⟨types⟩⟩ := c
      simp only at hb
      unfold cBuiltin at hb
      split at hb
      · exfalso
        rename_i x ty
        cases hx : cOpd x <;> simp [hx] at hb
        cases hu : P.underlying ty with
        | none => simp [hu] at hb
        | some d =>
          cases d <;> simp [hu] at hb
          all_goals first
            | (subst hb; simp [COp.cls] at hc; done)
            | (split at hb <;> simp at hb; subst hb; simp [COp.cls] at hc)
      · rename_i x y ts us
        cases hx : cOpd x with
        | none => simp [hx] at hb
        | some x' =>
          cases hy : cOpd y with
          | none => simp [hx, hy] at hb
          | some y' =>
            simp [hx, hy] at hb
            cases hu : P.underlying ts with
            | none => simp [hu] at hb
            | some d =>
              cases hus : P.underlying us with
              | none => cases d <;> simp [hu, hus] at hb
              | some d2 =>
                cases d <;> simp [hu, hus] at hb
                cases d2 <;> simp at hb
                · exact eff_append hop hcal rfl rfl hu hus (.inr rfl) hx hy hb hd ht hw
                · exact eff_append hop hcal rfl rfl hu hus (.inl ⟨_, rfl⟩) hx hy hb hd ht hw
      · rename_i x y ts us
        cases hx : cOpd x with
        | none => simp [hx] at hb
        | some x' =>
          cases hy : cOpd y with
          | none => simp [hx, hy] at hb
          | some y' =>
            simp [hx, hy] at hb
            cases hu : P.underlying ts with
            | none => simp [hu] at hb
            | some d =>
              cases d <;> simp [hu] at hb
              rename_i e
              cases hz : sizeT P e <;> simp [hz] at hb
              subst hb
              exact eff_copy hop hcal rfl rfl hu hx hy hz hd ht hw
      · exfalso
        rename_i x y
        cases hx : cOpd x <;> cases hy : cOpd y <;> simp [hx, hy] at hb
        subst hb; simp [COp.cls] at hc
      · exfalso
        rename_i x y
        cases hx : cOpd x <;> cases hy : cOpd y <;> simp [hx, hy] at hb
        subst hb; simp [COp.cls] at hc
      · simp at hb

end
end Go.Ev
end
