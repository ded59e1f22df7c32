/- Schedules: plain Lean. -/
import GoSem.Op.String
set_option linter.unusedVariables false
namespace Go.Pu

structure JobL where
  t : Int
  k : Int
  c : Int
  deriving DecidableEq
structure SchL where
  w : List Int
  c : List Int
  turn : Nat
  q : List (List JobL)
  deriving DecidableEq

def waitL (q : List (List JobL)) : Nat := (q.map List.length).sum
theorem waitL_step {q : List (List JobL)} {i : Nat} {x : List JobL} (h : q[i]? = some x) : waitL (q.take (i + 1)) = waitL (q.take i) + x.length := by
  unfold waitL
  rw [List.take_add_one, h]
  simp
theorem waitL_split (q : List (List JobL)) (i : Nat) : waitL q = waitL (q.take i) + waitL (q.drop i) := by
  unfold waitL
  rw [← List.sum_append, ← List.map_append, List.take_append_drop]
theorem waitL_take (q : List (List JobL)) (i : Nat) : waitL (q.take i) ≤ waitL q := by rw [waitL_split q i]; omega
theorem waitL_set {q : List (List JobL)} {i : Nat} {x y : List JobL} (h : q[i]? = some x) : waitL (q.set i y) + x.length = waitL q + y.length := by
  have hlt := (List.getElem?_eq_some_iff.1 h).1
  have h1 := waitL_split (q.set i y) i
  have h2 := waitL_split q i
  have e1 : (q.set i y).take i = q.take i := by rw [List.take_set_of_le (Nat.le_refl i)]
  have hx : q[i] = x := (List.getElem?_eq_some_iff.1 h).2
  have e2 : q.drop i = x :: q.drop (i + 1) := by rw [List.drop_eq_getElem_cons hlt, hx]
  have e3 : (q.set i y).drop i = y :: q.drop (i + 1) := by
    rw [List.drop_eq_getElem_cons (by simpa using hlt)]
    simp [List.drop_set]
  rw [e1, e3] at h1
  rw [e2] at h2
  simp only [waitL, List.map_cons, List.sum_cons] at h1 h2 ⊢
  omega
theorem waitL_get {q : List (List JobL)} {i : Nat} {x : List JobL} (h : q[i]? = some x) : x.length ≤ waitL q := by
  have h1 := waitL_step h
  have h2 := waitL_take q (i + 1)
  omega
theorem waitL_nil {q : List (List JobL)} (h : waitL q = 0) : ∀ x ∈ q, x = [] := by
  intro x hx
  obtain ⟨i, hi⟩ := List.mem_iff_getElem?.1 hx
  have := waitL_get hi
  exact List.eq_nil_of_length_eq_zero (by omega)

def ofL (l : List JobL) (i : Int) : List JobL := l.filter fun j => j.t == i
def totalL (l : List JobL) : Int := (l.map (·.c)).sum
theorem totalL_app (l r : List JobL) : totalL (l ++ r) = totalL l + totalL r := by simp [totalL, List.sum_append]

/-- The turn goes on. -/
def onL (s : SchL) : SchL :=
  let c := if s.q[s.turn]? = some [] then s.c.set s.turn 0 else s.c
  let t := (s.turn + 1) % s.w.length
  { s with c := c.set t ((c[t]?).getD 0 + (s.w[t]?).getD 0), turn := t }
/-- A job is run. -/
def popL (s : SchL) (j : JobL) (js : List JobL) : SchL := { s with c := s.c.set s.turn ((s.c[s.turn]?).getD 0 - j.c), q := s.q.set s.turn js }

def runF : Nat → SchL → Int → List JobL → Option (SchL × List JobL)
  | 0, _, _, _ => none
  | n + 1, s, b, out =>
    if waitL s.q = 0 then some (s, out) else
    match s.q[s.turn]? with
    | some (j :: js) => if j.c ≤ (s.c[s.turn]?).getD 0 then (if j.c > b then some (s, out) else runF n (popL s j js) (b - j.c) (out ++ [j])) else runF n (onL s) b out
    | _ => runF n (onL s) b out

def errArg : Int := 0
def addL (s : SchL) (j : JobL) : SchL := { s with q := s.q.set j.t.toNat ((s.q[j.t.toNat]?).getD [] ++ [j]) }

/-- What holds of the schedules of the statements. -/
structure WF (s : SchL) : Prop where
  n1 : 1 ≤ s.w.length
  n8 : s.w.length ≤ 8
  lc : s.c.length = s.w.length
  lq : s.q.length = s.w.length
  tn : s.turn < s.w.length
  ws : ∀ (i : Nat) (x : Int), s.w[i]? = some x → 1 ≤ x ∧ x ≤ 100
  cs : ∀ (i : Nat) (x : Int), s.c[i]? = some x → 0 ≤ x ∧ (i ≠ s.turn → x < 1000) ∧ x < 1100
  jb : ∀ (i : Nat) (l : List JobL), s.q[i]? = some l → ∀ j ∈ l, 1 ≤ j.c ∧ j.c ≤ 1000 ∧ j.t = i
  wt : waitL s.q ≤ 64

theorem getD_set {α : Type} {l : List α} {i k : Nat} {x d : α} (h : i < l.length) : ((l.set i x)[k]?).getD d = if k = i then x else (l[k]?).getD d := by
  rw [List.getElem?_set]
  split
  · rename_i he; subst he; simp [h]
  · rename_i he; rw [if_neg (fun e => he e.symm)]

theorem onL_wf {s : SchL} (h : WF s) (hc : ∀ j js, s.q[s.turn]? = some (j :: js) → (s.c[s.turn]?).getD 0 < j.c) : WF (onL s) := by
  have hn := h.n1
  have ht := h.tn
  have hm : (s.turn + 1) % s.w.length < s.w.length := Nat.mod_lt _ (by omega)
  obtain ⟨c, hcd⟩ : ∃ c, c = (if s.q[s.turn]? = some [] then s.c.set s.turn 0 else s.c) := ⟨_, rfl⟩
  have hlc : c.length = s.w.length := by rw [hcd]; split <;> simp [h.lc]
  have hc1 : ∀ (i : Nat) (x : Int), c[i]? = some x → 0 ≤ x ∧ x < 1000 := by
    intro i x hx
    have hil : i < s.w.length := by have := (List.getElem?_eq_some_iff.1 hx).1; omega
    obtain ⟨l, hl⟩ : ∃ l, s.q[s.turn]? = some l := ⟨_, List.getElem?_eq_getElem (by rw [h.lq]; exact ht)⟩
    by_cases hi : i = s.turn
    · subst hi
      cases l with
      | nil =>
        rw [hcd, if_pos hl, List.getElem?_set_self (by rw [h.lc]; exact ht)] at hx
        cases hx
        omega
      | cons j js =>
        rw [hcd, if_neg (by rw [hl]; simp)] at hx
        have h1 := hc j js hl
        rw [hx] at h1
        have h2 := (h.jb _ _ hl j (by simp)).2.1
        have h3 := h.cs _ _ hx
        simp only [Option.getD_some] at h1
        omega
    · have : s.c[i]? = some x := by
        rw [hcd] at hx
        split at hx
        · rwa [List.getElem?_set_ne (fun e => hi e.symm)] at hx
        · exact hx
      have := h.cs i x this
      exact ⟨this.1, this.2.1 hi⟩
  have he : onL s = { s with c := c.set ((s.turn + 1) % s.w.length) ((c[(s.turn + 1) % s.w.length]?).getD 0 + (s.w[(s.turn + 1) % s.w.length]?).getD 0), turn := (s.turn + 1) % s.w.length } := by
    rw [hcd]; rfl
  rw [he]
  obtain ⟨w0, hw0⟩ : ∃ x, s.w[(s.turn + 1) % s.w.length]? = some x := ⟨_, List.getElem?_eq_getElem hm⟩
  obtain ⟨c0, hc0⟩ : ∃ x, c[(s.turn + 1) % s.w.length]? = some x := ⟨_, List.getElem?_eq_getElem (by omega)⟩
  have hw1 := h.ws _ _ hw0
  have hcc := hc1 _ _ hc0
  refine ⟨h.n1, h.n8, by simp [hlc], h.lq, hm, h.ws, ?_, h.jb, h.wt⟩
  intro i x hx
  simp only at hx ⊢
  by_cases hi : i = (s.turn + 1) % s.w.length
  · subst hi
    rw [List.getElem?_set_self (by omega), hc0, hw0] at hx
    simp only [Option.getD_some, Option.some.injEq] at hx
    omega
  · rw [List.getElem?_set_ne (fun e => hi e.symm)] at hx
    have := hc1 i x hx
    exact ⟨this.1, fun _ => this.2, by omega⟩

theorem popL_wf {s : SchL} (h : WF s) {j : JobL} {js : List JobL} (hq : s.q[s.turn]? = some (j :: js)) (hj : j.c ≤ (s.c[s.turn]?).getD 0) : WF (popL s j js) := by
  have ht := h.tn
  obtain ⟨c0, hc0⟩ : ∃ x, s.c[s.turn]? = some x := ⟨_, List.getElem?_eq_getElem (by rw [h.lc]; exact ht)⟩
  have hj1 := h.jb _ _ hq j (by simp)
  refine ⟨h.n1, h.n8, by simp [popL, h.lc], by simp [popL, h.lq], ht, h.ws, ?_, ?_, ?_⟩
  · intro i x hx
    simp only [popL] at hx ⊢
    by_cases hi : i = s.turn
    · subst hi
      rw [List.getElem?_set_self (by rw [h.lc]; exact ht), hc0] at hx
      rw [hc0] at hj
      simp only [Option.getD_some, Option.some.injEq] at hx hj
      have := h.cs _ _ hc0
      omega
    · rw [List.getElem?_set_ne (fun e => hi e.symm)] at hx
      exact h.cs i x hx
  · intro i l hl j' hj'
    simp only [popL] at hl
    by_cases hi : i = s.turn
    · subst hi
      rw [List.getElem?_set_self (by rw [h.lq]; exact ht)] at hl
      cases hl
      exact h.jb _ _ hq j' (by simp [hj'])
    · rw [List.getElem?_set_ne (fun e => hi e.symm)] at hl
      exact h.jb i l hl j' hj'
  · have := waitL_set (y := js) hq
    have := h.wt
    simp only [popL, List.length_cons] at *
    omega
theorem popL_wait {s : SchL} {j : JobL} {js : List JobL} (hq : s.q[s.turn]? = some (j :: js)) : waitL (popL s j js).q + 1 = waitL s.q := by
  have := waitL_set (y := js) hq
  simp only [popL, List.length_cons] at *
  omega

/-- How far the turn is from a tenant. -/
def distL (n t i : Nat) : Nat := if t < i then i - t else i + n - t
theorem distL_on {n t i : Nat} (hn : t < n) (hi : i < n) (h : (t + 1) % n ≠ i) : distL n ((t + 1) % n) i + 1 = distL n t i := by
  unfold distL
  by_cases h1 : t + 1 < n
  · rw [Nat.mod_eq_of_lt h1] at h ⊢
    split <;> split <;> omega
  · have : t + 1 = n := by omega
    rw [this, Nat.mod_self] at h ⊢
    split <;> split <;> omega
theorem distL_le {n t i : Nat} (hn : t < n) (hi : i < n) : 1 ≤ distL n t i ∧ distL n t i ≤ n := by
  unfold distL
  split <;> omega

theorem onL_q (s : SchL) : (onL s).q = s.q := rfl
theorem onL_w (s : SchL) : (onL s).w = s.w := rfl
theorem onL_turn (s : SchL) : (onL s).turn = (s.turn + 1) % s.w.length := rfl
theorem onL_c {s : SchL} (h : WF s) {i : Nat} (hi : i < s.w.length) (hq : s.q[i]? ≠ some []) : ((onL s).c[i]?).getD 0 = (s.c[i]?).getD 0 + (if i = (s.turn + 1) % s.w.length then (s.w[i]?).getD 0 else 0) := by
  have hn := h.n1
  have hm : (s.turn + 1) % s.w.length < s.w.length := Nat.mod_lt _ (by omega)
  have key : ∀ c : List Int, c = (if s.q[s.turn]? = some [] then s.c.set s.turn 0 else s.c) → c.length = s.w.length ∧ (c[i]?).getD 0 = (s.c[i]?).getD 0 := by
    rintro c rfl
    refine ⟨by split <;> simp [h.lc], ?_⟩
    split
    · rename_i h1
      rw [getD_set (by rw [h.lc]; exact h.tn)]
      rw [if_neg]
      rintro rfl
      exact hq h1
    · rfl
  obtain ⟨k1, k2⟩ := key _ rfl
  simp only [onL]
  rw [getD_set (by rw [k1]; exact hm)]
  split
  · rename_i he
    rw [← he, k2]
  · rw [k2]; simp

/-- With jobs that wait, one is found in the end. -/
theorem runF_total : ∀ (k : Nat) (s : SchL) (b : Int) (out : List JobL), WF s → waitL s.q = k → ∃ n r, runF n s b out = some r := by
  intro k
  induction k using Nat.strongRecOn with
  | _ k ih =>
    intro s b out hw hk
    by_cases h0 : waitL s.q = 0
    · exact ⟨1, _, by simp [runF, h0]; rfl⟩
    -- a tenant whose job waits
    obtain ⟨i, l, hl, hne⟩ : ∃ (i : Nat) (l : List JobL), s.q[i]? = some l ∧ l ≠ [] := by
      apply Classical.byContradiction
      intro hno
      apply h0
      have : ∀ x ∈ s.q.map List.length, x = 0 := by
        intro x hx
        obtain ⟨l, hl, rfl⟩ := List.mem_map.1 hx
        obtain ⟨i, hi⟩ := List.mem_iff_getElem?.1 hl
        have : l = [] := Classical.byContradiction fun h => hno ⟨i, l, hi, h⟩
        simp [this]
      unfold waitL
      generalize s.q.map List.length = xs at this
      induction xs with
      | nil => rfl
      | cons x xs ih2 => simp [this x (by simp), ih2 (fun y hy => this y (by simp [hy]))]
    have key : ∀ (m : Nat) (s : SchL), WF s → waitL s.q = k → s.q[i]? = some l → (1100 - (s.c[i]?).getD 0).toNat * s.w.length + distL s.w.length s.turn i = m → ∃ n r, runF n s b out = some r := by
      intro m
      induction m using Nat.strongRecOn with
      | _ m ihm =>
        intro s hw hk hl hm
        have hil : i < s.w.length := by have := (List.getElem?_eq_some_iff.1 hl).1; rw [hw.lq] at this; exact this
        have h0' : waitL s.q ≠ 0 := by
          have := waitL_get hl
          have : 0 < l.length := List.length_pos_iff.2 hne
          omega
        obtain ⟨q, hq⟩ : ∃ q, s.q[s.turn]? = some q := ⟨_, List.getElem?_eq_getElem (by rw [hw.lq]; exact hw.tn)⟩
        have goOn : (∀ j js, s.q[s.turn]? = some (j :: js) → (s.c[s.turn]?).getD 0 < j.c) → ∃ n r, runF n (onL s) b out = some r := by
          intro hc
          have hw' := onL_wf hw hc
          have hci := onL_c hw hil (by rw [hl]; simpa using hne)
          obtain ⟨ci, hcx⟩ : ∃ x, s.c[i]? = some x := ⟨_, List.getElem?_eq_getElem (by rw [hw.lc]; exact hil)⟩
          obtain ⟨wi, hwx⟩ : ∃ x, s.w[i]? = some x := ⟨_, List.getElem?_eq_getElem hil⟩
          obtain ⟨ci', hcx'⟩ : ∃ x, (onL s).c[i]? = some x := ⟨_, List.getElem?_eq_getElem (by rw [hw'.lc]; exact hil)⟩
          have b1 := hw.cs _ _ hcx
          have b2 := hw.ws _ _ hwx
          have b3 := hw'.cs _ _ hcx'
          refine ihm _ ?_ (onL s) hw' (by rw [onL_q]; exact hk) (by rw [onL_q]; exact hl) rfl
          rw [← hm, onL_w, onL_turn]
          rw [hcx, hcx', hwx] at hci
          rw [hcx, hcx']
          simp only [Option.getD_some] at hci ⊢
          obtain ⟨d1, d2⟩ := distL_le hw.tn hil
          by_cases hi : i = (s.turn + 1) % s.w.length
          · rw [if_pos hi] at hci
            obtain ⟨d3, d4⟩ := distL_le (t := (s.turn + 1) % s.w.length) (Nat.mod_lt _ (by omega)) hil
            have : (1100 - ci').toNat + 1 ≤ (1100 - ci).toNat := by omega
            have := Nat.mul_le_mul_right s.w.length this
            rw [Nat.add_mul] at this
            omega
          · rw [if_neg hi] at hci
            have := distL_on hw.tn hil (fun h => hi h.symm)
            have : ci' = ci := by omega
            rw [this]
            omega
        cases q with
        | nil =>
          obtain ⟨n, r, hr⟩ := goOn (fun j js h => by rw [hq] at h; cases h)
          exact ⟨n + 1, r, by simp only [runF, if_neg h0', hq]; exact hr⟩
        | cons j js =>
          by_cases hj : j.c ≤ (s.c[s.turn]?).getD 0
          · by_cases hb : j.c > b
            · exact ⟨1, _, by simp only [runF, if_neg h0', hq, if_pos hj, if_pos hb]; rfl⟩
            · have hp := popL_wait hq
              obtain ⟨n, r, hr⟩ := ih (waitL (popL s j js).q) (by omega) (popL s j js) (b - j.c) (out ++ [j]) (popL_wf hw hq hj) rfl
              exact ⟨n + 1, r, by simp only [runF, if_neg h0', hq, if_pos hj, if_neg hb]; exact hr⟩
          · obtain ⟨n, r, hr⟩ := goOn (fun j' js' h => by rw [hq] at h; cases h; omega)
            exact ⟨n + 1, r, by simp only [runF, if_neg h0', hq, if_neg hj]; exact hr⟩
    exact key _ s hw hk hl rfl

theorem runF_wf : ∀ (n : Nat) (s : SchL) (b : Int) (out : List JobL) (s' : SchL) (l : List JobL), WF s → runF n s b out = some (s', l) → WF s'
  | 0, _, _, _, _, _, _, h => by cases h
  | n + 1, s, b, out, s', l, hw, h => by
    rw [runF] at h
    split at h
    · cases h; exact hw
    · split at h
      · rename_i j js hq
        split at h
        · rename_i hj
          split at h
          · cases h; exact hw
          · exact runF_wf n _ _ _ _ _ (popL_wf hw hq hj) h
        · rename_i hj
          exact runF_wf n _ _ _ _ _ (onL_wf hw fun j' js' h' => by rw [hq] at h'; cases h'; omega) h
      · rename_i hq
        exact runF_wf n _ _ _ _ _ (onL_wf hw fun j' js' h' => (hq _ _ h').elim) h

/-- What a run gives. -/
def Runs (s : SchL) (b : Int) (s' : SchL) (l : List JobL) : Prop := ∃ n, runF n s b [] = some (s', l)
theorem runs_total {s : SchL} (h : WF s) (b : Int) : ∃ s' l, Runs s b s' l := by
  obtain ⟨n, ⟨s', l⟩, hr⟩ := runF_total _ s b [] h rfl
  exact ⟨s', l, n, hr⟩
theorem Runs.wf {s s' : SchL} {b : Int} {l : List JobL} (h : Runs s b s' l) (hw : WF s) : WF s' := by
  obtain ⟨n, hn⟩ := h
  exact runF_wf n _ _ _ _ _ hw hn
end Go.Pu
/- Schedules: what a run does, plain Lean. -/
set_option linter.unusedVariables false
namespace Go.Pu

/-- The jobs that run one behind the other, whatever the budget; k counts the turns. -/
inductive Goes : SchL → List JobL → SchL → Nat → Prop
  | nil (s : SchL) : Goes s [] s 0
  | turn {s s' : SchL} {l : List JobL} {k : Nat} (hw : waitL s.q ≠ 0) (hn : ∀ j js, s.q[s.turn]? = some (j :: js) → (s.c[s.turn]?).getD 0 < j.c) (h : Goes (onL s) l s' k) : Goes s l s' (k + 1)
  | pop {s s' : SchL} {l : List JobL} {k : Nat} {j : JobL} {js : List JobL} (hq : s.q[s.turn]? = some (j :: js)) (hj : j.c ≤ (s.c[s.turn]?).getD 0) (h : Goes (popL s j js) l s' k) : Goes s (j :: l) s' k

theorem Goes.wf {s s' : SchL} {l : List JobL} {k : Nat} (h : Goes s l s' k) (hw : WF s) : WF s' := by
  induction h with
  | nil s => exact hw
  | turn _ hn _ ih => exact ih (onL_wf hw hn)
  | pop hq hj _ ih => exact ih (popL_wf hw hq hj)

theorem Goes.trans {a b c : SchL} {l m : List JobL} {k n : Nat} (h : Goes a l b k) (h' : Goes b m c n) : Goes a (l ++ m) c (k + n) := by
  induction h with
  | nil s => simpa using h'
  | turn hw hn _ ih => have := Goes.turn hw hn (ih h'); rwa [show ∀ x, x + 1 + n = x + n + 1 from fun x => by omega]
  | pop hq hj _ ih => exact Goes.pop hq hj (ih h')

/-- What is behind a run's end: nothing waits, or what would come next costs too much. -/
def EndAt (s : SchL) (b : Int) : Prop := waitL s.q = 0 ∨ ∃ j js, s.q[s.turn]? = some (j :: js) ∧ j.c ≤ (s.c[s.turn]?).getD 0 ∧ j.c > b

theorem runF_goes : ∀ (n : Nat) (s : SchL) (b : Int) (out : List JobL) (s' : SchL) (l : List JobL), WF s → runF n s b out = some (s', l) →
    ∃ m k, l = out ++ m ∧ Goes s m s' k ∧ totalL m ≤ max b 0 ∧ EndAt s' (b - totalL m)
  | 0, _, _, _, _, _, _, h => by cases h
  | n + 1, s, b, out, s', l, hw, h => by
    rw [runF] at h
    split at h
    · rename_i h0
      cases h
      exact ⟨[], 0, by simp, .nil _, by simp [totalL]; omega, .inl h0⟩
    · rename_i h0
      split at h
      · rename_i j js hq
        split at h
        · rename_i hj
          split at h
          · rename_i hb
            cases h
            exact ⟨[], 0, by simp, .nil _, by simp [totalL]; omega, .inr ⟨j, js, hq, hj, by simpa [totalL] using hb⟩⟩
          · rename_i hb
            obtain ⟨m, k, h1, h2, h3, h4⟩ := runF_goes n _ _ _ _ _ (popL_wf hw hq hj) h
            have hj1 := hw.jb _ _ hq j (by simp)
            have ht : totalL (j :: m) = j.c + totalL m := by simp [totalL]
            refine ⟨j :: m, k, by simp [h1], .pop hq hj h2, by rw [ht]; omega, ?_⟩
            rwa [ht, show b - (j.c + totalL m) = b - j.c - totalL m from by omega]
        · rename_i hj
          have hn : ∀ j' js', s.q[s.turn]? = some (j' :: js') → (s.c[s.turn]?).getD 0 < j'.c := fun j' js' h' => by rw [hq] at h'; cases h'; omega
          obtain ⟨m, k, h1, h2, h3, h4⟩ := runF_goes n _ _ _ _ _ (onL_wf hw hn) h
          exact ⟨m, k + 1, h1, .turn h0 hn h2, h3, h4⟩
      · rename_i hq
        have hn : ∀ j' js', s.q[s.turn]? = some (j' :: js') → (s.c[s.turn]?).getD 0 < j'.c := fun j' js' h' => (hq _ _ h').elim
        obtain ⟨m, k, h1, h2, h3, h4⟩ := runF_goes n _ _ _ _ _ (onL_wf hw hn) h
        exact ⟨m, k + 1, h1, .turn h0 hn h2, h3, h4⟩
theorem Runs.goes {s s' : SchL} {b : Int} {l : List JobL} (h : Runs s b s' l) (hw : WF s) : ∃ k, Goes s l s' k ∧ totalL l ≤ max b 0 ∧ EndAt s' (b - totalL l) := by
  obtain ⟨n, hn⟩ := h
  obtain ⟨m, k, h1, h2, h3, h4⟩ := runF_goes n _ _ _ _ _ hw hn
  rw [List.nil_append] at h1
  subst h1
  exact ⟨k, h2, h3, h4⟩

/-- Two stretches from one place: one goes on where the other ends. -/
theorem Goes.det {s a b : SchL} {l m : List JobL} {k n : Nat} (h : Goes s l a k) (h' : Goes s m b n) : (∃ r i, Goes a r b i ∧ m = l ++ r) ∨ (∃ r i, Goes b r a i ∧ l = m ++ r) := by
  induction h generalizing m b n with
  | nil s => exact .inl ⟨m, n, h', rfl⟩
  | turn hw hn h ih =>
    cases h' with
    | nil => exact .inr ⟨_, _, .turn hw hn h, rfl⟩
    | turn _ _ h2 => exact ih h2
    | pop hq hj _ => have := hn _ _ hq; omega
  | pop hq hj h ih =>
    cases h' with
    | nil => exact .inr ⟨_, _, .pop hq hj h, rfl⟩
    | turn _ hn _ => have := hn _ _ hq; omega
    | pop hq2 hj2 h2 =>
      rw [hq] at hq2
      cases hq2
      rcases ih h2 with ⟨r, i, h3, h4⟩ | ⟨r, i, h3, h4⟩
      · exact .inl ⟨r, i, h3, by rw [h4]; rfl⟩
      · exact .inr ⟨r, i, h3, by rw [h4]; rfl⟩

def totQ (q : List (List JobL)) : Int := (q.map totalL).sum
theorem totQ_set {q : List (List JobL)} {i : Nat} {x y : List JobL} (h : q[i]? = some x) : totQ (q.set i y) + totalL x = totQ q + totalL y := by
  induction q generalizing i with
  | nil => simp at h
  | cons z q ih =>
    cases i with
    | zero =>
      simp at h
      subst h
      simp [totQ]
      omega
    | succ i =>
      have := ih (i := i) (by simpa using h)
      simp [totQ] at this ⊢
      omega
theorem Goes.wait {s s' : SchL} {l : List JobL} {k : Nat} (h : Goes s l s' k) : waitL s.q = l.length + waitL s'.q ∧ totQ s.q = totalL l + totQ s'.q := by
  induction h with
  | nil s => simp [totalL]
  | turn _ _ _ ih => rw [onL_q] at ih; exact ih
  | pop hq hj _ ih =>
    rename_i s1 s2 l1 k1 j js _
    have h1 := popL_wait hq
    have h2 := totQ_set (y := js) hq
    have h3 : totalL (j :: js) = j.c + totalL js := by simp [totalL]
    have h4 : totalL (j :: l1) = j.c + totalL l1 := by simp [totalL]
    have h5 : (popL s1 j js).q = s1.q.set s1.turn js := rfl
    rw [h5] at ih
    rw [h5] at h1
    rw [h3] at h2
    simp only [List.length_cons, h4]
    omega
theorem Goes.idle {s s' : SchL} {l : List JobL} {k : Nat} (h : Goes s l s' k) (h0 : waitL s.q = 0) : l = [] ∧ s' = s ∧ k = 0 := by
  cases h with
  | nil => exact ⟨rfl, rfl, rfl⟩
  | turn hw => exact (hw h0).elim
  | pop hq => have := popL_wait hq; omega
theorem Goes.empty {s s' : SchL} {k : Nat} (h : Goes s [] s' k) : s'.q = s.q := by
  generalize hl : ([] : List JobL) = l at h
  induction h with
  | nil s => rfl
  | turn _ _ _ ih => exact ih hl
  | pop => cases hl
/-- Who could run runs next. -/
theorem Goes.next {s s' : SchL} {j j' : JobL} {js : List JobL} {l : List JobL} {k : Nat} (h : Goes s (j :: l) s' k) (hq : s.q[s.turn]? = some (j' :: js)) (hj : j'.c ≤ (s.c[s.turn]?).getD 0) : j = j' := by
  cases h with
  | turn _ hn _ => have := hn _ _ hq; omega
  | pop hq2 _ _ => rw [hq] at hq2; cases hq2; rfl
theorem Goes.jobs {s s' : SchL} {l : List JobL} {k : Nat} (h : Goes s l s' k) (hw : WF s) (i : Nat) : ofL l i ++ (s'.q[i]?).getD [] = (s.q[i]?).getD [] := by
  induction h with
  | nil s => rfl
  | turn _ hn _ ih => rw [ih (onL_wf hw hn), onL_q]
  | pop hq hj _ ih =>
    rename_i s1 s2 l1 k1 j js _
    have hjt := (hw.jb _ _ hq j (by simp)).2.2
    have := ih (popL_wf hw hq hj)
    have h5 : (popL s1 j js).q = s1.q.set s1.turn js := rfl
    rw [h5, getD_set (by rw [hw.lq]; exact hw.tn)] at this
    by_cases hi : i = s1.turn
    · subst hi
      rw [if_pos rfl] at this
      rw [hq]
      simp only [ofL, Option.getD_some] at this ⊢
      rw [List.filter_cons_of_pos (by rw [hjt]; simp), List.cons_append, this]
    · rw [if_neg hi] at this
      rw [← this]
      simp only [ofL]
      rw [List.filter_cons_of_neg]
      rw [hjt]
      simp
      omega
theorem Goes.lens {s s' : SchL} {l : List JobL} {k : Nat} (h : Goes s l s' k) : s'.w = s.w ∧ s'.q.length = s.q.length := by
  induction h with
  | nil s => exact ⟨rfl, rfl⟩
  | turn _ _ _ ih => exact ih
  | pop hq hj _ ih => exact ⟨ih.1, by rw [ih.2]; simp [popL]⟩

/-! ### Shares -/
structure FW (s : SchL) : Prop where
  jb : ∀ (i : Nat) (l : List JobL), s.q[i]? = some l → ∀ j ∈ l, 0 ≤ j.c ∧ j.c ≤ 80
  cr : ∀ (i : Nat), i < s.w.length → (s.c[i]?).getD 0 ≤ 79 + (if i = s.turn then (s.w[i]?).getD 0 else 0)
theorem onL_fw {s : SchL} (h : WF s) (hf : FW s) (hn : ∀ j js, s.q[s.turn]? = some (j :: js) → (s.c[s.turn]?).getD 0 < j.c) : FW (onL s) := by
  have hn1 := h.n1
  have htn := h.tn
  have hm : (s.turn + 1) % s.w.length < s.w.length := Nat.mod_lt _ (by omega)
  obtain ⟨x, hx⟩ : ∃ x, s.q[s.turn]? = some x := ⟨_, List.getElem?_eq_getElem (by rw [h.lq]; exact htn)⟩
  obtain ⟨c, hc⟩ : ∃ c, c = (if s.q[s.turn]? = some [] then s.c.set s.turn 0 else s.c) := ⟨_, rfl⟩
  have hlc : c.length = s.w.length := by rw [hc]; split <;> simp [h.lc]
  have hc1 : ∀ i, i < s.w.length → (c[i]?).getD 0 ≤ 79 := by
    intro i hi
    by_cases he : i = s.turn
    · subst he
      cases x with
      | nil => rw [hc, if_pos hx, getD_set (by rw [h.lc]; exact htn), if_pos rfl]; omega
      | cons j js =>
        rw [hc, if_neg (by rw [hx]; simp)]
        have := hn j js hx
        have := (hf.jb _ _ hx j (by simp)).2
        omega
    · have := hf.cr i hi
      rw [if_neg he] at this
      rw [hc]
      split
      · rw [getD_set (by rw [h.lc]; exact htn), if_neg he]; omega
      · omega
  refine ⟨hf.jb, fun i hi => ?_⟩
  have he : onL s = { s with c := c.set ((s.turn + 1) % s.w.length) ((c[(s.turn + 1) % s.w.length]?).getD 0 + (s.w[(s.turn + 1) % s.w.length]?).getD 0), turn := (s.turn + 1) % s.w.length } := by
    rw [hc]; rfl
  rw [he] at hi ⊢
  simp only at hi ⊢
  rw [getD_set (by rw [hlc]; exact hm)]
  by_cases hi2 : i = (s.turn + 1) % s.w.length
  · rw [if_pos hi2, if_pos hi2, hi2]
    have := hc1 _ hm
    omega
  · rw [if_neg hi2, if_neg hi2]
    have := hc1 i hi
    omega
theorem popL_fw {s : SchL} (h : WF s) (hf : FW s) {j : JobL} {js : List JobL} (hq : s.q[s.turn]? = some (j :: js)) : FW (popL s j js) := by
  have htn := h.tn
  have hj := (hf.jb _ _ hq j (by simp)).1
  refine ⟨fun i l hl j' hj' => ?_, fun i hi => ?_⟩
  · simp only [popL] at hl
    by_cases he : i = s.turn
    · subst he
      rw [List.getElem?_set_self (by rw [h.lq]; exact htn)] at hl
      cases hl
      exact hf.jb _ _ hq j' (by simp [hj'])
    · rw [List.getElem?_set_ne (fun e => he e.symm)] at hl
      exact hf.jb i l hl j' hj'
  · have := hf.cr i hi
    show ((s.c.set s.turn ((s.c[s.turn]?).getD 0 - j.c))[i]?).getD 0 ≤ 79 + (if i = s.turn then (s.w[i]?).getD 0 else 0)
    rw [getD_set (by rw [h.lc]; exact htn)]
    by_cases he : i = s.turn
    · rw [if_pos he, if_pos he]
      rw [if_pos he] at this
      subst he
      omega
    · rw [if_neg he, if_neg he]
      rw [if_neg he] at this
      exact this
theorem Goes.fw {s s' : SchL} {l : List JobL} {k : Nat} (h : Goes s l s' k) (hw : WF s) (hf : FW s) : FW s' := by
  induction h with
  | nil s => exact hf
  | turn _ hn _ ih => exact ih (onL_wf hw hn) (onL_fw hw hf hn)
  | pop hq hj _ ih => exact ih (popL_wf hw hq hj) (popL_fw hw hf hq)

/-- How often it was a tenant's turn. -/
def turnsL (n k i : Nat) : Nat := (k + n - i) / n
theorem turns_step {n k i : Nat} (hn : 0 < n) (hi : i < n) : turnsL n (k + 1) i = turnsL n k i + (if i = (k + 1) % n then 1 else 0) := by
  unfold turnsL
  have e : k + 1 + n - i = (k + n - i) + 1 := by omega
  rw [e, Nat.succ_div]
  congr 1
  have : (n ∣ k + n - i + 1) ↔ i = (k + 1) % n := by
    have e2 : k + n - i + 1 = (k + 1) + (n - i) := by omega
    rw [e2, Nat.dvd_iff_mod_eq_zero]
    have hk := Nat.mod_lt (k + 1) hn
    rw [Nat.add_mod]
    by_cases h0 : i = 0
    · subst h0
      rw [Nat.sub_zero, Nat.mod_self, Nat.add_zero, Nat.mod_mod]
      omega
    · rw [Nat.mod_eq_of_lt (show n - i < n by omega)]
      constructor
      · intro h
        have hd := Nat.dvd_of_mod_eq_zero h
        obtain ⟨c, hc⟩ := hd
        have : c = 1 := by
          have h1 : 0 < n * c := by rw [← hc]; omega
          have h2 : n * c < n * 2 := by rw [← hc]; omega
          have := Nat.lt_of_mul_lt_mul_left h2
          have : 0 < c := Nat.pos_of_mul_pos_left h1
          omega
        subst this
        omega
      · intro h
        have : (k + 1) % n + (n - i) = n := by omega
        rw [this, Nat.mod_self]
  simp only [this]
theorem turns_fair {n k i j : Nat} (hn : 0 < n) (hi : i < n) (hj : j < n) : turnsL n k i ≤ turnsL n k j + 1 := by
  unfold turnsL
  have : k + n - i ≤ (k + n - j) + n := by omega
  calc (k + n - i) / n ≤ (k + n - j + n) / n := Nat.div_le_div_right this
    _ = (k + n - j) / n + 1 := Nat.add_div_right _ hn
theorem Goes.share {s s' : SchL} {l : List JobL} {k : Nat} (h : Goes s l s' k) (hw : WF s) {i : Nat} {k0 : Nat} (hi : i < s.w.length) (hne : s'.q[i]? ≠ some []) (ht : s.turn = k0 % s.w.length) (T : Int)
    (hc : (s.c[i]?).getD 0 + T = (s.w[i]?).getD 0 * turnsL s.w.length k0 i) : (s'.c[i]?).getD 0 + (T + totalL (ofL l i)) = (s.w[i]?).getD 0 * turnsL s.w.length (k0 + k) i ∧ s'.turn = (k0 + k) % s.w.length := by
  induction h generalizing k0 T with
  | nil s => simp only [ofL, List.filter_nil, Nat.add_zero]; exact ⟨by simp [totalL]; exact hc, ht⟩
  | @turn s1 s2 l1 k1 _ hn h ih =>
    have hne1 : s1.q[i]? ≠ some [] := by
      intro h0
      apply hne
      have hj := h.jobs (onL_wf hw hn) i
      rw [onL_q, h0] at hj
      simp only [Option.getD_some] at hj
      have hlen := h.lens
      obtain ⟨x, hx⟩ : ∃ x, s2.q[i]? = some x := ⟨_, List.getElem?_eq_getElem (by rw [hlen.2, onL_q, hw.lq]; exact hi)⟩
      rw [hx] at hj ⊢
      simp only [Option.getD_some] at hj
      rw [(List.append_eq_nil_iff.1 hj).2]
    have hci := onL_c hw hi hne1
    have ht' : (onL s1).turn = (k0 + 1) % s1.w.length := by rw [onL_turn, ht, Nat.mod_add_mod]
    have hst := turns_step (n := s1.w.length) (k := k0) (i := i) (by omega) hi
    have := ih (onL_wf hw hn) (k0 := k0 + 1) hi hne ht' T (by
      rw [hci, onL_w, hst]
      rw [onL_turn, ht, Nat.mod_add_mod] at ht'
      rw [ht, Nat.mod_add_mod]
      split
      · push_cast
        rw [Int.mul_add, ← hc]
        omega
      · rw [← show (s1.c[i]?).getD 0 + 0 + T = (s1.c[i]?).getD 0 + T from by omega] at hc
        simpa using hc)
    rw [onL_w] at this
    rw [show k0 + (k1 + 1) = k0 + 1 + k1 from by omega]
    exact this
  | @pop s1 s2 l1 k1 j js hq hj h ih =>
    have hjt := (hw.jb _ _ hq j (by simp)).2.2
    have htn := hw.tn
    by_cases he : i = s1.turn
    · have := ih (popL_wf hw hq hj) (k0 := k0) hi hne ht (T + j.c) (by
        simp only [popL]
        rw [getD_set (by rw [hw.lc]; exact htn), if_pos he, ← hc, he]
        omega)
      have e : totalL (ofL (j :: l1) (i : Int)) = j.c + totalL (ofL l1 (i : Int)) := by
        simp only [ofL]
        rw [List.filter_cons_of_pos (by rw [hjt, he]; simp)]
        simp [totalL]
      rw [e, show T + (j.c + totalL (ofL l1 (i : Int))) = T + j.c + totalL (ofL l1 (i : Int)) from by omega]
      exact this
    · have := ih (popL_wf hw hq hj) (k0 := k0) hi hne ht T (by
        simp only [popL]
        rw [getD_set (by rw [hw.lc]; exact htn), if_neg he]
        exact hc)
      have e : totalL (ofL (j :: l1) (i : Int)) = totalL (ofL l1 (i : Int)) := by
        simp only [ofL]
        rw [List.filter_cons_of_neg]
        rw [hjt]
        simp
        omega
      rw [e]
      exact this
end Go.Pu
/- Schedules: what the statements ask, plain Lean. -/
set_option linter.unusedVariables false
namespace Go.Pu

theorem totalL_b {l : List JobL} {c : Int} (h : ∀ j ∈ l, 0 ≤ j.c ∧ j.c ≤ c) : 0 ≤ totalL l ∧ totalL l ≤ c * l.length := by
  induction l with
  | nil => simp [totalL]
  | cons j l ih =>
    have h1 := h j (by simp)
    have h2 := ih fun j' hj' => h j' (by simp [hj'])
    have e : totalL (j :: l) = j.c + totalL l := by simp [totalL]
    rw [e, List.length_cons]
    push_cast
    rw [Int.mul_add]
    omega
theorem totQ_b {q : List (List JobL)} {c : Int} (h : ∀ l ∈ q, ∀ j ∈ l, 0 ≤ j.c ∧ j.c ≤ c) : 0 ≤ totQ q ∧ totQ q ≤ c * waitL q := by
  induction q with
  | nil => simp [totQ, waitL]
  | cons l q ih =>
    have h1 := totalL_b (h l (by simp))
    have h2 := ih fun l' hl' => h l' (by simp [hl'])
    have e : totQ (l :: q) = totalL l + totQ q := by simp [totQ]
    have e2 : waitL (l :: q) = l.length + waitL q := by simp [waitL]
    rw [e, e2]
    push_cast
    rw [Int.mul_add]
    omega
theorem totQ_ge {q : List (List JobL)} {i : Nat} {l : List JobL} {j : JobL} (h : ∀ l ∈ q, ∀ j ∈ l, 0 ≤ j.c) (hl : q[i]? = some l) (hj : j ∈ l) : j.c ≤ totQ q := by
  induction q generalizing i with
  | nil => simp at hl
  | cons x q ih =>
    have e : totQ (x :: q) = totalL x + totQ q := by simp [totQ]
    have hx : ∀ l : List JobL, (∀ j ∈ l, 0 ≤ j.c) → 0 ≤ totalL l ∧ ∀ j ∈ l, j.c ≤ totalL l := by
      intro l
      induction l with
      | nil => intro _; simp [totalL]
      | cons z l ih2 =>
        intro h3
        have h4 := ih2 fun j hj => h3 j (by simp [hj])
        have h5 := h3 z (by simp)
        have e2 : totalL (z :: l) = z.c + totalL l := by simp [totalL]
        rw [e2]
        refine ⟨by omega, fun j hj => ?_⟩
        rcases List.mem_cons.1 hj with rfl | hj
        · omega
        · have := h4.2 j hj; omega
    have hq : 0 ≤ totQ q := by
      have : ∀ q : List (List JobL), (∀ l ∈ q, ∀ j ∈ l, 0 ≤ j.c) → 0 ≤ totQ q := by
        intro q
        induction q with
        | nil => intro _; simp [totQ]
        | cons z q ih2 =>
          intro h3
          have h4 := ih2 fun l hl => h3 l (by simp [hl])
          have h5 := (hx z (h3 z (by simp))).1
          have e2 : totQ (z :: q) = totalL z + totQ q := by simp [totQ]
          omega
      exact this q fun l hl => h l (by simp [hl])
    rw [e]
    cases i with
    | zero =>
      simp at hl
      subst hl
      have := (hx x (h x (by simp))).2 j hj
      omega
    | succ i =>
      have := ih (i := i) (fun l hl => h l (by simp [hl])) (by simpa using hl)
      have := (hx x (h x (by simp))).1
      omega
theorem WF.pos {s : SchL} (h : WF s) : ∀ l ∈ s.q, ∀ j ∈ l, 0 ≤ j.c := fun l hl j hj => by
  obtain ⟨i, hi⟩ := List.mem_iff_getElem?.1 hl
  have := (h.jb i l hi j hj).1
  omega
/-- With a budget for all, all is run. -/
theorem all_run {s s' : SchL} {l : List JobL} {k : Nat} {b : Int} (hw : WF s) (hg : Goes s l s' k) (he : EndAt s' (b - totalL l)) (hb : totQ s.q ≤ b) : waitL s'.q = 0 := by
  rcases he with he | ⟨j, js, hq, _, hc⟩
  · exact he
  · have h1 := hg.wait.2
    have h2 := totQ_ge (hg.wf hw).pos hq (show j ∈ j :: js by simp)
    omega
theorem budget_plain {s s' s2 : SchL} {l all : List JobL} {k k2 : Nat} {b : Int} (hw : WF s) (hg : Goes s l s' k) (he : EndAt s' (b - totalL l)) (hg2 : Goes s all s2 k2) (h2 : waitL s2.q = 0) :
    (l.length = all.length ∧ waitL s'.q = 0) ∨ (l.length < all.length ∧ waitL s'.q ≠ 0 ∧ ∃ j, all[l.length]? = some j ∧ j.c > b - totalL l) := by
  rcases hg.det hg2 with ⟨r, i, h3, h4⟩ | ⟨r, i, h3, h4⟩
  · cases r with
    | nil =>
      refine .inl ⟨by rw [h4]; simp, ?_⟩
      have := h3.empty
      rw [← this]; exact h2
    | cons j r =>
      have hwt := h3.wait.1
      simp only [List.length_cons] at hwt
      refine .inr ⟨by rw [h4]; simp, by omega, j, by rw [h4]; simp, ?_⟩
      rcases he with he | ⟨j', js, hq, hj, hc⟩
      · omega
      · rw [h3.next hq hj]; exact hc
  · obtain ⟨h5, h6, _⟩ := h3.idle h2
    subst h5
    exact .inl ⟨by rw [h4]; simp, by rw [h6]; exact h2⟩
theorem order_plain {s a s2 : SchL} {got all : List JobL} {k k2 : Nat} (hg : Goes s got a k) (hg2 : Goes s all s2 k2) (h2 : waitL s2.q = 0) : got.length ≤ all.length ∧ got = all.take got.length := by
  rcases hg.det hg2 with ⟨r, i, h3, h4⟩ | ⟨r, i, h3, h4⟩
  · rw [h4]; simp
  · obtain ⟨h5, h6, _⟩ := h3.idle h2
    subst h5
    rw [h4]; simp
theorem fair_plain {s a : SchL} {got : List JobL} {k : Nat} (hw : WF s) (hf : FW s) (hg : Goes s got a k) (h0 : s.turn = 0) (hc : ∀ i, i < s.w.length → (s.c[i]?).getD 0 = if i = 0 then (s.w[i]?).getD 0 else 0)
    {i j : Nat} (hi : i < s.w.length) (hj : j < s.w.length) (hni : a.q[i]? ≠ some []) (hnj : a.q[j]? ≠ some []) :
    totalL (ofL got i) * (s.w[j]?).getD 0 - totalL (ofL got j) * (s.w[i]?).getD 0 ≤ 3 * (s.w[i]?).getD 0 * (s.w[j]?).getD 0 + 80 * ((s.w[i]?).getD 0 + (s.w[j]?).getD 0) := by
  have hn := hw.n1
  have start : ∀ i, i < s.w.length → (s.c[i]?).getD 0 + 0 = (s.w[i]?).getD 0 * turnsL s.w.length 0 i := by
    intro i hi
    rw [hc i hi]
    unfold turnsL
    by_cases h : i = 0
    · subst h
      rw [if_pos rfl, Nat.zero_add, Nat.sub_zero, Nat.div_self (by omega)]
      simp
    · rw [if_neg h, Nat.div_eq_of_lt (by omega)]
      simp
  obtain ⟨s1, t1⟩ := hg.share hw (k0 := 0) hi hni (by rw [h0]; simp) 0 (start i hi)
  obtain ⟨s2, _⟩ := hg.share hw (k0 := 0) hj hnj (by rw [h0]; simp) 0 (start j hj)
  have hv := turns_fair (n := s.w.length) (k := 0 + k) (i := i) (j := j) (by omega) hi hj
  have hfa := (hg.fw hw hf).cr j (by rw [hg.lens.1]; exact hj)
  have hwa := hg.wf hw
  have hlens := hg.lens.1
  obtain ⟨ci, hci⟩ : ∃ x, a.c[i]? = some x := ⟨_, List.getElem?_eq_getElem (by rw [hwa.lc, hlens]; exact hi)⟩
  have hci0 := (hwa.cs _ _ hci).1
  obtain ⟨wi, hwi⟩ : ∃ x, s.w[i]? = some x := ⟨_, List.getElem?_eq_getElem hi⟩
  obtain ⟨wj, hwj⟩ : ∃ x, s.w[j]? = some x := ⟨_, List.getElem?_eq_getElem hj⟩
  have b1 := hw.ws _ _ hwi
  have b2 := hw.ws _ _ hwj
  rw [hlens, hwj] at hfa
  rw [hci, hwi] at s1
  rw [hwj] at s2
  rw [hwi, hwj]
  simp only [Option.getD_some, Int.zero_add] at s1 s2 hfa ⊢
  have hcj : (a.c[j]?).getD 0 ≤ 79 + wj := by
    split at hfa <;> omega
  generalize (a.c[j]?).getD 0 = cj at hcj s2
  generalize totalL (ofL got i) = Ti at *
  generalize totalL (ofL got j) = Tj at *
  generalize turnsL s.w.length (0 + k) i = vi at *
  generalize turnsL s.w.length (0 + k) j = vj at *
  have e1 : Ti = wi * vi - ci := by omega
  have e2 : Tj = wj * vj - cj := by omega
  rw [e1, e2]
  have h3 : (vi : Int) ≤ vj + 1 := by omega
  have h4 : wi * wj * vi ≤ wi * wj * (vj + 1) := Int.mul_le_mul_of_nonneg_left h3 (Int.mul_nonneg (by omega) (by omega))
  have h5 : ci * wj ≥ 0 := Int.mul_nonneg hci0 (by omega)
  have h6 : cj * wi ≤ (79 + wj) * wi := Int.mul_le_mul_of_nonneg_right hcj (by omega)
  have x1 : (wi * (vi : Int) - ci) * wj = wi * wj * vi - ci * wj := by rw [Int.sub_mul, Int.mul_right_comm]
  have x2 : (wj * (vj : Int) - cj) * wi = wi * wj * vj - cj * wi := by rw [Int.sub_mul, Int.mul_right_comm, Int.mul_comm wj wi]
  have x3 : wi * wj * ((vj : Int) + 1) = wi * wj * vj + wi * wj := by rw [Int.mul_add, Int.mul_one]
  have x4 : (79 + wj) * wi = 79 * wi + wi * wj := by rw [Int.add_mul, Int.mul_comm wj wi]
  have x5 : 3 * wi * wj = 3 * (wi * wj) := Int.mul_assoc _ _ _
  have x6 : 0 ≤ wi * wj := Int.mul_nonneg (by omega) (by omega)
  rw [x1, x2, x5]
  rw [x3] at h4
  rw [x4] at h6
  omega
theorem Goes.all {p : JobL → Prop} {s s' : SchL} {l : List JobL} {k : Nat} (h : Goes s l s' k) : (∀ q ∈ s.q, ∀ j ∈ q, p j) → (∀ j ∈ l, p j) ∧ ∀ q ∈ s'.q, ∀ j ∈ q, p j := by
  induction h with
  | nil s => exact fun h => ⟨by simp, h⟩
  | turn _ _ _ ih => exact ih
  | @pop s1 s2 l1 k1 j js hq hj h ih =>
    intro hp
    have hjs := hp _ (List.mem_of_getElem? hq)
    obtain ⟨h1, h2⟩ := ih (by
      intro q hq' j' hj'
      rcases List.mem_or_eq_of_mem_set hq' with hq' | rfl
      · exact hp q hq' j' hj'
      · exact hjs j' (by simp [hj']))
    refine ⟨fun j' hj' => ?_, h2⟩
    rcases List.mem_cons.1 hj' with rfl | hj'
    · exact hjs _ (by simp)
    · exact h1 j' hj'
theorem totQ_take {q : List (List JobL)} {i : Nat} {x : List JobL} (h : q[i]? = some x) : totQ (q.take (i + 1)) = totQ (q.take i) + totalL x := by
  unfold totQ
  rw [List.take_add_one, h]
  simp
end Go.Pu
