/- The value machine: its operations are the model's (6): append, copy, make. -/
import Derived.Test.YtgkocobnccdocaaGreatVA
import Derived.Laws.Append
import Derived.Lib.AppendZeros
import Derived.MapKept
import Derived.OrdersIn
import Derived.RangeFuncLeaves
set_option linter.unusedVariables false
set_option linter.unusedSimpArgs false
namespace Go.V
section
variable {P : Program} {Γ : Ctx} {o : Oper} {a : Act} {F : Nat → Prop} {μ : Bid → Option Nat} {hf : HF} {w : World} {r : Res} {tf : TF} {lvl site : Nat}
theorem xCb {zv : Value} {z : List PV} (hzl : zv.cells.size = z.length) (hzr : ∀ (F : Nat → Prop) (w : World) (j : Nat) (p : PV), z[j]? = some p → ∃ x, zv.cells[j]? = some x ∧ CRel F w p x) (n j : Nat) (x : Value) (h : (Builtin.zeroCells zv.cells n)[j]? = some x) : ∃ p, closed p = true ∧ ∀ (F : Nat → Prop) (w : World), CRel F w p x := by
  unfold Builtin.zeroCells at h
  rw [Array.getElem?_map] at h
  have hj : j < n * zv.cells.size := by
    rcases Nat.lt_or_ge j (n * zv.cells.size) with h1 | h1
    · exact h1
    · rw [Array.getElem?_eq_none (by simpa using h1)] at h; simp at h
  rw [Array.getElem?_eq_getElem (by simpa using hj)] at h
  have h0 : 0 < zv.cells.size := by
    rcases Nat.eq_zero_or_pos zv.cells.size with h1 | h1
    · rw [h1] at hj; simp at hj
    · exact h1
  have hm : j % zv.cells.size < zv.cells.size := Nat.mod_lt _ h0
  simp only [Array.getElem_range, Option.map_some, Option.some.injEq] at h
  obtain ⟨p, hp⟩ : ∃ p, z[j % zv.cells.size]? = some p := ⟨_, List.getElem?_eq_getElem (by omega)⟩
  rw [getElem!_pos zv.cells _ hm] at h
  have hC : ∀ (F : Nat → Prop) (w : World), CRel F w p x := fun F w => by
    obtain ⟨y, hy, hC⟩ := hzr F w _ p hp
    rw [Array.getElem?_eq_getElem hm] at hy
    cases hy
    rw [← h]
    exact hC
  exact ⟨p, (hC (fun _ => False) default).closed, hC⟩
theorem xKg {t : TypeId} {n m : Nat} {z : List PV} (hn : xA5 P t = some n) (hm : xFK P t = some m) (hz : xDh P t = some z) : ∃ i zv, P.info? t = some i ∧ i.size = n ∧ i.bytes = m ∧ i.zero = some zv ∧ zv.cells.size = z.length ∧ ∀ (F : Nat → Prop) (w : World) (j : Nat) (p : PV), z[j]? = some p → ∃ x, zv.cells[j]? = some x ∧ CRel F w p x := by
  obtain ⟨i, hi, rfl⟩ := map_some hn
  obtain ⟨i', hi', rfl⟩ := map_some hm
  rw [hi] at hi'
  cases hi'
  obtain ⟨zv, hzz, h⟩ := bind_some hz
  obtain ⟨i', hi', hzz⟩ := bind_some hzz
  rw [hi] at hi'
  cases hi'
  refine ⟨i, zv, hi, rfl, rfl, hzz, ?_, fun F w j p hp => ?_⟩
  · exact (xDR (F := fun _ => False) (w := default) h).1.symm
  · obtain ⟨h1, h2⟩ := xDR (F := F) (w := w) h
    have hlt : j < z.length := (List.getElem?_eq_some_iff.1 hp).1
    have hs : zv.cells.toList.length = z.length := h1.symm
    have hx : zv.cells.toList[j]? = some (zv.cells.toList[j]'(by omega)) := List.getElem?_eq_getElem (by omega)
    exact ⟨_, by rw [← Array.getElem?_toList]; exact hx, h2 j p _ hp hx⟩
theorem xCS {t u e ty : TypeId} {d : TypeDesc} {esz : Nat} {base : Option Addr} {sLen sCap n : Nat} {xv : Value} {xs : Array Value} {w1 : World} (ht : P.underlying t = some (.slice e)) (hu : P.underlying u = some d) (hd : d = .string ∨ ∃ q, d = .slice q) (hn : xA5 P e = some esz)
    (hlen : Builtin.lenOf xv = Sem.pure n) (hfc : (Builtin.firstCells esz n xv).run P w = .ok xs w) (hroom : sLen + n ≤ sCap)
    (hst : match base with | none => w1 = w | some a => (storeCells (a.add (sLen * esz)) xs.toList).run P w = .ok () w1) :
    (Builtin.append_ #[t, u] ty #[.slice base sLen sCap, xv]).run P w = .ok (.slice base (sLen + n) sCap) w1 := by
  rcases hd with rfl | ⟨q, rfl⟩
  all_goals
    cases base with
    | none =>
      subst hst
      simp [Builtin.append_, run_underlying ht, run_underlying hu, xAU hn, hlen, hfc, hroom]
    | some ad =>
      simp [Builtin.append_, run_underlying ht, run_underlying hu, xAU hn, hlen, hfc, hroom, hst]
theorem xCx {t u e ty : TypeId} {d : TypeDesc} {i : TypeInfo} {zv : Value} {base : Option Addr} {sLen sCap n : Nat} {xv : Value} {xs olds : Array Value} (ht : P.underlying t = some (.slice e)) (hu : P.underlying u = some d) (hd : d = .string ∨ ∃ q, d = .slice q) (hi : P.info? e = some i) (hz : i.zero = some zv)
    (hlen : Builtin.lenOf xv = Sem.pure n) (hfc : (Builtin.firstCells i.size n xv).run P w.drew = .ok xs w.drew) (hold : (Builtin.firstCells i.size sLen (.slice base sLen sCap)).run P w.drew = .ok olds w.drew) (hroom : sCap < sLen + n) (hb : 0 < i.bytes) (hsz : (sLen + n) * i.bytes ≤ 140737488355328) :
    (Builtin.append_ #[t, u] ty #[.slice base sLen sCap, xv]).run P w = .ok (.slice (some ⟨w.heap.size, 0, none⟩) (sLen + n) (grownCap w (sLen + n) sCap e))
      (w.drew.alloc (.cells (olds ++ xs ++ Builtin.zeroCells zv.cells (grownCap w (sLen + n) sCap e - (sLen + n))) e)) := by
  have h1 : ¬ (sLen + n ≤ sCap) := by omega
  have hle : sLen + n ≤ (sLen + n) * i.bytes := Nat.le_mul_of_pos_right _ hb
  have h63' : ¬ (9223372036854775807 < ((sLen : Int) + (n : Int))) := by omega
  have hfit := growslice_fits hroom hsz
  have h48' : ¬ (281474976710656 < Builtin.nextslicecap (sLen + n) sCap * i.bytes) := by omega
  clear hle hsz hfit
  rcases hd with rfl | ⟨q, rfl⟩
  all_goals
    simp [Builtin.append_, run_underlying ht, run_underlying hu, sizeOf, typeInfo, zeroValue, hi, hz, hlen, h1, h63', h48', Question.forced, hfc, hold, newRow, grownCap]
theorem xCg (w : World) (need old : Nat) (e : TypeId) : need ≤ grownCap w need old e := by
  simp [grownCap, Question.cut]
theorem xBI (o : Obj) : (w.drew.alloc o).heap[w.heap.size]? = some o := by
  show (w.heap.push _)[w.heap.size]? = _
  simp
theorem xIG (A B : List (List PV)) (k : Nat) (hk : k ≤ A.length) : (A.take k ++ B ++ A.drop (k + B.length)).length = max (k + B.length) A.length := by
  simp; omega
theorem xGy {esz : Nat} {els ys : List (List PV)} {c xs : Array Value} (hE : ElsR F μ hf w esz els c) (k n : Nat) (hn : ys.length = n) (hk : k ≤ els.length) (hys : ∀ e ∈ ys, e.length = esz) (hsz : xs.size = n * esz)
    (hxs : ∀ (i j : Nat) (el : List PV) (q : PV), i < n → ys[i]? = some el → el[j]? = some q → ∃ x, xs[i * esz + j]? = some x ∧ SRel F μ hf w q x) (hfit : k * esz + n * esz ≤ c.size) :
    ElsR F μ hf w esz (els.take k ++ ys ++ els.drop (k + n)) (c.toList.take (k * esz) ++ xs.toList ++ c.toList.drop (k * esz + xs.toList.length)).toArray := by
  have hxl : xs.toList.length = n * esz := by simpa using hsz
  have hsl : k * esz + xs.toList.length ≤ c.size := by rw [hxl]; exact hfit
  refine ⟨?_, fun e he => ?_, fun i j el p h1 h2 => ?_⟩
  · rw [xCE c _ _ hsl]
    have : (els.take k ++ ys ++ els.drop (k + n)).length = max (k + n) els.length := by rw [← hn]; exact xIG els ys k hk
    rw [this]
    have h3 : els.length * esz ≤ c.size := hE.1
    rcases Nat.le_total (k + n) els.length with h | h
    · rw [Nat.max_eq_right h]; exact h3
    · rw [Nat.max_eq_left h, Nat.add_mul]; exact hfit
  · simp only [List.mem_append] at he
    rcases he with (he | he) | he
    · exact hE.2.1 e (List.mem_of_mem_take he)
    · exact hys e he
    · exact hE.2.1 e (List.mem_of_mem_drop he)
  · rw [xG1 c _ _ hsl, hxl]
    have hj : j < esz := by
      have h3 := (List.getElem?_eq_some_iff.1 h2).1
      have h4 := List.mem_of_getElem? h1
      simp only [List.mem_append] at h4
      have : el.length = esz := by
        rcases h4 with (h4 | h4) | h4
        · exact hE.2.1 el (List.mem_of_mem_take h4)
        · exact hys el h4
        · exact hE.2.1 el (List.mem_of_mem_drop h4)
      omega
    have hlt : (els.take k).length = k := by simp; omega
    by_cases a : i < k
    · rw [List.append_assoc, List.getElem?_append_left (by omega), List.getElem?_take, if_pos a] at h1
      have := xDy i j k esz a hj
      rw [if_neg (by omega)]
      exact hE.2.2 i j el p h1 h2
    · by_cases b : i < k + n
      · rw [List.getElem?_append_left (by simp; omega), List.getElem?_append_right (by omega), hlt] at h1
        have e1 : k * esz ≤ i * esz := Nat.mul_le_mul_right _ (by omega)
        have e2 := xDy i j (k + n) esz b hj
        rw [Nat.add_mul] at e2
        rw [if_pos (by omega)]
        obtain ⟨x, hx, hs⟩ := hxs (i - k) j el p (by omega) h1 h2
        refine ⟨x, ?_, hs⟩
        have : i * esz + j - k * esz = (i - k) * esz + j := by rw [Nat.sub_mul]; omega
        rw [this]
        simpa using hx
      · have hlen2 : (els.take k ++ ys).length = k + n := by simp; omega
        rw [List.getElem?_append_right (by omega), List.getElem?_drop, hlen2] at h1
        have e1 : (k + n) * esz ≤ i * esz := Nat.mul_le_mul_right _ (by omega)
        rw [Nat.add_mul] at e1
        rw [if_neg (by omega)]
        have : k + n + (i - (k + n)) = i := by omega
        rw [this] at h1
        exact hE.2.2 i j el p h1 h2
theorem xCR {b : Bid} {B : Blk} : updH hf b B b = some B := by simp [updH]
theorem xHm {b : Bid} {k : Option Nat} (h : μ b = k) : updM μ b k = μ := by
  funext b'
  unfold updM
  split
  · rename_i e; rw [e, h]
  · rfl
theorem xEa {b : Bid} {B : Blk} (h : hf b = some B) : updH hf b B = hf := by
  funext b'
  unfold updH
  split
  · rename_i e; rw [e, h]
  · rfl
theorem xOb (hI : Inv Γ F μ hf w) (hT : TRel F μ hf w tf a) {cl : Call} {x y : Operand} {t u e : TypeId} {d : TypeDesc} {vx vy : VX} {esz bytes : Nat} {z : List PV} (ho : o.op = .call cl) (hc : cl.callee = .builtin .append) (hargs : cl.args = #[x, y]) (htys : cl.argTypes = #[t, u])
    (ht : P.underlying t = some (.slice e)) (hu : P.underlying u = some d) (hd : d = .string ∨ ∃ q, d = .slice q) (hn : xA5 P e = some esz) (hby : xFK P e = some bytes) (hz : xDh P e = some z) (hx : cx x = some vx) (hy : cx y = some vy)
    (hr : vop lvl site tf hf (.append esz bytes z vx vy) = some r) : Sim P Γ o a F μ hf w r := by
  obtain ⟨p, hp, hr0⟩ := bind_some hr
  clear hr
  obtain ⟨q, hq, hr00⟩ := bind_some hr0
  clear hr0
  obtain ⟨⟨rd, ys⟩, hct, hr1⟩ := bind_some hr00
  clear hr00
  have hv := xAO hI hT hx hp
  have hvy := xAO hI hT hy hq
  obtain ⟨i, zv, hi, hisz, hiby, hiz, hzl, hzr⟩ := xKg hn hby hz
  have hexec : ∀ v w1, (Builtin.append_ #[t, u] o.type #[a.eval x, a.eval y]).run P w = .ok v w1 → (execOp a.eval o).run P w = .ok (.value v) w1 := by
    intro v w1 h
    simp [execOp, ho, hc, resolve, hargs, htys, invoke, builtin, h]
  simp only at hr1
  split at hr1
  · rename_i hcond
    obtain ⟨c1, c2, c3, c4⟩ := hcond
    have hcl : ∀ e ∈ ys, ∀ c ∈ e, closed c = true := fun e he => (c1 e he).2
    have hyl : ∀ e ∈ ys, e.length = esz := fun e he => (c1 e he).1
    obtain ⟨hlenx, hfcx⟩ := xDP (P := P) hI hvy hct hyl c3 hcl
    obtain ⟨xs, hxr, hxsz, hxrel⟩ := hfcx ys.length (Nat.le_refl _)
    have hxrel' : ∀ (i j : Nat) (el : List PV) (q : PV), i < ys.length → ys[i]? = some el → el[j]? = some q → ∃ x, xs[i * esz + j]? = some x ∧ SRel F μ hf w q x := fun i j el q h0 h1 h2 => by
      obtain ⟨x, h3, h4⟩ := hxrel i j el q h0 h1 h2
      exact ⟨x, h3, (SRel.of_closed h4.closed).2 h4⟩
    have grown : ∀ (b : Bid) (B' : Blk) (base : Option Addr) (sLen sCap : Nat) (olds : Array Value) (oels : List (List PV)), a.eval x = .slice base sLen sCap → hf b = none → B' = ⟨false, false, esz, oels ++ ys⟩ → oels.length = sLen →
        (∀ e ∈ oels, e.length = esz ∧ ∀ c ∈ e, closed c = true) → (Builtin.firstCells esz sLen (.slice base sLen sCap)).run P w.drew = .ok olds w.drew → olds.size = sLen * esz →
        (∀ (i j : Nat) (el : List PV) (q : PV), oels[i]? = some el → el[j]? = some q → ∃ x, olds[i * esz + j]? = some x ∧ CRel F w q x) → sCap < sLen + ys.length → (sLen + ys.length) * bytes ≤ xBB → r = ⟨.own b (sLen + ys.length) 0 (sLen + ys.length), [(b, B')], r.rd⟩ → Sim P Γ o a F μ hf w r := by
      intro b B' base sLen sCap olds oels he hb hB' hol hoel hold hosz horel hroom hsize hrr
      subst hB'
      have hrun := xCx (P := P) (w := w) (ty := o.type) ht hu hd hi hiz hlenx (by rw [hisz]; exact hxr w.drew rfl) (by rw [hisz]; exact hold) hroom (by rw [hiby]; exact c4) (by rw [hiby]; unfold xBB at hsize; omega)
      have hge := xCg w (sLen + ys.length) sCap e
      generalize grownCap w (sLen + ys.length) sCap e = cap at hrun hge
      have hzc : (Builtin.zeroCells zv.cells (cap - (sLen + ys.length))).size = (cap - (sLen + ys.length)) * esz := by simp [Builtin.zeroCells, hzl, c2]
      have hrow : (olds ++ xs ++ Builtin.zeroCells zv.cells (cap - (sLen + ys.length))).size = cap * esz := by
        simp only [Array.size_append, hosz, hxsz, hzc, ← Nat.add_mul]
        congr 1
        omega
      obtain ⟨hI', hK⟩ := hI.alloc (w1 := w.drew) b hb ⟨false, false, esz, oels ++ ys⟩ _ e rfl rfl rfl rfl rfl c3 (fun e he => by
          rcases List.mem_append.1 he with h | h
          · exact (hoel e h).1
          · exact hyl e h) (fun _ e he => by
          rcases List.mem_append.1 he with h | h
          · exact (hoel e h).2
          · exact hcl e h) (by simp) (by rw [hrow]; exact Nat.mul_le_mul_right _ (by simp; omega)) (fun i j el q h1 h2 => by
          show ∃ x, (olds ++ xs ++ Builtin.zeroCells zv.cells (cap - (sLen + ys.length)))[i * esz + j]? = some x ∧ SRel F μ hf w q x
          have hj : j < esz := by
            have h3 := (List.getElem?_eq_some_iff.1 h2).1
            have : el.length = esz := by
              rcases List.mem_append.1 (List.mem_of_getElem? h1) with h | h
              · exact (hoel el h).1
              · exact hyl el h
            omega
          by_cases hilt : i < sLen
          · rw [List.getElem?_append_left (by omega)] at h1
            obtain ⟨x, hx, hs⟩ := horel i j el q h1 h2
            have := xDy i j sLen esz hilt hj
            refine ⟨x, ?_, (SRel.of_closed hs.closed).2 hs⟩
            rw [Array.append_assoc, Array.getElem?_append_left (by omega)]
            exact hx
          · rw [List.getElem?_append_right (by omega), hol] at h1
            have hlt2 : i - sLen < ys.length := (List.getElem?_eq_some_iff.1 h1).1
            obtain ⟨x, hx, hs⟩ := hxrel' (i - sLen) j el q hlt2 h1 h2
            have e1 : sLen * esz ≤ i * esz := Nat.mul_le_mul_right _ (by omega)
            have e2 := xDy (i - sLen) j ys.length esz hlt2 hj
            have e3 : i * esz + j = sLen * esz + ((i - sLen) * esz + j) := by rw [Nat.sub_mul]; omega
            refine ⟨x, ?_, hs⟩
            rw [Array.getElem?_append_left (by simp only [Array.size_append, hosz, hxsz]; omega), Array.getElem?_append_right (by omega), hosz, e3, Nat.add_sub_cancel_left]
            exact hx) (fun _ j x hj hx => by
          have hj' : (olds ++ xs).size ≤ j := by
            have : (oels ++ ys).length * esz ≤ j := hj
            rw [List.length_append, hol, Nat.add_mul] at this
            simp only [Array.size_append, hosz, hxsz]
            exact this
          rw [Array.getElem?_append_right hj'] at hx
          exact xCb hzl hzr _ _ x hx)
      rw [hrr]
      refine ⟨_, _, F, _, .inl (hexec _ _ (by rw [he]; exact hrun)), hI', hK, ?_⟩
      refine xEh (w := w) rfl (by simp [hol]) hge ?_
      show cap * esz = _
      unfold xA6
      rw [xBI]
      simp only [hrow]
    cases p <;> (try (cases hr1; done))
    case nils =>
      have hr2 : (if hf ⟨lvl, site⟩ = none ∧ ys.length * bytes ≤ xBB then some (⟨.own ⟨lvl, site⟩ ys.length 0 ys.length, [(⟨lvl, site⟩, ⟨false, false, esz, ys⟩)], rd⟩ : Res) else none) = some r := hr1
      clear hr1
      have he := xCD hv
      split at hr2
      · rename_i hcc
        obtain ⟨d1, d2⟩ := hcc
        by_cases hy0 : ys = []
        · subst hy0
          cases hr2
          have hxs0 : xs = #[] := by simpa using hxsz
          have hrun := xCS (P := P) (w := w) (w1 := w) (ty := o.type) (base := none) (sLen := 0) (sCap := 0) ht hu hd hn hlenx (hxr w rfl) (by simp) rfl
          obtain ⟨hI', hK⟩ := hI.upd (w' := w) ⟨lvl, site⟩ ⟨false, false, esz, []⟩ none F rfl rfl rfl (Nat.le_refl _) (fun _ _ _ => rfl) (by simp) (.inr (.inl rfl)) (fun B hB => by rw [d1] at hB; cases hB) (fun B hB => by rw [d1] at hB; cases hB)
            (fun _ => xKs ⟨c3, by simp, by simp, by simp, by simp [updM]⟩ (fun _ k c e fz hk => by simp [updM] at hk) (fun _ _ k c e fz hk => by simp [updM] at hk))
          refine ⟨_, w, F, _, .inl (hexec _ _ (by rw [he]; exact hrun)), hI', hK, ?_⟩
          exact ⟨none, 0, rfl, by simp, _, xCR, rfl, by simp, fun _ => ⟨by simp, by simp [updM]⟩⟩
        · cases hr2
          have hpos : 0 < ys.length := List.length_pos_iff.2 hy0
          refine grown ⟨lvl, site⟩ ⟨false, false, esz, [] ++ ys⟩ none 0 0 #[] [] he d1 rfl rfl (by simp) (by simp [Builtin.firstCells]) (by simp) (by simp) (by omega) (by simpa using d2) ?_
          simp
      · cases hr2
    case sh ex l =>
      cases ex with
      | false => cases hr1
      | true =>
        cases hys : ys with
        | nil =>
          subst hys
          have hr2 : some (⟨.sh true l, [], rd⟩ : Res) = some r := hr1
          clear hr1
          cases hr2
          have hxs0 : xs = #[] := by simpa using hxsz
          subst hxs0
          generalize hav : a.eval x = av at hv
          have hC := xD0 hv
          have fin : ∀ base sLen sCap, av = .slice base sLen sCap → sLen ≤ sCap → (execOp a.eval o).run P w = .ok (.value (.slice base sLen sCap)) w := by
            intro base sLen sCap hav' hle
            refine hexec _ _ ?_
            rw [hav, hav']
            have := xCS (P := P) (w := w) (w1 := w) (ty := o.type) (base := base) (sLen := sLen) (sCap := sCap) ht hu hd hn hlenx (hxr w rfl) (by simpa using hle) (by cases base <;> simp [storeCells])
            simpa using this
          cases hC with
          | shn => exact Sim.pure hI (fin _ _ _ rfl (Nat.le_refl _)) rfl (CRel.shn _)
          | sh0 _ ad cap hex => exact Sim.pure hI (fin _ _ _ rfl (by omega)) rfl (CRel.sh0 _ _ _ hex)
          | sh _ _ k off cap esz' g hF hcap hex hesz hlen hcc hrr => exact Sim.pure hI (fin _ _ _ rfl hcap) rfl (CRel.sh _ _ k off cap esz' g hF hcap hex hesz hlen hcc hrr)
        | cons y0 ys0 =>
          have hr2 : (if hf ⟨lvl, site⟩ = none ∧ (l.length + ys.length) * bytes ≤ xBB ∧ (∀ e ∈ l, e.length = esz) then some (⟨.own ⟨lvl, site⟩ (l.length + ys.length) 0 (l.length + ys.length), [(⟨lvl, site⟩, ⟨false, false, esz, l ++ ys⟩)], rd⟩ : Res) else none) = some r := by
            rw [hys] at hr1 ⊢
            exact hr1
          clear hr1
          split at hr2
          · rename_i hcc
            obtain ⟨d1, d2, d3⟩ := hcc
            have hpos : 0 < ys.length := by rw [hys]; simp
            cases hr2
            have hclo : ∀ e ∈ l, ∀ c ∈ e, closed c = true := by
              intro e1 he1 c1' hc1'
              generalize a.eval x = av at hv
              have hC := xD0 hv
              cases hC with
              | shn => simp at he1
              | sh0 => simp at he1
              | sh _ _ k off cap esz' g hF hcap hex hesz hlen hcc hrr =>
                obtain ⟨i1, hi1⟩ := List.mem_iff_getElem?.1 he1
                obtain ⟨j1, hj1⟩ := List.mem_iff_getElem?.1 hc1'
                exact (hrr i1 j1 e1 c1' hi1 hj1).closed
            obtain ⟨hl1, hl2⟩ := xDP (P := P) hI hv (by rfl : xAf hf (.sh true l) = some ([], l)) d3 c3 hclo
            obtain ⟨olds, ho1, ho2, ho3⟩ := hl2 l.length (Nat.le_refl _)
            have hshape : ∃ base cap, a.eval x = .slice base l.length cap ∧ cap = l.length := by
              generalize a.eval x = av at hv
              have hC := xD0 hv
              cases hC with
              | shn => exact ⟨_, _, rfl, rfl⟩
              | sh0 _ ad cap hex => exact ⟨_, _, rfl, by simpa using hex rfl⟩
              | sh _ _ k off cap esz' g hF hcap hex hesz hlen hcc hrr => exact ⟨_, _, rfl, hex rfl⟩
            obtain ⟨base, cap, he, hcap⟩ := hshape
            subst hcap
            refine grown ⟨lvl, site⟩ _ base l.length l.length olds l he d1 rfl rfl (fun e he => ⟨d3 e he, hclo e he⟩) (by rw [← he]; exact ho1 w.drew rfl) ho2 (fun i j el q h1 h2 => ho3 i j el q (List.getElem?_eq_some_iff.1 h1).1 h1 h2) (by omega) d2 rfl
          · cases hr2
    case own b hw off len =>
      obtain ⟨B, hb, hr2⟩ := bind_some hr1
      clear hr1
      split at hr2
      · rename_i hcc
        obtain ⟨d1, d2, d3, d4, d5, d6, d7⟩ := hcc
        obtain ⟨ad, cap, he, hsome, B0, hb0, hbox, hle, hcur⟩ := xBp hv
        rw [hb] at hb0
        cases hb0
        obtain ⟨g1, g2⟩ := hcur d1
        have hform : r = ⟨.own b (B.els.take (off + len) ++ ys ++ B.els.drop (off + len + ys.length)).length off (len + ys.length), [(b, { B with els := B.els.take (off + len) ++ ys ++ B.els.drop (off + len + ys.length) })], b :: rd⟩ := by
          split at hr2
          · rename_i hend
            obtain ⟨rfl, rfl⟩ := hend
            cases hr2
            have e1 : B.els.take (0 + len) = B.els := by rw [List.take_of_length_le (by omega)]
            have e2 : B.els.drop (0 + len + ys.length) = [] := by rw [List.drop_eq_nil_of_le (by omega)]
            have e3 : (B.els ++ ys).length = len + ys.length := by rw [List.length_append, d1]
            simp only [e1, e2, List.append_nil, e3]
          · cases hr2
            rw [xIG B.els ys (off + len) (by omega), d1]
        clear hr2
        generalize hB' : B.els.take (off + len) ++ ys ++ B.els.drop (off + len + ys.length) = els' at hform
        have hlen' : els'.length = max (off + len + ys.length) B.els.length := by rw [← hB']; exact xIG B.els ys (off + len) (by omega)
        have hold := hI.blk b B hb
        have hmem' : ∀ e ∈ els', e.length = B.esz ∧ ∀ c ∈ e, closed c = true := by
          intro e1 he1
          rw [← hB'] at he1
          simp only [List.mem_append] at he1
          rcases he1 with (h | h) | h
          · exact ⟨hold.2.1 e1 (List.mem_of_mem_take h), hold.2.2.1 (.inl d2) e1 (List.mem_of_mem_take h)⟩
          · exact ⟨by rw [d4]; exact hyl e1 h, hcl e1 h⟩
          · exact ⟨hold.2.1 e1 (List.mem_of_mem_drop h), hold.2.2.1 (.inl d2) e1 (List.mem_of_mem_drop h)⟩
        cases hm : μ b with
        | none =>
          rw [hm] at g2
          obtain ⟨rfl, rfl, rfl, rfl⟩ := g2
          have hnil : B.els = [] := by
            have := hold.2.2.2.2
            rw [hm] at this
            exact this.1
          by_cases hy0 : ys = []
          · have hels : els' = B.els := by rw [← hB', hy0, hnil]; simp
            subst hy0
            have hrun := xCS (P := P) (w := w) (w1 := w) (ty := o.type) (base := none) (sLen := 0) (sCap := 0) ht hu hd hn hlenx (hxr w rfl) (by simp) rfl
            rw [hform]
            simp only [hels]
            have hup : xAj hf [(b, ({ B with els := B.els } : Blk))] = hf := xEa hb
            refine ⟨_, w, F, μ, .inl (hexec _ _ (by rw [he]; exact hrun)), by rw [hup]; exact hI, by rw [hup]; exact Keeps.refl, ?_⟩
            rw [hup]
            refine ⟨none, 0, rfl, by simp, B, hb, hbox, by omega, fun _ => ⟨by simp, ?_⟩⟩
            rw [hm]
            simp
          · have hpos : 0 < ys.length := List.length_pos_iff.2 hy0
            have hels : els' = ys := by rw [← hB', hnil]; simp
            have hrun := xCx (P := P) (w := w) (ty := o.type) (base := none) (sLen := 0) (sCap := 0) (olds := #[]) ht hu hd hi hiz hlenx (by rw [hisz]; exact hxr w.drew rfl) (by simp [Builtin.firstCells]) (by omega) (by rw [hiby]; exact c4) (by rw [hiby]; unfold xBB at d7; omega)
            have hge := xCg w (0 + ys.length) 0 e
            generalize grownCap w (0 + ys.length) 0 e = cap at hrun hge
            have hzc : (Builtin.zeroCells zv.cells (cap - (0 + ys.length))).size = (cap - (0 + ys.length)) * esz := by simp [Builtin.zeroCells, hzl, c2]
            have hrow : (#[] ++ xs ++ Builtin.zeroCells zv.cells (cap - (0 + ys.length))).size = cap * esz := by
              simp only [Array.size_append, hxsz, hzc]
              simp only [List.size_toArray, List.length_nil, Nat.zero_add, ← Nat.add_mul]
              congr 1
              omega
            have hkk : (w.drew.alloc (.cells (#[] ++ xs ++ Builtin.zeroCells zv.cells (cap - (0 + ys.length))) e)).heap[w.heap.size]? = some (.cells (#[] ++ xs ++ Builtin.zeroCells zv.cells (cap - (0 + ys.length))) e (0, 0)) := xBI _
            obtain ⟨hI', hK⟩ := hI.upd (w' := w.drew.alloc (.cells (#[] ++ xs ++ Builtin.zeroCells zv.cells (cap - (0 + ys.length))) e)) b { B with els := els' } (some w.heap.size) F rfl rfl rfl (by simp) (fun k hk _ => by
                rw [Go.RowKit.Below.heap_alloc w.drew _ k hk]; rfl) (by simp [d3]) (.inr (.inr ⟨_, rfl, fun b'' B'' h'' hm'' => by
                  obtain ⟨_, hc', _⟩ := (hI.blk b'' B'' h'').at hm''
                  have := (Array.getElem?_eq_some_iff.1 hc').1
                  omega, fun hF => by have := hI.lt _ hF; omega, hI.size, by simp, by first | exact d3 | rfl⟩)) (fun B1 h1 hf1 => by rw [hb] at h1; cases h1; rw [d3] at hf1; cases hf1) (fun B1 h1 => by
                  rw [hb] at h1
                  cases h1
                  refine ⟨rfl, by rw [hnil]; simp, fun hh => ?_⟩
                  rw [hels, hnil] at hh
                  simp at hh
                  exact (hy0 hh).elim) (fun hK => xKs ⟨hold.1.1, fun e1 h1 => (hmem' e1 h1).1, fun _ e1 h1 => (hmem' e1 h1).2, by simp [d2], by
                  simp only [updM, if_true]
                  refine ⟨by simp [d3], fun _ hF => by have := hI.lt _ hF; omega, _, e, (0, 0), hkk, by simp, by rw [hrow, hels, d4]; exact Nat.mul_le_mul_right _ (by omega), fun i j el q h1 h2 => ?_⟩
                  rw [hels] at h1
                  have hilt : i < ys.length := (List.getElem?_eq_some_iff.1 h1).1
                  obtain ⟨x, hx, hs⟩ := hxrel' i j el q hilt h1 h2
                  have hj : j < esz := by have := (List.getElem?_eq_some_iff.1 h2).1; have := hyl el (List.mem_of_getElem? h1); omega
                  have := xDy i j ys.length esz hilt hj
                  refine ⟨x, ?_, hs.keeps hK⟩
                  rw [d4, Array.empty_append, Array.getElem?_append_left (by omega)]
                  exact hx⟩ (fun _ k2 c2 e2 fz2 hk2 hc2 => by
                  simp only [updM, if_true] at hk2
                  cases hk2
                  rw [hkk] at hc2
                  cases hc2
                  intro j x hj hx
                  have hj : els'.length * B.esz ≤ j := hj
                  rw [hels, d4] at hj
                  rw [Array.empty_append, Array.getElem?_append_right (by omega)] at hx
                  exact xCb hzl hzr _ _ x hx) (fun _ _ k2 c2 e2 fz2 hk2 hc2 => by
                  simp only [updM, if_true] at hk2
                  cases hk2
                  rw [hkk] at hc2
                  cases hc2
                  simp))
            rw [hform]
            refine ⟨_, _, F, _, .inl (hexec _ _ (by rw [he]; exact hrun)), hI', hK, ?_⟩
            have : els'.length = ys.length := by rw [hels]
            rw [this]
            have hzero : 0 + ys.length = ys.length := by omega
            simp only [hzero] at hkk hrow ⊢
            refine xEh (w := w) (B := { B with els := els' }) (n := ys.length) (cap := cap) hbox this (by omega) ?_
            show cap * B.esz = _
            unfold xA6
            rw [hkk]
            simp only
            rw [hrow, d4]
        | some k =>
          rw [hm] at g2
          obtain ⟨oo, rfl, g3, g4, g5, g6⟩ := g2
          obtain ⟨c, ee, fz, hcc, hfz, hE, hrow⟩ := xFp hI hb hm (fun h => by simp_all)
          rw [hrow] at g5
          by_cases hroom : len + ys.length ≤ cap
          · -- in place
            by_cases hcap0 : cap = 0
            · have hl0 : len = 0 := by omega
              have hy0 : ys = [] := List.eq_nil_of_length_eq_zero (by omega)
              subst hy0
              have hels : els' = B.els := by rw [← hB']; simp
              have hxs0 : xs = #[] := by simpa using hxsz
              subst hxs0
              have hrun := xCS (P := P) (w := w) (w1 := w) (ty := o.type) (base := some ⟨k, oo, none⟩) (sLen := len) (sCap := cap) ht hu hd hn hlenx (hxr w rfl) hroom (by simp [storeCells])
              rw [hform]
              simp only [hels]
              have hup : xAj hf [(b, ({ B with els := B.els } : Blk))] = hf := xEa hb
              refine ⟨_, w, F, μ, .inl (hexec _ _ (by rw [he]; exact hrun)), by rw [hup]; exact hI, by rw [hup]; exact Keeps.refl, ?_⟩
              rw [hup]
              refine ⟨_, cap, rfl, fun _ => rfl, B, hb, hbox, Nat.le_refl _, fun _ => ⟨by simp; omega, ?_⟩⟩
              rw [hm]
              exact ⟨oo, rfl, g3, by simpa using g4, by rw [hrow]; exact g5, g6⟩
            · have hoo := g3 (by omega)
              have hfit : (off + len) * B.esz + ys.length * B.esz ≤ c.size := by
                have : (off + len + ys.length) * B.esz ≤ (off + cap) * B.esz := Nat.mul_le_mul_right _ (by omega)
                rw [Nat.add_mul _ ys.length] at this
                omega
              have hEA := xGy hE (off + len) ys.length rfl (by omega) (fun e1 h1 => by rw [d4]; exact hyl e1 h1) (by rw [d4]; exact hxsz) (by rw [d4]; exact hxrel') hfit
              rw [hB'] at hEA
              have hxl : xs.toList.length = ys.length * B.esz := by rw [d4]; simpa using hxsz
              have hsl : (off + len) * B.esz + xs.toList.length ≤ c.size := by rw [hxl]; exact hfit
              have hst := xBX P k ((off + len) * B.esz) ee fz xs.toList 0 c w hcc hfz (by simpa using hsl) (fun v hv => by
                obtain ⟨m, hm1, hm2⟩ := List.getElem_of_mem hv
                have hm1' : m < ys.length * esz := by rw [hxl, d4] at hm1; exact hm1
                have hi1 : m / esz < ys.length := Nat.div_lt_of_lt_mul (by rw [Nat.mul_comm]; exact hm1')
                have hj1 : m % esz < esz := Nat.mod_lt _ c3
                have hel1 := hyl _ (List.getElem_mem hi1)
                obtain ⟨x', hx', hs'⟩ := hxrel _ (m % esz) _ _ hi1 (List.getElem?_eq_getElem hi1) (List.getElem?_eq_getElem (by omega))
                rw [Nat.div_add_mod'] at hx'
                have : xs.toList[m]? = some x' := by simpa using hx'
                rw [List.getElem?_eq_getElem hm1] at this
                simp only [Option.some.injEq] at this
                rw [← hm2, this]
                exact hs'.oneCell)
              simp only [Nat.add_zero] at hst
              have hrun := xCS (P := P) (w := w) (ty := o.type) (base := some ⟨k, oo, none⟩) (sLen := len) (sCap := cap) ht hu hd hn hlenx (hxr w rfl) hroom (by
                simp only
                rw [xBs, hoo, ← d4, ← Nat.add_mul]
                exact hst)
              obtain ⟨hI', hK⟩ := hI.write b B { B with els := els' } hb k hm c _ ee fz hcc d3 d3 rfl rfl (by rw [hlen']; omega) (xCE c _ _ hsl) hEA.2.1 (fun _ e1 h1 => (hmem' e1 h1).2) (by simp [d2]) hEA.1 hEA.2.2 (fun _ j x hj hx => xED c _ _ hsl (by
                have h9 : (off + len + ys.length) * B.esz ≤ els'.length * B.esz := Nat.mul_le_mul_right _ (by rw [hlen']; omega)
                rw [Nat.add_mul (off + len)] at h9
                have h8 : xs.toList.length = ys.length * B.esz := by rw [Array.length_toList, hxsz, d4]
                have hj : els'.length * B.esz ≤ j := hj
                omega) hx)
              rw [hform]
              refine ⟨_, _, F, _, .inl (hexec _ _ (by rw [he]; exact hrun)), hI', hK, ?_⟩
              refine ⟨_, cap, rfl, fun _ => rfl, { B with els := els' }, by simp [xAj, updH], hbox, Nat.le_refl _, fun _ => ⟨by rw [hlen']; omega, ?_⟩⟩
              simp only [updM, if_true]
              refine ⟨oo, rfl, g3, hroom, ?_, by rw [hlen']; omega⟩
              have : xA6 (w.setRow k (c.toList.take ((off + len) * B.esz) ++ xs.toList ++ c.toList.drop ((off + len) * B.esz + xs.toList.length)).toArray) k = c.size := by
                unfold xA6
                rw [setRow_heap w k c _ ee fz hcc]
                exact xCE c _ _ hsl
              rw [this]
              exact g5
          · -- it grows
            have hoff : off = 0 := by rcases d6 with h | h <;> omega
            subst hoff
            simp only [Nat.zero_add] at g6 g5 hB' hlen' d5
            have hdrop : B.els.drop (len + ys.length) = [] := List.drop_eq_nil_of_le (by omega)
            have hels : els' = B.els.take len ++ ys := by rw [← hB', hdrop, List.append_nil]
            have hTk := xK6 hE 0 (n := len) (by omega)
            simp only [Nat.zero_mul, Nat.zero_add, List.drop_zero] at hTk
            have hlb : len * B.esz ≤ c.size := by
              have : len * B.esz ≤ B.els.length * B.esz := Nat.mul_le_mul_right _ (by omega)
              have := hE.1
              omega
            have hold2 : (Builtin.firstCells esz len (.slice (some ⟨k, oo, none⟩) len cap)).run P w.drew = .ok (c.extract 0 (len * B.esz)) w.drew := by
              simp only [Builtin.firstCells]
              by_cases hc0 : cap = 0
              · have : len = 0 := by omega
                subst this
                simp [loadCells, loadCellsFrom]
              · rw [g3 (by omega), Nat.zero_mul, ← d4]
                have := xET P w.drew k 0 (len * B.esz) c ee fz hcc (by omega)
                simpa using this
            have hrun := xCx (P := P) (w := w) (ty := o.type) ht hu hd hi hiz hlenx (by rw [hisz]; exact hxr w.drew rfl) (by rw [hisz]; exact hold2) (by omega) (by rw [hiby]; exact c4) (by rw [hiby]; unfold xBB at d7; omega)
            have hge := xCg w (len + ys.length) cap e
            generalize grownCap w (len + ys.length) cap e = cap' at hrun hge
            have hosz : (c.extract 0 (len * B.esz)).size = len * esz := by rw [← d4]; simp; omega
            have hzc : (Builtin.zeroCells zv.cells (cap' - (len + ys.length))).size = (cap' - (len + ys.length)) * esz := by simp [Builtin.zeroCells, hzl, c2]
            have hrow2 : (c.extract 0 (len * B.esz) ++ xs ++ Builtin.zeroCells zv.cells (cap' - (len + ys.length))).size = cap' * esz := by
              simp only [Array.size_append, hosz, hxsz, hzc, ← Nat.add_mul]
              congr 1
              omega
            have hkk : (w.drew.alloc (.cells (c.extract 0 (len * B.esz) ++ xs ++ Builtin.zeroCells zv.cells (cap' - (len + ys.length))) e)).heap[w.heap.size]? = some (.cells (c.extract 0 (len * B.esz) ++ xs ++ Builtin.zeroCells zv.cells (cap' - (len + ys.length))) e (0, 0)) := xBI _
            have hl2 : els'.length = len + ys.length := by rw [hels]; simp; omega
            obtain ⟨hI', hK⟩ := hI.upd (w' := w.drew.alloc (.cells (c.extract 0 (len * B.esz) ++ xs ++ Builtin.zeroCells zv.cells (cap' - (len + ys.length))) e)) b { B with els := els' } (some w.heap.size) F rfl rfl rfl (by simp) (fun k' hk' _ => by
                rw [Go.RowKit.Below.heap_alloc w.drew _ k' hk']; rfl) (by simp [d3]) (.inr (.inr ⟨_, rfl, fun b'' B'' h'' hm'' => by
                  obtain ⟨_, hc', _⟩ := (hI.blk b'' B'' h'').at hm''
                  have := (Array.getElem?_eq_some_iff.1 hc').1
                  omega, fun hF => by have := hI.lt _ hF; omega, hI.size, by simp, by first | exact d3 | rfl⟩)) (fun B1 h1 hf1 => by rw [hb] at h1; cases h1; rw [d3] at hf1; cases hf1) (fun B1 h1 => by
                  rw [hb] at h1
                  cases h1
                  refine ⟨rfl, by simp only [hl2]; omega, fun hh => ?_⟩
                  simp only [hl2] at hh
                  omega) (fun hK => xKs ⟨hold.1.1, fun e1 h1 => (hmem' e1 h1).1, fun _ e1 h1 => (hmem' e1 h1).2, by simp [d2], by
                  simp only [updM, if_true]
                  refine ⟨by simp [d3], fun _ hF => by have := hI.lt _ hF; omega, _, e, (0, 0), hkk, by simp, by rw [hrow2, hl2, d4]; exact Nat.mul_le_mul_right _ hge, fun i j el q h1 h2 => ?_⟩
                  rw [hels] at h1
                  have hj : j < esz := by
                    have h3 := (List.getElem?_eq_some_iff.1 h2).1
                    have h4 := (hmem' el (by rw [hels]; exact List.mem_of_getElem? h1)).1
                    omega
                  have htl : (B.els.take len).length = len := by simp; omega
                  by_cases hilt : i < len
                  · rw [List.getElem?_append_left (by omega)] at h1
                    obtain ⟨x, hx, hs⟩ := hTk.2.2 i j el q h1 h2
                    have := xDy i j len esz hilt hj
                    refine ⟨x, ?_, hs.keeps hK⟩
                    rw [d4] at hx ⊢
                    rw [Array.append_assoc, Array.getElem?_append_left (by rw [← d4, hosz, d4]; omega)]
                    exact hx
                  · rw [List.getElem?_append_right (by omega), htl] at h1
                    have hlt2 : i - len < ys.length := (List.getElem?_eq_some_iff.1 h1).1
                    obtain ⟨x, hx, hs⟩ := hxrel' (i - len) j el q hlt2 h1 h2
                    have e1 : len * esz ≤ i * esz := Nat.mul_le_mul_right _ (by omega)
                    have e2 := xDy (i - len) j ys.length esz hlt2 hj
                    have e3 : i * esz + j = len * esz + ((i - len) * esz + j) := by rw [Nat.sub_mul]; omega
                    refine ⟨x, ?_, hs.keeps hK⟩
                    rw [show i * B.esz + j = len * esz + ((i - len) * esz + j) from by rw [d4]; exact e3]
                    rw [Array.getElem?_append_left (by simp only [Array.size_append, hosz, hxsz]; omega), Array.getElem?_append_right (by omega), hosz, Nat.add_sub_cancel_left]
                    exact hx⟩ (fun hbx k2 c2 e2 fz2 hk2 hc2 => by
                  simp only [updM, if_true] at hk2
                  cases hk2
                  rw [hkk] at hc2
                  cases hc2
                  intro j x hj hx
                  have hj : els'.length * B.esz ≤ j := hj
                  rw [hl2, d4, Nat.add_mul] at hj
                  rw [Array.getElem?_append_right (by rw [Array.size_append, hosz, hxsz]; exact hj)] at hx
                  exact xCb hzl hzr _ _ x hx) (fun _ _ k2 c2 e2 fz2 hk2 hc2 => by
                  simp only [updM, if_true] at hk2
                  cases hk2
                  rw [hkk] at hc2
                  cases hc2
                  simp))
            rw [hform]
            refine ⟨_, _, F, _, .inl (hexec _ _ (by rw [he]; exact hrun)), hI', hK, ?_⟩
            rw [hl2]
            refine xEh (w := w) hbox hl2 hge ?_
            show cap' * B.esz = _
            unfold xA6
            rw [hkk]
            simp only
            rw [hrow2, d4]
      · cases hr2
  · cases hr1
end
end Go.V
set_option linter.unusedVariables false
set_option linter.unusedSimpArgs false
namespace Go.V
section
variable {P : Program} {Γ : Ctx} {o : Oper} {a : Act} {F : Nat → Prop} {μ : Bid → Option Nat} {hf : HF} {w : World} {r : Res} {tf : TF} {lvl site : Nat}
theorem xPo (hI : Inv Γ F μ hf w) (hT : TRel F μ hf w tf a) {cl : Call} {x y : Operand} {t u e : TypeId} {vx vy : VX} {esz : Nat} (ho : o.op = .call cl) (hc : cl.callee = .builtin .copy) (hargs : cl.args = #[x, y]) (htys : cl.argTypes = #[t, u])
    (ht : P.underlying t = some (.slice e)) (hn : xA5 P e = some esz) (c3 : 0 < esz) (hx : cx x = some vx) (hy : cx y = some vy)
    (hr : vop lvl site tf hf (.copyS esz vx vy) = some r) : Sim P Γ o a F μ hf w r := by
  obtain ⟨p, hp, hr0⟩ := bind_some hr
  clear hr
  obtain ⟨q, hq, hr00⟩ := bind_some hr0
  clear hr0
  obtain ⟨⟨rd, ys⟩, hct, hr1⟩ := bind_some hr00
  clear hr00
  have hv := xAO hI hT hx hp
  have hvy := xAO hI hT hy hq
  have hexec : ∀ v w1, (Builtin.copy_ #[t, u] o.type #[a.eval x, a.eval y]).run P w = .ok v w1 → (execOp a.eval o).run P w = .ok (.value v) w1 := by
    intro v w1 h
    simp [execOp, ho, hc, resolve, hargs, htys, invoke, builtin, h]
  simp only at hr1
  cases p <;> (try (cases hr1; done))
  case nils =>
    have hr2 : some (⟨.int .i64 0, [], rd⟩ : Res) = some r := hr1
    clear hr1
    cases hr2
    have he := xCD hv
    have hl : ∃ n, Builtin.lenOf (a.eval y) = Sem.pure n ∧ ∀ w, (Builtin.firstCells esz 0 (a.eval y)).run P w = .ok #[] w := by
      have key : ∀ v : Value, (∃ s, v = .string s) ∨ (∃ b l c, v = .slice b l c) → ∃ n, Builtin.lenOf v = Sem.pure n ∧ ∀ w, (Builtin.firstCells esz 0 v).run P w = .ok #[] w := by
        rintro v (⟨s, rfl⟩ | ⟨b, l, c, rfl⟩)
        · exact ⟨s.size, rfl, fun w => by simp [Builtin.firstCells]⟩
        · cases b with
          | none => exact ⟨l, rfl, fun w => rfl⟩
          | some b => exact ⟨l, rfl, fun w => by simp [Builtin.firstCells, loadCells, loadCellsFrom]⟩
      cases q <;> (try (cases hct; done))
      · exact key _ (.inl ⟨_, xCG hvy⟩)
      · exact key _ (.inr ⟨_, _, _, xCD hvy⟩)
      · obtain ⟨_, _, h⟩ := xFh hvy; exact key _ (.inr ⟨_, _, _, h⟩)
      · generalize a.eval y = av at hvy
        have hC := xD0 hvy
        cases hC <;> exact key _ (.inr ⟨_, _, _, rfl⟩)
      · obtain ⟨_, _, h, _⟩ := xBp hvy; exact key _ (.inr ⟨_, _, _, h⟩)
    obtain ⟨n, hl1, hl2⟩ := hl
    refine Sim.pure hI (rv := .int .i64 0) (hexec _ _ ?_) rfl (VRel.int _ _)
    rw [he]
    simp [Builtin.copy_, run_underlying ht, xAU hn, hl1, hl2, goInt]
  case own b hw off len =>
    obtain ⟨B, hb, hr2⟩ := bind_some hr1
    clear hr1
    split at hr2
    · rename_i hcc
      obtain ⟨d1, d2, d3, d4, d5, d6⟩ := hcc
      have hcl : ∀ e ∈ ys, ∀ c ∈ e, closed c = true := fun e he => (d6 e he).2
      have hyl : ∀ e ∈ ys, e.length = esz := fun e he => (d6 e he).1
      obtain ⟨hlenx, hfcx⟩ := xDP (P := P) hI hvy hct hyl c3 hcl
      obtain ⟨ad, cap, he, hsome, B0, hb0, hbox, hle, hcur⟩ := xBp hv
      rw [hb] at hb0
      cases hb0
      obtain ⟨g1, g2⟩ := hcur d1
      have hform : r = ⟨.int .i64 ((min ys.length len : Nat) : Int), [(b, { B with els := B.els.take off ++ ys.take len ++ B.els.drop (off + min ys.length len) })], b :: rd⟩ := by
        split at hr2
        · rename_i hend
          obtain ⟨rfl, rfl, e3⟩ := hend
          cases hr2
          have e1 : B.els.take 0 = [] := rfl
          have e2 : B.els.drop (0 + len) = [] := by rw [List.drop_eq_nil_of_le (by omega)]
          have e4 : ys.take len = ys := List.take_of_length_le (by omega)
          have e5 : min ys.length len = len := by omega
          simp only [e1, e4, e5, e2, List.nil_append, List.append_nil]
        · cases hr2
          rfl
      clear hr2
      generalize hnn : min ys.length len = n at hform
      have hyt : (ys.take len).length = n := by rw [← hnn]; simp; omega
      have hyt' : ys.take len = ys.take n := by
        rw [← hnn]
        rcases Nat.le_total ys.length len with h | h
        · rw [Nat.min_eq_left h, List.take_of_length_le h, List.take_of_length_le (Nat.le_refl _)]
        · rw [Nat.min_eq_right h]
      rw [hyt'] at hform hyt
      obtain ⟨xs, hxr, hxsz, hxrel⟩ := hfcx n (by omega)
      have hold := hI.blk b B hb
      have hnat : Nat.min ys.length len = n := hnn
      cases hm : μ b with
      | none =>
        rw [hm] at g2
        obtain ⟨rfl, rfl, rfl, rfl⟩ := g2
        have hn0 : n = 0 := by omega
        subst hn0
        have hxs0 : xs = #[] := by simpa using hxsz
        subst hxs0
        have hels : B.els.take 0 ++ ys.take 0 ++ B.els.drop (0 + 0) = B.els := by simp
        rw [hform]
        simp only [hels]
        have hup : xAj hf [(b, ({ B with els := B.els } : Blk))] = hf := xEa hb
        refine ⟨_, w, F, μ, .inl (hexec (.int .i64 0) _ ?_), by rw [hup]; exact hI, by rw [hup]; exact Keeps.refl, VRel.int _ _⟩
        rw [he]
        simp [Builtin.copy_, run_underlying ht, xAU hn, hlenx, hxr w rfl, goInt]
      | some k =>
        rw [hm] at g2
        obtain ⟨oo, rfl, g3, g4, g5, g6⟩ := g2
        obtain ⟨c, ee, fz, hcc, hfz, hE, hrow⟩ := xFp hI hb hm (fun h => by simp_all)
        by_cases hn0 : n = 0
        · subst hn0
          have hxs0 : xs = #[] := by simpa using hxsz
          subst hxs0
          have hels : B.els.take off ++ ys.take 0 ++ B.els.drop (off + 0) = B.els := by simp
          rw [hform]
          simp only [hels]
          have hup : xAj hf [(b, ({ B with els := B.els } : Blk))] = hf := xEa hb
          refine ⟨_, w, F, μ, .inl (hexec (.int .i64 0) _ ?_), by rw [hup]; exact hI, by rw [hup]; exact Keeps.refl, VRel.int _ _⟩
          rw [he]
          simp [Builtin.copy_, run_underlying ht, xAU hn, hlenx, hnat, hxr w rfl, goInt, storeCells]
        · have hoo := g3 (by omega)
          have hfit : off * B.esz + n * B.esz ≤ c.size := by
            have : (off + n) * B.esz ≤ B.els.length * B.esz := Nat.mul_le_mul_right _ (by omega)
            rw [Nat.add_mul] at this
            have := hE.1
            omega
          have hEA := xGy (ys := ys.take n) hE off n hyt (by omega) (fun e1 h1 => by rw [d4]; exact hyl e1 (List.mem_of_mem_take h1)) (by rw [d4]; exact hxsz) (by
            rw [d4]
            intro i j el q h0 h1 h2
            rw [List.getElem?_take, if_pos h0] at h1
            obtain ⟨x, h3, h4⟩ := hxrel i j el q h0 h1 h2
            exact ⟨x, h3, (SRel.of_closed h4.closed).2 h4⟩) hfit
          have hxl : xs.toList.length = n * B.esz := by rw [d4]; simpa using hxsz
          have hsl : off * B.esz + xs.toList.length ≤ c.size := by rw [hxl]; exact hfit
          have hst := xBX P k (off * B.esz) ee fz xs.toList 0 c w hcc hfz (by simpa using hsl) (fun v hv => by
            obtain ⟨m, hm1, hm2⟩ := List.getElem_of_mem hv
            have hm1' : m < n * esz := by rw [hxl, d4] at hm1; exact hm1
            have hi1 : m / esz < n := Nat.div_lt_of_lt_mul (by rw [Nat.mul_comm]; exact hm1')
            have hj1 : m % esz < esz := Nat.mod_lt _ c3
            have hi2 : m / esz < ys.length := by omega
            have hel1 := hyl _ (List.getElem_mem hi2)
            obtain ⟨x', hx', hs'⟩ := hxrel _ (m % esz) _ _ hi1 (List.getElem?_eq_getElem hi2) (List.getElem?_eq_getElem (by omega))
            rw [Nat.div_add_mod'] at hx'
            have : xs.toList[m]? = some x' := by simpa using hx'
            rw [List.getElem?_eq_getElem hm1] at this
            simp only [Option.some.injEq] at this
            rw [← hm2, this]
            exact hs'.oneCell)
          simp only [Nat.add_zero] at hst
          have hlen' : (B.els.take off ++ ys.take n ++ B.els.drop (off + n)).length = B.els.length := by
            have := xIG B.els (ys.take n) off (by omega)
            rw [hyt] at this
            rw [this]
            omega
          obtain ⟨hI', hK⟩ := hI.write b B { B with els := B.els.take off ++ ys.take n ++ B.els.drop (off + n) } hb k hm c _ ee fz hcc d3 d3 rfl rfl (by rw [hlen']; exact Nat.le_refl _) (xCE c _ _ hsl) hEA.2.1 (fun _ e1 h1 => by
              simp only [List.mem_append] at h1
              rcases h1 with (h | h) | h
              · exact hold.2.2.1 (.inl d2) e1 (List.mem_of_mem_take h)
              · exact hcl e1 (List.mem_of_mem_take h)
              · exact hold.2.2.1 (.inl d2) e1 (List.mem_of_mem_drop h)) (by simp [d2]) hEA.1 hEA.2.2 (fun _ j x hj hx => xED c _ _ hsl (by
                have h9 : (off + n) * B.esz ≤ (B.els.take off ++ ys.take n ++ B.els.drop (off + n)).length * B.esz := Nat.mul_le_mul_right _ (by rw [hlen']; omega)
                rw [Nat.add_mul off] at h9
                have h8 : xs.toList.length = n * B.esz := by rw [Array.length_toList, hxsz, d4]
                have hj : (B.els.take off ++ ys.take n ++ B.els.drop (off + n)).length * B.esz ≤ j := hj
                omega) hx)
          rw [hform]
          refine ⟨_, _, F, _, .inl (hexec (.int .i64 n) _ ?_), hI', hK, VRel.int _ _⟩
          rw [he, hoo]
          simp only [Builtin.copy_, List.getElem?_toArray, List.getElem?_cons_zero, List.getElem?_cons_succ, Sem.run_bind, run_underlying ht, Result.andThen_ok, hlenx, Sem.run_pure', hnat, xAU hn, hxr w rfl, hst, Sem.run_pure, goInt]
    · cases hr2
theorem xGz {n : Int} (h0 : 0 ≤ n) (h1 : n ≤ 70368744177664) : IntKind.i64.wrap n = n := by
  unfold IntKind.wrap
  have hm : n % (2 ^ IntKind.i64.bits : Int) = n := Int.emod_eq_of_lt h0 (by show n < 18446744073709551616; omega)
  simp only [hm]
  rw [if_neg]
  simp only [IntKind.signed, Bool.true_and, decide_eq_true_eq, ge_iff_le]
  show ¬ ((9223372036854775808 : Int) ≤ n)
  omega
theorem xMT (hI : Inv Γ F μ hf w) (hT : TRel F μ hf w tf a) {t e : TypeId} {x y : Operand} {vx vy : VX} {esz bytes : Nat} {z : List PV} (ho : o.op = .makeSlice t x y) (ht : P.underlying t = some (.slice e)) (hn : xA5 P e = some esz) (hby : xFK P e = some bytes) (hz : xDh P e = some z) (hzl' : z.length = esz) (hx : cx x = some vx) (hy : cx y = some vy)
    (hr : vop lvl site tf hf (.mkslice bytes z vx vy) = some r) : Sim P Γ o a F μ hf w r := by
  obtain ⟨p, hp, hr0⟩ := bind_some hr
  clear hr
  obtain ⟨q, hq, hr1⟩ := bind_some hr0
  clear hr0
  have hv := xAO hI hT hx hp
  have hvy := xAO hI hT hy hq
  obtain ⟨i, zv, hi, hisz, hiby, hiz, hzl, hzr⟩ := xKg hn hby hz
  have hform : ∃ n m : Int, p = .int .i64 n ∧ q = .int .i64 m := by
    cases p <;> (try (cases hr1; done))
    rename_i k1 n
    cases q <;> (try (cases k1 <;> cases hr1; done))
    rename_i k2 m
    cases k1 <;> (try (cases hr1; done)) <;> cases k2 <;> (try (cases hr1; done))
    exact ⟨n, m, rfl, rfl⟩
  obtain ⟨n, m, rfl, rfl⟩ := hform
  have hr2 : (if hf ⟨lvl, site⟩ = none ∧ 0 ≤ n ∧ n ≤ m ∧ 0 < bytes ∧ m * bytes ≤ xBB ∧ 0 < z.length ∧ z.all closed = true then
        some (⟨.own ⟨lvl, site⟩ n.toNat 0 n.toNat, [(⟨lvl, site⟩, ⟨false, false, z.length, List.replicate n.toNat z⟩)], []⟩ : Res) else none) = some r := hr1
  clear hr1
  split at hr2
  · rename_i hcc
    obtain ⟨d1, d2, d3, d4, d5, d6, d7⟩ := hcc
    cases hr2
    have hmle : m ≤ m * bytes := by
      have h1 : m * 1 ≤ m * (bytes : Int) := Int.mul_le_mul_of_nonneg_left (by omega) (by omega)
      omega
    have hmr : m ≤ 70368744177664 := by unfold xBB at d5; omega
    have hw1 : IntKind.i64.wrap n = n := xGz d2 (by omega)
    have hw2 : IntKind.i64.wrap m = m := xGz (by omega) hmr
    have hbig : ¬ ((i.bytes : Int) * m > 2 ^ 48) := by
      rw [hiby, Int.mul_comm]
      unfold xBB at d5
      omega
    have hZ := xEZ (F := F) (μ := μ) (hf := hf) (w := w) (esz := z.length) rfl d6 hzl (fun j p hp => hzr F w j p hp) n.toNat m.toNat (by omega)
    obtain ⟨hI', hK⟩ := hI.alloc (w1 := w) ⟨lvl, site⟩ d1 ⟨false, false, z.length, List.replicate n.toNat z⟩ ((Array.range (m.toNat * z.length)).map (zv.cells[· % zv.cells.size]!)) e rfl rfl rfl rfl rfl d6 hZ.2.1 (fun _ e he => by
      rw [(List.mem_replicate.1 he).2]
      rw [List.all_eq_true] at d7
      exact d7) (by simp) hZ.1 hZ.2.2 (fun _ j x _ hx => xCb hzl hzr m.toNat j x (by
      unfold Builtin.zeroCells
      rw [hzl]
      rw [hzl] at hx
      exact hx))
    refine ⟨.slice (some ⟨w.heap.size, 0, none⟩) n.toNat m.toNat, _, F, _, .inl ?_, hI', hK, ?_⟩
    · have hts : (typeInfo e).run P w = .ok i w := by simp [typeInfo, hi]
      have hzv : (zeroValue e).run P w = .ok zv w := by simp [zeroValue, typeInfo, hi, hiz]
      simp only [execOp, ho, xBO hv, xBO hvy, Instr.makeSlice, Sem.run_bind, run_underlying ht, Result.andThen_ok, asInt, asIntOf, Sem.run_pure, hts, hw1, hw2]
      rw [if_neg (by
        have h1 : ¬ m < 0 := by omega
        have h2 : ¬ n < 0 := by omega
        have h3 : ¬ n > m := by omega
        simp only [h1, h2, h3, decide_false, Bool.false_or, hbig]
        simp)]
      simp only [Sem.run_bind, run_askRoom, Result.andThen_ok, xAU hn]
      rw [← hzl']
      by_cases h0 : m.toNat * z.length = 0
      · have hz0 : ∀ f : Nat → Value, (Array.range 0).map f = #[] := fun f => by simp
        rw [if_pos h0]
        simp only [Sem.run_bind, Sem.run_pure, Result.andThen_ok, h0, hz0]
        simp [newRow]
      · rw [if_neg h0]
        simp only [Sem.run_bind, hzv, Result.andThen_ok, Sem.run_pure]
        simp [newRow]
    · refine xEh (w := w) rfl (by simp) (by omega) ?_
      have : (w.alloc (.cells ((Array.range (m.toNat * z.length)).map (zv.cells[· % zv.cells.size]!)) e)).heap[w.heap.size]? = some (.cells ((Array.range (m.toNat * z.length)).map (zv.cells[· % zv.cells.size]!)) e (0, 0)) := by
        show (w.heap.push _)[w.heap.size]? = _
        simp
      show m.toNat * z.length = _
      unfold xA6
      rw [this]
      simp
  · cases hr2
theorem xI4 : ∀ (l : List (List PV)) (s : List UInt8), xGv l = some s → s.length = l.length ∧ ∀ (i : Nat) (el : List PV), l[i]? = some el → ∃ n, el = [.int .u8 n] ∧ s[i]? = some (UInt8.ofNat n.toNat)
  | [], s, h => by cases h; exact ⟨rfl, by simp⟩
  | e :: l, s, h => by
    unfold xGv at h
    split at h
    · cases ‹e :: l = []›
    · rename_i n r heq
      cases heq
      obtain ⟨s', hs', rfl⟩ := map_some h
      obtain ⟨h1, h2⟩ := xI4 _ _ hs'
      refine ⟨by simp [h1], fun i el hi => ?_⟩
      cases i with
      | zero => simp at hi; subst hi; exact ⟨n, rfl, rfl⟩
      | succ i => exact h2 i el (by simpa using hi)
    · cases h
theorem xLR (P : Program) (w : World) : ∀ (l : List Value) (s : ByteArray) (bs : List UInt8), l.length = bs.length → (∀ (i : Nat) (v : Value), l[i]? = some v → ∃ n, v = .int .u8 n ∧ bs[i]? = some (UInt8.ofNat n.toNat)) →
    (forIn (m := Sem) l s fun c r => match c with
      | .int .u8 n => do Pure.pure PUnit.unit; Pure.pure (ForInStep.yield (r.push (UInt8.ofNat n.toNat)))
      | _ => stuck "bytesToString: byte expected").run P w = .ok (s ++ ⟨bs.toArray⟩) w
  | [], s, bs, h1, h2 => by
    have : bs = [] := List.eq_nil_of_length_eq_zero h1.symm
    subst this
    simp
    apply ByteArray.ext
    simp
  | v :: l, s, bs, h1, h2 => by
    cases bs with
    | nil => simp at h1
    | cons b bs =>
      obtain ⟨n, rfl, hb⟩ := h2 0 v rfl
      simp at hb
      have ih := xLR P w l (s.push (UInt8.ofNat n.toNat)) bs (by simpa using h1) (fun i v hi => by simpa using h2 (i + 1) v (by simpa using hi))
      simp only [List.forIn_cons, Sem.run_bind, Sem.run_pure, Result.andThen_ok]
      rw [ih, hb]
      congr 1
      apply ByteArray.ext
      simp
theorem xU0 (hI : Inv Γ F μ hf w) (hT : TRel F μ hf w tf a) {s d e : TypeId} {x : Operand} {vx : VX} (ho : o.op = .convert s d x) (hs : P.underlying s = some (.slice e)) (he : P.underlying e = some (.int .u8)) (hd : P.underlying d = some .string) (hx : cx x = some vx)
    (hr : vop lvl site tf hf (.b2s vx) = some r) : Sim P Γ o a F μ hf w r := by
  obtain ⟨p, hp, hr0⟩ := bind_some hr
  clear hr
  obtain ⟨⟨rd, l⟩, hct', hr1⟩ := bind_some hr0
  clear hr0
  have hnostr : ∀ q, p ≠ .str q := by
    rintro q rfl
    cases hct'
  have hct : xAf hf p = some (rd, l) := by
    cases p <;> first | exact hct' | exact (hnostr _ rfl).elim
  obtain ⟨bs, hbs, rfl⟩ := map_some hr1
  clear hr1
  have hv := xAO hI hT hx hp
  obtain ⟨g1, g2⟩ := xI4 l bs hbs
  have hl1 : ∀ e ∈ l, e.length = 1 := fun e he => by
    obtain ⟨i, hi⟩ := List.mem_iff_getElem?.1 he
    obtain ⟨n, rfl, _⟩ := g2 i e hi
    rfl
  have hcl : ∀ e ∈ l, ∀ c ∈ e, closed c = true := fun e he c hc => by
    obtain ⟨i, hi⟩ := List.mem_iff_getElem?.1 he
    obtain ⟨n, rfl, _⟩ := g2 i e hi
    simp at hc
    subst hc
    rfl
  obtain ⟨hlen, hfc⟩ := xDP (P := P) (esz := 1) hI hv hct hl1 (by omega) hcl
  obtain ⟨xs, hxr, hxsz, hxrel⟩ := hfc l.length (Nat.le_refl _)
  have hshape : ∃ ad cap, a.eval x = .slice ad l.length cap := by
    cases p <;> (try (cases hct; done))
    · exact (hnostr _ rfl).elim
    · cases hct; exact ⟨none, 0, xCD hv⟩
    · cases hct; obtain ⟨ad, cap, h⟩ := xFh hv; exact ⟨_, cap, h⟩
    · cases hct
      generalize a.eval x = av at hv
      have hC := xD0 hv
      cases hC <;> exact ⟨_, _, rfl⟩
    · rename_i b hw off len
      obtain ⟨ad, cap, h, _⟩ := xBp hv
      have : l.length = len := by
        simp only [xAf] at hct
        obtain ⟨B, hb, hct⟩ := bind_some hct
        split at hct
        · rename_i hcc
          cases hct
          simp
          omega
        · cases hct
      rw [this]
      exact ⟨ad, cap, h⟩
  obtain ⟨ad, cap, hsh⟩ := hshape
  · refine Sim.pure hI (rv := .string ⟨bs.toArray⟩) ?_ rfl (VRel.str _)
    simp only [execOp, ho, hsh, Go.convert, Sem.run_bind, run_underlying hs, run_underlying hd, run_underlying he, Result.andThen_ok]
    cases ad with
    | none =>
      have hl0 : l = [] := by
        have := hxr w rfl
        rw [hsh] at this
        simp [Builtin.firstCells] at this
        subst this
        simp at hxsz
        exact List.eq_nil_of_length_eq_zero (by omega)
      subst hl0
      cases hbs
      simp [Conv.bytesToString]
      rfl
    | some ad =>
      have hlc : (loadCells ad l.length).run P w = .ok xs w := by
        have := hxr w rfl
        rw [hsh] at this
        simpa [Builtin.firstCells] using this
      have hloop := xLR P w xs.toList ByteArray.empty bs (by simp [hxsz, g1]) (fun i v hi => by
        have hilt : i < l.length := by
          have := (List.getElem?_eq_some_iff.1 hi).1
          simp [hxsz] at this
          exact this
        obtain ⟨n, h1, h2⟩ := g2 i _ (List.getElem?_eq_getElem hilt)
        obtain ⟨x', hx', hc'⟩ := hxrel i 0 _ (.int .u8 n) hilt (List.getElem?_eq_getElem hilt) (by rw [h1]; rfl)
        have : v = x' := by
          simp at hi hx'
          rw [hi] at hx'
          exact Option.some.inj hx'
        subst this
        cases hc'
        exact ⟨n, rfl, h2⟩)
      have hcv : (Conv.bytesToString (.slice (some ad) l.length cap)).run P w = .ok (.string ⟨bs.toArray⟩) w := by
        unfold Conv.bytesToString
        simp only [Sem.run_bind, hlc, Result.andThen_ok]
        rw [← Array.forIn_toList]
        have e0 : ByteArray.empty ++ ⟨bs.toArray⟩ = (⟨bs.toArray⟩ : ByteArray) := by
          apply ByteArray.ext
          simp
        rw [e0] at hloop
        refine Eq.trans (congrArg (Result.andThen · _) (Eq.trans ?_ hloop)) ?_
        · rfl
        · simp
      simp [hcv]
end
end Go.V
set_option linter.unusedVariables false
set_option linter.unusedSimpArgs false
namespace Go.V
section
variable {P : Program} {Γ : Ctx} {o : Oper} {a : Act} {F : Nat → Prop} {μ : Bid → Option Nat} {hf : HF} {w : World} {r : Res} {tf : TF} {lvl site : Nat}
theorem xUv (hI : Inv Γ F μ hf w) (hT : TRel F μ hf w tf a) {s d e : TypeId} {x : Operand} {vx : VX} (ho : o.op = .convert s d x) (hs : P.underlying s = some .string) (hd : P.underlying d = some (.slice e)) (he : P.underlying e = some (.int .u8)) (hx : cx x = some vx)
    (hr : vop lvl site tf hf (.s2b vx) = some r) : Sim P Γ o a F μ hf w r := by
  obtain ⟨p, hp, hr0⟩ := bind_some hr
  clear hr
  have hv := xAO hI hT hx hp
  cases p <;> (try (cases hr0; done))
  rename_i q
  have hr1 : (if hf ⟨lvl, site⟩ = none then some (⟨.own ⟨lvl, site⟩ q.length 0 q.length, [(⟨lvl, site⟩, ⟨false, false, 1, q.map fun c => [.int .u8 c.toNat]⟩)], []⟩ : Res) else none) = some r := hr0
  clear hr0
  split at hr1
  · rename_i hb
    cases hr1
    have hge : q.length ≤ grownCap w q.length 0 e := xCg w q.length 0 e
    generalize hcap : grownCap w q.length 0 e = cap at hge
    let c : Array Value := (q.toArray.map fun b => (.int .u8 b.toNat : Value)) ++ Array.replicate (cap - q.length) (.int .u8 0)
    have hcs : c.size = cap := by simp [c]; omega
    let w' : World := (w.drew.alloc (.cells c e)).freeze ⟨w.heap.size, c.size, none⟩ 1
    have hnew : w'.heap[w.heap.size]? = some (.cells c e (c.size, c.size + 1)) := by
      show ((w.drew.alloc (.cells c e)).heap.modify w.heap.size _)[w.heap.size]? = _
      rw [Array.getElem?_modify, if_pos rfl, xBI]
      simp
    have hold : ∀ k, k < w.heap.size → w'.heap[k]? = w.heap[k]? := by
      intro k hk
      show ((w.drew.alloc (.cells c e)).heap.modify w.heap.size _)[k]? = _
      rw [Array.getElem?_modify, if_neg (by omega), Go.RowKit.Below.heap_alloc w.drew _ k hk]
      rfl
    obtain ⟨hI', hK⟩ := hI.newB (w' := w') ⟨lvl, site⟩ hb ⟨false, false, 1, q.map fun c => [.int .u8 c.toNat]⟩ c e (c.size, c.size + 1) (by
        show ((w.drew.alloc (.cells c e)).heap.modify w.heap.size _).size = _
        simp) hold hnew (by simp; omega) rfl rfl rfl rfl (by simp) (by simp) (by
        intro _ e1 h1 c1 h2
        simp at h1
        obtain ⟨b, _, rfl⟩ := h1
        simp at h2
        subst h2
        rfl) (by simp) (by simp [hcs]; omega) (by
        intro i j el p h1 h2
        simp only at h1
        rw [List.getElem?_map] at h1
        obtain ⟨b, hb, rfl⟩ := map_some h1
        cases j with
        | zero =>
          simp at h2
          subst h2
          have hlt : i < q.length := (List.getElem?_eq_some_iff.1 hb).1
          refine ⟨.int .u8 b.toNat, ?_, CRel.int _ _⟩
          simp only [Nat.mul_one, Nat.add_zero, c]
          rw [Array.getElem?_append_left (by simpa using hlt)]
          simp [hb]
        | succ j => simp at h2) (by
        intro _ j x hj hx
        have hj : (q.map fun c => [PV.int .u8 c.toNat]).length * 1 ≤ j := hj
        simp only [List.length_map, Nat.mul_one] at hj
        simp only [c] at hx
        rw [Array.getElem?_append_right (by simpa using hj), Array.getElem?_replicate] at hx
        split at hx
        · cases hx
          exact ⟨.int .u8 0, rfl, fun _ _ => CRel.int _ _⟩
        · cases hx) (fun _ h => absurd rfl h)
    refine ⟨.slice (some ⟨w.heap.size, 0, none⟩) q.length cap, w', F, _, .inl ?_, hI', hK, ?_⟩
    · have hsz : (⟨q.toArray⟩ : ByteArray).size = q.length := by simp [ByteArray.size]
      have hshape : (w.drew.alloc (.cells c e)).shape? w.heap.size = some (e, c.size) := by
        simp only [World.shape?, xBI]
      have hsb : (Conv.stringToBytes e ⟨q.toArray⟩).run P w = .ok (.slice (some ⟨w.heap.size, 0, none⟩) q.length cap) w' := by
        unfold Conv.stringToBytes
        simp only [Sem.run_bind, run_choose, Question.forced, Bool.false_eq_true, if_false, Result.andThen_ok, hsz]
        show ((newRow e ((q.toArray.map fun b => (.int .u8 b.toNat : Value)) ++ Array.replicate (grownCap w q.length 0 e - q.length) (.int .u8 0))).run P w.drew).andThen _ = _
        rw [hcap]
        show ((newRow e c).run P w.drew).andThen _ = _
        simp only [newRow, Sem.run_bind, run_newObj, Result.andThen_ok, Sem.run_pure, markStringish]
        show (((shape w.heap.size).run P (w.drew.alloc (.cells c e))).andThen _).andThen _ = _
        simp only [run_shape, hshape, Result.andThen_ok, run_freeze]
        show Result.ok (Value.slice (some ⟨w.heap.size, 0, none⟩) q.length (grownCap w q.length 0 e)) w' = _
        rw [hcap]
      simp only [execOp, ho, xCG hv, Go.convert, Sem.run_bind, run_underlying hs, run_underlying hd, run_underlying he, Result.andThen_ok, hsb, Sem.run_pure]
    · refine xEh (w := w) rfl (by simp) hge ?_
      unfold xA6
      rw [hnew]
      simp [hcs]
  · cases hr1
theorem xJw {n esz : Nat} {cs : List PV} {i : Nat} {el : List PV} (h : (xI2 n esz cs)[i]? = some el) : i < n ∧ el = (cs.drop (i * esz)).take esz := by
  simp only [xI2, List.getElem?_map] at h
  obtain ⟨j, hj, rfl⟩ := map_some h
  have := List.getElem?_eq_some_iff.1 hj
  obtain ⟨h1, h2⟩ := this
  simp at h1 h2
  subst h2
  exact ⟨h1, rfl⟩
theorem xPe (hI : Inv Γ F μ hf w) (hT : TRel F μ hf w tf a) {t e : TypeId} {m n : Nat} {x : Operand} {lo hi : Option Operand} {vx : VX} {vlo vhi : Option VX} (ho : o.op = .slice t x lo hi none) (ht : P.underlying t = some (.array m e)) (hn : xA5 P e = some n) (hx : cx x = some vx) (hl : cxo lo = some vlo) (hh : cxo hi = some vhi)
    (hr : vop lvl site tf hf (.slarr m n vx vlo vhi) = some r) : Sim P Γ o a F μ hf w r := by
  obtain ⟨p, hp, hr0⟩ := bind_some hr
  clear hr
  have hv := xAO hI hT hx hp
  cases p <;> (try (cases hr0; done))
  rename_i b hw i j
  obtain ⟨l, el, hr1⟩ := bind_some hr0
  clear hr0
  obtain ⟨h, eh, hr2⟩ := bind_some hr1
  clear hr1
  obtain ⟨B, hb, hr3⟩ := bind_some hr2
  clear hr2
  obtain ⟨e0, he0, hr4⟩ := bind_some hr3
  clear hr3
  split at hr4
  · rename_i hcc
    obtain ⟨c1, c2, c3, c4, c5, c6, c7, c8⟩ := hcc
    cases hr4
    subst c1; subst c2; subst c3
    obtain ⟨⟨ad, hav⟩, B0, hb0, hle, hptr⟩ := xEN hv
    rw [hb] at hb0
    cases hb0
    have hB := hI.blk b B hb
    have hi0 : i = 0 := by have := (List.getElem?_eq_some_iff.1 he0).1; omega
    subst hi0
    cases hm : μ b with
    | none =>
      have := hB.2.2.2.2
      rw [hm] at this
      rw [this.1] at c8
      simp at c8
    | some k =>
      have ha := hptr c8.symm k hm
      simp only [Nat.zero_mul, Nat.zero_add] at ha
      obtain ⟨c, ee, fz, hcc, hfz, hE, hrow⟩ := xFp hI hb hm (fun h => by simp_all)
      have hels : B.els = [e0] := by
        cases hq : B.els with
        | nil => rw [hq] at c8; simp at c8
        | cons y ys =>
          rw [hq] at c8 he0
          simp at c8 he0
          rw [c8, he0]
      obtain ⟨hI', hK⟩ := hI.upd (w' := w) b { B with frz := true } (μ b) (fun k' => F k' ∨ (true = true ∧ μ b = some k')) rfl rfl rfl (Nat.le_refl _) (fun _ _ _ => rfl) (fun _ => Iff.rfl) (.inl ⟨B, hb, rfl⟩) (fun _ _ _ => rfl) (fun B1 h1 => by
          rw [hb] at h1; cases h1
          exact ⟨rfl, Nat.le_refl _, fun _ => ⟨rfl, rfl, fun _ _ => rfl⟩⟩) (fun hK => ⟨⟨hB.1.1, xDW hB.1.2 rfl rfl rfl (by simp [updM]) (fun _ _ => rfl)⟩, hB.2.1, fun _ e1 h1 c1 h2 => by
            have h1 : e1 ∈ B.els := h1
            rw [hels] at h1
            simp at h1
            subst h1
            rw [List.all_eq_true] at c7
            exact c7 c1 h2, fun _ => .inl c8, by
          have hmm : updM μ b (μ b) b = some k := by simp [updM, hm]
          rw [hmm]
          refine ⟨fun _ => .inr ⟨rfl, hm⟩, fun h => by simp at h, .inl ⟨c, ee, fz, hcc, hfz, hE.1, fun i j el p h1 h2 => ?_⟩⟩
          obtain ⟨x, hx, hs⟩ := hE.2.2 i j el p h1 h2
          exact ⟨x, hx, hs.keeps hK⟩⟩)
      have hb := xDC (P := P) (w := w) (isSlice := false) (len := m) (cap := m) (mx := none) (vmx := none) (m := (m : Int)) hI hT hl hh rfl el eh rfl (by simp) (by omega) (by omega) (by omega) (by omega)
      simp only [Option.map_none] at hb
      have hmne : ((m : Int).toNat = (0 : Int).toNat) = False := by simp; omega
      refine ⟨.slice (some ⟨k, j, none⟩) m m, w, _, _, .inl ?_, hI', hK, ?_⟩
      · simp only [execOp, ho, ha, Instr.sliceAt, Sem.run_bind, run_underlying ht, Result.andThen_ok, Instr.sureAddr, Sem.run_pure, Option.map_none, hb, xAU hn, hmne, if_false]
        simp [Addr.add]
      · have hlen : (xI2 m n (e0.drop j)).length = m := by simp [xI2]
        have hrel : ∀ (i2 j2 : Nat) (el : List PV) (p : PV), (xI2 m n (e0.drop j))[i2]? = some el → el[j2]? = some p → e0[j + i2 * n + j2]? = some p ∧ i2 < m ∧ j2 < n := by
          intro i2 j2 el p h1 h2
          obtain ⟨h3, rfl⟩ := xJw h1
          rw [List.getElem?_take, List.getElem?_drop, List.getElem?_drop] at h2
          split at h2
          · rename_i h4
            exact ⟨by rw [← h2]; congr 1; omega, h3, h4⟩
          · cases h2
        have hC := CRel.sh (F := fun k' => F k' ∨ (true = true ∧ μ b = some k')) (w := w) false (xI2 m n (e0.drop j)) k j m n (fun i2 j2 => (c[j + i2 * n + j2]?).getD undef) (.inr ⟨rfl, hm⟩) (by rw [hlen]; exact Nat.le_refl _) (by simp) c5 (fun e1 h1 => by
            obtain ⟨i1, hi1⟩ := List.mem_iff_getElem?.1 h1
            obtain ⟨h3, rfl⟩ := xJw hi1
            have : (i1 + 1) * n ≤ m * n := Nat.mul_le_mul_right _ h3
            rw [Nat.add_mul] at this
            simp
            omega) (fun i2 j2 el p h1 h2 => by
            obtain ⟨h3, h4, h5⟩ := hrel i2 j2 el p h1 h2
            obtain ⟨x, hx, hs⟩ := hE.2.2 0 _ e0 p he0 h3
            simp only [Nat.zero_mul, Nat.zero_add] at hx
            rw [cell_of_row w k _ c ee fz hcc, hx]
            rfl) (fun i2 j2 el p h1 h2 => by
            obtain ⟨h3, h4, h5⟩ := hrel i2 j2 el p h1 h2
            obtain ⟨x, hx, hs⟩ := hE.2.2 0 _ e0 p he0 h3
            simp only [Nat.zero_mul, Nat.zero_add] at hx
            simp only [hx, Option.getD_some]
            rw [List.all_eq_true] at c7
            have := (SRel.of_closed (c7 p (List.mem_of_getElem? h3))).1 hs
            exact this.mono (fun _ h => .inl h) (fun _ _ => rfl))
        rw [hlen] at hC
        exact hC
  · cases hr4
theorem xIp : ∀ (ks ls : List Nat) (ps qs : List PV) (b : Bool), xAv (ks ++ ls) ps qs = some b →
    ∃ b1 b2, b = (b1 && b2) ∧ xAv ks (ps.take ks.length) (qs.take ks.length) = some b1 ∧ xAv ls (ps.drop ks.length) (qs.drop ks.length) = some b2
  | [], ls, ps, qs, b, h => ⟨true, b, rfl, by simp [xAv], by simpa using h⟩
  | k :: ks, ls, ps, qs, b, h => by
    cases ps with
    | nil => simp [xAv] at h
    | cons p ps =>
      cases qs with
      | nil => simp [xAv] at h
      | cons q qs =>
        simp only [List.cons_append, xAv] at h
        obtain ⟨e, he, h⟩ := bind_some h
        obtain ⟨b', hb', rfl⟩ := map_some h
        obtain ⟨b1, b2, rfl, h1, h2⟩ := xIp ks ls ps qs b' hb'
        refine ⟨e && b1, b2, by rw [Bool.and_assoc], ?_, by simpa using h2⟩
        simp only [List.length_cons, List.take_succ_cons, xAv, he, h1, Option.bind_some, Option.map_some]
theorem xIo : ∀ (ks : List Nat) (ps qs : List PV) (b : Bool), xAv ks ps qs = some b → ps.length = ks.length ∧ qs.length = ks.length
  | [], [], [], _, _ => ⟨rfl, rfl⟩
  | [], [], _ :: _, _, h => by simp [xAv] at h
  | [], _ :: _, _, _, h => by simp [xAv] at h
  | k :: ks, [], _, _, h => by simp [xAv] at h
  | k :: ks, _ :: _, [], _, h => by simp [xAv] at h
  | k :: ks, p :: ps, q :: qs, b, h => by
    simp only [xAv] at h
    obtain ⟨e, he, h⟩ := bind_some h
    obtain ⟨b', hb', rfl⟩ := map_some h
    obtain ⟨h1, h2⟩ := xIo ks ps qs b' hb'
    exact ⟨by simp [h1], by simp [h2]⟩
def At (F : Nat → Prop) (w : World) (ps : List PV) (X : Array Value) (off : Nat) : Prop := ∀ (i : Nat) (p : PV), ps[i]? = some p → ∃ x, X[off + i]? = some x ∧ CRel F w p x
theorem At.take {ps : List PV} {X : Array Value} {off : Nat} (h : At F w ps X off) (n : Nat) : At F w (ps.take n) X off := fun i p hi => by
  rw [List.getElem?_take] at hi
  split at hi
  · exact h i p hi
  · cases hi
theorem At.drop {ps : List PV} {X : Array Value} {off : Nat} (h : At F w ps X off) (n : Nat) : At F w (ps.drop n) X (off + n) := fun i p hi => by
  rw [List.getElem?_drop] at hi
  have := h _ p hi
  rw [Nat.add_assoc]
  exact this
def EqOk (P : Program) (F : Nat → Prop) (w : World) (d : Nat) (t : TypeId) (ks : List Nat) : Prop :=
  ∀ D, d ≤ D → ∀ (X Y : Array Value) (off : Nat) (ps qs : List PV) (b : Bool), xAv ks ps qs = some b → At F w ps X off → At F w qs Y off → xA5 P t = some ks.length →
    ∃ u v, (part t X off).run P w = .ok u w ∧ (part t Y off).run P w = .ok v w ∧ (Op.equalIn D t u v).run P w = .ok b w
theorem xEr (d D : Nat) (hD : d ≤ D) (ih : ∀ t ks, xJK P d t = some ks → EqOk P F w d t ks) : ∀ (fs : List Field) (n : Nat) (ks : List Nat), xD3 P (xJK P d) n fs = some ks →
    ∀ (X Y : Array Value) (ps qs : List PV) (b : Bool), xAv ks ps qs = some b → At F w ps X n → At F w qs Y n → (Op.eqFields D X Y fs).run P w = .ok b w
  | [], n, ks, h, X, Y, ps, qs, b, he, hX, hY => by
    cases h
    cases ps <;> cases qs <;> simp [xAv] at he
    subst he
    simp [Op.eqFields]
  | f :: fs, n, ks, h, X, Y, ps, qs, b, he, hX, hY => by
    obtain ⟨m, hm, h⟩ := bind_some h
    split at h
    · rename_i hc
      obtain ⟨c1, c2, c3⟩ := hc
      obtain ⟨ls, hls, rfl⟩ := map_some h
      obtain ⟨b1, b2, rfl, h1, h2⟩ := xIp m ls ps qs b he
      obtain ⟨u, v, g1, g2, g3⟩ := ih f.type m hm D hD X Y n _ _ b1 h1 (hX.take _) (hY.take _) c3
      have hrest := xEr d D hD ih fs (n + m.length) ls hls X Y _ _ b2 h2 (hX.drop _) (hY.drop _)
      rw [Op.eqFields, if_pos c1, c2]
      simp only [Sem.run_bind, g1, g2, g3, Result.andThen_ok]
      cases b1
      · simp
      · simpa using hrest
    · cases h
theorem xEf {t : TypeId} {dd : TypeDesc} {X : Array Value} {off : Nat} {x : Value} (ht : P.underlying t = some dd) (hd : (∀ fs, dd ≠ .struct fs) ∧ (∀ n e, dd ≠ .array n e)) (hx : X[off]? = some x) : (part t X off).run P w = .ok x w := by
  have hg : xC1 P t = some false := by
    unfold xC1
    rw [ht]
    cases dd <;> first | rfl | exact (hd.1 _ rfl).elim | exact (hd.2 _ _ rfl).elim
  unfold part
  rw [Sem.run_bind, xHx hg]
  simp [hx]
theorem xN4 : ∀ (d : Nat) (t : TypeId) (ks : List Nat), xJK P d t = some ks → EqOk P F w d t ks
  | 0, t, ks, h => by cases h
  | d + 1, t, ks, h => by
    obtain ⟨dd, ht, h⟩ := bind_some h
    intro D hD X Y off ps qs b he hX hY hsz
    obtain ⟨D, rfl⟩ : ∃ D', D = D' + 1 := ⟨D - 1, by omega⟩
    have scal : ∀ k, ks = [k] → (∀ fs, dd ≠ .struct fs) ∧ (∀ n e, dd ≠ .array n e) → (∀ p q x y, xB3 k p q = some b → CRel F w p x → CRel F w q y → (Op.equalIn (D + 1) t x y).run P w = .ok b w) →
        ∃ u v, (part t X off).run P w = .ok u w ∧ (part t Y off).run P w = .ok v w ∧ (Op.equalIn (D + 1) t u v).run P w = .ok b w := by
      rintro k rfl hdd hcell
      cases ps with
      | nil => simp [xAv] at he
      | cons p ps =>
        cases qs with
        | nil => simp [xAv] at he
        | cons q qs =>
          simp only [xAv] at he
          obtain ⟨e, he1, he⟩ := bind_some he
          obtain ⟨b', hb', rfl⟩ := map_some he
          obtain ⟨x, hx, hcx⟩ := hX 0 p rfl
          obtain ⟨y, hy, hcy⟩ := hY 0 q rfl
          have hb1 : b' = true := by
            cases ps <;> cases qs <;> simp [xAv] at hb'
            exact hb'
          subst hb1
          rw [Bool.and_true] at hcell ⊢
          exact ⟨x, y, xEf ht hdd hx, xEf ht hdd hy, hcell p q x y he1 hcx hcy⟩
    cases dd <;> (try (cases h; done))
    case bool =>
      cases h
      refine scal 0 rfl (by simp) (fun p q x y h1 h2 h3 => ?_)
      cases p <;> cases q <;> simp only [xB3] at h1 <;> (try (cases h1; done))
      cases h2; cases h3; cases h1
      exact run_equalIn_bool' w D t _ _ ht
    case int kk =>
      cases h
      refine scal 1 rfl (by simp) (fun p q x y h1 h2 h3 => ?_)
      cases p <;> cases q <;> simp only [xB3] at h1 <;> (try (cases h1; done))
      cases h2; cases h3
      split at h1
      · rename_i hk
        subst hk
        cases h1
        exact run_equalIn_int w D t _ kk _ _ ht
      · cases h1
    case string =>
      cases h
      refine scal 2 rfl (by simp) (fun p q x y h1 h2 h3 => ?_)
      cases p <;> cases q <;> simp only [xB3] at h1 <;> (try (cases h1; done))
      cases h2; cases h3; cases h1
      rw [run_equalIn_string w D t _ _ ht]
      simp
    case struct fs =>
      have h : (if P.stoodInHeld t then none else xD3 P (xJK P d) 0 fs.toList) = some ks := h
      split at h
      · cases h
      · rename_i hst
        have hg : xC1 P t = some true := by unfold xC1; rw [ht]; rfl
        obtain ⟨l1, l2⟩ := xIo ks ps qs b he
        have sub : ∀ (Z : Array Value) (rs : List PV), At F w rs Z off → rs.length = ks.length → At F w rs (Z.extract off (off + ks.length)) 0 := fun Z rs hZ hl i p hi => by
          obtain ⟨z, hz, hc⟩ := hZ i p hi
          have : i < rs.length := (List.getElem?_eq_some_iff.1 hi).1
          have hz2 := (Array.getElem?_eq_some_iff.1 hz).1
          refine ⟨z, ?_, hc⟩
          rw [Array.getElem?_extract, if_pos (by omega), Nat.zero_add]
          exact hz
        have hfo : P.fieldsOf t = fs := by simp [Program.fieldsOf, ht]
        refine ⟨_, _, by rw [xHR hg hsz]; rfl, by rw [xHR hg hsz]; rfl, ?_⟩
        rw [run_equalIn_struct (P := P) w D t _ _ (by rw [hfo]; exact ht) (by simpa using hst), hfo]
        exact xEr d D (by omega) (fun t ks h => xN4 d t ks h) fs.toList 0 ks h _ _ ps qs b he (sub X ps hX l1) (sub Y qs hY l2)
theorem xPm (hI : Inv Γ F μ hf w) (hT : TRel F μ hf w tf a) {op : BinOp} {neg : Bool} {ks : List Nat} {t u : TypeId} {x y : Operand} {vx vy : VX} {fs : Array Field} (ho : o.op = .binOp op t x y u) (hop : op = (if neg then .neq else .eql)) (ht : P.underlying t = some (.struct fs)) (hg : P.eqGuardType P.depth t = false) (hks : xJK P 20 t = some ks) (h7 : ks ≠ [7]) (hx : cx x = some vx) (hy : cx y = some vy)
    (hr : vop lvl site tf hf (.eqc neg ks vx vy) = some r) : Sim P Γ o a F μ hf w r := by
  obtain ⟨p, hp, hr1⟩ := bind_some hr
  clear hr
  obtain ⟨q, hq, hr⟩ := bind_some hr1
  clear hr1
  have hvx := xAO hI hT hx hp
  have hvy := xAO hI hT hy hq
  have hz : ∃ ps qs, p = .agg ps ∧ q = .agg qs := by
    cases p <;> cases q <;> first
      | exact ⟨_, _, rfl, rfl⟩
      | (cases hr; done)
      | (have hr : (if ks = [7] then _ else none) = some r := hr; rw [if_neg h7] at hr; cases hr)
  obtain ⟨ps, qs, rfl, rfl⟩ := hz
  obtain ⟨b, hb, hr2⟩ := bind_some hr
  clear hr
  obtain ⟨h1, h2, _⟩ := xAV hr2
  obtain ⟨X, hX, hXs, hXr⟩ := xFi hvx
  obtain ⟨Y, hY, hYs, hYr⟩ := xFi hvy
  have hclosed : ∀ (ks : List Nat) (ps qs : List PV) (b : Bool), xAv ks ps qs = some b → (∀ (i : Nat) (p : PV), ps[i]? = some p → V.closed p = true) ∧ (∀ (i : Nat) (p : PV), qs[i]? = some p → V.closed p = true) := by
    intro ks
    induction ks with
    | nil => intro ps qs b h; cases ps <;> cases qs <;> simp [xAv] at h ⊢
    | cons k ks ih =>
      intro ps qs b h
      cases ps with
      | nil => simp [xAv] at h
      | cons p ps =>
        cases qs with
        | nil => simp [xAv] at h
        | cons q qs =>
          simp only [xAv] at h
          obtain ⟨e, he1, h⟩ := bind_some h
          obtain ⟨b', hb', rfl⟩ := map_some h
          obtain ⟨i1, i2⟩ := ih ps qs b' hb'
          have hc : V.closed p = true ∧ V.closed q = true := by
            unfold xB3 at he1
            split at he1 <;> first | exact ⟨rfl, rfl⟩ | (cases he1; done)
          exact ⟨fun i z hz => by cases i with
            | zero => simp at hz; subst hz; exact hc.1
            | succ i => exact i1 i z (by simpa using hz), fun i z hz => by cases i with
            | zero => simp at hz; subst hz; exact hc.2
            | succ i => exact i2 i z (by simpa using hz)⟩
  obtain ⟨k1, k2⟩ := hclosed ks ps qs b hb
  have hAX : At F w ps X 0 := fun i p hi => by
    have hlt : i < ps.length := (List.getElem?_eq_some_iff.1 hi).1
    have hz : X[i]? = some (X[i]'(by omega)) := Array.getElem?_eq_getElem (by omega)
    exact ⟨_, by rw [Nat.zero_add]; exact hz, (SRel.of_closed (k1 i p hi)).1 (hXr i p _ hi hz)⟩
  have hAY : At F w qs Y 0 := fun i p hi => by
    have hlt : i < qs.length := (List.getElem?_eq_some_iff.1 hi).1
    have hz : Y[i]? = some (Y[i]'(by omega)) := Array.getElem?_eq_getElem (by omega)
    exact ⟨_, by rw [Nat.zero_add]; exact hz, (SRel.of_closed (k2 i p hi)).1 (hYr i p _ hi hz)⟩
  have hfo : P.fieldsOf t = fs := by simp [Program.fieldsOf, ht]
  have hflat : xJK P 20 t = if P.stoodInHeld t then none else xD3 P (xJK P 19) 0 fs.toList := by
    show ((P.underlying t).bind _) = _
    rw [ht]
    rfl
  rw [hflat] at hks
  split at hks
  · cases hks
  · rename_i hst
    have hrun := xEr 19 9999 (by omega) (fun t ks h => xN4 19 t ks h) fs.toList 0 ks hks X Y ps qs b hb hAX hAY
    have heq : (Op.equalIn 10000 t (.agg X) (.agg Y)).run P w = .ok b w := by
      show (Op.equalIn (9999 + 1) t (.agg X) (.agg Y)).run P w = .ok b w
      rw [run_equalIn_struct (P := P) w 9999 t _ _ (by rw [hfo]; exact ht) (by simpa using hst), hfo]
      exact hrun
    have hgd := run_eqGuard_agg (P := P) w op t x y X Y hg
    refine Sim.pure hI (rv := .bool (if neg then !b else b)) ?_ h1 (h2 ▸ VRel.bool _)
    subst hop
    cases neg
    · simp only [Bool.false_eq_true, if_false] at ho hgd ⊢
      simp only [execOp, ho, hX, hY, Sem.run_bind, hgd, Result.andThen_ok, run_eql_struct, heq, Sem.run_pure]
    · simp only [if_true] at ho hgd ⊢
      simp only [execOp, ho, hX, hY, Sem.run_bind, hgd, Result.andThen_ok, run_neq_struct, heq, Sem.run_pure]
theorem xPl (hI : Inv Γ F μ hf w) (hT : TRel F μ hf w tf a) {neg : Bool} {op : BinOp} {t u e : TypeId} {x y : Operand} {vx : VX} (ho : o.op = .binOp op t x y u) (hop : op = (if neg then .neq else .eql)) (ht : P.underlying t = some (.pointer e)) (hy : xIZ y = true) (hx : cx x = some vx)
    (hr : vop lvl site tf hf (.eqc neg [7] vx (.c .nilp)) = some r) : Sim P Γ o a F μ hf w r := by
  obtain ⟨p, hp, hr1⟩ := bind_some hr
  clear hr
  have hv := xAO hI hT hx hp
  obtain ⟨z, rfl⟩ : ∃ z, y = .const z := by
    unfold xIZ at hy
    split at hy
    · exact ⟨_, rfl⟩
    · cases hy
  have hyv : z = .pointer none := by
    unfold xIZ at hy
    split at hy
    · next h => cases h; rfl
    · cases hy
  subst hyv
  have hye : a.eval (.const (.pointer none)) = .pointer none := rfl
  have main : ∀ (ad : Option Addr) (b : Bool), a.eval x = .pointer ad → b = ad.isNone → retV (.bool (if neg then !b else b)) = some r → Sim P Γ o a F μ hf w r := by
    intro ad b he hb hr
    obtain ⟨h1, h2, _⟩ := xAV hr
    have hg : (eqGuard op t x (.const (.pointer none)) (.pointer ad) (.pointer none)).run P w = .ok () w := by cases op <;> simp [eqGuard]
    have he' : (Op.equal t (.pointer ad) (.pointer none)).run P w = .ok b w := by
      show (Op.equalIn (9999 + 1) t _ _).run P w = _
      unfold Op.equalIn
      rw [Sem.run_bind, run_underlying ht]
      subst hb
      cases ad <;> rfl
    refine Sim.pure hI (rv := .bool (if neg then !b else b)) ?_ h1 (by rw [h2]; exact VRel.bool _)
    subst hop
    cases neg
    · simp only [Bool.false_eq_true, if_false] at ho hg ⊢
      simp only [execOp, ho, he, hye, Sem.run_bind, hg, Result.andThen_ok, Go.binOp, he', Sem.run_pure]
    · simp only [if_true] at ho hg ⊢
      simp only [execOp, ho, he, hye, Sem.run_bind, hg, Result.andThen_ok, Go.binOp, he', Sem.run_pure]
  cases p <;> (try (cases hr1; done))
  case nilp =>
    have hr : retV (.bool (if neg then false else true)) = some r := hr1
    exact main none true (xTP hv) rfl (by cases neg <;> exact hr)
  case sptr l i j =>
    have hr : retV (.bool (if neg then true else false)) = some r := hr1
    have h := xFB hv
    generalize a.eval x = v at h main
    cases h
    exact main _ false rfl rfl (by cases neg <;> exact hr)
  case ptr b hw i j =>
    have hr : retV (.bool (if neg then true else false)) = some r := hr1
    obtain ⟨⟨ad, he⟩, _⟩ := xEN hv
    exact main (some ad) false he rfl (by cases neg <;> exact hr)
end
end Go.V
set_option linter.unusedVariables false
set_option linter.unusedSimpArgs false
namespace Go.V
section
variable {P : Program} {Γ : Ctx} {o : Oper} {a : Act} {F : Nat → Prop} {μ : Bid → Option Nat} {hf : HF} {w : World} {r : Res} {tf : TF} {lvl site : Nat}
theorem xUy (hI : Inv Γ F μ hf w) (hT : TRel F μ hf w tf a) {c : Call} {x : Operand} {t e : TypeId} {vx : VX} (ho : o.op = .call c) (hc : c.callee = .builtin .cap) (hargs : c.args = #[x]) (htys : c.argTypes = #[t]) (ht : P.underlying t = some (.slice e)) (hx : cx x = some vx)
    (hr : vop lvl site tf hf (.cap vx) = some r) : Sim P Γ o a F μ hf w r := by
  obtain ⟨p, hp, hr⟩ := bind_some hr
  have hv := xAO hI hT hx hp
  have hexec : ∀ b n k, a.eval x = .slice b n k → (execOp a.eval o).run P w = .ok (.value (.int .i64 k)) w := by
    intro b n k h
    simp [execOp, ho, hc, resolve, hargs, htys, invoke, builtin, Builtin.cap_, run_underlying ht, h, goInt]
  cases p <;> (try (cases hr; done))
  case nils =>
    cases hr
    exact Sim.pure hI (rv := .int .i64 0) (hexec _ _ _ (xCD hv)) rfl (VRel.int _ _)
  case sh ex l =>
    cases ex with
    | false => cases hr
    | true =>
      cases hr
      generalize hax : a.eval x = ax at hv hexec
      have hC := xD0 hv
      cases hC with
      | shn => exact Sim.pure hI (rv := .int .i64 0) (hexec _ _ _ rfl) rfl (VRel.int _ _)
      | sh0 _ ad cap hex =>
        have := hex rfl
        subst this
        exact Sim.pure hI (rv := .int .i64 0) (hexec _ _ _ rfl) rfl (VRel.int _ _)
      | sh _ _ k o cap esz g hF hcap hex hesz hlen hc hr =>
        have := hex rfl
        subst this
        exact Sim.pure hI (rv := .int .i64 l.length) (hexec _ _ _ rfl) rfl (VRel.int _ _)
theorem ElsR.more {esz : Nat} {els : List (List PV)} {c d : Array Value} (h : ElsR F μ hf w esz els c) : ElsR F μ hf w esz els (c ++ d) := by
  refine ⟨by have := h.1; simp; omega, h.2.1, fun i j el p a b => ?_⟩
  obtain ⟨x, hx, hs⟩ := h.2.2 i j el p a b
  exact ⟨x, by rw [Array.getElem?_append_left (Array.getElem?_eq_some_iff.1 hx).1]; exact hx, hs⟩
theorem xSQ (hI : Inv Γ F μ hf w) (hT : TRel F μ hf w tf a) {cl : Call} {x y : Operand} {t u e : TypeId} {ku : IntKind} {vx vy : VX} {esz bytes : Nat} {z : List PV} (ho : o.op = .call cl) (hc : cl.callee = .builtin .append) (hargs : cl.args = #[x, y]) (htys : cl.argTypes = #[t, u])
    (ht : P.underlying t = some (.slice e)) (hu : P.underlying u = some (.int ku)) (hn : xA5 P e = some esz) (hby : xFK P e = some bytes) (hz : xDh P e = some z) (hx : cx x = some vx) (hy : cx y = some vy)
    (hr : vop lvl site tf hf (.appZ esz bytes z vx vy) = some r) : Sim P Γ o a F μ hf w r := by
  obtain ⟨p, hp, hr0⟩ := bind_some hr
  clear hr
  obtain ⟨q, hq, hr1⟩ := bind_some hr0
  clear hr0
  have hv := xAO hI hT hx hp
  have hvy := xAO hI hT hy hq
  obtain ⟨i, zv, hi, hisz, hiby, hiz, hzl, hzr⟩ := xKg hn hby hz
  have hform : ∃ k n, p = .nils ∧ q = .int k n := by
    cases p <;> (try (cases hr1; done))
    cases q <;> (try (cases hr1; done))
    exact ⟨_, _, rfl, rfl⟩
  obtain ⟨k, n, rfl, rfl⟩ := hform
  have hr2 : (if hf ⟨lvl, site⟩ = none ∧ 0 < n ∧ n * bytes ≤ xBB ∧ 0 < bytes ∧ z.length = esz ∧ 0 < esz ∧ z.all closed = true then
        some (⟨.own ⟨lvl, site⟩ n.toNat 0 n.toNat, [(⟨lvl, site⟩, ⟨false, false, esz, List.replicate n.toNat z⟩)], []⟩ : Res) else none) = some r := hr1
  clear hr1
  split at hr2
  · rename_i hcc
    obtain ⟨d1, d2, d3, d4, d5, d6, d7⟩ := hcc
    cases hr2
    have hmle : n ≤ n * bytes := by
      have h1 : n * 1 ≤ n * (bytes : Int) := Int.mul_le_mul_of_nonneg_left (by omega) (by omega)
      omega
    have hnn : ((n.toNat : Nat) : Int) = n := by omega
    have hrun := Lib.run_append_nil_zeros (P := P) w t u o.type e i zv k ku ht hu hi hiz n.toNat (by omega) (by omega) (by unfold xBB at d3; omega) (by
      rw [hiby]
      have : ((n.toNat * bytes : Nat) : Int) = n * bytes := by rw [Int.natCast_mul, hnn]
      unfold xBB at d3
      omega)
    rw [hnn] at hrun
    have hZ := xEZ (F := F) (μ := μ) (hf := hf) (w := w) (esz := esz) d5 d6 hzl (fun j p hp => hzr F w j p hp) n.toNat n.toNat (Nat.le_refl _)
    have hzc : (Array.range (n.toNat * esz)).map (zv.cells[· % zv.cells.size]!) = Builtin.zeroCells zv.cells n.toNat := by
      unfold Builtin.zeroCells
      rw [hzl, d5]
    rw [hzc] at hZ
    have hZ2 := hZ.more (d := Builtin.zeroCells zv.cells (grownCap w n.toNat 0 e - n.toNat))
    obtain ⟨hI', hK⟩ := hI.alloc (w1 := w.drew) ⟨lvl, site⟩ d1 ⟨false, false, esz, List.replicate n.toNat z⟩ _ e rfl rfl rfl rfl rfl d6 hZ2.2.1 (fun _ e he => by
      rw [(List.mem_replicate.1 he).2]
      rw [List.all_eq_true] at d7
      exact d7) (by simp) hZ2.1 hZ2.2.2 (fun _ j x _ hx => by
      rw [Array.getElem?_append] at hx
      split at hx
      · exact xCb hzl hzr _ _ x hx
      · exact xCb hzl hzr _ _ x hx)
    refine ⟨.slice (some ⟨w.heap.size, 0, none⟩) n.toNat (grownCap w n.toNat 0 e), _, F, _, .inl ?_, hI', hK, ?_⟩
    · simp [execOp, ho, hc, resolve, hargs, htys, invoke, builtin, xCD hv, xBO hvy, hrun]
    · refine xEh (w := w) rfl (by simp) (xCg _ _ _ _) ?_
      show grownCap w n.toNat 0 e * esz = _
      unfold xA6
      rw [xBI]
      have := xCg w n.toNat 0 e
      simp only [Builtin.zeroCells, Array.size_append, Array.size_map, Array.size_range, hzl, d5, ← Nat.add_mul]
      congr 1
      omega
  · cases hr2
theorem xPp (hI : Inv Γ F μ hf w) (hT : TRel F μ hf w tf a) {cl : Call} {x : Operand} {t e : TypeId} {vx : VX} {esz : Nat} {z : List PV} (ho : o.op = .call cl) (hc : cl.callee = .builtin .clear) (hargs : cl.args = #[x]) (htys : cl.argTypes = #[t])
    (ht : P.underlying t = some (.slice e)) (hn : xA5 P e = some esz) (hz : xDh P e = some z) (hx : cx x = some vx)
    (hr : vop lvl site tf hf (.clear esz z vx) = some r) : Sim P Γ o a F μ hf w r := by
  obtain ⟨p, hp, hr1⟩ := bind_some hr
  clear hr
  have hv := xAO hI hT hx hp
  obtain ⟨zv, hzrun, hzl, hzr⟩ := xFr (P := P) (F := F) (w := w) hz
  have hexec : ∀ w1, (Builtin.clear_ #[t] o.type #[a.eval x]).run P w = .ok (.tuple #[]) w1 → (execOp a.eval o).run P w = .ok (.value (.tuple #[])) w1 := by
    intro w1 h
    simp [execOp, ho, hc, resolve, hargs, htys, invoke, builtin, h]
  have ht0 : VRel F μ hf w (.tup []) (.tuple #[]) := ⟨#[], rfl, rfl, by simp⟩
  cases p <;> (try (cases hr1; done))
  case nils =>
    cases hr1
    refine Sim.pure hI (rv := .tuple #[]) (hexec _ ?_) rfl ht0
    rw [xCD hv]
    simp [Builtin.clear_, run_underlying ht]
  case she =>
    cases hr1
    obtain ⟨ad, cap, he⟩ := xFh hv
    refine Sim.pure hI (rv := .tuple #[]) (hexec _ ?_) rfl ht0
    rw [he]
    simp [Builtin.clear_, run_underlying ht]
  case own b hw off len =>
    obtain ⟨B, hb, hr2⟩ := bind_some hr1
    clear hr1
    split at hr2
    · rename_i hcc
      obtain ⟨d1, d2, d3, d4, d5, d6, d7, d8⟩ := hcc
      cases hr2
      obtain ⟨ad, cap, he, hsome, B0, hb0, hbox, hle, hcur⟩ := xBp hv
      rw [hb] at hb0
      cases hb0
      obtain ⟨g1, g2⟩ := hcur d1
      have hold := hI.blk b B hb
      have ht0' : ∀ (μ' : Bid → Option Nat) (hf' : HF) (w' : World), VRel F μ' hf' w' (.tup []) (.tuple #[]) := fun _ _ _ => ⟨#[], rfl, rfl, by simp⟩
      by_cases hl0 : len = 0
      · subst hl0
        have hels : B.els.take off ++ List.replicate 0 z ++ B.els.drop (off + 0) = B.els := by simp
        simp only [hels]
        have hup : xAj hf [(b, ({ B with els := B.els } : Blk))] = hf := xEa hb
        refine ⟨.tuple #[], w, F, μ, .inl (hexec _ ?_), by rw [hup]; exact hI, by rw [hup]; exact Keeps.refl, ht0' _ _ _⟩
        rw [he]
        cases ad <;> simp [Builtin.clear_, run_underlying ht]
      · cases hm : μ b with
        | none =>
          rw [hm] at g2
          exact absurd g2.2.2.1 hl0
        | some k =>
          rw [hm] at g2
          obtain ⟨oo, rfl, g3, g4, g5, g6⟩ := g2
          obtain ⟨c, ee, fz, hcc, hfz, hE, hrow⟩ := xFp hI hb hm (fun h => by simp_all)
          have hoo := g3 (by omega)
          have hfit : off * B.esz + len * B.esz ≤ c.size := by
            have : (off + len) * B.esz ≤ B.els.length * B.esz := Nat.mul_le_mul_right _ (by omega)
            rw [Nat.add_mul] at this
            have := hE.1
            omega
          have hZ := xEZ (F := F) (μ := μ) (hf := hf) (w := w) (esz := esz) d6 d7 hzl (fun j p hp => hzr j p hp) len len (Nat.le_refl _)
          have hzc : (Array.range (len * esz)).map (zv.cells[· % zv.cells.size]!) = Builtin.zeroCells zv.cells len := by
            unfold Builtin.zeroCells
            rw [hzl, d6]
          rw [hzc] at hZ
          have hzsz : (Builtin.zeroCells zv.cells len).size = len * esz := by simp [Builtin.zeroCells, hzl, d6]
          have hEA := xGy (ys := List.replicate len z) (xs := Builtin.zeroCells zv.cells len) hE off len (by simp) (by omega) (fun e1 h1 => by rw [(List.mem_replicate.1 h1).2, d6, d4]) (by rw [d4]; exact hzsz) (by
            rw [d4]
            intro i j el q h0 h1 h2
            exact hZ.2.2 i j el q h1 h2) hfit
          have hxl : (Builtin.zeroCells zv.cells len).toList.length = len * B.esz := by rw [d4]; simpa using hzsz
          have hsl : off * B.esz + (Builtin.zeroCells zv.cells len).toList.length ≤ c.size := by rw [hxl]; exact hfit
          have hst := xBX P k (off * B.esz) ee fz (Builtin.zeroCells zv.cells len).toList 0 c w hcc hfz (by simpa using hsl) (fun v hv => by
            obtain ⟨m, hm1, hm2⟩ := List.getElem_of_mem hv
            have hm1' : m < len * esz := by rw [hxl, d4] at hm1; exact hm1
            have hi1 : m / esz < len := Nat.div_lt_of_lt_mul (by rw [Nat.mul_comm]; exact hm1')
            have hj1 : m % esz < esz := Nat.mod_lt _ d7
            obtain ⟨x', hx', hs'⟩ := hZ.2.2 (m / esz) (m % esz) z (z[m % esz]'(by omega)) (by rw [List.getElem?_replicate, if_pos hi1]) (List.getElem?_eq_getElem (by omega))
            rw [Nat.div_add_mod'] at hx'
            have : (Builtin.zeroCells zv.cells len).toList[m]? = some x' := by simpa using hx'
            rw [List.getElem?_eq_getElem hm1] at this
            simp only [Option.some.injEq] at this
            rw [← hm2, this]
            have hcl : closed (z[m % esz]'(by omega)) = true := by
              rw [List.all_eq_true] at d8
              exact d8 _ (List.getElem_mem _)
            exact ((SRel.of_closed hcl).1 hs').oneCell)
          simp only [Nat.add_zero] at hst
          have hlen' : (B.els.take off ++ List.replicate len z ++ B.els.drop (off + len)).length = B.els.length := by
            have := xIG B.els (List.replicate len z) off (by omega)
            rw [List.length_replicate] at this
            rw [this]
            omega
          obtain ⟨hI', hK⟩ := hI.write b B { B with els := B.els.take off ++ List.replicate len z ++ B.els.drop (off + len) } hb k hm c _ ee fz hcc d3 d3 rfl rfl (by rw [hlen']; exact Nat.le_refl _) (xCE c _ _ hsl) hEA.2.1 (fun _ e1 h1 => by
              simp only [List.mem_append] at h1
              rcases h1 with (h | h) | h
              · exact hold.2.2.1 (.inl d2) e1 (List.mem_of_mem_take h)
              · rw [(List.mem_replicate.1 h).2]
                rw [List.all_eq_true] at d8
                exact d8
              · exact hold.2.2.1 (.inl d2) e1 (List.mem_of_mem_drop h)) (by simp [d2]) hEA.1 hEA.2.2 (fun _ j x hj hx => xED c _ _ hsl (by
                have h9 : (off + len) * B.esz ≤ (B.els.take off ++ List.replicate len z ++ B.els.drop (off + len)).length * B.esz := Nat.mul_le_mul_right _ (by rw [hlen']; omega)
                rw [Nat.add_mul off] at h9
                have hj : (B.els.take off ++ List.replicate len z ++ B.els.drop (off + len)).length * B.esz ≤ j := hj
                omega) hx)
          refine ⟨.tuple #[], _, F, _, .inl (hexec _ ?_), hI', hK, ht0' _ _ _⟩
          rw [he, hoo]
          obtain ⟨len', rfl⟩ : ∃ m, len = m + 1 := ⟨len - 1, by omega⟩
          simp only [Builtin.clear_, List.getElem?_toArray, List.getElem?_cons_zero, Sem.run_bind, run_underlying ht, Result.andThen_ok, hzrun, hst, Sem.run_pure]
    · cases hr2
end
end Go.V
set_option linter.unusedVariables false
set_option linter.unusedSimpArgs false
namespace Go.V
section
variable {P : Program} {Γ : Ctx} {o : Oper} {a : Act} {F : Nat → Prop} {μ : Bid → Option Nat} {hf : HF} {w : World} {r : Res} {tf : TF} {lvl site : Nat}
theorem xGi {B : Blk} {es : List (List PV)} (h : xOq B = some es) : B.box = true ∧ B.frz = false ∧ B.els.length = 2 ∧ ∃ y, B.els = [[.mp es], y] := by
  unfold xOq at h
  split at h
  · rename_i es' y h1 h2 h3
    cases h
    exact ⟨h1, h2, by rw [h3]; rfl, y, h3⟩
  · cases h
def kkD : Nat → TypeDesc → Prop
  | 0, .bool => True
  | 1, .int _ => True
  | 2, .string => True
  | _, _ => False
theorem xUF {t : TypeId} {kk : Nat} (h : xIW P t = some kk) : ∃ d, P.underlying t = some d ∧ kkD kk d := by
  obtain ⟨d, hd, h⟩ := bind_some h
  refine ⟨d, hd, ?_⟩
  cases d <;> (try (cases h; done)) <;> (cases h; trivial)
theorem xLm {kk : Nat} {k : PV} (hk : xOv kk k = true) : clean k = true := by
  unfold xOv xB3 at hk
  split at hk <;> first | rfl | cases hk
theorem xKr (x y : List UInt8) : ((⟨x.toArray⟩ : ByteArray) == ⟨y.toArray⟩) = (x == y) := by
  rw [Bool.eq_iff_iff, MapKept.bytes_beq]
  simp
theorem xRK {F' : Nat → Prop} {w' : World} {kk : Nat} {d : TypeDesc} {k k' : PV} {x x' : Value} {e : Bool} (hd : kkD kk d) (he : xB3 kk k k' = some e) (h : CRel F w k x) (h' : CRel F' w' k' x') : Instr.sameNow d x x' = some e := by
  unfold xB3 at he
  split at he <;> (try (cases he; done))
  · cases d <;> (try (cases hd; done))
    cases h; cases h'; cases he; rfl
  · cases d <;> (try (cases hd; done))
    cases h; cases h'
    split at he
    · cases he; rename_i e1; subst e1; simp [Instr.sameNow]
    · cases he
  · cases d <;> (try (cases hd; done))
    cases h; cases h'; cases he
    simp only [Instr.sameNow, Option.some.injEq]
    exact xKr _ _
theorem xMs {F' : Nat → Prop} {w' : World} {kk : Nat} {k k' : PV} {x x' : Value} (he : xB3 kk k k' = some true) (h : CRel F w k x) (h' : CRel F' w' k' x') : x' = x ∧ k' = k ∧ ∀ n, Instr.sameBits n x x = true := by
  unfold xB3 at he
  split at he <;> (try (cases he; done))
  · cases h; cases h'; simp at he; subst he; exact ⟨rfl, rfl, fun n => by cases n <;> simp [Instr.sameBits]⟩
  · cases h; cases h'
    split at he
    · rename_i e1; subst e1; simp at he; subst he; exact ⟨rfl, rfl, fun n => by cases n <;> simp [Instr.sameBits]⟩
    · cases he
  · cases h; cases h'; simp at he; subst he; exact ⟨rfl, rfl, fun n => by cases n <;> simp [Instr.sameBits, MapKept.bytes_beq]⟩
theorem xG2 {kt : TypeId} {d : TypeDesc} {kk : Nat} {k : Value} (hd : P.underlying kt = some d) (hk : kkD kk d) (e : Bool) (n : Nat) : (Instr.checkKey e (n + 1) kt k).run P w = .ok () w := by
  unfold Instr.checkKey
  simp only [Sem.run_bind, run_underlying hd, Result.andThen]
  cases d <;> first | (cases kk with | zero => cases hk | succ kk => cases kk with | zero => cases hk | succ kk => cases kk with | zero => cases hk | succ kk => cases hk) | (cases k <;> simp_all)
theorem xN5 {kk : Nat} {d : TypeDesc} {k : PV} {x : Value} (hd : kkD kk d) (h : CRel F w k x) : ∀ (es : List (List PV)) (xs : List MapEntry) (n : Nat) (r : Option PV), EntL es xs → xQm kk k es = some r →
    (r = none ∧ Instr.findNow d x xs n = some none) ∨ ∃ v i e, r = some v ∧ Instr.findNow d x xs n = some (some (n + i, e.val)) ∧ xs[i]? = some e ∧ e.key = x ∧ clean v = true ∧ ∀ (F : Nat → Prop) (w : World), CRel F w v e.val
  | [], [], n, r, _, hr => by cases hr; exact .inl ⟨rfl, rfl⟩
  | [], _ :: _, _, _, hE, _ => hE.elim
  | _ :: _, [], _, _, hE, _ => hE.elim
  | e :: es, y :: xs, n, r, hE, hr => by
    obtain ⟨⟨k', v, rfl, h1, h2, h3⟩, hE⟩ := hE
    obtain ⟨b, hb, hr⟩ := bind_some hr
    have hs := xRK hd hb h (h1 F w)
    cases b with
    | true =>
      cases hr
      exact .inr ⟨v, 0, y, rfl, by simp [Instr.findNow, hs], rfl, (xMs hb h (h1 F w)).1, h2, h3⟩
    | false =>
      rcases xN5 hd h es xs (n + 1) r hE hr with ⟨rfl, h4⟩ | ⟨v', i, e, rfl, h4, h5, h6⟩
      · exact .inl ⟨rfl, by simp [Instr.findNow, hs, h4]⟩
      · exact .inr ⟨v', i + 1, e, rfl, by simp [Instr.findNow, hs, h4]; omega, by simpa using h5, h6⟩
theorem xQH {kk : Nat} {d : TypeDesc} {k v : PV} {x y : Value} (clock : Nat) (hd : kkD kk d) (h : ∀ (F : Nat → Prop) (w : World), CRel F w k x) (hv : clean v = true) (hy : ∀ (F : Nat → Prop) (w : World), CRel F w v y) :
    ∀ (es es' : List (List PV)) (xs : List MapEntry) (n : Nat), EntL es xs → mput kk k v es = some es' →
    (Instr.findNow d x xs n = some none ∧ EntL es' (xs ++ [{ key := x, val := y, born := clock }])) ∨
    ∃ i e, Instr.findNow d x xs n = some (some (n + i, e.val)) ∧ xs[i]? = some e ∧ e.key = x ∧ EntL es' (xs.modify i fun e => { e with key := x, val := y })
  | [], es', [], n, _, hr => by cases hr; exact .inl ⟨rfl, ⟨k, v, rfl, h, hv, hy⟩, trivial⟩
  | [], _, _ :: _, _, hE, _ => hE.elim
  | _ :: _, _, [], _, hE, _ => hE.elim
  | e :: es, es', z :: xs, n, hE, hr => by
    obtain ⟨⟨k', v', rfl, h1, h2, h3⟩, hE⟩ := hE
    obtain ⟨b, hb, hr⟩ := bind_some hr
    have hs := xRK (w := default) (w' := default) (F := fun _ => False) (F' := fun _ => False) hd hb (h _ _) (h1 _ _)
    cases b with
    | true =>
      cases hr
      exact .inr ⟨0, z, by simp [Instr.findNow, hs], rfl, (xMs (w := default) (w' := default) (F := fun _ => False) (F' := fun _ => False) hb (h _ _) (h1 _ _)).1, ⟨k, v, rfl, h, hv, hy⟩, hE⟩
    | false =>
      obtain ⟨es2, he2, rfl⟩ := map_some hr
      rcases xQH clock hd h hv hy es es2 xs (n + 1) hE he2 with ⟨h4, h5⟩ | ⟨i, e, h4, h5, h6, h7⟩
      · exact .inl ⟨by simp [Instr.findNow, hs, h4], ⟨k', v', rfl, h1, h2, h3⟩, h5⟩
      · exact .inr ⟨i + 1, e, by simp [Instr.findNow, hs, h4]; omega, by simpa using h5, h6, ⟨k', v', rfl, h1, h2, h3⟩, h7⟩
theorem xDY {kt : TypeId} {d : TypeDesc} {k : Value} {l : List MapEntry} {r : Option (Nat × Value)} (hd : P.underlying kt = some d) (h : Instr.findNow d k l 0 = some r) : (Instr.findKey kt k l).run P w = .ok r w :=
  MapKept.run_findKey hd h
theorem xQo {b : Bid} {v : Value} {B : Blk} {k : Nat} (h : MapRel μ hf b v) (hb : hf b = some B) (hl : B.els.length = 2) (hm : μ b = some k) : v = .map (some k) := by
  obtain ⟨_, B', hb', _, _, h⟩ := h
  rw [hb] at hb'
  cases hb'
  exact h hl.symm k hm
theorem xRt (hI : Inv Γ F μ hf w) {b : Bid} {B : Blk} (hb : hf b = some B) {es : List (List PV)} (he : xOq B = some es) : ∃ k xs clock, μ b = some k ∧ ¬ F k ∧ w.heap[k]? = some (.map xs clock) ∧ EntL es xs.toList := by
  obtain ⟨h1, h2, h3, y, h4⟩ := xGi he
  have hB := hI.blk b B hb
  cases hm : μ b with
  | none =>
    have := hB.2.2.2.2
    rw [hm] at this
    rw [this.2] at h1
    cases h1
  | some k =>
    obtain ⟨g1, es', xs, n, e1, e2, e3⟩ := hB.map hm h3 h1
    have : es' = es := by
      rw [e1] at h4
      have h4 : ([[.mp es'], [.mp []]] : List (List PV)) = [[.mp es], y] := h4
      simp at h4
      exact h4.1
    subst this
    exact ⟨k, xs, n, rfl, g1, e2, e3⟩
theorem VRel.clean_any {p : PV} {v : Value} (hp : clean p = true) (h : VRel F μ hf w p v) : ∀ (F' : Nat → Prop) (w' : World), CRel F' w' p v := by
  intro F' w'
  have h2 : CRel F w p v := by
    cases p <;> (try (simp [clean] at hp; done)) <;> first | exact h | skip
    rename_i f cs
    cases cs with
    | cons c r => simp [clean] at hp
    | nil => exact (SRel.of_closed rfl).1 h
  exact h2.clean hp
theorem ARel.of_C {p : PV} {v : Value} (h : CRel F w p v) : ARel F μ hf w p v := by
  have hc := h.closed
  have := (SRel.of_closed (μ := μ) (hf := hf) hc).2 h
  cases p <;> first | exact this | (simp [closed] at hc; done)
theorem xMO {p q : PV} {x y : Value} (h1 : CRel F w p x) (h2 : CRel F w q y) : VRel F μ hf w (.tup [p, q]) (.tuple #[x, y]) := by
  refine ⟨_, rfl, rfl, fun i c v hi hv => ?_⟩
  match i with
  | 0 => simp at hi hv; subst hi; subst hv; exact ARel.of_C h1
  | 1 => simp at hi hv; subst hi; subst hv; exact ARel.of_C h2
  | n + 2 => simp at hi
theorem xPg (hI : Inv Γ F μ hf w) {t : TypeId} (ho : o.op = .makeMap t none) (hr : vop lvl site tf hf .mkmap = some r) : Sim P Γ o a F μ hf w r := by
  have hr : (if hf ⟨lvl, site⟩ = none then some (⟨.mapr ⟨lvl, site⟩, [(⟨lvl, site⟩, xBF [])], []⟩ : Res) else none) = some r := hr
  split at hr
  · rename_i hc
    cases hr
    have hnew : (w.alloc (.map #[] 0)).heap[w.heap.size]? = some (.map #[] 0) := (MapKept.heap_alloc w _).1
    obtain ⟨hI', hK⟩ := hI.upd (w' := w.alloc (.map #[] 0)) ⟨lvl, site⟩ (xBF []) (some w.heap.size) F rfl rfl rfl (by simp) (fun k hk _ => (MapKept.heap_alloc w _).2 k hk) (fun k => by simp [xBF])
      (.inr (.inr ⟨_, rfl, fun b'' B'' h'' hm'' => by
        obtain ⟨_, hc', _⟩ := (hI.blk b'' B'' h'').at hm''
        have := (Array.getElem?_eq_some_iff.1 hc').1
        omega, fun hF => by have := hI.lt _ hF; omega, hI.size, by simp, rfl⟩)) (fun B0 h0 => by rw [hc] at h0; cases h0) (fun B0 h0 => by rw [hc] at h0; cases h0) (fun hK => ⟨⟨Nat.one_pos, fun h => (by cases h), fun h => (by cases h)⟩, by simp [xBF], by simp [xBF], fun _ => .inr ⟨_, rfl⟩, by
        simp only [updM, if_true]
        exact ⟨fun h => (by cases h), fun _ hF => by have := hI.lt _ hF; omega, .inr ⟨[], #[], 0, rfl, hnew, trivial⟩⟩⟩)
    refine ⟨.map (some w.heap.size), _, F, _, .inl (by simp [execOp, ho, Instr.makeMap, run_newObj_alloc]), hI', hK, ⟨_, rfl⟩, xBF [], by simp [xAj, updH], rfl, by simp [xBF], fun _ k hk => ?_⟩
    simp [updM] at hk
    rw [hk]
  · cases hr
theorem xPf (hI : Inv Γ F μ hf w) (hT : TRel F μ hf w tf a) {t kt e : TypeId} {x k : Operand} {vx vk : VX} {z : PV} {kk : Nat} {ok : Bool} (ho : o.op = .lookup t x k ok) (ht : P.underlying t = some (.map kt e)) (hkk : xIW P kt = some kk)
    (hz : xTt P e = some z) (hx : cx x = some vx) (hk : cx k = some vk) (hr : vop lvl site tf hf (.mlook kk z ok vx vk) = some r) : Sim P Γ o a F μ hf w r := by
  obtain ⟨p, hp, hr⟩ := bind_some hr
  obtain ⟨q, hq, hr⟩ := bind_some hr
  have hv := xAO hI hT hx hp
  have hvk := xAO hI hT hk hq
  obtain ⟨d, hd, hkd⟩ := xUF hkk
  split at hr
  · rename_i hc
    obtain ⟨c1, c2⟩ := hc
    have hcq := VRel.clean_any (xLm c1) hvk
    obtain ⟨zv, hz1, hz2⟩ := bind_some hz
    obtain ⟨ti, hti, hz1⟩ := bind_some hz1
    have hrun : (zeroValue e).run P w = .ok zv w := by simp [zeroValue, typeInfo, hti, hz1]
    have hzv : CRel F w z zv := xGu hz2
    split at hr
    · rename_i b
      obtain ⟨B, hb, hr⟩ := bind_some hr
      obtain ⟨es, he, hr⟩ := bind_some hr
      obtain ⟨rr, hf', rfl⟩ := map_some hr
      obtain ⟨k0, xs, n, hm, hF, hh, hE⟩ := xRt hI hb he
      have hxv := xQo hv hb (xGi he).2.2.1 hm
      rcases xN5 hkd (hcq F w) es xs.toList 0 rr hE hf' with ⟨rfl, h1⟩ | ⟨v, i, en, rfl, h1, h2, h3, h4, h5⟩
      · cases ok with
        | true => exact Sim.pure hI (rv := .tuple #[zv, .bool false]) (by simp [execOp, ho, hxv, Instr.lookup, run_underlying ht, MapKept.run_getObj_map hh, xG2 hd hkd, xDY hd h1, hrun]) rfl (xMO hzv (.bool _))
        | false => exact Sim.pure hI (rv := zv) (by simp [execOp, ho, hxv, Instr.lookup, run_underlying ht, MapKept.run_getObj_map hh, xG2 hd hkd, xDY hd h1, hrun]) rfl (VRel.of_C hzv)
      · cases ok with
        | true => exact Sim.pure hI (rv := .tuple #[en.val, .bool true]) (by simp [execOp, ho, hxv, Instr.lookup, run_underlying ht, MapKept.run_getObj_map hh, xG2 hd hkd, xDY hd h1]) rfl (xMO (h5 F w) (.bool _))
        | false => exact Sim.pure hI (rv := en.val) (by simp [execOp, ho, hxv, Instr.lookup, run_underlying ht, MapKept.run_getObj_map hh, xG2 hd hkd, xDY hd h1]) rfl (VRel.of_C (h5 F w))
    · cases hr
      have hxv : a.eval x = .map none := by
        generalize a.eval x = av at hv
        cases (show CRel F w .nilm av from hv)
        rfl
      have h1 : Instr.findNow d (a.eval k) [] 0 = some none := rfl
      cases ok with
      | true => exact Sim.pure hI (rv := .tuple #[zv, .bool false]) (by simp [execOp, ho, hxv, Instr.lookup, run_underlying ht, xG2 hd hkd, xDY hd h1, hrun]) rfl (xMO hzv (.bool _))
      | false => exact Sim.pure hI (rv := zv) (by simp [execOp, ho, hxv, Instr.lookup, run_underlying ht, xG2 hd hkd, xDY hd h1, hrun]) rfl (VRel.of_C hzv)
    · cases hr
  · cases hr
theorem xSL (hI : Inv Γ F μ hf w) (hT : TRel F μ hf w tf a) {t kt e : TypeId} {x k v : Operand} {vx vk vv : VX} {kk : Nat} (ho : o.op = .mapUpdate t x k v) (ht : P.underlying t = some (.map kt e)) (hkk : xIW P kt = some kk)
    (hx : cx x = some vx) (hk : cx k = some vk) (hv0 : cx v = some vv) (hr : vop lvl site tf hf (.mset kk vx vk vv) = some r) : Sim P Γ o a F μ hf w r := by
  obtain ⟨p, hp, hr⟩ := bind_some hr
  obtain ⟨q, hq, hr⟩ := bind_some hr
  obtain ⟨y, hy, hr⟩ := bind_some hr
  have hv := xAO hI hT hx hp
  have hvk := xAO hI hT hk hq
  have hvv := xAO hI hT hv0 hy
  obtain ⟨d, hd, hkd⟩ := xUF hkk
  split at hr
  · rename_i hc
    obtain ⟨c1, c2⟩ := hc
    have hcq := VRel.clean_any (xLm c1) hvk
    have hcy := VRel.clean_any c2 hvv
    split at hr
    · rename_i _ b _ _
      obtain ⟨B, hb, hr⟩ := bind_some hr
      obtain ⟨es, he, hr⟩ := bind_some hr
      obtain ⟨es', hes', rfl⟩ := map_some hr
      obtain ⟨k0, xs, n, hm, hF, hh, hE⟩ := xRt hI hb he
      obtain ⟨m1, m2, m3, m4⟩ := xGi he
      have hxv := xQo hv hb m3 hm
      have hlt := (Array.getElem?_eq_some_iff.1 hh).1
      have fin : ∀ (xs' : Array MapEntry) (n' : Nat), EntL es' xs'.toList → Inv Γ F (updM μ b (some k0)) (updH hf b (xBF es')) { w with heap := w.heap.setIfInBounds k0 (.map xs' n') } ∧ Keeps F μ hf w F (updM μ b (some k0)) (updH hf b (xBF es')) { w with heap := w.heap.setIfInBounds k0 (.map xs' n') } := by
        intro xs' n' hE'
        obtain ⟨q1, q2⟩ := MapKept.heap_set (o' := .map xs' n') hh
        refine hI.upd b (xBF es') (some k0) F rfl rfl rfl (by simp) (fun k hk hne => q2 k (fun e => hne B hb m2 (e ▸ hm))) (fun k => by simp [xBF]) (.inl ⟨B, hb, hm.symm⟩) (fun B0 h0 hf0 => by rw [hb] at h0; cases h0; rw [m2] at hf0; cases hf0) (fun B0 h0 => by
          rw [hb] at h0
          cases h0
          obtain ⟨y, m4⟩ := m4
          refine ⟨m1.symm, by rw [m3]; simp [xBF], fun _ => ⟨?_, hm.symm, fun k2 hk2 => ?_⟩⟩
          · have hB := (hI.blk b B hb).2.1 [.mp es] (by rw [m4]; simp)
            exact hB
          · rw [hm] at hk2
            cases hk2
            simp only [xA6, hh]
            rw [q1]) (fun hK => ⟨⟨Nat.one_pos, fun h => (by cases h), fun h => (by cases h)⟩, by simp [xBF], by simp [xBF], fun _ => .inr ⟨_, rfl⟩, by
          simp only [updM, if_true]
          exact ⟨fun h => (by cases h), fun _ => hF, .inr ⟨es', xs', n', rfl, q1, hE'⟩⟩⟩)
      rcases xQH n hkd hcq c2 hcy es es' xs.toList 0 hE hes' with ⟨h1, h2⟩ | ⟨i, en, h1, h2, h3, h4⟩
      · obtain ⟨hI', hK⟩ := fin (xs.push { key := a.eval k, val := a.eval v, born := n }) (n + 1) (by rw [Array.toList_push]; exact h2)
        exact ⟨undef, _, F, _, .inr ⟨by simp [execOp, ho, hxv, Instr.mapUpdate, run_underlying ht, MapKept.run_getObj_map hh, xG2 hd hkd, xDY hd h1, MapKept.run_setObj_map _ hh], rfl⟩, hI', hK, trivial⟩
      · have h5 : (xs.modify i fun e => { e with key := a.eval k, val := a.eval v }).toList = xs.toList.modify i fun e => { e with key := a.eval k, val := a.eval v } := by simp
        obtain ⟨hI', hK⟩ := fin (xs.modify i fun e => { e with key := a.eval k, val := a.eval v }) n (by rw [h5]; exact h4)
        have h6 : ((xs[0 + i]?.map (·.key)).getD (a.eval k)) = a.eval k := by
          have : xs[i]? = some en := by simpa using h2
          rw [Nat.zero_add, this]
          exact h3
        have h7 : Instr.sameBits 10000 (a.eval k) (a.eval k) = true := by
          obtain ⟨b1, hb1⟩ := Option.isSome_iff_exists.1 c1
          have : b1 = true := by
            unfold xB3 at hb1
            split at hb1 <;> first | (cases hb1; simp; done) | (split at hb1 <;> cases hb1; simp) | cases hb1
          subst this
          exact (xMs hb1 (hcq F w) (hcq F w)).2.2 _
        refine ⟨undef, _, F, _, .inr ⟨?_, rfl⟩, hI', hK, trivial⟩
        simp [execOp, ho, hxv, Instr.mapUpdate, run_underlying ht, MapKept.run_getObj_map hh, xG2 hd hkd, xDY hd h1, MapKept.run_setObj_map _ hh]
        simp only [Nat.zero_add] at h6
        simp [Instr.keyThatStays, h6, h7, MapKept.run_setObj_map _ hh]
    · cases hr
  · cases hr
end
end Go.V
set_option linter.unusedVariables false
set_option linter.unusedSimpArgs false
namespace Go.V
section
variable {P : Program} {Γ : Ctx} {o : Oper} {a : Act} {F : Nat → Prop} {μ : Bid → Option Nat} {hf : HF} {w : World} {r : Res} {tf : TF} {lvl site : Nat}
theorem xJM (hI : Inv Γ F μ hf w) (hT : TRel F μ hf w tf a) {op : BinOp} {t u : TypeId} {x y : Operand} {vo : VOp} (ho : o.op = .binOp op t x y u) (h : xJu P op t x y = some vo) (hr : vop lvl site tf hf vo = some r) : Sim P Γ o a F μ hf w r := by
  obtain ⟨d, ht, h⟩ := bind_some h
  cases d <;> (try (cases h; done))
  case bool =>
    obtain ⟨vx, hx, h⟩ := bind_some h
    obtain ⟨vy, hy, h⟩ := bind_some h
    cases op <;> (try (cases h; done))
    · cases h; exact xPn hI hT (neg := false) ho rfl ht hx hy hr
    · cases h; exact xPn hI hT (neg := true) ho rfl ht hx hy hr
  case int k =>
    obtain ⟨vx, hx, h⟩ := bind_some h
    obtain ⟨vy, hy, rfl⟩ := map_some h
    exact xPq hI hT ho hx hy hr
  case string =>
    obtain ⟨vx, hx, h⟩ := bind_some h
    obtain ⟨vy, hy, rfl⟩ := map_some h
    exact xPq hI hT ho hx hy hr
  case slice e =>
    cases op <;> (try (cases h; done))
    · have h : (if xJj y then (cx x).map fun a => VOp.isnil false a else none) = some vo := h
      split at h
      · obtain ⟨vx, hx, rfl⟩ := map_some h
        exact xLC hI hT (neg := false) ho rfl ht (by assumption) hx hr
      · cases h
    · have h : (if xJj y then (cx x).map fun a => VOp.isnil true a else none) = some vo := h
      split at h
      · obtain ⟨vx, hx, rfl⟩ := map_some h
        exact xLC hI hT (neg := true) ho rfl ht (by assumption) hx hr
      · cases h
  case interface ms =>
    cases op <;> (try (cases h; done))
    · have h : (if xIa y then (cx x).map fun a => VOp.isnili false a else none) = some vo := h
      split at h
      · obtain ⟨vx, hx, rfl⟩ := map_some h
        exact xJR hI hT (neg := false) ho rfl ht (by assumption) hx hr
      · cases h
    · have h : (if xIa y then (cx x).map fun a => VOp.isnili true a else none) = some vo := h
      split at h
      · obtain ⟨vx, hx, rfl⟩ := map_some h
        exact xJR hI hT (neg := true) ho rfl ht (by assumption) hx hr
      · cases h
  case pointer e =>
    cases op <;> (try (cases h; done))
    · have h : (if xIZ y then (cx x).map fun a => VOp.eqc false [7] a (.c .nilp) else none) = some vo := h
      split at h
      · obtain ⟨vx, hx, rfl⟩ := map_some h
        exact xPl hI hT (neg := false) ho rfl ht (by assumption) hx hr
      · cases h
    · have h : (if xIZ y then (cx x).map fun a => VOp.eqc true [7] a (.c .nilp) else none) = some vo := h
      split at h
      · obtain ⟨vx, hx, rfl⟩ := map_some h
        exact xPl hI hT (neg := true) ho rfl ht (by assumption) hx hr
      · cases h
  case struct fs =>
    have h : (if P.eqGuardType P.depth t then none else (xJK P 20 t).bind fun ks => if ks = [7] then none else match op with
      | .eql => (cx x).bind fun a => (cx y).map fun b => VOp.eqc false ks a b
      | .neq => (cx x).bind fun a => (cx y).map fun b => VOp.eqc true ks a b
      | _ => none) = some vo := h
    split at h
    · cases h
    · rename_i hg
      obtain ⟨ks, hks, h⟩ := bind_some h
      split at h
      · cases h
      rename_i h7
      cases op <;> (try (cases h; done))
      · obtain ⟨vx, hx, h⟩ := bind_some h
        obtain ⟨vy, hy, rfl⟩ := map_some h
        exact xPm hI hT (neg := false) ho rfl ht (by simpa using hg) hks h7 hx hy hr
      · obtain ⟨vx, hx, h⟩ := bind_some h
        obtain ⟨vy, hy, rfl⟩ := map_some h
        exact xPm hI hT (neg := true) ho rfl ht (by simpa using hg) hks h7 hx hy hr
theorem xAn {α : Type} {x : Array α} {l : List α} (h : x.toList = l) : x = l.toArray := by rw [← h]
theorem xIw (hI : Inv Γ F μ hf w) (hT : TRel F μ hf w tf a) {c : Call} {vo : VOp} (ho : o.op = .call c) (h : xBh P c = some vo) (hnc : ∀ g xs, vo ≠ .call g xs) (hr : vop lvl site tf hf vo = some r) : Sim P Γ o a F μ hf w r := by
  unfold xBh at h
  split at h
  · rename_i f hc
    obtain ⟨g, _, h⟩ := bind_some h
    obtain ⟨xs, _, rfl⟩ := map_some h
    exact (hnc g xs rfl).elim
  · obtain ⟨g, _, h⟩ := bind_some h
    obtain ⟨xs, _, rfl⟩ := map_some h
    exact (hnc _ _ rfl).elim
  · rename_i b hc
    split at h
    · rename_i x t ha ht0
      have ha := xAn ha
      have ht0 := xAn ht0
      obtain ⟨d, ht, h⟩ := bind_some h
      cases d <;> (try (cases h; done))
      case string =>
        obtain ⟨vx, hx, rfl⟩ := map_some h
        exact xSN hI hT ho hc ha ht0 ht hx hr
      case slice e =>
        obtain ⟨vx, hx, rfl⟩ := map_some h
        exact xUx hI hT ho hc ha ht0 ht hx hr
      case array n e =>
        cases h
        refine xKC hI (rv := .int .i64 n) ?_ (VRel.int _ _) hr
        simp [execOp, ho, hc, resolve, ha, ht0, invoke, builtin, Builtin.len_, run_underlying ht, goInt]
    · rename_i x y t u ha ht0
      have ha := xAn ha
      have ht0 := xAn ht0
      obtain ⟨d, ht, h⟩ := bind_some h
      cases d <;> (try (cases h; done))
      rename_i e
      obtain ⟨d, hu, h⟩ := bind_some h
      by_cases hint : ∃ k, d = .int k
      · obtain ⟨k, rfl⟩ := hint
        obtain ⟨vx, hx, h⟩ := bind_some h
        obtain ⟨vy, hy, h⟩ := bind_some h
        obtain ⟨n, hn, h⟩ := bind_some h
        obtain ⟨m, hm, h⟩ := bind_some h
        obtain ⟨z, hz, rfl⟩ := map_some h
        exact xSQ hI hT ho hc ha ht0 ht hu hn hm hz hx hy hr
      have hd : d = .string ∨ ∃ q, d = .slice q := by
        cases d <;> first | exact .inl rfl | exact .inr ⟨_, rfl⟩ | exact (hint ⟨_, rfl⟩).elim | (cases h; done)
      have h : (cx x).bind (fun a => (cx y).bind fun b => (xA5 P e).bind fun n => (xFK P e).bind fun m => (xDh P e).map fun z => VOp.append n m z a b) = some vo := by
        rcases hd with rfl | ⟨q, rfl⟩ <;> exact h
      obtain ⟨vx, hx, h⟩ := bind_some h
      obtain ⟨vy, hy, h⟩ := bind_some h
      obtain ⟨n, hn, h⟩ := bind_some h
      obtain ⟨m, hm, h⟩ := bind_some h
      obtain ⟨z, hz, rfl⟩ := map_some h
      exact xOb hI hT ho hc ha ht0 ht hu hd hn hm hz hx hy hr
    · rename_i x y t u ha ht0
      have ha := xAn ha
      have ht0 := xAn ht0
      obtain ⟨d, ht, h⟩ := bind_some h
      cases d <;> (try (cases h; done))
      rename_i e
      obtain ⟨vx, hx, h⟩ := bind_some h
      obtain ⟨vy, hy, h⟩ := bind_some h
      obtain ⟨n, hn, h⟩ := bind_some h
      split at h
      · cases h
        exact xPo hI hT ho hc ha ht0 ht hn (by assumption) hx hy hr
      · cases h
    · rename_i x t ha ht0
      have ha := xAn ha
      have ht0 := xAn ht0
      obtain ⟨d, ht, h⟩ := bind_some h
      cases d <;> (try (cases h; done))
      obtain ⟨vx, hx, rfl⟩ := map_some h
      exact xUy hI hT ho hc ha ht0 ht hx hr
    · rename_i x t ha ht0
      have ha := xAn ha
      have ht0 := xAn ht0
      obtain ⟨d, ht, h⟩ := bind_some h
      cases d <;> (try (cases h; done))
      obtain ⟨vx, hx, h⟩ := bind_some h
      obtain ⟨n, hn, h⟩ := bind_some h
      obtain ⟨z, hz, rfl⟩ := map_some h
      exact xPp hI hT ho hc ha ht0 ht hn hz hx hr
    · rename_i x y ha
      have ha := xAn ha
      obtain ⟨vx, hx, h⟩ := bind_some h
      obtain ⟨vy, hy, rfl⟩ := map_some h
      exact xJQ hI hT (mx := true) ho hc ha hx hy hr
    · rename_i x y ha
      have ha := xAn ha
      obtain ⟨vx, hx, h⟩ := bind_some h
      obtain ⟨vy, hy, rfl⟩ := map_some h
      exact xJQ hI hT (mx := false) ho hc ha hx hy hr
    · cases h
theorem xUZ (hI : Inv Γ F μ hf w) (hT : TRel F μ hf w tf a) {vo : VOp} (h : (xAQ P o.op).getD .bad = vo) (hnc : ∀ g xs, vo ≠ .call g xs) (hr : vop lvl site tf hf vo = some r) : Sim P Γ o a F μ hf w r := by
  cases hco : xAQ P o.op with
  | none =>
    rw [hco] at h
    subst h
    cases hr
  | some vo' =>
    rw [hco] at h
    have h : vo' = vo := h
    subst h
    clear h
    generalize hoo : o.op = op at hco
    cases op <;> (try (cases hco; done)) <;> simp only [xAQ] at hco
    case move x => obtain ⟨vx, hx, rfl⟩ := map_some hco; exact xNI hI hT (.inl hoo) hx hr
    case assign x => obtain ⟨vx, hx, rfl⟩ := map_some hco; exact xNI hI hT (.inr hoo) hx hr
    case pick c x y =>
      obtain ⟨vc, hc, hco⟩ := bind_some hco
      obtain ⟨vx, hx, hco⟩ := bind_some hco
      obtain ⟨vy, hy, rfl⟩ := map_some hco
      exact xSJ hI hT hoo hc hx hy hr
    case alloc e => obtain ⟨z, hz, rfl⟩ := map_some hco; exact xPs hI hoo hz hr
    case box e x => obtain ⟨vx, hx, rfl⟩ := map_some hco; exact xUz hI hT hoo hx hr
    case build t ps =>
      obtain ⟨qs, hq, hco⟩ := bind_some hco
      obtain ⟨z, hz, hco⟩ := bind_some hco
      obtain ⟨d, ht, hco⟩ := bind_some hco
      cases d <;> (try (cases hco; done))
      case struct fs =>
        simp only at hco
        split at hco
        · obtain ⟨rs, hrs, rfl⟩ := map_some hco
          exact xHw hI hT hoo hq hz ht (by assumption) hrs hr
        · cases hco
      case array m e =>
        obtain ⟨n, hn, rfl⟩ := map_some hco
        exact xLD hI hT hoo hq hz ht hn hr
    case buildSlice t n ps =>
      obtain ⟨d, ht, hco⟩ := bind_some hco
      cases d <;> (try (cases hco; done))
      rename_i e
      obtain ⟨m, hm, hco⟩ := bind_some hco
      obtain ⟨z, hz, hco⟩ := bind_some hco
      obtain ⟨qs, hq, hco⟩ := bind_some hco
      split at hco
      · rename_i hc
        cases hco
        exact xOa hI hT hoo ht hm hz hq hc.1 hc.2.1 hc.2.2 hr
      · cases hco
    case load t x =>
      obtain ⟨g, hg, hco⟩ := bind_some hco
      obtain ⟨n, hn, hco⟩ := bind_some hco
      obtain ⟨vx, hx, rfl⟩ := map_some hco
      exact xSM hI hT hoo hg hn hx hr
    case store t x y =>
      obtain ⟨n, hn, hco⟩ := bind_some hco
      obtain ⟨vx, hx, hco⟩ := bind_some hco
      obtain ⟨vy, hy, rfl⟩ := map_some hco
      exact xPc hI hT hoo hn hx hy hr
    case nilCheck x => obtain ⟨vx, hx, rfl⟩ := map_some hco; exact xSK hI hT hoo hx hr
    case makeInterface t x =>
      obtain ⟨d, ht, hco⟩ := bind_some hco
      have hd : ∀ ms, d ≠ .interface ms := by rintro ms rfl; cases hco
      have hco : (cx x).map (VOp.mkifc t) = some vo' := by cases d <;> first | exact hco | exact absurd rfl (hd _)
      obtain ⟨vx, hx, rfl⟩ := map_some hco
      exact xPh hI hT hoo ht hd hx hr
    case binOp op t x y u => exact xJM hI hT hoo hco hr
    case unOp op t x =>
      cases op <;> simp only [xAQ] at hco <;> (try (cases hco; done))
      case neg =>
        obtain ⟨d, ht, hco⟩ := bind_some hco
        cases d <;> (try (cases hco; done))
        obtain ⟨vx, hx, rfl⟩ := map_some hco
        exact xTy hI hT .neg 0 (.inl ⟨rfl, rfl, rfl⟩) hoo hx hr
      case xor =>
        obtain ⟨d, ht, hco⟩ := bind_some hco
        cases d <;> (try (cases hco; done))
        obtain ⟨vx, hx, rfl⟩ := map_some hco
        exact xTy hI hT .xor _ (.inr ⟨rfl, rfl, rfl⟩) hoo hx hr
      case not =>
        obtain ⟨vx, hx, rfl⟩ := map_some hco
        exact xUw hI hT hoo hx hr
    case convert s d x =>
      obtain ⟨sd, hs, hco⟩ := bind_some hco
      obtain ⟨dd, hd, hco⟩ := bind_some hco
      obtain ⟨vx, hx, hco⟩ := bind_some hco
      cases sd <;> (try (cases hco; done)) <;> cases dd <;> (try (cases hco; done))
      · cases hco; exact xSP hI hT hoo hs hd hx hr
      · cases hco; exact xSO hI hT hoo hs hd hx hr
      · rename_i e
        obtain ⟨ed, he, hco⟩ := bind_some hco
        cases ed <;> (try (cases hco; done))
        rename_i k
        cases k <;> (try (cases hco; done))
        cases hco
        exact xUv hI hT hoo hs hd he hx hr
      · rename_i e
        obtain ⟨ed, he, hco⟩ := bind_some hco
        cases ed <;> (try (cases hco; done))
        rename_i k
        cases k <;> (try (cases hco; done))
        cases hco
        exact xU0 hI hT hoo hs he hd hx hr
    case makeFunc fn first caps =>
      cases fn <;> (try (cases hco; done))
      simp only [xAQ] at hco
      split at hco
      · obtain ⟨vs, hvs, rfl⟩ := map_some hco
        exact sim_fn hI hT hoo (by assumption) hvs hr
      · cases hco
    case makeSlice t l c =>
      obtain ⟨d, ht, hco⟩ := bind_some hco
      cases d <;> (try (cases hco; done))
      rename_i e
      obtain ⟨n, hn, hco⟩ := bind_some hco
      obtain ⟨m, hm, hco⟩ := bind_some hco
      obtain ⟨z, hz, hco⟩ := bind_some hco
      obtain ⟨vl, hl, hco⟩ := bind_some hco
      obtain ⟨vc, hc, hco⟩ := bind_some hco
      split at hco
      · rename_i hh
        cases hco
        exact xMT hI hT hoo ht hn hm hz hh.1 hl hc hr
      · cases hco
    case slice t x lo hi mx =>
      obtain ⟨vx, hx, hco⟩ := bind_some hco
      obtain ⟨vlo, hlo, hco⟩ := bind_some hco
      obtain ⟨vhi, hhi, hco⟩ := bind_some hco
      obtain ⟨vmx, hmx, hco⟩ := bind_some hco
      obtain ⟨d, ht, hco⟩ := bind_some hco
      have hnone : vmx.isNone = true → mx = none := by
        intro h
        cases mx with
        | none => rfl
        | some m => obtain ⟨v, _, rfl⟩ := map_some hmx; cases h
      cases d <;> (try (cases hco; done))
      case string =>
        simp only at hco
        split at hco
        · rename_i hm
          cases hco
          have := hnone hm
          subst this
          exact xPd hI hT hoo ht hx hlo hhi hr
        · cases hco
      case slice e =>
        obtain ⟨n, hn, hco⟩ := bind_some hco
        split at hco
        · rename_i hh
          cases hco
          exact xSI hI hT hoo ht hn hh.2 hh.1 hx hlo hhi hmx hr
        · cases hco
      case array m e =>
        obtain ⟨n, hn, hco⟩ := bind_some hco
        split at hco
        · rename_i hm
          cases hco
          have := hnone hm
          subst this
          exact xPe hI hT hoo ht hn hx hlo hhi hr
        · cases hco
    case fieldAddr s x i =>
      obtain ⟨vx, hx, hco⟩ := bind_some hco
      obtain ⟨d, ht, hco⟩ := bind_some hco
      cases d <;> (try (cases hco; done))
      rename_i fs
      obtain ⟨f, hf, hco⟩ := bind_some hco
      obtain ⟨n, hn, hco⟩ := bind_some hco
      split at hco
      · cases hco
      · rename_i hn0
        cases hco
        exact xPk hI hT hoo ht hf hn hn0 hx hr
    case field s x i =>
      obtain ⟨vx, hx, hco⟩ := bind_some hco
      obtain ⟨d, ht, hco⟩ := bind_some hco
      cases d <;> (try (cases hco; done))
      rename_i fs
      obtain ⟨f, hf, hco⟩ := bind_some hco
      obtain ⟨n, hn, hco⟩ := bind_some hco
      obtain ⟨g, hg, rfl⟩ := map_some hco
      exact xPj hI hT hoo ht hf hn hg hx hr
    case indexAddr t x i =>
      obtain ⟨vx, hx, hco⟩ := bind_some hco
      obtain ⟨vi, hi, hco⟩ := bind_some hco
      obtain ⟨d, ht, hco⟩ := bind_some hco
      cases d <;> (try (cases hco; done))
      case slice e =>
        obtain ⟨n, hn, hco⟩ := bind_some hco
        cases hco
        exact xPi hI hT hoo ht hn hx hi hr
      case array m e =>
        obtain ⟨n, hn, hco⟩ := bind_some hco
        cases hco
        exact xOZ hI hT hoo ht hn hx hi hr
    case index t x i =>
      obtain ⟨vx, hx, hco⟩ := bind_some hco
      obtain ⟨vi, hi, hco⟩ := bind_some hco
      obtain ⟨d, ht, hco⟩ := bind_some hco
      cases d <;> (try (cases hco; done))
      case string =>
        cases hco
        exact xOX hI hT hoo ht hx hi hr
      case array m e =>
        obtain ⟨n, hn, hco⟩ := bind_some hco
        obtain ⟨g, hg, rfl⟩ := map_some hco
        exact xOY hI hT hoo ht hn hg hx hi hr
    case makeMap t q =>
      cases q with
      | some q => cases hco
      | none => cases hco; exact xPg hI hoo hr
    case lookup t x k ok =>
      obtain ⟨d, ht, hco⟩ := bind_some hco
      cases d <;> (try (cases hco; done))
      obtain ⟨kk, hkk, hco⟩ := bind_some hco
      obtain ⟨z, hz, hco⟩ := bind_some hco
      obtain ⟨vx, hx, hco⟩ := bind_some hco
      obtain ⟨vk, hk, rfl⟩ := map_some hco
      exact xPf hI hT hoo ht hkk hz hx hk hr
    case mapUpdate t x k v =>
      obtain ⟨d, ht, hco⟩ := bind_some hco
      cases d <;> (try (cases hco; done))
      obtain ⟨kk, hkk, hco⟩ := bind_some hco
      obtain ⟨vx, hx, hco⟩ := bind_some hco
      obtain ⟨vk, hk, hco⟩ := bind_some hco
      obtain ⟨vv, hv, rfl⟩ := map_some hco
      exact xSL hI hT hoo ht hkk hx hk hv hr
    case extract x i => obtain ⟨vx, hx, rfl⟩ := map_some hco; exact xMU hI hT hoo hx hr
    case call c => exact xIw hI hT hoo hco hnc hr
end
end Go.V
set_option linter.unusedVariables false
set_option linter.unusedSimpArgs false
namespace Go.V
def resH (hr : List Blk) : HF := fun b => if b.lvl = 0 then hr[b.site]? else none
def WrOf (μ : Bid → Option Nat) (n : Nat) : Nat → Prop := fun k => ∃ i, i < n ∧ μ ⟨0, i⟩ = some k
def VC (P : Program) (f : Nat) (args : List PV) (hin : List Blk) (v : PV) (hout : List Blk) : Prop :=
  (∀ (as : Array Value) (w : World), (callFunc f as).run P w = .ok (.enter f as) w) ∧
  ∀ (w : World) (F : Nat → Prop) (μ : Bid → Option Nat) (rargs : Array Value), Inv (Ctx.of w F (WrOf μ hin.length) μ (resH hin)) F μ (resH hin) w → rargs.size = args.length →
    (∀ (i : Nat) (p : PV) (x : Value), args[i]? = some p → rargs[i]? = some x → VRel F μ (resH hin) w p x) →
    Calls P f rargs w fun e w' => ∃ rv F' μ', e = .returned rv ∧ Inv (Ctx.of w F (WrOf μ hin.length) μ (resH hin)) F' μ' (resH hout) w' ∧ Keeps F μ (resH hin) w F' μ' (resH hout) w' ∧ VRel F' μ' (resH hout) w' v rv
def mapN (σ : Bid → Bid) : PV → PV
  | .own b hw off len => .own (σ b) hw off len
  | .ptr b hw i j => .ptr (σ b) hw i j
  | .mapr b => .mapr (σ b)
  | v => v
def mapS (σ : Bid → Bid) : PV → PV
  | .fn f cs => .fn f (cs.map (mapN σ))
  | v => mapN σ v
def mapA (σ : Bid → Bid) : PV → PV
  | .agg cs => .agg (cs.map (mapS σ))
  | v => mapS σ v
def mapV (σ : Bid → Bid) : PV → PV
  | .tup vs => .tup (vs.map (mapA σ))
  | v => mapA σ v
def mapB (σ : Bid → Bid) (B : Blk) : Blk := if B.box = true then { B with els := B.els.map fun e => e.map (mapS σ) } else B
def xBT (lent : List Bid) (lvl site : Nat) (b : Bid) : Bid := match lent[b.site]? with | some c => c | none => ⟨lvl, site + (b.site - lent.length)⟩
def cN : PV → Bool
  | .own _ _ _ _ | .ptr _ _ _ _ | .mapr _ | .mp _ => true
  | v => clean v
def cS : PV → Bool
  | .fn _ cs => cs.all cN
  | v => cN v
def cA : PV → Bool
  | .agg cs => cs.all cS
  | v => cS v
def cV : PV → Bool
  | .tup vs => vs.all cA
  | v => cA v
def xM8 (v : PV) (hr : List Blk) : Prop := cV v = true ∧ ∀ B ∈ hr, B.frz = false ∧ ∀ e ∈ B.els, ∀ c ∈ e, cS c = true
def idxB (b : Bid) : List Bid → Nat → Option Nat
  | [], _ => none
  | c :: r, i => if c = b then some i else idxB b r (i + 1)
def xBM (hf : HF) (lent : List Bid) : PV → Option (List Bid × PV)
  | .own b hw off len => match idxB b lent 0 with
    | some i => some ([], .own ⟨0, i⟩ hw off len)
    | none => xBJ hf (.own b hw off len)
  | .ptr b hw i j => (idxB b lent 0).map fun k => ([], .ptr ⟨0, k⟩ hw i j)
  | .mapr b => (idxB b lent 0).map fun k => ([], .mapr ⟨0, k⟩)
  | .mp es => some ([], .mp es)
  | v => if closed v then some ([], v) else none
def xCV (hf : HF) (lent : List Bid) : List PV → Option (List Bid × List PV)
  | [] => some ([], [])
  | v :: r => (xBM hf lent v).bind fun (b, x) => (xCV hf lent r).map fun (bs, xs) => (b ++ bs, x :: xs)
def xEY (hf : HF) (lent : List Bid) : PV → Option (List Bid × PV)
  | .fn f cs => (xCV hf lent cs).map fun (r, xs) => (r, .fn f xs)
  | v => xBM hf lent v
def xFP (hf : HF) (lent : List Bid) : List PV → Option (List Bid × List PV)
  | [] => some ([], [])
  | v :: r => (xEY hf lent v).bind fun (b, x) => (xFP hf lent r).map fun (bs, xs) => (b ++ bs, x :: xs)
def xCZ (hf : HF) (lent : List Bid) : PV → Option (List Bid × PV)
  | .agg cs => (xFP hf lent cs).map fun (b, xs) => (b, .agg xs)
  | v => xEY hf lent v
def xBe (hf : HF) (lent : List Bid) : List PV → Option (List Bid × List PV)
  | [] => some ([], [])
  | v :: r => (xCZ hf lent v).bind fun (b, x) => (xBe hf lent r).map fun (bs, xs) => (b ++ bs, x :: xs)
def xKa (lent : List Bid) : List (List PV) → Option (List (List PV))
  | [] => some []
  | e :: r => (xFP (fun _ => none) lent e).bind fun (_, x) => (xKa lent r).map (x :: ·)
def xLk (lent : List Bid) (B : Blk) : Option Blk := if B.box = true then (if B.frz = true then none else (xKa lent B.els).map fun els => { B with els := els }) else some B
def xCM (hf : HF) (lent : List Bid) : List Bid → Option (List Blk)
  | [] => some []
  | b :: r => (hf b).bind fun B => (xLk lent B).bind fun B' => (xCM hf lent r).map (B' :: ·)
def named (σ : Bid → Bid) : Nat → List Blk → List (Bid × Blk)
  | _, [] => []
  | i, B :: r => (σ ⟨0, i⟩, mapB σ B) :: named σ (i + 1) r
def frozen (hf : HF) : List Bid → List (Bid × Blk)
  | [] => []
  | b :: r => match hf b with
    | some B => (b, { B with frz := true }) :: frozen hf r
    | none => frozen hf r
def look : List (Nat × Nat) → Nat → Option Nat
  | [], _ => none
  | (t, f) :: r, x => match Nat.beq t x with | true => some f | false => look r x
def Targ (tf : TF) (f : VX) (xs : List VX) (fid : Nat) (all : List PV) : Prop :=
  (∃ f' caps ps, ev tf f = some (.fn f' caps) ∧ evs tf xs = some ps ∧ fid = fnId f' ∧ all = caps.take (fnN f') ++ (ps ++ caps.drop (fnN f'))) ∨
  (∃ tbl t cs ps, ev tf f = some (.mth tbl) ∧ evs tf xs = some (.ifc t cs :: ps) ∧ look tbl t = some fid ∧ all = .agg cs :: ps)
theorem Targ.pl {tf : TF} {f : VX} {xs : List VX} {fid : Nat} {caps ps : List PV} (h1 : ev tf f = some (.fn fid caps)) (h2 : evs tf xs = some ps) (hb : fid < bnd) : Targ tf f xs fid (ps ++ caps) :=
  .inl ⟨fid, caps, ps, h1, h2, (Nat.mod_eq_of_lt hb).symm, by rw [show fnN fid = 0 from Nat.div_eq_of_lt hb]; rfl⟩
theorem Targ.bd {tf : TF} {f : VX} {xs : List VX} {f' : Nat} {caps ps : List PV} (h1 : ev tf f = some (.fn f' caps)) (h2 : evs tf xs = some ps) : Targ tf f xs (fnId f') (caps.take (fnN f') ++ (ps ++ caps.drop (fnN f'))) :=
  .inl ⟨f', caps, ps, h1, h2, rfl, rfl⟩
theorem Targ.mt {tf : TF} {f : VX} {xs : List VX} {fid : Nat} {tbl : List (Nat × Nat)} {t : Nat} {cs ps : List PV} (h1 : ev tf f = some (.mth tbl)) (h2 : evs tf xs = some (.ifc t cs :: ps)) (h3 : look tbl t = some fid) : Targ tf f xs fid (.agg cs :: ps) :=
  .inr ⟨tbl, t, cs, ps, h1, h2, h3, rfl⟩
def xUV (P : Program) (lvl site : Nat) (tf : TF) (hf : HF) (f : VX) (xs : List VX) (r : Res) : Prop :=
  ∃ (lent : List Bid) (fz : Bool) (fid : Nat) (all : List PV) (rd : List Bid) (qs : List PV) (hin : List Blk) (v : PV) (hout : List Blk), Targ tf f xs fid all ∧ xBe hf lent all = some (rd, qs) ∧
    xCM hf lent lent = some hin ∧ lent.Nodup ∧ (∀ b ∈ lent, b ∉ rd) ∧ VC P fid qs hin v hout ∧ (∀ i, i < hout.length - lent.length → hf ⟨lvl, site + i⟩ = none) ∧ (fz = false → xM8 v hout) ∧
    r = ⟨mapV (xBT lent lvl site) v, (if fz then frozen hf rd else []) ++ named (xBT lent lvl site) 0 hout, rd ++ lent⟩
def XC (P : Program) (hf : HF) (f : Nat) (args : List PV) (v : PV) (rd : List Bid) : Prop :=
  ∀ (Γ : Ctx) (F : Nat → Prop) (μ : Bid → Option Nat) (hf2 : HF) (w : World) (rargs : Array Value), (∀ b ∈ rd, hf2 b = hf b) → Inv Γ F μ hf2 w → rargs.size = args.length →
    (∀ (i : Nat) (p : PV) (x : Value), args[i]? = some p → rargs[i]? = some x → VRel F μ hf2 w p x) → ∃ rv, (callFunc f rargs).run P w = .ok (.value rv) w ∧ VRel F μ hf2 w v rv
def CallX (P : Program) (tf : TF) (hf : HF) (f : VX) (xs : List VX) (r : Res) : Prop :=
  ∃ (fid : Nat) (all : List PV) (v : PV) (rd : List Bid), Targ tf f xs fid all ∧ XC P hf fid all v rd ∧ r = ⟨v, [], rd⟩
def OpOk (P : Program) (lvl site : Nat) (tf : TF) (hf : HF) (op : VOp) (r : Res) : Prop :=
  match op with
  | .call f xs => xUV P lvl site tf hf f xs r ∨ CallX P tf hf f xs r
  | op => vop lvl site tf hf op = some r
section
variable {P : Program} {Γ : Ctx} {o : Oper} {a : Act} {F F' : Nat → Prop} {μ μ' : Bid → Option Nat} {hf : HF} {w w' : World} {r : Res} {tf : TF} {lvl site : Nat}
def xBn (F : Nat → Prop) (μ : Bid → Option Nat) (rd : List Bid) : Nat → Prop := fun k => F k ∨ ∃ b ∈ rd, μ b = some k
theorem xGO (hI : Inv Γ F μ hf w) {p q : PV} {v : Value} {rd rs : List Bid} (hc : xBJ hf p = some (rd, q)) (hv : SRel F μ hf w p v) (hrs : ∀ b ∈ rd, b ∈ rs) : CRel (xBn F μ rs) w q v := by
  have plain : closed p = true → q = p → CRel (xBn F μ rs) w q v := by
    rintro h1 rfl
    exact ((SRel.of_closed h1).1 hv).mono (fun k hk => .inl hk) (fun _ _ => rfl)
  cases p <;> simp only [xBJ] at hc <;> first
    | (rw [if_pos rfl] at hc; cases hc; exact plain rfl rfl)
    | (split at hc
       · rename_i h1; cases hc; exact plain h1 rfl
       · cases hc)
    | skip
  rename_i b hw off len
  obtain ⟨⟨rd', l⟩, hct, hq⟩ := map_some hc
  simp only [Prod.mk.injEq] at hq
  obtain ⟨rfl, rfl⟩ := hq
  simp only [xAf] at hct
  obtain ⟨B, hb, hct⟩ := bind_some hct
  split at hct
  · rename_i hcc
    obtain ⟨c1, c2, c3⟩ := hcc
    cases hct
    obtain ⟨ad, cap, rfl, hsome, B0, hb0, hbox, hle, hcur⟩ := xBp (F := F) (VRel.of_S' hv)
    rw [hb] at hb0
    cases hb0
    obtain ⟨g1, g2⟩ := hcur c1
    have hll : ((B.els.drop off).take len).length = len := by simp; omega
    have hcl := (hI.blk b B hb).2.2.1 (.inl c2)
    by_cases hl0 : len = 0
    · subst hl0
      have : (B.els.drop off).take 0 = [] := rfl
      rw [this]
      cases ad with
      | none =>
        cases hm : μ b with
        | none =>
          rw [hm] at g2
          obtain ⟨_, rfl, _, _⟩ := g2
          exact CRel.shn _
        | some k =>
          rw [hm] at g2
          obtain ⟨oo, h, _⟩ := g2
          cases h
      | some a' => exact CRel.sh0 _ _ _ (by simp)
    · cases hm : μ b with
      | none => rw [hm] at g2; omega
      | some k =>
        rw [hm] at g2
        obtain ⟨oo, rfl, g3, g4, g5, g6⟩ := g2
        obtain ⟨c, ee, fz, hcc, hfz, hE, hrow⟩ := xFp hI hb hm (fun h => by simp_all)
        have hoo := g3 (by omega)
        subst hoo
        have idx : ∀ i el, ((B.els.drop off).take len)[i]? = some el → B.els[off + i]? = some el := by
          intro i el hi
          rw [List.getElem?_take, List.getElem?_drop] at hi
          split at hi
          · exact hi
          · cases hi
        have fin := CRel.sh (F := xBn F μ rs) (w := w) false ((B.els.drop off).take len) k (off * B.esz) cap B.esz (fun i j => (c[(off + i) * B.esz + j]?).getD undef) (.inr ⟨b, hrs b (by simp), hm⟩) (by omega) (by simp) (hI.blk b B hb).1.1
          (fun e he => hE.2.1 e (List.mem_of_mem_drop (List.mem_of_mem_take he))) (fun i j el p h1 h2 => by
            obtain ⟨x, hx, hs⟩ := hE.2.2 _ j el p (idx i el h1) h2
            rw [cell_of_row w k _ c ee fz hcc]
            rw [show off * B.esz + i * B.esz + j = (off + i) * B.esz + j from by rw [Nat.add_mul], hx]
            rfl) (fun i j el p h1 h2 => by
            obtain ⟨x, hx, hs⟩ := hE.2.2 _ j el p (idx i el h1) h2
            simp only [hx, Option.getD_some]
            exact ((SRel.of_closed (hcl el (List.mem_of_getElem? (idx i el h1)) p (List.mem_of_getElem? h2))).1 hs).mono (fun k hk => .inl hk) (fun _ _ => rfl))
        rw [hll] at fin
        exact fin
  · cases hct
def RdOk (hf : HF) (rd : List Bid) : Prop := ∀ b ∈ rd, ∃ B, hf b = some B ∧ B.box = false
theorem xL5 {p q : PV} {rd : List Bid} (h : xBJ hf p = some (rd, q)) : RdOk hf rd := by
  have nil : rd = [] → RdOk hf rd := by rintro rfl; exact fun b hb => by cases hb
  cases p <;> simp only [xBJ] at h <;> first
    | (rw [if_pos rfl] at h; cases h; exact nil rfl)
    | (split at h
       · cases h; exact nil rfl
       · cases h)
    | skip
  rename_i b hw off len
  obtain ⟨⟨rd', l⟩, hct, hq⟩ := map_some h
  simp only [Prod.mk.injEq] at hq
  obtain ⟨rfl, rfl⟩ := hq
  simp only [xAf] at hct
  obtain ⟨B, hb, hct⟩ := bind_some hct
  split at hct
  · rename_i hcc
    cases hct
    intro b' hb'
    simp at hb'
    subst hb'
    exact ⟨B, hb, hcc.2.1⟩
  · cases hct
theorem RdOk.app {r s : List Bid} (h1 : RdOk hf r) (h2 : RdOk hf s) : RdOk hf (r ++ s) := fun b hb => by
  rcases List.mem_append.1 hb with h | h
  · exact h1 b h
  · exact h2 b h
end
end Go.V
set_option linter.unusedVariables false
set_option linter.unusedSimpArgs false
namespace Go.V
theorem xHn (hf : HF) (xs ys : List (Bid × Blk)) : xAj hf (xs ++ ys) = xAj (xAj hf xs) ys := by
  induction xs generalizing hf with
  | nil => rfl
  | cons x xs ih => obtain ⟨b, B⟩ := x; exact ih _
section
variable {F F' : Nat → Prop} {μ μ' : Bid → Option Nat} {hf hf' : HF} {w w' : World}
def xCj (μ : Bid → Option Nat) (hf : HF) (μ' : Bid → Option Nat) (hf' : HF) (b b' : Bid) : Prop :=
  μ' b' = μ b ∧ ∀ B, hf b = some B → ∃ B', hf' b' = some B' ∧ B'.box = B.box ∧ B'.els.length = B.els.length ∧ B'.esz = B.esz
theorem OwnRel.named {b b' : Bid} {hw off len : Nat} {v : Value} (hn : ∀ B, hf b = some B → xCj μ hf μ' hf' b b') (h : OwnRel μ hf w b hw off len v) : OwnRel μ' hf' w b' hw off len v := by
  obtain ⟨ad, cap, rfl, h0, B, hb, hbox, hle, hcur⟩ := h
  obtain ⟨hm, hn⟩ := hn B hb
  obtain ⟨B', hb', e1, e2, e3⟩ := hn B hb
  refine ⟨ad, cap, rfl, h0, B', hb', e1.trans hbox, by omega, fun he => ?_⟩
  rw [hm, e2, e3]
  exact hcur (by omega)
theorem PtrRel.named {b b' : Bid} {hw i j : Nat} {v : Value} (hn : ∀ B, hf b = some B → xCj μ hf μ' hf' b b') (h : PtrRel μ hf b hw i j v) : PtrRel μ' hf' b' hw i j v := by
  obtain ⟨h0, B, hb, hle, hcur⟩ := h
  obtain ⟨hm, hn⟩ := hn B hb
  obtain ⟨B', hb', e1, e2, e3⟩ := hn B hb
  refine ⟨h0, B', hb', ⟨by have := hle.1; omega, fun h => hle.2 (e1 ▸ h)⟩, fun he k hk => ?_⟩
  rw [e3]
  exact hcur (by omega) k (hm ▸ hk)
theorem MapRel.named {b b' : Bid} {v : Value} (hn : ∀ B, hf b = some B → xCj μ hf μ' hf' b b') (h : MapRel μ hf b v) : MapRel μ' hf' b' v := by
  obtain ⟨h0, B, hb, hbx, hle, hcur⟩ := h
  obtain ⟨hm, hn⟩ := hn B hb
  obtain ⟨B', hb', e1, e2, e3⟩ := hn B hb
  exact ⟨h0, B', hb', e1.trans hbx, by omega, fun he k hk => hcur (by omega) k (hm ▸ hk)⟩
theorem xLj {lent : List Bid} (es : List (List PV)) : xLk lent (xBF es) = some (xBF es) := rfl
theorem xNj {σ : Bid → Bid} {p : PV} {x : Value} (hn : ∀ b B, hf b = some B → xCj μ hf μ' hf' b (σ b)) (hF : cN p = true ∨ ∀ k, F k → F' k) (h : PRel F μ hf w p x) : PRel F' μ' hf' w (mapN σ p) x := by
  cases p <;> simp only [mapN] <;> simp only [PRel] at h ⊢ <;> first
    | exact OwnRel.named (hn _) h
    | exact PtrRel.named (hn _) h
    | exact MapRel.named (hn _) h
    | (cases h; done)
    | (rcases hF with hc | hF
       · exact h.clean hc
       · exact h.mono hF (fun _ _ => rfl))
theorem xIK {σ : Bid → Bid} {p : PV} (h : closed p = true) : mapS σ p = p := by
  cases p <;> first
    | rfl
    | (simp [closed] at h; done)
    | skip
  rename_i f cs
  cases cs with
  | nil => rfl
  | cons c r => simp [closed] at h
theorem xHU {σ : Bid → Bid} {p : PV} {x : Value} (hn : ∀ b B, hf b = some B → xCj μ hf μ' hf' b (σ b)) (hF : cS p = true ∨ ∀ k, F k → F' k) (h : SRel F μ hf w p x) : SRel F' μ' hf' w (mapS σ p) x := by
  have one : cN p = true ∨ (∀ k, F k → F' k) → PRel F μ hf w p x → PRel F' μ' hf' w (mapN σ p) x := fun a b => xNj hn a b
  cases p with
  | fn f cs =>
    obtain ⟨rc, rfl, hs, hr⟩ := h
    refine ⟨rc, rfl, by simp [hs], fun i q y a1 a2 => ?_⟩
    rw [List.getElem?_map] at a1
    obtain ⟨q0, hq0, rfl⟩ := map_some a1
    refine xNj hn ?_ (hr i q0 y hq0 a2)
    rcases hF with hc | hF
    · simp only [cS, List.all_eq_true] at hc
      exact .inl (hc q0 (List.mem_of_getElem? hq0))
    · exact .inr hF
  | agg cs => exact h
  | tup cs => exact h
  | dead => exact h
  | _ => exact one hF h
theorem xNn {σ : Bid → Bid} {p : PV} {x : Value} (hn : ∀ b B, hf b = some B → xCj μ hf μ' hf' b (σ b)) (hF : cA p = true ∨ ∀ k, F k → F' k) (h : ARel F μ hf w p x) : ARel F' μ' hf' w (mapA σ p) x := by
  have one : cS p = true ∨ (∀ k, F k → F' k) → SRel F μ hf w p x → SRel F' μ' hf' w (mapS σ p) x := fun a b => xHU hn a b
  cases p with
  | agg cs =>
    obtain ⟨rc, rfl, hs, hr⟩ := h
    refine ⟨rc, rfl, by simp [hs], fun i q y a1 a2 => ?_⟩
    rw [List.getElem?_map] at a1
    obtain ⟨q0, hq0, rfl⟩ := map_some a1
    refine xHU hn ?_ (hr i q0 y hq0 a2)
    rcases hF with hc | hF
    · simp only [cA, List.all_eq_true] at hc
      exact .inl (hc q0 (List.mem_of_getElem? hq0))
    · exact .inr hF
  | _ => exact one hF h
theorem xF6 {σ : Bid → Bid} {p : PV} {x : Value} (hn : ∀ b B, hf b = some B → xCj μ hf μ' hf' b (σ b)) (hF : cV p = true ∨ ∀ k, F k → F' k) (h : VRel F μ hf w p x) : VRel F' μ' hf' w (mapV σ p) x := by
  have one : cA p = true ∨ (∀ k, F k → F' k) → ARel F μ hf w p x → ARel F' μ' hf' w (mapA σ p) x := fun a b => xNn hn a b
  cases p with
  | tup cs =>
    obtain ⟨rc, rfl, hs, hr⟩ := h
    refine ⟨rc, rfl, by simp [hs], fun i q y a1 a2 => ?_⟩
    rw [List.getElem?_map] at a1
    obtain ⟨q0, hq0, rfl⟩ := map_some a1
    refine xNn hn ?_ (hr i q0 y hq0 a2)
    rcases hF with hc | hF
    · simp only [cV, List.all_eq_true] at hc
      exact .inl (hc q0 (List.mem_of_getElem? hq0))
    · exact .inr hF
  | _ => exact one hF h
theorem mapB_box {σ : Bid → Bid} {B : Blk} : (mapB σ B).box = B.box := by unfold mapB; split <;> rfl
theorem xKX {σ : Bid → Bid} {B : Blk} : (mapB σ B).frz = B.frz := by unfold mapB; split <;> rfl
theorem mapB_esz {σ : Bid → Bid} {B : Blk} : (mapB σ B).esz = B.esz := by unfold mapB; split <;> rfl
theorem mapB_len {σ : Bid → Bid} {B : Blk} : (mapB σ B).els.length = B.els.length := by unfold mapB; split <;> simp
theorem xKW {σ : Bid → Bid} {b : Bid} {B : Blk} (hn : ∀ b B, hf b = some B → xCj μ hf μ' hf' b (σ b)) (hb : hf b = some B) (hF : (B.frz = false ∧ ∀ e ∈ B.els, ∀ c ∈ e, cS c = true) ∨ ∀ k, F k → F' k) (hFb : ∀ k, F' k → F k)
    (h : BRel F μ hf w b B) : BRel F' μ' hf' w (σ b) (mapB σ B) := by
  obtain ⟨h1, h2, h3, h4, h5⟩ := h
  rw [BRel, mapB_esz, xKX, mapB_box, mapB_len, (hn b B hb).1]
  have hidx : ∀ e' ∈ (mapB σ B).els, ∃ e ∈ B.els, e' = e ∨ e' = e.map (mapS σ) ∧ B.box = true := by
    intro e' he'
    unfold mapB at he'
    split at he'
    · rename_i hbx
      simp only [List.mem_map] at he'
      obtain ⟨e, he, rfl⟩ := he'
      exact ⟨e, he, .inr ⟨rfl, hbx⟩⟩
    · exact ⟨e', he', .inl rfl⟩
  refine ⟨⟨h1.1, xDW h1.2 mapB_box mapB_len mapB_esz (hn b B hb).1 (fun _ _ => rfl)⟩, fun e' he' => ?_, fun hc e' he' c hc' => ?_, fun h => (h4 h).imp id fun ⟨es, e⟩ => ⟨es, by rw [e]; rfl⟩, ?_⟩
  · obtain ⟨e, he, h | ⟨h, _⟩⟩ := hidx e' he'
    · rw [h]; exact h2 e he
    · rw [h, List.length_map]; exact h2 e he
  · obtain ⟨e, he, h | ⟨h, _⟩⟩ := hidx e' he'
    · exact h3 hc e he c (h ▸ hc')
    · rw [h, List.mem_map] at hc'
      obtain ⟨c0, hc0, rfl⟩ := hc'
      rw [xIK (h3 hc e he c0 hc0)]
      exact h3 hc e he c0 hc0
  · cases hm : μ b with
    | none =>
      rw [hm] at h5
      refine ⟨?_, h5.2⟩
      have : (mapB σ B).els.length = 0 := by rw [mapB_len, h5.1]; rfl
      exact List.eq_nil_of_length_eq_zero this
    | some k =>
      rw [hm] at h5
      obtain ⟨f1, f2, h5⟩ := h5
      refine ⟨fun hz => ?_, fun hz hk => f2 hz (hFb k hk), ?_⟩
      · rcases hF with hF | hF
        · rw [hF.1] at hz; cases hz
        · exact hF k (f1 hz)
      rcases h5 with ⟨c, e, fz, hc, hfz, hl, hr⟩ | ⟨es, xs, n, e1, hc, hr⟩
      rotate_left
      · exact .inr ⟨es, xs, n, by rw [e1]; rfl, hc, hr⟩
      · refine .inl ⟨c, e, fz, hc, hfz, by rw [mapB_len, mapB_esz]; exact hl, fun i j el p a1 a2 => ?_⟩
        rw [mapB_esz]
        cases hbx : B.box with
        | true =>
          have e1 : (mapB σ B).els = B.els.map fun e => e.map (mapS σ) := by unfold mapB; rw [if_pos hbx]
          rw [e1, List.getElem?_map] at a1
          obtain ⟨el0, hel0, rfl⟩ := map_some a1
          rw [List.getElem?_map] at a2
          obtain ⟨p0, hp0, rfl⟩ := map_some a2
          obtain ⟨x, hx, hs⟩ := hr i j el0 p0 hel0 hp0
          refine ⟨x, hx, xHU hn ?_ hs⟩
          rcases hF with hF | hF
          · exact .inl (hF.2 el0 (List.mem_of_getElem? hel0) p0 (List.mem_of_getElem? hp0))
          · exact .inr hF
        | false =>
          have e1 : (mapB σ B).els = B.els := by unfold mapB; rw [if_neg (by simp [hbx])]
          rw [e1] at a1
          obtain ⟨x, hx, hs⟩ := hr i j el p a1 a2
          have hcl := h3 (.inl hbx) el (List.mem_of_getElem? a1) p (List.mem_of_getElem? a2)
          have := xHU (F' := F') hn (by
            rcases hF with hF | hF
            · exact .inl (hF.2 el (List.mem_of_getElem? a1) p (List.mem_of_getElem? a2))
            · exact .inr hF) hs
          rw [xIK hcl] at this
          exact ⟨x, hx, this⟩
end
section
variable {P : Program} {Γ : Ctx} {F F' : Nat → Prop} {μ μ' : Bid → Option Nat} {hf : HF} {w w' : World} {lvl site : Nat}
theorem xGE {b : Bid} : ∀ {l : List Bid} {i k : Nat}, idxB b l i = some k → ∃ j, k = i + j ∧ l[j]? = some b
  | [], i, k, h => by cases h
  | c :: l, i, k, h => by
    simp only [idxB] at h
    split at h
    · rename_i hc
      cases h
      exact ⟨0, rfl, by simp [hc]⟩
    · obtain ⟨j, h1, h2⟩ := xGE h
      exact ⟨j + 1, by omega, by simpa using h2⟩
def xDU (lent : List Bid) (μ : Bid → Option Nat) : Bid → Option Nat := fun b => if b.lvl = 0 then (lent[b.site]?).bind μ else none
theorem xEK {lent : List Bid} {i : Nat} {b : Bid} (h : lent[i]? = some b) : xDU lent μ ⟨0, i⟩ = μ b := by simp [xDU, h]
theorem xIP {lent : List Bid} : ∀ {l q : List (List PV)}, xKa lent l = some q → q.length = l.length
  | [], q, h => by cases h; rfl
  | e :: l, q, h => by
    obtain ⟨⟨_, x⟩, hx, h⟩ := bind_some h
    obtain ⟨xs, hxs, rfl⟩ := map_some h
    simp [xIP hxs]
theorem xGl {lent : List Bid} {B B' : Blk} (h : xLk lent B = some B') : B'.box = B.box ∧ B'.els.length = B.els.length ∧ B'.esz = B.esz ∧ B'.frz = B.frz := by
  unfold xLk at h
  split at h
  · split at h
    · cases h
    · obtain ⟨els, hels, rfl⟩ := map_some h
      exact ⟨rfl, xIP hels, rfl, rfl⟩
  · cases h; exact ⟨rfl, rfl, rfl, rfl⟩
theorem xEL {lent : List Bid} : ∀ {l : List Bid} {hin : List Blk}, xCM hf lent l = some hin → hin.length = l.length ∧ ∀ (i : Nat) (b : Bid), l[i]? = some b → ∃ B B', hf b = some B ∧ xLk lent B = some B' ∧ hin[i]? = some B'
  | [], hin, h => by cases h; simp
  | c :: l, hin, h => by
    obtain ⟨B, hB, h⟩ := bind_some h
    obtain ⟨B', hB', h⟩ := bind_some h
    obtain ⟨xs, hxs, rfl⟩ := map_some h
    obtain ⟨h1, h2⟩ := xEL hxs
    refine ⟨by simp [h1], fun i b hi => ?_⟩
    cases i with
    | zero => simp at hi; subst hi; exact ⟨B, B', hB, hB', rfl⟩
    | succ i => exact h2 i b (by simpa using hi)
theorem xGh {lent : List Bid} {hin : List Blk} (hl : xCM hf lent lent = some hin) {i : Nat} {b : Bid} (h : lent[i]? = some b) : xCj μ hf (xDU lent μ) (resH hin) b ⟨0, i⟩ := by
  refine ⟨xEK h, fun B hB => ?_⟩
  obtain ⟨B0, B', h1, h2, h3⟩ := (xEL hl).2 i b h
  rw [hB] at h1
  cases h1
  obtain ⟨e1, e2, e3, _⟩ := xGl h2
  exact ⟨B', by simpa [resH] using h3, e1, e2, e3⟩
theorem xG8 (hI : Inv Γ F μ hf w) {lent : List Bid} {hin : List Blk} (hl : xCM hf lent lent = some hin) {hf1 : HF} (h1 : hf1 = hf ∨ hf1 = fun _ => none) {p q : PV} {v : Value} {rd rs : List Bid} (hc : xBM hf1 lent p = some (rd, q)) (hv : PRel F μ hf w p v) (hrs : ∀ b ∈ rd, b ∈ rs) :
    PRel (xBn F μ rs) (xDU lent μ) (resH hin) w q v := by
  cases p <;> simp only [xBM] at hc <;> first
    | (split at hc
       · cases hc
         exact CRel.mono (fun k hk => .inl hk) (fun _ _ => rfl) hv
       · cases hc)
    | skip
  · rename_i b hw off len
    split at hc
    · rename_i i hi
      cases hc
      obtain ⟨j, rfl, hj⟩ := xGE hi
      rw [Nat.zero_add]
      exact OwnRel.named (fun B hB => xGh hl hj) hv
    · rcases h1 with rfl | rfl
      · have := xGO hI hc (p := .own b hw off len) hv hrs
        cases q <;> first
          | exact this
          | (cases this; done)
      · simp [xBJ, xAf] at hc
  · rename_i b hw i j
    obtain ⟨k, hk, h⟩ := map_some hc
    cases h
    obtain ⟨m, rfl, hm⟩ := xGE hk
    rw [Nat.zero_add]
    exact PtrRel.named (fun B hB => xGh hl hm) hv
  · obtain ⟨k, hk, h⟩ := map_some hc
    cases h
    obtain ⟨m, rfl, hm⟩ := xGE hk
    rw [Nat.zero_add]
    exact MapRel.named (fun B hB => xGh hl hm) hv
  · cases hv
theorem xF9 (hI : Inv Γ F μ hf w) {lent : List Bid} {hin : List Blk} (hl : xCM hf lent lent = some hin) {hf1 : HF} (hh : hf1 = hf ∨ hf1 = fun _ => none) {rs : List Bid} : ∀ (cs qs : List PV) (rd : List Bid), xCV hf1 lent cs = some (rd, qs) → (∀ b ∈ rd, b ∈ rs) → qs.length = cs.length ∧
    ∀ (i : Nat) (q : PV), qs[i]? = some q → ∃ p, cs[i]? = some p ∧ ∀ v, PRel F μ hf w p v → PRel (xBn F μ rs) (xDU lent μ) (resH hin) w q v
  | [], qs, rd, h, _ => by cases h; exact ⟨rfl, by simp⟩
  | c :: cs, qs, rd, h, hrs => by
    simp only [xCV] at h
    obtain ⟨⟨b, x⟩, h1, h⟩ := bind_some h
    obtain ⟨⟨bs, xs⟩, h2, h⟩ := map_some h
    simp only [Prod.mk.injEq] at h
    obtain ⟨rfl, rfl⟩ := h
    obtain ⟨g1, g2⟩ := xF9 hI hl hh cs xs bs h2 (fun b' hb' => hrs b' (by simp [hb']))
    refine ⟨by simp [g1], fun i q hi => ?_⟩
    cases i with
    | zero =>
      simp at hi
      subst hi
      exact ⟨c, rfl, fun v hv => xG8 hI hl hh h1 hv (fun b' hb' => hrs b' (by simp [hb']))⟩
    | succ i => exact g2 i q (by simpa using hi)
theorem xLh (hI : Inv Γ F μ hf w) {lent : List Bid} {hin : List Blk} (hl : xCM hf lent lent = some hin) {hf1 : HF} (hh : hf1 = hf ∨ hf1 = fun _ => none) {p q : PV} {v : Value} {rd rs : List Bid} (hc : xEY hf1 lent p = some (rd, q)) (hv : SRel F μ hf w p v) (hrs : ∀ b ∈ rd, b ∈ rs) :
    SRel (xBn F μ rs) (xDU lent μ) (resH hin) w q v := by
  have one : xBM hf1 lent p = some (rd, q) → PRel F μ hf w p v → SRel (xBn F μ rs) (xDU lent μ) (resH hin) w q v := by
    intro h1 h2
    have h3 := xG8 hI hl hh h1 h2 hrs
    cases q <;> first
      | exact h3
      | (cases h3; done)
      | (cases h3; exact ⟨#[], by simp, rfl, by simp⟩)
  cases p with
  | fn f cs =>
    simp only [xEY] at hc
    obtain ⟨⟨b, xs⟩, h1, h⟩ := map_some hc
    simp only [Prod.mk.injEq] at h
    obtain ⟨rfl, rfl⟩ := h
    obtain ⟨vs, rfl, hs, hr⟩ := hv
    obtain ⟨g1, g2⟩ := xF9 hI hl hh cs xs b h1 hrs
    refine ⟨vs, rfl, by rw [hs, g1], fun i q x a1 a2 => ?_⟩
    obtain ⟨p, hp, hC⟩ := g2 i q a1
    exact hC x (hr i p x hp a2)
  | agg cs => exact hv.elim
  | tup cs => exact hv.elim
  | dead => simp [xEY, xBM, closed] at hc
  | _ => exact one hc hv
theorem xGk (hI : Inv Γ F μ hf w) {lent : List Bid} {hin : List Blk} (hl : xCM hf lent lent = some hin) {hf1 : HF} (hh : hf1 = hf ∨ hf1 = fun _ => none) {rs : List Bid} : ∀ (cs qs : List PV) (rd : List Bid), xFP hf1 lent cs = some (rd, qs) → (∀ b ∈ rd, b ∈ rs) → qs.length = cs.length ∧
    ∀ (i : Nat) (q : PV), qs[i]? = some q → ∃ p, cs[i]? = some p ∧ ∀ v, SRel F μ hf w p v → SRel (xBn F μ rs) (xDU lent μ) (resH hin) w q v
  | [], qs, rd, h, _ => by cases h; exact ⟨rfl, by simp⟩
  | c :: cs, qs, rd, h, hrs => by
    simp only [xFP] at h
    obtain ⟨⟨b, x⟩, h1, h⟩ := bind_some h
    obtain ⟨⟨bs, xs⟩, h2, h⟩ := map_some h
    simp only [Prod.mk.injEq] at h
    obtain ⟨rfl, rfl⟩ := h
    obtain ⟨g1, g2⟩ := xGk hI hl hh cs xs bs h2 (fun b' hb' => hrs b' (by simp [hb']))
    refine ⟨by simp [g1], fun i q hi => ?_⟩
    cases i with
    | zero =>
      simp at hi
      subst hi
      exact ⟨c, rfl, fun v hv => xLh hI hl hh h1 hv (fun b' hb' => hrs b' (by simp [hb']))⟩
    | succ i => exact g2 i q (by simpa using hi)
theorem xLf (hI : Inv Γ F μ hf w) {lent : List Bid} {hin : List Blk} (hl : xCM hf lent lent = some hin) {p q : PV} {v : Value} {rd rs : List Bid} (hc : xCZ hf lent p = some (rd, q)) (hv : VRel F μ hf w p v) (hrs : ∀ b ∈ rd, b ∈ rs) :
    VRel (xBn F μ rs) (xDU lent μ) (resH hin) w q v := by
  have one : xEY hf lent p = some (rd, q) → SRel F μ hf w p v → VRel (xBn F μ rs) (xDU lent μ) (resH hin) w q v :=
    fun h1 h2 => VRel.of_S' (xLh hI hl (.inl rfl) h1 h2 hrs)
  cases p with
  | agg cs =>
    simp only [xCZ] at hc
    obtain ⟨⟨b, xs⟩, h1, h⟩ := map_some hc
    simp only [Prod.mk.injEq] at h
    obtain ⟨rfl, rfl⟩ := h
    obtain ⟨vs, rfl, hs, hr⟩ := xFi hv
    obtain ⟨g1, g2⟩ := xGk hI hl (.inl rfl) cs xs b h1 hrs
    refine ⟨vs, rfl, by rw [hs, g1], fun i q x a1 a2 => ?_⟩
    obtain ⟨p, hp, hC⟩ := g2 i q a1
    exact hC x (hr i p x hp a2)
  | tup cs => simp [xCZ, xEY, xBM, closed] at hc
  | dead => simp [xCZ, xEY, xBM, closed] at hc
  | _ => exact one hc hv
theorem xGj (hI : Inv Γ F μ hf w) {lent : List Bid} {hin : List Blk} (hl : xCM hf lent lent = some hin) {rs : List Bid} : ∀ (ps qs : List PV) (rd : List Bid), xBe hf lent ps = some (rd, qs) → (∀ b ∈ rd, b ∈ rs) → qs.length = ps.length ∧
    ∀ (i : Nat) (q : PV), qs[i]? = some q → ∃ p, ps[i]? = some p ∧ ∀ v, VRel F μ hf w p v → VRel (xBn F μ rs) (xDU lent μ) (resH hin) w q v
  | [], qs, rd, h, _ => by cases h; exact ⟨rfl, by simp⟩
  | c :: cs, qs, rd, h, hrs => by
    simp only [xBe] at h
    obtain ⟨⟨b, x⟩, h1, h⟩ := bind_some h
    obtain ⟨⟨bs, xs⟩, h2, h⟩ := map_some h
    simp only [Prod.mk.injEq] at h
    obtain ⟨rfl, rfl⟩ := h
    obtain ⟨g1, g2⟩ := xGj hI hl cs xs bs h2 (fun b' hb' => hrs b' (by simp [hb']))
    refine ⟨by simp [g1], fun i q hi => ?_⟩
    cases i with
    | zero =>
      simp at hi
      subst hi
      exact ⟨c, rfl, fun v hv => xLf hI hl h1 hv (fun b' hb' => hrs b' (by simp [hb']))⟩
    | succ i => exact g2 i q (by simpa using hi)
theorem RdOk.nil : RdOk hf [] := fun b hb => by cases hb
theorem xIQ {lent : List Bid} {p q : PV} {rd : List Bid} (h : xBM hf lent p = some (rd, q)) : RdOk hf rd := by
  cases p <;> simp only [xBM] at h <;> first
    | (split at h
       · cases h; exact RdOk.nil
       · cases h)
    | skip
  · split at h
    · cases h; exact RdOk.nil
    · exact xL5 h
  · obtain ⟨k, _, h⟩ := map_some h
    cases h; exact RdOk.nil
  · obtain ⟨k, _, h⟩ := map_some h
    cases h; exact RdOk.nil
  · cases h; exact RdOk.nil
theorem xG6 {lent : List Bid} : ∀ {cs qs : List PV} {rd : List Bid}, xCV hf lent cs = some (rd, qs) → RdOk hf rd
  | [], _, _, h => by cases h; exact RdOk.nil
  | c :: cs, qs, rd, h => by
    simp only [xCV] at h
    obtain ⟨⟨b, x⟩, h1, h⟩ := bind_some h
    obtain ⟨⟨bs, xs⟩, h2, h⟩ := map_some h
    simp only [Prod.mk.injEq] at h
    obtain ⟨rfl, rfl⟩ := h
    exact (xIQ h1).app (xG6 h2)
theorem xNr {lent : List Bid} {p q : PV} {rd : List Bid} (h : xEY hf lent p = some (rd, q)) : RdOk hf rd := by
  have one : xBM hf lent p = some (rd, q) → RdOk hf rd := xIQ
  cases p with
  | fn f cs =>
    simp only [xEY] at h
    obtain ⟨⟨b, xs⟩, h1, h⟩ := map_some h
    simp only [Prod.mk.injEq] at h
    obtain ⟨rfl, rfl⟩ := h
    exact xG6 h1
  | _ => exact one h
theorem xIO {lent : List Bid} : ∀ {cs qs : List PV} {rd : List Bid}, xFP hf lent cs = some (rd, qs) → RdOk hf rd
  | [], _, _, h => by cases h; exact RdOk.nil
  | c :: cs, qs, rd, h => by
    simp only [xFP] at h
    obtain ⟨⟨b, x⟩, h1, h⟩ := bind_some h
    obtain ⟨⟨bs, xs⟩, h2, h⟩ := map_some h
    simp only [Prod.mk.injEq] at h
    obtain ⟨rfl, rfl⟩ := h
    exact (xNr h1).app (xIO h2)
theorem xE9 {lent : List Bid} {p q : PV} {rd : List Bid} (h : xCZ hf lent p = some (rd, q)) : RdOk hf rd := by
  have one : xEY hf lent p = some (rd, q) → RdOk hf rd := xNr
  cases p with
  | agg cs =>
    simp only [xCZ] at h
    obtain ⟨⟨b, xs⟩, h1, h⟩ := map_some h
    simp only [Prod.mk.injEq] at h
    obtain ⟨rfl, rfl⟩ := h
    exact xIO h1
  | _ => exact one h
theorem xIN {lent : List Bid} : ∀ {cs qs : List PV} {rd : List Bid}, xBe hf lent cs = some (rd, qs) → RdOk hf rd
  | [], _, _, h => by cases h; exact RdOk.nil
  | c :: cs, qs, rd, h => by
    simp only [xBe] at h
    obtain ⟨⟨b, x⟩, h1, h⟩ := bind_some h
    obtain ⟨⟨bs, xs⟩, h2, h⟩ := map_some h
    simp only [Prod.mk.injEq] at h
    obtain ⟨rfl, rfl⟩ := h
    exact (xE9 h1).app (xIN h2)
theorem xOI (hI : Inv Γ F μ hf w) {b : Bid} {B : Blk} {k : Nat} (hb : hf b = some B) (hk : μ b = some k) : k < w.heap.size := by
  obtain ⟨_, hc, _⟩ := (hI.blk b B hb).at hk
  exact (Array.getElem?_eq_some_iff.1 hc).1
theorem xJf (hI : Inv Γ F μ hf w) {lent : List Bid} {hin : List Blk} (hl : xCM hf lent lent = some hin) {rs : List Bid} : ∀ {els qs : List (List PV)}, xKa lent els = some qs → ∀ (i : Nat) (q : List PV), qs[i]? = some q → ∃ e, els[i]? = some e ∧ q.length = e.length ∧
    ∀ (j : Nat) (p' : PV), q[j]? = some p' → ∃ p, e[j]? = some p ∧ ∀ v, SRel F μ hf w p v → SRel (xBn F μ rs) (xDU lent μ) (resH hin) w p' v
  | [], qs, h, i, q, hq => by cases h; simp at hq
  | e :: els, qs, h, i, q, hq => by
    obtain ⟨⟨rd, x⟩, hx, h⟩ := bind_some h
    obtain ⟨xs, hxs, rfl⟩ := map_some h
    cases i with
    | succ i => exact xJf hI hl hxs i q (by simpa using hq)
    | zero =>
      simp at hq
      subst hq
      have hrd := xIO hx
      have : rd = [] := by
        cases rd with
        | nil => rfl
        | cons b r => obtain ⟨B, hB, _⟩ := hrd b (by simp); cases hB
      subst this
      obtain ⟨g1, g2⟩ := xGk (rs := rs) hI hl (.inr rfl) e x [] hx (by simp)
      exact ⟨e, rfl, g1, g2⟩
theorem Inv.lend (hI : Inv Γ F μ hf w) {lent rd : List Bid} {hin : List Blk} (hrd : RdOk hf rd) (hl : xCM hf lent lent = some hin) (hnd : lent.Nodup) (hdis : ∀ b ∈ lent, b ∉ rd) :
    Inv (Ctx.of w (xBn F μ rd) (WrOf (xDU lent μ) hin.length) (xDU lent μ) (resH hin)) (xBn F μ rd) (xDU lent μ) (resH hin) w := by
  obtain ⟨hlen, hspec⟩ := xEL hl
  have get : ∀ b B', resH hin b = some B' → ∃ c B, b = ⟨0, b.site⟩ ∧ lent[b.site]? = some c ∧ hf c = some B ∧ xLk lent B = some B' := by
    intro b B' hb
    unfold resH at hb
    split at hb
    · rename_i hlv
      have hlt : b.site < lent.length := by rw [← hlen]; exact (List.getElem?_eq_some_iff.1 hb).1
      obtain ⟨B, B'', h1, h2, h3⟩ := hspec b.site lent[b.site] (List.getElem?_eq_getElem hlt)
      rw [h3] at hb
      cases hb
      exact ⟨_, B, by cases b; simp_all, List.getElem?_eq_getElem hlt, h1, h2⟩
    · cases hb
  refine ⟨rfl, rfl, rfl, Nat.le_refl _, fun _ _ _ => rfl, fun k hk => ?_, fun _ h => h, fun _ h => .inl h, fun b B' hb => ?_, fun b b' B1 B2 k h1 h2 m1 m2 => ?_, fun b B' k hb hm => ?_, hI.glN _ rfl (fun k hk => .inl hk) fun k h1 h2 h3 => ?_⟩
  rotate_left
  rotate_left
  rotate_left
  rotate_left
  · obtain ⟨i, hi, hm⟩ := h3
    have hlt : i < lent.length := by omega
    obtain ⟨B, B'', g1, g2, g3⟩ := hspec i lent[i] (List.getElem?_eq_getElem hlt)
    have hmc : xDU lent μ ⟨0, i⟩ = μ lent[i] := xEK (List.getElem?_eq_getElem hlt)
    rw [hmc] at hm
    rcases hI.own _ B k g1 hm with h4 | h4
    · omega
    · exact h2 h4
  · rcases hk with hk | ⟨c, hc, hm⟩
    · exact hI.lt k hk
    · obtain ⟨B, hB, _⟩ := hrd c hc
      exact xOI hI hB hm
  · obtain ⟨c, B, hbe, hc, hB, hlb⟩ := get b B' hb
    obtain ⟨e1, e2, e3, e4⟩ := xGl hlb
    obtain ⟨h1, h2, h3, h4, h5⟩ := hI.blk c B hB
    have hmc : xDU lent μ b = μ c := by rw [hbe]; exact xEK hc
    have hcell : ∀ (i : Nat) (q : List PV), B'.els[i]? = some q → ∃ e, B.els[i]? = some e ∧ q.length = e.length ∧
        ∀ (j : Nat) (p' : PV), q[j]? = some p' → ∃ p, e[j]? = some p ∧ ∀ v, SRel F μ hf w p v → SRel (xBn F μ rd) (xDU lent μ) (resH hin) w p' v := by
      unfold xLk at hlb
      split at hlb
      · split at hlb
        · cases hlb
        · obtain ⟨els, hels, rfl⟩ := map_some hlb
          exact xJf hI hl hels
      · rename_i hbx
        cases hlb
        intro i q hq
        refine ⟨q, hq, rfl, fun j p' hp' => ⟨p', hp', fun v hv => ?_⟩⟩
        have hcl := h3 (.inl (by simpa using hbx)) q (List.mem_of_getElem? hq) p' (List.mem_of_getElem? hp')
        exact (SRel.of_closed hcl).2 (((SRel.of_closed hcl).1 hv).mono (fun k hk => .inl hk) (fun _ _ => rfl))
    refine ⟨⟨by omega, xDW h1.2 e1 e2 e3 hmc (fun _ _ => rfl)⟩, fun e he => ?_, fun hcl e he p hp => ?_, fun hbx => (h4 (e1 ▸ hbx)).imp (fun h => by rw [e2]; exact h) fun ⟨es, e⟩ => ⟨es, by rw [e, xLj] at hlb; cases hlb; rfl⟩, ?_⟩
    · obtain ⟨i, hi⟩ := List.mem_iff_getElem?.1 he
      obtain ⟨e0, he0, hle, _⟩ := hcell i e hi
      rw [hle, e3]
      exact h2 e0 (List.mem_of_getElem? he0)
    · have hBB : B' = B := by
        unfold xLk at hlb
        split at hlb
        · rename_i hbx
          split at hlb
          · cases hlb
          · rename_i hfz
            rw [e1, e4] at hcl
            rcases hcl with hcl | hcl
            · rw [hbx] at hcl; cases hcl
            · exact absurd hcl hfz
        · cases hlb; rfl
      rw [hBB] at he
      rw [e1, e4] at hcl
      exact h3 hcl e he p hp
    · rw [hmc]
      cases hm : μ c with
      | none =>
        rw [hm] at h5
        refine ⟨?_, e1.trans h5.2⟩
        have : B'.els.length = 0 := by rw [e2, h5.1]; rfl
        exact List.eq_nil_of_length_eq_zero this
      | some k =>
        rw [hm] at h5
        obtain ⟨f1, f2, h5⟩ := h5
        refine ⟨fun h => .inl (f1 (e4 ▸ h)), fun h hk => ?_, ?_⟩
        · rcases hk with hk | ⟨d, hd, hmd⟩
          · exact f2 (e4 ▸ h) hk
          · obtain ⟨D, hD, _⟩ := hrd d hd
            have := hI.inj d c D B k hD hB hmd hm
            subst this
            exact hdis d (List.mem_of_getElem? hc) hd
        rcases h5 with ⟨cc, e, fz, hcc, hfz, hle, hr⟩ | ⟨es, xs, n, q1, q2, q3⟩
        rotate_left
        · rw [q1, xLj] at hlb
          cases hlb
          exact .inr ⟨es, xs, n, rfl, q2, q3⟩
        · refine .inl ⟨cc, e, fz, hcc, hfz, by rw [e2, e3]; exact hle, fun i j el p a1 a2 => ?_⟩
          obtain ⟨el0, hel0, _, hcv⟩ := hcell i el a1
          obtain ⟨p0, hp0, hcv⟩ := hcv j p a2
          obtain ⟨x, hx, hs⟩ := hr i j el0 p0 hel0 hp0
          rw [e3]
          exact ⟨x, hx, hcv x hs⟩
  · obtain ⟨c, C, hbe, hc, hC, _⟩ := get b B1 h1
    obtain ⟨c', C', hbe', hc', hC', _⟩ := get b' B2 h2
    rw [hbe, xEK hc] at m1
    rw [hbe', xEK hc'] at m2
    have hcc := hI.inj c c' C C' k hC hC' m1 m2
    subst hcc
    have hlt := (List.getElem?_eq_some_iff.1 hc).1
    have := (List.getElem?_inj hlt hnd).1 (hc.trans hc'.symm)
    rw [hbe, hbe', this]
  · obtain ⟨c, C, hbe, hc, hC, _⟩ := get b B' hb
    refine .inr ⟨b.site, by rw [hlen]; exact (List.getElem?_eq_some_iff.1 hc).1, ?_⟩
    rw [← hbe]
    exact hm
end
end Go.V
set_option linter.unusedVariables false
set_option linter.unusedSimpArgs false
namespace Go.V
section
variable {P : Program} {Γ : Ctx} {F F' : Nat → Prop} {μ μ' : Bid → Option Nat} {hf : HF} {w w' : World} {lvl site : Nat}
theorem xD1 : ∀ (rd : List Bid) (hf1 : HF) (b : Bid), xAj hf1 (frozen hf rd) b = if b ∈ rd ∧ (hf b).isSome = true then (hf b).map (fun B => { B with frz := true }) else hf1 b
  | [], hf1, b => by simp [frozen, xAj]
  | c :: rd, hf1, b => by
    simp only [frozen]
    cases hc : hf c with
    | none =>
      simp only
      rw [xD1 rd hf1 b]
      by_cases h : b = c
      · subst h; simp [hc]
      · simp [h]
    | some B =>
      simp only [xAj]
      rw [xD1 rd _ b]
      by_cases h1 : b ∈ rd ∧ (hf b).isSome = true
      · rw [if_pos h1, if_pos ⟨by simp [h1.1], h1.2⟩]
      · rw [if_neg h1]
        by_cases h : b = c
        · subst h
          rw [if_pos (by simp [hc]), hc, xCR]
          rfl
        · have h2 : ¬ (b ∈ c :: rd ∧ (hf b).isSome = true) := by
            rintro ⟨h3, h4⟩
            rcases List.mem_cons.1 h3 with h3 | h3
            · exact h h3
            · exact h1 ⟨h3, h4⟩
          rw [if_neg h2]
          simp [updH, h]
theorem xIB {σ : Bid → Bid} : ∀ (l : List Blk) (i : Nat) (hf : HF) (b : Bid), (∀ k, i ≤ k → k < i + l.length → σ ⟨0, k⟩ ≠ b) → xAj hf (named σ i l) b = hf b
  | [], i, hf, b, _ => rfl
  | B :: l, i, hf, b, h => by
    simp only [named, xAj]
    rw [xIB l (i + 1) _ b (fun k h1 h2 => h k (by omega) (by simp; omega))]
    have := h i (Nat.le_refl _) (by simp)
    have h3 : ¬ b = σ ⟨0, i⟩ := fun e => this e.symm
    simp only [updH, h3, if_false]
theorem xNh {σ : Bid → Bid} : ∀ (l : List Blk) (i : Nat) (hf : HF) (k : Nat) (C : Blk), (∀ k m, i ≤ k → k < i + l.length → i ≤ m → m < i + l.length → σ ⟨0, k⟩ = σ ⟨0, m⟩ → k = m) → i ≤ k → l[k - i]? = some C → xAj hf (named σ i l) (σ ⟨0, k⟩) = some (mapB σ C)
  | [], i, hf, k, C, _, _, hC => by simp at hC
  | B :: l, i, hf, k, C, hinj, hk, hC => by
    simp only [named, xAj]
    by_cases h : k = i
    · subst h
      simp at hC
      subst hC
      rw [xIB l (k + 1) _ _ (fun m h1 h2 e => by
        have := hinj m k (by omega) (by simp; omega) (Nat.le_refl _) (by simp) e
        omega), xCR]
    · refine xNh l (i + 1) _ k C (fun a b h1 h2 h3 h4 => hinj a b (by omega) (by simp; omega) (by omega) (by simp; omega)) (by omega) ?_
      have : k - i = (k - (i + 1)) + 1 := by omega
      rw [this, List.getElem?_cons_succ] at hC
      exact hC
theorem xDv {lent : List Bid} {k : Nat} {c : Bid} (h : lent[k]? = some c) : xBT lent lvl site ⟨0, k⟩ = c := by simp [xBT, h]
theorem xDu {lent : List Bid} {k : Nat} (h : lent.length ≤ k) : xBT lent lvl site ⟨0, k⟩ = ⟨lvl, site + (k - lent.length)⟩ := by
  have : lent[k]? = none := by simpa using h
  simp [xBT, this]
theorem xPF (hI : Inv Γ F μ hf w) {lent rd : List Bid} {hin : List Blk} (hrd : RdOk hf rd) (hl : xCM hf lent lent = some hin) (hnd : lent.Nodup) (hdis : ∀ b ∈ lent, b ∉ rd) {v : PV} {hout : List Blk} {rv : Value} {M0 : Bid → Option Nat} {H0 : HF}
    (hI' : Inv (Ctx.of w (xBn F μ rd) (WrOf (xDU lent μ) hin.length) M0 H0) F' μ' (resH hout) w') (hK' : Keeps (xBn F μ rd) (xDU lent μ) (resH hin) w F' μ' (resH hout) w') (hv : VRel F' μ' (resH hout) w' v rv)
    (hfree : ∀ i, i < hout.length - lent.length → hf ⟨lvl, site + i⟩ = none) (fz : Bool) (hcl : fz = false → xM8 v hout) :
    ∃ F2 μ2, Inv Γ F2 μ2 (xAj hf ((if fz then frozen hf rd else []) ++ named (xBT lent lvl site) 0 hout)) w' ∧ Keeps F μ hf w F2 μ2 (xAj hf ((if fz then frozen hf rd else []) ++ named (xBT lent lvl site) 0 hout)) w' ∧
      VRel F2 μ2 (xAj hf ((if fz then frozen hf rd else []) ++ named (xBT lent lvl site) 0 hout)) w' (mapV (xBT lent lvl site) v) rv := by
  obtain ⟨hlen, hspec⟩ := xEL hl
  have hout_lent : ∀ k c, lent[k]? = some c → ∃ B C, hf c = some B ∧ hout[k]? = some C ∧ C.box = B.box ∧ B.els.length ≤ C.els.length ∧ (C.els.length = B.els.length → C.esz = B.esz ∧ μ' ⟨0, k⟩ = μ c ∧ ∀ kk, μ c = some kk → xA6 w' kk = xA6 w kk) := by
    intro k c hc
    obtain ⟨B, B', h1, h2, h3⟩ := hspec k c hc
    obtain ⟨e1, e2, e3, _⟩ := xGl h2
    obtain ⟨C, hC, g1, g2, g3⟩ := hK'.ext ⟨0, k⟩ B' (by simpa [resH] using h3)
    refine ⟨B, C, h1, by simpa [resH] using hC, g1.trans e1, by omega, fun hh => ?_⟩
    obtain ⟨q1, q2, q3⟩ := g3 (by omega)
    rw [xEK hc] at q2 q3
    exact ⟨q1.trans e3, q2, q3⟩
  have hnlen : lent.length ≤ hout.length := by
    cases hn : lent.length with
    | zero => omega
    | succ n =>
      have hlt : n < lent.length := by omega
      obtain ⟨B, C, _, h, _⟩ := hout_lent n lent[n] (List.getElem?_eq_getElem hlt)
      have := (List.getElem?_eq_some_iff.1 h).1
      omega
  have hsome_lent : ∀ k c, lent[k]? = some c → ∃ B, hf c = some B := fun k c hc => by
    obtain ⟨B, _, h, _⟩ := hout_lent k c hc
    exact ⟨B, h⟩
  have hinj : ∀ k m, k < hout.length → m < hout.length → xBT lent lvl site ⟨0, k⟩ = xBT lent lvl site ⟨0, m⟩ → k = m := by
    intro k m hk hm he
    by_cases h1 : k < lent.length
    · have e1 := List.getElem?_eq_getElem h1
      by_cases h2 : m < lent.length
      · have e2 := List.getElem?_eq_getElem h2
        rw [xDv e1, xDv e2] at he
        exact (List.getElem?_inj h1 hnd).1 (by rw [e1, e2, he])
      · rw [xDv e1, xDu (by omega)] at he
        obtain ⟨B, hB⟩ := hsome_lent k _ e1
        rw [he, hfree _ (by omega)] at hB
        cases hB
    · by_cases h2 : m < lent.length
      · have e2 := List.getElem?_eq_getElem h2
        rw [xDv e2, xDu (by omega)] at he
        obtain ⟨B, hB⟩ := hsome_lent m _ e2
        rw [← he, hfree _ (by omega)] at hB
        cases hB
      · rw [xDu (by omega), xDu (by omega)] at he
        simp at he
        omega
  generalize hσ : xBT lent lvl site = σ at *
  generalize hh2 : xAj hf ((if fz then frozen hf rd else []) ++ named σ 0 hout) = hf2
  have in2 : ∀ k C, hout[k]? = some C → hf2 (σ ⟨0, k⟩) = some (mapB σ C) := by
    intro k C hC
    rw [← hh2, xHn]
    exact xNh hout 0 _ k C (fun a b _ h1 _ h2 => hinj a b (by omega) (by omega)) (Nat.zero_le _) hC
  have out2 : ∀ b, (∀ k, k < hout.length → σ ⟨0, k⟩ ≠ b) → (∀ B, hf b = some B → hf2 b = some (if fz = true ∧ b ∈ rd then { B with frz := true } else B)) ∧ (hf b = none → hf2 b = none) := by
    intro b hb
    have e : hf2 b = xAj hf (if fz then frozen hf rd else []) b := by
      rw [← hh2, xHn]
      exact xIB hout 0 _ b (fun k _ h2 => hb k (by omega))
    rw [e]
    cases fz with
    | false =>
      refine ⟨fun B hB => ?_, fun h => ?_⟩
      · simpa [xAj] using hB
      · simpa [xAj] using h
    | true =>
      simp only [if_true]
      rw [xD1]
      refine ⟨fun B hB => ?_, fun h => by simp [h]⟩
      rw [hB]
      by_cases hbr : b ∈ rd
      · simp [hbr]
      · simp [hbr]
  let μ2 : Bid → Option Nat := fun b => @dite _ (∃ k, k < hout.length ∧ σ ⟨0, k⟩ = b) (Classical.propDecidable _) (fun h => μ' ⟨0, Classical.choose h⟩) (fun _ => μ b)
  have m_in : ∀ k, k < hout.length → μ2 (σ ⟨0, k⟩) = μ' ⟨0, k⟩ := by
    intro k hk
    have hex : ∃ m, m < hout.length ∧ σ ⟨0, m⟩ = σ ⟨0, k⟩ := ⟨k, hk, rfl⟩
    have hc := Classical.choose_spec hex
    have hkk := hinj _ _ hc.1 hk hc.2
    show (@dite _ _ (Classical.propDecidable _) _ _) = _
    rw [dif_pos hex, hkk]
  have m_out : ∀ b, (∀ k, k < hout.length → σ ⟨0, k⟩ ≠ b) → μ2 b = μ b := by
    intro b hb
    show (@dite _ _ (Classical.propDecidable _) _ _) = _
    rw [dif_neg]
    rintro ⟨k, h1, h2⟩
    exact hb k h1 h2
  have dec : ∀ b, (∃ k, k < hout.length ∧ σ ⟨0, k⟩ = b) ∨ ∀ k, k < hout.length → σ ⟨0, k⟩ ≠ b := by
    intro b
    apply Classical.byCases (p := ∃ k, k < hout.length ∧ σ ⟨0, k⟩ = b)
    · exact .inl
    · intro h
      exact .inr fun k h1 h2 => h ⟨k, h1, h2⟩
  have σ_lent : ∀ k c, lent[k]? = some c → σ ⟨0, k⟩ = c := fun k c hc => by rw [← hσ]; exact xDv hc
  have lent_mem : ∀ k c, lent[k]? = some c → k < hout.length := fun k c hc => Nat.lt_of_lt_of_le (List.getElem?_eq_some_iff.1 hc).1 hnlen
  have old_lent : ∀ k B, k < hout.length → hf (σ ⟨0, k⟩) = some B → ∃ c, lent[k]? = some c ∧ σ ⟨0, k⟩ = c := by
    intro k B hk hB
    by_cases h : k < lent.length
    · exact ⟨lent[k], List.getElem?_eq_getElem h, σ_lent k _ (List.getElem?_eq_getElem h)⟩
    · rw [← hσ, xDu (by omega), hfree _ (by omega)] at hB
      cases hB
  have wr : ∀ k, WrOf (xDU lent μ) hin.length k → ∃ (i : Nat) (c : Bid) (B : Blk), lent[i]? = some c ∧ hf c = some B ∧ μ c = some k := by
    rintro k ⟨i, hi, hm⟩
    rw [hlen] at hi
    have e1 := List.getElem?_eq_getElem hi
    rw [xEK e1] at hm
    obtain ⟨B, hB⟩ := hsome_lent i _ e1
    exact ⟨i, _, B, e1, hB, hm⟩
  have hsz : w.heap.size ≤ w'.heap.size := hI'.size
  have F1F' : ∀ k, xBn F μ rd k → F' k := hI'.F0
  have rd_old : ∀ k, (∃ b ∈ rd, μ b = some k) → ∃ (c : Bid) (B : Blk), c ∈ rd ∧ hf c = some B ∧ μ c = some k := by
    rintro k ⟨c, hc, hm⟩
    obtain ⟨B, hB, _⟩ := hrd c hc
    exact ⟨c, B, hc, hB, hm⟩
  have mem_out : ∀ b B k, (∀ k, k < hout.length → σ ⟨0, k⟩ ≠ b) → hf b = some B → μ b = some k → w'.heap[k]? = w.heap[k]? := by
    intro b B k hb hB hm
    refine hI'.frame k (xOI hI hB hm) fun hw => ?_
    obtain ⟨i, c, C, h1, h2, h3⟩ := wr k hw
    have := hI.inj b c B C k hB h2 hm h3
    subst this
    exact hb i (lent_mem i _ h1) (σ_lent i _ h1)
  let F2 : Nat → Prop := if fz = true then F' else F
  have FF2 : ∀ k, F k → F2 k := by
    intro k hk
    show (if fz = true then F' else F) k
    split
    · exact F1F' k (.inl hk)
    · exact hk
  have F2F' : ∀ k, F2 k → F' k := by
    intro k hk
    have hk' : (if fz = true then F' else F) k := hk
    split at hk'
    · exact hk'
    · exact F1F' k (.inl hk')
  have hnamed : ∀ b B, resH hout b = some B → xCj μ' (resH hout) μ2 hf2 b (σ b) := by
    intro b B hB
    unfold resH at hB
    split at hB
    · rename_i hlv
      have hlt := (List.getElem?_eq_some_iff.1 hB).1
      have hbe : b = ⟨0, b.site⟩ := by cases b; simp_all
      rw [hbe]
      refine ⟨m_in _ hlt, fun B1 hB1 => ?_⟩
      have hB2 : hout[b.site]? = some B1 := by simpa [resH] using hB1
      exact ⟨_, in2 _ _ hB2, mapB_box, mapB_len, mapB_esz⟩
    · cases hB
  have hmem : ∀ (i : Nat) (B : Blk), hout[i]? = some B → resH hout ⟨0, i⟩ = some B := fun i B h => by simpa [resH] using h
  have hconv : ∀ B ∈ hout, (B.frz = false ∧ ∀ e ∈ B.els, ∀ c ∈ e, cS c = true) ∨ ∀ k, F' k → F2 k := by
    intro B hB
    cases hfz : fz with
    | true => exact .inr fun k hk => by show (if fz = true then F' else F) k; rw [if_pos hfz]; exact hk
    | false => exact .inl ((hcl hfz).2 B hB)
  have hkeep : Keeps F μ hf w F2 μ2 hf2 w' := by
    refine ⟨FF2, fun k hk => hK'.mem k (hk.elim (fun h => .inl (.inl h)) .inr), fun k hk => ?_, fun b B hB => ?_⟩
    · rcases hK'.fre k (F2F' k hk) with h | h
      · rcases h with h | h
        · exact .inl h
        · obtain ⟨c, B, _, hB, hm⟩ := rd_old k h
          obtain ⟨_, _, hc⟩ := (hI.blk c B hB).at hm
          exact .inr fun _ => hc
      · exact .inr h
    rcases dec b with ⟨k, hk, he⟩ | hb
    · subst he
      obtain ⟨c, hc, he⟩ := old_lent k B hk hB
      obtain ⟨B0, C, h1, h2, h3, h4, h5⟩ := hout_lent k c hc
      rw [he] at hB
      rw [hB] at h1
      cases h1
      refine ⟨mapB σ C, in2 k C h2, mapB_box.trans h3, by rw [mapB_len]; exact h4, fun hh => ?_⟩
      rw [mapB_len] at hh
      obtain ⟨q1, q2, q3⟩ := h5 hh
      refine ⟨mapB_esz.trans q1, ?_, ?_⟩
      · rw [m_in k hk, he]; exact q2
      · rw [he]; exact q3
    · have h1 := (out2 b hb).1 B hB
      refine ⟨_, h1, ?_, ?_, fun _ => ⟨?_, m_out b hb, fun k hk => xEE (mem_out b B k hb hB hk)⟩⟩
      · split <;> rfl
      · split <;> exact Nat.le_refl _
      · split <;> rfl
  refine ⟨F2, μ2, ⟨hI'.os.trans hI.os, hI'.tape.trans hI.tape, hI'.output.trans hI.output, Nat.le_trans hI.size hsz, fun k hk hW => ?_, fun k hk => hI'.lt k (F2F' k hk), fun k hk => FF2 k (hI.F0 k hk), fun k hk => ?_, fun b B2 hb2 => ?_, fun b b' B1 B2 k h1 h2 m1 m2 => ?_, fun b B2 k hb2 hm => ?_, hI.gl⟩, hkeep, ?_⟩
  · rw [← hI.frame k hk hW]
    refine hI'.frame k (Nat.lt_of_lt_of_le hk hI.size) fun hw => ?_
    obtain ⟨i, c, C, h1, h2, h3⟩ := wr k hw
    rcases hI.own c C k h2 h3 with h | h
    · omega
    · exact hW h
  · rcases hI'.new k (F2F' k hk) with h | h | h
    · rcases h with h | h
      · exact hI.new k h
      · obtain ⟨c, B, _, hB, hm⟩ := rd_old k h
        exact .inr (hI.own c B k hB hm)
    · exact .inr (.inl (Nat.le_trans hI.size h))
    · obtain ⟨i, c, C, h1, h2, h3⟩ := wr k h
      exact .inr (hI.own c C k h2 h3)
  · rcases dec b with ⟨k, hk, he⟩ | hb
    · subst he
      have hC := List.getElem?_eq_getElem hk
      rw [in2 k _ hC] at hb2
      cases hb2
      exact xKW hnamed (hmem k _ hC) (hconv _ (List.getElem_mem hk)) F2F' (hI'.blk ⟨0, k⟩ _ (hmem k _ hC))
    · cases hB : hf b with
      | none => rw [(out2 b hb).2 hB] at hb2; cases hb2
      | some B =>
        rw [(out2 b hb).1 B hB] at hb2
        obtain ⟨h1, h2, h3, h4, h5⟩ := hI.blk b B hB
        have hfb : ∀ k, μ b = some k → F2 k → B.frz = true ∨ (fz = true ∧ b ∈ rd) := by
          intro k hm hk
          rw [hm] at h5
          apply Classical.byContradiction
          intro hno
          have hnf : B.frz = false := by cases h : B.frz with | false => rfl | true => exact absurd (.inl h) hno
          have hnF : ¬ F k := h5.2.1 hnf
          have hk' : (if fz = true then F' else F) k := hk
          split at hk'
          · rename_i hfz
            rcases hI'.new k hk' with h | h | h
            · rcases h with h | h
              · exact hnF h
              · obtain ⟨c, C, hc, hC, hmc⟩ := rd_old k h
                have := hI.inj b c B C k hB hC hm hmc
                subst this
                exact hno (.inr ⟨hfz, hc⟩)
            · have := xOI hI hB hm
              simp only at h
              omega
            · obtain ⟨i, c, C, g1, g2, g3⟩ := wr k h
              have := hI.inj b c B C k hB g2 hm g3
              subst this
              exact hb i (lent_mem i _ g1) (σ_lent i _ g1)
          · exact hnF hk'
        have cellsOf : ∀ k, μ b = some k → xR2 F2 μ2 hf2 w' k B ∨ xWI w' k B := by
          intro k hm
          rw [hm] at h5
          rcases h5.2.2 with ⟨c, e, fzz, hc, hfz, hle, hr⟩ | ⟨es, xs, n, q1, q2, q3⟩
          · refine .inl ⟨c, e, fzz, (mem_out b B k hb hB hm).trans hc, hfz, hle, fun i j el p a1 a2 => ?_⟩
            obtain ⟨x, hx, hs⟩ := hr i j el p a1 a2
            exact ⟨x, hx, hs.keeps hkeep⟩
          · exact .inr ⟨es, xs, n, q1, (mem_out b B k hb hB hm).trans q2, q3⟩
        have nothing : μ b = none → B.els = [] ∧ B.box = false := fun hm => by rw [hm] at h5; exact h5
        split at hb2
        · rename_i hfr
          cases hb2
          obtain ⟨B0, hB0, hbx⟩ := hrd b hfr.2
          rw [hB] at hB0
          cases hB0
          refine ⟨⟨h1.1, xDW h1.2 rfl rfl rfl (m_out b hb) (fun k hm => mem_out b B k hb hB hm)⟩, h2, fun _ => h3 (.inl hbx), fun h => (by rw [show B.box = true from h] at hbx; cases hbx), ?_⟩
          rw [m_out b hb]
          cases hm : μ b with
          | none => exact nothing hm
          | some k =>
            refine ⟨fun _ => ?_, (fun h => by cases h), (cellsOf k hm).imp id fun ⟨es, _, _, q1, _⟩ => (by rw [q1] at hbx; cases hbx)⟩
            show (if fz = true then F' else F) k
            rw [if_pos hfr.1]
            exact F1F' k (.inr ⟨b, hfr.2, hm⟩)
        · rename_i hfr
          cases hb2
          refine ⟨⟨h1.1, xDW h1.2 rfl rfl rfl (m_out b hb) (fun k hm => mem_out b B2 k hb hB hm)⟩, h2, h3, h4, ?_⟩
          rw [m_out b hb]
          cases hm : μ b with
          | none => exact nothing hm
          | some k =>
            refine ⟨fun hz => ?_, fun hz hk => ?_, cellsOf k hm⟩
            · rw [hm] at h5
              exact FF2 k (h5.1 hz)
            · rcases hfb k hm hk with h | h
              · rw [hz] at h; cases h
              · exact hfr h
  · -- names and places
    have side : ∀ b B, hf2 b = some B → μ2 b = some k → (∃ j, j < hout.length ∧ σ ⟨0, j⟩ = b ∧ μ' ⟨0, j⟩ = some k) ∨ ((∀ k, k < hout.length → σ ⟨0, k⟩ ≠ b) ∧ ∃ B0, hf b = some B0 ∧ μ b = some k) := by
      intro b B hb hm
      rcases dec b with ⟨j, hj, he⟩ | hn
      · subst he
        rw [m_in j hj] at hm
        exact .inl ⟨j, hj, rfl, hm⟩
      · rw [m_out b hn] at hm
        cases hB : hf b with
        | none => rw [(out2 b hn).2 hB] at hb; cases hb
        | some B0 => exact .inr ⟨hn, B0, rfl, hm⟩
    have mix : ∀ b B j, (∀ k, k < hout.length → σ ⟨0, k⟩ ≠ b) → hf b = some B → μ b = some k → j < hout.length → μ' ⟨0, j⟩ = some k → False := by
      intro b B j hn hB hm hj hmj
      rcases hI'.own ⟨0, j⟩ _ k (hmem j _ (List.getElem?_eq_getElem hj)) hmj with h | h
      · have := xOI hI hB hm
        simp only at h
        omega
      · obtain ⟨i, c, C, g1, g2, g3⟩ := wr k h
        have := hI.inj b c B C k hB g2 hm g3
        subst this
        exact hn i (lent_mem i _ g1) (σ_lent i _ g1)
    rcases side b B1 h1 m1 with ⟨j, hj, he, hm⟩ | ⟨hn, B0, hB, hm⟩
    · rcases side b' B2 h2 m2 with ⟨j', hj', he', hm'⟩ | ⟨hn', B0', hB', hm'⟩
      · have := hI'.inj _ _ _ _ k (hmem j _ (List.getElem?_eq_getElem hj)) (hmem j' _ (List.getElem?_eq_getElem hj')) hm hm'
        rw [← he, ← he', this]
      · exact (mix b' B0' j hn' hB' hm' hj hm).elim
    · rcases side b' B2 h2 m2 with ⟨j', hj', he', hm'⟩ | ⟨hn', B0', hB', hm'⟩
      · exact (mix b B0 j' hn hB hm hj' hm').elim
      · exact hI.inj b b' B0 B0' k hB hB' hm hm'
  · rcases dec b with ⟨j, hj, he⟩ | hn
    · subst he
      rw [m_in j hj] at hm
      rcases hI'.own ⟨0, j⟩ _ k (hmem j _ (List.getElem?_eq_getElem hj)) hm with h | h
      · exact .inl (Nat.le_trans hI.size h)
      · obtain ⟨i, c, C, g1, g2, g3⟩ := wr k h
        exact hI.own c C k g2 g3
    · rw [m_out b hn] at hm
      cases hB : hf b with
      | none => rw [(out2 b hn).2 hB] at hb2; cases hb2
      | some B0 => exact hI.own b B0 k hB hm
  · refine xF6 hnamed ?_ hv
    cases hfz : fz with
    | true => exact .inr fun k hk => by show (if fz = true then F' else F) k; rw [if_pos hfz]; exact hk
    | false => exact .inl (hcl hfz).1
end
end Go.V
set_option linter.unusedVariables false
set_option linter.unusedSimpArgs false
namespace Go.V
def putF (tf : TF) (d : Option Nat) (v : PV) : TF := match d with | some t => fun t' => if t' = t then some v else tf t' | none => tf
def mark (r : Nat) : Deferred := { target := .collected r, args := #[] }
def Marks (Γ : Ctx) (F : Nat → Prop) (w : World) (ds : List Deferred) : Prop :=
  ∃ rs : List Nat, rs.Nodup ∧ ds = rs.map mark ∧ ∀ r ∈ rs, Γ.base ≤ r ∧ ¬ F r ∧ w.heap[r]? = some (.deferred (some []))
theorem Marks.nil {Γ : Ctx} {F : Nat → Prop} {w : World} : Marks Γ F w [] := ⟨[], List.nodup_nil, rfl, by simp⟩
theorem xFd {w : World} {r : Nat} {ds : Option (List Deferred)} (h : w.heap[r]? = some (.deferred ds)) : NC w r := ⟨_, h, by simp⟩
theorem xEI {w : World} {r : Nat} {x : Loop} (h : w.heap[r]? = some (.loop x)) : NC w r := ⟨_, h, by simp⟩
theorem Marks.keepsG {Γ : Ctx} {g : Nat → Prop} {F F' : Nat → Prop} {μ μ' : Bid → Option Nat} {hf hf' : HF} {w w' : World} {ds : List Deferred} (h : Marks Γ F w ds) (hk : KeepsG g F μ hf w F' μ' hf' w')
    (hg : ∀ r, w.heap[r]? = some (.deferred (some [])) → g r) : Marks Γ F' w' ds := by
  obtain ⟨rs, h1, h2, h3⟩ := h
  refine ⟨rs, h1, h2, fun r hr => ?_⟩
  obtain ⟨b1, b2, b3⟩ := h3 r hr
  have hn := xFd b3
  exact ⟨b1, fun h => (hk.fre r h).elim b2 fun h => h (hg r b3) hn, (hk.mem r (.inr ⟨hg r b3, hn⟩)).trans b3⟩
theorem Marks.keeps {Γ : Ctx} {F F' : Nat → Prop} {μ μ' : Bid → Option Nat} {hf hf' : HF} {w w' : World} {ds : List Deferred} (h : Marks Γ F w ds) (hk : Keeps F μ hf w F' μ' hf' w') : Marks Γ F' w' ds := h.keepsG hk fun _ _ => trivial
def RoOk (Γ : Ctx) : Prop := Γ.base ≤ Γ.w0.heap.size ∧ ∀ l, Γ.ro = some l → ¬ Γ.Ex l ∧ ∃ r, Γ.w0.heap[l]? = some (.loop r)
def RS (Γ : Ctx) (nt : Nat) (tf : TF) (hf : HF) (a : Act) (w : World) : Prop :=
  ∃ F μ, Marks Γ F w a.defers ∧ a.tmps.size = nt ∧ Inv Γ F μ hf w ∧ TRel F μ hf w tf a ∧ KeepsG (fun k => ¬ Γ.Ex k) Γ.F0 Γ.M0 Γ.H0 Γ.w0 F μ hf w ∧ (∀ b B, Γ.H0 b = some B → b.lvl = 0) ∧ RoOk Γ
abbrev FW (ro : Option Nat) : Fence := { Fence.wide with round := ro }
theorem callsIn_FW {ro : Option Nat} {n : Nat} {P : Program} {f : FuncId} {args : Array Value} {w : World} {R : Ending → World → Prop} : CallsIn (FW ro) n P f args w R ↔ Calls P f args w R :=
  ⟨fun h cs => let ⟨e, w', fr, r, s, x⟩ := h.2 cs (room_wide _); ⟨e, w', fr, r, comesIn_wide.1 s, x⟩,
   fun h => ⟨trivial, fun cs _ => let ⟨e, w', fr, r, s, x⟩ := h cs; ⟨e, w', fr, r, comesIn_wide.2 s, x⟩⟩⟩
section
variable {P : Program} {Γ : Ctx} {o : Oper} {a : Act} {F F' : Nat → Prop} {μ μ' : Bid → Option Nat} {hf hf' : HF} {w w' : World} {r : Res} {tf : TF} {lvl site nt : Nat} {ro : Option Nat}
theorem TRel.put {hf' : HF} (hT : TRel F μ hf w tf a) (hk : Keeps F μ hf w F' μ' hf' w') {d : Option Nat} {v : PV} {rv : Value} (hv : VRel F' μ' hf' w' v rv) (hd : ∀ t, d = some t → t < a.tmps.size) : TRel F' μ' hf' w' (putF tf d v) (a.put d rv) := by
  cases d with
  | none => exact fun t p h => (hT t p h).keeps hk
  | some d =>
    intro t p h
    simp only [putF] at h
    by_cases e : t = d
    · subst e
      rw [if_pos rfl] at h
      cases h
      have : ((a.put (some t) rv).tmps.getD t undef) = rv := by simp [Act.put, hd t rfl]
      rw [this]
      exact hv
    · rw [if_neg e] at h
      have : ((a.put (some d) rv).tmps.getD t undef) = a.tmps.getD t undef := by
        simp only [Act.put, Array.getD_eq_getD_getElem?]
        rw [Array.getElem?_setIfInBounds_ne (fun h => e h.symm)]
      rw [this]
      exact (hT t p h).keeps hk
theorem xE2 {d : Option Nat} {v : Value} : (a.put d v).tmps.size = a.tmps.size := by cases d <;> simp [Act.put]
theorem xC7 {d : Option Nat} {v : Value} : (a.put d v).defers = a.defers := by cases d <;> rfl
theorem xKl (hI : Inv Γ F μ hf w) (hT : TRel F μ hf w tf a) : ∀ (l : List Operand) (vs : List VX) (ps : List PV), cxs l = some vs → evs tf vs = some ps →
    ps.length = l.length ∧ ∀ (i : Nat) (q : PV) (x : Operand), ps[i]? = some q → l[i]? = some x → VRel F μ hf w q (a.eval x)
  | [], vs, ps, h1, h2 => by cases h1; cases h2; exact ⟨rfl, by simp⟩
  | x :: l, vs, ps, h1, h2 => by
    obtain ⟨y, hy, h1⟩ := bind_some h1
    obtain ⟨ys, hys, rfl⟩ := map_some h1
    obtain ⟨p, hp, h2⟩ := bind_some h2
    obtain ⟨qs, hqs, rfl⟩ := map_some h2
    obtain ⟨g1, g2⟩ := xKl hI hT l ys qs hys hqs
    refine ⟨by simp [g1], fun i q z a1 a2 => ?_⟩
    cases i with
    | zero =>
      simp at a1 a2
      subst a1; subst a2
      exact xAO hI hT hy hp
    | succ i => exact g2 i q z (by simpa using a1) (by simpa using a2)
theorem xHF {op : Op} {g : VX} {xs : List VX} (h : xAQ P op = some (.call g xs)) : ∃ c, op = .call c ∧ ((∃ f, c.callee = .value f ∧ cx f = some g ∧ cxs c.args.toList = some xs) ∨ ∃ x name y ys, c.callee = .invoke x name ∧ g = .c (.mth (xUA P name)) ∧ xs = y :: ys ∧ cx x = some y ∧ cxs c.args.toList = some ys) := by
  cases op <;> (try (cases h; done)) <;> simp only [xAQ] at h
  case call c =>
    unfold xBh at h
    split at h
    · rename_i f hc
      obtain ⟨g', hg, h⟩ := bind_some h
      obtain ⟨xs', hxs, h⟩ := map_some h
      cases h
      exact ⟨c, rfl, .inl ⟨f, hc, hg, hxs⟩⟩
    · rename_i x name hc
      obtain ⟨y, hy, h⟩ := bind_some h
      obtain ⟨ys, hys, h⟩ := map_some h
      cases h
      exact ⟨c, rfl, .inr ⟨x, name, y, ys, hc, rfl, rfl, hy, hys⟩⟩
    · split at h
      · obtain ⟨d, _, h⟩ := bind_some h
        cases d <;> (try (cases h; done)) <;> (obtain ⟨_, _, h⟩ := map_some h; cases h)
      · obtain ⟨d, _, h⟩ := bind_some h
        cases d <;> (try (cases h; done))
        obtain ⟨d, _, h⟩ := bind_some h
        cases d <;> (try (cases h; done)) <;> (
          obtain ⟨_, _, h⟩ := bind_some h
          obtain ⟨_, _, h⟩ := bind_some h
          obtain ⟨_, _, h⟩ := bind_some h
          obtain ⟨_, _, h⟩ := bind_some h
          obtain ⟨_, _, h⟩ := map_some h
          cases h)
      · obtain ⟨d, _, h⟩ := bind_some h
        cases d <;> (try (cases h; done))
        obtain ⟨_, _, h⟩ := bind_some h
        obtain ⟨_, _, h⟩ := bind_some h
        obtain ⟨_, _, h⟩ := bind_some h
        split at h <;> cases h
      · obtain ⟨d, _, h⟩ := bind_some h
        cases d <;> (try (cases h; done))
        obtain ⟨_, _, h⟩ := map_some h
        cases h
      · obtain ⟨d, _, h⟩ := bind_some h
        cases d <;> (try (cases h; done))
        obtain ⟨_, _, h⟩ := bind_some h
        obtain ⟨_, _, h⟩ := bind_some h
        obtain ⟨_, _, h⟩ := map_some h
        cases h
      · obtain ⟨_, _, h⟩ := bind_some h
        obtain ⟨_, _, h⟩ := map_some h
        cases h
      · obtain ⟨_, _, h⟩ := bind_some h
        obtain ⟨_, _, h⟩ := map_some h
        cases h
      · cases h
  case unOp op t x =>
    cases op <;> simp only [xAQ] at h <;> (try (cases h; done))
    · obtain ⟨d, _, h⟩ := bind_some h
      cases d <;> (try (cases h; done)) <;> (obtain ⟨_, _, h⟩ := map_some h; cases h)
    · obtain ⟨d, _, h⟩ := bind_some h
      cases d <;> (try (cases h; done)) <;> (obtain ⟨_, _, h⟩ := map_some h; cases h)
    · obtain ⟨_, _, h⟩ := map_some h; cases h
  case makeFunc fn first caps =>
    cases fn <;> simp only [xAQ] at h <;> (try (cases h; done))
    split at h
    · obtain ⟨_, _, h⟩ := map_some h; cases h
    · cases h
  case binOp op t x y u =>
    obtain ⟨d, _, h⟩ := bind_some h
    cases d <;> (try (cases h; done))
    · obtain ⟨_, _, h⟩ := bind_some h
      obtain ⟨_, _, h⟩ := bind_some h
      cases op <;> cases h
    · obtain ⟨_, _, h⟩ := bind_some h
      obtain ⟨_, _, h⟩ := map_some h
      cases h
    · obtain ⟨_, _, h⟩ := bind_some h
      obtain ⟨_, _, h⟩ := map_some h
      cases h
    · cases op <;> simp only at h <;> (try (cases h; done)) <;> (
        split at h
        · obtain ⟨_, _, h⟩ := map_some h; cases h
        · cases h)
    · cases op <;> simp only at h <;> (try (cases h; done)) <;> (
        split at h
        · obtain ⟨_, _, h⟩ := map_some h; cases h
        · cases h)
    · simp only at h
      split at h
      · cases h
      · obtain ⟨_, _, h⟩ := bind_some h
        split at h
        · cases h
        cases op <;> simp only at h <;> (try (cases h; done)) <;> (
          obtain ⟨_, _, h⟩ := bind_some h
          obtain ⟨_, _, h⟩ := map_some h
          cases h)
    · cases op <;> simp only at h <;> (try (cases h; done)) <;> (
        split at h
        · obtain ⟨_, _, h⟩ := map_some h; cases h
        · cases h)
  case convert s d x =>
    obtain ⟨sd, _, h⟩ := bind_some h
    obtain ⟨dd, _, h⟩ := bind_some h
    obtain ⟨_, _, h⟩ := bind_some h
    cases sd <;> (try (cases h; done)) <;> cases dd <;> (try (cases h; done)) <;> (
      obtain ⟨ed, _, h⟩ := bind_some h
      cases ed <;> (try (cases h; done))
      rename_i k _
      cases k <;> cases h)
  case build t ps =>
    obtain ⟨_, _, h⟩ := bind_some h
    obtain ⟨_, _, h⟩ := bind_some h
    obtain ⟨d, _, h⟩ := bind_some h
    cases d <;> (try (cases h; done)) <;> simp only at h
    · obtain ⟨_, _, h⟩ := map_some h; cases h
    · split at h
      · obtain ⟨_, _, h⟩ := map_some h; cases h
      · cases h
  case buildSlice t n ps =>
    obtain ⟨d, _, h⟩ := bind_some h
    cases d <;> (try (cases h; done))
    obtain ⟨_, _, h⟩ := bind_some h
    obtain ⟨_, _, h⟩ := bind_some h
    obtain ⟨_, _, h⟩ := bind_some h
    split at h <;> cases h
  case makeSlice t l c =>
    obtain ⟨d, _, h⟩ := bind_some h
    cases d <;> (try (cases h; done))
    obtain ⟨_, _, h⟩ := bind_some h
    obtain ⟨_, _, h⟩ := bind_some h
    obtain ⟨_, _, h⟩ := bind_some h
    obtain ⟨_, _, h⟩ := bind_some h
    obtain ⟨_, _, h⟩ := bind_some h
    split at h <;> cases h
  case slice t x lo hi mx =>
    obtain ⟨_, _, h⟩ := bind_some h
    obtain ⟨_, _, h⟩ := bind_some h
    obtain ⟨_, _, h⟩ := bind_some h
    obtain ⟨_, _, h⟩ := bind_some h
    obtain ⟨d, _, h⟩ := bind_some h
    cases d <;> (try (cases h; done)) <;> simp only at h
    · split at h <;> cases h
    · obtain ⟨_, _, h⟩ := bind_some h
      split at h <;> cases h
    · obtain ⟨_, _, h⟩ := bind_some h
      split at h <;> cases h
  case fieldAddr s x i =>
    obtain ⟨_, _, h⟩ := bind_some h
    obtain ⟨d, _, h⟩ := bind_some h
    cases d <;> (try (cases h; done))
    obtain ⟨_, _, h⟩ := bind_some h
    obtain ⟨_, _, h⟩ := bind_some h
    split at h <;> cases h
  case field s x i =>
    obtain ⟨_, _, h⟩ := bind_some h
    obtain ⟨d, _, h⟩ := bind_some h
    cases d <;> (try (cases h; done))
    obtain ⟨_, _, h⟩ := bind_some h
    obtain ⟨_, _, h⟩ := bind_some h
    obtain ⟨_, _, h⟩ := map_some h
    cases h
  case indexAddr t x i =>
    obtain ⟨_, _, h⟩ := bind_some h
    obtain ⟨_, _, h⟩ := bind_some h
    obtain ⟨d, _, h⟩ := bind_some h
    cases d <;> (try (cases h; done)) <;> (obtain ⟨_, _, h⟩ := bind_some h; cases h)
  case index t x i =>
    obtain ⟨_, _, h⟩ := bind_some h
    obtain ⟨_, _, h⟩ := bind_some h
    obtain ⟨d, _, h⟩ := bind_some h
    cases d <;> (try (cases h; done))
    obtain ⟨_, _, h⟩ := bind_some h
    obtain ⟨_, _, h⟩ := map_some h
    cases h
  case pick c x y =>
    obtain ⟨_, _, h⟩ := bind_some h
    obtain ⟨_, _, h⟩ := bind_some h
    obtain ⟨_, _, h⟩ := map_some h
    cases h
  case load t x =>
    obtain ⟨_, _, h⟩ := bind_some h
    obtain ⟨_, _, h⟩ := bind_some h
    obtain ⟨_, _, h⟩ := map_some h
    cases h
  case store t x y =>
    obtain ⟨_, _, h⟩ := bind_some h
    obtain ⟨_, _, h⟩ := bind_some h
    obtain ⟨_, _, h⟩ := map_some h
    cases h
  case makeMap t q => cases q <;> cases h
  case lookup t x k ok =>
    obtain ⟨d, _, h⟩ := bind_some h
    cases d <;> (try (cases h; done))
    obtain ⟨_, _, h⟩ := bind_some h
    obtain ⟨_, _, h⟩ := bind_some h
    obtain ⟨_, _, h⟩ := bind_some h
    obtain ⟨_, _, h⟩ := map_some h
    cases h
  case mapUpdate t x k v =>
    obtain ⟨d, _, h⟩ := bind_some h
    cases d <;> (try (cases h; done))
    obtain ⟨_, _, h⟩ := bind_some h
    obtain ⟨_, _, h⟩ := bind_some h
    obtain ⟨_, _, h⟩ := bind_some h
    obtain ⟨_, _, h⟩ := map_some h
    cases h
  case makeInterface t x =>
    obtain ⟨d, _, h⟩ := bind_some h
    cases d <;> first | (cases h; done) | (obtain ⟨_, _, h⟩ := map_some h; cases h)
  all_goals (obtain ⟨_, _, h⟩ := map_some h; cases h)
theorem SRel.of_P {F : Nat → Prop} {μ : Bid → Option Nat} {hf : HF} {w : World} {p : PV} {v : Value} (h : PRel F μ hf w p v) : SRel F μ hf w p v := by
  cases p <;> first
    | exact h
    | (cases h; done)
    | (cases h; exact ⟨#[], by simp, rfl, by simp⟩)
theorem Inv.freeze (hI : Inv Γ F μ hf w) {b : Bid} {B : Blk} (hb : hf b = some B) (hbox : B.box = false) :
    Inv Γ (fun k => F k ∨ μ b = some k) μ (updH hf b { B with frz := true }) w ∧ Keeps F μ hf w (fun k => F k ∨ μ b = some k) μ (updH hf b { B with frz := true }) w := by
  have hB := hI.blk b B hb
  have h := hI.upd (w' := w) b { B with frz := true } (μ b) (fun k' => F k' ∨ μ b = some k') rfl rfl rfl (Nat.le_refl _) (fun _ _ _ => rfl) (fun k => by simp) (.inl ⟨B, hb, rfl⟩) (fun _ _ _ => rfl) (fun B1 h1 => by
      rw [hb] at h1; cases h1
      exact ⟨rfl, Nat.le_refl _, fun _ => ⟨rfl, rfl, fun _ _ => rfl⟩⟩) (fun hK => ⟨⟨hB.1.1, xDW hB.1.2 rfl rfl rfl (by simp [updM]) (fun _ _ => rfl)⟩, hB.2.1, fun _ => hB.2.2.1 (.inl hbox), fun h => (by rw [show B.box = true from h] at hbox; cases hbox), by
      have hmm : updM μ b (μ b) b = μ b := by simp [updM]
      rw [hmm]
      have h5 := hB.2.2.2.2
      cases hm : μ b with
      | none => rw [hm] at h5; exact h5
      | some k =>
        rw [hm] at h5
        obtain ⟨f1, f2, c, e, fz, hc, hfz, hl, hr⟩ := hB.cells hm (fun h => by rw [h] at hbox; cases hbox)
        refine ⟨fun _ => .inr rfl, fun h => by simp at h, .inl ⟨c, e, fz, hc, hfz, hl, fun i j el p h1 h2 => ?_⟩⟩
        obtain ⟨x, hx, hs⟩ := hr i j el p h1 h2
        exact ⟨x, hx, hs.keeps (by rw [← hm]; exact hK)⟩⟩)
  have hmu : updM μ b (μ b) = μ := xHm rfl
  rw [hmu] at h
  exact h
theorem xJm {b : Bid} {B : Blk} (hb : hf b = some B) : ∀ r : List Bid, frozen (updH hf b { B with frz := true }) r = frozen hf r
  | [] => rfl
  | c :: r => by
    have ih := xJm hb r
    by_cases h : c = b
    · subst h
      simp [frozen, updH, hb, ih]
    · simp only [frozen, updH, h, if_false]
      simp only [ih]
theorem Inv.freezes : ∀ (rd : List Bid) {F : Nat → Prop} {hf : HF}, Inv Γ F μ hf w → RdOk hf rd →
    Inv Γ (xBn F μ rd) μ (xAj hf (frozen hf rd)) w ∧ Keeps F μ hf w (xBn F μ rd) μ (xAj hf (frozen hf rd)) w
  | [], F, hf, hI, _ => by
    have : xBn F μ [] = F := by funext k; simp [xBn]
    rw [this]
    exact ⟨hI, Keeps.refl⟩
  | b :: rd, F, hf, hI, hrd => by
    obtain ⟨B, hb, hbox⟩ := hrd b (by simp)
    obtain ⟨h1, h2⟩ := hI.freeze hb hbox
    have hrd' : RdOk (updH hf b { B with frz := true }) rd := by
      intro c hc
      obtain ⟨C, hC, hCb⟩ := hrd c (by simp [hc])
      by_cases h : c = b
      · subst h
        rw [hb] at hC
        cases hC
        exact ⟨_, xCR, hbox⟩
      · exact ⟨C, by simp [updH, h, hC], hCb⟩
    obtain ⟨h3, h4⟩ := Inv.freezes rd h1 hrd'
    have e1 : xBn (fun k => F k ∨ μ b = some k) μ rd = xBn F μ (b :: rd) := by
      funext k
      simp [xBn, or_assoc]
    have e2 : xAj (updH hf b { B with frz := true }) (frozen (updH hf b { B with frz := true }) rd) = xAj hf (frozen hf (b :: rd)) := by
      rw [xJm hb]
      simp only [frozen, hb, xAj]
    rw [e1, e2] at h3 h4
    exact ⟨h3, h2.trans h4⟩
theorem xQr (p : PV) : mapN id p = p := by cases p <;> rfl
theorem xTB (l : List PV) : l.map (mapN id) = l := by
  rw [show mapN id = id from funext xQr]; simp
theorem xQq (p : PV) : mapS id p = p := by
  have := xQr p
  cases p <;> first
    | exact this
    | (simp only [mapS, xTB])
theorem xS9 (l : List PV) : l.map (mapS id) = l := by
  rw [show mapS id = id from funext xQq]; simp
theorem xQs (p : PV) : mapA id p = p := by
  have := xQq p
  cases p <;> first
    | exact this
    | (simp only [mapA, xS9])
theorem xTE (l : List PV) : l.map (mapA id) = l := by
  rw [show mapA id = id from funext xQs]; simp
theorem xQp (p : PV) : mapV id p = p := by
  have := xQs p
  cases p <;> first
    | exact this
    | (simp only [mapV, xTE])
theorem xEk (hI : Inv Γ F μ hf w) {p q : PV} {v : Value} {rd : List Bid} (hc : xCZ hf [] p = some (rd, q)) (hv : VRel F μ hf w p v) : VRel (xBn F μ rd) μ hf' w q v := by
  have h := xLf hI (hin := []) rfl hc hv (fun b hb => hb)
  have := xF6 (σ := id) (F' := xBn F μ rd) (μ' := μ) (hf' := hf') (fun b B hB => by simp [resH] at hB) (.inr fun _ h => h) h
  rwa [xQp] at this
theorem cx_mth {x : Operand} {tbl : List (Nat × Nat)} (h : cx x = some (.c (.mth tbl))) : False := by
  cases x <;> simp only [cx] at h
  · cases h
  · rename_i v
    obtain ⟨p, hp, h⟩ := map_some h
    cases h
    unfold xIt at hp
    split at hp
    · obtain ⟨_, _, hp⟩ := map_some hp; cases hp
    · unfold xIu at hp
      split at hp <;> cases hp
  · first | (split at h <;> cases h; done) | (obtain ⟨_, _, h⟩ := map_some h; cases h; done) | cases h
  · first | (split at h <;> cases h; done) | (obtain ⟨_, _, h⟩ := map_some h; cases h; done) | cases h
theorem xPy {t : TypeId} {i : TypeInfo} (h : P.info? t = some i) : (typeInfo t).run P w = .ok i w := by
  simp [typeInfo, h]
theorem xOd {t : TypeId} {name : String} {f : Nat} {fuel : Nat} (h : meth P t name = some f) (v : Value) (w : World) : (method (fuel + 1) t v name).run P w = .ok (f, v) w := by
  unfold meth at h
  obtain ⟨i, hi, h⟩ := bind_some h
  obtain ⟨m, hm, h⟩ := bind_some h
  split at h
  · rename_i hp
    have hp : m.path = #[] := by simpa using hp
    split at h
    · rename_i f0 hf0
      obtain ⟨d, hd, h⟩ := bind_some h
      have hr : (receiverAt t (.val v) false (if m.path.isEmpty then some ((name.splitOn ".").getLastD name) else none)).run P w = .ok v w := by
        unfold receiverAt
        rw [Sem.run_bind, run_underlying hd]
        cases d <;> first | rfl | (cases h; done)
      have hff : f0 = f := by cases d <;> first | (cases h; rfl) | (cases h; done)
      subst hff
      unfold method
      rw [Sem.run_bind, xPy hi, Result.andThen_ok]
      simp only [hm]
      have hfo : (follow m.path.toList t (.val v)).run P w = .ok (t, .val v) w := by rw [hp]; rfl
      rw [Sem.run_bind, hfo, Result.andThen_ok]
      simp only [hf0]
      rw [Sem.run_bind, hr, Result.andThen_ok]
      rfl
    · cases h
  · cases h
theorem xFe {name : String} {t f : Nat} : ∀ {l : List Nat}, look (l.filterMap fun t => (meth P t name).map fun f => (t, f)) t = some f → meth P t name = some f
  | [], h => by cases h
  | x :: l, h => by
    simp only [List.filterMap_cons] at h
    cases hx : meth P x name with
    | none => rw [hx] at h; exact xFe h
    | some g =>
      rw [hx] at h
      simp only [Option.map_some, look] at h
      split at h
      · rename_i he
        have : x = t := Nat.eq_of_beq_eq_true he
        subst this
        rw [hx]; exact h
      · exact xFe h
theorem xNG (hI : Inv Γ F μ hf w) (hT : TRel F μ hf w tf a) {g : VX} {xs : List VX} {fid : Nat} {all : List PV} (hco : xAQ P o.op = some (.call g xs)) (ht : Targ tf g xs fid all) :
    ∃ rargs : Array Value, rargs.size = all.length ∧ (∀ (i : Nat) (p : PV) (x : Value), all[i]? = some p → rargs[i]? = some x → VRel F μ hf w p x) ∧ (execOp a.eval o).run P w = (callFunc fid rargs).run P w := by
  obtain ⟨c, hop, hcc⟩ := xHF hco
  rcases ht with ⟨f', caps, ps, e1, e2, rfl, rfl⟩ | ⟨tbl, t, cs, ps, e1, e2, e3, rfl⟩
  · rcases hcc with ⟨f, hcl, hcf, hcxs⟩ | ⟨x, name, y, ys, hcl, rfl, rfl, hy, hys⟩
    · obtain ⟨rc, hfv, hrcs, hrc⟩ := xQ6 (xAO hI hT hcf e1)
      obtain ⟨k1, k2⟩ := xKl hI hT _ _ _ hcxs e2
      refine ⟨rc.extract 0 (fnN f') ++ c.args.map a.eval ++ rc.extract (fnN f') rc.size, ?_, fun i p x h1 h2 => ?_, ?_⟩
      · simp [k1, hrcs]
      · have hL : (rc.extract 0 (fnN f') ++ c.args.map a.eval ++ rc.extract (fnN f') rc.size).toList = rc.toList.take (fnN f') ++ (c.args.toList.map a.eval ++ rc.toList.drop (fnN f')) := by
          simp [List.extract_eq_take_drop, List.append_assoc]
          rw [List.take_of_length_le (by simp)]
        rw [← Array.getElem?_toList, hL] at h2
        have hlt : (rc.toList.take (fnN f')).length = (caps.take (fnN f')).length := by simp [hrcs]
        by_cases hi : i < (caps.take (fnN f')).length
        · rw [List.getElem?_append_left hi] at h1
          rw [List.getElem?_append_left (by omega)] at h2
          have hin : i < fnN f' := by simp at hi; omega
          rw [List.getElem?_take_of_lt hin] at h1 h2
          exact VRel.of_S' (SRel.of_P (hrc i p x h1 (by simpa using h2)))
        · rw [List.getElem?_append_right (by omega)] at h1
          rw [List.getElem?_append_right (by omega), hlt] at h2
          generalize i - (caps.take (fnN f')).length = j at h1 h2
          have hla : (c.args.toList.map a.eval).length = ps.length := by simp [k1]
          by_cases hj : j < ps.length
          · rw [List.getElem?_append_left hj] at h1
            rw [List.getElem?_append_left (by omega), List.getElem?_map] at h2
            obtain ⟨y, hy, rfl⟩ := map_some h2
            exact k2 j p y h1 hy
          · rw [List.getElem?_append_right (by omega)] at h1
            rw [List.getElem?_append_right (by omega), hla] at h2
            rw [List.getElem?_drop] at h1 h2
            exact VRel.of_S' (SRel.of_P (hrc _ p x h1 (by simpa using h2)))
      · simp only [execOp, hop, resolve, hcl, Deferred.ofValue, hfv, Sem.run_bind, Sem.run_pure, Result.andThen_ok, invoke, Array.empty_append]
    · cases e1
  · rcases hcc with ⟨f, hcl, hcf, hcxs⟩ | ⟨x, name, y, ys, hcl, rfl, rfl, hy, hys⟩
    · cases g with
      | t n =>
        exfalso
        have := xAO hI hT hcf e1
        cases hq : a.eval f <;> rw [hq] at this <;> simp only [VRel, ARel, SRel, PRel] at this <;> cases this
      | c v =>
        cases e1
        exact (cx_mth hcf).elim
    · cases e1
      obtain ⟨p, hp, e2⟩ := bind_some e2
      obtain ⟨qs, hqs, e2⟩ := map_some e2
      cases e2
      obtain ⟨rc, hrv, hrs, hrr⟩ := xQ5 (xAO hI hT hy hp)
      obtain ⟨k1, k2⟩ := xKl hI hT _ _ _ hys hqs
      have hm := xFe e3
      refine ⟨#[.agg rc] ++ c.args.map a.eval, by simp [k1]; omega, fun i p x h1 h2 => ?_, ?_⟩
      · cases i with
        | zero =>
          rw [Array.getElem?_append_left (by simp)] at h2
          simp at h1 h2
          subst h1; subst h2
          exact ⟨rc, rfl, hrs, fun j q z b1 b2 => (SRel.of_closed (hrr j q z b1 b2).closed).2 (hrr j q z b1 b2)⟩
        | succ i =>
          have h1 : ps[i]? = some p := by simpa using h1
          rw [Array.getElem?_append_right (by simp)] at h2
          have h2 : (c.args.map a.eval)[i]? = some x := by simpa using h2
          rw [Array.getElem?_map] at h2
          obtain ⟨z, hz, rfl⟩ := map_some h2
          exact k2 i p z h1 (by simpa using hz)
      · have hex : (#[Value.iface t (.agg rc)] ++ c.args.map a.eval).extract 1 (#[Value.iface t (.agg rc)] ++ c.args.map a.eval).size = c.args.map a.eval := by
          simp [Array.extract_append]
        simp only [execOp, hop, resolve, hcl, hrv, Sem.run_bind, Sem.run_pure, Result.andThen_ok, invoke]
        have h0 : (#[Value.iface t (.agg rc)] ++ c.args.map a.eval)[0]? = some (.iface t (.agg rc)) := by
          rw [Array.getElem?_append_left (by simp)]; rfl
        simp only [callMethod, hex, h0]
        have hprog : (program).run P w = .ok P w := rfl
        have hpos : 0 < Made.depth := by decide
        obtain ⟨fu, hfu⟩ : ∃ fu, P.types.size + Made.depth = fu + 1 := ⟨P.types.size + (Made.depth - 1), by omega⟩
        rw [Sem.run_bind, hprog, Result.andThen_ok, Sem.run_bind, hfu, xOd hm, Result.andThen_ok]
def OpC (P : Program) (lvl site : Nat) (op : VOp) : List Nat → TF → HF → Res → Prop
  | [], tf, hf, r => OpOk P lvl site tf hf op r
  | n :: ns, tf, hf, r => ∃ p rd q r', n ∈ op.operands.flatMap VX.tmps ∧ tf n = some p ∧ xCZ hf [] p = some (rd, q) ∧ OpC P lvl site op ns (putF tf (some n) q) (xAj hf (frozen hf rd)) r' ∧ r = ⟨r'.v, frozen hf rd ++ r'.ws, rd ++ r'.rd⟩
theorem xVL {Q : Exit → Act → World → Prop} {vo : VOp} (hsz : a.tmps.size = nt) (hI : Inv Γ F μ hf w) (hT : TRel F μ hf w tf a) (hco : (xAQ P o.op).getD .bad = vo) (hd : ∀ t, o.dst = some t → t < nt) (hok : OpOk P lvl site tf hf vo r)
    (K : Act → World → Prop) (hK : ∀ rv w' F' μ', Inv Γ F' μ' (xAj hf r.ws) w' → Keeps F μ hf w F' μ' (xAj hf r.ws) w' → VRel F' μ' (xAj hf r.ws) w' r.v rv → K (a.put o.dst rv) w') (hnb : vo ≠ .bad) : o.wpIn (FW ro) 0 P a w K Q := by
  have hsem : o.semAt (FW ro).round a.eval = execOp a.eval o := Oper.semAt_eq _ _ _ fun c hc => by
    rw [hc] at hco
    exact hnb hco.symm
  refine ⟨fun _ _ => trivial, ?_⟩
  rw [hsem]
  by_cases hcall : ∃ g xs, vo = .call g xs
  · obtain ⟨g, xs, rfl⟩ := hcall
    have hco' : xAQ P o.op = some (.call g xs) := by
      cases h : xAQ P o.op with
      | none => rw [h] at hco; cases hco
      | some v => rw [h] at hco; exact congrArg some hco
    rcases hok with hok | ⟨fid, all, v, rd, ht, hx, rfl⟩
    rotate_left
    · obtain ⟨rargs, k1, k2, hrun0⟩ := xNG hI hT hco' ht
      obtain ⟨rv, hrun, hrel⟩ := hx Γ F μ hf w rargs (fun _ _ => rfl) hI k1 k2
      rw [hrun0, hrun]
      exact hK _ _ F μ hI Keeps.refl hrel
    obtain ⟨lent, fz, fid, all, rd, qs, hin, v, hout, ht, e3, e4, hnd, hdis, hvc, hfree, hcln, rfl⟩ := hok
    obtain ⟨rargs, k1, k2, hrun0⟩ := xNG hI hT hco' ht
    rw [hrun0, hvc.1]
    refine ⟨fun h => (by cases h), callsIn_FW.2 ?_⟩
    show Calls P fid rargs w _
    obtain ⟨l1, l2⟩ := xGj hI e4 all qs rd e3 (fun b hb => hb)
    have hrd := xIN e3
    have hlend := hI.lend hrd e4 hnd hdis
    refine (hvc.2 w (xBn F μ rd) (xDU lent μ) rargs hlend (by rw [l1, k1]) (fun i p x h1 h2 => ?_)).mono ?_
    · obtain ⟨p0, hp0, hconv⟩ := l2 i p h1
      exact hconv x (k2 i p0 x hp0 h2)
    · rintro e w' ⟨rv, F', μ', rfl, hI', hK', hv⟩
      obtain ⟨F2, μ2, g1, g2, g3⟩ := xPF (lvl := lvl) (site := site) hI hrd e4 hnd hdis hI' hK' hv hfree fz hcln
      exact hK _ _ _ _ g1 g2 g3
  · have hnc : ∀ g xs, vo ≠ .call g xs := fun g xs h => hcall ⟨g, xs, h⟩
    have hv : vop lvl site tf hf vo = some r := by
      cases vo <;> first | exact hok | exact (hnc _ _ rfl).elim
    obtain ⟨rv, w', F', μ', hrun, hI', hK', hV⟩ := xUZ hI hT hco hnc hv
    rcases hrun with hrun | ⟨hrun, rfl⟩
    · rw [hrun]; exact hK _ _ _ _ hI' hK' hV
    · rw [hrun]; exact hK _ _ _ _ hI' hK' hV
theorem xVM {vo : VOp} (h : OpOk P lvl site tf hf vo r) : vo ≠ .bad := by
  rintro rfl
  cases h
theorem xKO {Q : Exit → Act → World → Prop} {vo : VOp} (hsz : a.tmps.size = nt) (hco : (xAQ P o.op).getD .bad = vo) (hd : ∀ t, o.dst = some t → t < nt) (K : Act → World → Prop) : ∀ (ns : List Nat) {F : Nat → Prop} {tf : TF} {hf : HF} {r : Res}, Inv Γ F μ hf w → TRel F μ hf w tf a → OpC P lvl site vo ns tf hf r →
    (∀ rv w' F' μ', Inv Γ F' μ' (xAj hf r.ws) w' → Keeps F μ hf w F' μ' (xAj hf r.ws) w' → VRel F' μ' (xAj hf r.ws) w' r.v rv → K (a.put o.dst rv) w') → o.wpIn (FW ro) 0 P a w K Q
  | [], F, tf, hf, r, hI, hT, hok, hK => xVL hsz hI hT hco hd hok K hK (xVM hok)
  | n :: ns, F, tf, hf, r, hI, hT, hok, hK => by
    obtain ⟨p, rd, q, r', _, hp, hl, hok, rfl⟩ := hok
    obtain ⟨g1, g2⟩ := Inv.freezes rd hI (xE9 hl)
    refine xKO hsz hco hd K ns g1 (fun t v ht => ?_) hok (fun rv w' F' μ' h1 h2 h3 => ?_)
    · simp only [putF] at ht
      split at ht
      · rename_i he
        subst he
        cases ht
        exact xEk hI hl (hT _ _ hp)
      · exact (hT t v ht).keeps g2
    · rw [← xHn] at h1 h2 h3
      exact hK rv w' F' μ' h1 (g2.trans h2) h3
theorem op_wp {Q : Exit → Act → World → Prop} {vo : VOp} {ns : List Nat} (hR : RS Γ nt tf hf a w) (hco : (xAQ P o.op).getD .bad = vo) (hd : ∀ t, o.dst = some t → t < nt) (hok : OpC P lvl site vo ns tf hf r)
    (K : Act → World → Prop) (hK : ∀ a' w', RS Γ nt (putF tf o.dst r.v) (xAj hf r.ws) a' w' → K a' w') : o.wpIn (FW ro) 0 P a w K Q := by
  obtain ⟨F, μ, hdef, hsz, hI, hT, hkp, hlv⟩ := hR
  exact xKO hsz hco hd K ns hI hT hok fun rv w' F' μ' g1 g2 g3 => hK _ _ ⟨F', μ', by rw [xC7]; exact hdef.keeps g2, by rw [xE2]; exact hsz, g1, hT.put g2 g3 (fun t h => by rw [hsz]; exact hd t h), hkp.tr g2, hlv⟩
end
end Go.V
