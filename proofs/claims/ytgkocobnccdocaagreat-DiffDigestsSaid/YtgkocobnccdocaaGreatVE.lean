/- The value machine: room. What is known of a temporary's very value is carried along: the capacity that cap gave decides what append does, and shows what lies behind the elements. -/
import Derived.Test.YtgkocobnccdocaaGreatVD
import Derived.Lib.Overlaps
set_option linter.unusedVariables false
set_option linter.unusedSimpArgs false
set_option linter.unnecessarySimpa false
namespace Go.V
def isSpec : VOp → Bool
  | .cap _ => true
  | .appZ _ _ _ _ _ => true
  | _ => false
section
variable {P : Program} {Γ : Ctx} {o : Oper} {a : Act} {F F' : Nat → Prop} {μ μ' : Bid → Option Nat} {hf : HF} {w w' : World} {r : Res} {tf : TF} {lvl site nt : Nat}
theorem xHE {op : Op} {vo : VOp} (h : xAQ P op = some vo) (hk : isSpec vo = true) : ∃ c, op = .call c ∧ xBh P c = some vo := by
  cases op <;> (try (cases h <;> cases hk; done)) <;> simp only [xAQ] at h
  case call c => exact ⟨c, rfl, h⟩
  case unOp op t x =>
    cases op <;> simp only [xAQ] at h <;> (try (cases h <;> cases hk; done))
    · obtain ⟨d, _, h⟩ := bind_some h
      cases d <;> (try (cases h <;> cases hk; done)) <;> (obtain ⟨_, _, h⟩ := map_some h; (cases h <;> cases hk))
    · obtain ⟨d, _, h⟩ := bind_some h
      cases d <;> (try (cases h <;> cases hk; done)) <;> (obtain ⟨_, _, h⟩ := map_some h; (cases h <;> cases hk))
    · obtain ⟨_, _, h⟩ := map_some h; (cases h <;> cases hk)
  case makeFunc fn first caps =>
    cases fn <;> simp only [xAQ] at h <;> (try (cases h <;> cases hk; done))
    split at h
    · obtain ⟨_, _, h⟩ := map_some h; (cases h <;> cases hk)
    · (cases h <;> cases hk)
  case binOp op t x y u =>
    obtain ⟨d, _, h⟩ := bind_some h
    cases d <;> (try (cases h <;> cases hk; done))
    · obtain ⟨_, _, h⟩ := bind_some h
      obtain ⟨_, _, h⟩ := bind_some h
      cases op <;> (cases h <;> cases hk)
    · obtain ⟨_, _, h⟩ := bind_some h
      obtain ⟨_, _, h⟩ := map_some h
      (cases h <;> cases hk)
    · obtain ⟨_, _, h⟩ := bind_some h
      obtain ⟨_, _, h⟩ := map_some h
      (cases h <;> cases hk)
    · cases op <;> simp only at h <;> (try (cases h <;> cases hk; done)) <;> (
        split at h
        · obtain ⟨_, _, h⟩ := map_some h; (cases h <;> cases hk)
        · (cases h <;> cases hk))
    · cases op <;> simp only at h <;> (try (cases h <;> cases hk; done)) <;> (
        split at h
        · obtain ⟨_, _, h⟩ := map_some h; (cases h <;> cases hk)
        · (cases h <;> cases hk))
    · simp only at h
      split at h
      · (cases h <;> cases hk)
      · obtain ⟨_, _, h⟩ := bind_some h
        split at h
        · (cases h <;> cases hk)
        cases op <;> simp only at h <;> (try (cases h <;> cases hk; done)) <;> (
          obtain ⟨_, _, h⟩ := bind_some h
          obtain ⟨_, _, h⟩ := map_some h
          (cases h <;> cases hk))
    · cases op <;> simp only at h <;> (try (cases h <;> cases hk; done)) <;> (
        split at h
        · obtain ⟨_, _, h⟩ := map_some h; (cases h <;> cases hk)
        · (cases h <;> cases hk))
  case convert s d x =>
    obtain ⟨sd, _, h⟩ := bind_some h
    obtain ⟨dd, _, h⟩ := bind_some h
    obtain ⟨_, _, h⟩ := bind_some h
    cases sd <;> (try (cases h <;> cases hk; done)) <;> cases dd <;> (try (cases h <;> cases hk; done)) <;> (
      obtain ⟨ed, _, h⟩ := bind_some h
      cases ed <;> (try (cases h <;> cases hk; done))
      rename_i k _
      cases k <;> (cases h <;> cases hk))
  case build t ps =>
    obtain ⟨_, _, h⟩ := bind_some h
    obtain ⟨_, _, h⟩ := bind_some h
    obtain ⟨d, _, h⟩ := bind_some h
    cases d <;> (try (cases h <;> cases hk; done)) <;> simp only at h
    · obtain ⟨_, _, h⟩ := map_some h; (cases h <;> cases hk)
    · split at h
      · obtain ⟨_, _, h⟩ := map_some h; (cases h <;> cases hk)
      · (cases h <;> cases hk)
  case buildSlice t n ps =>
    obtain ⟨d, _, h⟩ := bind_some h
    cases d <;> (try (cases h <;> cases hk; done))
    obtain ⟨_, _, h⟩ := bind_some h
    obtain ⟨_, _, h⟩ := bind_some h
    obtain ⟨_, _, h⟩ := bind_some h
    split at h <;> (cases h <;> cases hk)
  case makeSlice t l c =>
    obtain ⟨d, _, h⟩ := bind_some h
    cases d <;> (try (cases h <;> cases hk; done))
    obtain ⟨_, _, h⟩ := bind_some h
    obtain ⟨_, _, h⟩ := bind_some h
    obtain ⟨_, _, h⟩ := bind_some h
    obtain ⟨_, _, h⟩ := bind_some h
    obtain ⟨_, _, h⟩ := bind_some h
    split at h <;> (cases h <;> cases hk)
  case slice t x lo hi mx =>
    obtain ⟨_, _, h⟩ := bind_some h
    obtain ⟨_, _, h⟩ := bind_some h
    obtain ⟨_, _, h⟩ := bind_some h
    obtain ⟨_, _, h⟩ := bind_some h
    obtain ⟨d, _, h⟩ := bind_some h
    cases d <;> (try (cases h <;> cases hk; done)) <;> simp only at h
    · split at h <;> (cases h <;> cases hk)
    · obtain ⟨_, _, h⟩ := bind_some h
      split at h <;> (cases h <;> cases hk)
    · obtain ⟨_, _, h⟩ := bind_some h
      split at h <;> (cases h <;> cases hk)
  case fieldAddr s x i =>
    obtain ⟨_, _, h⟩ := bind_some h
    obtain ⟨d, _, h⟩ := bind_some h
    cases d <;> (try (cases h <;> cases hk; done))
    obtain ⟨_, _, h⟩ := bind_some h
    obtain ⟨_, _, h⟩ := bind_some h
    split at h <;> (cases h <;> cases hk)
  case field s x i =>
    obtain ⟨_, _, h⟩ := bind_some h
    obtain ⟨d, _, h⟩ := bind_some h
    cases d <;> (try (cases h <;> cases hk; done))
    obtain ⟨_, _, h⟩ := bind_some h
    obtain ⟨_, _, h⟩ := bind_some h
    obtain ⟨_, _, h⟩ := map_some h
    (cases h <;> cases hk)
  case indexAddr t x i =>
    obtain ⟨_, _, h⟩ := bind_some h
    obtain ⟨_, _, h⟩ := bind_some h
    obtain ⟨d, _, h⟩ := bind_some h
    cases d <;> (try (cases h <;> cases hk; done)) <;> (obtain ⟨_, _, h⟩ := bind_some h; (cases h <;> cases hk))
  case index t x i =>
    obtain ⟨_, _, h⟩ := bind_some h
    obtain ⟨_, _, h⟩ := bind_some h
    obtain ⟨d, _, h⟩ := bind_some h
    cases d <;> (try (cases h <;> cases hk; done))
    obtain ⟨_, _, h⟩ := bind_some h
    obtain ⟨_, _, h⟩ := map_some h
    (cases h <;> cases hk)
  case pick c x y =>
    obtain ⟨_, _, h⟩ := bind_some h
    obtain ⟨_, _, h⟩ := bind_some h
    obtain ⟨_, _, h⟩ := map_some h
    (cases h <;> cases hk)
  case load t x =>
    obtain ⟨_, _, h⟩ := bind_some h
    obtain ⟨_, _, h⟩ := bind_some h
    obtain ⟨_, _, h⟩ := map_some h
    (cases h <;> cases hk)
  case store t x y =>
    obtain ⟨_, _, h⟩ := bind_some h
    obtain ⟨_, _, h⟩ := bind_some h
    obtain ⟨_, _, h⟩ := map_some h
    (cases h <;> cases hk)
  case makeMap t q => cases q <;> (cases h <;> cases hk)
  case lookup t x k ok =>
    obtain ⟨d, _, h⟩ := bind_some h
    cases d <;> (try (cases h; done))
    obtain ⟨_, _, h⟩ := bind_some h
    obtain ⟨_, _, h⟩ := bind_some h
    obtain ⟨_, _, h⟩ := bind_some h
    obtain ⟨_, _, h⟩ := map_some h
    (cases h <;> cases hk)
  case mapUpdate t x k v =>
    obtain ⟨d, _, h⟩ := bind_some h
    cases d <;> (try (cases h; done))
    obtain ⟨_, _, h⟩ := bind_some h
    obtain ⟨_, _, h⟩ := bind_some h
    obtain ⟨_, _, h⟩ := bind_some h
    obtain ⟨_, _, h⟩ := map_some h
    (cases h <;> cases hk)
  case makeInterface t x =>
    obtain ⟨d, _, h⟩ := bind_some h
    cases d <;> first | (cases h; done) | (obtain ⟨_, _, h⟩ := map_some h; cases h <;> cases hk)
  all_goals (obtain ⟨_, _, h⟩ := map_some h; (cases h <;> cases hk))
theorem xTj {c : Go.Call} {vx : VX} (h : xBh P c = some (.cap vx)) : ∃ x t e, c.callee = .builtin .cap ∧ c.args = #[x] ∧ c.argTypes = #[t] ∧ P.underlying t = some (.slice e) ∧ cx x = some vx := by
  unfold xBh at h
  split at h
  · obtain ⟨_, _, h⟩ := bind_some h
    obtain ⟨_, _, h⟩ := map_some h
    cases h
  · obtain ⟨_, _, h⟩ := bind_some h
    obtain ⟨_, _, h⟩ := map_some h
    cases h
  · rename_i b hc
    split at h
    · obtain ⟨d, _, h⟩ := bind_some h
      cases d <;> (try (cases h; done)) <;> (obtain ⟨_, _, h⟩ := map_some h; cases h)
    · obtain ⟨d, _, h⟩ := bind_some h
      cases d <;> (try (cases h; done))
      obtain ⟨d, _, h⟩ := bind_some h
      cases d <;> (try (cases h; done)) <;> (
        obtain ⟨_, _, h⟩ := bind_some h
        obtain ⟨_, _, h⟩ := bind_some h
        obtain ⟨_, _, h⟩ := bind_some h
        obtain ⟨_, _, h⟩ := bind_some h
        obtain ⟨_, _, h⟩ := map_some h
        cases h)
    · obtain ⟨d, _, h⟩ := bind_some h
      cases d <;> (try (cases h; done))
      obtain ⟨_, _, h⟩ := bind_some h
      obtain ⟨_, _, h⟩ := bind_some h
      obtain ⟨_, _, h⟩ := bind_some h
      split at h <;> cases h
    · rename_i x t ha ht0
      have ha := xAn ha
      have ht0 := xAn ht0
      obtain ⟨d, ht, h⟩ := bind_some h
      cases d <;> (try (cases h; done))
      obtain ⟨vx', hx, h⟩ := map_some h
      cases h
      exact ⟨x, t, _, hc, ha, ht0, ht, hx⟩
    · obtain ⟨d, _, h⟩ := bind_some h
      cases d <;> (try (cases h; done))
      obtain ⟨_, _, h⟩ := bind_some h
      obtain ⟨_, _, h⟩ := bind_some h
      obtain ⟨_, _, h⟩ := map_some h
      cases h
    · obtain ⟨_, _, h⟩ := bind_some h
      obtain ⟨_, _, h⟩ := map_some h
      cases h
    · obtain ⟨_, _, h⟩ := bind_some h
      obtain ⟨_, _, h⟩ := map_some h
      cases h
    · cases h
theorem xRz {c : Go.Call} {esz bytes : Nat} {z : List PV} {vx vy : VX} (h : xBh P c = some (.appZ esz bytes z vx vy)) : ∃ x y t u e k, c.callee = .builtin .append ∧ c.args = #[x, y] ∧ c.argTypes = #[t, u] ∧ P.underlying t = some (.slice e) ∧ P.underlying u = some (.int k) ∧
    xA5 P e = some esz ∧ xFK P e = some bytes ∧ xDh P e = some z ∧ cx x = some vx ∧ cx y = some vy := by
  unfold xBh at h
  split at h
  · obtain ⟨_, _, h⟩ := bind_some h
    obtain ⟨_, _, h⟩ := map_some h
    cases h
  · obtain ⟨_, _, h⟩ := bind_some h
    obtain ⟨_, _, h⟩ := map_some h
    cases h
  · rename_i b hc
    split at h
    · obtain ⟨d, _, h⟩ := bind_some h
      cases d <;> (try (cases h; done)) <;> (obtain ⟨_, _, h⟩ := map_some h; cases h)
    · rename_i x y t u ha ht0
      have ha := xAn ha
      have ht0 := xAn ht0
      obtain ⟨d, ht, h⟩ := bind_some h
      cases d <;> (try (cases h; done))
      rename_i e
      obtain ⟨d, hu, h⟩ := bind_some h
      cases d <;> (try (cases h; done)) <;> (
        obtain ⟨_, g1, h⟩ := bind_some h
        obtain ⟨_, g2, h⟩ := bind_some h
        obtain ⟨_, g3, h⟩ := bind_some h
        obtain ⟨_, g4, h⟩ := bind_some h
        obtain ⟨_, g5, h⟩ := map_some h
        cases h)
      exact ⟨x, y, t, u, e, _, hc, ha, ht0, ht, hu, g3, g4, g5, g1, g2⟩
    · obtain ⟨d, _, h⟩ := bind_some h
      cases d <;> (try (cases h; done))
      obtain ⟨_, _, h⟩ := bind_some h
      obtain ⟨_, _, h⟩ := bind_some h
      obtain ⟨_, _, h⟩ := bind_some h
      split at h <;> cases h
    · obtain ⟨d, _, h⟩ := bind_some h
      cases d <;> (try (cases h; done))
      obtain ⟨_, _, h⟩ := map_some h
      cases h
    · obtain ⟨d, _, h⟩ := bind_some h
      cases d <;> (try (cases h; done))
      obtain ⟨_, _, h⟩ := bind_some h
      obtain ⟨_, _, h⟩ := bind_some h
      obtain ⟨_, _, h⟩ := map_some h
      cases h
    · obtain ⟨_, _, h⟩ := bind_some h
      obtain ⟨_, _, h⟩ := map_some h
      cases h
    · obtain ⟨_, _, h⟩ := bind_some h
      obtain ⟨_, _, h⟩ := map_some h
      cases h
    · cases h
theorem xEX {t u e ty : TypeId} {i : TypeInfo} {zv : Value} {base : Option Addr} {sLen sCap n : Nat} {k ku : IntKind} {olds : Array Value} (ht : P.underlying t = some (.slice e)) (hu : P.underlying u = some (.int ku)) (hi : P.info? e = some i) (hz : i.zero = some zv)
    (hn : 0 < n) (hs : 0 < i.size) (hold : (Builtin.firstCells i.size sLen (.slice base sLen sCap)).run P w.drew = .ok olds w.drew) (hroom : sCap < sLen + n) (hb : 0 < i.bytes) (hsz : (sLen + n) * i.bytes ≤ 140737488355328) :
    (Builtin.append_ #[t, u] ty #[.slice base sLen sCap, .int k n]).run P w = .ok (.slice (some ⟨w.heap.size, 0, none⟩) (sLen + n) (grownCap w (sLen + n) sCap e))
      (w.drew.alloc (.cells (olds ++ Builtin.zeroCells zv.cells n ++ Builtin.zeroCells zv.cells (grownCap w (sLen + n) sCap e - (sLen + n))) e)) := by
  have h1 : ¬ (sLen + n ≤ sCap) := by omega
  have hle : sLen + n ≤ (sLen + n) * i.bytes := Nat.le_mul_of_pos_right _ hb
  have h63' : ¬ (9223372036854775807 < ((sLen : Int) + (n : Int))) := by omega
  have hfit := growslice_fits hroom hsz
  have h48' : ¬ (281474976710656 < Builtin.nextslicecap (sLen + n) sCap * i.bytes) := by omega
  have hn0 : n ≠ 0 := by omega
  have hw : IntKind.i64.wrap (n : Int) = n := by rw [IntKind.wrap_i64]; omega
  have hneg : ¬ ((n : Int) < 0) := by omega
  have hnb : n * i.bytes ≤ (sLen + n) * i.bytes := Nat.mul_le_mul_right _ (by omega)
  have h48i : ¬ (281474976710656 < (n : Int) * (i.bytes : Int)) := by
    rw [← Int.natCast_mul]
    omega
  have hns : ¬ (n * i.size = 0) := Nat.mul_ne_zero hn0 (by omega)
  clear hle hsz hfit hnb
  simp [Builtin.append_, run_underlying ht, run_underlying hu, sizeOf, typeInfo, zeroValue, hi, hz, asInt, asIntOf, hw, hn0, hneg, hns, h1, h63', h48', h48i, Question.forced, hold, newRow, grownCap]
theorem xPr (hI : Inv Γ F μ hf w) (hT : TRel F μ hf w tf a) {cl : Go.Call} {x y : Operand} {t u e : TypeId} {ku : IntKind} {vx vy : VX} {esz bytes : Nat} {z : List PV} (ho : o.op = .call cl) (hc : cl.callee = .builtin .append) (hargs : cl.args = #[x, y]) (htys : cl.argTypes = #[t, u])
    (ht : P.underlying t = some (.slice e)) (hu : P.underlying u = some (.int ku)) (hn : xA5 P e = some esz) (hby : xFK P e = some bytes) (hz : xDh P e = some z) (hx : cx x = some vx) (hy : cx y = some vy)
    {l : List (List PV)} {rd : List Bid} {k : IntKind} {n cap : Nat} {base : Option Addr} {p : PV} (hp : ev tf vx = some p) (hct : xAf hf p = some (rd, l)) (hax : a.eval x = .slice base l.length cap) (hq : ev tf vy = some (.int k n)) (hn0 : 0 < n) (hcap : cap < l.length + n)
    (hlen : ∀ e ∈ l, e.length = esz) (hcl : ∀ e ∈ l, ∀ c ∈ e, closed c = true) (hfree : hf ⟨lvl, site⟩ = none) (hby0 : 0 < bytes) (hroom : (l.length + n) * bytes ≤ xBB) (hz0 : z.length = esz) (h0 : 0 < esz) (hzc : z.all closed = true) :
    ∃ rv w' μ', (execOp a.eval o).run P w = .ok (.value rv) w' ∧ Inv Γ F μ' (updH hf ⟨lvl, site⟩ ⟨false, false, esz, l ++ List.replicate n z⟩) w' ∧ Keeps F μ hf w F μ' (updH hf ⟨lvl, site⟩ ⟨false, false, esz, l ++ List.replicate n z⟩) w' ∧
      VRel F μ' (updH hf ⟨lvl, site⟩ ⟨false, false, esz, l ++ List.replicate n z⟩) w' (.own ⟨lvl, site⟩ (l.length + n) 0 (l.length + n)) rv := by
  have hv := xAO hI hT hx hp
  have hvy := xAO hI hT hy hq
  obtain ⟨i, zv, hi, hisz, hiby, hiz, hzl, hzr⟩ := xKg hn hby hz
  rw [hax] at hv
  obtain ⟨_, hfc⟩ := xDP (P := P) hI hv hct hlen h0 hcl
  obtain ⟨olds, hor, hosz, horel⟩ := hfc l.length (Nat.le_refl _)
  have hrun := xEX (P := P) (w := w) (ty := o.type) (k := k) ht hu hi hiz hn0 (by omega) (by rw [hisz]; exact hor w.drew rfl) hcap (by omega) (by rw [hiby]; unfold xBB at hroom; omega)
  have hge := xCg w (l.length + n) cap e
  generalize grownCap w (l.length + n) cap e = cap' at hrun hge
  have hzs : ∀ m, (Builtin.zeroCells zv.cells m).size = m * esz := fun m => by simp [Builtin.zeroCells, hzl, hz0]
  have hrow : (olds ++ Builtin.zeroCells zv.cells n ++ Builtin.zeroCells zv.cells (cap' - (l.length + n))).size = cap' * esz := by
    simp only [Array.size_append, hosz, hzs, ← Nat.add_mul]
    congr 1
    omega
  have hZ := xEZ (F := F) (μ := μ) (hf := hf) (w := w) (esz := esz) hz0 h0 hzl (fun j p hp => hzr F w j p hp) n n (Nat.le_refl _)
  have hzc2 : (Array.range (n * esz)).map (zv.cells[· % zv.cells.size]!) = Builtin.zeroCells zv.cells n := by
    unfold Builtin.zeroCells
    rw [hzl, hz0]
  rw [hzc2] at hZ
  obtain ⟨hI', hK⟩ := hI.alloc (w1 := w.drew) ⟨lvl, site⟩ hfree ⟨false, false, esz, l ++ List.replicate n z⟩ _ e rfl rfl rfl rfl rfl h0 (fun e he => by
      rcases List.mem_append.1 he with h | h
      · exact hlen e h
      · rw [(List.mem_replicate.1 h).2]; exact hz0) (fun _ e he => by
      rcases List.mem_append.1 he with h | h
      · exact hcl e h
      · rw [(List.mem_replicate.1 h).2]
        rw [List.all_eq_true] at hzc
        exact hzc) (by simp) (by rw [hrow]; exact Nat.mul_le_mul_right _ (by simp; omega)) (fun i j el q h1 h2 => by
      show ∃ x, (olds ++ Builtin.zeroCells zv.cells n ++ Builtin.zeroCells zv.cells (cap' - (l.length + n)))[i * esz + j]? = some x ∧ SRel F μ hf w q x
      have h1 : (l ++ List.replicate n z)[i]? = some el := h1
      have hj : j < esz := by
        have h3 := (List.getElem?_eq_some_iff.1 h2).1
        have : el.length = esz := by
          rcases List.mem_append.1 (List.mem_of_getElem? h1) with h | h
          · exact hlen el h
          · rw [(List.mem_replicate.1 h).2]; exact hz0
        omega
      by_cases hilt : i < l.length
      · rw [List.getElem?_append_left (by omega)] at h1
        obtain ⟨x, hx, hs⟩ := horel i j el q hilt h1 h2
        have := xDy i j l.length esz hilt hj
        refine ⟨x, ?_, (SRel.of_closed hs.closed).2 hs⟩
        rw [Array.append_assoc, Array.getElem?_append_left (by omega)]
        exact hx
      · rw [List.getElem?_append_right (by omega)] at h1
        have hlt2 : i - l.length < n := by simpa using (List.getElem?_eq_some_iff.1 h1).1
        obtain ⟨x, hx, hs⟩ := hZ.2.2 (i - l.length) j el q h1 h2
        have e1 : l.length * esz ≤ i * esz := Nat.mul_le_mul_right _ (by omega)
        have e2 := xDy (i - l.length) j n esz hlt2 hj
        have e3 : i * esz + j = l.length * esz + ((i - l.length) * esz + j) := by rw [Nat.sub_mul]; omega
        refine ⟨x, ?_, hs⟩
        rw [Array.getElem?_append_left (by simp only [Array.size_append, hosz, hzs]; omega), Array.getElem?_append_right (by omega), hosz, e3, Nat.add_sub_cancel_left]
        exact hx) (fun _ j x hj hx => by
      have hj' : (olds ++ Builtin.zeroCells zv.cells n).size ≤ j := by
        have : (l ++ List.replicate n z).length * esz ≤ j := hj
        rw [List.length_append, List.length_replicate, Nat.add_mul] at this
        simp only [Array.size_append, hosz, hzs]
        exact this
      rw [Array.getElem?_append_right hj'] at hx
      exact xCb hzl hzr _ _ x hx)
  refine ⟨.slice (some ⟨w.heap.size, 0, none⟩) (l.length + n) cap', _, _, ?_, hI', hK, ?_⟩
  · simp [execOp, ho, hc, resolve, hargs, htys, invoke, builtin, hax, xBO hvy, hrun]
  · refine xEh (w := w) rfl (by simp) hge ?_
    show cap' * esz = _
    unfold xA6
    rw [xBI]
    simp only [hrow]
abbrev Tk := Option (Nat × Value)
def Has (h : Tk) (a : Act) : Prop := match h with
  | none => True
  | some (t, v) => a.tmps.getD t undef = v
theorem Has.put {h : Tk} {a : Act} (hh : Has h a) {d : Option Nat} {v : Value} (hd : ∀ t v, h = some (t, v) → d ≠ some t) : Has h (a.put d v) := by
  cases h with
  | none => trivial
  | some p =>
    obtain ⟨t, u⟩ := p
    have hn := hd t u rfl
    cases d with
    | none => exact hh
    | some d =>
      have hne : d ≠ t := fun e => hn (by rw [e])
      show (a.tmps.setIfInBounds d v).getD t undef = u
      rw [Array.getD_eq_getD_getElem?, Array.getElem?_setIfInBounds, if_neg hne, ← Array.getD_eq_getD_getElem?]
      exact hh
structure SeqH (P : Program) (nt : Nat) (h : Tk) (os : List VOper) (K : Tk → St → Prop) (s : St) : Prop where
  run : ∀ (Γ : Ctx) (ops : Array Oper) (vs : List VOper) (i : Nat), (∀ j o, ops[j]? = some o → ∃ v, vs[j]? = some v ∧ OperRel P nt ops vs j o v) → vs.length = ops.size → vs.drop i = os →
    ∀ (Q : Exit → Act → World → Prop) (a : Act) (w : World), RS Γ nt (tget s.tmps) (hget s.heap) a w → Has h a → (∀ h' s' a' w', K h' s' → RS Γ nt (tget s'.tmps) (hget s'.heap) a' w' → Has h' a' → Q .normal a' w') → wpOpsIn (FW Γ.ro) 0 P ops Q (List.range' i os.length) a w
structure CTH (P : Program) (nt : Nat) (h : Tk) (vc : VCode) (Q : Exit → St → Prop) (s : St) : Prop where
  run : ∀ (Γ : Ctx) (c : Code), cmp P nt c = some vc → ∀ (a : Act) (w : World), RS Γ nt (tget s.tmps) (hget s.heap) a w → Has h a → c.wpIn (FW Γ.ro) 0 P (lift Γ nt Q) a w
theorem xT0 {h : Tk} {K : Tk → St → Prop} {s : St} (hk : K h s) : SeqH P nt h [] K s := ⟨fun _ _ _ _ _ _ _ _ _ _ hR hH hQ => hQ h s _ _ hk hR hH⟩
theorem xMV {h h' : Tk} {K : Tk → St → Prop} {os : List VOper} {d : Option Nat} {op : VOp} {site : Nat} {pre : List Nat} {s s' : St}
    (hop : ∀ (Γ : Ctx) (x : Oper) (a : Act) (w : World) (K' : Act → World → Prop) (Q : Exit → Act → World → Prop), (xAQ P x.op).getD .bad = op → x.dst = d → (∀ t, x.dst = some t → t < nt) → RS Γ nt (tget s.tmps) (hget s.heap) a w → Has h a →
      (∀ a' w', RS Γ nt (tget s'.tmps) (hget s'.heap) a' w' → Has h' a' → K' a' w') → x.wpIn (FW Γ.ro) 0 P a w K' Q)
    (h2 : SeqH P nt h' os K s') : SeqH P nt h (⟨d, op, none, site, pre⟩ :: os) K s := by
  refine ⟨?_⟩
  intro Γ ops vs i h1 h2' h3 Q a w hR hH hQ
  have hvi : vs[i]? = some ⟨d, op, none, site, pre⟩ := by
    have := congrArg (fun l => l[0]?) h3
    simpa using this
  have hi : i < vs.length := (List.getElem?_eq_some_iff.1 hvi).1
  have ho : ops[i]? = some (ops[i]'(by omega)) := Array.getElem?_eq_getElem (by omega)
  obtain ⟨v', hv', hr⟩ := h1 i _ ho
  rw [hvi] at hv'
  cases hv'
  show wpOpsIn (FW Γ.ro) 0 P ops Q (i :: List.range' (i + 1) os.length) a w
  rw [wpOpsIn_cons]
  have hd' : vs.drop (i + 1) = os := by
    have := congrArg (fun l => l.drop 1) h3
    simpa [List.drop_drop] using this
  unfold wpOpIn
  rw [ho]
  simp only
  have hg : Region.wanted (ops[i]'(by omega)) (yielded ops a.tmps) = true := by
    unfold Region.wanted
    rcases hr.guard with ⟨g1, _⟩ | ⟨g, want, d', g1, g2, g3⟩
    · rw [g1]
    · cases g3
  rw [hg]
  simp only [if_true]
  exact (hop Γ _ a w _ Q hr.op hr.dst.symm hr.lt hR hH (fun a' w' hR' hH' => h2.run Γ ops vs (i + 1) h1 h2' hd' Q a' w' hR' hH' hQ))
variable {tm : Tmps} {hp : Heap}
theorem sh_opc {h : Tk} {K : Tk → St → Prop} {os : List VOper} {d : Option Nat} {op : VOp} {pre : List Nat} {ns : List Nat} (hok : OpC P lvl site op ns (tget tm) (hget hp) r) (hd : ∀ t v, h = some (t, v) → d ≠ some t)
    (h2 : SeqH P nt h os K ⟨lvl, tput tm d r.v, hput hp r.ws⟩) : SeqH P nt h (⟨d, op, none, site, pre⟩ :: os) K ⟨lvl, tm, hp⟩ := by
  refine xMV (fun Γ x a w K' Q hco hdd hlt hR hH hK => ?_) h2
  obtain ⟨F, μ, d1, d2, d3, d4, d5, d6⟩ := hR
  refine xKO d2 hco (fun t ht => hlt t ht) K' ns d3 d4 hok (fun rv w' F' μ' g1 g2 g3 => ?_)
  rw [hdd]
  refine hK _ _ ?_ (hH.put hd)
  rw [xCo, xDL]
  exact ⟨F', μ', by rw [xC7]; exact d1.keeps g2, by rw [xE2]; exact d2, g1, d4.put g2 g3 (fun t ht => by rw [d2]; exact hlt t (hdd ▸ ht)), d5.tr g2, d6⟩
theorem sh_v {h : Tk} {K : Tk → St → Prop} {os : List VOper} {d : Option Nat} {op : VOp} {pre : List Nat} {v : PV} {ws : List (Bid × Blk)} {rd : List Bid} (hv : vop lvl site (tget tm) (hget hp) op = some ⟨v, ws, rd⟩)
    (h2 : SeqH P nt h os K ⟨lvl, tput tm d v, hput hp ws⟩) (hn : xDI op = true := by rfl) (hd : ∀ t v, h = some (t, v) → d ≠ some t := by first | (intro t v e; cases e; done) | (intro t v e; cases e; decide)) : SeqH P nt h (⟨d, op, none, site, pre⟩ :: os) K ⟨lvl, tm, hp⟩ :=
  sh_opc (r := ⟨v, ws, rd⟩) (ns := []) (xGd hv hn) hd h2
theorem sh_cap {h : Tk} {K : Tk → St → Prop} {os : List VOper} {d t1 : Nat} {pre : List Nat} {b : Bid} {hw off len : Nat} (ht : tget tm t1 = some (.own b hw off len)) (hd : d ≠ t1)
    (h2 : ∀ (ad : Option Addr) (c : Nat), len ≤ c → SeqH P nt (some (t1, .slice ad len c)) os K ⟨lvl, tput tm (some d) (.int .i64 c), hp⟩) (hB : ∃ B, hget hp b = some B ∧ hw = B.els.length := by exact ⟨_, rfl, by first | rfl | (simp; done)⟩) : SeqH P nt h (⟨some d, .cap (.t t1), none, site, pre⟩ :: os) K ⟨lvl, tm, hp⟩ := by
  refine ⟨?_⟩
  intro Γ ops vs i h1 h2' h3 Q a w hR hH hQ
  obtain ⟨F, μ, d1, d2, d3, d4, d5, d6⟩ := hR
  obtain ⟨ad, c, he, hsome, B0, hb0, hbox, hle, hcur⟩ := xBp (d4 t1 _ ht)
  obtain ⟨B, hb, hwB⟩ := hB
  rw [hb] at hb0
  cases hb0
  obtain ⟨g1, g2⟩ := hcur hwB
  have hlc : len ≤ c := by
    cases hm : μ b with
    | none => rw [hm] at g2; omega
    | some kb => rw [hm] at g2; obtain ⟨_, _, _, q, _⟩ := g2; exact q
  have key : SeqH P nt (some (t1, .slice ad len c)) (⟨some d, .cap (.t t1), none, site, pre⟩ :: os) K ⟨lvl, tm, hp⟩ := by
    refine xMV (h' := some (t1, .slice ad len c)) (fun Γ x a w K' Q hco hdd hlt hR hH hK => ?_) (h2 ad c hlc)
    obtain ⟨F, μ, d1, d2, d3, d4, d5, d6⟩ := hR
    have hco' : xAQ P x.op = some (.cap (.t t1)) := by
      cases hq : xAQ P x.op with
      | none => rw [hq] at hco; cases hco
      | some v => rw [hq] at hco; exact congrArg some hco
    obtain ⟨cl, ho, hcl⟩ := xHE hco' rfl
    obtain ⟨y, t, e, e1, e2, e3, e4, e5⟩ := xTj hcl
    have hy : a.eval y = .slice ad len c := by
      cases y <;> simp only [cx] at e5 <;> (try (cases e5; done))
      · cases e5; exact hH
      all_goals first | (obtain ⟨_, _, e5⟩ := map_some e5; cases e5; done) | (split at e5 <;> cases e5)
    have hrun : (execOp a.eval x).run P w = .ok (.value (.int .i64 c)) w := by
      simp [execOp, ho, e1, resolve, e2, e3, invoke, builtin, Builtin.cap_, run_underlying e4, hy, goInt]
    have hsem : x.semAt (FW Γ.ro).round a.eval = execOp a.eval x := Oper.semAt_eq _ _ _ fun c hc => by rw [ho] at hc; cases hc
    refine ⟨fun _ _ => trivial, ?_⟩
    rw [hsem, hrun]
    show K' (a.put x.dst _) w
    rw [hdd]
    refine hK _ _ ?_ (hH.put (by intro t v hq; cases hq; intro h; cases h; exact hd rfl))
    rw [xCo]
    exact ⟨F, μ, by rw [xC7]; exact d1, by rw [xE2]; exact d2, d3, d4.put Keeps.refl (VRel.int _ _) (fun t ht => by rw [d2]; exact hlt t (hdd ▸ ht)), d5, d6⟩
  exact key.run Γ ops vs i h1 h2' h3 Q a w ⟨F, μ, d1, d2, d3, d4, d5, d6⟩ he hQ
theorem xU4 {K : Tk → St → Prop} {os : List VOper} {d t1 t2 : Nat} {pre : List Nat} {b : Bid} {hw len len2 c n esz bytes : Nat} {ad : Option Addr} {z : List PV} {y : VX} {k : IntKind} {els : List (List PV)}
    (h2 : SeqH P nt none os K ⟨lvl, tput tm (some d) (.own ⟨lvl, site⟩ (len2 + n) 0 (len2 + n)), hset hp ⟨lvl, site⟩ ⟨false, false, esz, els.take len2 ++ List.replicate n z⟩⟩)
    (hbig : c < len2 + n) (ht : tget tm t1 = some (.own b hw 0 len) := by rfl) (ht2 : tget tm t2 = some (.own b hw 0 len2) := by rfl) (hq : ev (tget tm) y = some (.int k n) := by rfl) (hB : hget hp b = some (blkV esz els) := by rfl) (hwB : hw = els.length := by first | rfl | (simp; done) | (simp only [blkV, List.length_map]; omega)) (hl2 : len2 ≤ els.length := by first | omega | (simp only [List.length_map]; omega))
    (hn0 : 0 < n := by omega) (hlen : ∀ e ∈ els, e.length = esz := by (intro e he; obtain ⟨a, _, rfl⟩ := List.mem_map.1 he; rfl)) (hcl : ∀ e ∈ els, ∀ c ∈ e, closed c = true := by (intro e he; obtain ⟨a, _, rfl⟩ := List.mem_map.1 he; simp [closed])) (hfree : hget hp ⟨lvl, site⟩ = none := by rfl) (hby0 : 0 < bytes := by decide)
    (hroom : (len2 + n) * bytes ≤ xBB := by (unfold xBB; omega)) (hz0 : z.length = esz := by rfl) (h0 : 0 < esz := by decide) (hzc : z.all closed = true := by rfl) :
    SeqH P nt (some (t1, .slice ad len c)) (⟨some d, .appZ esz bytes z (.t t2) y, none, site, pre⟩ :: os) K ⟨lvl, tm, hp⟩ := by
  refine xMV (h' := none) (fun Γ x a w K' Q hco hdd hlt hR hH hK => ?_) h2
  obtain ⟨F, μ, d1, d2, d3, d4, d5, d6⟩ := hR
  have hco' : xAQ P x.op = some (.appZ esz bytes z (.t t2) y) := by
    cases hq : xAQ P x.op with
    | none => rw [hq] at hco; cases hco
    | some v => rw [hq] at hco; exact congrArg some hco
  obtain ⟨cl, ho, hcl'⟩ := xHE hco' rfl
  obtain ⟨x1, x2, t, u, e, ku, e1, e2, e3, e4, e5, e6, e7, e8, e9, e10⟩ := xRz hcl'
  obtain ⟨ad1, c1, he1, _, B1, hb1, _, _, hcur1⟩ := xBp (d4 t1 _ ht)
  obtain ⟨ad2, c2, he2, _, B2, hb2, _, _, hcur2⟩ := xBp (d4 t2 _ ht2)
  rw [hB] at hb1 hb2
  cases hb1
  cases hb2
  have hH1 : a.tmps.getD t1 undef = .slice ad len c := hH
  rw [hH1] at he1
  cases he1
  obtain ⟨_, g1⟩ := hcur1 hwB
  obtain ⟨_, g2⟩ := hcur2 hwB
  have hcc : c2 < len2 + n := by
    cases hm : μ b with
    | none => rw [hm] at g2; obtain ⟨_, rfl, rfl, _⟩ := g2; omega
    | some kb =>
      rw [hm] at g1 g2
      obtain ⟨o1, _, _, _, r1, _⟩ := g1
      obtain ⟨o2, _, _, _, r2, _⟩ := g2
      have : (0 + c2) * esz = (0 + c) * esz := r2.trans r1.symm
      have := Nat.eq_of_mul_eq_mul_right h0 this
      omega
  have hx1 : a.eval x1 = .slice ad2 len2 c2 := by
    cases x1 <;> simp only [cx] at e9 <;> (try (cases e9; done))
    · cases e9; exact he2
    all_goals first | (obtain ⟨_, _, e9⟩ := map_some e9; cases e9; done) | (split at e9 <;> cases e9)
  have hct : xAf (hget hp) (.own b hw 0 len2) = some ([b], els.take len2) := by
    have := xDQ (hf := hget hp) (b := b) (hw := hw) (off := 0) (len := len2) (els := els) hB rfl hwB (by omega)
    simpa [blkV] using this
  have hl2' : (els.take len2).length = len2 := by simp; omega
  obtain ⟨rv, w', μ', hrun, hI', hK', hV⟩ := xPr (lvl := lvl) (site := site) d3 d4 ho e1 e2 e3 e4 e5 e6 e7 e8 e9 e10 (l := els.take len2) (rd := [b]) (base := ad2) (cap := c2) (k := k) (n := n) (p := .own b hw 0 len2) ht2 hct (by rw [hl2']; exact hx1) hq hn0 (by rw [hl2']; exact hcc)
    (fun e he => hlen e (List.mem_of_mem_take he)) (fun e he => hcl e (List.mem_of_mem_take he)) hfree hby0 (by rw [hl2']; exact hroom) hz0 h0 hzc
  rw [hl2'] at hV
  have hsem : x.semAt (FW Γ.ro).round a.eval = execOp a.eval x := Oper.semAt_eq _ _ _ fun c hc => by rw [ho] at hc; cases hc
  refine ⟨fun _ _ => trivial, ?_⟩
  rw [hsem, hrun]
  show K' (a.put x.dst _) w'
  rw [hdd]
  refine hK _ _ ?_ trivial
  have hh : hget (hset hp ⟨lvl, site⟩ ⟨false, false, esz, els.take len2 ++ List.replicate n z⟩) = updH (hget hp) ⟨lvl, site⟩ ⟨false, false, esz, els.take len2 ++ List.replicate n z⟩ := by
    funext c
    exact xA9 ..
  rw [xCo]
  show RS Γ nt _ (hget (hset hp _ _)) _ _
  rw [hh]
  exact ⟨F, μ', by rw [xC7]; exact d1.keeps hK', by rw [xE2]; exact d2, hI', d4.put hK' hV (fun t ht => by rw [d2]; exact hlt t (hdd ▸ ht)), d5.tr hK', d6⟩
theorem ch_ct {h : Tk} {vc : VCode} {Q : Exit → St → Prop} {s : St} (hc : CT P nt vc Q s) : CTH P nt h vc Q s := ⟨fun Γ c hcc a w hR _ => hc.run Γ c hcc a w hR⟩
theorem ct_ch {vc : VCode} {Q : Exit → St → Prop} {s : St} (hc : CTH P nt none vc Q s) : CT P nt vc Q s := ⟨fun Γ c hcc a w hR => hc.run Γ c hcc a w hR trivial⟩
theorem xLG {h : Tk} {id : Nat} {vs : List VOper} {K : Tk → St → Prop} {s : St} (hs : SeqH P nt h vs K s) {Γ : Ctx} {c : Code} (hc : cmp P nt c = some (.region id false vs)) {a : Act} {w : World} (hR : RS Γ nt (tget s.tmps) (hget s.heap) a w) (hH : Has h a)
    {Q : Exit → Act → World → Prop} (hQ : ∀ h' s' a' w', K h' s' → RS Γ nt (tget s'.tmps) (hget s'.heap) a' w' → Has h' a' → Q .normal a' w') : c.wpIn (FW Γ.ro) 0 P Q a w := by
  cases c <;> simp only [cmp] at hc <;> (try (cases hc; done)) <;> (try (obtain ⟨_, _, hc⟩ := bind_some hc; obtain ⟨_, _, hc⟩ := map_some hc; cases hc; done)) <;> (try (obtain ⟨_, _, hc⟩ := map_some hc; cases hc; done))
  · rename_i id' ops draw
    obtain ⟨vs', hvs, hc⟩ := bind_some hc
    have hsp := xRf (draw := draw) hvs
    split at hc
    · rename_i hd
      cases hc
      obtain ⟨hlen', hrel'⟩ := hsp
      refine wpIn_region ?_
      have := hs.run Γ ops _ 0 hrel' hlen' rfl Q a w hR hH hQ
      rwa [hlen', ← List.range_eq_range'] at this
    · cases hc
  · obtain ⟨_, _, hc⟩ := bind_some hc
    obtain ⟨_, _, hc⟩ := bind_some hc
    obtain ⟨_, _, hc⟩ := map_some hc
    cases hc
  · obtain ⟨_, _, hc⟩ := bind_some hc
    obtain ⟨_, _, hc⟩ := bind_some hc
    obtain ⟨_, _, hc⟩ := map_some hc
    cases hc
theorem xMA {h : Tk} {id : Nat} {vs : List VOper} {y : VCode} {Q : Exit → St → Prop} {s : St} (hs : SeqH P nt h vs (fun h' s' => CTH P nt h' y Q s') s) : CTH P nt h (.seq (.region id false vs) y) Q s := by
  refine ⟨?_⟩
  intro Γ c hc a w hR hH
  cases c <;> simp only [cmp] at hc <;> (try (cases hc; done)) <;> (try (obtain ⟨_, _, hc⟩ := map_some hc; cases hc; done))
  · obtain ⟨_, _, hc⟩ := bind_some hc
    split at hc <;> cases hc
  · obtain ⟨vx, hx, hc⟩ := bind_some hc
    obtain ⟨vy, hy, hc⟩ := map_some hc
    cases hc
    exact wpIn_seq (xLG hs hx hR hH fun h' s' a' w' hk hr hh => hk.run Γ _ hy a' w' hr hh)
  · obtain ⟨_, _, hc⟩ := bind_some hc
    obtain ⟨_, _, hc⟩ := bind_some hc
    obtain ⟨_, _, hc⟩ := map_some hc
    cases hc
  · obtain ⟨_, _, hc⟩ := bind_some hc
    obtain ⟨_, _, hc⟩ := bind_some hc
    obtain ⟨_, _, hc⟩ := map_some hc
    cases hc
theorem xWB {h : Tk} {c : VX} {x y : VCode} {Q : Exit → St → Prop} {s : St} {t : Bool} (h1 : t = true → CTH P nt h x Q s) (h2 : t = false → CTH P nt h y Q s) (hb : ev (tget s.tmps) c = some (.bool t) := by rfl) : CTH P nt h (.cond c x y) Q s := by
  refine ⟨?_⟩
  intro Γ c hc a w hR hH
  cases c <;> simp only [cmp] at hc <;> (try (cases hc; done)) <;> (try (obtain ⟨_, _, hc⟩ := map_some hc; cases hc; done))
  · obtain ⟨_, _, hc⟩ := bind_some hc
    split at hc <;> cases hc
  · obtain ⟨_, _, hc⟩ := bind_some hc
    obtain ⟨_, _, hc⟩ := map_some hc
    cases hc
  · obtain ⟨c', hc', hc⟩ := bind_some hc
    obtain ⟨vx, hx, hc⟩ := bind_some hc
    obtain ⟨vy, hy, hc⟩ := map_some hc
    cases hc
    have hR0 := hR
    obtain ⟨F, μ, _, _, d3, d4, _, _⟩ := hR0
    exact wpIn_cond_split (xCW (xAO d3 d4 hc' hb)) (fun e => (h1 e).run Γ _ hx a w hR hH) (fun e => (h2 e).run Γ _ hy a w hR hH)
  · obtain ⟨_, _, hc⟩ := bind_some hc
    obtain ⟨_, _, hc⟩ := bind_some hc
    obtain ⟨_, _, hc⟩ := map_some hc
    cases hc
theorem xRp {vc : VCode} {Q : Exit → St → Prop} {t0 t1 m n c esz lvl : Nat} {ad : Option Addr} {b : Bid} {els : List (List PV)} (hn : els.length = n)
    (h : ∀ rows : List (List PV), rows.length = m → (∀ e ∈ rows, e.length = esz ∧ ∀ c ∈ e, closed c = true) → CT P nt vc Q ⟨lvl, tput tm (some t0) (.own b (n + m) 0 n), hset hp b ⟨false, false, esz, els ++ rows⟩⟩)
    (hc : n + m ≤ c) (ht0 : tget tm t0 = some (.own b n 0 n) := by rfl) (ht1 : tget tm t1 = some (.own b n 0 n) := by rfl) (hB : hget hp b = some (blkV esz els) := by rfl) : CTH P nt (some (t1, .slice ad n c)) vc Q ⟨lvl, tm, hp⟩ := by
  refine ⟨?_⟩
  intro Γ cc hcc a w hR hH
  obtain ⟨F, μ, d1, d2, d3, d4, d5, d6⟩ := hR
  have hH1 : a.tmps.getD t1 undef = .slice ad n c := hH
  have hbl : (blkV esz els).els.length = n := hn
  obtain ⟨ad1, c1, he1, _, B1, hb1, _, _, hcur1⟩ := xBp (d4 t1 _ ht1)
  obtain ⟨ad0, c0, he0, hs0, B0, hb0, _, _, hcur0⟩ := xBp (d4 t0 _ ht0)
  rw [hB] at hb1 hb0
  cases hb1
  cases hb0
  rw [hH1] at he1
  cases he1
  obtain ⟨_, g1⟩ := hcur1 hbl.symm
  obtain ⟨_, g0⟩ := hcur0 hbl.symm
  have hBk := d3.blk b _ hB
  have hesz : 0 < esz := hBk.1.1
  rcases Nat.eq_zero_or_pos m with hm0 | hmpos
  · -- nothing to show
    subst hm0
    have h3 := h [] rfl (by simp)
    refine h3.run Γ cc hcc a w ⟨F, μ, d1, d2, ?_, ?_, ?_, d6⟩
    · have e : hget (hset hp b ⟨false, false, esz, els ++ []⟩) = hget hp := by
        funext c
        show hget (hset hp b _) c = _
        rw [xA9]
        split
        · next e => rw [e, hB]; simp [blkV]
        · rfl
      show Inv Γ F μ (hget (hset hp b ⟨false, false, esz, els ++ []⟩)) w
      rw [e]; exact d3
    · intro t p htp
      have htp' : tget (tput tm (some t0) (.own b (n + 0) 0 n)) t = some p := htp
      rw [xCo] at htp'
      have e : hget (hset hp b ⟨false, false, esz, els ++ []⟩) = hget hp := by
        funext c
        show hget (hset hp b _) c = _
        rw [xA9]
        split
        · next e => rw [e, hB]; simp [blkV]
        · rfl
      show VRel F μ (hget (hset hp b ⟨false, false, esz, els ++ []⟩)) w p _
      rw [e]
      simp only [putF] at htp'
      split at htp'
      · next e => subst e; cases htp'; exact d4 _ _ ht0
      · exact d4 t p htp'
    · have e : hget (hset hp b ⟨false, false, esz, els ++ []⟩) = hget hp := by
        funext c
        show hget (hset hp b _) c = _
        rw [xA9]
        split
        · next e => rw [e, hB]; simp [blkV]
        · rfl
      show KeepsG _ _ _ _ _ F μ (hget (hset hp b ⟨false, false, esz, els ++ []⟩)) w
      rw [e]; exact d5
  have hBk5 := hBk.2.2.2.2
  cases hmu : μ b with
  | none =>
    rw [hmu] at g1
    obtain ⟨_, rfl, rfl, _⟩ := g1
    omega
  | some k =>
    rw [hmu] at g1 g0
    obtain ⟨o1, _, _, _, r1, _⟩ := g1
    obtain ⟨o0, rfl, q0, _, r0, _⟩ := g0
    have hcc0 : c0 = c := by
      have : (0 + c0) * esz = (0 + c) * esz := r0.trans r1.symm
      have := Nat.eq_of_mul_eq_mul_right hesz this
      omega
    subst hcc0
    obtain ⟨f1, f2, cs, e, fz, hcs, hfz, hl, hr⟩ := hBk.cells hmu (fun h => by cases h)
    have hsz : cs.size = c0 * esz := by
      have : (0 + c0) * esz = xA6 w k := r0
      unfold xA6 at this
      rw [hcs] at this
      simpa using this.symm
    have hsp : ∀ j, n * esz ≤ j → j < cs.size → ∃ p, closed p = true ∧ ∀ (F : Nat → Prop) (w : World), CRel F w p (cs.getD j undef) := by
      intro j hj hjl
      have := hBk.1.2.1 rfl k cs e fz hmu hcs j (cs.getD j undef) (by rw [hbl]; exact hj) (by rw [Array.getD_eq_getD_getElem?, Array.getElem?_eq_getElem hjl]; rfl)
      exact this
    let gcell : Nat → PV := fun j => if hj : n * esz ≤ j ∧ j < cs.size then Classical.choose (hsp j hj.1 hj.2) else .nils
    have hgc : ∀ j, closed (gcell j) = true := by
      intro j
      simp only [gcell]
      split
      · next hj => exact (Classical.choose_spec (hsp j hj.1 hj.2)).1
      · rfl
    have hgr : ∀ j, n * esz ≤ j → j < cs.size → CRel F w (gcell j) (cs.getD j undef) := by
      intro j h1 h2
      simp only [gcell]
      rw [dif_pos ⟨h1, h2⟩]
      exact (Classical.choose_spec (hsp j h1 h2)).2 F w
    let rows : List (List PV) := (List.range m).map fun i => (List.range esz).map fun j => gcell ((n + i) * esz + j)
    have hrl : rows.length = m := by simp [rows]
    have hrc : ∀ e ∈ rows, e.length = esz ∧ ∀ c ∈ e, closed c = true := by
      intro e he
      obtain ⟨i, _, rfl⟩ := List.mem_map.1 he
      refine ⟨by simp, fun c hc => ?_⟩
      obtain ⟨j, _, rfl⟩ := List.mem_map.1 hc
      exact hgc _
    have hfit : (n + m) * esz ≤ cs.size := by rw [hsz]; exact Nat.mul_le_mul_right _ hc
    have hlr : (els ++ rows).length = n + m := by rw [List.length_append, hn, hrl]
    have hFF : ∀ k', F k' ↔ F k' ∨ (false = true ∧ some k = some k') := fun k' => by simp
    obtain ⟨hI', hK⟩ := d3.upd (w' := w) b ⟨false, false, esz, els ++ rows⟩ (some k) F rfl rfl rfl (Nat.le_refl _) (fun _ _ _ => rfl) (fun k' => by simp) (.inl ⟨_, hB, hmu.symm⟩) (fun B1 h1 hf1 => by rw [hB] at h1; cases h1; cases hf1) (fun B1 h1 => by
      rw [hB] at h1; cases h1
      refine ⟨rfl, ?_, fun hh => ?_⟩
      · show els.length ≤ (els ++ rows).length
        rw [hlr, hn]; omega
      · have hh : (els ++ rows).length = els.length := hh
        rw [hlr, hn] at hh
        omega) (fun hK => xKs ⟨hesz, fun e1 h1 => by
          rcases List.mem_append.1 h1 with h | h
          · exact hBk.2.1 e1 h
          · exact (hrc e1 h).1, fun _ e1 h1 => by
          rcases List.mem_append.1 h1 with h | h
          · exact hBk.2.2.1 (.inl rfl) e1 h
          · exact (hrc e1 h).2, (fun h => by cases h), by
          simp only [updM, if_true]
          refine ⟨(fun h => by cases h), fun _ => f2 rfl, cs, e, fz, hcs, hfz, by rw [hlr]; exact hfit, fun i j el p h1 h2 => ?_⟩
          by_cases hi : i < n
          · rw [List.getElem?_append_left (by omega)] at h1
            obtain ⟨x, hx, hS⟩ := hr i j el p h1 h2
            exact ⟨x, hx, hS.keeps hK⟩
          · have hil : i < n + m := by rw [← hlr]; exact (List.getElem?_eq_some_iff.1 h1).1
            rw [List.getElem?_append_right (by omega), hn] at h1
            simp only [rows, List.getElem?_map] at h1
            obtain ⟨i', hi', rfl⟩ := map_some h1
            have hi'' : i' = i - n := by
              rw [List.getElem?_range (by omega)] at hi'
              exact (Option.some.inj hi').symm
            subst hi''
            rw [List.getElem?_map] at h2
            obtain ⟨j', hj', rfl⟩ := map_some h2
            have hjl : j < esz := by simpa using (List.getElem?_eq_some_iff.1 hj').1
            have hj'' : j' = j := by
              rw [List.getElem?_range hjl] at hj'
              exact (Option.some.inj hj').symm
            rw [hj'']
            have e1 : n + (i - n) = i := by omega
            have hlt : i * esz + j < cs.size := Nat.lt_of_lt_of_le (xDy i j (n + m) esz hil hjl) hfit
            have hge : n * esz ≤ i * esz + j := Nat.le_trans (Nat.mul_le_mul_right esz (by omega : n ≤ i)) (Nat.le_add_right _ _)
            rw [e1]
            refine ⟨cs.getD (i * esz + j) undef, by rw [Array.getD_eq_getD_getElem?, Array.getElem?_eq_getElem hlt]; rfl, ?_⟩
            exact (SRel.of_closed (hgc _)).2 (hgr _ hge hlt)⟩ (fun _ k2 c2 e2 fz2 hk2 hc2 => by
          simp only [updM, if_true] at hk2
          cases hk2
          intro j x hj hx
          refine hBk.1.2.1 rfl k c2 e2 fz2 hmu hc2 j x ?_ hx
          have hj : (els ++ rows).length * esz ≤ j := hj
          rw [hlr] at hj
          rw [hbl]
          exact Nat.le_trans (Nat.mul_le_mul_right _ (by omega)) hj) (fun _ hz k2 c2 e2 fz2 hk2 hc2 => by
          simp only [updM, if_true] at hk2
          cases hk2
          exact hBk.1.2.2 rfl hz k c2 e2 fz2 hmu hc2))
    have hmm : updM μ b (some k) = μ := xHm hmu
    rw [hmm] at hI' hK
    have hh : hget (hset hp b ⟨false, false, esz, els ++ rows⟩) = updH (hget hp) b ⟨false, false, esz, els ++ rows⟩ := by
      funext c
      exact xA9 ..
    refine (h rows hrl hrc).run Γ cc hcc a w ⟨F, μ, d1, d2, ?_, ?_, ?_, d6⟩
    · show Inv Γ F μ (hget (hset hp b _)) w
      rw [hh]; exact hI'
    · intro t p htp
      have htp' : tget (tput tm (some t0) (.own b (n + m) 0 n)) t = some p := htp
      rw [xCo] at htp'
      show VRel F μ (hget (hset hp b _)) w p _
      rw [hh]
      simp only [putF] at htp'
      split at htp'
      · next e0 =>
        subst e0
        cases htp'
        refine ⟨_, c0, he0, hs0, ⟨false, false, esz, els ++ rows⟩, by simp [updH], rfl, by rw [hlr]; exact Nat.le_refl _, fun _ => ⟨by omega, ?_⟩⟩
        rw [hmu]
        exact ⟨o0, rfl, q0, by omega, r0, by rw [hlr]; omega⟩
      · exact (d4 t p htp').keeps hK
    · show KeepsG _ _ _ _ _ F μ (hget (hset hp b _)) w
      rw [hh]
      exact d5.tr hK
end
end Go.V
set_option linter.unusedVariables false
set_option linter.unusedSimpArgs false
namespace Go.Lib
theorem xFY {P : Program} (w : World) (tS tR e : TypeId) (ht : P.underlying tS = some (.slice e)) (size : Nat) (hz : ∀ w, (Go.sizeOf e).run P w = .ok size w)
    (a b : Addr) (la ca lb cb : Nat) (hne : a.block ≠ b.block) (tA tB : TypeId) (kA kB : Nat)
    (hsa : w.shape? a.block = some (tA, kA)) (hsb : w.shape? b.block = some (tB, kB)) (hkA : kA ≠ 0)
    (hfb : w.frozen? b = false) (hfe : w.frozen? { block := b.block, off := kB } = false) :
    (Extern.SlicesOverlaps.overlaps #[tS, tS] #[tR] #[.slice (some a) la ca, .slice (some b) lb cb]).run P w = .ok (.bool false) w := by
  have hnb : (a.block != b.block) = true := by simpa using hne
  have hnb' : (a.block == b.block) = false := by simpa using hne
  change Sem.run P (α := Value) (do
    let some t := (#[tS, tS] : Array TypeId)[0]? | stuck "slices.overlaps: no parameter types"
    let .slice elem ← underlying t | stuck "slices.overlaps: slice type expected"
    let size ← sizeOf elem
    match (some a : Option Addr), (some b : Option Addr) with
    | some a, some b =>
      if la = 0 ∨ lb = 0 ∨ size = 0 then pure (Value.bool false)
      else if a.block != b.block && (← frozen a) && (← frozen b) then unsupported .addressObserved
      else do
        if a.block != b.block then do
          noView a; noView b
          if ← mayBeOne a b then return Value.bool ((← choose (.extern "sameAddr.stringBytes" 2)) == 1)
        pure (Value.bool (a.block == b.block && a.off < b.off + lb * size && b.off < a.off + la * size))
    | _, _ => pure (Value.bool false)) w = _
  by_cases h0 : la = 0 ∨ lb = 0 ∨ size = 0
  · simp [run_underlying ht, hz, h0]
  · cases kA with
    | zero => exact absurd rfl hkA
    | succ kA =>
      cases h1 : w.frozen? a <;> cases h2 : w.frozen? { block := a.block, off := kA + 1 } <;>
        simp [run_underlying ht, hz, h0, hnb, hnb', frozen, noView, viewAt, mayBeOne, stringish, shape, Sem.run, hsa, hsb, hfb, hfe, h1, h2]
theorem xDX {P : Program} (w : World) (tS tR e : TypeId) (ht : P.underlying tS = some (.slice e)) (size : Nat) (hz : ∀ w, (Go.sizeOf e).run P w = .ok size w) (a : Option Addr) (la ca lb cb : Nat) :
    (Extern.SlicesOverlaps.overlaps #[tS, tS] #[tR] #[.slice a la ca, .slice none lb cb]).run P w = .ok (.bool false) w := by
  cases a <;> (
  change Sem.run P (α := Value) (do
    let some t := (#[tS, tS] : Array TypeId)[0]? | stuck "slices.overlaps: no parameter types"
    let .slice elem ← underlying t | stuck "slices.overlaps: slice type expected"
    let size ← sizeOf elem
    pure (Value.bool false)) w = _
  simp [run_underlying ht, hz])
theorem xDs {P : Program} (w : World) (tS tR e : TypeId) (ht : P.underlying tS = some (.slice e)) (size : Nat) (hz : ∀ w, (Go.sizeOf e).run P w = .ok size w) (a b : Option Addr) (la ca lb cb : Nat) (h0 : la = 0 ∨ lb = 0) :
    (Extern.SlicesOverlaps.overlaps #[tS, tS] #[tR] #[.slice a la ca, .slice b lb cb]).run P w = .ok (.bool false) w := by
  cases b with
  | none => exact xDX w tS tR e ht size hz a la ca lb cb
  | some b =>
  cases a with
  | none =>
    change Sem.run P (α := Value) (do
      let some t := (#[tS, tS] : Array TypeId)[0]? | stuck "slices.overlaps: no parameter types"
      let .slice elem ← underlying t | stuck "slices.overlaps: slice type expected"
      let size ← sizeOf elem
      pure (Value.bool false)) w = _
    simp [run_underlying ht, hz]
  | some a =>
    change Sem.run P (α := Value) (do
      let some t := (#[tS, tS] : Array TypeId)[0]? | stuck "slices.overlaps: no parameter types"
      let .slice elem ← underlying t | stuck "slices.overlaps: slice type expected"
      let size ← sizeOf elem
      if la = 0 ∨ lb = 0 ∨ size = 0 then pure (Value.bool false)
      else if a.block != b.block && (← Go.frozen a) && (← Go.frozen b) then unsupported .addressObserved
      else do
        if a.block != b.block then do
          noView a; noView b
          if ← mayBeOne a b then return Value.bool ((← choose (.extern "sameAddr.stringBytes" 2)) == 1)
        pure (Value.bool (a.block == b.block && a.off < b.off + lb * size && b.off < a.off + la * size))) w = _
    have h1 : la = 0 ∨ lb = 0 ∨ size = 0 := by omega
    simp [run_underlying ht, hz, h1]
end Go.Lib
namespace Go.V
open Go.Lib
theorem xMI {P : Program} {f0 : Nat} {fn : Func} {tS tR e : TypeId} {esz : Nat} (hf : P.funcs[f0]? = some fn) (hname : (fn.name == "runtime.NumGoroutine") = false) (hb : fn.body.isNone = true) (hn : Extern.findNext fn = none) (he : Extern.find fn = some (Extern.SlicesOverlaps.overlaps #[tS, tS] #[tR]))
    (ht : P.underlying tS = some (.slice e)) (hz : xA5 P e = some esz) (hz1 : esz ≠ 1)
    (hf' : HF) {ex : Bool} {l : List (List PV)} {b : Bid} {hw off len : Nat} {B : Blk} (hB : hf' b = some B) (hbx : B.box = false) (hfz : B.frz = false) (hes : B.esz = esz) (hwB : hw = B.els.length) : XC P hf' f0 [.sh ex l, .own b hw off len] (.bool false) [b] := by
  intro Γ F μ hf2 w rargs hag hI hsz hargs
  have hB2 : hf2 b = some B := (hag b (by simp)).trans hB
  obtain ⟨ls⟩ := rargs
  simp only [List.length_cons, List.length_nil, List.size_toArray] at hsz
  match ls, hsz with
  | [x, y], _ =>
    have h1 := xD0 (hargs 0 _ x rfl rfl)
    obtain ⟨ad, cap, rfl, hsome, B0, hb0, _, _, hcur⟩ := xBp (hargs 1 _ y rfl rfl)
    rw [hB2] at hb0
    cases hb0
    obtain ⟨g0, g1⟩ := hcur hwB
    have hzr : ∀ w, (Go.sizeOf e).run P w = .ok esz w := fun w => xAU hz
    have hBk := hI.blk b B hB2
    refine ⟨.bool false, ?_, VRel.bool _⟩
    rw [run_callFunc_extern hf hname hb hn he]
    have key : (Extern.SlicesOverlaps.overlaps #[tS, tS] #[tR] #[x, .slice ad len cap]).run P w = .ok (.bool false) w := by
      have none2 : ∀ a la ca, ad = none → (Extern.SlicesOverlaps.overlaps #[tS, tS] #[tR] #[.slice a la ca, .slice ad len cap]).run P w = .ok (.bool false) w := by
        rintro a la ca rfl
        exact xDX w tS tR e ht esz hzr a la ca len cap
      have zero1 : ∀ a ca, (Extern.SlicesOverlaps.overlaps #[tS, tS] #[tR] #[.slice a 0 ca, .slice ad len cap]).run P w = .ok (.bool false) w := by
        intro a ca
        exact xDs w tS tR e ht esz hzr a ad 0 ca len cap (.inl rfl)
      cases h1 with
      | shn => exact zero1 _ _
      | sh0 _ a c hex => exact zero1 _ _
      | sh _ _ k o c sz g hF hcap hex hesz hlen hc hr =>
        cases l with
        | nil => exact zero1 _ _
        | cons e0 l =>
          cases hm : μ b with
          | none => rw [hm] at g1; exact none2 _ _ _ g1.1
          | some k2 =>
            rw [hm] at g1
            obtain ⟨o2, rfl, q1, q2, q3, q4⟩ := g1
            by_cases hl0 : len = 0
            · subst hl0
              exact xDs w tS tR e ht esz hzr _ _ _ _ 0 cap (.inr rfl)
            obtain ⟨f1, f2, cs, e2, fz, hcs, hnf, hl, _⟩ := hBk.cells hm (fun h => by simp_all)
            have hkk : k ≠ k2 := fun e => f2 hfz (e ▸ hF)
            have he0 : 0 < e0.length := by rw [hlen e0 (by simp)]; exact hesz
            have hcell := hc 0 0 e0 (e0[0]'he0) rfl (List.getElem?_eq_getElem he0)
            have hcap2 : 0 < cap := by omega
            have hoo := q1 hcap2
            have hrow : xA6 w k2 = cs.size := by unfold xA6; rw [hcs]
            have hesz2 := hBk.1.1
            have hlt : o2 < cs.size := by
              rw [hrow] at q3
              rw [hoo, ← q3]
              exact Nat.mul_lt_mul_of_pos_right (by omega) hesz2
            obtain ⟨cA, eA, fA, hA⟩ : ∃ cA eA fA, w.heap[k]? = some (.cells cA eA fA) ∧ cA.size ≠ 0 := by
              unfold World.cell? at hcell
              cases hk : w.heap[k]? with
              | none => simp [hk] at hcell
              | some ob =>
                cases ob <;> simp [hk] at hcell
                rename_i cA eA fA
                refine ⟨cA, eA, fA, rfl, ?_⟩
                intro h0
                have : cA = #[] := by simpa using h0
                subst this
                simp at hcell
            refine xFY w tS tR e ht esz hzr ⟨k, o, none⟩ ⟨k2, o2, none⟩ _ _ _ _ hkk eA e2 cA.size cs.size ?_ ?_ hA.2 ?_ ?_
            · simp only [World.shape?, hA.1]
            · simp only [World.shape?, hcs]
            · simp only [World.frozen?, hcs]
              have := hnf o2 hlt
              rw [Bool.and_eq_false_iff]
              simp only [decide_eq_false_iff_not]
              omega
            · simp only [World.frozen?, hcs]
              have := hBk.1.2.2 hbx (by rw [hes]; exact hz1) k2 cs e2 fz hm hcs
              rw [Bool.and_eq_false_iff]
              simp only [decide_eq_false_iff_not]
              omega
    rw [key]
    rfl
def xVN (b0 : Bid) : Heap → Prop
  | [] => True
  | (b, _) :: r => (b.lvl = 0 → b = b0) ∧ xVN b0 r
theorem xLT {b0 : Bid} : ∀ {l : Heap}, xVN b0 l → ∀ p ∈ l, p.1.lvl = 0 → p.1 = b0
  | [], _, p, hp => by cases hp
  | (b, B) :: r, h, p, hp => by
    rcases List.mem_cons.1 hp with rfl | hp
    · exact h.1
    · exact xLT h.2 p hp
theorem Imp.onto {lvl : Nat} {tm : Tmps} {hp : Heap} (t N : Nat) (b0 b1 : Bid) {esz esz0 : Nat} {els0 els1 : List (List PV)} (hl : els0.length < els1.length) (hN : N = els1.length) (h0 : tget tm t = some (.own b1 N 0 N) := by rfl) (h1 : hget hp b1 = some (blkV esz els1) := by rfl) (hb : hget hp b0 = some (blkV esz0 els0) := by rfl)
    (hlv0 : xVN b0 hp := by repeat' first | exact trivial | apply And.intro | (intro h; first | exact absurd h (by decide) | rfl)) : Imp ⟨lvl, tm, hp⟩ ⟨lvl, [(t, .own b0 N 0 N)], [(b0, blkV esz els1)]⟩ := by
  have hlv := xLT hlv0
  rintro Γ nt a w ⟨F, μ, d1, d2, hI, hT, hK, hz⟩
  have hT0 := hT t _ h0
  have hB := hI.blk b1 _ h1
  have e0 : ∀ b B, hget [(b0, blkV esz els1)] b = some B → b = b0 ∧ B = blkV esz els1 := by
    intro b B h
    simp only [xBA] at h
    split at h
    · next e => exact ⟨e.symm, (Option.some.inj h).symm⟩
    · cases h
  have hm : (updM μ b0 (μ b1)) b0 = μ b1 := by simp [updM]
  have hg : hget [(b0, blkV esz els1)] b0 = some (blkV esz els1) := by simp [xBA]
  refine ⟨F, updM μ b0 (μ b1), d1, d2, ⟨hI.os, hI.tape, hI.output, hI.size, hI.frame, hI.lt, hI.F0, hI.new, fun b B h => ?_, fun b b' B B' k g1 g2 _ _ => ?_, fun b B k h m => ?_, hI.gl⟩, fun t' p h => ?_, ?_, hz⟩
  · obtain ⟨rfl, rfl⟩ := e0 b B h
    obtain ⟨⟨q1, q2, q3⟩, h2, h3, h4, h5⟩ := hB
    refine ⟨⟨q1, ?_, ?_⟩, h2, h3, h4, ?_⟩
    · intro hbx k c e fz hk
      rw [hm] at hk
      exact q2 hbx k c e fz hk
    · intro hbx hzz k c e fz hk
      rw [hm] at hk
      exact q3 hbx hzz k c e fz hk
    · rw [hm]
      cases hmu : μ b1 with
      | none => rw [hmu] at h5; exact h5
      | some k =>
        obtain ⟨f1, f2, c, e, fz, hc, hfz, hle, hr⟩ := (hI.blk b1 _ h1).cells hmu (fun h => by cases h)
        refine ⟨f1, f2, .inl ⟨c, e, fz, hc, hfz, hle, fun i j el p a1 a2 => ?_⟩⟩
        obtain ⟨x, hx, hs⟩ := hr i j el p a1 a2
        have hcl := h3 (.inl rfl) el (List.mem_of_getElem? a1) p (List.mem_of_getElem? a2)
        exact ⟨x, hx, (SRel.of_closed hcl).2 ((SRel.of_closed hcl).1 hs)⟩
  · obtain ⟨rfl, _⟩ := e0 _ _ g1
    obtain ⟨rfl, _⟩ := e0 _ _ g2
    rfl
  · obtain ⟨rfl, _⟩ := e0 _ _ h
    rw [hm] at m
    exact hI.own b1 _ k h1 m
  · have h2 : tget [(t, PV.own b0 N 0 N)] t' = some p := h
    clear h
    rw [xBW] at h2
    by_cases e : t = t'
    · rw [if_pos e] at h2
      subst e
      cases Option.some.inj h2
      obtain ⟨ad, cap, he, hsm, B, hb1, hbx, hle, hcur⟩ := xBp hT0
      rw [h1] at hb1
      cases hb1
      refine ⟨ad, cap, he, hsm, _, hg, rfl, hle, fun hx => ?_⟩
      obtain ⟨c1, c2⟩ := hcur hx
      exact ⟨c1, by rw [hm]; exact c2⟩
    · rw [if_neg e] at h2
      cases h2
  · refine ⟨hK.sub, hK.mem, hK.fre, fun b B h => ?_⟩
    obtain ⟨B', hB', k1, k2, k3⟩ := hK.ext b B h
    have hbb : b = b0 := hlv (b, B') (xEJ hB') (hz.1 b B h)
    subst hbb
    have hB' : hget hp b = some B' := hB'
    rw [hb] at hB'
    cases hB'
    refine ⟨_, hg, k1, ?_, fun hh => ?_⟩
    · have k2 : B.els.length ≤ els0.length := k2
      show B.els.length ≤ els1.length
      omega
    · have k2 : B.els.length ≤ els0.length := k2
      have hh : els1.length = B.els.length := hh
      omega
end Go.V
set_option linter.unusedVariables false
set_option linter.unusedSimpArgs false
namespace Go.V
section
variable {lvl site : Nat} {tf : Nat → Option PV} {hf : Bid → Option Blk}
theorem vslo {esz hw off len : Nat} {b : Bid} {B : Blk} {x : VX} {lo hi : Option VX} (a z : Nat) {o l : Nat} (hx : ev tf x = some (.own b hw off len) := by rfl) (h1 : xAR tf 0 lo = some (a : Int) := by rfl) (h2 : xAR tf len hi = some (z : Int) := by rfl)
    (hb : hf b = some B := by rfl) (he : B.esz = esz := by rfl) (hw' : hw = B.els.length := by first | rfl | (simp; done) | (simp only [blkV, List.length_map, List.length_append, List.length_cons, List.length_nil, List.length_replicate]; omega)) (h5 : a ≤ z := by omega) (h6 : off + z ≤ hw := by omega) (ho : off + a = o := by first | rfl | omega) (hl : z - a = l := by first | rfl | omega) :
    vop lvl site tf hf (.slsl esz x lo hi none) = some ⟨.own b hw o l, [], [b]⟩ := by
  subst ho; subst hl
  simp only [vop, hx, Option.bind_some, h1, h2]
  rw [if_pos ⟨rfl, by omega, by omega, .inr (by omega)⟩, hb]
  simp only [Option.bind_some]
  rw [if_pos ⟨he, hw'⟩]
  simp
theorem vcpy (ys src : List (List PV)) {r : List (List PV)} {esz hw off len : Nat} {b : Bid} {rd : List Bid} {q : PV} {x y : VX} (hr : ys.take off ++ src.take len ++ ys.drop (off + min src.length len) = r) (hok : okEls esz src) (hx : ev tf x = some (.own b hw off len) := by rfl) (hy : ev tf y = some q := by rfl) (hct : xAf hf q = some (rd, src) := by first | rfl | assumption)
    (hb : hf b = some (blkV esz ys) := by rfl) (hw' : hw = ys.length := by first | rfl | assumption | (simp; done)) (hl : off + len ≤ hw := by omega) :
    vop lvl site tf hf (.copyS esz x y) = some ⟨.int .i64 ((min src.length len : Nat) : Int), [(b, blkV esz r)], b :: rd⟩ := by
  subst hr
  have h2 : hw = ys.length ∧ True ∧ True ∧ True ∧ off + len ≤ hw ∧ ∀ e ∈ src, e.length = esz ∧ ∀ c ∈ e, closed c = true :=
    ⟨hw', trivial, trivial, trivial, hl, hok⟩
  simp only [vop, hx, hy, hct, hb, Option.bind_some]
  rw [if_pos h2]
  by_cases h3 : off = 0 ∧ len = hw ∧ src.length = len
  · rw [if_pos h3]
    obtain ⟨rfl, rfl, h4⟩ := h3
    subst h4
    simp [blkV, ← hw']
  · rw [if_neg h3]
end
section
variable {P : Program} {nt : Nat} {os : List VOper} {K : St → Prop} {lvl : Nat} {tm : Tmps} {hp : Heap} {d : Option Nat} {site : Nat} {pre : List Nat} {acc : List Foot} {g : Option (Nat × Nat × Bool)} {dr : Bool}
variable {f : VX} {xs : List VX} {fid : Nat} {all qs : List PV} {rv : PV} {hin hout : List Blk}
theorem clf {lent rd : List Bid} (h4 : VC P fid qs hin rv hout) (h : Sq P nt dr os (acc ++ [((frozen (hget hp) rd ++ named (xBT lent lvl site) 0 hout).map (·.1), rd ++ lent)]) K ⟨lvl, tput tm d (mapV (xBT lent lvl site) rv), hput hp (frozen (hget hp) rd ++ named (xBT lent lvl site) 0 hout)⟩)
    (ht : Targ (tget tm) f xs fid all := by first | exact Targ.pl rfl rfl (Nat.le_of_ble_eq_true rfl) | exact Targ.mt rfl rfl rfl | exact Targ.bd rfl rfl) (h3 : xBe (hget hp) lent all = some (rd, qs) := by rfl) (h0 : xCM (hget hp) lent lent = some hin := by rfl) (hn : lent.Nodup := by decide) (hd : ∀ b ∈ lent, b ∉ rd := by decide)
    (h5 : xJJ (hget hp) lvl site (hout.length - lent.length) := by first | exact trivial | exact xGF rfl) (hc : dr = true → xAx pre ((frozen (hget hp) rd ++ named (xBT lent lvl site) 0 hout).map (·.1), rd ++ lent) 0 acc = true := by first | (intro h; cases h; done) | (intro _; kernel_rfl)) (hg : GOk g tm := by first | exact trivial | exact gT rfl (by first | rfl | assumption)) : Sq P nt dr (⟨d, .call f xs, g, site, pre⟩ :: os) acc K ⟨lvl, tm, hp⟩ :=
  opC (ns := []) (ws := frozen (hget hp) rd ++ named (xBT lent lvl site) 0 hout) (rd := rd ++ lent) h (.inl ⟨lent, true, fid, all, rd, qs, hin, rv, hout, ht, h3, h0, hn, hd, h4, fun i hi => xD2 h5 i hi, (fun h => by cases h), by simp⟩) hc hg
end
end Go.V
