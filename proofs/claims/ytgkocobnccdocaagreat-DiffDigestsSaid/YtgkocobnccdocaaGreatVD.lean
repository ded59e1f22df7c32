/- The value machine: run by a program, for what is closed. What it comes to holds of the model's code. -/
import Derived.Test.YtgkocobnccdocaaGreatVC
import Derived.KernelRfl
import Derived.ProofKit
import Derived.OpenShut
import Derived.Below
import Derived.Laws.Externs
import Derived.Lib.Bytealg
import Derived.LoopNIn
set_option linter.unusedVariables false
set_option linter.unusedSimpArgs false
namespace Go.V
section
variable {σ τ : Bid → Bid}
theorem xMr (hi : ∀ x, τ (σ x) = x) {x y : Bid} (h : σ x = σ y) : x = y := by rw [← hi x, ← hi y, h]
theorem xLq (hi : ∀ x, τ (σ x) = x) : ∀ (l : Heap) (b : Bid), hget (renH σ l) (σ b) = (hget l b).map (mapB σ)
  | [], b => rfl
  | (c, B) :: l, b => by
    have ih := xLq hi l b
    simp only [renH, List.map_cons, xBA] at ih ⊢
    by_cases he : c = b
    · subst he; simp
    · have : ¬ σ c = σ b := fun e => he (xMr hi e)
      rw [if_neg this, if_neg he]
      exact ih
theorem xJk : ∀ (l : Heap) (b : Bid) (B : Blk), hget (renH σ l) b = some B → ∃ c, b = σ c
  | [], b, B, h => by cases h
  | (c, C) :: l, b, B, h => by
    simp only [renH, List.map_cons, xBA] at h
    split at h
    · rename_i he; exact ⟨c, he.symm⟩
    · exact xJk l b B h
theorem Imp.renL {s : St} (hi : ∀ x, τ (σ x) = x) (h0 : ∀ x : Bid, x.lvl = 0 → σ x = x) : Imp s ⟨s.lvl, renT σ s.tmps, renH σ s.heap⟩ := by
  rintro Γ nt a w ⟨F, μ, d1, d2, hI, hT, hK, hlv⟩
  have hget' : ∀ x, hget (renH σ s.heap) (σ x) = (hget s.heap x).map (mapB σ) := fun x => xLq hi _ x
  let μ2 : Bid → Option Nat := fun x => μ (τ x)
  have hmu : ∀ x, μ2 (σ x) = μ x := fun x => by simp [μ2, hi]
  have hnamed : ∀ x B, hget s.heap x = some B → xCj μ (hget s.heap) μ2 (hget (renH σ s.heap)) x (σ x) := by
    intro x B hB
    exact ⟨hmu x, fun B' hB' => ⟨mapB σ B', by rw [hget', hB']; rfl, mapB_box, mapB_len, mapB_esz⟩⟩
  have hof : ∀ x B, hget (renH σ s.heap) x = some B → ∃ c B0, x = σ c ∧ hget s.heap c = some B0 ∧ B = mapB σ B0 := by
    intro x B h
    obtain ⟨c, rfl⟩ := xJk _ _ _ h
    rw [hget'] at h
    obtain ⟨B0, h1, h2⟩ := map_some h
    exact ⟨c, B0, rfl, h1, h2.symm⟩
  refine ⟨F, μ2, d1, d2, ⟨hI.os, hI.tape, hI.output, hI.size, hI.frame, hI.lt, hI.F0, hI.new, fun x B h => ?_, fun x y B B' k h1 h2 m1 m2 => ?_, fun x B k h m => ?_, hI.gl⟩, fun t p h => ?_, ?_, hlv⟩
  · obtain ⟨c, B0, rfl, h1, rfl⟩ := hof x B h
    exact xKW hnamed h1 (.inr fun _ h => h) (fun _ h => h) (hI.blk _ _ h1)
  · obtain ⟨c, B0, rfl, g1, _⟩ := hof x B h1
    obtain ⟨d, B1, rfl, g2, _⟩ := hof y B' h2
    rw [hmu] at m1 m2
    rw [hI.inj _ _ _ _ k g1 g2 m1 m2]
  · obtain ⟨c, B0, rfl, g1, _⟩ := hof x B h
    rw [hmu] at m
    exact hI.own _ _ k g1 m
  · simp only [xFs] at h
    obtain ⟨q, hq, rfl⟩ := map_some h
    exact xF6 hnamed (.inr fun _ h => h) (hT t q hq)
  · refine ⟨hK.sub, hK.mem, hK.fre, fun x B h => ?_⟩
    have hx := h0 x (hlv.1 x B h)
    obtain ⟨B', hB', g1, g2, g3⟩ := hK.ext x B h
    have : hget (renH σ s.heap) x = some (mapB σ B') := by
      have := hget' x
      rw [hx] at this
      rw [this, hB']; rfl
    refine ⟨mapB σ B', this, mapB_box.trans g1, by rw [mapB_len]; exact g2, ?_⟩
    rw [mapB_len, mapB_esz]
    have hm : μ2 x = μ x := by have := hmu x; rwa [hx] at this
    rw [hm]
    exact g3
end
def shB (M : Nat) (b : Bid) : Bid := match b.lvl with | 0 => b | l + 1 => ⟨l + 1, b.site + M⟩
def unB (M : Nat) (b : Bid) : Bid := match b.lvl with | 0 => b | l + 1 => ⟨l + 1, b.site - M⟩
theorem xUj (M : Nat) (b : Bid) : unB M (shB M b) = b := by
  obtain ⟨l, s⟩ := b
  cases l <;> simp [shB, unB]
def dedT : Tmps → Tmps
  | [] => []
  | (t, v) :: r => (t, v) :: (dedT r).filter fun p => !Nat.beq p.1 t
def dedH : Heap → Heap
  | [] => []
  | (b, B) :: r => (b, B) :: (dedH r).filter fun p => !beqB p.1 b
theorem xHo (t0 : Nat) : ∀ (l : Tmps) (t : Nat), t ≠ t0 → tget (l.filter fun p => !Nat.beq p.1 t0) t = tget l t
  | [], t, _ => rfl
  | (c, v) :: l, t, h => by
    simp only [List.filter_cons]
    split
    · simp only [xBW, xHo t0 l t h]
    · rename_i hc
      have : c = t0 := by simpa [Nat.beq_eq] using hc
      rw [xHo t0 l t h, xBW, if_neg (fun e => h (e.symm.trans this))]
theorem xK5 : ∀ (l : Tmps), tget (dedT l) = tget l
  | [] => rfl
  | (c, v) :: l => by
    funext t
    simp only [dedT, xBW]
    split
    · rfl
    · rename_i h
      rw [xHo c _ t (fun e => h e.symm), xK5 l]
theorem xIf (b0 : Bid) : ∀ (l : Heap) (b : Bid), b ≠ b0 → hget (l.filter fun p => !beqB p.1 b0) b = hget l b
  | [], t, _ => rfl
  | (c, v) :: l, t, h => by
    simp only [List.filter_cons]
    split
    · simp only [xBA, xIf b0 l t h]
    · rename_i hc
      have : c = b0 := by simpa [beqB_iff] using hc
      rw [xIf b0 l t h, xBA, if_neg (fun e => h (e.symm.trans this))]
theorem xLr : ∀ (l : Heap), hget (dedH l) = hget l
  | [] => rfl
  | (c, v) :: l => by
    funext t
    simp only [dedH, xBA]
    split
    · rfl
    · rename_i h
      rw [xIf c _ t (fun e => h e.symm), xLr l]
def bigM : Nat := 1099511627776
def norm (s : St) : St := ⟨s.lvl, dedT (renT (shB bigM) s.tmps), dedH (renH (shB bigM) s.heap)⟩
theorem xKQ (s : St) : Imp s (norm s) := by
  have h := Imp.renL (s := s) (σ := shB bigM) (τ := unB bigM) (xUj bigM) (fun x hx => by obtain ⟨l, q⟩ := x; simp only at hx; subst hx; rfl)
  intro Γ nt a w hR
  have := h Γ nt a w hR
  show RS Γ nt (tget (dedT _)) (hget (dedH _)) a w
  rw [xK5, xLr]
  exact this
theorem Imp.wr {s : St} {t : Nat} {p q : PV} {rd : List Bid} (ht : tget s.tmps t = some p) (hl : xCZ (hget s.heap) [] p = some (rd, q)) : Imp s ⟨s.lvl, tset s.tmps t q, hput s.heap (frozen (hget s.heap) rd)⟩ := by
  rintro Γ nt a w ⟨F, μ, d1, d2, hI, hT, hK, hlv⟩
  obtain ⟨g1, g2⟩ := Inv.freezes rd hI (xE9 hl)
  refine ⟨xBn F μ rd, μ, d1.keeps g2, d2, by rw [xDL]; exact g1, fun t' v h => ?_, by rw [xDL]; exact hK.tr g2, hlv⟩
  rw [xDL]
  rw [xDB] at h
  split at h
  · rename_i he
    cases h
    subst he
    exact xEk hI hl (hT _ _ ht)
  · exact (hT t' v h).keeps g2
def xNJ : PV → Bool
  | .own _ _ _ _ => true
  | .agg cs => cs.any fun | .own _ _ _ _ => true | _ => false
  | _ => false
def xFk : List Nat → St → St
  | [], s => s
  | t :: ts, s => match tget s.tmps t with
    | some p => (match xNJ p with
      | true => (match xCZ (hget s.heap) [] p with
        | some (rd, q) => xFk ts ⟨s.lvl, tset s.tmps t q, hput s.heap (frozen (hget s.heap) rd)⟩
        | none => xFk ts s)
      | false => xFk ts s)
    | none => xFk ts s
theorem xDN : ∀ (ts : List Nat) (s : St), Imp s (xFk ts s)
  | [], s => Imp.refl s
  | t :: ts, s => by
    simp only [xFk]
    split
    · rename_i p hp
      split
      · split
        · rename_i rd q hl
          exact (Imp.wr hp hl).trans (xDN ts _)
        · exact xDN ts s
      · exact xDN ts s
    · exact xDN ts s
def exW (one : TF → HF → Option Res) : List Nat → TF → HF → Option Res
  | [], tf, hf => one tf hf
  | n :: ns, tf, hf => (tf n).bind fun p => (xCZ hf [] p).bind fun (rd, q) => (exW one ns (putF tf (some n) q) (xAj hf (frozen hf rd))).map fun r' => ⟨r'.v, frozen hf rd ++ r'.ws, rd ++ r'.rd⟩
def ownTs (tf : TF) (l : List Nat) : List Nat := l.filter fun t => match tf t with | some v => xNJ v | none => false
def grow (hf : HF) : Nat → List Bid → List Bid → List Bid
  | 0, _, acc => acc
  | _, [], acc => acc
  | n + 1, b :: todo, acc => match acc.any (beqB b) with
    | true => grow hf n todo acc
    | false => grow hf n ((match hf b with | some B => xFN B | none => []) ++ todo) (acc ++ [b])
def ptrsS : PV → List Bid
  | .ptr b _ _ _ => [b]
  | .fn _ cs => cs.flatMap xBR
  | _ => []
def ptrsV : PV → List Bid
  | .agg cs => cs.flatMap ptrsS
  | v => ptrsS v
def xLU : List Bid → Bool
  | [] => true
  | b :: r => !r.any (beqB b) && xLU r
theorem xEH : ∀ {l : List Bid}, xLU l = true → l.Nodup
  | [], _ => List.nodup_nil
  | b :: r, h => by
    simp only [xLU, Bool.and_eq_true, Bool.not_eq_true'] at h
    refine List.nodup_cons.2 ⟨fun hm => ?_, xEH h.2⟩
    have : r.any (beqB b) = true := List.any_eq_true.2 ⟨b, hm, beqB_iff.2 rfl⟩
    rw [this] at h
    cases h.1
abbrev Call := Nat → List PV → List Blk → Option (PV × List Blk)
def xUQ (v : PV) (hr : List Blk) : Bool := cV v && hr.all fun B => !B.frz && B.els.all fun e => e.all cS
def xTY (hf : HF) (lvl site : Nat) : Nat → Bool
  | 0 => true
  | n + 1 => (hf ⟨lvl, site + n⟩).isNone && xTY hf lvl site n
def xEo (call : Call) (lvl site : Nat) (hf : HF) (fid : Nat) (all : List PV) (lent : List Bid) (mustClean : Bool) : Option Res :=
  (xBe hf lent all).bind fun (rd, qs) => (xCM hf lent lent).bind fun hin =>
  match xLU lent && lent.all (fun b => !rd.any (beqB b)) with
  | false => none
  | true => (call fid qs hin).bind fun (v, hout) =>
    match xTY hf lvl site (hout.length - lent.length) with
    | false => none
    | true => match xUQ v hout with
      | true => some ⟨mapV (xBT lent lvl site) v, named (xBT lent lvl site) 0 hout, rd ++ lent⟩
      | false => match mustClean with
        | true => none
        | false => some ⟨mapV (xBT lent lvl site) v, frozen hf rd ++ named (xBT lent lvl site) 0 hout, rd ++ lent⟩
def xUK (call : Call) (xcall : Nat → List PV → Option PV) (lvl site : Nat) (f : VX) (xs : List VX) (tf : TF) (hf : HF) : List (Option Res) :=
  match ev tf f, evs tf xs with
  | some (.fn f' caps), some ps =>
    let fid := fnId f'
    let all := caps.take (fnN f') ++ (ps ++ caps.drop (fnN f'))
    match xcall fid all with
    | some v => [some ⟨v, [], []⟩]
    | none =>
      let l1 := grow hf 1000 (all.flatMap ptrsV) []
      let l2 := grow hf 1000 (all.flatMap xBQ) []
      [xEo call lvl site hf fid all l1 true, xEo call lvl site hf fid all l2 false, xEo call lvl site hf fid all l1 false]
  | some (.mth tbl), some (.ifc t cs :: ps) =>
    match look tbl t with
    | some fid =>
      let l1 := grow hf 1000 (ps.flatMap ptrsV) []
      let l2 := grow hf 1000 (ps.flatMap xBQ) []
      [xEo call lvl site hf fid (.agg cs :: ps) l1 true, xEo call lvl site hf fid (.agg cs :: ps) l2 false, xEo call lvl site hf fid (.agg cs :: ps) l1 false]
    | none => []
  | _, _ => []
def exOp (call : Call) (xcall : Nat → List PV → Option PV) (lvl site : Nat) (op : VOp) (tf : TF) (hf : HF) : List (Option (List Nat × Res)) :=
  match op with
  | .call f xs => (xUK call xcall lvl site f xs tf hf).map fun o => o.map fun r => ([], r)
  | op => [(vop lvl site tf hf op).map fun r => ([], r), (let ns := ownTs tf (op.operands.flatMap VX.tmps); (exW (fun tf hf => vop lvl site tf hf op) ns tf hf).map fun r => (ns, r))]
def xQM (draw : Bool) (pre : List Nat) (acc : List Foot) : List (Option (List Nat × Res)) → Option (List Nat × Res)
  | [] => none
  | none :: l => xQM draw pre acc l
  | some r :: l => match !draw || xAx pre (foot r.2) 0 acc with
    | true => some r
    | false => xQM draw pre acc l
def xL0 (call : Call) (xcall : Nat → List PV → Option PV) (draw : Bool) : List VOper → List Foot → St → Option St
  | [], _, s => some s
  | o :: os, acc, s => match xCu o (tget s.tmps) with
    | some false => xL0 call xcall draw os (match draw with | true => acc ++ [([], [])] | false => []) ⟨s.lvl, tput s.tmps o.dst (.tup []), s.heap⟩
    | some true => match xQM draw o.pre acc (exOp call xcall s.lvl o.site o.op (tget s.tmps) (hget s.heap)) with
      | some r => xL0 call xcall draw os (match draw with | true => acc ++ [foot r.2] | false => []) ⟨s.lvl, tput s.tmps o.dst r.2.v, hput s.heap r.2.ws⟩
      | none => none
    | none => none
def iter (f : St → Option (Exit × St)) : Nat → St → Option (Exit × St)
  | 0, _ => none
  | n + 1, s => match f (norm s) with
    | some (.normal, s') => iter f n s'
    | r => r
def exC (call : Call) (xcall : Nat → List PV → Option PV) (fuel : Nat) : VCode → St → Option (Exit × St)
  | .skip, s => some (.normal, s)
  | .region _ d vs, s => match xL0 call xcall d vs [] s with
    | some s' => some (.normal, s')
    | none => match d with
      | true => (xL0 call xcall true vs [] (xFk ((dedT s.tmps).map (·.1)) s)).map fun s' => (.normal, s')
      | false => none
  | .seq a b, s => match exC call xcall fuel a s with
    | some (.normal, s') => exC call xcall fuel b s'
    | r => r
  | .cond c a b, s => match ev (tget s.tmps) c with
    | some (.bool true) => exC call xcall fuel a s
    | some (.bool false) => exC call xcall fuel b s
    | _ => none
  | .block id a, s => match exC call xcall fuel a s with
    | some (.exit i, s') => (match Nat.beq i id with | true => some (.normal, s') | false => some (.exit i, s'))
    | r => r
  | .loop a, s => iter (exC call xcall fuel a) fuel s
  | .exit id, s => some (.exit id, s)
  | .scope a, s => match exC call xcall fuel a s with
    | some (.goto _, _) => none
    | r => r
  | .label _, s => some (.normal, s)
  | .ret, s => some (.ret, s)
  | .range _ _ _ _, _ => none
  | .bad, _ => none
def posB (b : Bid) : List Bid → Nat → Option Nat
  | [], _ => none
  | c :: r, i => match beqB c b with | true => some i | false => posB b r (i + 1)
def xQ7 (n : Nat) (bs : List Bid) (b : Bid) : Bid := match b.lvl with
  | 0 => b
  | _ + 1 => match posB b bs 0 with | some i => ⟨0, n + i⟩ | none => b
def xLd (n : Nat) (hf : HF) : List Bid := (List.range n).flatMap fun i => match hf ⟨0, i⟩ with | some B => xFN B | none => []
def xSn (hf : HF) (σ τ : Bid → Bid) (m : Nat) : List Bid → Option (List Blk)
  | [] => some []
  | b :: r => (hf b).bind fun B =>
    match (xFN B).all (fun c => beqB (σ (τ c)) c) && (!B.box || B.els.all fun e => e.all fun c => okS m (mapS τ c)) with
    | true => (xSn hf σ τ m r).map (mapB τ B :: ·)
    | false => none
def isTup : PV → Bool
  | .tup _ => true
  | _ => false
def xSm (rs : List RV) (n : Nat) (s : St) : Option (PV × List Blk) :=
  (rdT (tget s.tmps) (hget s.heap) rs).bind fun ps =>
  let bs := (grow (hget s.heap) 1000 (ps.flatMap xBQ ++ xLd n (hget s.heap)) []).filter fun b => !Nat.beq b.lvl 0
  let v := mapV (xQ7 n bs) (pack ps)
  match xLU bs && (xBQ (pack ps)).all (fun c => beqB (xB7 n bs (xQ7 n bs c)) c) && okV (n + bs.length) v && (match v with | .tup l => !l.any isTup | _ => true) with
  | true => (xSn (hget s.heap) (xB7 n bs) (xQ7 n bs) (n + bs.length) ((List.range n).map (fun i => (⟨0, i⟩ : Bid)) ++ bs)).map fun hout => (v, hout)
  | false => none
def run (P : Program) (orc : Call) (xcall : Nat → List PV → Option PV) (fuel : Nat) : Nat → Call
  | 0 => orc
  | d + 1 => fun f args hin => match orc f args hin with
    | some r => some r
    | none => (VF P f).bind fun (nt, vc, rs) =>
      match exC (run P orc xcall fuel d) xcall fuel vc ⟨1, xHM 0 args, xGJ 0 hin⟩ with
      | some (.normal, s) => (match Nat.ble args.length nt with | true => xSm rs hin.length s | false => none)
      | some (.ret, s) => (match Nat.ble args.length nt with | true => xSm rs hin.length s | false => none)
      | _ => none
theorem xNl {σ τ : Bid → Bid} {p : PV} (h : ∀ b ∈ xBR p, σ (τ b) = b) : mapN σ (mapN τ p) = p := by
  cases p <;> first
    | rfl
    | (simp only [mapN]; rw [h _ (by simp [xBR])])
theorem xF8 {σ τ : Bid → Bid} : ∀ {l : List PV}, (∀ b ∈ l.flatMap xBR, σ (τ b) = b) → (l.map (mapN τ)).map (mapN σ) = l
  | [], _ => rfl
  | p :: l, h => by
    simp only [List.flatMap_cons, List.mem_append] at h
    simp only [List.map_cons]
    rw [xNl (fun b hb => h b (.inl hb)), xF8 (fun b hb => h b (.inr hb))]
theorem xTA {σ τ : Bid → Bid} {p : PV} (h : ∀ b ∈ xBl p, σ (τ b) = b) : mapS σ (mapS τ p) = p := by
  have one : ∀ q : PV, (∀ b ∈ xBR q, σ (τ b) = b) → mapN σ (mapN τ q) = q := fun q => xNl
  cases p <;> first
    | rfl
    | (simp only [mapS, mapN]; rw [h _ (by simp [xBl, xBR])])
    | (simp only [mapS]; rw [xF8 h])
theorem xF7 {σ τ : Bid → Bid} : ∀ {l : List PV}, (∀ b ∈ l.flatMap xBl, σ (τ b) = b) → (l.map (mapS τ)).map (mapS σ) = l
  | [], _ => rfl
  | p :: l, h => by
    simp only [List.flatMap_cons, List.mem_append] at h
    simp only [List.map_cons]
    rw [xTA (fun b hb => h b (.inl hb)), xF7 (fun b hb => h b (.inr hb))]
theorem xTF {σ τ : Bid → Bid} {p : PV} (h : ∀ b ∈ xCs p, σ (τ b) = b) : mapA σ (mapA τ p) = p := by
  cases p <;> first
    | rfl
    | (simp only [mapA, mapS, mapN]; rw [h _ (by simp [xCs, xBl, xBR])])
    | (simp only [mapA, mapS]; rw [xF8 h])
    | (simp only [mapA]; rw [xF7 h])
theorem xLc {σ τ : Bid → Bid} : ∀ {l : List PV}, (∀ b ∈ l.flatMap xCs, σ (τ b) = b) → (l.map (mapA τ)).map (mapA σ) = l
  | [], _ => rfl
  | p :: l, h => by
    simp only [List.flatMap_cons, List.mem_append] at h
    simp only [List.map_cons]
    rw [xTF (fun b hb => h b (.inl hb)), xLc (fun b hb => h b (.inr hb))]
theorem xS8 {σ τ : Bid → Bid} {p : PV} (h : ∀ b ∈ xBQ p, σ (τ b) = b) : mapV σ (mapV τ p) = p := by
  cases p <;> first
    | rfl
    | (simp only [mapV, mapA, mapS, mapN]; rw [h _ (by simp [xBQ, xCs, xBl, xBR])])
    | (simp only [mapV, mapA, mapS]; rw [xF8 h])
    | (simp only [mapV, mapA]; rw [xF7 h])
    | (simp only [mapV]; rw [xLc h])
theorem xTD {σ τ : Bid → Bid} {B : Blk} (h : ∀ b ∈ xFN B, σ (τ b) = b) : mapB σ (mapB τ B) = B := by
  obtain ⟨bx, fz, esz, els⟩ := B
  cases bx with
  | false => rfl
  | true =>
    simp only [mapB, if_true, Blk.mk.injEq, true_and]
    simp only [xFN, if_true] at h
    rw [List.map_map]
    refine (List.map_congr_left (g := id) fun e he => ?_).trans (by simp)
    show (e.map (mapS τ)).map (mapS σ) = e
    exact xF7 fun b hb => h b (List.mem_flatMap.2 ⟨e, he, hb⟩)
theorem xJV {h : Heap} {σ τ : Bid → Bid} {m : Nat} : ∀ {l : List Bid} {hout : List Blk} (i : Nat), xSn (hget h) σ τ m l = some hout → (∀ k b, l[k]? = some b → σ ⟨0, i + k⟩ = b) → hout.length = l.length ∧ outH σ m h i hout
  | [], hout, i, ho, _ => by cases ho; exact ⟨rfl, trivial⟩
  | b :: l, hout, i, ho, hs => by
    simp only [xSn] at ho
    obtain ⟨B, hB, ho⟩ := bind_some ho
    split at ho
    · rename_i hc
      obtain ⟨r, hr, rfl⟩ := map_some ho
      simp only [Bool.and_eq_true, List.all_eq_true, Bool.or_eq_true, Bool.not_eq_true'] at hc
      obtain ⟨g1, g2⟩ := xJV (i + 1) hr (fun k c hk => by rw [show i + 1 + k = i + (k + 1) by omega]; exact hs (k + 1) c (by simpa using hk))
      refine ⟨by simp [g1], ?_, fun hbx e he c hcm => ?_, g2⟩
      · have := hs 0 b rfl
        rw [Nat.add_zero] at this
        rw [this, hB, xTD (fun c hcm => beqB_iff.1 (hc.1 c hcm))]
      · rw [mapB_box] at hbx
        unfold mapB at he
        rw [if_pos hbx] at he
        obtain ⟨e0, he0, rfl⟩ := List.mem_map.1 he
        obtain ⟨c0, hc0, rfl⟩ := List.mem_map.1 hcm
        rcases hc.2 with h2 | h2
        · rw [hbx] at h2; cases h2
        · exact h2 e0 he0 c0 hc0
    · cases ho
theorem xJU {rs : List RV} {n : Nat} {s : St} {v : PV} {hout : List Blk} (h : xSm rs n s = some (v, hout)) : Out rs n v hout s ∧ ∀ vs, v = .tup vs → ∀ p ∈ vs, ∀ q, p ≠ .tup q := by
  simp only [xSm] at h
  obtain ⟨ps, hps, h⟩ := bind_some h
  generalize hbs : (grow (hget s.heap) 1000 (ps.flatMap xBQ ++ xLd n (hget s.heap)) []).filter (fun b => !Nat.beq b.lvl 0) = bs at h
  split at h
  · rename_i hc
    obtain ⟨ho, hho, he⟩ := map_some h
    cases he
    simp only [Bool.and_eq_true, List.all_eq_true] at hc
    obtain ⟨⟨⟨c1, c2⟩, c3⟩, c4⟩ := hc
    obtain ⟨g1, g2⟩ := xJV 0 hho (fun k b hk => by
      rw [Nat.zero_add]
      unfold xB7
      by_cases hkn : k < n
      · rw [List.getElem?_append_left (by simpa using hkn)] at hk
        simp [hkn] at hk
        simp [hkn, hk]
      · rw [List.getElem?_append_right (by simp; omega)] at hk
        simp at hk
        simp [hkn, hk])
    have hl : hout.length = n + bs.length := by simpa using g1
    refine ⟨⟨bs, xEH c1, fun b hb h0 => ?_, hl, by rw [hl]; exact g2, by rw [hl]; exact c3, ps, hps, (xS8 fun b hb => beqB_iff.1 (c2 b hb)).symm⟩, fun vs hv p hp q hq => ?_⟩
    · rw [← hbs] at hb
      have := (List.mem_filter.1 hb).2
      rw [h0] at this
      cases this
    · rw [hv] at c4
      simp only [Bool.not_eq_true', List.any_eq_false] at c4
      have := c4 p hp
      rw [hq] at this
      exact this rfl
  · cases h
section
variable {P : Program} {nt : Nat} {call : Call} {xcall : Nat → List PV → Option PV}
def xCl (P : Program) (call : Call) : Prop := ∀ f args hin v hout, call f args hin = some (v, hout) → VC P f args hin v hout
def xMG (P : Program) (xcall : Nat → List PV → Option PV) : Prop := ∀ hf f args v, xcall f args = some v → XC P hf f args v []
theorem xGo {hf : HF} {lvl site : Nat} : ∀ {n : Nat}, xTY hf lvl site n = true → ∀ i, i < n → hf ⟨lvl, site + i⟩ = none
  | 0, _, i, hi => by omega
  | n + 1, h, i, hi => by
    simp only [xTY, Bool.and_eq_true] at h
    by_cases he : i = n
    · subst he; simpa using h.1
    · exact xGo h.2 i (by omega)
theorem xJq (hc : xCl P call) {lvl site : Nat} {hf : HF} {tf : TF} {fid : Nat} {all : List PV} {lent : List Bid} {mc : Bool} {r : Res} {f : VX} {xs : List VX} (ht : Targ tf f xs fid all) (h : xEo call lvl site hf fid all lent mc = some r) : xUV P lvl site tf hf f xs r := by
  simp only [xEo] at h
  obtain ⟨⟨rd, qs⟩, hl, h⟩ := bind_some h
  obtain ⟨hin, hb, h⟩ := bind_some h
  split at h
  · cases h
  rename_i hn
  simp only [Bool.and_eq_true, List.all_eq_true, Bool.not_eq_true'] at hn
  obtain ⟨⟨v, hout⟩, hv, h⟩ := bind_some h
  simp only at h
  split at h
  · cases h
  rename_i hfr
  have hdis : ∀ b ∈ lent, b ∉ rd := fun b hb hm => by
    have := hn.2 b hb
    rw [List.any_eq_true.2 ⟨b, hm, beqB_iff.2 rfl⟩] at this
    cases this
  split at h
  · rename_i hcl
    cases h
    refine ⟨lent, false, fid, all, rd, qs, hin, v, hout, ht, hl, hb, xEH hn.1, hdis, hc _ _ _ _ _ hv, fun i hi => xGo hfr i hi, fun _ => ?_, by simp⟩
    simp only [xUQ, Bool.and_eq_true, List.all_eq_true, Bool.not_eq_true'] at hcl
    exact ⟨hcl.1, fun B hB => hcl.2 B hB⟩
  · split at h
    · cases h
    · cases h
      exact ⟨lent, true, fid, all, rd, qs, hin, v, hout, ht, hl, hb, xEH hn.1, hdis, hc _ _ _ _ _ hv, fun i hi => xGo hfr i hi, (fun h => by cases h), by simp⟩
theorem xUJ {lvl site : Nat} {op : VOp} (hn : ∀ f xs, op ≠ .call f xs) : ∀ (ns : List Nat) (tf : TF) (hf : HF) (r : Res), (∀ n ∈ ns, n ∈ op.operands.flatMap VX.tmps) → exW (fun tf hf => vop lvl site tf hf op) ns tf hf = some r → OpC P lvl site op ns tf hf r
  | [], tf, hf, r, _, h => by
    show OpOk P lvl site tf hf op r
    cases op <;> first | exact h | exact (hn _ _ rfl).elim
  | n :: ns, tf, hf, r, hm, h => by
    simp only [exW] at h
    obtain ⟨p, hp, h⟩ := bind_some h
    obtain ⟨⟨rd, q⟩, hl, h⟩ := bind_some h
    obtain ⟨r', hr, rfl⟩ := map_some h
    exact ⟨p, rd, q, r', hm n (by simp), hp, hl, xUJ hn ns _ _ r' (fun m h => hm m (by simp [h])) hr, rfl⟩
theorem xRJ (hc : xCl P call) (hx : xMG P xcall) {lvl site : Nat} {op : VOp} {tf : TF} {hf : HF} {ns : List Nat} {r : Res} (h : some (ns, r) ∈ exOp call xcall lvl site op tf hf) : OpC P lvl site op ns tf hf r := by
  by_cases hcall : ∃ f xs, op = .call f xs
  · obtain ⟨f, xs, rfl⟩ := hcall
    simp only [exOp, List.mem_map] at h
    obtain ⟨o, ho, he⟩ := h
    cases o with
    | none => cases he
    | some r' =>
      cases he
      show OpOk P lvl site tf hf (.call f xs) r
      unfold xUK at ho
      split at ho
      · rename_i f' caps ps e1 e2
        simp only at ho
        split at ho
        · rename_i v hv
          simp only [List.mem_cons, List.not_mem_nil, or_false] at ho
          cases ho
          exact .inr ⟨fnId f', _, v, [], .bd e1 e2, hx hf _ _ _ hv, rfl⟩
        · simp only [List.mem_cons, List.not_mem_nil, or_false] at ho
          rcases ho with ho | ho | ho <;> exact .inl (xJq hc (.bd e1 e2) ho.symm)
      · rename_i tbl t cs ps e1 e2
        split at ho
        · rename_i fid e3
          simp only [List.mem_cons, List.not_mem_nil, or_false] at ho
          rcases ho with ho | ho | ho <;> exact .inl (xJq hc (.inr ⟨tbl, t, cs, ps, e1, e2, e3, rfl⟩) ho.symm)
        · simp at ho
      · simp at ho
  · have hn : ∀ f xs, op ≠ .call f xs := fun f xs h => hcall ⟨f, xs, h⟩
    have h' : some (ns, r) ∈ [(vop lvl site tf hf op).map fun r => (([] : List Nat), r), (let ns := ownTs tf (op.operands.flatMap VX.tmps); (exW (fun tf hf => vop lvl site tf hf op) ns tf hf).map fun r => (ns, r))] := by
      cases op <;> first | exact h | exact (hn _ _ rfl).elim
    simp only [List.mem_cons, List.not_mem_nil, or_false] at h'
    rcases h' with h' | h'
    · obtain ⟨r', hr, he⟩ := map_some h'.symm
      cases he
      show OpOk P lvl site tf hf op r
      cases op <;> first | exact hr | exact (hn _ _ rfl).elim
    · obtain ⟨r', hr, he⟩ := map_some h'.symm
      cases he
      exact xUJ hn _ _ _ _ (fun n hm => (List.mem_filter.1 hm).1) hr
theorem xHS {draw : Bool} {pre : List Nat} {acc : List Foot} : ∀ {l : List (Option (List Nat × Res))} {x : List Nat × Res}, xQM draw pre acc l = some x → some x ∈ l ∧ (draw = true → xAx pre (foot x.2) 0 acc = true)
  | [], x, h => by cases h
  | none :: l, x, h => by
    obtain ⟨h1, h2⟩ := xHS (l := l) h
    exact ⟨List.mem_cons_of_mem _ h1, h2⟩
  | some r :: l, x, h => by
    simp only [xQM] at h
    split at h
    · rename_i hc
      cases h
      exact ⟨List.mem_cons_self, fun hd => by rw [hd] at hc; simpa using hc⟩
    · obtain ⟨h1, h2⟩ := xHS (l := l) h
      exact ⟨List.mem_cons_of_mem _ h1, h2⟩
theorem xIl (hc : xCl P call) (hx : xMG P xcall) {K : St → Prop} : ∀ (os : List VOper) (acc : List Foot) (s s' : St), xL0 call xcall false os acc s = some s' → K s' → SeqT P nt os K s
  | [], acc, s, s', h, hk => by cases h; exact xTv hk
  | o :: os, acc, s, s', h, hk => by
    simp only [xL0] at h
    split at h
    · rename_i hg
      exact xEC (r := ⟨.tup [], [], []⟩) (.inl ⟨hg, rfl⟩) (xIl hc hx os _ _ s' h hk)
    · rename_i hg
      split at h
      · rename_i r hr
        obtain ⟨h1, _⟩ := xHS hr
        exact xEC (r := r.2) (.inr ⟨hg, r.1, xRJ hc hx h1⟩) (xIl hc hx os _ _ s' h hk)
      · cases h
    · cases h
theorem xFD (hc : xCl P call) (hx : xMG P xcall) {K : St → Prop} : ∀ (os : List VOper) (acc : List Foot) (s s' : St), xL0 call xcall true os acc s = some s' → K s' → xAz P true os acc s K
  | [], acc, s, s', h, hk => by cases h; exact hk
  | o :: os, acc, s, s', h, hk => by
    simp only [xL0] at h
    split at h
    · rename_i hg
      exact .inl ⟨hg, xFD hc hx os _ _ s' h hk⟩
    · rename_i hg
      split at h
      · rename_i r hr
        obtain ⟨h1, h2⟩ := xHS hr
        exact .inr ⟨hg, r.1, r.2, xRJ hc hx h1, h2, xFD hc hx os _ _ s' h hk⟩
      · cases h
    · cases h
theorem xD6 (hc : xCl P call) (hx : xMG P xcall) {fuel : Nat} : ∀ (c : VCode) (s : St) (e : Exit) (s' : St), exC call xcall fuel c s = some (e, s') → ∀ Q : Exit → St → Prop, Q e s' → CT P nt c Q s
  | .skip, s, e, s', h, Q, hq => by cases h; exact xAB hq
  | .region id d vs, s, e, s', h, Q, hq => by
    simp only [exC] at h
    split at h
    · rename_i s1 h1
      cases h
      cases d with
      | false => exact xL3 (xIl hc hx vs [] s _ h1 hq)
      | true => exact xMy (xFD hc hx vs [] s _ h1 hq)
    · cases d with
      | false => cases h
      | true =>
        obtain ⟨s1, h1, h2⟩ := map_some h
        cases h2
        exact xD7 (xDN _ s) (xMy (xFD hc hx vs [] _ _ h1 hq))
  | .seq a b, s, e, s', h, Q, hq => by
    simp only [exC] at h
    split at h
    · rename_i s1 h1
      exact xAb (xD6 hc hx a s _ s1 h1 _ (xD6 hc hx b s1 e s' h Q hq))
    · rename_i h1
      refine xAb (xD6 hc hx a s e s' h _ ?_)
      cases e with
      | normal => exact (h1 s' h).elim
      | _ => exact hq
  | .cond c a b, s, e, s', h, Q, hq => by
    simp only [exC] at h
    split at h
    · rename_i hb
      exact xIs hb (fun _ => xD6 hc hx a s e s' h Q hq) (fun h => by cases h)
    · rename_i hb
      exact xIs hb (fun h => by cases h) (fun _ => xD6 hc hx b s e s' h Q hq)
    · cases h
  | .block id a, s, e, s', h, Q, hq => by
    simp only [exC] at h
    split at h
    · rename_i i s1 h1
      split at h
      · rename_i hi
        cases h
        refine xA0 (xD6 hc hx a s _ _ h1 _ ?_)
        show xI7 id Q (.exit i) _
        simp only [xI7, hi]
        exact hq
      · rename_i hi
        cases h
        refine xA0 (xD6 hc hx a s _ _ h1 _ ?_)
        show xI7 id Q (.exit i) _
        simp only [xI7, hi]
        exact hq
    · rename_i h1
      refine xA0 (xD6 hc hx a s e s' h _ ?_)
      cases e with
      | exit i => exact (h1 i s' h).elim
      | _ => exact hq
  | .loop a, s, e, s', h, Q, hq => by
    simp only [exC] at h
    refine xD7 (xKQ s) (xRY (fun n t => ∃ n' s0, n' = n ∧ t = norm s0 ∧ iter (exC call xcall fuel a) n' s0 = some (e, s')) fuel ⟨fuel, s, rfl, rfl, h⟩ ?_)
    rintro n t ⟨n', s0, rfl, rfl, hi⟩
    cases n' with
    | zero => cases hi
    | succ k =>
      simp only [iter] at hi
      split at hi
      · rename_i s1 h1
        exact xD6 hc hx a _ _ s1 h1 _ ⟨k, Nat.lt_succ_self k, norm s1, xKQ s1, k, s1, rfl, rfl, hi⟩
      · rename_i h1
        refine xD6 hc hx a _ e s' hi _ ?_
        cases e with
        | normal => exact (h1 s' hi).elim
        | _ => exact hq
  | .exit id, s, e, s', h, Q, hq => by cases h; exact xAD hq
  | .scope a, s, e, s', h, Q, hq => by
    simp only [exC] at h
    split at h
    · cases h
    · rename_i h1
      refine xOF (xD6 hc hx a s e s' h _ ?_)
      cases e with
      | goto l => exact (h1 l s' h).elim
      | _ => exact hq
  | .label l, s, e, s', h, Q, hq => by cases h; exact xOG hq
  | .ret, s, e, s', h, Q, hq => by cases h; exact xAC hq
  | .range _ _ _ _, s, e, s', h, Q, hq => by cases h
  | .bad, s, e, s', h, Q, hq => by cases h
theorem xNN {orc : Call} (ho : xCl P orc) (hx : xMG P xcall) {fuel : Nat} : ∀ d, xCl P (run P orc xcall fuel d)
  | 0 => ho
  | d + 1 => by
    intro f args hin v hout h
    simp only [run] at h
    split at h
    · rename_i r hr
      cases h
      exact ho _ _ _ _ _ hr
    · obtain ⟨⟨nt, vc, rs⟩, hvf, h⟩ := bind_some h
      simp only at h
      split at h
      · rename_i s hs
        split at h
        · rename_i hle
          obtain ⟨g1, g2⟩ := xJU h
          exact xBV hvf (xD6 (xNN ho hx d) hx vc _ _ _ hs _ ⟨.inl rfl, g1⟩) (Nat.le_of_ble_eq_true hle) g2
        · cases h
      · rename_i s hs
        split at h
        · rename_i hle
          obtain ⟨g1, g2⟩ := xJU h
          exact xBV hvf (xD6 (xNN ho hx d) hx vc _ _ _ hs _ ⟨.inr rfl, g1⟩) (Nat.le_of_ble_eq_true hle) g2
        · cases h
      · cases h
def noX : Nat → List PV → Option PV := fun _ _ => none
theorem xSz : xMG P noX := fun _ _ _ _ h => by cases h
end
end Go.V
set_option linter.unusedVariables false
set_option linter.unusedSimpArgs false
namespace Go.V
inductive CTy where
  | bool
  | int (k : IntKind)
  | str
  | sl (cs : List CTy)
  deriving Repr
inductive InTy : CTy → PV → Prop
  | bool (b : Bool) : InTy .bool (.bool b)
  | int (k : IntKind) (n : Int) (h : (Lit.int k n).wf = true) : InTy (.int k) (.int k n)
  | str (s : List UInt8) (h : s.length ≤ maxLen) : InTy .str (.str s)
  | sl (cs : List CTy) (l : List (List PV)) (h0 : 0 < cs.length) (h : l.length ≤ maxLen) (hl : ∀ e ∈ l, e.length = cs.length) (hr : ∀ (i j : Nat) (e : List PV) (c : CTy) (p : PV), l[i]? = some e → cs[j]? = some c → e[j]? = some p → InTy c p) : InTy (.sl cs) (.sh false l)
section
variable (P : Program)
def xJ6 (ty : TypeId → Option (List CTy)) : Nat → List Field → Option (List CTy)
  | _, [] => some []
  | n, f :: r => (ty f.type).bind fun m => if f.offset = n ∧ P.cellsOf f.type = m.length then (xJ6 ty (n + m.length) r).map (m ++ ·) else none
def reps (m : List CTy) : Nat → List CTy
  | 0 => []
  | n + 1 => m ++ reps m n
def tyOf : Nat → TypeId → Option (List CTy)
  | 0, _ => none
  | d + 1, t => match P.underlying t with
    | some .bool => some [.bool]
    | some (.int k) => some [.int k]
    | some .string => some [.str]
    | some (.slice e) => (tyOf d e).bind fun m => if P.cellsOf e = m.length ∧ 0 < m.length then some [.sl m] else none
    | some (.struct fs) => (xJ6 P (tyOf d) 0 fs.toList).bind fun m => if P.cellsOf t = m.length then some m else none
    | some (.array n e) => (tyOf d e).bind fun m => if P.cellsOf e = m.length ∧ P.cellsOf t = n * m.length then some (reps m n) else none
    | _ => none
end
section
variable {H : Type} {enc : TypeId × Value → H} {P : Program} {w : World} {base : Nat} {spare : Nat → Bool} {held : Bool}
def Opens (w : World) (cts : List CTy) (cs : List Value) : Prop := cs.length = cts.length ∧ ∀ (j : Nat) (c : CTy) (v : Value), cts[j]? = some c → cs[j]? = some v → ∃ q, InTy c q ∧ CRel (fun k => k < w.heap.size) w q v
theorem Opens.one {c : CTy} {v : Value} {q : PV} (h : InTy c q) (hr : CRel (fun k => k < w.heap.size) w q v) : Opens w [c] [v] := by
  refine ⟨rfl, fun j c' v' h1 h2 => ?_⟩
  cases j with
  | zero => simp at h1 h2; subst h1; subst h2; exact ⟨q, h, hr⟩
  | succ j => simp at h1
theorem Opens.app {a b : List CTy} {x y : List Value} (h1 : Opens w a x) (h2 : Opens w b y) : Opens w (a ++ b) (x ++ y) := by
  refine ⟨by simp [h1.1, h2.1], fun j c v g1 g2 => ?_⟩
  by_cases hj : j < a.length
  · rw [List.getElem?_append_left hj] at g1
    rw [List.getElem?_append_left (by rw [h1.1]; exact hj)] at g2
    exact h1.2 j c v g1 g2
  · rw [List.getElem?_append_right (by omega)] at g1
    rw [List.getElem?_append_right (by rw [h1.1]; omega), h1.1] at g2
    exact h2.2 _ c v g1 g2
theorem Opens.pick {cts : List CTy} {cs : List Value} (h : Opens w cts cs) : ∃ qs : List PV, qs.length = cts.length ∧ ∀ (j : Nat) (q : PV), qs[j]? = some q → ∃ c v, cts[j]? = some c ∧ cs[j]? = some v ∧ InTy c q ∧ CRel (fun k => k < w.heap.size) w q v := by
  obtain ⟨h1, h2⟩ := h
  induction cts generalizing cs with
  | nil => exact ⟨[], rfl, by simp⟩
  | cons c cts ih =>
    cases cs with
    | nil => simp at h1
    | cons v cs =>
      obtain ⟨q, hq, hr⟩ := h2 0 c v rfl rfl
      obtain ⟨qs, g1, g2⟩ := ih (by simpa using h1) (fun j c v a b => h2 (j + 1) c v (by simpa using a) (by simpa using b))
      refine ⟨q :: qs, by simp [g1], fun j p hp => ?_⟩
      cases j with
      | zero => simp at hp; subst hp; exact ⟨c, v, rfl, rfl, hq, hr⟩
      | succ j =>
        obtain ⟨c', v', a1, a2, a3, a4⟩ := g2 j p (by simpa using hp)
        exact ⟨c', v', by simpa using a1, by simpa using a2, a3, a4⟩
theorem xC8 : ∀ (d : Nat) (t : TypeId) (cts : List CTy), tyOf P d t = some cts → ∀ (fuel : Nat) (cs : List Value) (x : DataW H × List MemPlace), DataW.trod enc P w base spare held fuel t cs = some x → Opens w cts cs
  | 0, t, cts, h => by cases h
  | d + 1, t, cts, h => by
    intro fuel cs x hx
    simp only [tyOf] at h
    split at h
    · rename_i ht
      cases h
      obtain ⟨b, rfl, _⟩ := DataW.trod_bool ht hx
      exact .one (.bool b) (.bool b)
    · rename_i k ht
      cases h
      obtain ⟨n, rfl, _, hw⟩ := DataW.trod_int ht hx
      exact .one (.int k n hw) (.int k n)
    · rename_i ht
      cases h
      obtain ⟨s, rfl, _, hs⟩ := DataW.trod_string ht hx
      refine .one (q := .str s.data.toList) (.str _ (by simpa using hs)) ?_
      have : (⟨s.data.toList.toArray⟩ : ByteArray) = s := by cases s; simp
      have h2 := CRel.str (F := fun k => k < w.heap.size) (w := w) s.data.toList
      rwa [this] at h2
    · rename_i e ht
      obtain ⟨m, hm, h⟩ := bind_some h
      split at h
      · rename_i hc
        obtain ⟨hc1, hc2⟩ := hc
        cases h
        rcases DataW.trod_slice ht hx with ⟨rfl, _⟩ | ⟨a, len, cap, elems, rest, n, _, rfl, _, hb, hl, hmx, hlen, hel, _, _⟩
        · exact .one (.sl m [] hc2 (by simp) (by simp) (by simp)) (.shn false)
        · cases len with
          | zero => exact .one (.sl m [] hc2 (by simp) (by simp) (by simp)) (.sh0 false a cap (by simp))
          | succ len' =>
            have each : ∀ i, i < len' + 1 → ∃ vs : List Value, w.cells? base (a.add (i * P.cellsOf e)) (P.cellsOf e) = some vs ∧ Opens w m vs := by
              intro i hi
              have h1 := hel i hi
              have h2 : elems[i]? = some (elems[i]'(by omega)) := List.getElem?_eq_getElem (by omega)
              rw [h2] at h1
              obtain ⟨vs, hvs, h3⟩ := bind_some h1
              exact ⟨vs, hvs, xC8 d e m hm _ vs _ h3⟩
            have hcell : ∀ i, i < len' + 1 → ∀ vs, w.cells? base (a.add (i * P.cellsOf e)) (P.cellsOf e) = some vs → ∀ j, j < m.length → w.cell? ((a.add (i * P.cellsOf e)).add j) = vs[j]? := by
              intro i hi vs hvs j hj
              obtain ⟨_, h4, h5⟩ := World.cells?_some hvs
              exact h5 j (by omega)
            obtain ⟨vs0, hvs0, hop0⟩ := each 0 (by omega)
            have h00 := hcell 0 (by omega) vs0 hvs0 0 hc2
            have hv00 : vs0[0]? = some (vs0[0]'(by rw [hop0.1]; exact hc2)) := List.getElem?_eq_getElem _
            rw [hv00] at h00
            have hspot : a.spot = none ∧ a.block < w.heap.size := by
              unfold World.cell? at h00
              have hbl : ((a.add (0 * P.cellsOf e)).add 0).block = a.block := by simp [Addr.add]
              have hsp : ((a.add (0 * P.cellsOf e)).add 0).spot = a.spot := by simp [Addr.add]
              rw [hbl, hsp] at h00
              cases hh : w.heap[a.block]? with
              | none => rw [hh] at h00; cases h00
              | some o =>
                rw [hh] at h00
                refine ⟨?_, (Array.getElem?_eq_some_iff.1 hh).1⟩
                cases o with
                | cells c ee fz =>
                  simp only at h00
                  split at h00
                  · cases h00
                  · rename_i hs
                    simpa using hs
                | _ => cases h00
            obtain ⟨bk, o, sp⟩ := a
            simp only at hspot
            obtain ⟨rfl, hlt⟩ := hspot
            have hch : ∀ n, n ≤ len' + 1 → ∃ l : List (List PV), l.length = n ∧ ∀ (i : Nat) (el : List PV), l[i]? = some el → el.length = m.length ∧ ∀ (j : Nat) (q : PV), el[j]? = some q → ∃ c v, m[j]? = some c ∧ w.cell? ⟨bk, o + i * m.length + j, none⟩ = some v ∧ InTy c q ∧ CRel (fun k => k < w.heap.size) w q v := by
              intro n
              induction n with
              | zero => intro _; exact ⟨[], rfl, by simp⟩
              | succ n ih =>
                intro hn
                obtain ⟨l, h1, h2⟩ := ih (by omega)
                obtain ⟨vs, hvs, hop⟩ := each n (by omega)
                obtain ⟨qs, g1, g2⟩ := hop.pick
                refine ⟨l ++ [qs], by simp [h1], fun i el hi => ?_⟩
                by_cases hi' : i < l.length
                · rw [List.getElem?_append_left hi'] at hi
                  exact h2 i el hi
                · rw [List.getElem?_append_right (by omega)] at hi
                  have : i - l.length = 0 := by
                    apply Classical.byContradiction
                    intro hne
                    rw [List.getElem?_eq_none (by simp; omega)] at hi
                    cases hi
                  rw [this] at hi
                  simp at hi
                  subst hi
                  have hin : i = n := by omega
                  subst hin
                  refine ⟨g1, fun j q hq => ?_⟩
                  obtain ⟨c, v, a1, a2, a3, a4⟩ := g2 j q hq
                  have hj : j < m.length := (List.getElem?_eq_some_iff.1 a1).1
                  have := hcell i (by omega) vs hvs j hj
                  rw [a2, hc1, xBs, xBs] at this
                  exact ⟨c, v, a1, this, a3, a4⟩
            obtain ⟨l, hl1, hl2⟩ := hch (len' + 1) (Nat.le_refl _)
            refine .one (q := .sh false l) (.sl m l hc2 (by omega) (fun el he => ?_) (fun i j el c p a1 a2 a3 => ?_)) ?_
            · obtain ⟨i, hi⟩ := List.mem_iff_getElem?.1 he
              exact (hl2 i el hi).1
            · obtain ⟨c', v, b1, b2, b3, b4⟩ := (hl2 i el a1).2 j p a3
              rw [a2] at b1
              cases b1
              exact b3
            · rw [← hl1]
              refine CRel.sh false l bk o cap m.length (fun i j => (w.cell? ⟨bk, o + i * m.length + j, none⟩).getD undef) hlt (by omega) (by simp) hc2 (fun el he => ?_) (fun i j el p a1 a2 => ?_) (fun i j el p a1 a2 => ?_)
              · obtain ⟨i, hi⟩ := List.mem_iff_getElem?.1 he
                exact (hl2 i el hi).1
              · obtain ⟨c', v, b1, b2, b3, b4⟩ := (hl2 i el a1).2 j p a2
                rw [b2]; rfl
              · obtain ⟨c', v, b1, b2, b3, b4⟩ := (hl2 i el a1).2 j p a2
                rw [b2]
                exact b4
      · cases h
    · rename_i fs ht
      obtain ⟨m, hm, h⟩ := bind_some h
      split at h
      · rename_i hc
        cases h
        obtain ⟨xs, n, _, _, hcl, hxl, hfs⟩ := DataW.trod_struct ht hx
        have key : ∀ (l : List Field) (off : Nat) (m : List CTy), xJ6 P (tyOf P d) off l = some m → (∀ f ∈ l, ∃ y, DataW.trod enc P w base spare held n f.type ((cs.drop f.offset).take (P.cellsOf f.type)) = some y) → off + m.length ≤ cs.length → Opens w m ((cs.drop off).take m.length) := by
          intro l
          induction l with
          | nil =>
            intro off m hm _ _
            cases hm
            exact ⟨by simp, by simp⟩
          | cons f l ih =>
            intro off m hm hall hlen
            obtain ⟨m1, hm1, hm⟩ := bind_some hm
            split at hm
            · rename_i hcc
              obtain ⟨hoff, hsz⟩ := hcc
              obtain ⟨m2, hm2, rfl⟩ := map_some hm
              obtain ⟨y, hy⟩ := hall f (by simp)
              have h1 := xC8 d f.type m1 hm1 n _ y hy
              rw [hoff, hsz] at h1
              rw [List.length_append] at hlen
              have h2 := ih (off + m1.length) m2 hm2 (fun g hg => hall g (by simp [hg])) (by omega)
              have e : (cs.drop off).take (m1 ++ m2).length = (cs.drop off).take m1.length ++ (cs.drop (off + m1.length)).take m2.length := by
                rw [List.length_append, List.take_add, List.drop_drop]
              rw [e]
              exact h1.app h2
            · cases hm
        have hall : ∀ f ∈ fs.toList, ∃ y, DataW.trod enc P w base spare held n f.type ((cs.drop f.offset).take (P.cellsOf f.type)) = some y := by
          intro f hf
          obtain ⟨i, hi⟩ := List.mem_iff_getElem?.1 hf
          have hi' : fs[i]? = some f := by simpa using hi
          have hlt : i < xs.length := by rw [hxl]; exact (Array.getElem?_eq_some_iff.1 hi').1
          exact ⟨_, (hfs i f hi').trans (List.getElem?_eq_getElem hlt)⟩
        have := key fs.toList 0 cts hm hall (by omega)
        rwa [List.drop_zero, List.take_of_length_le (by omega)] at this
      · cases h
    · rename_i k e ht
      obtain ⟨m, hm, h⟩ := bind_some h
      split at h
      · rename_i hc
        obtain ⟨hc1, hc2⟩ := hc
        cases h
        obtain ⟨xs, n, _, _, hcl, hxl, hes⟩ := DataW.trod_array ht hx
        have key : ∀ (j i : Nat), i + j = k → Opens w (reps m j) ((cs.drop (i * m.length)).take (j * m.length)) := by
          intro j
          induction j with
          | zero => intro i _; exact ⟨by simp [reps], by simp [reps]⟩
          | succ j ih =>
            intro i hi
            have h1 := hes i (by omega)
            rw [List.getElem?_eq_getElem (show i < xs.length by omega), hc1] at h1
            have h2 := xC8 d e m hm n _ _ h1
            have h3 := ih (i + 1) (by omega)
            have e2 : (cs.drop (i * m.length)).take ((j + 1) * m.length) = (cs.drop (i * m.length)).take m.length ++ (cs.drop ((i + 1) * m.length)).take (j * m.length) := by
              rw [show (j + 1) * m.length = m.length + j * m.length by rw [Nat.add_mul]; omega, List.take_add, List.drop_drop, show (i + 1) * m.length = i * m.length + m.length by rw [Nat.add_mul]; omega]
            rw [e2]
            exact h2.app h3
        have := key k 0 (by omega)
        rwa [Nat.zero_mul, List.drop_zero, List.take_of_length_le (by omega)] at this
      · cases h
    · cases h
end
end Go.V
set_option linter.unusedVariables false
set_option linter.unusedSimpArgs false
namespace Go.V
section
variable {H : Type} {enc : TypeId × Value → H} {P : Program} {w : World} {base b0 : Nat} {spare : Nat → Bool} {held : Bool} {r : Reach}
abbrev Old (w : World) : Nat → Prop := fun k => k < w.heap.size
abbrev xCz : Bid → Option Nat := fun _ => none
theorem xSp {t : TypeId} {v : Value} {d : DataW H} {p : List MemPlace} {dd : Nat} {cts : List CTy} (hty : tyOf P dd t = some cts) (hag : xC1 P t = some true) (hval : Value.okWide P w r b0 t v) (h : DataW.Trod enc P w base spare held t v d p) :
    ∃ qs : List PV, qs.length = cts.length ∧ (∀ (j : Nat) (c : CTy) (q : PV), cts[j]? = some c → qs[j]? = some q → InTy c q) ∧ VRel (Old w) xCz (resH []) w (.agg qs) v := by
  obtain ⟨fuel, hf⟩ := h
  have hcs : ∃ cs, v = .agg cs := by
    obtain ⟨u, hu, hg⟩ := map_some hag
    unfold Value.okWide at hval
    rw [hu] at hval
    cases u <;> (try (cases hg; done)) <;> (obtain ⟨cs, hcs, _⟩ := hval; exact ⟨cs, hcs⟩)
  obtain ⟨cs, rfl⟩ := hcs
  obtain ⟨qs, h1, h2⟩ := (xC8 dd t cts hty fuel _ _ hf).pick
  have hlen := (xC8 dd t cts hty fuel _ _ hf).1
  have hcl : (Value.agg cs).cells.toList = cs.toList := rfl
  rw [hcl] at h2 hlen
  refine ⟨qs, h1, fun j c q a1 a2 => ?_, cs, rfl, by simp at hlen; omega, fun i q x a1 a2 => ?_⟩
  · obtain ⟨c', v, b1, b2, b3, b4⟩ := h2 j q a2
    rw [a1] at b1
    cases b1
    exact b3
  · obtain ⟨c', v, b1, b2, b3, b4⟩ := h2 i q a1
    have : v = x := by
      have h3 : cs[i]? = some v := by simpa using b2
      rw [a2] at h3
      cases h3; rfl
    subst this
    exact (SRel.of_closed b4.closed).2 b4
theorem xMf {t e : TypeId} {v : Value} {d : DataW H} {p : List MemPlace} {dd : Nat} {cts : List CTy} (ht : P.underlying t = some (.slice e)) (hty : tyOf P dd t = some [.sl cts]) (hval : Value.okWide P w r b0 t v) (h : DataW.Trod enc P w base spare held t v d p) :
    ∃ l : List (List PV), InTy (.sl cts) (.sh false l) ∧ VRel (Old w) xCz (resH []) w (.sh false l) v := by
  obtain ⟨fuel, hf⟩ := h
  obtain ⟨a, len, cap, rfl⟩ := WideShapes.okWide_slice ht hval
  obtain ⟨_, h2⟩ := xC8 dd t [.sl cts] hty fuel _ _ hf
  obtain ⟨q, h3, h4⟩ := h2 0 (.sl cts) (.slice a len cap) rfl rfl
  cases h3 with
  | sl _ l g1 g2 g3 g4 => exact ⟨l, .sl cts l g1 g2 g3 g4, VRel.of_C h4⟩
def GlbW (w : World) : Prop := ∀ p ∈ GT, p.1 < w.heap.size ∧ 0 < p.2.length ∧ ∃ gv : Nat → Value, ∀ (j : Nat) (q : PV), p.2[j]? = some q → w.cell? ⟨p.1, j, none⟩ = some (gv j) ∧ ∀ (F : Nat → Prop) (w : World), CRel F w q (gv j)
theorem xR7 {f : Nat} {args : List PV} {rargs : Array Value} {b : Bool} (h : VC P f args [] (.bool b) []) (hsz : rargs.size = args.length)
    (hr : ∀ (i : Nat) (p : PV) (x : Value), args[i]? = some p → rargs[i]? = some x → VRel (Old w) xCz (resH []) w p x) (hG : GlbW w := by (intro p hp; cases hp)) : Calls P f rargs w fun e w' => e = .returned (.bool b) ∧ RowKit.Below w.heap.size w w' := by
  have hI : Inv (Ctx.of w (Old w) (WrOf xCz ([] : List Blk).length) xCz (resH [])) (Old w) xCz (resH []) w := by
    have hn : ∀ b B, resH [] b = some B → False := by
      intro b B h
      simp [resH] at h
    exact ⟨rfl, rfl, rfl, Nat.le_refl _, fun _ _ _ => rfl, fun _ h => h, fun _ h => h, fun _ h => .inl h, fun b B h => (hn b B h).elim, fun b b' B B' k h => (hn b B h).elim, fun b B k h => (hn b B h).elim, fun p hp => by
      obtain ⟨g1, g2, g3⟩ := hG p hp
      exact ⟨g1, g1, (by rintro ⟨i, hi, _⟩; simp at hi), g2, g3⟩⟩
  refine (h.2 w (Old w) xCz rargs hI hsz hr).mono ?_
  rintro e w' ⟨rv, F', μ', rfl, g1, g2, g3⟩
  refine ⟨by rw [xCW g3], g1.os, g1.tape, g1.output, g1.size, fun k hk => g1.frame k hk ?_⟩
  rintro ⟨i, hi, _⟩
  simp at hi
end
end Go.V
set_option linter.unusedVariables false
set_option linter.unusedSimpArgs false
namespace Go.V
theorem xTs {P : Program} {f0 : Nat} {fn : Func} (hf : P.funcs[f0]? = some fn) (hname : (fn.name == "runtime.NumGoroutine") = false) (hb : fn.body.isNone = true) (hn : Extern.findNext fn = none) (he : Extern.find fn = some Extern.BytealgCompare.compare)
    (hf' : HF) (a b : List UInt8) : XC P hf' f0 [.str a, .str b] (.int .i64 (Lib.compareBytes a b)) [] := by
  intro Γ F μ hf2 w rargs _ hI hsz hargs
  obtain ⟨l⟩ := rargs
  simp only [List.length_cons, List.length_nil, List.size_toArray] at hsz
  match l, hsz with
  | [x, y], _ =>
    have h1 := xCG (hargs 0 _ x rfl rfl)
    have h2 := xCG (hargs 1 _ y rfl rfl)
    subst h1; subst h2
    refine ⟨_, ?_, VRel.int _ _⟩
    rw [run_callFunc_extern hf hname hb hn he, Lib.run_compareString]
    rfl
end Go.V
set_option linter.unusedVariables false
set_option linter.unusedSimpArgs false
namespace Go.V
abbrev ownV (b : Bid) (els : List (List PV)) : PV := .own b els.length 0 els.length
abbrev blkV (esz : Nat) (els : List (List PV)) : Blk := ⟨false, false, esz, els⟩
theorem gm {α : Type} {enc : α → List PV} {xs : List α} {x : α} {n : Int} {k : Nat} (h : xs[k]? = some x) (hn : n.toNat = k) : (xs.map enc)[n.toNat]? = some (enc x) := by
  rw [hn, List.getElem?_map, h]; rfl
theorem Sl.full {ex : Bool} {els : List (List PV)} : Sl (.sh ex ((els.drop 0).take els.length)) els := by
  simp only [List.drop_zero, List.take_length]; exact Sl.sh
theorem Sl.part {ex : Bool} {els l : List (List PV)} {a n : Nat} (h : (els.drop a).take n = l) : Sl (.sh ex ((els.drop a).take n)) l := by rw [h]; exact Sl.sh
section
variable {lvl site : Nat} {tf : TF} {hf : HF} {x y i : VX} {p q : PV} {l : List (List PV)} {k : IntKind} {n m : Int} {b c : Bid} {hw off len esz : Nat} {B : Blk}
theorem v_mul (hx : ev tf x = some (.int k n)) (hy : ev tf y = some (.int k m)) (h : k.wrap (n * m) = n * m) : vop lvl site tf hf (.bin .mul x y) = some ⟨.int k (n * m), [], []⟩ := by
  simp only [vop, hx, hy, Option.bind_some, bin, if_true, xEx, h]; rfl
theorem xGt (h : Sl p l) : xAf hf p = some ([], l) := by
  rcases h with ⟨rfl, rfl⟩ | ⟨rfl, rfl⟩ | ⟨ex, rfl⟩ <;> rfl
theorem xK0 {els : List (List PV)} {nn : Nat} (hx : ev tf x = some (.own b nn 0 nn)) (hi : ev tf i = some (.int k n)) (hb : hf b = some (blkV esz els)) (hn : nn = els.length) (h0 : 0 ≤ n) (h1 : n < els.length) : vop lvl site tf hf (.iaddr esz x i) = some ⟨.ptr b els.length n.toNat 0, [], [b]⟩ := by
  subst hn
  have := xHl (lvl := lvl) (site := site) hx hi hb rfl rfl h0 h1
  rwa [Nat.zero_add] at this
theorem v_app {α : Type} {enc : α → List PV} {ys : List α} {e : α} {bytes : Nat} {z e' : List PV} (hx : ev tf x = some (ownV b (ys.map enc))) (hy : ev tf y = some (.own c 1 0 1)) (hcb : hf c = some ⟨false, false, esz, [e']⟩) (hb : hf b = some (blkV esz (ys.map enc)))
    (he : e' = enc e) (hok : ∀ c ∈ enc e, closed c = true) (hl : (enc e).length = esz) (hz : z.length = esz) (h0 : 0 < esz) (hby : 0 < bytes) (hroom : (ys.length + 1) * bytes ≤ xBB) :
    vop lvl site tf hf (.append esz bytes z x y) = some ⟨ownV b ((ys ++ [e]).map enc), [(b, blkV esz ((ys ++ [e]).map enc))], [b, c]⟩ := by
  subst he
  have := xPO (lvl := lvl) (site := site) (bytes := bytes) (z := z) hx hy hcb hb hok hl hz h0 hby (by simpa using hroom)
  rw [this]
  simp [List.map_append, ownV, blkV]
theorem vap {α : Type} (enc : α → List PV) (e : α) {ys : List α} {bytes nn : Nat} {z e' : List PV} (hx : ev tf x = some (.own b nn 0 nn) := by rfl) (hy : ev tf y = some (.own c 1 0 1) := by rfl) (hcb : hf c = some ⟨false, false, esz, [e']⟩ := by rfl) (hb : hf b = some (blkV esz (ys.map enc)) := by rfl) (hnn : nn = (ys.map enc).length := by first | rfl | (simp; done) | (simp only [blkV, List.length_map, List.length_set, List.length_append, List.length_cons, List.length_nil]; omega))
    (he : e' = enc e := by rfl) (hok : ∀ c ∈ enc e, closed c = true := by simp [closed]) (hl : (enc e).length = esz := by rfl) (hz : z.length = esz := by rfl) (h0 : 0 < esz := by decide) (hby : 0 < bytes := by decide) (hroom : (ys.length + 1) * bytes ≤ xBB := by (unfold xBB; (try simp only [List.length_append, List.length_cons, List.length_nil]); omega)) :
    vop lvl site tf hf (.append esz bytes z x y) = some ⟨ownV b ((ys ++ [e]).map enc), [(b, blkV esz ((ys ++ [e]).map enc))], [b, c]⟩ := by
  subst hnn
  exact v_app hx hy hcb hb he hok hl hz h0 hby hroom
theorem vst {α : Type} (enc : α → List PV) (e : α) {ys : List α} {a : Nat} {v : PV} (hx : ev tf x = some (.ptr b hw a 0) := by rfl) (hy : ev tf y = some v := by rfl) (hb : hf b = some (blkV esz (ys.map enc)) := by rfl) (hw' : hw = (ys.map enc).length := by first | rfl | (simp; done) | (simp only [blkV, List.length_map, List.length_set, List.length_append, List.length_cons, List.length_nil]; omega)) (he : xAY v = enc e := by rfl) (ha : a < ys.length := by first | assumption | omega | (simp; omega))
    (hl : ∀ a, (enc a).length = esz := by exact (fun _ => rfl)) (hok : ∀ c ∈ enc e, closed c = true := by simp [closed]) : vop lvl site tf hf (.store esz x y) = some ⟨.dead, [(b, blkV esz ((ys.set a e).map enc))], [b]⟩ := by
  have hg : ys[a]? = some ys[a] := List.getElem?_eq_getElem ha
  have := xFV (lvl := lvl) (site := site) (nn := esz) (e := enc ys[a]) hx hy hb hw' rfl (by show (ys.map enc)[a]? = _; rw [List.getElem?_map, hg]; rfl) (by rw [he, hl]) (by rw [hl]; omega) (by rw [he]; exact List.all_eq_true.2 hok)
  rw [this, he]
  simp [blkV, hl, List.map_set, List.drop_of_length_le]
theorem v_apps {α : Type} {enc : α → List PV} {ys zs : List α} {bytes : Nat} {z : List PV} {rd : List Bid} {l : List (List PV)} (hx : ev tf x = some (ownV b (ys.map enc))) (hy : ev tf y = some q) (hct : xAf hf q = some (rd, l)) (hzs : l = zs.map enc) (hb : hf b = some (blkV esz (ys.map enc)))
    (hok : ∀ a, (enc a).length = esz ∧ ∀ c ∈ enc a, closed c = true) (hz : z.length = esz) (h0 : 0 < esz) (hby : 0 < bytes) (hroom : (ys.length + zs.length) * bytes ≤ xBB) :
    vop lvl site tf hf (.append esz bytes z x y) = some ⟨ownV b ((ys ++ zs).map enc), [(b, blkV esz ((ys ++ zs).map enc))], b :: rd⟩ := by
  subst hzs
  have := xNB (lvl := lvl) (site := site) (bytes := bytes) (z := z) hx hy hct hb (okEls.map hok) hz h0 hby (by simpa using hroom)
  rw [this]
  simp [List.map_append, ownV, blkV]
theorem vaps {α : Type} (enc : α → List PV) (ys zs : List α) {bytes nn : Nat} {z : List PV} {rd : List Bid} (hx : ev tf x = some (.own b nn 0 nn) := by rfl) (hy : ev tf y = some q := by rfl) (hct : xAf hf q = some (rd, zs.map enc) := by first | exact xBf rfl | exact xGt (by assumption) | rfl) (hb : hf b = some (blkV esz (ys.map enc)) := by rfl) (hnn : nn = (ys.map enc).length := by first | rfl | (simp; done) | (simp only [blkV, List.length_map, List.length_set, List.length_append, List.length_cons, List.length_nil]; omega))
    (hok : ∀ a, (enc a).length = esz ∧ ∀ c ∈ enc a, closed c = true := by (intro a; simp [closed])) (hz : z.length = esz := by rfl) (h0 : 0 < esz := by decide) (hby : 0 < bytes := by decide) (hroom : (ys.length + zs.length) * bytes ≤ xBB := by (unfold xBB; (try simp only [List.length_append, List.length_cons, List.length_nil]); omega)) :
    vop lvl site tf hf (.append esz bytes z x y) = some ⟨ownV b ((ys ++ zs).map enc), [(b, blkV esz ((ys ++ zs).map enc))], b :: rd⟩ := by
  subst hnn
  exact v_apps hx hy hct rfl hb hok hz h0 hby hroom
end
theorem xL8 {v : PV} {B : Blk} (h : cV v = true) (hB : B.frz = false ∧ ∀ e ∈ B.els, ∀ c ∈ e, cS c = true) : xM8 v [B] := ⟨h, fun B' hB' => by simp at hB'; subst hB'; exact hB⟩
theorem xRk {α : Type} {enc : α → List PV} {ys : List α} {b : Bid} {esz : Nat} (h : ∀ a, ∀ c ∈ enc a, cS c = true) : xM8 (ownV b (ys.map enc)) [blkV esz (ys.map enc)] :=
  xL8 rfl ⟨rfl, fun e he => by obtain ⟨a, _, rfl⟩ := List.mem_map.1 he; exact h a⟩
theorem xGF {hf : HF} {lvl site : Nat} (h : hf ⟨lvl, site⟩ = none) : xJJ hf lvl site 1 := ⟨h, trivial⟩
section
variable {hf : HF} {lent : List Bid} {p x : PV} {l xs : List PV} {b : List Bid} {bs : List Bid} {c : Bid} {els : List (List PV)} {esz : Nat} {fz : Bool}
theorem xCB : xBe hf lent [] = some ([], []) := rfl
theorem xAN (h1 : xCZ hf lent p = some (b, x)) (h2 : xBe hf lent l = some (bs, xs)) : xBe hf lent (p :: l) = some (b ++ bs, x :: xs) := by
  simp only [xBe, h1, Option.bind_some, h2, Option.map_some]
theorem xAZ {n : Nat} (hb : hf c = some ⟨false, fz, esz, els⟩) (hn : n = els.length) : xCZ hf [] (.own c n 0 n) = some ([c], .sh false els) := by
  subst hn
  simp only [xCZ, xEY, xBM, idxB, xBJ, xBf hb, Option.map_some]
theorem xAA (h : closed p = true) : xCZ hf lent p = some ([], p) := by
  cases p <;> first
    | rfl
    | (simp [closed] at h; done)
    | skip
  rename_i f cs
  cases cs with
  | nil => rfl
  | cons c r => simp [closed] at h
end
abbrev encB (c : UInt8) : List PV := [.int .u8 c.toNat]
theorem xI3 : ∀ s : List UInt8, xGv (s.map encB) = some s
  | [] => rfl
  | c :: s => by
    show (xGv (s.map encB)).map (UInt8.ofNat ((c.toNat : Int)).toNat :: ·) = some (c :: s)
    rw [xI3 s]
    simp
theorem v_b2s {lvl site : Nat} {tf : TF} {hf : HF} {x : VX} {b : Bid} {hw off len : Nat} {B : Blk} {s : List UInt8} (hx : ev tf x = some (.own b hw off len)) (hb : hf b = some B) (hbx : B.box = false) (hc : hw = B.els.length) (hl : off + len ≤ hw) (hs : (B.els.drop off).take len = s.map encB) : vop lvl site tf hf (.b2s x) = some ⟨.str s, [], [b]⟩ := by
  have h := xDQ (hf := hf) (els := B.els) hb hbx hc hl
  have h2 : xHe hf (.own b hw off len) = some ([b], (B.els.drop off).take len) := h
  simp only [vop, hx, Option.bind_some, h2, hs, xI3, Option.map_some]
theorem xHj (c : UInt8) : IntKind.u8.wrap ((c.toNat : Int) + 1) = ((c + 1).toNat : Int) := by
  have h := c.toNat_lt
  rw [UInt8.toNat_add]
  simp [IntKind.wrap, IntKind.bits, IntKind.signed]
def Sq (P : Program) (nt : Nat) (draw : Bool) (os : List VOper) (acc : List Foot) (K : St → Prop) (s : St) : Prop := match draw with
  | false => SeqT P nt os K s
  | true => xAz P true os acc s K
def GOk (g : Option (Nat × Nat × Bool)) (tm : Tmps) : Prop := match g with
  | none => True
  | some (_, t, want) => tget tm t = some (.bool want)
theorem gT {i t : Nat} {want b : Bool} {tm : Tmps} (hb : tget tm t = some (.bool b)) (he : b = want) : GOk (some (i, t, want)) tm := he ▸ hb
section
variable {P : Program} {nt : Nat} {dr : Bool} {os : List VOper} {K : St → Prop} {lvl : Nat} {tm : Tmps} {hp : Heap} {d : Option Nat} {op : VOp} {g : Option (Nat × Nat × Bool)} {site : Nat} {pre : List Nat} {v : PV} {ws : List (Bid × Blk)} {rd : List Bid} {acc : List Foot} {r : Res} {ns : List Nat}
theorem rg {id : Nat} {vs : List VOper} {Q : Exit → St → Prop} {s : St} (h : Sq P nt dr vs [] (Q .normal) s) : CT P nt (.region id dr vs) Q s := by
  cases dr with
  | false => exact xL3 h
  | true => exact xMy h
theorem nl {s : St} (h : K s) : Sq P nt dr [] acc K s := by
  cases dr with
  | false => exact xTv h
  | true => exact h
theorem xUG (hg : GOk g tm) : xCu ⟨d, op, g, site, pre⟩ (tget tm) = some true := by
  cases g with
  | none => rfl
  | some x =>
    obtain ⟨i, t, want⟩ := x
    have hb : tget tm t = some (.bool want) := hg
    rw [xGn hb]; simp
theorem opC (h : Sq P nt dr os (acc ++ [(ws.map (·.1), rd)]) K ⟨lvl, tput tm d v, hput hp ws⟩) (hv : OpC P lvl site op ns (tget tm) (hget hp) ⟨v, ws, rd⟩) (hc : dr = true → xAx pre (ws.map (·.1), rd) 0 acc = true) (hg : GOk g tm) : Sq P nt dr (⟨d, op, g, site, pre⟩ :: os) acc K ⟨lvl, tm, hp⟩ := by
  cases dr with
  | false => exact xEC (r := ⟨v, ws, rd⟩) (.inr ⟨xUG hg, ns, hv⟩) h
  | true => exact .inr ⟨xUG hg, ns, ⟨v, ws, rd⟩, hv, fun _ => hc rfl, h⟩
theorem op1 (h : Sq P nt dr os (acc ++ [(ws.map (·.1), rd)]) K ⟨lvl, tput tm d v, hput hp ws⟩) (hv : vop lvl site (tget tm) (hget hp) op = some ⟨v, ws, rd⟩) (hn : xDI op = true) (hc : dr = true → xAx pre (ws.map (·.1), rd) 0 acc = true) (hg : GOk g tm) : Sq P nt dr (⟨d, op, g, site, pre⟩ :: os) acc K ⟨lvl, tm, hp⟩ :=
  opC (ns := []) h (xGd hv hn) hc hg
theorem xUP : ∀ (l : List Foot) (i : Nat), xAx pre ([], []) i l = true
  | [], _ => rfl
  | x :: l, i => by simp [xAx, xHJ, xUP l]
theorem op0 (h : Sq P nt dr os (acc ++ [([], [])]) K ⟨lvl, tput tm d v, hp⟩) (hv : vop lvl site (tget tm) (hget hp) op = some ⟨v, [], []⟩) (hn : xDI op = true) (hg : GOk g tm) : Sq P nt dr (⟨d, op, g, site, pre⟩ :: os) acc K ⟨lvl, tm, hp⟩ :=
  op1 (ws := []) (rd := []) h hv hn (fun _ => xUP _ _) hg
theorem opr {b : Bid} (h : Sq P nt dr os (acc ++ [([], [b])]) K ⟨lvl, tput tm d v, hp⟩) (hv : vop lvl site (tget tm) (hget hp) op = some ⟨v, [], [b]⟩) (hn : xDI op = true) (hc : dr = true → xAx pre ([], [b]) 0 acc = true) (hg : GOk g tm) : Sq P nt dr (⟨d, op, g, site, pre⟩ :: os) acc K ⟨lvl, tm, hp⟩ :=
  op1 (ws := []) (rd := [b]) h hv hn hc hg
theorem skF {i t : Nat} {want b : Bool} (h : Sq P nt dr os (acc ++ [([], [])]) K ⟨lvl, tput tm d (.tup []), hp⟩) (hb : tget tm t = some (.bool b) := by rfl) (he : b = !want := by first | rfl | assumption) : Sq P nt dr (⟨d, op, some (i, t, want), site, pre⟩ :: os) acc K ⟨lvl, tm, hp⟩ := by
  cases dr with
  | false => exact sq1f hb he h
  | true => exact dr1f hb he h
theorem skU {i t : Nat} {want : Bool} (h : Sq P nt dr os (acc ++ [([], [])]) K ⟨lvl, tput tm d (.tup []), hp⟩) (hb : tget tm t = some (.tup []) := by rfl) : Sq P nt dr (⟨d, op, some (i, t, want), site, pre⟩ :: os) acc K ⟨lvl, tm, hp⟩ := by
  cases dr with
  | false => exact sq1u hb h
  | true => exact dr1u hb h
theorem xCH {i t : Nat} {want b : Bool} (h1 : b = true → Sq P nt dr (⟨d, op, some (i, t, want), site, pre⟩ :: os) acc K ⟨lvl, tm, hp⟩) (h0 : b = false → Sq P nt dr (⟨d, op, some (i, t, want), site, pre⟩ :: os) acc K ⟨lvl, tm, hp⟩) (hb : tget tm t = some (.bool b) := by rfl) : Sq P nt dr (⟨d, op, some (i, t, want), site, pre⟩ :: os) acc K ⟨lvl, tm, hp⟩ := by
  cases b
  · exact h0 rfl
  · exact h1 rfl
theorem xAJ {x y : VX} {b : Bid} {hw off len esz : Nat} {B : Blk} {k : IntKind} {n : Int} (h : Sq P nt dr os (acc ++ [([], [b])]) K ⟨lvl, tput tm d (.ptr b hw (off + n.toNat) 0), hp⟩) (hx : ev (tget tm) x = some (.own b hw off len) := by rfl) (hy : ev (tget tm) y = some (.int k n) := by rfl) (hb : hget hp b = some B := by rfl) (hc0 : hw = B.els.length := by first | rfl | (simp; done) | (simp only [blkV, List.length_map, List.length_set, List.length_append, List.length_cons, List.length_nil]; omega)) (hz : B.esz = esz := by rfl) (h0 : 0 ≤ n := by omega) (h1 : n < len := by omega) (hc : dr = true → xAx pre ([], [b]) 0 acc = true := by first | (intro h; cases h; done) | (intro _; kernel_rfl)) (hg : GOk g tm := by first | exact trivial | exact gT rfl (by first | rfl | assumption)) : Sq P nt dr (⟨d, .iaddr esz x y, g, site, pre⟩ :: os) acc K ⟨lvl, tm, hp⟩ := opr h (xHl hx hy hb hc0 hz h0 h1) rfl hc hg
theorem xGe {x : VX} {lo hi : Option VX} {esz : Nat} {b : Bid} {hw off len : Nat} {B : Blk} {a z : Int} (h : Sq P nt dr os (acc ++ [([], [b])]) K ⟨lvl, tput tm d (.own b hw (off + a.toNat) (z.toNat - a.toNat)), hp⟩) (hx : ev (tget tm) x = some (.own b hw off len) := by rfl) (h1 : xAR (tget tm) 0 lo = some a := by rfl) (h2 : xAR (tget tm) len hi = some z := by rfl) (hb : hget hp b = some B := by rfl) (ha : 0 ≤ a := by omega) (hz : a ≤ z := by omega) (hl : z ≤ len := by omega) (he : B.esz = esz := by rfl) (hc0 : hw = B.els.length := by first | rfl | (simp; done) | (simp only [blkV, List.length_map, List.length_set, List.length_append, List.length_cons, List.length_nil]; omega)) (hc : dr = true → xAx pre ([], [b]) 0 acc = true := by first | (intro h; cases h; done) | (intro _; kernel_rfl)) (hg : GOk g tm := by first | exact trivial | exact gT rfl (by first | rfl | assumption)) : Sq P nt dr (⟨d, .slsl esz x lo hi none, g, site, pre⟩ :: os) acc K ⟨lvl, tm, hp⟩ := opr h (xUd hx h1 h2 ha hz hl hb he hc0) rfl hc hg
theorem xQa {x : VX} {b : Bid} {hw off len : Nat} {B : Blk} {s : List UInt8} (hs : (B.els.drop off).take len = s.map encB) (h : Sq P nt dr os (acc ++ [([], [b])]) K ⟨lvl, tput tm d (.str s), hp⟩) (hx : ev (tget tm) x = some (.own b hw off len) := by rfl) (hb : hget hp b = some B := by rfl) (hc0 : hw = B.els.length := by first | rfl | (simp; done) | (simp only [blkV, List.length_map, List.length_set, List.length_append, List.length_cons, List.length_nil]; omega)) (hbx : B.box = false := by rfl) (hl : off + len ≤ hw := by first | omega | (simp; done) | (simp; omega)) (hc : dr = true → xAx pre ([], [b]) 0 acc = true := by first | (intro h; cases h; done) | (intro _; kernel_rfl)) (hg : GOk g tm := by first | exact trivial | exact gT rfl (by first | rfl | assumption)) : Sq P nt dr (⟨d, .b2s x, g, site, pre⟩ :: os) acc K ⟨lvl, tm, hp⟩ := opr h (v_b2s hx hb hbx hc0 hl hs) rfl hc hg
theorem o_b2sR {x : VX} {b : Bid} (h : Sq P nt dr os (acc ++ [([], [b])]) K ⟨lvl, tput tm d v, hp⟩) (hv : vop lvl site (tget tm) (hget hp) (.b2s x) = some ⟨v, [], [b]⟩ := by rfl) (hc : dr = true → xAx pre ([], [b]) 0 acc = true := by first | (intro h; cases h; done) | (intro _; kernel_rfl)) (hg : GOk g tm := by first | exact trivial | exact gT rfl (by first | rfl | assumption)) : Sq P nt dr (⟨d, .b2s x, g, site, pre⟩ :: os) acc K ⟨lvl, tm, hp⟩ := opr h hv rfl hc hg
theorem xT6 {x y : VX} {k : IntKind} {n m r : Int} (h : Sq P nt dr os (acc ++ [([], [])]) K ⟨lvl, tput tm d (.int k r), hp⟩) (hx : ev (tget tm) x = some (.int k n) := by rfl) (hy : ev (tget tm) y = some (.int k m) := by rfl) (hr : k.wrap (n + m) = r := by assumption) (hg : GOk g tm := by first | exact trivial | exact gT rfl (by first | rfl | assumption)) : Sq P nt dr (⟨d, .bin .add x y, g, site, pre⟩ :: os) acc K ⟨lvl, tm, hp⟩ := op0 h (by subst hr; simp only [vop, hx, hy, Option.bind_some, bin, if_true, xEx]; rfl) rfl hg
theorem xSu {x y : VX} {s : List UInt8} {c : UInt8} {k : IntKind} {n : Int} (h : Sq P nt dr os (acc ++ [([], [])]) K ⟨lvl, tput tm d (.int .u8 c.toNat), hp⟩) (hx : ev (tget tm) x = some (.str s) := by rfl) (hy : ev (tget tm) y = some (.int k n) := by rfl) (h0 : 0 ≤ n := by omega) (hc : s[n.toNat]? = some c := by assumption) (hg : GOk g tm := by first | exact trivial | exact gT rfl (by first | rfl | assumption)) : Sq P nt dr (⟨d, .indexS x y, g, site, pre⟩ :: os) acc K ⟨lvl, tm, hp⟩ := op0 h (xR8 hx hy h0 hc) rfl hg
theorem xFc {x : VX} {lo hi : Option VX} {s : List UInt8} {a z : Int} (h : Sq P nt dr os (acc ++ [([], [])]) K ⟨lvl, tput tm d (.str ((s.drop a.toNat).take (z.toNat - a.toNat))), hp⟩) (hx : ev (tget tm) x = some (.str s) := by rfl) (h1 : xAR (tget tm) 0 lo = some a := by rfl) (h2 : xAR (tget tm) s.length hi = some z := by rfl) (ha : 0 ≤ a := by omega) (hz : a ≤ z := by first | omega | (simp_all; done) | (simp_all; omega)) (hl : z ≤ s.length := by first | omega | (simp_all; omega) | simp_all) (hg : GOk g tm := by first | exact trivial | exact gT rfl (by first | rfl | assumption)) : Sq P nt dr (⟨d, .slstr x lo hi, g, site, pre⟩ :: os) acc K ⟨lvl, tm, hp⟩ := op0 h (xPM hx h1 h2 ha hz hl) rfl hg
theorem xSv {x y : VX} {esz : Nat} {b : Bid} (h : Sq P nt dr os (acc ++ [([], [b])]) K ⟨lvl, tput tm d v, hp⟩) (hv : vop lvl site (tget tm) (hget hp) (.iaddr esz x y) = some ⟨v, [], [b]⟩ := by rfl) (hc : dr = true → xAx pre ([], [b]) 0 acc = true := by first | (intro h; cases h; done) | (intro _; kernel_rfl)) (hg : GOk g tm := by first | exact trivial | exact gT rfl (by first | rfl | assumption)) : Sq P nt dr (⟨d, .iaddr esz x y, g, site, pre⟩ :: os) acc K ⟨lvl, tm, hp⟩ := opr h hv rfl hc hg
theorem xOn {x y : VX} {k : IntKind} {n m r : Int} (h : Sq P nt dr os (acc ++ [([], [])]) K ⟨lvl, tput tm d (.int k r), hp⟩) (hx : ev (tget tm) x = some (.int k n) := by rfl) (hy : ev (tget tm) y = some (.int k m) := by rfl) (hm : m ≠ 0 := by first | omega | exact (by decide)) (hr : n.tmod m = r := by first | assumption | rfl) (hg : GOk g tm := by first | exact trivial | exact gT rfl (by first | rfl | assumption)) : Sq P nt dr (⟨d, .bin .rem x y, g, site, pre⟩ :: os) acc K ⟨lvl, tm, hp⟩ := op0 h (by rw [← hr]; exact v_rem hx hy hm) rfl hg
theorem xBN {x : VX} {k k' : IntKind} {n r : Int} (h : Sq P nt dr os (acc ++ [([], [])]) K ⟨lvl, tput tm d (.int k' r), hp⟩) (hx : ev (tget tm) x = some (.int k n) := by rfl) (hr : k'.wrap n = r := by first | assumption | rfl) (hg : GOk g tm := by first | exact trivial | exact gT rfl (by first | rfl | assumption)) : Sq P nt dr (⟨d, .conv k' x, g, site, pre⟩ :: os) acc K ⟨lvl, tm, hp⟩ := op0 h (by subst hr; simp only [vop, hx, Option.bind_some]; rfl) rfl hg
theorem xAP {x : VX} (h : Sq P nt dr os (acc ++ [([], [])]) K ⟨lvl, tput tm d v, hp⟩) (hv : vop lvl site (tget tm) (hget hp) (.copy x) = some ⟨v, [], []⟩ := by rfl)  (hg : GOk g tm := by first | exact trivial | exact gT rfl (by first | rfl | assumption)) : Sq P nt dr (⟨d, .copy x, g, site, pre⟩ :: os) acc K ⟨lvl, tm, hp⟩ := op0 h hv rfl hg
theorem xVX {n : Nat} {x : VX} (h : Sq P nt dr os (acc ++ [([], [])]) K ⟨lvl, tput tm d v, hp⟩) (hv : vop lvl site (tget tm) (hget hp) (.faddr n x) = some ⟨v, [], []⟩ := by rfl)  (hg : GOk g tm := by first | exact trivial | exact gT rfl (by first | rfl | assumption)) : Sq P nt dr (⟨d, .faddr n x, g, site, pre⟩ :: os) acc K ⟨lvl, tm, hp⟩ := op0 h hv rfl hg
theorem xVW {a : Bool} {n m : Nat} {x : VX} (h : Sq P nt dr os (acc ++ [([], [])]) K ⟨lvl, tput tm d v, hp⟩) (hv : vop lvl site (tget tm) (hget hp) (.field a n m x) = some ⟨v, [], []⟩ := by rfl)  (hg : GOk g tm := by first | exact trivial | exact gT rfl (by first | rfl | assumption)) : Sq P nt dr (⟨d, .field a n m x, g, site, pre⟩ :: os) acc K ⟨lvl, tm, hp⟩ := op0 h hv rfl hg
theorem o_bin {o : BinOp} {x y : VX} (h : Sq P nt dr os (acc ++ [([], [])]) K ⟨lvl, tput tm d v, hp⟩) (hv : vop lvl site (tget tm) (hget hp) (.bin o x y) = some ⟨v, [], []⟩ := by rfl)  (hg : GOk g tm := by first | exact trivial | exact gT rfl (by first | rfl | assumption)) : Sq P nt dr (⟨d, .bin o x y, g, site, pre⟩ :: os) acc K ⟨lvl, tm, hp⟩ := op0 h hv rfl hg
theorem o_not {x : VX} (h : Sq P nt dr os (acc ++ [([], [])]) K ⟨lvl, tput tm d v, hp⟩) (hv : vop lvl site (tget tm) (hget hp) (.not x) = some ⟨v, [], []⟩ := by rfl)  (hg : GOk g tm := by first | exact trivial | exact gT rfl (by first | rfl | assumption)) : Sq P nt dr (⟨d, .not x, g, site, pre⟩ :: os) acc K ⟨lvl, tm, hp⟩ := op0 h hv rfl hg
theorem o_eqb {n : Bool} {x y : VX} (h : Sq P nt dr os (acc ++ [([], [])]) K ⟨lvl, tput tm d v, hp⟩) (hv : vop lvl site (tget tm) (hget hp) (.eqb n x y) = some ⟨v, [], []⟩ := by rfl)  (hg : GOk g tm := by first | exact trivial | exact gT rfl (by first | rfl | assumption)) : Sq P nt dr (⟨d, .eqb n x y, g, site, pre⟩ :: os) acc K ⟨lvl, tm, hp⟩ := op0 h hv rfl hg
theorem o_eqc {n : Bool} {ks : List Nat} {x y : VX} (h : Sq P nt dr os (acc ++ [([], [])]) K ⟨lvl, tput tm d v, hp⟩) (hv : vop lvl site (tget tm) (hget hp) (.eqc n ks x y) = some ⟨v, [], []⟩ := by rfl)  (hg : GOk g tm := by first | exact trivial | exact gT rfl (by first | rfl | assumption)) : Sq P nt dr (⟨d, .eqc n ks x y, g, site, pre⟩ :: os) acc K ⟨lvl, tm, hp⟩ := op0 h hv rfl hg
theorem o_nilc {x : VX} (h : Sq P nt dr os (acc ++ [([], [])]) K ⟨lvl, tput tm d v, hp⟩) (hv : vop lvl site (tget tm) (hget hp) (.nilc x) = some ⟨v, [], []⟩ := by rfl)  (hg : GOk g tm := by first | exact trivial | exact gT rfl (by first | rfl | assumption)) : Sq P nt dr (⟨d, .nilc x, g, site, pre⟩ :: os) acc K ⟨lvl, tm, hp⟩ := op0 h hv rfl hg
theorem xVU {n : Bool} {x : VX} (h : Sq P nt dr os (acc ++ [([], [])]) K ⟨lvl, tput tm d v, hp⟩) (hv : vop lvl site (tget tm) (hget hp) (.isnil n x) = some ⟨v, [], []⟩ := by rfl)  (hg : GOk g tm := by first | exact trivial | exact gT rfl (by first | rfl | assumption)) : Sq P nt dr (⟨d, .isnil n x, g, site, pre⟩ :: os) acc K ⟨lvl, tm, hp⟩ := op0 h hv rfl hg
theorem o_fn {f : Nat} {cs : List VX} (h : Sq P nt dr os (acc ++ [([], [])]) K ⟨lvl, tput tm d v, hp⟩) (hv : vop lvl site (tget tm) (hget hp) (.fn f cs) = some ⟨v, [], []⟩ := by rfl)  (hg : GOk g tm := by first | exact trivial | exact gT rfl (by first | rfl | assumption)) : Sq P nt dr (⟨d, .fn f cs, g, site, pre⟩ :: os) acc K ⟨lvl, tm, hp⟩ := op0 h hv rfl hg
theorem xVY {z : List PV} {ps : List (Nat × Nat × VX)} (h : Sq P nt dr os (acc ++ [([], [])]) K ⟨lvl, tput tm d v, hp⟩) (hv : vop lvl site (tget tm) (hget hp) (.build z ps) = some ⟨v, [], []⟩ := by rfl)  (hg : GOk g tm := by first | exact trivial | exact gT rfl (by first | rfl | assumption)) : Sq P nt dr (⟨d, .build z ps, g, site, pre⟩ :: os) acc K ⟨lvl, tm, hp⟩ := op0 h hv rfl hg
theorem xQZ {x : VX} {n : Nat} (h : Sq P nt dr os (acc ++ [([], [])]) K ⟨lvl, tput tm d v, hp⟩) (hv : vop lvl site (tget tm) (hget hp) (.extract x n) = some ⟨v, [], []⟩ := by rfl)  (hg : GOk g tm := by first | exact trivial | exact gT rfl (by first | rfl | assumption)) : Sq P nt dr (⟨d, .extract x n, g, site, pre⟩ :: os) acc K ⟨lvl, tm, hp⟩ := op0 h hv rfl hg
theorem o_lenS {x : VX} (h : Sq P nt dr os (acc ++ [([], [])]) K ⟨lvl, tput tm d v, hp⟩) (hv : vop lvl site (tget tm) (hget hp) (.lenS x) = some ⟨v, [], []⟩ := by rfl)  (hg : GOk g tm := by first | exact trivial | exact gT rfl (by first | rfl | assumption)) : Sq P nt dr (⟨d, .lenS x, g, site, pre⟩ :: os) acc K ⟨lvl, tm, hp⟩ := op0 h hv rfl hg
theorem o_len {x : VX} (h : Sq P nt dr os (acc ++ [([], [])]) K ⟨lvl, tput tm d v, hp⟩) (hv : vop lvl site (tget tm) (hget hp) (.len x) = some ⟨v, [], []⟩ := by rfl)  (hg : GOk g tm := by first | exact trivial | exact gT rfl (by first | rfl | assumption)) : Sq P nt dr (⟨d, .len x, g, site, pre⟩ :: os) acc K ⟨lvl, tm, hp⟩ := op0 h hv rfl hg
theorem o_cstr {x : VX} (h : Sq P nt dr os (acc ++ [([], [])]) K ⟨lvl, tput tm d v, hp⟩) (hv : vop lvl site (tget tm) (hget hp) (.cstr x) = some ⟨v, [], []⟩ := by rfl)  (hg : GOk g tm := by first | exact trivial | exact gT rfl (by first | rfl | assumption)) : Sq P nt dr (⟨d, .cstr x, g, site, pre⟩ :: os) acc K ⟨lvl, tm, hp⟩ := op0 h hv rfl hg
theorem xSx {n m : Nat} {x y : VX} (h : Sq P nt dr os (acc ++ [([], [])]) K ⟨lvl, tput tm d v, hp⟩) (hv : vop lvl site (tget tm) (hget hp) (.iaddrA n m x y) = some ⟨v, [], []⟩ := by rfl)  (hg : GOk g tm := by first | exact trivial | exact gT rfl (by first | rfl | assumption)) : Sq P nt dr (⟨d, .iaddrA n m x y, g, site, pre⟩ :: os) acc K ⟨lvl, tm, hp⟩ := op0 h hv rfl hg
theorem xSr {a : Bool} {x y : VX} (h : Sq P nt dr os (acc ++ [([], [])]) K ⟨lvl, tput tm d v, hp⟩) (hv : vop lvl site (tget tm) (hget hp) (.minmax a x y) = some ⟨v, [], []⟩ := by rfl)  (hg : GOk g tm := by first | exact trivial | exact gT rfl (by first | rfl | assumption)) : Sq P nt dr (⟨d, .minmax a x y, g, site, pre⟩ :: os) acc K ⟨lvl, tm, hp⟩ := op0 h hv rfl hg
theorem o_lenq {x : VX} {q : PV} {l : List (List PV)} (h : Sq P nt dr os (acc ++ [([], [])]) K ⟨lvl, tput tm d (.int .i64 l.length), hp⟩) (hx : ev (tget tm) x = some q := by rfl) (hs : Sl q l := by first | assumption | exact Sl.sh | exact Sl.nils | exact Sl.full)  (hg : GOk g tm := by first | exact trivial | exact gT rfl (by first | rfl | assumption)) : Sq P nt dr (⟨d, .len x, g, site, pre⟩ :: os) acc K ⟨lvl, tm, hp⟩ := op0 h (v_len hx hs) rfl hg
theorem o_add {x y : VX} {n m : Int} (h : Sq P nt dr os (acc ++ [([], [])]) K ⟨lvl, tput tm d (.int .i64 (n + m)), hp⟩) (hx : ev (tget tm) x = some (.int .i64 n) := by rfl) (hy : ev (tget tm) y = some (.int .i64 m) := by rfl) (hw : IntKind.i64.wrap (n + m) = n + m := by exact xB0 (by omega) (by omega))  (hg : GOk g tm := by first | exact trivial | exact gT rfl (by first | rfl | assumption)) : Sq P nt dr (⟨d, .bin .add x y, g, site, pre⟩ :: os) acc K ⟨lvl, tm, hp⟩ := op0 h (xUh hx hy hw) rfl hg
theorem o_sub {x y : VX} {n m : Int} (h : Sq P nt dr os (acc ++ [([], [])]) K ⟨lvl, tput tm d (.int .i64 (n - m)), hp⟩) (hx : ev (tget tm) x = some (.int .i64 n) := by rfl) (hy : ev (tget tm) y = some (.int .i64 m) := by rfl) (hw : IntKind.i64.wrap (n - m) = n - m := by exact xB0 (by omega) (by omega))  (hg : GOk g tm := by first | exact trivial | exact gT rfl (by first | rfl | assumption)) : Sq P nt dr (⟨d, .bin .sub x y, g, site, pre⟩ :: os) acc K ⟨lvl, tm, hp⟩ := op0 h (v_sub hx hy hw) rfl hg
theorem o_mul {x y : VX} {n m : Int} (h : Sq P nt dr os (acc ++ [([], [])]) K ⟨lvl, tput tm d (.int .i64 (n * m)), hp⟩) (hx : ev (tget tm) x = some (.int .i64 n) := by rfl) (hy : ev (tget tm) y = some (.int .i64 m) := by rfl) (hw : IntKind.i64.wrap (n * m) = n * m := by exact xB0 (by omega) (by omega))  (hg : GOk g tm := by first | exact trivial | exact gT rfl (by first | rfl | assumption)) : Sq P nt dr (⟨d, .bin .mul x y, g, site, pre⟩ :: os) acc K ⟨lvl, tm, hp⟩ := op0 h (v_mul hx hy hw) rfl hg
theorem o_cat {x y : VX} {s t : List UInt8} (h : Sq P nt dr os (acc ++ [([], [])]) K ⟨lvl, tput tm d (.str (s ++ t)), hp⟩) (hx : ev (tget tm) x = some (.str s) := by rfl) (hy : ev (tget tm) y = some (.str t) := by rfl) (hw : s.length + t.length ≤ 140737488355328 := by first | omega | (simp only [List.length_append, List.length_cons, List.length_nil, List.length_take, List.length_drop]; omega))  (hg : GOk g tm := by first | exact trivial | exact gT rfl (by first | rfl | assumption)) : Sq P nt dr (⟨d, .bin .add x y, g, site, pre⟩ :: os) acc K ⟨lvl, tm, hp⟩ := op0 h (v_cat hx hy hw) rfl hg
theorem xVV {x y : VX} {q : PV} {l : List (List PV)} {k : IntKind} {n : Int} {esz : Nat} {e : List PV} (h : Sq P nt dr os (acc ++ [([], [])]) K ⟨lvl, tput tm d (.sptr l n.toNat 0), hp⟩) (hx : ev (tget tm) x = some q := by rfl) (hy : ev (tget tm) y = some (.int k n) := by rfl) (hs : Sl q l := by first | assumption | exact Sl.sh | exact Sl.nils | exact Sl.full) (h0 : 0 ≤ n := by omega) (he : l[n.toNat]? = some e := by first | rfl | assumption) (hz : e.length = esz := by rfl)  (hg : GOk g tm := by first | exact trivial | exact gT rfl (by first | rfl | assumption)) : Sq P nt dr (⟨d, .iaddr esz x y, g, site, pre⟩ :: os) acc K ⟨lvl, tm, hp⟩ := op0 h (xUg hx hs hy h0 he hz) rfl hg
theorem xSw {x y : VX} {nn : Nat} {b : Bid} {els : List (List PV)} {k : IntKind} {n : Int} {esz : Nat} (h : Sq P nt dr os (acc ++ [([], [b])]) K ⟨lvl, tput tm d (.ptr b els.length n.toNat 0), hp⟩) (hx : ev (tget tm) x = some (.own b nn 0 nn) := by rfl) (hy : ev (tget tm) y = some (.int k n) := by rfl) (hb : hget hp b = some (blkV esz els) := by rfl) (hnn : nn = els.length := by first | rfl | (simp; done) | (simp only [blkV, List.length_map, List.length_set, List.length_append, List.length_cons, List.length_nil]; omega)) (h0 : 0 ≤ n := by omega) (h1 : n < els.length := by first | omega | (simp; done) | (simp; omega)) (hc : dr = true → xAx pre ([], [b]) 0 acc = true := by first | (intro h; cases h; done) | (intro _; kernel_rfl)) (hg : GOk g tm := by first | exact trivial | exact gT rfl (by first | rfl | assumption)) : Sq P nt dr (⟨d, .iaddr esz x y, g, site, pre⟩ :: os) acc K ⟨lvl, tm, hp⟩ := opr h (xK0 hx hy hb hnn h0 h1) rfl hc hg
theorem xVS {x : VX} {l : List (List PV)} {a j : Nat} {e : List PV} {nn : Nat} (h : Sq P nt dr os (acc ++ [([], [])]) K ⟨lvl, tput tm d v, hp⟩) (hx : ev (tget tm) x = some (.sptr l a j) := by rfl) (he : l[a]? = some e := by first | rfl | assumption) (hv : e[j]? = some v := by rfl)  (hg : GOk g tm := by first | exact trivial | exact gT rfl (by first | rfl | assumption)) : Sq P nt dr (⟨d, .load false nn x, g, site, pre⟩ :: os) acc K ⟨lvl, tm, hp⟩ := op0 h (xMK hx he hv) rfl hg
theorem xSs {x : VX} {l : List (List PV)} {a j : Nat} {e : List PV} {nn : Nat} (h : Sq P nt dr os (acc ++ [([], [])]) K ⟨lvl, tput tm d (.agg ((e.drop j).take nn)), hp⟩) (hx : ev (tget tm) x = some (.sptr l a j) := by rfl) (he : l[a]? = some e := by first | rfl | assumption) (hv : j + nn ≤ e.length := by exact Nat.le_of_ble_eq_true rfl)  (hg : GOk g tm := by first | exact trivial | exact gT rfl (by first | rfl | assumption)) : Sq P nt dr (⟨d, .load true nn x, g, site, pre⟩ :: os) acc K ⟨lvl, tm, hp⟩ := op0 h (xKz hx he hv) rfl hg
theorem xVT {x : VX} {b : Bid} {hw a j : Nat} {B : Blk} {e : List PV} {nn : Nat} (h : Sq P nt dr os (acc ++ [([], [b])]) K ⟨lvl, tput tm d v, hp⟩) (hx : ev (tget tm) x = some (.ptr b hw a j) := by rfl) (hb : hget hp b = some B := by rfl) (hl : hw = B.els.length := by first | rfl | (simp; done) | (simp only [blkV, List.length_map, List.length_set, List.length_append, List.length_cons, List.length_nil]; omega)) (he : B.els[a]? = some e := by first | rfl | assumption) (hv : e[j]? = some v := by rfl) (hc : dr = true → xAx pre ([], [b]) 0 acc = true := by first | (intro h; cases h; done) | (intro _; kernel_rfl)) (hg : GOk g tm := by first | exact trivial | exact gT rfl (by first | rfl | assumption)) : Sq P nt dr (⟨d, .load false nn x, g, site, pre⟩ :: os) acc K ⟨lvl, tm, hp⟩ := opr h (xOO hx hb hl he hv) rfl hc hg
theorem xSt {x : VX} {b : Bid} {hw a j : Nat} {B : Blk} {e : List PV} {nn : Nat} (h : Sq P nt dr os (acc ++ [([], [b])]) K ⟨lvl, tput tm d (.agg ((e.drop j).take nn)), hp⟩) (hx : ev (tget tm) x = some (.ptr b hw a j) := by rfl) (hb : hget hp b = some B := by rfl) (hl : hw = B.els.length := by first | rfl | (simp; done) | (simp only [blkV, List.length_map, List.length_set, List.length_append, List.length_cons, List.length_nil]; omega)) (he : B.els[a]? = some e := by first | rfl | assumption) (hv : j + nn ≤ e.length := by exact Nat.le_of_ble_eq_true rfl) (hc : dr = true → xAx pre ([], [b]) 0 acc = true := by first | (intro h; cases h; done) | (intro _; kernel_rfl)) (hg : GOk g tm := by first | exact trivial | exact gT rfl (by first | rfl | assumption)) : Sq P nt dr (⟨d, .load true nn x, g, site, pre⟩ :: os) acc K ⟨lvl, tm, hp⟩ := opr h (xML hx hb hl he hv) rfl hc hg
theorem xVP {x y : VX} {b : Bid} {hw a j : Nat} {B : Blk} {e : List PV} {nn : Nat} (h : Sq P nt dr os (acc ++ [([b], [b])]) K ⟨lvl, tput tm d .dead, hset hp b { B with els := B.els.set a (e.take j ++ xAY v ++ e.drop (j + nn)) }⟩) (hx : ev (tget tm) x = some (.ptr b hw a j) := by rfl) (hy : ev (tget tm) y = some v := by rfl) (hb : hget hp b = some B := by rfl) (hl : hw = B.els.length := by first | rfl | (simp; done) | (simp only [blkV, List.length_map, List.length_set, List.length_append, List.length_cons, List.length_nil]; omega)) (hz : B.frz = false := by rfl) (he : B.els[a]? = some e := by first | rfl | assumption) (hn : (xAY v).length = nn := by rfl) (hj : j + nn ≤ e.length := by exact Nat.le_of_ble_eq_true rfl) (hs : (xAY v).all (xDV B.box) = true := by first | rfl | (simp [xDV, closed, xCO, xAY]; done)) (hc : dr = true → xAx pre ([b], [b]) 0 acc = true := by first | (intro h; cases h; done) | (intro _; kernel_rfl)) (hg : GOk g tm := by first | exact trivial | exact gT rfl (by first | rfl | assumption)) : Sq P nt dr (⟨d, .store nn x y, g, site, pre⟩ :: os) acc K ⟨lvl, tm, hp⟩ := op1 (ws := [(b, { B with els := B.els.set a (e.take j ++ xAY v ++ e.drop (j + nn)) })]) (rd := [b]) h (xFV hx hy hb hl hz he hn hj hs) rfl hc hg
theorem xVQ {c x y : VX} {t : Bool} (h : Sq P nt dr os (acc ++ [([], [])]) K ⟨lvl, tput tm d v, hp⟩) (hb : ev (tget tm) c = some (.bool t) := by rfl) (ht : t = true := by first | rfl | assumption) (hx : ev (tget tm) x = some v := by rfl)  (hg : GOk g tm := by first | exact trivial | exact gT rfl (by first | rfl | assumption)) : Sq P nt dr (⟨d, .pick c x y, g, site, pre⟩ :: os) acc K ⟨lvl, tm, hp⟩ := op0 h (xUe hb ht hx) rfl hg
theorem xVR {c x y : VX} {t : Bool} (h : Sq P nt dr os (acc ++ [([], [])]) K ⟨lvl, tput tm d v, hp⟩) (hb : ev (tget tm) c = some (.bool t) := by rfl) (ht : t = false := by first | rfl | assumption) (hy : ev (tget tm) y = some v := by rfl)  (hg : GOk g tm := by first | exact trivial | exact gT rfl (by first | rfl | assumption)) : Sq P nt dr (⟨d, .pick c x y, g, site, pre⟩ :: os) acc K ⟨lvl, tm, hp⟩ := op0 h (xUf hb ht hy) rfl hg
theorem o_box {x : VX} {B : Blk} (h : Sq P nt dr os (acc ++ [([⟨lvl, site⟩], [])]) K ⟨lvl, tput tm d v, hset hp ⟨lvl, site⟩ B⟩) (hv : vop lvl site (tget tm) (hget hp) (.box x) = some ⟨v, [(⟨lvl, site⟩, B)], []⟩ := by rfl) (hc : dr = true → xAx pre ([⟨lvl, site⟩], []) 0 acc = true := by first | (intro h; cases h; done) | (intro _; kernel_rfl)) (hg : GOk g tm := by first | exact trivial | exact gT rfl (by first | rfl | assumption)) : Sq P nt dr (⟨d, .box x, g, site, pre⟩ :: os) acc K ⟨lvl, tm, hp⟩ := op1 (ws := [(⟨lvl, site⟩, B)]) (rd := []) h hv rfl hc hg
theorem xVZ {z : List PV} {B : Blk} (h : Sq P nt dr os (acc ++ [([⟨lvl, site⟩], [])]) K ⟨lvl, tput tm d v, hset hp ⟨lvl, site⟩ B⟩) (hv : vop lvl site (tget tm) (hget hp) (.alloc z) = some ⟨v, [(⟨lvl, site⟩, B)], []⟩ := by rfl) (hc : dr = true → xAx pre ([⟨lvl, site⟩], []) 0 acc = true := by first | (intro h; cases h; done) | (intro _; kernel_rfl)) (hg : GOk g tm := by first | exact trivial | exact gT rfl (by first | rfl | assumption)) : Sq P nt dr (⟨d, .alloc z, g, site, pre⟩ :: os) acc K ⟨lvl, tm, hp⟩ := op1 (ws := [(⟨lvl, site⟩, B)]) (rd := []) h hv rfl hc hg
theorem xSy {n m : Nat} {z : List PV} {ps : List (Nat × VX)} {B : Blk} (h : Sq P nt dr os (acc ++ [([⟨lvl, site⟩], [])]) K ⟨lvl, tput tm d v, hset hp ⟨lvl, site⟩ B⟩) (hv : vop lvl site (tget tm) (hget hp) (.bslice n z m ps) = some ⟨v, [(⟨lvl, site⟩, B)], []⟩ := by rfl) (hc : dr = true → xAx pre ([⟨lvl, site⟩], []) 0 acc = true := by first | (intro h; cases h; done) | (intro _; kernel_rfl)) (hg : GOk g tm := by first | exact trivial | exact gT rfl (by first | rfl | assumption)) : Sq P nt dr (⟨d, .bslice n z m ps, g, site, pre⟩ :: os) acc K ⟨lvl, tm, hp⟩ := op1 (ws := [(⟨lvl, site⟩, B)]) (rd := []) h hv rfl hc hg
theorem o_s2b {x : VX} {B : Blk} (h : Sq P nt dr os (acc ++ [([⟨lvl, site⟩], [])]) K ⟨lvl, tput tm d v, hset hp ⟨lvl, site⟩ B⟩) (hv : vop lvl site (tget tm) (hget hp) (.s2b x) = some ⟨v, [(⟨lvl, site⟩, B)], []⟩ := by rfl) (hc : dr = true → xAx pre ([⟨lvl, site⟩], []) 0 acc = true := by first | (intro h; cases h; done) | (intro _; kernel_rfl)) (hg : GOk g tm := by first | exact trivial | exact gT rfl (by first | rfl | assumption)) : Sq P nt dr (⟨d, .s2b x, g, site, pre⟩ :: os) acc K ⟨lvl, tm, hp⟩ := op1 (ws := [(⟨lvl, site⟩, B)]) (rd := []) h hv rfl hc hg
theorem o_v (hv : vop lvl site (tget tm) (hget hp) op = some ⟨v, ws, rd⟩) (h : Sq P nt dr os (acc ++ [(ws.map (·.1), rd)]) K ⟨lvl, tput tm d v, hput hp ws⟩) (hn : xDI op = true := by rfl) (hc : dr = true → xAx pre (ws.map (·.1), rd) 0 acc = true := by first | (intro h; cases h; done) | (intro _; kernel_rfl)) (hg : GOk g tm := by first | exact trivial | exact gT rfl (by first | rfl | assumption)) : Sq P nt dr (⟨d, op, g, site, pre⟩ :: os) acc K ⟨lvl, tm, hp⟩ := op1 h hv hn hc hg
theorem o_v0 (hv : vop lvl site (tget tm) (hget hp) op = some ⟨v, [], []⟩) (h : Sq P nt dr os (acc ++ [([], [])]) K ⟨lvl, tput tm d v, hp⟩) (hn : xDI op = true := by rfl) (hg : GOk g tm := by first | exact trivial | exact gT rfl (by first | rfl | assumption)) : Sq P nt dr (⟨d, op, g, site, pre⟩ :: os) acc K ⟨lvl, tm, hp⟩ := op0 h hv hn hg
variable {f : VX} {xs : List VX} {fid : Nat} {all qs : List PV} {rv : PV} {hout : List Blk}
theorem cv (h4 : VC P fid qs [] rv hout) (h : Sq P nt dr os (acc ++ [((named (xBT [] lvl site) 0 hout).map (·.1), rd)]) K ⟨lvl, tput tm d (mapV (xBT [] lvl site) rv), hput hp (named (xBT [] lvl site) 0 hout)⟩)
  (ht : Targ (tget tm) f xs fid all := by first | exact Targ.pl rfl rfl (Nat.le_of_ble_eq_true rfl) | exact Targ.mt rfl rfl rfl | exact Targ.bd rfl rfl) (h3 : xBe (hget hp) [] all = some (rd, qs) := by first | exact xCB | exact xAN (by first | exact xAZ rfl (by first | rfl | (simp; done) | (simp only [blkV, List.length_map, List.length_set, List.length_append, List.length_cons, List.length_nil]; omega)) | exact xAA rfl | exact xAA (Sl.closed (by assumption)) | exact xAA (by assumption) | rfl) xCB | exact xAN (by first | exact xAZ rfl (by first | rfl | (simp; done) | (simp only [blkV, List.length_map, List.length_set, List.length_append, List.length_cons, List.length_nil]; omega)) | exact xAA rfl | exact xAA (Sl.closed (by assumption)) | exact xAA (by assumption) | rfl) (xAN (by first | exact xAZ rfl (by first | rfl | (simp; done) | (simp only [blkV, List.length_map, List.length_set, List.length_append, List.length_cons, List.length_nil]; omega)) | exact xAA rfl | exact xAA (Sl.closed (by assumption)) | exact xAA (by assumption) | rfl) xCB) | exact xAN (by first | exact xAZ rfl (by first | rfl | (simp; done) | (simp only [blkV, List.length_map, List.length_set, List.length_append, List.length_cons, List.length_nil]; omega)) | exact xAA rfl | exact xAA (Sl.closed (by assumption)) | exact xAA (by assumption) | rfl) (xAN (by first | exact xAZ rfl (by first | rfl | (simp; done) | (simp only [blkV, List.length_map, List.length_set, List.length_append, List.length_cons, List.length_nil]; omega)) | exact xAA rfl | exact xAA (Sl.closed (by assumption)) | exact xAA (by assumption) | rfl) (xAN (by first | exact xAZ rfl (by first | rfl | (simp; done) | (simp only [blkV, List.length_map, List.length_set, List.length_append, List.length_cons, List.length_nil]; omega)) | exact xAA rfl | exact xAA (Sl.closed (by assumption)) | exact xAA (by assumption) | rfl) xCB)) | exact xAN (by first | exact xAZ rfl (by first | rfl | (simp; done) | (simp only [blkV, List.length_map, List.length_set, List.length_append, List.length_cons, List.length_nil]; omega)) | exact xAA rfl | exact xAA (Sl.closed (by assumption)) | exact xAA (by assumption) | rfl) (xAN (by first | exact xAZ rfl (by first | rfl | (simp; done) | (simp only [blkV, List.length_map, List.length_set, List.length_append, List.length_cons, List.length_nil]; omega)) | exact xAA rfl | exact xAA (Sl.closed (by assumption)) | exact xAA (by assumption) | rfl) (xAN (by first | exact xAZ rfl (by first | rfl | (simp; done) | (simp only [blkV, List.length_map, List.length_set, List.length_append, List.length_cons, List.length_nil]; omega)) | exact xAA rfl | exact xAA (Sl.closed (by assumption)) | exact xAA (by assumption) | rfl) (xAN (by first | exact xAZ rfl (by first | rfl | (simp; done) | (simp only [blkV, List.length_map, List.length_set, List.length_append, List.length_cons, List.length_nil]; omega)) | exact xAA rfl | exact xAA (Sl.closed (by assumption)) | exact xAA (by assumption) | rfl) xCB))) | exact xAN (by first | exact xAZ rfl (by first | rfl | (simp; done) | (simp only [blkV, List.length_map, List.length_set, List.length_append, List.length_cons, List.length_nil]; omega)) | exact xAA rfl | exact xAA (Sl.closed (by assumption)) | exact xAA (by assumption) | rfl) (xAN (by first | exact xAZ rfl (by first | rfl | (simp; done) | (simp only [blkV, List.length_map, List.length_set, List.length_append, List.length_cons, List.length_nil]; omega)) | exact xAA rfl | exact xAA (Sl.closed (by assumption)) | exact xAA (by assumption) | rfl) (xAN (by first | exact xAZ rfl (by first | rfl | (simp; done) | (simp only [blkV, List.length_map, List.length_set, List.length_append, List.length_cons, List.length_nil]; omega)) | exact xAA rfl | exact xAA (Sl.closed (by assumption)) | exact xAA (by assumption) | rfl) (xAN (by first | exact xAZ rfl (by first | rfl | (simp; done) | (simp only [blkV, List.length_map, List.length_set, List.length_append, List.length_cons, List.length_nil]; omega)) | exact xAA rfl | exact xAA (Sl.closed (by assumption)) | exact xAA (by assumption) | rfl) (xAN (by first | exact xAZ rfl (by first | rfl | (simp; done) | (simp only [blkV, List.length_map, List.length_set, List.length_append, List.length_cons, List.length_nil]; omega)) | exact xAA rfl | exact xAA (Sl.closed (by assumption)) | exact xAA (by assumption) | rfl) xCB)))) | exact xAN (by first | exact xAZ rfl (by first | rfl | (simp; done) | (simp only [blkV, List.length_map, List.length_set, List.length_append, List.length_cons, List.length_nil]; omega)) | exact xAA rfl | exact xAA (Sl.closed (by assumption)) | exact xAA (by assumption) | rfl) (xAN (by first | exact xAZ rfl (by first | rfl | (simp; done) | (simp only [blkV, List.length_map, List.length_set, List.length_append, List.length_cons, List.length_nil]; omega)) | exact xAA rfl | exact xAA (Sl.closed (by assumption)) | exact xAA (by assumption) | rfl) (xAN (by first | exact xAZ rfl (by first | rfl | (simp; done) | (simp only [blkV, List.length_map, List.length_set, List.length_append, List.length_cons, List.length_nil]; omega)) | exact xAA rfl | exact xAA (Sl.closed (by assumption)) | exact xAA (by assumption) | rfl) (xAN (by first | exact xAZ rfl (by first | rfl | (simp; done) | (simp only [blkV, List.length_map, List.length_set, List.length_append, List.length_cons, List.length_nil]; omega)) | exact xAA rfl | exact xAA (Sl.closed (by assumption)) | exact xAA (by assumption) | rfl) (xAN (by first | exact xAZ rfl (by first | rfl | (simp; done) | (simp only [blkV, List.length_map, List.length_set, List.length_append, List.length_cons, List.length_nil]; omega)) | exact xAA rfl | exact xAA (Sl.closed (by assumption)) | exact xAA (by assumption) | rfl) (xAN (by first | exact xAZ rfl (by first | rfl | (simp; done) | (simp only [blkV, List.length_map, List.length_set, List.length_append, List.length_cons, List.length_nil]; omega)) | exact xAA rfl | exact xAA (Sl.closed (by assumption)) | exact xAA (by assumption) | rfl) xCB))))))
  (h5 : xJJ (hget hp) lvl site hout.length := by first | exact trivial | exact xGF rfl) (h6 : xM8 rv hout := by first | exact xL9 rfl | exact xRk (by intro a; simp [cS, cN, clean]) | exact xL8 rfl (by assumption)) (hc : dr = true → xAx pre ((named (xBT [] lvl site) 0 hout).map (·.1), rd) 0 acc = true := by first | (intro h; cases h; done) | (intro _; kernel_rfl)) (hg : GOk g tm := by first | exact trivial | exact gT rfl (by first | rfl | assumption)) : Sq P nt dr (⟨d, .call f xs, g, site, pre⟩ :: os) acc K ⟨lvl, tm, hp⟩ :=
  opC h (xUR ht h3 h4 h5 h6) hc hg
theorem cv0 (h4 : VC P fid qs [] rv []) (h : Sq P nt dr os (acc ++ [([], rd)]) K ⟨lvl, tput tm d (mapV (xBT [] lvl site) rv), hp⟩)
  (ht : Targ (tget tm) f xs fid all := by first | exact Targ.pl rfl rfl (Nat.le_of_ble_eq_true rfl) | exact Targ.mt rfl rfl rfl | exact Targ.bd rfl rfl) (h3 : xBe (hget hp) [] all = some (rd, qs) := by first | exact xCB | exact xAN (by first | exact xAZ rfl (by first | rfl | (simp; done) | (simp only [blkV, List.length_map, List.length_set, List.length_append, List.length_cons, List.length_nil]; omega)) | exact xAA rfl | exact xAA (Sl.closed (by assumption)) | exact xAA (by assumption) | rfl) xCB | exact xAN (by first | exact xAZ rfl (by first | rfl | (simp; done) | (simp only [blkV, List.length_map, List.length_set, List.length_append, List.length_cons, List.length_nil]; omega)) | exact xAA rfl | exact xAA (Sl.closed (by assumption)) | exact xAA (by assumption) | rfl) (xAN (by first | exact xAZ rfl (by first | rfl | (simp; done) | (simp only [blkV, List.length_map, List.length_set, List.length_append, List.length_cons, List.length_nil]; omega)) | exact xAA rfl | exact xAA (Sl.closed (by assumption)) | exact xAA (by assumption) | rfl) xCB) | exact xAN (by first | exact xAZ rfl (by first | rfl | (simp; done) | (simp only [blkV, List.length_map, List.length_set, List.length_append, List.length_cons, List.length_nil]; omega)) | exact xAA rfl | exact xAA (Sl.closed (by assumption)) | exact xAA (by assumption) | rfl) (xAN (by first | exact xAZ rfl (by first | rfl | (simp; done) | (simp only [blkV, List.length_map, List.length_set, List.length_append, List.length_cons, List.length_nil]; omega)) | exact xAA rfl | exact xAA (Sl.closed (by assumption)) | exact xAA (by assumption) | rfl) (xAN (by first | exact xAZ rfl (by first | rfl | (simp; done) | (simp only [blkV, List.length_map, List.length_set, List.length_append, List.length_cons, List.length_nil]; omega)) | exact xAA rfl | exact xAA (Sl.closed (by assumption)) | exact xAA (by assumption) | rfl) xCB)) | exact xAN (by first | exact xAZ rfl (by first | rfl | (simp; done) | (simp only [blkV, List.length_map, List.length_set, List.length_append, List.length_cons, List.length_nil]; omega)) | exact xAA rfl | exact xAA (Sl.closed (by assumption)) | exact xAA (by assumption) | rfl) (xAN (by first | exact xAZ rfl (by first | rfl | (simp; done) | (simp only [blkV, List.length_map, List.length_set, List.length_append, List.length_cons, List.length_nil]; omega)) | exact xAA rfl | exact xAA (Sl.closed (by assumption)) | exact xAA (by assumption) | rfl) (xAN (by first | exact xAZ rfl (by first | rfl | (simp; done) | (simp only [blkV, List.length_map, List.length_set, List.length_append, List.length_cons, List.length_nil]; omega)) | exact xAA rfl | exact xAA (Sl.closed (by assumption)) | exact xAA (by assumption) | rfl) (xAN (by first | exact xAZ rfl (by first | rfl | (simp; done) | (simp only [blkV, List.length_map, List.length_set, List.length_append, List.length_cons, List.length_nil]; omega)) | exact xAA rfl | exact xAA (Sl.closed (by assumption)) | exact xAA (by assumption) | rfl) xCB))) | exact xAN (by first | exact xAZ rfl (by first | rfl | (simp; done) | (simp only [blkV, List.length_map, List.length_set, List.length_append, List.length_cons, List.length_nil]; omega)) | exact xAA rfl | exact xAA (Sl.closed (by assumption)) | exact xAA (by assumption) | rfl) (xAN (by first | exact xAZ rfl (by first | rfl | (simp; done) | (simp only [blkV, List.length_map, List.length_set, List.length_append, List.length_cons, List.length_nil]; omega)) | exact xAA rfl | exact xAA (Sl.closed (by assumption)) | exact xAA (by assumption) | rfl) (xAN (by first | exact xAZ rfl (by first | rfl | (simp; done) | (simp only [blkV, List.length_map, List.length_set, List.length_append, List.length_cons, List.length_nil]; omega)) | exact xAA rfl | exact xAA (Sl.closed (by assumption)) | exact xAA (by assumption) | rfl) (xAN (by first | exact xAZ rfl (by first | rfl | (simp; done) | (simp only [blkV, List.length_map, List.length_set, List.length_append, List.length_cons, List.length_nil]; omega)) | exact xAA rfl | exact xAA (Sl.closed (by assumption)) | exact xAA (by assumption) | rfl) (xAN (by first | exact xAZ rfl (by first | rfl | (simp; done) | (simp only [blkV, List.length_map, List.length_set, List.length_append, List.length_cons, List.length_nil]; omega)) | exact xAA rfl | exact xAA (Sl.closed (by assumption)) | exact xAA (by assumption) | rfl) xCB)))) | exact xAN (by first | exact xAZ rfl (by first | rfl | (simp; done) | (simp only [blkV, List.length_map, List.length_set, List.length_append, List.length_cons, List.length_nil]; omega)) | exact xAA rfl | exact xAA (Sl.closed (by assumption)) | exact xAA (by assumption) | rfl) (xAN (by first | exact xAZ rfl (by first | rfl | (simp; done) | (simp only [blkV, List.length_map, List.length_set, List.length_append, List.length_cons, List.length_nil]; omega)) | exact xAA rfl | exact xAA (Sl.closed (by assumption)) | exact xAA (by assumption) | rfl) (xAN (by first | exact xAZ rfl (by first | rfl | (simp; done) | (simp only [blkV, List.length_map, List.length_set, List.length_append, List.length_cons, List.length_nil]; omega)) | exact xAA rfl | exact xAA (Sl.closed (by assumption)) | exact xAA (by assumption) | rfl) (xAN (by first | exact xAZ rfl (by first | rfl | (simp; done) | (simp only [blkV, List.length_map, List.length_set, List.length_append, List.length_cons, List.length_nil]; omega)) | exact xAA rfl | exact xAA (Sl.closed (by assumption)) | exact xAA (by assumption) | rfl) (xAN (by first | exact xAZ rfl (by first | rfl | (simp; done) | (simp only [blkV, List.length_map, List.length_set, List.length_append, List.length_cons, List.length_nil]; omega)) | exact xAA rfl | exact xAA (Sl.closed (by assumption)) | exact xAA (by assumption) | rfl) (xAN (by first | exact xAZ rfl (by first | rfl | (simp; done) | (simp only [blkV, List.length_map, List.length_set, List.length_append, List.length_cons, List.length_nil]; omega)) | exact xAA rfl | exact xAA (Sl.closed (by assumption)) | exact xAA (by assumption) | rfl) xCB))))))
  (h6 : cV rv = true := by rfl) (hc : dr = true → xAx pre ([], rd) 0 acc = true := by first | (intro h; cases h; done) | (intro _; kernel_rfl)) (hg : GOk g tm := by first | exact trivial | exact gT rfl (by first | rfl | assumption)) : Sq P nt dr (⟨d, .call f xs, g, site, pre⟩ :: os) acc K ⟨lvl, tm, hp⟩ :=
  opC (ws := []) (rd := rd) h (by have := xUR (lvl := lvl) (site := site) ht h3 h4 trivial (xL9 h6); exact this) hc hg
theorem cf (h4 : VC P fid qs [] rv hout) (h : Sq P nt dr os (acc ++ [((frozen (hget hp) rd ++ named (xBT [] lvl site) 0 hout).map (·.1), rd)]) K ⟨lvl, tput tm d (mapV (xBT [] lvl site) rv), hput hp (frozen (hget hp) rd ++ named (xBT [] lvl site) 0 hout)⟩)
  (ht : Targ (tget tm) f xs fid all := by first | exact Targ.pl rfl rfl (Nat.le_of_ble_eq_true rfl) | exact Targ.mt rfl rfl rfl | exact Targ.bd rfl rfl) (h3 : xBe (hget hp) [] all = some (rd, qs) := by first | exact xCB | exact xAN (by first | exact xAZ rfl (by first | rfl | (simp; done) | (simp only [blkV, List.length_map, List.length_set, List.length_append, List.length_cons, List.length_nil]; omega)) | exact xAA rfl | exact xAA (Sl.closed (by assumption)) | exact xAA (by assumption) | rfl) xCB | exact xAN (by first | exact xAZ rfl (by first | rfl | (simp; done) | (simp only [blkV, List.length_map, List.length_set, List.length_append, List.length_cons, List.length_nil]; omega)) | exact xAA rfl | exact xAA (Sl.closed (by assumption)) | exact xAA (by assumption) | rfl) (xAN (by first | exact xAZ rfl (by first | rfl | (simp; done) | (simp only [blkV, List.length_map, List.length_set, List.length_append, List.length_cons, List.length_nil]; omega)) | exact xAA rfl | exact xAA (Sl.closed (by assumption)) | exact xAA (by assumption) | rfl) xCB) | exact xAN (by first | exact xAZ rfl (by first | rfl | (simp; done) | (simp only [blkV, List.length_map, List.length_set, List.length_append, List.length_cons, List.length_nil]; omega)) | exact xAA rfl | exact xAA (Sl.closed (by assumption)) | exact xAA (by assumption) | rfl) (xAN (by first | exact xAZ rfl (by first | rfl | (simp; done) | (simp only [blkV, List.length_map, List.length_set, List.length_append, List.length_cons, List.length_nil]; omega)) | exact xAA rfl | exact xAA (Sl.closed (by assumption)) | exact xAA (by assumption) | rfl) (xAN (by first | exact xAZ rfl (by first | rfl | (simp; done) | (simp only [blkV, List.length_map, List.length_set, List.length_append, List.length_cons, List.length_nil]; omega)) | exact xAA rfl | exact xAA (Sl.closed (by assumption)) | exact xAA (by assumption) | rfl) xCB)) | exact xAN (by first | exact xAZ rfl (by first | rfl | (simp; done) | (simp only [blkV, List.length_map, List.length_set, List.length_append, List.length_cons, List.length_nil]; omega)) | exact xAA rfl | exact xAA (Sl.closed (by assumption)) | exact xAA (by assumption) | rfl) (xAN (by first | exact xAZ rfl (by first | rfl | (simp; done) | (simp only [blkV, List.length_map, List.length_set, List.length_append, List.length_cons, List.length_nil]; omega)) | exact xAA rfl | exact xAA (Sl.closed (by assumption)) | exact xAA (by assumption) | rfl) (xAN (by first | exact xAZ rfl (by first | rfl | (simp; done) | (simp only [blkV, List.length_map, List.length_set, List.length_append, List.length_cons, List.length_nil]; omega)) | exact xAA rfl | exact xAA (Sl.closed (by assumption)) | exact xAA (by assumption) | rfl) (xAN (by first | exact xAZ rfl (by first | rfl | (simp; done) | (simp only [blkV, List.length_map, List.length_set, List.length_append, List.length_cons, List.length_nil]; omega)) | exact xAA rfl | exact xAA (Sl.closed (by assumption)) | exact xAA (by assumption) | rfl) xCB))) | exact xAN (by first | exact xAZ rfl (by first | rfl | (simp; done) | (simp only [blkV, List.length_map, List.length_set, List.length_append, List.length_cons, List.length_nil]; omega)) | exact xAA rfl | exact xAA (Sl.closed (by assumption)) | exact xAA (by assumption) | rfl) (xAN (by first | exact xAZ rfl (by first | rfl | (simp; done) | (simp only [blkV, List.length_map, List.length_set, List.length_append, List.length_cons, List.length_nil]; omega)) | exact xAA rfl | exact xAA (Sl.closed (by assumption)) | exact xAA (by assumption) | rfl) (xAN (by first | exact xAZ rfl (by first | rfl | (simp; done) | (simp only [blkV, List.length_map, List.length_set, List.length_append, List.length_cons, List.length_nil]; omega)) | exact xAA rfl | exact xAA (Sl.closed (by assumption)) | exact xAA (by assumption) | rfl) (xAN (by first | exact xAZ rfl (by first | rfl | (simp; done) | (simp only [blkV, List.length_map, List.length_set, List.length_append, List.length_cons, List.length_nil]; omega)) | exact xAA rfl | exact xAA (Sl.closed (by assumption)) | exact xAA (by assumption) | rfl) (xAN (by first | exact xAZ rfl (by first | rfl | (simp; done) | (simp only [blkV, List.length_map, List.length_set, List.length_append, List.length_cons, List.length_nil]; omega)) | exact xAA rfl | exact xAA (Sl.closed (by assumption)) | exact xAA (by assumption) | rfl) xCB)))) | exact xAN (by first | exact xAZ rfl (by first | rfl | (simp; done) | (simp only [blkV, List.length_map, List.length_set, List.length_append, List.length_cons, List.length_nil]; omega)) | exact xAA rfl | exact xAA (Sl.closed (by assumption)) | exact xAA (by assumption) | rfl) (xAN (by first | exact xAZ rfl (by first | rfl | (simp; done) | (simp only [blkV, List.length_map, List.length_set, List.length_append, List.length_cons, List.length_nil]; omega)) | exact xAA rfl | exact xAA (Sl.closed (by assumption)) | exact xAA (by assumption) | rfl) (xAN (by first | exact xAZ rfl (by first | rfl | (simp; done) | (simp only [blkV, List.length_map, List.length_set, List.length_append, List.length_cons, List.length_nil]; omega)) | exact xAA rfl | exact xAA (Sl.closed (by assumption)) | exact xAA (by assumption) | rfl) (xAN (by first | exact xAZ rfl (by first | rfl | (simp; done) | (simp only [blkV, List.length_map, List.length_set, List.length_append, List.length_cons, List.length_nil]; omega)) | exact xAA rfl | exact xAA (Sl.closed (by assumption)) | exact xAA (by assumption) | rfl) (xAN (by first | exact xAZ rfl (by first | rfl | (simp; done) | (simp only [blkV, List.length_map, List.length_set, List.length_append, List.length_cons, List.length_nil]; omega)) | exact xAA rfl | exact xAA (Sl.closed (by assumption)) | exact xAA (by assumption) | rfl) (xAN (by first | exact xAZ rfl (by first | rfl | (simp; done) | (simp only [blkV, List.length_map, List.length_set, List.length_append, List.length_cons, List.length_nil]; omega)) | exact xAA rfl | exact xAA (Sl.closed (by assumption)) | exact xAA (by assumption) | rfl) xCB))))))
  (h5 : xJJ (hget hp) lvl site hout.length := by first | exact trivial | exact xGF rfl) (hc : dr = true → xAx pre ((frozen (hget hp) rd ++ named (xBT [] lvl site) 0 hout).map (·.1), rd) 0 acc = true := by first | (intro h; cases h; done) | (intro _; kernel_rfl)) (hg : GOk g tm := by first | exact trivial | exact gT rfl (by first | rfl | assumption)) : Sq P nt dr (⟨d, .call f xs, g, site, pre⟩ :: os) acc K ⟨lvl, tm, hp⟩ :=
  opC h (call_f ht h3 h4 h5) hc hg
theorem cl {lent : List Bid} {hin : List Blk} (h4 : VC P fid qs hin rv hout) (h : Sq P nt dr os (acc ++ [((named (xBT lent lvl site) 0 hout).map (·.1), lent)]) K ⟨lvl, tput tm d (mapV (xBT lent lvl site) rv), hput hp (named (xBT lent lvl site) 0 hout)⟩)
  (ht : Targ (tget tm) f xs fid all := by first | exact Targ.pl rfl rfl (Nat.le_of_ble_eq_true rfl) | exact Targ.mt rfl rfl rfl | exact Targ.bd rfl rfl) (h3 : xBe (hget hp) lent all = some ([], qs) := by rfl) (h0 : xCM (hget hp) lent lent = some hin := by rfl) (hn : lent.Nodup := by decide)
  (h5 : xJJ (hget hp) lvl site (hout.length - lent.length) := by first | exact trivial | exact xGF rfl) (hc : dr = true → xAx pre ((named (xBT lent lvl site) 0 hout).map (·.1), lent) 0 acc = true := by first | (intro h; cases h; done) | (intro _; kernel_rfl)) (hg : GOk g tm := by first | exact trivial | exact gT rfl (by first | rfl | assumption)) : Sq P nt dr (⟨d, .call f xs, g, site, pre⟩ :: os) acc K ⟨lvl, tm, hp⟩ :=
  opC h (call_l lent ht h3 h0 hn h4 h5) hc hg
theorem cxt {rd0 : List Bid} (h4 : XC P (hget hp) fid all rv rd0) (h : Sq P nt dr os (acc ++ [([], rd0)]) K ⟨lvl, tput tm d rv, hp⟩)
  (ht : Targ (tget tm) f xs fid all := by first | exact Targ.pl rfl rfl (Nat.le_of_ble_eq_true rfl) | exact Targ.mt rfl rfl rfl | exact Targ.bd rfl rfl) (hc : dr = true → xAx pre ([], rd0) 0 acc = true := by first | (intro h; cases h; done) | (intro _; kernel_rfl)) (hg : GOk g tm := by first | exact trivial | exact gT rfl (by first | rfl | assumption)) : Sq P nt dr (⟨d, .call f xs, g, site, pre⟩ :: os) acc K ⟨lvl, tm, hp⟩ :=
  opC (ws := []) (rd := rd0) h (call_x ht h4) hc hg
end
section
variable {P : Program} {nt : Nat} {os : List VOper} {K : St → Prop} {lvl : Nat} {tm tm' : Tmps} {hp hp' : Heap} {d : Option Nat} {op : VOp} {site : Nat} {pre : List Nat} {acc : List Foot} {x : VCode} {Q : Exit → St → Prop}
theorem goes (h1 : xJD tm tm' := by repeat' first | exact trivial | apply And.intro | rfl | (simp; done))
  (h2 : xFq hp hp' := by repeat' first | exact trivial | apply And.intro | rfl | (simp; done))
  (h3 : xM6 hp' tm' := by repeat' first | exact trivial | apply And.intro | exact xF2 | exact xNf rfl | exact xA8 rfl | exact xA8 (Sl.closed (by assumption)) | exact xA8 (by assumption))
  (h4 : xJA hp' hp' := by repeat' first | exact trivial | apply And.intro | exact xF2 | exact xNf rfl | exact xA8 rfl)
  (h5 : xGB hp' hp := by repeat' first | exact trivial | apply And.intro | (intro h; first | exact absurd h (by decide) | rfl)) : Imp ⟨lvl, tm, hp⟩ ⟨lvl, tm', hp'⟩ := Imp.to h1 h2 h3 h4 h5
def xVk {G : Type} (T : G → Tmps) (H : G → Heap) (M : G → Nat) (R : G → Prop) (lvl : Nat) (g : G) (Q : Exit → St → Prop) : Exit → St → Prop
  | .normal, s => ∃ g', M g' < M g ∧ R g' ∧ Imp s ⟨lvl, T g', H g'⟩
  | e, s => Q e s
theorem xAE {G : Type} (T : G → Tmps) (H : G → Heap) (M : G → Nat) (R : G → Prop) (g0 : G) (hi : Imp ⟨lvl, tm, hp⟩ ⟨lvl, T g0, H g0⟩) (h0 : R g0) (h : ∀ g, R g → CT P nt x (xVk T H M R lvl g Q) ⟨lvl, T g, H g⟩) : CT P nt (.loop x) Q ⟨lvl, tm, hp⟩ := by
  refine xD7 hi (xRY (fun n s => ∃ g, M g = n ∧ R g ∧ s = ⟨lvl, T g, H g⟩) (M g0) ⟨g0, rfl, h0, rfl⟩ ?_)
  rintro n s ⟨g, rfl, hR, rfl⟩
  refine xMx (h g hR) fun e s' hq => ?_
  cases e with
  | normal =>
    obtain ⟨g', h1, h2, h3⟩ := hq
    exact ⟨M g', h1, _, h3, g', rfl, h2, rfl⟩
  | _ => exact hq
theorem xHO {G : Type} {T : G → Tmps} {H : G → Heap} {M : G → Nat} {R : G → Prop} {g : G} {s : St} (g' : G) (h1 : M g' < M g) (h2 : R g') (h3 : Imp s ⟨lvl, T g', H g'⟩) : xVk T H M R lvl g Q .normal s := ⟨g', h1, h2, h3⟩
theorem agn {G : Type} {T : G → Tmps} {H : G → Heap} {M : G → Nat} {R : G → Prop} {g : G} {s : St} (g' : G) (h2 : R g') (h3 : Imp s ⟨lvl, T g', H g'⟩) (h1 : M g' < M g := by first | omega | (simp only; omega)) : xVk T H M R lvl g Q .normal s := ⟨g', h1, h2, h3⟩
theorem cnd {c : VX} {y : VCode} {t : Bool} {s : St} (h1 : t = true → CT P nt x Q s) (h2 : t = false → CT P nt y Q s) (hb : ev (tget s.tmps) c = some (.bool t) := by rfl) : CT P nt (.cond c x y) Q s := xIs hb h1 h2
theorem cndt {c : VX} {y : VCode} {t : Bool} {s : St} (h1 : CT P nt x Q s) (hb : ev (tget s.tmps) c = some (.bool t) := by rfl) (ht : t = true := by first | rfl | assumption) : CT P nt (.cond c x y) Q s := xIs hb (fun _ => h1) (fun h => by rw [ht] at h; cases h)
theorem cndf {c : VX} {y : VCode} {t : Bool} {s : St} (h1 : CT P nt y Q s) (hb : ev (tget s.tmps) c = some (.bool t) := by rfl) (ht : t = false := by first | rfl | assumption) : CT P nt (.cond c x y) Q s := xIs hb (fun h => by rw [ht] at h; cases h) (fun _ => h1)
theorem o1 {s : St} {t : Nat} {v u : PV} (he : u = v) (h : tget s.tmps t = some u := by rfl) (hc : closed v = true := by first | rfl | assumption) : Out [.tmp t] 0 v [] s := out1 h he hc
theorem oOwn {s : St} {t esz nn : Nat} {b : Bid} {els els' : List (List PV)} (he : els' = els) (h : tget s.tmps t = some (.own b nn 0 nn) := by rfl) (hb : hget s.heap b = some (blkV esz els') := by rfl) (hnn : nn = els'.length := by first | rfl | (simp; done) | (simp only [blkV, List.length_map, List.length_set, List.length_append, List.length_cons, List.length_nil]; omega)) (hl : b.lvl ≠ 0 := by exact (by decide)) : Out [.tmp t] 0 (ownV ⟨0, 0⟩ els) [blkV esz els] s := by
  subst he
  subst hnn
  exact xKM h hb rfl hl
end
theorem xVg {σ : Bid → Bid} {p : PV} (h : xBR p = []) : mapN σ p = p := by
  cases p <;> first
    | rfl
    | (simp [xBR] at h)
theorem xHW {σ : Bid → Bid} : ∀ {l : List PV}, l.flatMap xBR = [] → l.map (mapN σ) = l
  | [], _ => rfl
  | p :: l, h => by
    simp only [List.flatMap_cons, List.append_eq_nil_iff] at h
    simp only [List.map_cons, xVg h.1, xHW h.2]
theorem xMp {σ : Bid → Bid} {p : PV} (h : xBl p = []) : mapS σ p = p := by
  cases p <;> first
    | rfl
    | (simp [xBl, xBR] at h; done)
    | (simp only [mapS]; rw [xHW h])
theorem xKR {σ : Bid → Bid} : ∀ {l : List PV}, l.flatMap xBl = [] → l.map (mapS σ) = l
  | [], _ => rfl
  | p :: l, h => by
    simp only [List.flatMap_cons, List.append_eq_nil_iff] at h
    simp only [List.map_cons, xMp h.1, xKR h.2]
theorem xVi {σ : Bid → Bid} {p : PV} (h : xCs p = []) : mapA σ p = p := by
  cases p <;> first
    | rfl
    | (simp [xCs, xBl, xBR] at h; done)
    | (simp only [mapA, mapS]; rw [xHW h])
    | (simp only [mapA]; rw [xKR h])
theorem xNm {σ : Bid → Bid} : ∀ {l : List PV}, l.flatMap xCs = [] → l.map (mapA σ) = l
  | [], _ => rfl
  | p :: l, h => by
    simp only [List.flatMap_cons, List.append_eq_nil_iff] at h
    simp only [List.map_cons, xVi h.1, xNm h.2]
theorem xIJ {σ : Bid → Bid} {p : PV} (h : xBQ p = []) : mapV σ p = p := by
  cases p <;> first
    | rfl
    | (simp [xBQ, xCs, xBl, xBR] at h; done)
    | (simp only [mapV, mapA, mapS]; rw [xHW h])
    | (simp only [mapV, mapA]; rw [xKR h])
    | (simp only [mapV]; rw [xNm h])
theorem okN_no {n : Nat} {p : PV} (h : xBR p = []) : okN n p = true := by
  cases p <;> first
    | rfl
    | (simp [xBR] at h)
theorem xKP {n : Nat} : ∀ {l : List PV}, l.flatMap xBR = [] → l.all (okN n) = true
  | [], _ => rfl
  | p :: l, h => by
    simp only [List.flatMap_cons, List.append_eq_nil_iff] at h
    simp only [List.all_cons, okN_no h.1, xKP h.2, Bool.and_self]
theorem xQW {n : Nat} {p : PV} (h : xBl p = []) : okS n p = true := by
  cases p <;> first
    | rfl
    | (simp [xBl, xBR] at h; done)
    | exact xKP h
theorem xMj {n : Nat} : ∀ {l : List PV}, l.flatMap xBl = [] → l.all (okS n) = true
  | [], _ => rfl
  | p :: l, h => by
    simp only [List.flatMap_cons, List.append_eq_nil_iff] at h
    simp only [List.all_cons, xQW h.1, xMj h.2, Bool.and_self]
theorem okA_no {n : Nat} {p : PV} (h : xCs p = []) : okA n p = true := by
  cases p <;> first
    | rfl
    | (simp [xCs, xBl, xBR] at h; done)
    | exact xKP h
    | exact xMj h
theorem xQX {n : Nat} : ∀ {l : List PV}, l.flatMap xCs = [] → l.all (okA n) = true
  | [], _ => rfl
  | p :: l, h => by
    simp only [List.flatMap_cons, List.append_eq_nil_iff] at h
    simp only [List.all_cons, okA_no h.1, xQX h.2, Bool.and_self]
theorem xNb {n : Nat} {p : PV} (h : xBQ p = []) : okV n p = true := by
  cases p <;> first
    | rfl
    | (simp [xBQ, xCs, xBl, xBR] at h; done)
    | exact xKP h
    | exact xMj h
    | exact xQX h
theorem oAny {rs : List RV} {s : St} {v : PV} {ps : List PV} (hp : pack ps = v) (h : rdT (tget s.tmps) (hget s.heap) rs = some ps := by rfl) (hn : xBQ v = [] := by rfl) : Out rs 0 v [] s :=
  ⟨[], List.nodup_nil, fun b hb => (by cases hb), rfl, trivial, xNb hn, ps, h, by rw [xIJ hn]; exact hp⟩
def xM7 (σ : Bid → Bid) (tm : Tmps) : Tmps → Prop
  | [] => True
  | (t, v) :: r => (tget tm t).map (mapV σ) = some v ∧ xM7 σ tm r
def xKu (σ : Bid → Bid) (h : Heap) : Heap → Prop
  | [] => True
  | (b, B) :: r => (hget h (σ b)).map (mapB σ) = some B ∧ xKu σ h r
theorem xJ0 {σ : Bid → Bid} {tm : Tmps} : ∀ {l : Tmps}, xM7 σ tm l → xJD (renT σ tm) l
  | [], _ => trivial
  | (t, v) :: r, h => ⟨(xFs σ tm t).trans h.1, xJ0 h.2⟩
theorem xJC {b c : Bid} {hp : Heap} : ∀ {l : Heap}, xKu (xFH b c) hp l → xFq (renH (xFH b c) hp) l
  | [], _ => trivial
  | (x, B) :: r, h => by
    refine ⟨?_, xJC h.2⟩
    have := xIe (xHr b c) hp (xFH b c x)
    rw [xHr] at this
    exact this.trans h.1
theorem xJh {b c : Bid} (hb : b.lvl ≠ 0) (hc : c.lvl ≠ 0) {hp' : Heap} : ∀ {l : Heap}, xGB hp' l → xGB hp' (renH (xFH b c) l)
  | [], _ => trivial
  | (x, B) :: r, h => by
    refine ⟨fun h0 => ?_, xJh hb hc h.2⟩
    have hx : xFH b c x = x := by
      unfold xFH at h0 ⊢
      by_cases h1 : x = b
      · rw [if_pos h1] at h0; exact absurd h0 hc
      · rw [if_neg h1] at h0 ⊢
        by_cases h2 : x = c
        · rw [if_pos h2] at h0; exact absurd h0 hb
        · rw [if_neg h2]
    rw [hx] at h0 ⊢
    exact h.1 h0
theorem xT2 {σ : Bid → Bid} {tm : Tmps} {t : Nat} {q : PV} (hq : closed q = true) (h : tget tm t = some q) : (tget tm t).map (mapV σ) = some q := by
  rw [h, Option.map_some, xIJ (xG5 hq)]
theorem xTX (b c : Bid) {lvl : Nat} {tm tm' : Tmps} {hp hp' : Heap}
  (h1 : xM7 (xFH b c) tm tm' := by repeat' first | exact trivial | apply And.intro | rfl | exact xT2 (Sl.closed (by assumption)) rfl | exact xT2 (by assumption) rfl | (simp; done))
  (h2 : xKu (xFH b c) hp hp' := by repeat' first | exact trivial | apply And.intro | rfl | (simp; done))
  (h3 : xM6 hp' tm' := by repeat' first | exact trivial | apply And.intro | exact xF2 | exact xNf rfl | exact xA8 rfl | exact xA8 (Sl.closed (by assumption)) | exact xA8 (by assumption))
  (h4 : xJA hp' hp' := by repeat' first | exact trivial | apply And.intro | exact xF2 | exact xNf rfl | exact xA8 rfl)
  (h5 : xGB hp' hp := by repeat' first | exact trivial | apply And.intro | (intro h; first | exact absurd h (by decide) | rfl))
  (hb : b.lvl ≠ 0 := by exact (by decide)) (hc : c.lvl ≠ 0 := by exact (by decide)) : Imp ⟨lvl, tm, hp⟩ ⟨lvl, tm', hp'⟩ :=
  (Imp.ren (s := ⟨lvl, tm, hp⟩) hb hc).trans (Imp.to (xJ0 h1) (xJC h2) h3 h4 (xJh hb hc h5))
theorem oB {s : St} {t : Nat} {b b' : Bool} (he : b = b') (h : tget s.tmps t = some (.bool b) := by rfl) : Out [.tmp t] 0 (.bool b') [] s := o1 (congrArg PV.bool he) h rfl
theorem oI {s : St} {t : Nat} {k : IntKind} {b b' : Int} (he : b = b') (h : tget s.tmps t = some (.int k b) := by rfl) : Out [.tmp t] 0 (.int k b') [] s := o1 (congrArg (PV.int k) he) h rfl
theorem oS {s : St} {t : Nat} {b b' : List UInt8} (he : b = b') (h : tget s.tmps t = some (.str b) := by rfl) : Out [.tmp t] 0 (.str b') [] s := o1 (congrArg PV.str he) h rfl
theorem oC {s : St} {n t : Nat} {cs cs' : List PV} (he : cs = cs') (h : rdR (tget s.tmps) (hget s.heap) (.cell true n t) = some (.agg cs) := by rfl) (hn : xBQ (.agg cs') = [] := by rfl) : Out [.cell true n t] 0 (.agg cs') [] s := by
  subst he
  exact oAny (ps := [.agg cs]) rfl (by simp only [rdT, h]; rfl) hn
theorem oSB {s : St} {t u : Nat} {a a' : List UInt8} {b b' : Bool} (he : (a, b) = (a', b')) (h : tget s.tmps t = some (.str a) := by rfl) (h2 : tget s.tmps u = some (.bool b) := by rfl) : Out [.tmp t, .tmp u] 0 (.tup [.str a', .bool b']) [] s := by
  cases he
  exact oAny (ps := [.str a, .bool b]) rfl (by simp only [rdT, rdR, h, h2]; rfl) rfl
theorem bq {id : Nat} {Q : Exit → St → Prop} {s : St} (h : Q .normal s) : xI7 id Q .normal s := h
def rtQ (P : Program) (nt : Nat) (x : VCode) (Q : Exit → St → Prop) : Nat → Exit → St → Prop
  | 0, .normal, _ => False
  | n + 1, .normal, s => ∃ s', Imp s s' ∧ CT P nt x (rtQ P nt x Q n) s'
  | _, e, s => Q e s
theorem xRX {P : Program} {nt : Nat} {x : VCode} {Q : Exit → St → Prop} (n : Nat) {s : St} (h : CT P nt x (rtQ P nt x Q n) s) : CT P nt (.loop x) Q s := by
  refine ⟨?_⟩
  intro Γ c hc a w hR
  cases c <;> simp only [cmp] at hc <;> (try (cases hc; done)) <;> (try (obtain ⟨_, _, hc⟩ := bind_some hc; obtain ⟨_, _, hc⟩ := map_some hc; cases hc; done))
  · obtain ⟨_, _, hc⟩ := bind_some hc
    split at hc <;> cases hc
  · obtain ⟨_, _, hc⟩ := bind_some hc
    obtain ⟨_, _, hc⟩ := bind_some hc
    obtain ⟨_, _, hc⟩ := map_some hc
    cases hc
  · obtain ⟨_, _, hc⟩ := map_some hc; cases hc
  · obtain ⟨vx, hx, hc⟩ := map_some hc
    cases hc
    rename_i body
    refine wpIn_loop_rounds (n + 1) ?_
    have key : ∀ (n : Nat) (s : St) (a : Act) (w : World), CT P nt x (rtQ P nt x Q n) s → RS Γ nt (tget s.tmps) (hget s.heap) a w → Code.roundsIn (FW Γ.ro) 0 P body (lift Γ nt Q) (n + 1) a w := by
      intro n
      induction n with
      | zero =>
        intro s a w h hR
        rw [roundsIn_succ]
        refine wpIn_mono (h.run Γ _ hx a w hR) ?_
        rintro e a' w' ⟨s', hq, hR'⟩
        cases e with
        | normal => exact hq.elim
        | _ => exact ⟨s', hq, hR'⟩
      | succ n ih =>
        intro s a w h hR
        rw [roundsIn_succ]
        refine wpIn_mono (h.run Γ _ hx a w hR) ?_
        rintro e a' w' ⟨s', hq, hR'⟩
        cases e with
        | normal =>
          obtain ⟨s'', hi, hc⟩ := hq
          exact ih s'' a' w' hc (hi _ _ _ _ hR')
        | _ => exact ⟨s', hq, hR'⟩
    exact key n s a w h hR
  · obtain ⟨_, _, hc⟩ := bind_some hc
    obtain ⟨_, _, hc⟩ := bind_some hc
    obtain ⟨_, _, hc⟩ := map_some hc
    cases hc
  · obtain ⟨_, _, hc⟩ := map_some hc; cases hc
theorem xU7 {P : Program} {nt : Nat} {x : VCode} {Q : Exit → St → Prop} {n : Nat} {s : St} (h : CT P nt x (rtQ P nt x Q n) s) : rtQ P nt x Q (n + 1) .normal s := ⟨s, Imp.refl s, h⟩
end Go.V
set_option linter.unusedVariables false
set_option linter.unusedSimpArgs false
namespace Go.V
section
variable {lvl site : Nat} {tf : TF} {hf : HF} {x y : VX} {b : Bid} {hw esz : Nat}
theorem vstf {α : Type} (enc : α → List PV) {e : α} (e' : α) {ys : List α} {a j nn : Nat} {v : PV} (hgt : ys[a]? = some e) (hx : ev tf x = some (.ptr b hw a j) := by rfl) (hy : ev tf y = some v := by rfl) (hb : hf b = some (blkV esz (ys.map enc)) := by rfl) (hw' : hw = (ys.map enc).length := by first | rfl | (simp; done) | (simp only [blkV, List.length_map, List.length_set, List.length_append, List.length_cons, List.length_nil]; omega))
    (he : (enc e).take j ++ xAY v ++ (enc e).drop (j + nn) = enc e' := by rfl) (hn : (xAY v).length = nn := by rfl) (hj : j + nn ≤ (enc e).length := by exact Nat.le_of_ble_eq_true rfl) (hok : (xAY v).all (xDV false) = true := by first | rfl | (simp [xDV, closed, xCO, xAY]; done)) : vop lvl site tf hf (.store nn x y) = some ⟨.dead, [(b, blkV esz ((ys.set a e').map enc))], [b]⟩ := by
  have := xFV (lvl := lvl) (site := site) (nn := nn) (e := enc e) hx hy hb hw' rfl (by show (ys.map enc)[a]? = _; rw [List.getElem?_map, hgt]; rfl) hn hj hok
  rw [this, he]
  simp [blkV, List.map_set]
theorem vclr {α : Type} (enc : α → List PV) (e0 : α) {ys : List α} {off len : Nat} {z : List PV} (hx : ev tf x = some (.own b hw off len) := by rfl) (hb : hf b = some (blkV esz (ys.map enc)) := by rfl) (hw' : hw = (ys.map enc).length := by first | rfl | (simp; done) | (simp only [blkV, List.length_map, List.length_set, List.length_append, List.length_cons, List.length_nil]; omega))
    (hl : off + len ≤ ys.length := by omega) (he : z = enc e0 := by rfl) (hz : z.length = esz := by rfl) (h0 : 0 < esz := by decide) (hok : z.all closed = true := by rfl) : vop lvl site tf hf (.clear esz z x) = some ⟨.tup [], [(b, blkV esz ((ys.take off ++ List.replicate len e0 ++ ys.drop (off + len)).map enc))], [b]⟩ := by
  subst hw'
  have h1 : off + len ≤ (ys.map enc).length := by simpa using hl
  have h2 : vop lvl site tf hf (.clear esz z x) = some ⟨.tup [], [(b, { blkV esz (ys.map enc) with els := (ys.map enc).take off ++ List.replicate len z ++ (ys.map enc).drop (off + len) })], [b]⟩ := by
    simp only [vop, hx, hb, Option.bind_some]
    exact if_pos ⟨trivial, trivial, trivial, trivial, h1, hz, h0, hok⟩
  rw [h2, he]
  simp [blkV, List.map_take, List.map_drop]
end
theorem oL1 {rs : List RV} {s : St} {v : PV} {ps : List PV} {esz : Nat} {els els' : List (List PV)} (he : els' = els) (h : rdT (tget s.tmps) (hget s.heap) rs = some ps := by rfl) (hp : pack ps = v := by rfl) (hb : hget s.heap ⟨0, 0⟩ = some (blkV esz els') := by rfl) (hn : xBQ v = [] := by rfl) : Out rs 1 v [blkV esz els] s := by
  subst he
  refine ⟨[], List.nodup_nil, fun b hb => (by cases hb), rfl, ⟨?_, (fun h => by cases h), trivial⟩, xNb hn, ps, h, by rw [xIJ hn]; exact hp⟩
  rw [show xB7 1 [] ⟨0, 0⟩ = ⟨0, 0⟩ from rfl, hb]
  unfold mapB
  rw [if_neg (by simp)]
theorem oLO {s : St} {t : Nat} {hw off len esz : Nat} {els els' : List (List PV)} (he : els' = els) (h : tget s.tmps t = some (.own ⟨0, 0⟩ hw off len) := by rfl) (hb : hget s.heap ⟨0, 0⟩ = some (blkV esz els') := by rfl) : Out [.tmp t] 1 (.own ⟨0, 0⟩ hw off len) [blkV esz els] s := by
  subst he
  refine ⟨[], List.nodup_nil, fun b hb => (by cases hb), rfl, ⟨?_, (fun h => by cases h), trivial⟩, rfl, [.own ⟨0, 0⟩ hw off len], ?_, rfl⟩
  · rw [show xB7 1 [] ⟨0, 0⟩ = ⟨0, 0⟩ from rfl, hb]
    unfold mapB
    rw [if_neg (by simp)]
  · simp only [rdT, rdR, h]; rfl
theorem oX1 {rs : List RV} {s : St} {v : PV} {ps : List PV} {esz : Nat} {els els' : List (List PV)} (he : els' = els) (h : rdT (tget s.tmps) (hget s.heap) rs = some ps := by rfl) (hp : pack ps = v := by rfl) (hb : hget s.heap ⟨0, 0⟩ = some ⟨true, false, esz, els'⟩ := by rfl) (hn : xBQ v = [] := by rfl) (hc : ∀ e ∈ els, ∀ c ∈ e, xBl c = [] := by simp [xBl, xBR]) : Out rs 1 v [⟨true, false, esz, els⟩] s := by
  subst he
  refine ⟨[], List.nodup_nil, fun b hb => (by cases hb), rfl, ⟨?_, fun _ e he c hc' => xQW (hc e he c hc'), trivial⟩, xNb hn, ps, h, by rw [xIJ hn]; exact hp⟩
  rw [show xB7 1 [] ⟨0, 0⟩ = ⟨0, 0⟩ from rfl, hb]
  unfold mapB
  rw [if_pos rfl]
  have : els'.map (fun e => e.map (mapS (xB7 1 []))) = els' := by
    conv => rhs; rw [← List.map_id els']
    refine List.map_congr_left fun e he => ?_
    conv => rhs; rw [id, ← List.map_id e]
    exact List.map_congr_left fun c hc' => xMp (hc e he c hc')
  simp [this]
theorem oX2 {rs : List RV} {s : St} {v : PV} {ps : List PV} {esz esz2 : Nat} {els els' els2 els2' : List (List PV)} (he : els' = els) (he2 : els2' = els2) (h : rdT (tget s.tmps) (hget s.heap) rs = some ps := by rfl) (hp : pack ps = v := by rfl) (hb : hget s.heap ⟨0, 0⟩ = some (blkV esz els') := by rfl) (hb2 : hget s.heap ⟨0, 1⟩ = some ⟨true, false, esz2, els2'⟩ := by rfl) (hn : xBQ v = [] := by rfl) (hc : ∀ e ∈ els2, ∀ c ∈ e, xBl c = [] := by simp [xBl, xBR]) : Out rs 2 v [blkV esz els, ⟨true, false, esz2, els2⟩] s := by
  subst he
  subst he2
  refine ⟨[], List.nodup_nil, fun b hb => (by cases hb), rfl, ⟨?_, (fun h => by cases h), ?_, (fun _ e he c hc' => xQW (hc e he c hc')), trivial⟩, xNb hn, ps, h, by rw [xIJ hn]; exact hp⟩
  · rw [show xB7 2 [] ⟨0, 0⟩ = ⟨0, 0⟩ from rfl, hb]
    unfold mapB
    rw [if_neg (by simp)]
  · rw [show xB7 2 [] ⟨0, 0 + 1⟩ = ⟨0, 1⟩ from rfl, hb2]
    unfold mapB
    rw [if_pos rfl]
    have : els2'.map (fun e => e.map (mapS (xB7 2 []))) = els2' := by
      conv => rhs; rw [← List.map_id els2']
      refine List.map_congr_left fun e he => ?_
      conv => rhs; rw [id, ← List.map_id e]
      exact List.map_congr_left fun c hc' => xMp (hc e he c hc')
    simp [this]
section
variable {P : Program} {nt : Nat} {x y : VCode} {Q : Exit → St → Prop} {s : St} {lvl : Nat}
def midQ {G : Type} (lvl : Nat) (T : G → Tmps) (H : G → Heap) (R : G → Prop) (Q : Exit → St → Prop) : Exit → St → Prop
  | .normal, s => ∃ g, R g ∧ Imp s ⟨lvl, T g, H g⟩
  | e, s => Q e s
theorem xCC {G : Type} (T : G → Tmps) (H : G → Heap) (R : G → Prop) (h : CT P nt x (midQ lvl T H R Q) s) (h2 : ∀ g, R g → CT P nt y Q ⟨lvl, T g, H g⟩) : CT P nt (.seq x y) Q s :=
  xAb (xMx h (by
    intro e s' hq
    cases e with
    | normal => obtain ⟨g, h1, h3⟩ := hq; exact xD7 h3 (h2 g h1)
    | _ => exact hq))
theorem mid {G : Type} {T : G → Tmps} {H : G → Heap} {R : G → Prop} (g : G) (h1 : R g) (h2 : Imp s ⟨lvl, T g, H g⟩) : midQ lvl T H R Q .normal s := ⟨g, h1, h2⟩
end
section
variable {P : Program} {nt : Nat} {os : List VOper} {K : St → Prop} {lvl : Nat} {tm : Tmps} {hp : Heap} {d : Option Nat} {site : Nat} {pre : List Nat} {acc : List Foot} {g : Option (Nat × Nat × Bool)} {dr : Bool}
theorem xBE {x y : VX} {o : BinOp} {k k2 k' : IntKind} {n m r : Int} (hr : bin o (.int k n) (.int k2 m) = some (.int k' r)) (h : Sq P nt dr os (acc ++ [([], [])]) K ⟨lvl, tput tm d (.int k' r), hp⟩) (hx : ev (tget tm) x = some (.int k n) := by rfl) (hy : ev (tget tm) y = some (.int k2 m) := by rfl) (hg : GOk g tm := by first | exact trivial | exact gT rfl (by first | rfl | assumption)) : Sq P nt dr (⟨d, .bin o x y, g, site, pre⟩ :: os) acc K ⟨lvl, tm, hp⟩ :=
  o_v0 (by simp only [vop, hx, hy, Option.bind_some, hr, Option.map_some]; rfl) h rfl hg
end
end Go.V
set_option linter.unusedVariables false
set_option linter.unusedSimpArgs false
namespace Go.V
section
variable {lvl site : Nat} {tf : Nat → Option PV} {hf : Bid → Option Blk}
theorem vmk0 {bytes : Nat} {z : List PV} {m : Int} {x y : VX} (hx : ev tf x = some (.int .i64 0) := by rfl) (hy : ev tf y = some (.int .i64 m) := by rfl) (hfree : hf ⟨lvl, site⟩ = none := by rfl) (h1 : 0 ≤ m := by omega) (hby : 0 < bytes := by decide) (hroom : m * bytes ≤ xBB := by (unfold xBB; omega)) (hz : 0 < z.length := by decide) (hzc : z.all closed = true := by rfl) :
    vop lvl site tf hf (.mkslice bytes z x y) = some ⟨.own ⟨lvl, site⟩ 0 0 0, [(⟨lvl, site⟩, blkV z.length [])], []⟩ := xKy hx hy hfree (by omega) h1 hby hroom hz hzc
theorem vsl1 {esz : Nat} {e : List PV} {l : List (List PV)} {x : VX} (hx : ev tf x = some (.sh false (e :: l)) := by rfl) (he : ∀ a ∈ e :: l, a.length = esz := by (intro a ha; simp at ha; rcases ha with rfl | ⟨b, _, rfl⟩ <;> rfl)) :
    vop lvl site tf hf (.slsl esz x (some (.c (.int .i64 1))) none none) = some ⟨.sh false l, [], []⟩ := by
  have h := xPN (lvl := lvl) (site := site) (hf := hf) (lo := some (.c (.int .i64 1))) (hi := none) (mx := none) (a := 1) (z := ((e :: l).length : Nat)) (c := ((e :: l).length : Nat)) hx rfl rfl rfl (by omega) (by simp; omega) (by omega) (by omega) he
  rw [h]
  have e1 : (1 : Int).toNat = 1 := rfl
  have e2 : (((e :: l).length : Nat) : Int).toNat - 1 = l.length := by simp
  simp only [e1, e2, Option.isSome_none, Bool.false_eq_true, if_false, Bool.false_and, List.drop_succ_cons, List.drop_zero, List.take_length]
theorem vslg {α : Type} {enc : α → List PV} (l r : List α) {esz : Nat} {ex : Bool} {x : VX} {lo hi mx : Option VX} (a z : Nat) (hr : (l.drop a).take (z - a) = r) (hx : ev tf x = some (.sh ex (l.map enc)) := by rfl) (h1 : xAR tf 0 lo = some (a : Int) := by rfl) (h2 : xAR tf (l.map enc).length hi = some (z : Int) := by rfl) (h3 : xAR tf (l.map enc).length mx = some (z : Int) := by rfl) (h4 : mx.isSome = true := by rfl)
    (h5 : a ≤ z := by omega) (h6 : z ≤ l.length := by omega) (he : ∀ a, (enc a).length = esz := by (intro a; rfl)) :
    vop lvl site tf hf (.slsl esz x lo hi mx) = some ⟨.sh true (r.map enc), [], []⟩ := by
  subst hr
  rw [xPN hx h1 h2 h3 (by omega) (by omega) (by omega) (by rw [List.length_map]; omega) (by intro e h; obtain ⟨b, _, rfl⟩ := List.mem_map.1 h; exact he b)]
  simp [h4, List.map_take, List.map_drop]
theorem vslh {α : Type} {enc : α → List PV} (l r : List α) {esz : Nat} {x : VX} {lo hi : Option VX} (a z : Nat) (hr : (l.drop a).take (z - a) = r) (hx : ev tf x = some (.sh false (l.map enc)) := by rfl) (h1 : xAR tf 0 lo = some (a : Int) := by rfl) (h2 : xAR tf (l.map enc).length hi = some (z : Int) := by rfl)
    (h5 : a ≤ z := by omega) (h6 : z ≤ l.length := by omega) (he : ∀ a, (enc a).length = esz := by (intro a; rfl)) :
    vop lvl site tf hf (.slsl esz x lo hi none) = some ⟨.sh false (r.map enc), [], []⟩ := by
  subst hr
  rw [xPN (c := ((l.map enc).length : Nat)) hx h1 h2 rfl (by omega) (by omega) (by rw [List.length_map]; omega) (by omega) (by intro e h; obtain ⟨b, _, rfl⟩ := List.mem_map.1 h; exact he b)]
  simp [List.map_take, List.map_drop]
theorem xJ3 {x : VX} (hx : ev tf x = some .nils := by rfl) : vop lvl site tf hf (.cap x) = some ⟨.int .i64 0, [], []⟩ := by
  simp only [vop, hx, Option.bind_some]; rfl
theorem vsln {esz : Nat} {x : VX} {hi : Option VX} (hx : ev tf x = some .nils := by rfl) (h2 : xAR tf 0 hi = some 0 := by rfl) : vop lvl site tf hf (.slsl esz x none hi none) = some ⟨.nils, [], []⟩ := by
  simp only [vop, hx, Option.bind_some, h2]; rfl
theorem xUa {esz bytes : Nat} {z : List PV} {n : Nat} {x y : VX} (hx : ev tf x = some .nils := by rfl) (hy : ev tf y = some (.int .i64 (n : Int)) := by rfl) (hfree : hf ⟨lvl, site⟩ = none := by rfl) (h1 : 0 < n := by omega) (hroom : n * bytes ≤ xBB := by (unfold xBB; omega)) (hby : 0 < bytes := by decide) (hz : z.length = esz := by rfl) (h0 : 0 < esz := by decide) (hzc : z.all closed = true := by rfl) :
    vop lvl site tf hf (.appZ esz bytes z x y) = some ⟨.own ⟨lvl, site⟩ n 0 n, [(⟨lvl, site⟩, ⟨false, false, esz, List.replicate n z⟩)], []⟩ := by
  have hc : hf ⟨lvl, site⟩ = none ∧ 0 < (n : Int) ∧ (n : Int) * bytes ≤ xBB ∧ 0 < bytes ∧ z.length = esz ∧ 0 < esz ∧ z.all closed = true := ⟨hfree, by omega, by exact_mod_cast hroom, hby, hz, h0, hzc⟩
  simp only [vop, hx, hy, Option.bind_some]
  rw [if_pos hc]
  rfl
theorem vapf {α : Type} (enc : α → List PV) (out ys rest : List α) {bytes N m : Nat} {esz : Nat} {z : List PV} {q : PV} {rd : List Bid} {b : Bid} {x y : VX} (hx : ev tf x = some (.own b N 0 m) := by rfl) (hy : ev tf y = some q := by rfl) (hct : xAf hf q = some (rd, ys.map enc) := by first | exact xBf rfl | exact xGt (by assumption) | rfl)
    (hb : hf b = some (blkV esz ((out ++ rest).map enc)) := by rfl) (hN : N = (out ++ rest).length := by (simp only [List.length_append]; omega)) (hm : m = out.length := by omega) (hr : ys.length ≤ rest.length := by omega)
    (hok : ∀ a, (enc a).length = esz ∧ ∀ c ∈ enc a, closed c = true := by (intro a; simp [closed])) (hz : z.length = esz := by rfl) (h0 : 0 < esz := by decide) (hby : 0 < bytes := by decide) (hroom : (m + ys.length) * bytes ≤ xBB := by (unfold xBB; omega)) :
    vop lvl site tf hf (.append esz bytes z x y) = some ⟨.own b N 0 (m + ys.length), [(b, blkV esz ((out ++ ys ++ rest.drop ys.length).map enc))], b :: rd⟩ := by
  subst hm
  have h1 : (∀ e ∈ ys.map enc, e.length = esz ∧ ∀ c ∈ e, closed c = true) ∧ z.length = esz ∧ 0 < esz ∧ 0 < bytes := ⟨fun e he => by obtain ⟨a, _, rfl⟩ := List.mem_map.1 he; exact hok a, hz, h0, hby⟩
  have h2 : N = ((out ++ rest).map enc).length ∧ True ∧ True ∧ True ∧ 0 + out.length ≤ N ∧ (True ∨ 0 + out.length + (ys.map enc).length ≤ N) ∧ (out.length + (ys.map enc).length) * bytes ≤ xBB :=
    ⟨by rw [hN]; simp, trivial, trivial, trivial, by rw [hN, List.length_append]; omega, .inl trivial, by rw [List.length_map]; exact hroom⟩
  have hNl : N = out.length + rest.length := by rw [hN, List.length_append]
  simp only [vop, hx, hy, hct, Option.bind_some]
  rw [if_pos h1, hb]
  simp only [Option.bind_some]
  rw [if_pos h2]
  by_cases hf' : rest = []
  · subst hf'
    have hy0 : ys = [] := List.length_eq_zero_iff.1 (by simpa using hr)
    subst hy0
    rw [if_pos ⟨trivial, by simpa using hNl.symm⟩]
    simp [blkV, hNl]
  · have hr0 : rest.length ≠ 0 := by intro h; exact hf' (List.length_eq_zero_iff.1 h)
    rw [if_neg (by rintro ⟨_, h⟩; omega)]
    have e1 : max (0 + out.length + (ys.map enc).length) N = N := by rw [List.length_map]; omega
    rw [e1]
    rw [List.map_append]
    simp only [blkV, List.map_append, List.map_drop, List.length_map, Nat.zero_add]
    rw [List.take_append_of_le_length (by simp), List.take_of_length_le (by simp), List.drop_append, List.drop_eq_nil_of_le (by simp), List.nil_append, List.length_map, Nat.add_sub_cancel_left]
theorem xUb {α : Type} (enc : α → List PV) (out ys rest : List α) {r : List α} {bytes N m m' : Nat} {esz : Nat} {z : List PV} {q : PV} {rd : List Bid} {b : Bid} {x y : VX} (he : out ++ ys ++ rest.drop ys.length = r) (hm' : m + ys.length = m') (hx : ev tf x = some (.own b N 0 m) := by rfl) (hy : ev tf y = some q := by rfl) (hct : xAf hf q = some (rd, ys.map enc) := by first | exact xBf rfl | exact xGt (by assumption) | rfl)
    (hb : hf b = some (blkV esz ((out ++ rest).map enc)) := by rfl) (hN : N = (out ++ rest).length := by (simp only [List.length_append]; omega)) (hm : m = out.length := by omega) (hr : ys.length ≤ rest.length := by omega)
    (hok : ∀ a, (enc a).length = esz ∧ ∀ c ∈ enc a, closed c = true := by (intro a; simp [closed])) (hz : z.length = esz := by rfl) (h0 : 0 < esz := by decide) (hby : 0 < bytes := by decide) (hroom : (m + ys.length) * bytes ≤ xBB := by (unfold xBB; omega)) :
    vop lvl site tf hf (.append esz bytes z x y) = some ⟨.own b N 0 m', [(b, blkV esz (r.map enc))], b :: rd⟩ := by
  subst he; subst hm'
  exact vapf enc out ys rest hx hy hct hb hN hm hr hok hz h0 hby hroom
end
end Go.V
set_option linter.unusedVariables false
set_option linter.unusedSimpArgs false
namespace Go.V
theorem xKp {α : Type} {enc : α → List PV} {cts : List CTy} {l : List (List PV)} (h : InTy (.sl cts) (.sh false l))
    (hd : ∀ e : List PV, e.length = cts.length → (∀ (j : Nat) (c : CTy) (p : PV), cts[j]? = some c → e[j]? = some p → InTy c p) → ∃ a, e = enc a) : ∃ xs : List α, l = xs.map enc ∧ xs.length ≤ maxLen := by
  cases h with
  | sl _ l g1 g2 g3 g4 =>
    have key : ∀ l' : List (List PV), (∀ e ∈ l', e.length = cts.length ∧ ∀ (j : Nat) (c : CTy) (p : PV), cts[j]? = some c → e[j]? = some p → InTy c p) → ∃ xs : List α, l' = xs.map enc := by
      intro l'
      induction l' with
      | nil => intro _; exact ⟨[], rfl⟩
      | cons e l' ih =>
        intro h
        obtain ⟨a, ha⟩ := hd e (h e (by simp)).1 (h e (by simp)).2
        obtain ⟨xs, hxs⟩ := ih (fun e' he' => h e' (by simp [he']))
        exact ⟨a :: xs, by rw [ha, hxs]; rfl⟩
    obtain ⟨xs, hxs⟩ := key l (fun e he => by
      obtain ⟨i, hi⟩ := List.mem_iff_getElem?.1 he
      exact ⟨g3 e he, fun j c p h1 h2 => g4 i j e c p hi h1 h2⟩)
    refine ⟨xs, hxs, ?_⟩
    rw [hxs] at g2
    simpa using g2
theorem in_int {k : IntKind} {p : PV} (h : InTy (.int k) p) : ∃ n, p = .int k n ∧ (Lit.int k n).wf = true := by
  cases h with
  | int _ n h => exact ⟨n, rfl, h⟩
theorem xKh {p : PV} (h : InTy (.int .u8) p) : ∃ n : Nat, p = .int .u8 n ∧ n < 256 := by
  obtain ⟨n, rfl, hw⟩ := in_int h
  have : 0 ≤ n ∧ n < 256 := by
    simp [Lit.wf, IntKind.min, IntKind.max, IntKind.signed, IntKind.bits] at hw
    omega
  exact ⟨n.toNat, by rw [Int.toNat_of_nonneg this.1], by omega⟩
theorem xVm {e : List PV} (h : e.length = 3) : ∃ a b c, e = [a, b, c] := by
  match e, h with
  | [a, b, c], _ => exact ⟨a, b, c, rfl⟩
def RelL {w : World} : List PV → List Value → Prop
  | [], [] => True
  | p :: ps, v :: vs => VRel (Old w) xCz (resH []) w p v ∧ RelL (w := w) ps vs
  | _, _ => False
theorem xKF {w : World} : ∀ {ps : List PV} {vs : List Value}, RelL (w := w) ps vs → vs.length = ps.length ∧ ∀ (i : Nat) (p : PV) (x : Value), ps[i]? = some p → vs[i]? = some x → VRel (Old w) xCz (resH []) w p x
  | [], [], _ => ⟨rfl, by simp⟩
  | p :: ps, v :: vs, h => by
    obtain ⟨h1, h2⟩ := xKF h.2
    refine ⟨by simp [h1], fun i q x a b => ?_⟩
    cases i with
    | zero => simp at a b; subst a; subst b; exact h.1
    | succ i => exact h2 i q x (by simpa using a) (by simpa using b)
theorem xKx {P : Program} {w : World} {f : Nat} {args : List PV} {rargs : List Value} {b : Bool} (h : VC P f args [] (.bool b) []) (hr : RelL (w := w) args rargs) (hG : GlbW w := by (intro p hp; cases hp)) : Calls P f rargs.toArray w fun e w' => e = .returned (.bool b) ∧ RowKit.Below w.heap.size w w' :=
  xR7 h (by simpa using (xKF hr).1) (fun i p x a b => (xKF hr).2 i p x a (by simpa using b)) hG
end Go.V
set_option linter.unusedVariables false
set_option linter.unusedSimpArgs false
namespace Go.V
theorem oG (bs : List Bid) {rs : List RV} {n : Nat} {s : St} {v v' : PV} {hout hout' : List Blk} {ps : List PV} (hv : v' = v := by rfl) (he : hout' = hout := by rfl)
    (h : rdT (tget s.tmps) (hget s.heap) rs = some ps := by rfl) (hp : pack ps = mapV (xB7 n bs) v' := by rfl)
    (ho : outH (xB7 n bs) hout'.length s.heap 0 hout' := by repeat' first | exact trivial | apply And.intro | rfl | (intro h; cases h; done) | (intro _; simp [okS, okN]; done))
    (hok : okV hout'.length v' = true := by rfl) (hl : hout'.length = n + bs.length := by rfl) (hnd : bs.Nodup := by decide) (hlv : ∀ b ∈ bs, b.lvl ≠ 0 := by decide) : Out rs n v hout s := by
  subst hv; subst he
  exact ⟨bs, hnd, hlv, hl, ho, hok, ps, h, hp⟩
section
variable {P : Program} {nt : Nat} {os : List VOper} {K : St → Prop} {lvl : Nat} {tm : Tmps} {hp : Heap} {d : Option Nat} {site : Nat} {pre : List Nat} {acc : List Foot} {g : Option (Nat × Nat × Bool)} {dr : Bool} {tf : TF} {hf : HF}
theorem vapN {α : Type} (enc : α → List PV) (e : α) {x y : VX} {c : Bid} {esz bytes : Nat} {z e' : List PV} (hx : ev tf x = some .nils := by rfl) (hy : ev tf y = some (.own c 1 0 1) := by rfl) (hc : hf c = some ⟨false, false, esz, [e']⟩ := by rfl) (hfree : hf ⟨lvl, site⟩ = none := by rfl)
    (he : e' = enc e := by rfl) (hok : ∀ c ∈ enc e, closed c = true := by simp [closed]) (hlen : (enc e).length = esz := by rfl) (hz : z.length = esz := by rfl) (h0 : 0 < esz := by decide) (hby : 0 < bytes := by decide) (hroom : 1 * bytes ≤ xBB := by decide) :
    vop lvl site tf hf (.append esz bytes z x y) = some ⟨ownV ⟨lvl, site⟩ ([e].map enc), [(⟨lvl, site⟩, blkV esz ([e].map enc))], [c]⟩ := by
  subst he
  have := xJ4 (lvl := lvl) (site := site) (bytes := bytes) (z := z) (ys := [enc e]) (rd := [c]) hx hy (xBf hc) hfree (by
    intro e' he'
    simp at he'
    subst he'
    exact ⟨hlen, hok⟩) hz h0 hby (by simpa using hroom)
  rw [this]
  simp [ownV, blkV]
end
end Go.V
set_option linter.unusedVariables false
set_option linter.unusedSimpArgs false
namespace Go.V
theorem xNg {h : Heap} {l : List Bid} (hl : l.all (fun b => (hget h b).isSome) = true) : nmOk h l := fun b hb => (List.all_eq_true.1 hl) b hb
theorem xQt {T : Tmps} (h : (T.all fun p => (xBQ p.2).all fun b => Nat.beq b.lvl 0) = true) : lv0T T := by
  intro p hp b hb
  have := (List.all_eq_true.1 h) p hp
  have := (List.all_eq_true.1 this) b hb
  exact beqN_iff.1 this
section
variable {P : Program} {nt : Nat} {os : List VOper} {K : St → Prop} {lvl : Nat} {tm tm' : Tmps} {hp hp' : Heap} {s : St} {x y : VCode}
theorem xAi (h1 : xJD tm tm' := by repeat' first | exact trivial | apply And.intro | rfl | (simp; done))
  (h2 : xFq hp hp' := by repeat' first | exact trivial | apply And.intro | rfl | (simp; done))
  (h3 : xM6 hp' tm' := by repeat' first | exact trivial | apply And.intro | exact xF2 | exact xNg rfl | exact xA8 rfl | exact xA8 (Sl.closed (by assumption)) | exact xA8 (by assumption))
  (h4 : xJA hp' hp' := by repeat' first | exact trivial | apply And.intro | exact xF2 | exact xNg rfl | exact xA8 rfl)
  (h5 : xGB hp' hp := by repeat' first | exact trivial | apply And.intro | (intro h; first | exact absurd h (by decide) | rfl)) : Imp ⟨lvl, tm, hp⟩ ⟨lvl, tm', hp'⟩ := Imp.to h1 h2 h3 h4 h5
theorem Imp.nilH {s : St} {b b1 : Bid} {esz : Nat} (hb1 : hget s.heap b1 = some ⟨true, false, 1, [[.nils]]⟩) (hb : hget s.heap b = none) (hz : 0 < esz) : Imp s ⟨s.lvl, s.tmps, hset (hset s.heap b ⟨false, false, esz, []⟩) b1 ⟨true, false, 1, [[.own b 0 0 0]]⟩⟩ := by
  rintro Γ nt a w ⟨F, μ, d1, d2, hI, hT, hK, hlv⟩
  have hne : b1 ≠ b := by
    rintro rfl
    rw [hb] at hb1
    cases hb1
  obtain ⟨g1, g2⟩ := hI.upd (w' := w) b ⟨false, false, esz, []⟩ none F rfl rfl rfl (Nat.le_refl _) (fun _ _ _ => rfl) (fun k => by simp) (.inr (.inl rfl)) (fun B h => by rw [hb] at h; cases h) (fun B h => by rw [hb] at h; cases h) (fun hK => by
    refine ⟨⟨hz, (fun _ k c e fz hk => by simp [updM] at hk), fun _ _ k c e fz hk => by simp [updM] at hk⟩, (by simp), (by simp), (by simp), ?_⟩
    have : updM μ b none b = none := by simp [updM]
    rw [this]
    exact ⟨rfl, rfl⟩)
  generalize hμ : updM μ b none = μ1 at g1 g2
  have hμb : μ1 b = none := by rw [← hμ]; simp [updM]
  generalize hh1 : updH (hget s.heap) b ⟨false, false, esz, []⟩ = hf1 at g1 g2
  have hfb : hf1 b = some ⟨false, false, esz, []⟩ := by rw [← hh1]; exact xCR
  have hfb1 : hf1 b1 = some ⟨true, false, 1, [[.nils]]⟩ := by rw [← hh1]; simp [updH, hne, hb1]
  obtain ⟨g3, g4⟩ := g1.upd (w' := w) b1 ⟨true, false, 1, [[.own b 0 0 0]]⟩ (μ1 b1) F rfl rfl rfl (Nat.le_refl _) (fun _ _ _ => rfl) (fun k => by simp) (.inl ⟨_, hfb1, rfl⟩) (fun B h hz => by rw [hfb1] at h; cases h; cases hz) (fun B h => by
      rw [hfb1] at h; cases h
      exact ⟨rfl, Nat.le_refl _, fun _ => ⟨rfl, rfl, fun _ _ => rfl⟩⟩) (fun hK2 => by
    have hB := g1.blk _ _ hfb1
    refine ⟨⟨Nat.zero_lt_one, (fun h => by cases h), (fun h => by cases h)⟩, (by simp), (by simp), (by simp), ?_⟩
    have e1 : updM μ1 b1 (μ1 b1) b1 = μ1 b1 := by simp [updM]
    rw [e1]
    have h5 := hB.2.2.2.2
    cases hm : μ1 b1 with
    | none => rw [hm] at h5; simp at h5
    | some k =>
      obtain ⟨f1, f2, c, e, fz, hc, hfz, hl, hr⟩ := hB.cells hm (fun _ => rfl)
      refine ⟨(fun h => by cases h), (fun _ => f2 rfl), .inl ⟨c, e, fz, hc, hfz, hl, fun i j el p h1 h2 => ?_⟩⟩
      have hi : i = 0 := by
        have := (List.getElem?_eq_some_iff.1 h1).1
        simp at this
        omega
      subst hi
      simp at h1
      subst h1
      have hj : j = 0 := by
        have := (List.getElem?_eq_some_iff.1 h2).1
        simp at this
        omega
      subst hj
      simp at h2
      subst h2
      obtain ⟨x, hx, hs⟩ := hr 0 0 [.nils] .nils rfl rfl
      refine ⟨x, hx, ?_⟩
      have hx0 : x = .slice none 0 0 := by
        have hs : CRel F w .nils x := hs
        cases hs
        rfl
      rw [hx0]
      have e2 : updM μ1 b1 (some k) b = none := by simp [updM, Ne.symm hne, hμb]
      refine ⟨none, 0, rfl, by simp, ⟨false, false, esz, []⟩, by simp [updH, Ne.symm hne, hfb], rfl, Nat.le_refl _, fun _ => ⟨Nat.le_refl _, ?_⟩⟩
      rw [e2]
      exact ⟨rfl, rfl, rfl, rfl⟩)
  have hh : hget (hset (hset s.heap b ⟨false, false, esz, []⟩) b1 ⟨true, false, 1, [[.own b 0 0 0]]⟩) = updH hf1 b1 ⟨true, false, 1, [[.own b 0 0 0]]⟩ := by
    funext c
    rw [xA9, xA9, ← hh1]; rfl
  refine ⟨F, updM μ1 b1 (μ1 b1), (d1.keeps g2).keeps g4, d2, by rw [hh]; exact g3, fun t' p h => ?_, by rw [hh]; exact (hK.tr g2).tr g4, hlv⟩
  rw [hh]
  exact ((hT t' p h).keeps g2).keeps g4
theorem mid0 {G : Type} {T : G → Tmps} {H : G → Heap} {R : G → Prop} (g : G) (h1 : R g) (h2 : Imp s ⟨lvl, T g, H g⟩) : midQ lvl T H R (fun _ _ => True) .normal s := ⟨g, h1, h2⟩
variable {lp : Lp} {l : Nat} {Q : Exit → St → Rho → Prop}
def xUC {G : Type} (T : G → Tmps) (H : G → Heap) (M : G → Nat) (R : G → Prop) (lvl : Nat) (g : G) (Q : Exit → St → Rho → Prop) : Exit → St → Rho → Prop
  | .normal, s, .ready => ∃ g', M g' < M g ∧ R g' ∧ Imp s ⟨lvl, T g', H g'⟩
  | .normal, s, .done _ => False
  | e, s, ρ => Q e s ρ
theorem xHf {G : Type} (T : G → Tmps) (H : G → Heap) (M : G → Nat) (R : G → Prop) (g0 : G) (hi : Imp ⟨lvl, tm, hp⟩ ⟨lvl, T g0, H g0⟩) (h0 : R g0) (h : ∀ g, R g → CTL P lp l nt x (xUC T H M R lvl g Q) ⟨lvl, T g, H g⟩ .ready) : CTL P lp l nt (.loop x) Q ⟨lvl, tm, hp⟩ .ready := by
  refine cl_imp hi (xWA (fun n s ρ => ρ = .ready ∧ ∃ g, M g = n ∧ R g ∧ s = ⟨lvl, T g, H g⟩) (M g0) ⟨rfl, g0, rfl, h0, rfl⟩ ?_)
  rintro n s ρ ⟨rfl, g, rfl, hR, rfl⟩
  refine xV9 (h g hR) fun e s' ρ' hq => ?_
  cases e with
  | normal =>
    cases ρ' with
    | ready =>
      obtain ⟨g', h1, h2, h3⟩ := hq
      exact ⟨M g', h1, _, h3, rfl, g', rfl, h2, rfl⟩
    | done e => exact hq.elim
  | _ => exact hq
theorem agL {G : Type} {T : G → Tmps} {H : G → Heap} {M : G → Nat} {R : G → Prop} {g : G} {s : St} (g' : G) (h2 : R g') (h3 : Imp s ⟨lvl, T g', H g'⟩) (h1 : M g' < M g := by first | omega | (simp only; omega)) : xUC T H M R lvl g (fun _ _ _ => True) .normal s .ready := ⟨g', h1, h2, h3⟩
theorem xI1 {c : VX} {t : Bool} {ρ : Rho} (h1 : CTL P lp l nt x Q s ρ) (hb : ev (tget s.tmps) c = some (.bool t) := by rfl) (ht : t = true := by first | rfl | assumption) : CTL P lp l nt (.cond c x y) Q s ρ := xM1 hb (fun _ => h1) (fun h => by rw [ht] at h; cases h)
theorem xEu {c : VX} {t : Bool} {ρ : Rho} (h1 : CTL P lp l nt y Q s ρ) (hb : ev (tget s.tmps) c = some (.bool t) := by rfl) (ht : t = false := by first | rfl | assumption) : CTL P lp l nt (.cond c x y) Q s ρ := xM1 hb (fun h => by rw [ht] at h; cases h) (fun _ => h1)
theorem xHQ (n : Nat) {os : List VOper} {K : St → Rho → Prop} {ρ : Rho} (h : Sq P nt false (os.take n) [] (fun s' => SeqL P lp l nt (os.drop n) K s' ρ) s) : SeqL P lp l nt os K s ρ :=
  xTx (os.take n) h (List.take_append_drop n os).symm
theorem xFX {os : List VOper} {K : St → Rho → Prop} {ρ : Rho} (h : Sq P nt false os [] (fun s' => K s' ρ) s) : SeqL P lp l nt os K s ρ :=
  xTx os (SeqT.mk fun Γ ops vs rest i h1 h2 h3 Q a w hR hQ => (show SeqT P nt os (fun s' => K s' ρ) s from h).run Γ ops vs rest i h1 h2 h3 Q a w hR fun s' a' w' hk hr => hQ s' a' w' (sl_nil hk) hr) (List.append_nil os).symm
theorem rng {lvlI f nt' : Nat} {T : Tmps} {H : Heap} {gx : VX} {caps : List PV} {ps : List Nat} {asg body vc' : VCode} {Q : Exit → St → Prop} (hi : Imp s ⟨lvl, T, H⟩)
    (hvf : VF P (fnId f) = some (nt', vc', [])) (hit : ∀ l, CTL P ⟨nt, T, ps, asg, body⟩ l nt' vc' (xT4 Q lvl T) ⟨lvlI, xHM 0 (caps.take (fnN f) ++ .yld l :: caps.drop (fnN f)), H⟩ .ready)
    (hg : ev (tget T) gx = some (.fn f caps) := by rfl) (hlv : (T.all fun p => (xBQ p.2).all fun b => Nat.beq b.lvl 0) = true := by rfl) (hlc : (caps.all fun c => (xBQ c).all fun b => Nat.beq b.lvl 0) = true := by rfl) (hlen : caps.length + 1 ≤ nt' := by decide) (hcap : fnN f ≤ caps.length := by decide) :
    CT P nt (.range gx ps asg body) Q s := by
  refine xD7 hi (xTe hg hvf (xQt hlv) (fun c hc b hb => ?_) hlen hcap hit)
  exact beqN_iff.1 ((List.all_eq_true.1 ((List.all_eq_true.1 hlc) c hc)) b hb)
theorem yl {K : St → Rho → Prop} {T : Tmps} {H : Heap} {d : Option Nat} {t : Nat} {xs : List VX} {vals : List PV} {site : Nat} {pre : List Nat} (lvlB : Nat) (hi : Imp s ⟨lvl, T, H⟩)
    (hb : CT P lp.nt lp.asg (fun e s1 => e = .normal ∧ CT P lp.nt lp.body (xT1 P lp l nt os K lvl T d) s1) ⟨lvlB, xOl lp.T lp.ps vals, H⟩)
    (hy : tget T t = some (.yld l) := by rfl) (hxs : evs (tget T) xs = some vals := by rfl) (hn : vals.length = lp.ps.length := by rfl) (hps : ∀ p ∈ lp.ps, p < lp.nt := by decide) (hlv : (T.all fun p => (xBQ p.2).all fun b => Nat.beq b.lvl 0) = true := by rfl) :
    SeqL P lp l nt (⟨d, .call (.t t) xs, none, site, pre⟩ :: os) K s .ready :=
  sl_imp hi (xSH hy hxs hn hps (xQt hlv) hb)
end
end Go.V
set_option linter.unusedVariables false
set_option linter.unusedSimpArgs false
namespace Go.V
def vcm (P : Program) (f : Nat) {n c r} (_ : VF P f = some (n, c, r) := by (conv => lhs; reduce; try simp); first | done | exact rfl) : VCode := c
theorem sgo {A B : Prop} (h : B) (s : B → A := by first | exact fun h => xAP h | exact fun h => nl h | exact fun h => xAb h | exact fun h => rg h | exact fun h => xA0 h | exact fun h => bq h) : A := s h
theorem scn {A B : Prop} (h : B) (s : B → A := by first | exact fun h => xAB h | exact fun h => xAD h | exact fun h => xU7 h | exact fun h => cndt h | exact fun h => cndf h) : A := s h
theorem sop {A B : Prop} (h : B) (s : B → A := by first | exact fun h => xVS h | exact fun h => xVT h | exact fun h => xVX h | exact fun h => xVV h | exact fun h => xSw h | exact fun h => xSv h | exact fun h => o_add h | exact fun h => o_sub h | exact fun h => o_mul h | exact fun h => o_cat h | exact fun h => o_bin h | exact fun h => o_lenq h | exact fun h => o_len h | exact fun h => xSs h | exact fun h => xSt h | exact fun h => o_b2sR h | exact fun h => xSu h | exact fun h => o_box h | exact fun h => xVZ h | exact fun h => xSy h | exact fun h => o_s2b h | exact fun h => xVP h | exact fun h => xVW h | exact fun h => o_not h | exact fun h => xVQ h | exact fun h => xVR h | exact fun h => xVY h | exact fun h => xQZ h | exact fun h => xSx h | exact fun h => o_eqb h | exact fun h => o_eqc h | exact fun h => o_nilc h | exact fun h => xVU h | exact fun h => o_fn h | exact fun h => o_lenS h | exact fun h => o_cstr h | exact fun h => xSr h | exact fun h => skF h | exact fun h => skU h) : A := s h
variable {P : Program}
theorem vcs {f nt : Nat} {vc : VCode} {rs : List RV} {args : List PV} {hin : List Blk} {v : PV} {hout : List Blk} (hvf : VF P f = some (nt, vc, rs))
    (h : CT P nt vc (fun e s => (e = .normal ∨ e = .ret) ∧ Out rs hin.length v hout s) ⟨1, xHM 0 args, xGJ 0 hin⟩) (hlen : args.length ≤ nt := by exact Nat.le_of_ble_eq_true rfl) (hnt : ∀ vs, v = .tup vs → ∀ p ∈ vs, ∀ q, p ≠ .tup q := by (intro vs h; cases h)) : VC P f args hin v hout := xBV hvf h hlen hnt
end Go.V
set_option linter.unusedVariables false
set_option linter.unusedSimpArgs false
namespace Go.V
abbrev encK (k : Int) : List PV := [.int .i64 k, .bool true]
theorem mfK (k : Int) : ∀ ks : List Int, xQm 1 (.int .i64 k) (ks.map encK) = some (if ks.contains k then some (.bool true) else none)
  | [] => rfl
  | x :: ks => by
    simp only [List.map_cons, xQm, xB3, if_true, Option.bind_some]
    rw [mfK k ks]
    by_cases h : k = x
    · subst h; simp
    · have h1 : (k == x) = false := by simpa using h
      rw [h1]
      simp [h]
theorem mpK (k : Int) : ∀ ks : List Int, mput 1 (.int .i64 k) (.bool true) (ks.map encK) = some ((if ks.contains k then ks else ks ++ [k]).map encK)
  | [] => rfl
  | x :: ks => by
    simp only [List.map_cons, mput, xB3, if_true, Option.bind_some]
    by_cases h : k = x
    · subst h; simp
    · have h1 : (k == x) = false := by simpa using h
      rw [h1]
      simp only
      rw [mpK k ks]
      simp only [Option.map_some, List.contains_cons, h1, Bool.false_or, Option.some.injEq]
      split <;> simp
section
variable {lvl site : Nat} {tf : TF} {hf : HF} {x y z : VX} {b : Bid} {k : Int} {ks : List Int}
theorem xLb (es : List (List PV)) : xOq (xBF es) = some es := rfl
theorem vmpL (hx : ev tf x = some (.mapr b) := by rfl) (hk : ev tf y = some (.int .i64 k) := by rfl) (hb : hf b = some (xBF (ks.map encK)) := by rfl) : vop lvl site tf hf (.mlook 1 (.bool false) false x y) = some ⟨.bool (ks.contains k), [], [b]⟩ := by
  simp only [vop, hx, hk, hb, Option.bind_some]
  rw [if_pos ⟨by simp [xOv, xB3], rfl⟩]
  simp only [xLb, Option.bind_some, mfK, Option.map_some]
  cases ks.contains k <;> rfl
theorem vmpS (hx : ev tf x = some (.mapr b) := by rfl) (hk : ev tf y = some (.int .i64 k) := by rfl) (hv : ev tf z = some (.bool true) := by rfl) (hb : hf b = some (xBF (ks.map encK)) := by rfl) (hn : ks.contains k = false := by assumption) :
    vop lvl site tf hf (.mset 1 x y z) = some ⟨.dead, [(b, xBF ((ks ++ [k]).map encK))], [b]⟩ := by
  simp only [vop, hx, hk, hv, hb, Option.bind_some]
  rw [if_pos ⟨by simp [xOv, xB3], rfl⟩]
  simp only [xLb, Option.bind_some, mpK, Option.map_some, hn]
  rfl
theorem vmpN (hf0 : hf ⟨lvl, site⟩ = none := by rfl) : vop lvl site tf hf .mkmap = some ⟨.mapr ⟨lvl, site⟩, [(⟨lvl, site⟩, xBF (([] : List Int).map encK))], []⟩ := by
  simp only [vop, hf0, if_true]
  rfl
end
end Go.V
set_option linter.unusedVariables false
set_option linter.unusedSimpArgs false
namespace Go.V
theorem Imp.frz {s : St} {c : Bid} {N esz : Nat} {fz : Bool} {els : List (List PV)} (hc : hget s.heap c = some ⟨false, fz, esz, els⟩) : Imp s ⟨s.lvl, s.tmps, hset s.heap c ⟨false, true, esz, els⟩⟩ := by
  rintro Γ nt a w ⟨F, μ, d1, d2, hI, hT, hK, hlv⟩
  have hl : xCZ (hget s.heap) [] (.own c els.length 0 els.length) = some ([c], .sh false els) := xAZ hc rfl
  obtain ⟨g1, g2⟩ := Inv.freezes [c] hI (xE9 hl)
  have hfr : frozen (hget s.heap) [c] = [(c, ⟨false, true, esz, els⟩)] := by simp [frozen, hc]
  rw [hfr] at g1 g2
  have hh : hget (hset s.heap c ⟨false, true, esz, els⟩) = xAj (hget s.heap) [(c, ⟨false, true, esz, els⟩)] := by
    funext x
    rw [xA9]; rfl
  refine ⟨xBn F μ [c], μ, d1.keeps g2, d2, by rw [hh]; exact g1, fun t' v h => ?_, by rw [hh]; exact hK.tr g2, hlv⟩
  rw [hh]
  exact (hT t' v h).keeps g2
section
variable {P : Program} {nt : Nat} {os : List VOper} {acc : List Foot} {K : St → Prop} {s s0 : St}
end
end Go.V
set_option linter.unusedVariables false
set_option linter.unusedSimpArgs false
namespace Go.V
section
variable {P : Program} {Γ : Ctx} {F : Nat → Prop} {μ : Bid → Option Nat} {hf : HF} {w : World}
theorem Inv.freezeB (hI : Inv Γ F μ hf w) {b : Bid} {B : Blk} (hb : hf b = some B) (hl1 : B.els.length = 1) (hcl : ∀ e ∈ B.els, ∀ c ∈ e, closed c = true) :
    Inv Γ (fun k => F k ∨ μ b = some k) μ (updH hf b { B with frz := true }) w ∧ Keeps F μ hf w (fun k => F k ∨ μ b = some k) μ (updH hf b { B with frz := true }) w := by
  have hB := hI.blk b B hb
  have h := hI.upd (w' := w) b { B with frz := true } (μ b) (fun k' => F k' ∨ μ b = some k') rfl rfl rfl (Nat.le_refl _) (fun _ _ _ => rfl) (fun k => by simp) (.inl ⟨B, hb, rfl⟩) (fun _ _ _ => rfl) (fun B1 h1 => by
      rw [hb] at h1; cases h1
      exact ⟨rfl, Nat.le_refl _, fun _ => ⟨rfl, rfl, fun _ _ => rfl⟩⟩) (fun hK => ⟨⟨hB.1.1, xDW hB.1.2 rfl rfl rfl (by simp [updM]) (fun _ _ => rfl)⟩, hB.2.1, fun _ => hcl, fun _ => .inl hl1, by
      have hmm : updM μ b (μ b) b = μ b := by simp [updM]
      rw [hmm]
      have h5 := hB.2.2.2.2
      cases hm : μ b with
      | none => rw [hm] at h5; exact h5
      | some k =>
        rw [hm] at h5
        obtain ⟨f1, f2, c, e, fz, hc, hfz, hl, hr⟩ := hB.cells hm (fun _ => hl1)
        refine ⟨fun _ => .inr rfl, fun h => by simp at h, .inl ⟨c, e, fz, hc, hfz, hl, fun i j el p h1 h2 => ?_⟩⟩
        obtain ⟨x, hx, hs⟩ := hr i j el p h1 h2
        exact ⟨x, hx, hs.keeps (by rw [← hm]; exact hK)⟩⟩)
  have hmu : updM μ b (μ b) = μ := xHm rfl
  rw [hmu] at h
  exact h
theorem Imp.wrp {s : St} {t : Nat} {b : Bid} {n : Nat} {row : List PV} (ht : tget s.tmps t = some (.ptr b 1 0 0)) (hb : hget s.heap b = some ⟨true, false, n, [row]⟩) (hc : row.all closed = true) :
    Imp s ⟨s.lvl, tset s.tmps t (.sptr [row] 0 0), hset s.heap b ⟨true, true, n, [row]⟩⟩ := by
  rintro Γ nt a w ⟨F, μ, d1, d2, hI, hT, hK, hlv⟩
  have hcl : ∀ e ∈ [row], ∀ c ∈ e, closed c = true := fun e he c hx => by
    rw [List.mem_singleton] at he
    subst he
    exact List.all_eq_true.1 hc c hx
  obtain ⟨g1, g2⟩ := hI.freezeB hb rfl hcl
  have hh : hget (hset s.heap b ⟨true, true, n, [row]⟩) = updH (hget s.heap) b ⟨true, true, n, [row]⟩ := by
    funext x
    rw [xA9]; rfl
  refine ⟨_, μ, d1.keeps g2, d2, by rw [hh]; exact g1, fun t' v h => ?_, by rw [hh]; exact hK.tr g2, hlv⟩
  rw [hh]
  rw [xDB] at h
  split at h
  · rename_i he
    cases h
    subst he
    obtain ⟨_, B, hB, _, hp⟩ := xEN (hT _ _ ht)
    rw [hb] at hB
    cases hB
    have hBR := hI.blk _ _ hb
    cases hm : μ b with
    | none =>
      have := hBR.2.2.2.2
      rw [hm] at this
      simp at this
    | some k =>
      have hv := hp rfl k hm
      obtain ⟨f1, f2, c, e, fz, hcell, hfz, hl, hr⟩ := hBR.cells hm (fun _ => rfl)
      have hrow : row.length = n := hBR.2.1 row (by simp)
      rw [hv]
      have fin := CRel.sptr (F := fun k' => F k' ∨ some k = some k') (w := w) [row] 0 0 k 0 n (fun i j => (c[i * n + j]?).getD undef) (.inr rfl) hBR.1.1 (fun e he => by rw [List.mem_singleton.1 he]; exact hrow) (fun i j el p h1 h2 => by
        obtain ⟨x, hx, _⟩ := hr i j el p h1 h2
        simp only at hx ⊢
        rw [cell_of_row w k _ c e fz hcell, Nat.zero_add, hx]
        rfl) (fun i j el p h1 h2 => by
        obtain ⟨x, hx, hs⟩ := hr i j el p h1 h2
        simp only at hx ⊢
        rw [hx, Option.getD_some]
        exact ((SRel.of_closed (hcl el (List.mem_of_getElem? h1) p (List.mem_of_getElem? h2))).1 hs).mono (fun _ h => .inl h) (fun _ _ => rfl))
      have e0 : 0 * n + 0 = 0 := by simp
      rw [Nat.zero_mul, Nat.zero_add] at fin
      show CRel (fun k' => F k' ∨ some k = some k') w (.sptr [row] 0 0) (.pointer (some ⟨k, 0 * n + 0, none⟩))
      rw [e0]
      exact fin
  · exact (hT t' v h).keeps g2
end
theorem xFI {lvl : Nat} {tm tm' : Tmps} {hp hp' : Heap} (h1 : xJD tm tm' := by repeat' first | exact trivial | apply And.intro | rfl | (simp; done))
  (h2 : xFq hp hp' := by repeat' first | exact trivial | apply And.intro | rfl | (simp; done))
  (h3 : xM6 hp' tm' := by repeat' first | exact trivial | apply And.intro | exact xF2 | exact xNg rfl | exact xA8 rfl | exact xA8 (Sl.closed (by assumption)) | exact xA8 (by assumption))
  (h4 : xJA hp' hp' := by repeat' first | exact trivial | apply And.intro | exact xF2 | exact xNg rfl | exact xA8 rfl)
  (h5 : xGB hp' hp := by repeat' first | exact trivial | apply And.intro | (intro h; first | exact absurd h (by decide) | exact absurd h (Nat.succ_ne_zero _) | rfl)) : Imp ⟨lvl, tm, hp⟩ ⟨lvl, tm', hp'⟩ := Imp.to h1 h2 h3 h4 h5
theorem Imp.wkT {s : St} {t : Nat} {p q : PV} (ht : tget s.tmps t = some p) (hl : PLe p q) : Imp s ⟨s.lvl, tset s.tmps t q, s.heap⟩ := by
  rintro Γ nt a w ⟨F, μ, d1, d2, hI, hT, hK, hlv⟩
  refine ⟨F, μ, d1, d2, hI, fun t' v h => ?_, hK, hlv⟩
  rw [xDB] at h
  split at h
  · rename_i he
    cases h
    subst he
    exact hl _ _ _ _ _ (hT _ _ ht)
  · exact hT t' v h
end Go.V
