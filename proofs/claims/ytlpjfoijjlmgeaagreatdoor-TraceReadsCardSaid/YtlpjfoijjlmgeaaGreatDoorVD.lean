/- The value machine: run by a program, for what is closed. What it comes to holds of the model's code. -/
import Derived.Test.YtlpjfoijjlmgeaaGreatDoorVC
import Derived.KernelRfl
import Derived.ProofKit
import Derived.OpenShut
import Derived.Below
import Derived.Laws.Externs
import Derived.Lib.Bytealg
import Derived.LoopNIn
set_option linter.unusedVariables false
set_option linter.unusedSimpArgs false
namespace Go.V
section
variable {σ τ : Bid → Bid}
theorem xK8 (hi : ∀ x, τ (σ x) = x) {x y : Bid} (h : σ x = σ y) : x = y := by rw [← hi x, ← hi y, h]
theorem xKB (hi : ∀ x, τ (σ x) = x) : ∀ (l : Heap) (b : Bid), hget (renH σ l) (σ b) = (hget l b).map (mapB σ)
  | [], b => rfl
  | (c, B) :: l, b => by
    have ih := xKB hi l b
    simp only [renH, List.map_cons, xAz] at ih ⊢
    by_cases he : c = b
    · subst he; simp
    · have : ¬ σ c = σ b := fun e => he (xK8 hi e)
      rw [if_neg this, if_neg he]
      exact ih
theorem xIJ : ∀ (l : Heap) (b : Bid) (B : Blk), hget (renH σ l) b = some B → ∃ c, b = σ c
  | [], b, B, h => by cases h
  | (c, C) :: l, b, B, h => by
    simp only [renH, List.map_cons, xAz] at h
    split at h
    · rename_i he; exact ⟨c, he.symm⟩
    · exact xIJ l b B h
theorem Imp.renL {s : St} (hi : ∀ x, τ (σ x) = x) (h0 : ∀ x : Bid, x.lvl = 0 → σ x = x) : Imp s ⟨s.lvl, renT σ s.tmps, renH σ s.heap⟩ := by
  rintro Γ nt a w ⟨F, μ, d1, d2, hI, hT, hK, hlv⟩
  have hget' : ∀ x, hget (renH σ s.heap) (σ x) = (hget s.heap x).map (mapB σ) := fun x => xKB hi _ x
  let μ2 : Bid → Option Nat := fun x => μ (τ x)
  have hmu : ∀ x, μ2 (σ x) = μ x := fun x => by simp [μ2, hi]
  have hnamed : ∀ x B, hget s.heap x = some B → xCG μ (hget s.heap) μ2 (hget (renH σ s.heap)) x (σ x) := by
    intro x B hB
    exact ⟨hmu x, fun B' hB' => ⟨mapB σ B', by rw [hget', hB']; rfl, mapB_box, mapB_len, mapB_esz⟩⟩
  have hof : ∀ x B, hget (renH σ s.heap) x = some B → ∃ c B0, x = σ c ∧ hget s.heap c = some B0 ∧ B = mapB σ B0 := by
    intro x B h
    obtain ⟨c, rfl⟩ := xIJ _ _ _ h
    rw [hget'] at h
    obtain ⟨B0, h1, h2⟩ := map_some h
    exact ⟨c, B0, rfl, h1, h2.symm⟩
  refine ⟨F, μ2, d1, d2, ⟨hI.os, hI.tape, hI.output, hI.size, hI.frame, hI.lt, hI.F0, hI.new, fun x B h => ?_, fun x y B B' k h1 h2 m1 m2 => ?_, fun x B k h m => ?_, hI.gl⟩, fun t p h => ?_, ?_, hlv⟩
  · obtain ⟨c, B0, rfl, h1, rfl⟩ := hof x B h
    exact xIt hnamed h1 (.inr fun _ h => h) (fun _ h => h) (hI.blk _ _ h1)
  · obtain ⟨c, B0, rfl, g1, _⟩ := hof x B h1
    obtain ⟨d, B1, rfl, g2, _⟩ := hof y B' h2
    rw [hmu] at m1 m2
    rw [hI.inj _ _ _ _ k g1 g2 m1 m2]
  · obtain ⟨c, B0, rfl, g1, _⟩ := hof x B h
    rw [hmu] at m
    exact hI.own _ _ k g1 m
  · simp only [xE5] at h
    obtain ⟨q, hq, rfl⟩ := map_some h
    exact xFB hnamed (.inr fun _ h => h) (hT t q hq)
  · refine ⟨hK.sub, hK.mem, hK.fre, fun x B h => ?_⟩
    have hx := h0 x (hlv.1 x B h)
    obtain ⟨B', hB', g1, g2, g3⟩ := hK.ext x B h
    have : hget (renH σ s.heap) x = some (mapB σ B') := by
      have := hget' x
      rw [hx] at this
      rw [this, hB']; rfl
    refine ⟨mapB σ B', this, mapB_box.trans g1, by rw [mapB_len]; exact g2, ?_⟩
    rw [mapB_len, mapB_esz]
    have hm : μ2 x = μ x := by have := hmu x; rwa [hx] at this
    rw [hm]
    exact g3
end
def shB (M : Nat) (b : Bid) : Bid := match b.lvl with | 0 => b | l + 1 => ⟨l + 1, b.site + M⟩
def unB (M : Nat) (b : Bid) : Bid := match b.lvl with | 0 => b | l + 1 => ⟨l + 1, b.site - M⟩
theorem xRo (M : Nat) (b : Bid) : unB M (shB M b) = b := by
  obtain ⟨l, s⟩ := b
  cases l <;> simp [shB, unB]
def dedT : Tmps → Tmps
  | [] => []
  | (t, v) :: r => (t, v) :: (dedT r).filter fun p => !Nat.beq p.1 t
def dedH : Heap → Heap
  | [] => []
  | (b, B) :: r => (b, B) :: (dedH r).filter fun p => !beqB p.1 b
theorem xGg (t0 : Nat) : ∀ (l : Tmps) (t : Nat), t ≠ t0 → tget (l.filter fun p => !Nat.beq p.1 t0) t = tget l t
  | [], t, _ => rfl
  | (c, v) :: l, t, h => by
    simp only [List.filter_cons]
    split
    · simp only [xBJ, xGg t0 l t h]
    · rename_i hc
      have : c = t0 := by simpa [Nat.beq_eq] using hc
      rw [xGg t0 l t h, xBJ, if_neg (fun e => h (e.symm.trans this))]
theorem xJO : ∀ (l : Tmps), tget (dedT l) = tget l
  | [] => rfl
  | (c, v) :: l => by
    funext t
    simp only [dedT, xBJ]
    split
    · rfl
    · rename_i h
      rw [xGg c _ t (fun e => h e.symm), xJO l]
theorem xHN (b0 : Bid) : ∀ (l : Heap) (b : Bid), b ≠ b0 → hget (l.filter fun p => !beqB p.1 b0) b = hget l b
  | [], t, _ => rfl
  | (c, v) :: l, t, h => by
    simp only [List.filter_cons]
    split
    · simp only [xAz, xHN b0 l t h]
    · rename_i hc
      have : c = b0 := by simpa [beqB_iff] using hc
      rw [xHN b0 l t h, xAz, if_neg (fun e => h (e.symm.trans this))]
theorem xKC : ∀ (l : Heap), hget (dedH l) = hget l
  | [] => rfl
  | (c, v) :: l => by
    funext t
    simp only [dedH, xAz]
    split
    · rfl
    · rename_i h
      rw [xHN c _ t (fun e => h e.symm), xKC l]
def bigM : Nat := 1099511627776
def norm (s : St) : St := ⟨s.lvl, dedT (renT (shB bigM) s.tmps), dedH (renH (shB bigM) s.heap)⟩
theorem xIq (s : St) : Imp s (norm s) := by
  have h := Imp.renL (s := s) (σ := shB bigM) (τ := unB bigM) (xRo bigM) (fun x hx => by obtain ⟨l, q⟩ := x; simp only at hx; subst hx; rfl)
  intro Γ nt a w hR
  have := h Γ nt a w hR
  show RS Γ nt (tget (dedT _)) (hget (dedH _)) a w
  rw [xJO, xKC]
  exact this
theorem Imp.wr {s : St} {t : Nat} {p q : PV} {rd : List Bid} (ht : tget s.tmps t = some p) (hl : xCR (hget s.heap) [] p = some (rd, q)) : Imp s ⟨s.lvl, tset s.tmps t q, hput s.heap (frozen (hget s.heap) rd)⟩ := by
  rintro Γ nt a w ⟨F, μ, d1, d2, hI, hT, hK, hlv⟩
  obtain ⟨g1, g2⟩ := Inv.freezes rd hI (xET hl)
  refine ⟨xBY F μ rd, μ, d1.keeps g2, d2, by rw [xCv]; exact g1, fun t' v h => ?_, by rw [xCv]; exact hK.tr g2, hlv⟩
  rw [xCv]
  rw [xDx] at h
  split at h
  · rename_i he
    cases h
    subst he
    exact xEA hI hl (hT _ _ ht)
  · exact (hT t' v h).keeps g2
def xLZ : PV → Bool
  | .own _ _ _ _ => true
  | .agg cs => cs.any fun | .own _ _ _ _ => true | _ => false
  | _ => false
def xEz : List Nat → St → St
  | [], s => s
  | t :: ts, s => match tget s.tmps t with
    | some p => (match xLZ p with
      | true => (match xCR (hget s.heap) [] p with
        | some (rd, q) => xEz ts ⟨s.lvl, tset s.tmps t q, hput s.heap (frozen (hget s.heap) rd)⟩
        | none => xEz ts s)
      | false => xEz ts s)
    | none => xEz ts s
theorem xCx : ∀ (ts : List Nat) (s : St), Imp s (xEz ts s)
  | [], s => Imp.refl s
  | t :: ts, s => by
    simp only [xEz]
    split
    · rename_i p hp
      split
      · split
        · rename_i rd q hl
          exact (Imp.wr hp hl).trans (xCx ts _)
        · exact xCx ts s
      · exact xCx ts s
    · exact xCx ts s
def xOr {α : Type} : List (Option α) → Option α
  | [] => none
  | some a :: _ => some a
  | none :: r => xOr r
def exW (one : TF → HF → Option Res) : List Nat → TF → HF → Option Res
  | [], tf, hf => one tf hf
  | n :: ns, tf, hf => (tf n).bind fun p => (xCR hf [] p).bind fun (rd, q) => (exW one ns (putF tf (some n) q) (xAe hf (frozen hf rd))).map fun r' => ⟨r'.v, frozen hf rd ++ r'.ws, rd ++ r'.rd⟩
def ownTs (tf : TF) (l : List Nat) : List Nat := l.filter fun t => match tf t with | some v => xLZ v | none => false
def grow (hf : HF) : Nat → List Bid → List Bid → List Bid
  | 0, _, acc => acc
  | _, [], acc => acc
  | n + 1, b :: todo, acc => match acc.any (beqB b) with
    | true => grow hf n todo acc
    | false => grow hf n ((match hf b with | some B => xEf B | none => []) ++ todo) (acc ++ [b])
def ptrsS : PV → List Bid
  | .ptr b _ _ _ => [b]
  | .fn _ cs => cs.flatMap xBF
  | _ => []
def ptrsV : PV → List Bid
  | .agg cs => cs.flatMap ptrsS
  | v => ptrsS v
def xJo : List Bid → Bool
  | [] => true
  | b :: r => !r.any (beqB b) && xJo r
theorem xDh : ∀ {l : List Bid}, xJo l = true → l.Nodup
  | [], _ => List.nodup_nil
  | b :: r, h => by
    simp only [xJo, Bool.and_eq_true, Bool.not_eq_true'] at h
    refine List.nodup_cons.2 ⟨fun hm => ?_, xDh h.2⟩
    have : r.any (beqB b) = true := List.any_eq_true.2 ⟨b, hm, beqB_iff.2 rfl⟩
    rw [this] at h
    cases h.1
abbrev Call := Nat → List PV → List Blk → Option (PV × List Blk)
def xRb (v : PV) (hr : List Blk) : Bool := cV v && hr.all fun B => !B.frz && B.els.all fun e => e.all cS
def xQg (hf : HF) (lvl site : Nat) : Nat → Bool
  | 0 => true
  | n + 1 => (hf ⟨lvl, site + n⟩).isNone && xQg hf lvl site n
def xEF (call : Call) (lvl site : Nat) (hf : HF) (fid : Nat) (all : List PV) (lent : List Bid) (mustClean : Bool) : Option Res :=
  (xBe hf lent all).bind fun (rd, qs) => (xBz hf lent lent).bind fun hin =>
  match xJo lent && lent.all (fun b => !rd.any (beqB b)) with
  | false => none
  | true => (call fid qs hin).bind fun (v, hout) =>
    match xQg hf lvl site (hout.length - lent.length) with
    | false => none
    | true => match xRb v hout with
      | true => some ⟨mapV (xBI lent lvl site) v, named (xBI lent lvl site) 0 hout, rd ++ lent⟩
      | false => match mustClean with
        | true => none
        | false => some ⟨mapV (xBI lent lvl site) v, frozen hf rd ++ named (xBI lent lvl site) 0 hout, rd ++ lent⟩
def xRW (call : Call) (xcall : Nat → List PV → Option PV) (lvl site : Nat) (f : VX) (xs : List VX) (tf : TF) (hf : HF) : List (Option Res) :=
  match ev tf f, evs tf xs with
  | some (.fn f' caps), some ps =>
    let fid := fnId f'
    let all := caps.take (fnN f') ++ (ps ++ caps.drop (fnN f'))
    match xcall fid all with
    | some v => [some ⟨v, [], []⟩]
    | none =>
      let l1 := grow hf 1000 (all.flatMap ptrsV) []
      let l2 := grow hf 1000 (all.flatMap xBE) []
      [xEF call lvl site hf fid all l1 true, xEF call lvl site hf fid all l2 false, xEF call lvl site hf fid all l1 false]
  | some (.mth tbl), some (.ifc t cs :: ps) =>
    match look tbl t with
    | some fid =>
      let l1 := grow hf 1000 (ps.flatMap ptrsV) []
      let l2 := grow hf 1000 (ps.flatMap xBE) []
      [xEF call lvl site hf fid (.agg cs :: ps) l1 true, xEF call lvl site hf fid (.agg cs :: ps) l2 false, xEF call lvl site hf fid (.agg cs :: ps) l1 false]
    | none => []
  | _, _ => []
def exOp (call : Call) (xcall : Nat → List PV → Option PV) (lvl site : Nat) (op : VOp) (tf : TF) (hf : HF) : List (Option (List Nat × Res)) :=
  match op with
  | .call f xs => (xRW call xcall lvl site f xs tf hf).map fun o => o.map fun r => ([], r)
  | op => [(vop lvl site tf hf op).map fun r => ([], r), (let ns := ownTs tf (op.operands.flatMap VX.tmps); (exW (fun tf hf => vop lvl site tf hf op) ns tf hf).map fun r => (ns, r))]
def xN7 (draw : Bool) (pre : List Nat) (acc : List Foot) : List (Option (List Nat × Res)) → Option (List Nat × Res)
  | [] => none
  | none :: l => xN7 draw pre acc l
  | some r :: l => match !draw || xAn pre (foot r.2) 0 acc with
    | true => some r
    | false => xN7 draw pre acc l
def xKG (call : Call) (xcall : Nat → List PV → Option PV) (draw : Bool) : List VOper → List Foot → St → Option St
  | [], _, s => some s
  | o :: os, acc, s => match xCS o (tget s.tmps) with
    | some false => xKG call xcall draw os (match draw with | true => acc ++ [([], [])] | false => []) ⟨s.lvl, tput s.tmps o.dst (.tup []), s.heap⟩
    | some true => match xN7 draw o.pre acc (exOp call xcall s.lvl o.site o.op (tget s.tmps) (hget s.heap)) with
      | some r => xKG call xcall draw os (match draw with | true => acc ++ [foot r.2] | false => []) ⟨s.lvl, tput s.tmps o.dst r.2.v, hput s.heap r.2.ws⟩
      | none => none
    | none => none
def iter (f : St → Option (Exit × St)) : Nat → St → Option (Exit × St)
  | 0, _ => none
  | n + 1, s => match f (norm s) with
    | some (.normal, s') => iter f n s'
    | r => r
def exC (call : Call) (xcall : Nat → List PV → Option PV) (fuel : Nat) : VCode → St → Option (Exit × St)
  | .skip, s => some (.normal, s)
  | .region _ d vs, s => match xKG call xcall d vs [] s with
    | some s' => some (.normal, s')
    | none => match d with
      | true => (xKG call xcall true vs [] (xEz ((dedT s.tmps).map (·.1)) s)).map fun s' => (.normal, s')
      | false => none
  | .seq a b, s => match exC call xcall fuel a s with
    | some (.normal, s') => exC call xcall fuel b s'
    | r => r
  | .cond c a b, s => match ev (tget s.tmps) c with
    | some (.bool true) => exC call xcall fuel a s
    | some (.bool false) => exC call xcall fuel b s
    | _ => none
  | .block id a, s => match exC call xcall fuel a s with
    | some (.exit i, s') => (match Nat.beq i id with | true => some (.normal, s') | false => some (.exit i, s'))
    | r => r
  | .loop a, s => iter (exC call xcall fuel a) fuel s
  | .exit id, s => some (.exit id, s)
  | .scope a, s => match exC call xcall fuel a s with
    | some (.goto _, _) => none
    | r => r
  | .label _, s => some (.normal, s)
  | .ret, s => some (.ret, s)
  | .range _ _ _ _, _ => none
  | .bad, _ => none
def posB (b : Bid) : List Bid → Nat → Option Nat
  | [], _ => none
  | c :: r, i => match beqB c b with | true => some i | false => posB b r (i + 1)
def xOk (n : Nat) (bs : List Bid) (b : Bid) : Bid := match b.lvl with
  | 0 => b
  | _ + 1 => match posB b bs 0 with | some i => ⟨0, n + i⟩ | none => b
def xJ0 (n : Nat) (hf : HF) : List Bid := (List.range n).flatMap fun i => match hf ⟨0, i⟩ with | some B => xEf B | none => []
def xP3 (hf : HF) (σ τ : Bid → Bid) (m : Nat) : List Bid → Option (List Blk)
  | [] => some []
  | b :: r => (hf b).bind fun B =>
    match (xEf B).all (fun c => beqB (σ (τ c)) c) && (!B.box || B.els.all fun e => e.all fun c => okS m (mapS τ c)) with
    | true => (xP3 hf σ τ m r).map (mapB τ B :: ·)
    | false => none
def isTup : PV → Bool
  | .tup _ => true
  | _ => false
def xP2 (rs : List RV) (n : Nat) (s : St) : Option (PV × List Blk) :=
  (rdT (tget s.tmps) (hget s.heap) rs).bind fun ps =>
  let bs := (grow (hget s.heap) 1000 (ps.flatMap xBE ++ xJ0 n (hget s.heap)) []).filter fun b => !Nat.beq b.lvl 0
  let v := mapV (xOk n bs) (pack ps)
  match xJo bs && (xBE (pack ps)).all (fun c => beqB (xBl n bs (xOk n bs c)) c) && okV (n + bs.length) v && (match v with | .tup l => !l.any isTup | _ => true) with
  | true => (xP3 (hget s.heap) (xBl n bs) (xOk n bs) (n + bs.length) ((List.range n).map (fun i => (⟨0, i⟩ : Bid)) ++ bs)).map fun hout => (v, hout)
  | false => none
def run (P : Program) (orc : Call) (xcall : Nat → List PV → Option PV) (fuel : Nat) : Nat → Call
  | 0 => orc
  | d + 1 => fun f args hin => match orc f args hin with
    | some r => some r
    | none => (VF P f).bind fun (nt, vc, rs) =>
      match exC (run P orc xcall fuel d) xcall fuel vc ⟨1, xGL 0 args, xFM 0 hin⟩ with
      | some (.normal, s) => (match Nat.ble args.length nt with | true => xP2 rs hin.length s | false => none)
      | some (.ret, s) => (match Nat.ble args.length nt with | true => xP2 rs hin.length s | false => none)
      | _ => none
theorem xLz {σ τ : Bid → Bid} {p : PV} (h : ∀ b ∈ xBF p, σ (τ b) = b) : mapN σ (mapN τ p) = p := by
  cases p <;> first
    | rfl
    | (simp only [mapN]; rw [h _ (by simp [xBF])])
theorem xFD {σ τ : Bid → Bid} : ∀ {l : List PV}, (∀ b ∈ l.flatMap xBF, σ (τ b) = b) → (l.map (mapN τ)).map (mapN σ) = l
  | [], _ => rfl
  | p :: l, h => by
    simp only [List.flatMap_cons, List.mem_append] at h
    simp only [List.map_cons]
    rw [xLz (fun b hb => h b (.inl hb)), xFD (fun b hb => h b (.inr hb))]
theorem xQN {σ τ : Bid → Bid} {p : PV} (h : ∀ b ∈ xBU p, σ (τ b) = b) : mapS σ (mapS τ p) = p := by
  have one : ∀ q : PV, (∀ b ∈ xBF q, σ (τ b) = b) → mapN σ (mapN τ q) = q := fun q => xLz
  cases p <;> first
    | rfl
    | (simp only [mapS, mapN]; rw [h _ (by simp [xBU, xBF])])
    | (simp only [mapS]; rw [xFD h])
theorem xFC {σ τ : Bid → Bid} : ∀ {l : List PV}, (∀ b ∈ l.flatMap xBU, σ (τ b) = b) → (l.map (mapS τ)).map (mapS σ) = l
  | [], _ => rfl
  | p :: l, h => by
    simp only [List.flatMap_cons, List.mem_append] at h
    simp only [List.map_cons]
    rw [xQN (fun b hb => h b (.inl hb)), xFC (fun b hb => h b (.inr hb))]
theorem xQS {σ τ : Bid → Bid} {p : PV} (h : ∀ b ∈ xCQ p, σ (τ b) = b) : mapA σ (mapA τ p) = p := by
  cases p <;> first
    | rfl
    | (simp only [mapA, mapS, mapN]; rw [h _ (by simp [xCQ, xBU, xBF])])
    | (simp only [mapA, mapS]; rw [xFD h])
    | (simp only [mapA]; rw [xFC h])
theorem xJy {σ τ : Bid → Bid} : ∀ {l : List PV}, (∀ b ∈ l.flatMap xCQ, σ (τ b) = b) → (l.map (mapA τ)).map (mapA σ) = l
  | [], _ => rfl
  | p :: l, h => by
    simp only [List.flatMap_cons, List.mem_append] at h
    simp only [List.map_cons]
    rw [xQS (fun b hb => h b (.inl hb)), xJy (fun b hb => h b (.inr hb))]
theorem xQL {σ τ : Bid → Bid} {p : PV} (h : ∀ b ∈ xBE p, σ (τ b) = b) : mapV σ (mapV τ p) = p := by
  cases p <;> first
    | rfl
    | (simp only [mapV, mapA, mapS, mapN]; rw [h _ (by simp [xBE, xCQ, xBU, xBF])])
    | (simp only [mapV, mapA, mapS]; rw [xFD h])
    | (simp only [mapV, mapA]; rw [xFC h])
    | (simp only [mapV]; rw [xJy h])
theorem xQQ {σ τ : Bid → Bid} {B : Blk} (h : ∀ b ∈ xEf B, σ (τ b) = b) : mapB σ (mapB τ B) = B := by
  obtain ⟨bx, fz, esz, els⟩ := B
  cases bx with
  | false => rfl
  | true =>
    simp only [mapB, if_true, Blk.mk.injEq, true_and]
    simp only [xEf, if_true] at h
    rw [List.map_map]
    refine (List.map_congr_left (g := id) fun e he => ?_).trans (by simp)
    show (e.map (mapS τ)).map (mapS σ) = e
    exact xFC fun b hb => h b (List.mem_flatMap.2 ⟨e, he, hb⟩)
theorem xH5 {h : Heap} {σ τ : Bid → Bid} {m : Nat} : ∀ {l : List Bid} {hout : List Blk} (i : Nat), xP3 (hget h) σ τ m l = some hout → (∀ k b, l[k]? = some b → σ ⟨0, i + k⟩ = b) → hout.length = l.length ∧ outH σ m h i hout
  | [], hout, i, ho, _ => by cases ho; exact ⟨rfl, trivial⟩
  | b :: l, hout, i, ho, hs => by
    simp only [xP3] at ho
    obtain ⟨B, hB, ho⟩ := bind_some ho
    split at ho
    · rename_i hc
      obtain ⟨r, hr, rfl⟩ := map_some ho
      simp only [Bool.and_eq_true, List.all_eq_true, Bool.or_eq_true, Bool.not_eq_true'] at hc
      obtain ⟨g1, g2⟩ := xH5 (i + 1) hr (fun k c hk => by rw [show i + 1 + k = i + (k + 1) by omega]; exact hs (k + 1) c (by simpa using hk))
      refine ⟨by simp [g1], ?_, fun hbx e he c hcm => ?_, g2⟩
      · have := hs 0 b rfl
        rw [Nat.add_zero] at this
        rw [this, hB, xQQ (fun c hcm => beqB_iff.1 (hc.1 c hcm))]
      · rw [mapB_box] at hbx
        unfold mapB at he
        rw [if_pos hbx] at he
        obtain ⟨e0, he0, rfl⟩ := List.mem_map.1 he
        obtain ⟨c0, hc0, rfl⟩ := List.mem_map.1 hcm
        rcases hc.2 with h2 | h2
        · rw [hbx] at h2; cases h2
        · exact h2 e0 he0 c0 hc0
    · cases ho
theorem xH4 {rs : List RV} {n : Nat} {s : St} {v : PV} {hout : List Blk} (h : xP2 rs n s = some (v, hout)) : Out rs n v hout s ∧ ∀ vs, v = .tup vs → ∀ p ∈ vs, ∀ q, p ≠ .tup q := by
  simp only [xP2] at h
  obtain ⟨ps, hps, h⟩ := bind_some h
  generalize hbs : (grow (hget s.heap) 1000 (ps.flatMap xBE ++ xJ0 n (hget s.heap)) []).filter (fun b => !Nat.beq b.lvl 0) = bs at h
  split at h
  · rename_i hc
    obtain ⟨ho, hho, he⟩ := map_some h
    cases he
    simp only [Bool.and_eq_true, List.all_eq_true] at hc
    obtain ⟨⟨⟨c1, c2⟩, c3⟩, c4⟩ := hc
    obtain ⟨g1, g2⟩ := xH5 0 hho (fun k b hk => by
      rw [Nat.zero_add]
      unfold xBl
      by_cases hkn : k < n
      · rw [List.getElem?_append_left (by simpa using hkn)] at hk
        simp [hkn] at hk
        simp [hkn, hk]
      · rw [List.getElem?_append_right (by simp; omega)] at hk
        simp at hk
        simp [hkn, hk])
    have hl : hout.length = n + bs.length := by simpa using g1
    refine ⟨⟨bs, xDh c1, fun b hb h0 => ?_, hl, by rw [hl]; exact g2, by rw [hl]; exact c3, ps, hps, (xQL fun b hb => beqB_iff.1 (c2 b hb)).symm⟩, fun vs hv p hp q hq => ?_⟩
    · rw [← hbs] at hb
      have := (List.mem_filter.1 hb).2
      rw [h0] at this
      cases this
    · rw [hv] at c4
      simp only [Bool.not_eq_true', List.any_eq_false] at c4
      have := c4 p hp
      rw [hq] at this
      exact this rfl
  · cases h
section
variable {P : Program} {nt : Nat} {call : Call} {xcall : Nat → List PV → Option PV}
def xCJ (P : Program) (call : Call) : Prop := ∀ f args hin v hout, call f args hin = some (v, hout) → VC P f args hin v hout
def xKZ (P : Program) (xcall : Nat → List PV → Option PV) : Prop := ∀ hf f args v, xcall f args = some v → XC P hf f args v []
theorem xFk {hf : HF} {lvl site : Nat} : ∀ {n : Nat}, xQg hf lvl site n = true → ∀ i, i < n → hf ⟨lvl, site + i⟩ = none
  | 0, _, i, hi => by omega
  | n + 1, h, i, hi => by
    simp only [xQg, Bool.and_eq_true] at h
    by_cases he : i = n
    · subst he; simpa using h.1
    · exact xFk h.2 i (by omega)
theorem xIO (hc : xCJ P call) {lvl site : Nat} {hf : HF} {tf : TF} {fid : Nat} {all : List PV} {lent : List Bid} {mc : Bool} {r : Res} {f : VX} {xs : List VX} (ht : Targ tf f xs fid all) (h : xEF call lvl site hf fid all lent mc = some r) : xRf P lvl site tf hf f xs r := by
  simp only [xEF] at h
  obtain ⟨⟨rd, qs⟩, hl, h⟩ := bind_some h
  obtain ⟨hin, hb, h⟩ := bind_some h
  split at h
  · cases h
  rename_i hn
  simp only [Bool.and_eq_true, List.all_eq_true, Bool.not_eq_true'] at hn
  obtain ⟨⟨v, hout⟩, hv, h⟩ := bind_some h
  simp only at h
  split at h
  · cases h
  rename_i hfr
  have hdis : ∀ b ∈ lent, b ∉ rd := fun b hb hm => by
    have := hn.2 b hb
    rw [List.any_eq_true.2 ⟨b, hm, beqB_iff.2 rfl⟩] at this
    cases this
  split at h
  · rename_i hcl
    cases h
    refine ⟨lent, false, fid, all, rd, qs, hin, v, hout, ht, hl, hb, xDh hn.1, hdis, hc _ _ _ _ _ hv, fun i hi => xFk hfr i hi, fun _ => ?_, by simp⟩
    simp only [xRb, Bool.and_eq_true, List.all_eq_true, Bool.not_eq_true'] at hcl
    exact ⟨hcl.1, fun B hB => hcl.2 B hB⟩
  · split at h
    · cases h
    · cases h
      exact ⟨lent, true, fid, all, rd, qs, hin, v, hout, ht, hl, hb, xDh hn.1, hdis, hc _ _ _ _ _ hv, fun i hi => xFk hfr i hi, (fun h => by cases h), by simp⟩
theorem xRV {lvl site : Nat} {op : VOp} (hn : ∀ f xs, op ≠ .call f xs) : ∀ (ns : List Nat) (tf : TF) (hf : HF) (r : Res), (∀ n ∈ ns, n ∈ op.operands.flatMap VX.tmps) → exW (fun tf hf => vop lvl site tf hf op) ns tf hf = some r → OpC P lvl site op ns tf hf r
  | [], tf, hf, r, _, h => by
    show OpOk P lvl site tf hf op r
    cases op <;> first | exact h | exact (hn _ _ rfl).elim
  | n :: ns, tf, hf, r, hm, h => by
    simp only [exW] at h
    obtain ⟨p, hp, h⟩ := bind_some h
    obtain ⟨⟨rd, q⟩, hl, h⟩ := bind_some h
    obtain ⟨r', hr, rfl⟩ := map_some h
    exact ⟨p, rd, q, r', hm n (by simp), hp, hl, xRV hn ns _ _ r' (fun m h => hm m (by simp [h])) hr, rfl⟩
theorem xOt (hc : xCJ P call) (hx : xKZ P xcall) {lvl site : Nat} {op : VOp} {tf : TF} {hf : HF} {ns : List Nat} {r : Res} (h : some (ns, r) ∈ exOp call xcall lvl site op tf hf) : OpC P lvl site op ns tf hf r := by
  by_cases hcall : ∃ f xs, op = .call f xs
  · obtain ⟨f, xs, rfl⟩ := hcall
    simp only [exOp, List.mem_map] at h
    obtain ⟨o, ho, he⟩ := h
    cases o with
    | none => cases he
    | some r' =>
      cases he
      show OpOk P lvl site tf hf (.call f xs) r
      unfold xRW at ho
      split at ho
      · rename_i f' caps ps e1 e2
        simp only at ho
        split at ho
        · rename_i v hv
          simp only [List.mem_cons, List.not_mem_nil, or_false] at ho
          cases ho
          exact .inr ⟨fnId f', _, v, [], .bd e1 e2, hx hf _ _ _ hv, rfl⟩
        · simp only [List.mem_cons, List.not_mem_nil, or_false] at ho
          rcases ho with ho | ho | ho <;> exact .inl (xIO hc (.bd e1 e2) ho.symm)
      · rename_i tbl t cs ps e1 e2
        split at ho
        · rename_i fid e3
          simp only [List.mem_cons, List.not_mem_nil, or_false] at ho
          rcases ho with ho | ho | ho <;> exact .inl (xIO hc (.inr ⟨tbl, t, cs, ps, e1, e2, e3, rfl⟩) ho.symm)
        · simp at ho
      · simp at ho
  · have hn : ∀ f xs, op ≠ .call f xs := fun f xs h => hcall ⟨f, xs, h⟩
    have h' : some (ns, r) ∈ [(vop lvl site tf hf op).map fun r => (([] : List Nat), r), (let ns := ownTs tf (op.operands.flatMap VX.tmps); (exW (fun tf hf => vop lvl site tf hf op) ns tf hf).map fun r => (ns, r))] := by
      cases op <;> first | exact h | exact (hn _ _ rfl).elim
    simp only [List.mem_cons, List.not_mem_nil, or_false] at h'
    rcases h' with h' | h'
    · obtain ⟨r', hr, he⟩ := map_some h'.symm
      cases he
      show OpOk P lvl site tf hf op r
      cases op <;> first | exact hr | exact (hn _ _ rfl).elim
    · obtain ⟨r', hr, he⟩ := map_some h'.symm
      cases he
      exact xRV hn _ _ _ _ (fun n hm => (List.mem_filter.1 hm).1) hr
theorem xGP {draw : Bool} {pre : List Nat} {acc : List Foot} : ∀ {l : List (Option (List Nat × Res))} {x : List Nat × Res}, xN7 draw pre acc l = some x → some x ∈ l ∧ (draw = true → xAn pre (foot x.2) 0 acc = true)
  | [], x, h => by cases h
  | none :: l, x, h => by
    obtain ⟨h1, h2⟩ := xGP (l := l) h
    exact ⟨List.mem_cons_of_mem _ h1, h2⟩
  | some r :: l, x, h => by
    simp only [xN7] at h
    split at h
    · rename_i hc
      cases h
      exact ⟨List.mem_cons_self, fun hd => by rw [hd] at hc; simpa using hc⟩
    · obtain ⟨h1, h2⟩ := xGP (l := l) h
      exact ⟨List.mem_cons_of_mem _ h1, h2⟩
theorem xHU (hc : xCJ P call) (hx : xKZ P xcall) {K : St → Prop} : ∀ (os : List VOper) (acc : List Foot) (s s' : St), xKG call xcall false os acc s = some s' → K s' → SeqT P nt os K s
  | [], acc, s, s', h, hk => by cases h; exact xQ2 hk
  | o :: os, acc, s, s', h, hk => by
    simp only [xKG] at h
    split at h
    · rename_i hg
      exact xDa (r := ⟨.tup [], [], []⟩) (.inl ⟨hg, rfl⟩) (xHU hc hx os _ _ s' h hk)
    · rename_i hg
      split at h
      · rename_i r hr
        obtain ⟨h1, _⟩ := xGP hr
        exact xDa (r := r.2) (.inr ⟨hg, r.1, xOt hc hx h1⟩) (xHU hc hx os _ _ s' h hk)
      · cases h
    · cases h
theorem xEV (hc : xCJ P call) (hx : xKZ P xcall) {K : St → Prop} : ∀ (os : List VOper) (acc : List Foot) (s s' : St), xKG call xcall true os acc s = some s' → K s' → xAr P true os acc s K
  | [], acc, s, s', h, hk => by cases h; exact hk
  | o :: os, acc, s, s', h, hk => by
    simp only [xKG] at h
    split at h
    · rename_i hg
      exact .inl ⟨hg, xEV hc hx os _ _ s' h hk⟩
    · rename_i hg
      split at h
      · rename_i r hr
        obtain ⟨h1, h2⟩ := xGP hr
        exact .inr ⟨hg, r.1, r.2, xOt hc hx h1, h2, xEV hc hx os _ _ s' h hk⟩
      · cases h
    · cases h
theorem xDX (hc : xCJ P call) (hx : xKZ P xcall) {fuel : Nat} : ∀ (c : VCode) (s : St) (e : Exit) (s' : St), exC call xcall fuel c s = some (e, s') → ∀ Q : Exit → St → Prop, Q e s' → CT P nt c Q s
  | .skip, s, e, s', h, Q, hq => by cases h; exact xAB hq
  | .region id d vs, s, e, s', h, Q, hq => by
    simp only [exC] at h
    split at h
    · rename_i s1 h1
      cases h
      cases d with
      | false => exact xKL (xHU hc hx vs [] s _ h1 hq)
      | true => exact xLF (xEV hc hx vs [] s _ h1 hq)
    · cases d with
      | false => cases h
      | true =>
        obtain ⟨s1, h1, h2⟩ := map_some h
        cases h2
        exact xFN (xCx _ s) (xLF (xEV hc hx vs [] _ _ h1 hq))
  | .seq a b, s, e, s', h, Q, hq => by
    simp only [exC] at h
    split at h
    · rename_i s1 h1
      exact xBH (xDX hc hx a s _ s1 h1 _ (xDX hc hx b s1 e s' h Q hq))
    · rename_i h1
      refine xBH (xDX hc hx a s e s' h _ ?_)
      cases e with
      | normal => exact (h1 s' h).elim
      | _ => exact hq
  | .cond c a b, s, e, s', h, Q, hq => by
    simp only [exC] at h
    split at h
    · rename_i hb
      exact xHa hb (fun _ => xDX hc hx a s e s' h Q hq) (fun h => by cases h)
    · rename_i hb
      exact xHa hb (fun h => by cases h) (fun _ => xDX hc hx b s e s' h Q hq)
    · cases h
  | .block id a, s, e, s', h, Q, hq => by
    simp only [exC] at h
    split at h
    · rename_i i s1 h1
      split at h
      · rename_i hi
        cases h
        refine xA3 (xDX hc hx a s _ _ h1 _ ?_)
        show xHl id Q (.exit i) _
        simp only [xHl, hi]
        exact hq
      · rename_i hi
        cases h
        refine xA3 (xDX hc hx a s _ _ h1 _ ?_)
        show xHl id Q (.exit i) _
        simp only [xHl, hi]
        exact hq
    · rename_i h1
      refine xA3 (xDX hc hx a s e s' h _ ?_)
      cases e with
      | exit i => exact (h1 i s' h).elim
      | _ => exact hq
  | .loop a, s, e, s', h, Q, hq => by
    simp only [exC] at h
    refine xFN (xIq s) (xO4 (fun n t => ∃ n' s0, n' = n ∧ t = norm s0 ∧ iter (exC call xcall fuel a) n' s0 = some (e, s')) fuel ⟨fuel, s, rfl, rfl, h⟩ ?_)
    rintro n t ⟨n', s0, rfl, rfl, hi⟩
    cases n' with
    | zero => cases hi
    | succ k =>
      simp only [iter] at hi
      split at hi
      · rename_i s1 h1
        exact xDX hc hx a _ _ s1 h1 _ ⟨k, Nat.lt_succ_self k, norm s1, xIq s1, k, s1, rfl, rfl, hi⟩
      · rename_i h1
        refine xDX hc hx a _ e s' hi _ ?_
        cases e with
        | normal => exact (h1 s' hi).elim
        | _ => exact hq
  | .exit id, s, e, s', h, Q, hq => by cases h; exact xAE hq
  | .scope a, s, e, s', h, Q, hq => by
    simp only [exC] at h
    split at h
    · cases h
    · rename_i h1
      refine xMS (xDX hc hx a s e s' h _ ?_)
      cases e with
      | goto l => exact (h1 l s' h).elim
      | _ => exact hq
  | .label l, s, e, s', h, Q, hq => by cases h; exact xMT hq
  | .ret, s, e, s', h, Q, hq => by cases h; exact xAC hq
  | .range _ _ _ _, s, e, s', h, Q, hq => by cases h
  | .bad, s, e, s', h, Q, hq => by cases h
theorem xLa {orc : Call} (ho : xCJ P orc) (hx : xKZ P xcall) {fuel : Nat} : ∀ d, xCJ P (run P orc xcall fuel d)
  | 0 => ho
  | d + 1 => by
    intro f args hin v hout h
    simp only [run] at h
    split at h
    · rename_i r hr
      cases h
      exact ho _ _ _ _ _ hr
    · obtain ⟨⟨nt, vc, rs⟩, hvf, h⟩ := bind_some h
      simp only at h
      split at h
      · rename_i s hs
        split at h
        · rename_i hle
          obtain ⟨g1, g2⟩ := xH4 h
          exact xCL hvf (xDX (xLa ho hx d) hx vc _ _ _ hs _ ⟨.inl rfl, g1⟩) (Nat.le_of_ble_eq_true hle) g2
        · cases h
      · rename_i s hs
        split at h
        · rename_i hle
          obtain ⟨g1, g2⟩ := xH4 h
          exact xCL hvf (xDX (xLa ho hx d) hx vc _ _ _ hs _ ⟨.inr rfl, g1⟩) (Nat.le_of_ble_eq_true hle) g2
        · cases h
      · cases h
def noCall : Call := fun _ _ _ => none
def noX : Nat → List PV → Option PV := fun _ _ => none
theorem xGt : xCJ P noCall := fun _ _ _ _ _ h => by cases h
theorem xIr : xKZ P noX := fun _ _ _ _ h => by cases h
end
end Go.V
set_option linter.unusedVariables false
set_option linter.unusedSimpArgs false
namespace Go.V
inductive CTy where
  | bool
  | int (k : IntKind)
  | str
  | sl (cs : List CTy)
  deriving Repr
inductive InTy : CTy → PV → Prop
  | bool (b : Bool) : InTy .bool (.bool b)
  | int (k : IntKind) (n : Int) (h : (Lit.int k n).wf = true) : InTy (.int k) (.int k n)
  | str (s : List UInt8) (h : s.length ≤ maxLen) : InTy .str (.str s)
  | sl (cs : List CTy) (l : List (List PV)) (h0 : 0 < cs.length) (h : l.length ≤ maxLen) (hl : ∀ e ∈ l, e.length = cs.length) (hr : ∀ (i j : Nat) (e : List PV) (c : CTy) (p : PV), l[i]? = some e → cs[j]? = some c → e[j]? = some p → InTy c p) : InTy (.sl cs) (.sh false l)
section
variable (P : Program)
def xIc (ty : TypeId → Option (List CTy)) : Nat → List Field → Option (List CTy)
  | _, [] => some []
  | n, f :: r => (ty f.type).bind fun m => if f.offset = n ∧ P.cellsOf f.type = m.length then (xIc ty (n + m.length) r).map (m ++ ·) else none
def reps (m : List CTy) : Nat → List CTy
  | 0 => []
  | n + 1 => m ++ reps m n
def tyOf : Nat → TypeId → Option (List CTy)
  | 0, _ => none
  | d + 1, t => match P.underlying t with
    | some .bool => some [.bool]
    | some (.int k) => some [.int k]
    | some .string => some [.str]
    | some (.slice e) => (tyOf d e).bind fun m => if P.cellsOf e = m.length ∧ 0 < m.length then some [.sl m] else none
    | some (.struct fs) => (xIc P (tyOf d) 0 fs.toList).bind fun m => if P.cellsOf t = m.length then some m else none
    | some (.array n e) => (tyOf d e).bind fun m => if P.cellsOf e = m.length ∧ P.cellsOf t = n * m.length then some (reps m n) else none
    | _ => none
end
section
variable {H : Type} {enc : TypeId × Value → H} {P : Program} {w : World} {base : Nat} {spare : Nat → Bool} {held : Bool}
def Opens (w : World) (cts : List CTy) (cs : List Value) : Prop := cs.length = cts.length ∧ ∀ (j : Nat) (c : CTy) (v : Value), cts[j]? = some c → cs[j]? = some v → ∃ q, InTy c q ∧ CRel (fun k => k < w.heap.size) w q v
theorem Opens.one {c : CTy} {v : Value} {q : PV} (h : InTy c q) (hr : CRel (fun k => k < w.heap.size) w q v) : Opens w [c] [v] := by
  refine ⟨rfl, fun j c' v' h1 h2 => ?_⟩
  cases j with
  | zero => simp at h1 h2; subst h1; subst h2; exact ⟨q, h, hr⟩
  | succ j => simp at h1
theorem Opens.app {a b : List CTy} {x y : List Value} (h1 : Opens w a x) (h2 : Opens w b y) : Opens w (a ++ b) (x ++ y) := by
  refine ⟨by simp [h1.1, h2.1], fun j c v g1 g2 => ?_⟩
  by_cases hj : j < a.length
  · rw [List.getElem?_append_left hj] at g1
    rw [List.getElem?_append_left (by rw [h1.1]; exact hj)] at g2
    exact h1.2 j c v g1 g2
  · rw [List.getElem?_append_right (by omega)] at g1
    rw [List.getElem?_append_right (by rw [h1.1]; omega), h1.1] at g2
    exact h2.2 _ c v g1 g2
theorem xPw (m : List CTy) : ∀ n, (reps m n).length = n * m.length
  | 0 => by simp [reps]
  | n + 1 => by simp [reps, xPw m n, Nat.add_mul]; omega
theorem Opens.pick {cts : List CTy} {cs : List Value} (h : Opens w cts cs) : ∃ qs : List PV, qs.length = cts.length ∧ ∀ (j : Nat) (q : PV), qs[j]? = some q → ∃ c v, cts[j]? = some c ∧ cs[j]? = some v ∧ InTy c q ∧ CRel (fun k => k < w.heap.size) w q v := by
  obtain ⟨h1, h2⟩ := h
  induction cts generalizing cs with
  | nil => exact ⟨[], rfl, by simp⟩
  | cons c cts ih =>
    cases cs with
    | nil => simp at h1
    | cons v cs =>
      obtain ⟨q, hq, hr⟩ := h2 0 c v rfl rfl
      obtain ⟨qs, g1, g2⟩ := ih (by simpa using h1) (fun j c v a b => h2 (j + 1) c v (by simpa using a) (by simpa using b))
      refine ⟨q :: qs, by simp [g1], fun j p hp => ?_⟩
      cases j with
      | zero => simp at hp; subst hp; exact ⟨c, v, rfl, rfl, hq, hr⟩
      | succ j =>
        obtain ⟨c', v', a1, a2, a3, a4⟩ := g2 j p (by simpa using hp)
        exact ⟨c', v', by simpa using a1, by simpa using a2, a3, a4⟩
theorem xCk : ∀ (d : Nat) (t : TypeId) (cts : List CTy), tyOf P d t = some cts → ∀ (fuel : Nat) (cs : List Value) (x : DataW H × List MemPlace), DataW.trod enc P w base spare held fuel t cs = some x → Opens w cts cs
  | 0, t, cts, h => by cases h
  | d + 1, t, cts, h => by
    intro fuel cs x hx
    simp only [tyOf] at h
    split at h
    · rename_i ht
      cases h
      obtain ⟨b, rfl, _⟩ := DataW.trod_bool ht hx
      exact .one (.bool b) (.bool b)
    · rename_i k ht
      cases h
      obtain ⟨n, rfl, _, hw⟩ := DataW.trod_int ht hx
      exact .one (.int k n hw) (.int k n)
    · rename_i ht
      cases h
      obtain ⟨s, rfl, _, hs⟩ := DataW.trod_string ht hx
      refine .one (q := .str s.data.toList) (.str _ (by simpa using hs)) ?_
      have : (⟨s.data.toList.toArray⟩ : ByteArray) = s := by cases s; simp
      have h2 := CRel.str (F := fun k => k < w.heap.size) (w := w) s.data.toList
      rwa [this] at h2
    · rename_i e ht
      obtain ⟨m, hm, h⟩ := bind_some h
      split at h
      · rename_i hc
        obtain ⟨hc1, hc2⟩ := hc
        cases h
        rcases DataW.trod_slice ht hx with ⟨rfl, _⟩ | ⟨a, len, cap, elems, rest, n, _, rfl, _, hb, hl, hmx, hlen, hel, _, _⟩
        · exact .one (.sl m [] hc2 (by simp) (by simp) (by simp)) (.shn false)
        · cases len with
          | zero => exact .one (.sl m [] hc2 (by simp) (by simp) (by simp)) (.sh0 false a cap (by simp))
          | succ len' =>
            have each : ∀ i, i < len' + 1 → ∃ vs : List Value, w.cells? base (a.add (i * P.cellsOf e)) (P.cellsOf e) = some vs ∧ Opens w m vs := by
              intro i hi
              have h1 := hel i hi
              have h2 : elems[i]? = some (elems[i]'(by omega)) := List.getElem?_eq_getElem (by omega)
              rw [h2] at h1
              obtain ⟨vs, hvs, h3⟩ := bind_some h1
              exact ⟨vs, hvs, xCk d e m hm _ vs _ h3⟩
            have hcell : ∀ i, i < len' + 1 → ∀ vs, w.cells? base (a.add (i * P.cellsOf e)) (P.cellsOf e) = some vs → ∀ j, j < m.length → w.cell? ((a.add (i * P.cellsOf e)).add j) = vs[j]? := by
              intro i hi vs hvs j hj
              obtain ⟨_, h4, h5⟩ := World.cells?_some hvs
              exact h5 j (by omega)
            obtain ⟨vs0, hvs0, hop0⟩ := each 0 (by omega)
            have h00 := hcell 0 (by omega) vs0 hvs0 0 hc2
            have hv00 : vs0[0]? = some (vs0[0]'(by rw [hop0.1]; exact hc2)) := List.getElem?_eq_getElem _
            rw [hv00] at h00
            have hspot : a.spot = none ∧ a.block < w.heap.size := by
              unfold World.cell? at h00
              have hbl : ((a.add (0 * P.cellsOf e)).add 0).block = a.block := by simp [Addr.add]
              have hsp : ((a.add (0 * P.cellsOf e)).add 0).spot = a.spot := by simp [Addr.add]
              rw [hbl, hsp] at h00
              cases hh : w.heap[a.block]? with
              | none => rw [hh] at h00; cases h00
              | some o =>
                rw [hh] at h00
                refine ⟨?_, (Array.getElem?_eq_some_iff.1 hh).1⟩
                cases o with
                | cells c ee fz =>
                  simp only at h00
                  split at h00
                  · cases h00
                  · rename_i hs
                    simpa using hs
                | _ => cases h00
            obtain ⟨bk, o, sp⟩ := a
            simp only at hspot
            obtain ⟨rfl, hlt⟩ := hspot
            have hch : ∀ n, n ≤ len' + 1 → ∃ l : List (List PV), l.length = n ∧ ∀ (i : Nat) (el : List PV), l[i]? = some el → el.length = m.length ∧ ∀ (j : Nat) (q : PV), el[j]? = some q → ∃ c v, m[j]? = some c ∧ w.cell? ⟨bk, o + i * m.length + j, none⟩ = some v ∧ InTy c q ∧ CRel (fun k => k < w.heap.size) w q v := by
              intro n
              induction n with
              | zero => intro _; exact ⟨[], rfl, by simp⟩
              | succ n ih =>
                intro hn
                obtain ⟨l, h1, h2⟩ := ih (by omega)
                obtain ⟨vs, hvs, hop⟩ := each n (by omega)
                obtain ⟨qs, g1, g2⟩ := hop.pick
                refine ⟨l ++ [qs], by simp [h1], fun i el hi => ?_⟩
                by_cases hi' : i < l.length
                · rw [List.getElem?_append_left hi'] at hi
                  exact h2 i el hi
                · rw [List.getElem?_append_right (by omega)] at hi
                  have : i - l.length = 0 := by
                    apply Classical.byContradiction
                    intro hne
                    rw [List.getElem?_eq_none (by simp; omega)] at hi
                    cases hi
                  rw [this] at hi
                  simp at hi
                  subst hi
                  have hin : i = n := by omega
                  subst hin
                  refine ⟨g1, fun j q hq => ?_⟩
                  obtain ⟨c, v, a1, a2, a3, a4⟩ := g2 j q hq
                  have hj : j < m.length := (List.getElem?_eq_some_iff.1 a1).1
                  have := hcell i (by omega) vs hvs j hj
                  rw [a2, hc1, xBc, xBc] at this
                  exact ⟨c, v, a1, this, a3, a4⟩
            obtain ⟨l, hl1, hl2⟩ := hch (len' + 1) (Nat.le_refl _)
            refine .one (q := .sh false l) (.sl m l hc2 (by omega) (fun el he => ?_) (fun i j el c p a1 a2 a3 => ?_)) ?_
            · obtain ⟨i, hi⟩ := List.mem_iff_getElem?.1 he
              exact (hl2 i el hi).1
            · obtain ⟨c', v, b1, b2, b3, b4⟩ := (hl2 i el a1).2 j p a3
              rw [a2] at b1
              cases b1
              exact b3
            · rw [← hl1]
              refine CRel.sh false l bk o cap m.length (fun i j => (w.cell? ⟨bk, o + i * m.length + j, none⟩).getD undef) hlt (by omega) (by simp) hc2 (fun el he => ?_) (fun i j el p a1 a2 => ?_) (fun i j el p a1 a2 => ?_)
              · obtain ⟨i, hi⟩ := List.mem_iff_getElem?.1 he
                exact (hl2 i el hi).1
              · obtain ⟨c', v, b1, b2, b3, b4⟩ := (hl2 i el a1).2 j p a2
                rw [b2]; rfl
              · obtain ⟨c', v, b1, b2, b3, b4⟩ := (hl2 i el a1).2 j p a2
                rw [b2]
                exact b4
      · cases h
    · rename_i fs ht
      obtain ⟨m, hm, h⟩ := bind_some h
      split at h
      · rename_i hc
        cases h
        obtain ⟨xs, n, _, _, hcl, hxl, hfs⟩ := DataW.trod_struct ht hx
        have key : ∀ (l : List Field) (off : Nat) (m : List CTy), xIc P (tyOf P d) off l = some m → (∀ f ∈ l, ∃ y, DataW.trod enc P w base spare held n f.type ((cs.drop f.offset).take (P.cellsOf f.type)) = some y) → off + m.length ≤ cs.length → Opens w m ((cs.drop off).take m.length) := by
          intro l
          induction l with
          | nil =>
            intro off m hm _ _
            cases hm
            exact ⟨by simp, by simp⟩
          | cons f l ih =>
            intro off m hm hall hlen
            obtain ⟨m1, hm1, hm⟩ := bind_some hm
            split at hm
            · rename_i hcc
              obtain ⟨hoff, hsz⟩ := hcc
              obtain ⟨m2, hm2, rfl⟩ := map_some hm
              obtain ⟨y, hy⟩ := hall f (by simp)
              have h1 := xCk d f.type m1 hm1 n _ y hy
              rw [hoff, hsz] at h1
              rw [List.length_append] at hlen
              have h2 := ih (off + m1.length) m2 hm2 (fun g hg => hall g (by simp [hg])) (by omega)
              have e : (cs.drop off).take (m1 ++ m2).length = (cs.drop off).take m1.length ++ (cs.drop (off + m1.length)).take m2.length := by
                rw [List.length_append, List.take_add, List.drop_drop]
              rw [e]
              exact h1.app h2
            · cases hm
        have hall : ∀ f ∈ fs.toList, ∃ y, DataW.trod enc P w base spare held n f.type ((cs.drop f.offset).take (P.cellsOf f.type)) = some y := by
          intro f hf
          obtain ⟨i, hi⟩ := List.mem_iff_getElem?.1 hf
          have hi' : fs[i]? = some f := by simpa using hi
          have hlt : i < xs.length := by rw [hxl]; exact (Array.getElem?_eq_some_iff.1 hi').1
          exact ⟨_, (hfs i f hi').trans (List.getElem?_eq_getElem hlt)⟩
        have := key fs.toList 0 cts hm hall (by omega)
        rwa [List.drop_zero, List.take_of_length_le (by omega)] at this
      · cases h
    · rename_i k e ht
      obtain ⟨m, hm, h⟩ := bind_some h
      split at h
      · rename_i hc
        obtain ⟨hc1, hc2⟩ := hc
        cases h
        obtain ⟨xs, n, _, _, hcl, hxl, hes⟩ := DataW.trod_array ht hx
        have key : ∀ (j i : Nat), i + j = k → Opens w (reps m j) ((cs.drop (i * m.length)).take (j * m.length)) := by
          intro j
          induction j with
          | zero => intro i _; exact ⟨by simp [reps], by simp [reps]⟩
          | succ j ih =>
            intro i hi
            have h1 := hes i (by omega)
            rw [List.getElem?_eq_getElem (show i < xs.length by omega), hc1] at h1
            have h2 := xCk d e m hm n _ _ h1
            have h3 := ih (i + 1) (by omega)
            have e2 : (cs.drop (i * m.length)).take ((j + 1) * m.length) = (cs.drop (i * m.length)).take m.length ++ (cs.drop ((i + 1) * m.length)).take (j * m.length) := by
              rw [show (j + 1) * m.length = m.length + j * m.length by rw [Nat.add_mul]; omega, List.take_add, List.drop_drop, show (i + 1) * m.length = i * m.length + m.length by rw [Nat.add_mul]; omega]
            rw [e2]
            exact h2.app h3
        have := key k 0 (by omega)
        rwa [Nat.zero_mul, List.drop_zero, List.take_of_length_le (by omega)] at this
      · cases h
    · cases h
end
end Go.V
set_option linter.unusedVariables false
set_option linter.unusedSimpArgs false
namespace Go.V
section
variable {H : Type} {enc : TypeId × Value → H} {P : Program} {w : World} {base b0 : Nat} {spare : Nat → Bool} {held : Bool} {r : Reach}
abbrev Old (w : World) : Nat → Prop := fun k => k < w.heap.size
abbrev xCY : Bid → Option Nat := fun _ => none
theorem xLm {t : TypeId} {v : Value} {d : DataW H} {p : List MemPlace} {dd : Nat} {cts : List CTy} (hty : tyOf P dd t = some cts) (hag : xCc P t = some true) (hval : Value.okWide P w r b0 t v) (h : DataW.Trod enc P w base spare held t v d p) :
    ∃ qs : List PV, qs.length = cts.length ∧ (∀ (j : Nat) (c : CTy) (q : PV), cts[j]? = some c → qs[j]? = some q → InTy c q) ∧ VRel (Old w) xCY (resH []) w (.agg qs) v := by
  obtain ⟨fuel, hf⟩ := h
  have hcs : ∃ cs, v = .agg cs := by
    obtain ⟨u, hu, hg⟩ := map_some hag
    unfold Value.okWide at hval
    rw [hu] at hval
    cases u <;> (try (cases hg; done)) <;> (obtain ⟨cs, hcs, _⟩ := hval; exact ⟨cs, hcs⟩)
  obtain ⟨cs, rfl⟩ := hcs
  obtain ⟨qs, h1, h2⟩ := (xCk dd t cts hty fuel _ _ hf).pick
  have hlen := (xCk dd t cts hty fuel _ _ hf).1
  have hcl : (Value.agg cs).cells.toList = cs.toList := rfl
  rw [hcl] at h2 hlen
  refine ⟨qs, h1, fun j c q a1 a2 => ?_, cs, rfl, by simp at hlen; omega, fun i q x a1 a2 => ?_⟩
  · obtain ⟨c', v, b1, b2, b3, b4⟩ := h2 j q a2
    rw [a1] at b1
    cases b1
    exact b3
  · obtain ⟨c', v, b1, b2, b3, b4⟩ := h2 i q a1
    have : v = x := by
      have h3 : cs[i]? = some v := by simpa using b2
      rw [a2] at h3
      cases h3; rfl
    subst this
    exact (SRel.of_closed b4.closed).2 b4
theorem xKw {t e : TypeId} {v : Value} {d : DataW H} {p : List MemPlace} {dd : Nat} {cts : List CTy} (ht : P.underlying t = some (.slice e)) (hty : tyOf P dd t = some [.sl cts]) (hval : Value.okWide P w r b0 t v) (h : DataW.Trod enc P w base spare held t v d p) :
    ∃ l : List (List PV), InTy (.sl cts) (.sh false l) ∧ VRel (Old w) xCY (resH []) w (.sh false l) v := by
  obtain ⟨fuel, hf⟩ := h
  obtain ⟨a, len, cap, rfl⟩ := WideShapes.okWide_slice ht hval
  obtain ⟨_, h2⟩ := xCk dd t [.sl cts] hty fuel _ _ hf
  obtain ⟨q, h3, h4⟩ := h2 0 (.sl cts) (.slice a len cap) rfl rfl
  cases h3 with
  | sl _ l g1 g2 g3 g4 => exact ⟨l, .sl cts l g1 g2 g3 g4, VRel.of_C h4⟩
theorem rel_int {k : IntKind} {n : Int} : VRel (Old w) xCY (resH []) w (.int k n) (.int k n) := VRel.of_C (.int k n)
theorem rel_bool {b : Bool} : VRel (Old w) xCY (resH []) w (.bool b) (.bool b) := VRel.of_C (.bool b)
theorem xSJ {s : ByteArray} : VRel (Old w) xCY (resH []) w (.str s.data.toList) (.string s) := by
  have : (⟨s.data.toList.toArray⟩ : ByteArray) = s := by cases s; simp
  have h2 := CRel.str (F := Old w) (w := w) s.data.toList
  rw [this] at h2
  exact VRel.of_C h2
def GlbW (w : World) : Prop := ∀ p ∈ GT, p.1 < w.heap.size ∧ 0 < p.2.length ∧ ∃ gv : Nat → Value, ∀ (j : Nat) (q : PV), p.2[j]? = some q → w.cell? ⟨p.1, j, none⟩ = some (gv j) ∧ ∀ (F : Nat → Prop) (w : World), CRel F w q (gv j)
theorem xPX {f : Nat} {args : List PV} {rargs : Array Value} {b : Bool} (h : VC P f args [] (.bool b) []) (hsz : rargs.size = args.length)
    (hr : ∀ (i : Nat) (p : PV) (x : Value), args[i]? = some p → rargs[i]? = some x → VRel (Old w) xCY (resH []) w p x) (hG : GlbW w := by (intro p hp; cases hp)) : Calls P f rargs w fun e w' => e = .returned (.bool b) ∧ RowKit.Below w.heap.size w w' := by
  have hI : Inv (Ctx.of w (Old w) (WrOf xCY ([] : List Blk).length) xCY (resH [])) (Old w) xCY (resH []) w := by
    have hn : ∀ b B, resH [] b = some B → False := by
      intro b B h
      simp [resH] at h
    exact ⟨rfl, rfl, rfl, Nat.le_refl _, fun _ _ _ => rfl, fun _ h => h, fun _ h => h, fun _ h => .inl h, fun b B h => (hn b B h).elim, fun b b' B B' k h => (hn b B h).elim, fun b B k h => (hn b B h).elim, fun p hp => by
      obtain ⟨g1, g2, g3⟩ := hG p hp
      exact ⟨g1, g1, (by rintro ⟨i, hi, _⟩; simp at hi), g2, g3⟩⟩
  refine (h.2 w (Old w) xCY rargs hI hsz hr).mono ?_
  rintro e w' ⟨rv, F', μ', rfl, g1, g2, g3⟩
  refine ⟨by rw [xB8 g3], g1.os, g1.tape, g1.output, g1.size, fun k hk => g1.frame k hk ?_⟩
  rintro ⟨i, hi, _⟩
  simp at hi
end
end Go.V
set_option linter.unusedVariables false
set_option linter.unusedSimpArgs false
namespace Go.V
def xcCmp (f0 : Nat) : Nat → List PV → Option PV := fun f args => match Nat.beq f f0 with
  | true => (match args with
    | [.str a, .str b] => some (.int .i64 (Lib.compareBytes a b))
    | _ => none)
  | false => none
theorem xQy {P : Program} {f0 : Nat} {fn : Func} (hf : P.funcs[f0]? = some fn) (hname : (fn.name == "runtime.NumGoroutine") = false) (hb : fn.body.isNone = true) (hn : Extern.findNext fn = none) (he : Extern.find fn = some Extern.BytealgCompare.compare)
    (hf' : HF) (a b : List UInt8) : XC P hf' f0 [.str a, .str b] (.int .i64 (Lib.compareBytes a b)) [] := by
  intro Γ F μ hf2 w rargs _ hI hsz hargs
  obtain ⟨l⟩ := rargs
  simp only [List.length_cons, List.length_nil, List.size_toArray] at hsz
  match l, hsz with
  | [x, y], _ =>
    have h1 := xBs (hargs 0 _ x rfl rfl)
    have h2 := xBs (hargs 1 _ y rfl rfl)
    subst h1; subst h2
    refine ⟨_, ?_, VRel.int _ _⟩
    rw [run_callFunc_extern hf hname hb hn he, Lib.run_compareString]
    rfl
theorem xcCmp_good {P : Program} {f0 : Nat} {fn : Func} (hf : P.funcs[f0]? = some fn) (hname : (fn.name == "runtime.NumGoroutine") = false) (hb : fn.body.isNone = true) (hn : Extern.findNext fn = none) (he : Extern.find fn = some Extern.BytealgCompare.compare) : xKZ P (xcCmp f0) := by
  intro hf' f args v h
  unfold xcCmp at h
  split at h
  · rename_i hb0
    have : f = f0 := beqN_iff.1 hb0
    subst this
    split at h
    · cases h
      exact xQy hf hname hb hn he _ _ _
    · cases h
  · cases h
end Go.V
set_option linter.unusedVariables false
set_option linter.unusedSimpArgs false
namespace Go.V
abbrev ownV (b : Bid) (els : List (List PV)) : PV := .own b els.length 0 els.length
abbrev blkV (esz : Nat) (els : List (List PV)) : Blk := ⟨false, false, esz, els⟩
theorem gm {α : Type} {enc : α → List PV} {xs : List α} {x : α} {n : Int} {k : Nat} (h : xs[k]? = some x) (hn : n.toNat = k) : (xs.map enc)[n.toNat]? = some (enc x) := by
  rw [hn, List.getElem?_map, h]; rfl
theorem Sl.of_eq {p : PV} {l l' : List (List PV)} (h : Sl p l) (e : l = l') : Sl p l' := e ▸ h
theorem Sl.full {ex : Bool} {els : List (List PV)} : Sl (.sh ex ((els.drop 0).take els.length)) els := by
  simp only [List.drop_zero, List.take_length]; exact Sl.sh
theorem Sl.part {ex : Bool} {els l : List (List PV)} {a n : Nat} (h : (els.drop a).take n = l) : Sl (.sh ex ((els.drop a).take n)) l := by rw [h]; exact Sl.sh
section
variable {lvl site : Nat} {tf : TF} {hf : HF} {x y i : VX} {p q : PV} {l : List (List PV)} {k : IntKind} {n m : Int} {b c : Bid} {hw off len esz : Nat} {B : Blk}
theorem v_conv {k' : IntKind} (hx : ev tf x = some (.int k n)) (h : k'.wrap n = n) : vop lvl site tf hf (.conv k' x) = some ⟨.int k' n, [], []⟩ := by
  simp only [vop, hx, Option.bind_some, h]; rfl
theorem v_mul (hx : ev tf x = some (.int k n)) (hy : ev tf y = some (.int k m)) (h : k.wrap (n * m) = n * m) : vop lvl site tf hf (.bin .mul x y) = some ⟨.int k (n * m), [], []⟩ := by
  simp only [vop, hx, hy, Option.bind_some, bin, if_true, xEN, h]; rfl
theorem xFn (h : Sl p l) : xAb hf p = some ([], l) := by
  rcases h with ⟨rfl, rfl⟩ | ⟨rfl, rfl⟩ | ⟨ex, rfl⟩ <;> rfl
theorem xJL {els : List (List PV)} {nn : Nat} (hx : ev tf x = some (.own b nn 0 nn)) (hi : ev tf i = some (.int k n)) (hb : hf b = some (blkV esz els)) (hn : nn = els.length) (h0 : 0 ≤ n) (h1 : n < els.length) : vop lvl site tf hf (.iaddr esz x i) = some ⟨.ptr b els.length n.toNat 0, [], [b]⟩ := by
  subst hn
  have := xGd (lvl := lvl) (site := site) hx hi hb rfl rfl h0 h1
  rwa [Nat.zero_add] at this
theorem v_app {α : Type} {enc : α → List PV} {ys : List α} {e : α} {bytes : Nat} {z e' : List PV} (hx : ev tf x = some (ownV b (ys.map enc))) (hy : ev tf y = some (.own c 1 0 1)) (hcb : hf c = some ⟨false, false, esz, [e']⟩) (hb : hf b = some (blkV esz (ys.map enc)))
    (he : e' = enc e) (hok : ∀ c ∈ enc e, closed c = true) (hl : (enc e).length = esz) (hz : z.length = esz) (h0 : 0 < esz) (hby : 0 < bytes) (hroom : (ys.length + 1) * bytes ≤ xA1) :
    vop lvl site tf hf (.append esz bytes z x y) = some ⟨ownV b ((ys ++ [e]).map enc), [(b, blkV esz ((ys ++ [e]).map enc))], [b, c]⟩ := by
  subst he
  have := xNT (lvl := lvl) (site := site) (bytes := bytes) (z := z) hx hy hcb hb hok hl hz h0 hby (by simpa using hroom)
  rw [this]
  simp [List.map_append, ownV, blkV]
theorem vap {α : Type} (enc : α → List PV) (e : α) {ys : List α} {bytes nn : Nat} {z e' : List PV} (hx : ev tf x = some (.own b nn 0 nn) := by rfl) (hy : ev tf y = some (.own c 1 0 1) := by rfl) (hcb : hf c = some ⟨false, false, esz, [e']⟩ := by rfl) (hb : hf b = some (blkV esz (ys.map enc)) := by rfl) (hnn : nn = (ys.map enc).length := by first | rfl | (simp; done) | (simp only [blkV, List.length_map, List.length_set, List.length_append, List.length_cons, List.length_nil]; omega))
    (he : e' = enc e := by rfl) (hok : ∀ c ∈ enc e, closed c = true := by simp [closed]) (hl : (enc e).length = esz := by rfl) (hz : z.length = esz := by rfl) (h0 : 0 < esz := by decide) (hby : 0 < bytes := by decide) (hroom : (ys.length + 1) * bytes ≤ xA1 := by (unfold xA1; (try simp only [List.length_append, List.length_cons, List.length_nil]); omega)) :
    vop lvl site tf hf (.append esz bytes z x y) = some ⟨ownV b ((ys ++ [e]).map enc), [(b, blkV esz ((ys ++ [e]).map enc))], [b, c]⟩ := by
  subst hnn
  exact v_app hx hy hcb hb he hok hl hz h0 hby hroom
theorem vst {α : Type} (enc : α → List PV) (e : α) {ys : List α} {a : Nat} {v : PV} (hx : ev tf x = some (.ptr b hw a 0) := by rfl) (hy : ev tf y = some v := by rfl) (hb : hf b = some (blkV esz (ys.map enc)) := by rfl) (hw' : hw = (ys.map enc).length := by first | rfl | (simp; done) | (simp only [blkV, List.length_map, List.length_set, List.length_append, List.length_cons, List.length_nil]; omega)) (he : xAU v = enc e := by rfl) (ha : a < ys.length := by first | assumption | omega | (simp; omega))
    (hl : ∀ a, (enc a).length = esz := by exact (fun _ => rfl)) (hok : ∀ c ∈ enc e, closed c = true := by simp [closed]) : vop lvl site tf hf (.store esz x y) = some ⟨.dead, [(b, blkV esz ((ys.set a e).map enc))], [b]⟩ := by
  have hg : ys[a]? = some ys[a] := List.getElem?_eq_getElem ha
  have := xEm (lvl := lvl) (site := site) (nn := esz) (e := enc ys[a]) hx hy hb hw' rfl (by show (ys.map enc)[a]? = _; rw [List.getElem?_map, hg]; rfl) (by rw [he, hl]) (by rw [hl]; omega) (by rw [he]; exact List.all_eq_true.2 hok)
  rw [this, he]
  simp [blkV, hl, List.map_set, List.drop_of_length_le]
theorem v_apps {α : Type} {enc : α → List PV} {ys zs : List α} {bytes : Nat} {z : List PV} {rd : List Bid} {l : List (List PV)} (hx : ev tf x = some (ownV b (ys.map enc))) (hy : ev tf y = some q) (hct : xAb hf q = some (rd, l)) (hzs : l = zs.map enc) (hb : hf b = some (blkV esz (ys.map enc)))
    (hok : ∀ a, (enc a).length = esz ∧ ∀ c ∈ enc a, closed c = true) (hz : z.length = esz) (h0 : 0 < esz) (hby : 0 < bytes) (hroom : (ys.length + zs.length) * bytes ≤ xA1) :
    vop lvl site tf hf (.append esz bytes z x y) = some ⟨ownV b ((ys ++ zs).map enc), [(b, blkV esz ((ys ++ zs).map enc))], b :: rd⟩ := by
  subst hzs
  have := xLQ (lvl := lvl) (site := site) (bytes := bytes) (z := z) hx hy hct hb (okEls.map hok) hz h0 hby (by simpa using hroom)
  rw [this]
  simp [List.map_append, ownV, blkV]
theorem vaps {α : Type} (enc : α → List PV) (ys zs : List α) {bytes nn : Nat} {z : List PV} {rd : List Bid} (hx : ev tf x = some (.own b nn 0 nn) := by rfl) (hy : ev tf y = some q := by rfl) (hct : xAb hf q = some (rd, zs.map enc) := by first | exact xBM rfl | exact xFn (by assumption) | rfl) (hb : hf b = some (blkV esz (ys.map enc)) := by rfl) (hnn : nn = (ys.map enc).length := by first | rfl | (simp; done) | (simp only [blkV, List.length_map, List.length_set, List.length_append, List.length_cons, List.length_nil]; omega))
    (hok : ∀ a, (enc a).length = esz ∧ ∀ c ∈ enc a, closed c = true := by (intro a; simp [closed])) (hz : z.length = esz := by rfl) (h0 : 0 < esz := by decide) (hby : 0 < bytes := by decide) (hroom : (ys.length + zs.length) * bytes ≤ xA1 := by (unfold xA1; (try simp only [List.length_append, List.length_cons, List.length_nil]); omega)) :
    vop lvl site tf hf (.append esz bytes z x y) = some ⟨ownV b ((ys ++ zs).map enc), [(b, blkV esz ((ys ++ zs).map enc))], b :: rd⟩ := by
  subst hnn
  exact v_apps hx hy hct rfl hb hok hz h0 hby hroom
end
theorem xKP {v : PV} {B : Blk} (h : cV v = true) (hB : B.frz = false ∧ ∀ e ∈ B.els, ∀ c ∈ e, cS c = true) : xLO v [B] := ⟨h, fun B' hB' => by simp at hB'; subst hB'; exact hB⟩
theorem xPC {α : Type} {enc : α → List PV} {ys : List α} {b : Bid} {esz : Nat} (h : ∀ a, ∀ c ∈ enc a, cS c = true) : xLO (ownV b (ys.map enc)) [blkV esz (ys.map enc)] :=
  xKP rfl ⟨rfl, fun e he => by obtain ⟨a, _, rfl⟩ := List.mem_map.1 he; exact h a⟩
theorem xFK {hf : HF} {lvl site : Nat} (h : hf ⟨lvl, site⟩ = none) : xHu hf lvl site 1 := ⟨h, trivial⟩
section
variable {hf : HF} {lent : List Bid} {p x : PV} {l xs : List PV} {b : List Bid} {bs : List Bid} {c : Bid} {els : List (List PV)} {esz : Nat} {fz : Bool}
theorem xBm : xBe hf lent [] = some ([], []) := rfl
theorem xAI (h1 : xCR hf lent p = some (b, x)) (h2 : xBe hf lent l = some (bs, xs)) : xBe hf lent (p :: l) = some (b ++ bs, x :: xs) := by
  simp only [xBe, h1, Option.bind_some, h2, Option.map_some]
theorem xAW {n : Nat} (hb : hf c = some ⟨false, fz, esz, els⟩) (hn : n = els.length) : xCR hf [] (.own c n 0 n) = some ([c], .sh false els) := by
  subst hn
  simp only [xCR, xDr, xBA, idxB, xA9, xBM hb, Option.map_some]
theorem l_part {off len : Nat} (hb : hf c = some ⟨false, fz, esz, els⟩) (hl : off + len ≤ els.length) : xCR hf [] (.own c els.length off len) = some ([c], .sh false ((els.drop off).take len)) := by
  have h := xC0 (hf := hf) (b := c) (hw := els.length) (off := off) (len := len) (els := els) hb rfl rfl hl
  simp only [xCR, xDr, xBA, idxB, xA9, h, Option.map_some]
theorem xAA (h : closed p = true) : xCR hf lent p = some ([], p) := by
  cases p <;> first
    | rfl
    | (simp [closed] at h; done)
    | skip
  rename_i f cs
  cases cs with
  | nil => rfl
  | cons c r => simp [closed] at h
theorem l_ret {o o' : Option (List Bid × List PV)} (h : o = o') : o = o' := h
end
abbrev encB (c : UInt8) : List PV := [.int .u8 c.toNat]
theorem xHi : ∀ s : List UInt8, xFp (s.map encB) = some s
  | [] => rfl
  | c :: s => by
    show (xFp (s.map encB)).map (UInt8.ofNat ((c.toNat : Int)).toNat :: ·) = some (c :: s)
    rw [xHi s]
    simp
theorem v_b2s {lvl site : Nat} {tf : TF} {hf : HF} {x : VX} {b : Bid} {hw off len : Nat} {B : Blk} {s : List UInt8} (hx : ev tf x = some (.own b hw off len)) (hb : hf b = some B) (hbx : B.box = false) (hc : hw = B.els.length) (hl : off + len ≤ hw) (hs : (B.els.drop off).take len = s.map encB) : vop lvl site tf hf (.b2s x) = some ⟨.str s, [], [b]⟩ := by
  have h := xC0 (hf := hf) (els := B.els) hb hbx hc hl
  have h2 : xGX hf (.own b hw off len) = some ([b], (B.els.drop off).take len) := h
  simp only [vop, hx, Option.bind_some, h2, hs, xHi, Option.map_some]
theorem xP5 (c : UInt8) : UInt8.ofNat ((c.toNat : Int)).toNat = c := by simp
theorem xGb (c : UInt8) : IntKind.u8.wrap ((c.toNat : Int) + 1) = ((c + 1).toNat : Int) := by
  have h := c.toNat_lt
  rw [UInt8.toNat_add]
  simp [IntKind.wrap, IntKind.bits, IntKind.signed]
def Sq (P : Program) (nt : Nat) (draw : Bool) (os : List VOper) (acc : List Foot) (K : St → Prop) (s : St) : Prop := match draw with
  | false => SeqT P nt os K s
  | true => xAr P true os acc s K
def GOk (g : Option (Nat × Nat × Bool)) (tm : Tmps) : Prop := match g with
  | none => True
  | some (_, t, want) => tget tm t = some (.bool want)
theorem gT {i t : Nat} {want b : Bool} {tm : Tmps} (hb : tget tm t = some (.bool b)) (he : b = want) : GOk (some (i, t, want)) tm := he ▸ hb
section
variable {P : Program} {nt : Nat} {dr : Bool} {os : List VOper} {K : St → Prop} {lvl : Nat} {tm : Tmps} {hp : Heap} {d : Option Nat} {op : VOp} {g : Option (Nat × Nat × Bool)} {site : Nat} {pre : List Nat} {v : PV} {ws : List (Bid × Blk)} {rd : List Bid} {acc : List Foot} {r : Res} {ns : List Nat}
theorem rg {id : Nat} {vs : List VOper} {Q : Exit → St → Prop} {s : St} (h : Sq P nt dr vs [] (Q .normal) s) : CT P nt (.region id dr vs) Q s := by
  cases dr with
  | false => exact xKL h
  | true => exact xLF h
theorem nl {s : St} (h : K s) : Sq P nt dr [] acc K s := by
  cases dr with
  | false => exact xQ2 h
  | true => exact h
theorem xRT (hg : GOk g tm) : xCS ⟨d, op, g, site, pre⟩ (tget tm) = some true := by
  cases g with
  | none => rfl
  | some x =>
    obtain ⟨i, t, want⟩ := x
    have hb : tget tm t = some (.bool want) := hg
    rw [xFj hb]; simp
theorem opC (h : Sq P nt dr os (acc ++ [(ws.map (·.1), rd)]) K ⟨lvl, tput tm d v, hput hp ws⟩) (hv : OpC P lvl site op ns (tget tm) (hget hp) ⟨v, ws, rd⟩) (hc : dr = true → xAn pre (ws.map (·.1), rd) 0 acc = true) (hg : GOk g tm) : Sq P nt dr (⟨d, op, g, site, pre⟩ :: os) acc K ⟨lvl, tm, hp⟩ := by
  cases dr with
  | false => exact xDa (r := ⟨v, ws, rd⟩) (.inr ⟨xRT hg, ns, hv⟩) h
  | true => exact .inr ⟨xRT hg, ns, ⟨v, ws, rd⟩, hv, fun _ => hc rfl, h⟩
theorem op1 (h : Sq P nt dr os (acc ++ [(ws.map (·.1), rd)]) K ⟨lvl, tput tm d v, hput hp ws⟩) (hv : vop lvl site (tget tm) (hget hp) op = some ⟨v, ws, rd⟩) (hn : xCu op = true) (hc : dr = true → xAn pre (ws.map (·.1), rd) 0 acc = true) (hg : GOk g tm) : Sq P nt dr (⟨d, op, g, site, pre⟩ :: os) acc K ⟨lvl, tm, hp⟩ :=
  opC (ns := []) h (xFZ hv hn) hc hg
theorem xRa : ∀ (l : List Foot) (i : Nat), xAn pre ([], []) i l = true
  | [], _ => rfl
  | x :: l, i => by simp [xAn, xGE, xRa l]
theorem op0 (h : Sq P nt dr os (acc ++ [([], [])]) K ⟨lvl, tput tm d v, hp⟩) (hv : vop lvl site (tget tm) (hget hp) op = some ⟨v, [], []⟩) (hn : xCu op = true) (hg : GOk g tm) : Sq P nt dr (⟨d, op, g, site, pre⟩ :: os) acc K ⟨lvl, tm, hp⟩ :=
  op1 (ws := []) (rd := []) h hv hn (fun _ => xRa _ _) hg
theorem opr {b : Bid} (h : Sq P nt dr os (acc ++ [([], [b])]) K ⟨lvl, tput tm d v, hp⟩) (hv : vop lvl site (tget tm) (hget hp) op = some ⟨v, [], [b]⟩) (hn : xCu op = true) (hc : dr = true → xAn pre ([], [b]) 0 acc = true) (hg : GOk g tm) : Sq P nt dr (⟨d, op, g, site, pre⟩ :: os) acc K ⟨lvl, tm, hp⟩ :=
  op1 (ws := []) (rd := [b]) h hv hn hc hg
theorem skF {i t : Nat} {want b : Bool} (h : Sq P nt dr os (acc ++ [([], [])]) K ⟨lvl, tput tm d (.tup []), hp⟩) (hb : tget tm t = some (.bool b) := by rfl) (he : b = !want := by first | rfl | assumption) : Sq P nt dr (⟨d, op, some (i, t, want), site, pre⟩ :: os) acc K ⟨lvl, tm, hp⟩ := by
  cases dr with
  | false => exact sq1f hb he h
  | true => exact dr1f hb he h
theorem skU {i t : Nat} {want : Bool} (h : Sq P nt dr os (acc ++ [([], [])]) K ⟨lvl, tput tm d (.tup []), hp⟩) (hb : tget tm t = some (.tup []) := by rfl) : Sq P nt dr (⟨d, op, some (i, t, want), site, pre⟩ :: os) acc K ⟨lvl, tm, hp⟩ := by
  cases dr with
  | false => exact sq1u hb h
  | true => exact dr1u hb h
theorem xCT {i t : Nat} {want b : Bool} (h1 : b = true → Sq P nt dr (⟨d, op, some (i, t, want), site, pre⟩ :: os) acc K ⟨lvl, tm, hp⟩) (h0 : b = false → Sq P nt dr (⟨d, op, some (i, t, want), site, pre⟩ :: os) acc K ⟨lvl, tm, hp⟩) (hb : tget tm t = some (.bool b) := by rfl) : Sq P nt dr (⟨d, op, some (i, t, want), site, pre⟩ :: os) acc K ⟨lvl, tm, hp⟩ := by
  cases b
  · exact h0 rfl
  · exact h1 rfl
theorem xAL {x y : VX} {b : Bid} {hw off len esz : Nat} {B : Blk} {k : IntKind} {n : Int} (h : Sq P nt dr os (acc ++ [([], [b])]) K ⟨lvl, tput tm d (.ptr b hw (off + n.toNat) 0), hp⟩) (hx : ev (tget tm) x = some (.own b hw off len) := by rfl) (hy : ev (tget tm) y = some (.int k n) := by rfl) (hb : hget hp b = some B := by rfl) (hc0 : hw = B.els.length := by first | rfl | (simp; done) | (simp only [blkV, List.length_map, List.length_set, List.length_append, List.length_cons, List.length_nil]; omega)) (hz : B.esz = esz := by rfl) (h0 : 0 ≤ n := by omega) (h1 : n < len := by omega) (hc : dr = true → xAn pre ([], [b]) 0 acc = true := by first | (intro h; cases h; done) | (intro _; kernel_rfl)) (hg : GOk g tm := by first | exact trivial | exact gT rfl (by first | rfl | assumption)) : Sq P nt dr (⟨d, .iaddr esz x y, g, site, pre⟩ :: os) acc K ⟨lvl, tm, hp⟩ := opr h (xGd hx hy hb hc0 hz h0 h1) rfl hc hg
theorem xIo {x : VX} {lo hi : Option VX} {esz : Nat} {b : Bid} {hw off len : Nat} {B : Blk} {a z : Int} (h : Sq P nt dr os (acc ++ [([], [b])]) K ⟨lvl, tput tm d (.own b hw (off + a.toNat) (z.toNat - a.toNat)), hp⟩) (hx : ev (tget tm) x = some (.own b hw off len) := by rfl) (h1 : xAP (tget tm) 0 lo = some a := by rfl) (h2 : xAP (tget tm) len hi = some z := by rfl) (hb : hget hp b = some B := by rfl) (ha : 0 ≤ a := by omega) (hz : a ≤ z := by omega) (hl : z ≤ len := by omega) (he : B.esz = esz := by rfl) (hc0 : hw = B.els.length := by first | rfl | (simp; done) | (simp only [blkV, List.length_map, List.length_set, List.length_append, List.length_cons, List.length_nil]; omega)) (hc : dr = true → xAn pre ([], [b]) 0 acc = true := by first | (intro h; cases h; done) | (intro _; kernel_rfl)) (hg : GOk g tm := by first | exact trivial | exact gT rfl (by first | rfl | assumption)) : Sq P nt dr (⟨d, .slsl esz x lo hi none, g, site, pre⟩ :: os) acc K ⟨lvl, tm, hp⟩ := opr h (xRi hx h1 h2 ha hz hl hb he hc0) rfl hc hg
theorem xRG {x : VX} {b : Bid} {hw off len : Nat} {B : Blk} {s : List UInt8} (hs : (B.els.drop off).take len = s.map encB) (h : Sq P nt dr os (acc ++ [([], [b])]) K ⟨lvl, tput tm d (.str s), hp⟩) (hx : ev (tget tm) x = some (.own b hw off len) := by rfl) (hb : hget hp b = some B := by rfl) (hc0 : hw = B.els.length := by first | rfl | (simp; done) | (simp only [blkV, List.length_map, List.length_set, List.length_append, List.length_cons, List.length_nil]; omega)) (hbx : B.box = false := by rfl) (hl : off + len ≤ hw := by first | omega | (simp; done) | (simp; omega)) (hc : dr = true → xAn pre ([], [b]) 0 acc = true := by first | (intro h; cases h; done) | (intro _; kernel_rfl)) (hg : GOk g tm := by first | exact trivial | exact gT rfl (by first | rfl | assumption)) : Sq P nt dr (⟨d, .b2s x, g, site, pre⟩ :: os) acc K ⟨lvl, tm, hp⟩ := opr h (v_b2s hx hb hbx hc0 hl hs) rfl hc hg
theorem o_b2sR {x : VX} {b : Bid} (h : Sq P nt dr os (acc ++ [([], [b])]) K ⟨lvl, tput tm d v, hp⟩) (hv : vop lvl site (tget tm) (hget hp) (.b2s x) = some ⟨v, [], [b]⟩ := by rfl) (hc : dr = true → xAn pre ([], [b]) 0 acc = true := by first | (intro h; cases h; done) | (intro _; kernel_rfl)) (hg : GOk g tm := by first | exact trivial | exact gT rfl (by first | rfl | assumption)) : Sq P nt dr (⟨d, .b2s x, g, site, pre⟩ :: os) acc K ⟨lvl, tm, hp⟩ := opr h hv rfl hc hg
theorem xRH {x y : VX} {k : IntKind} {n m r : Int} (h : Sq P nt dr os (acc ++ [([], [])]) K ⟨lvl, tput tm d (.int k r), hp⟩) (hx : ev (tget tm) x = some (.int k n) := by rfl) (hy : ev (tget tm) y = some (.int k m) := by rfl) (hr : k.wrap (n + m) = r := by assumption) (hg : GOk g tm := by first | exact trivial | exact gT rfl (by first | rfl | assumption)) : Sq P nt dr (⟨d, .bin .add x y, g, site, pre⟩ :: os) acc K ⟨lvl, tm, hp⟩ := op0 h (by subst hr; simp only [vop, hx, hy, Option.bind_some, bin, if_true, xEN]; rfl) rfl hg
theorem xP9 {x y : VX} {s : List UInt8} {c : UInt8} {k : IntKind} {n : Int} (h : Sq P nt dr os (acc ++ [([], [])]) K ⟨lvl, tput tm d (.int .u8 c.toNat), hp⟩) (hx : ev (tget tm) x = some (.str s) := by rfl) (hy : ev (tget tm) y = some (.int k n) := by rfl) (h0 : 0 ≤ n := by omega) (hc : s[n.toNat]? = some c := by assumption) (hg : GOk g tm := by first | exact trivial | exact gT rfl (by first | rfl | assumption)) : Sq P nt dr (⟨d, .indexS x y, g, site, pre⟩ :: os) acc K ⟨lvl, tm, hp⟩ := op0 h (xPZ hx hy h0 hc) rfl hg
theorem xEq {x : VX} {lo hi : Option VX} {s : List UInt8} {a z : Int} (h : Sq P nt dr os (acc ++ [([], [])]) K ⟨lvl, tput tm d (.str ((s.drop a.toNat).take (z.toNat - a.toNat))), hp⟩) (hx : ev (tget tm) x = some (.str s) := by rfl) (h1 : xAP (tget tm) 0 lo = some a := by rfl) (h2 : xAP (tget tm) s.length hi = some z := by rfl) (ha : 0 ≤ a := by omega) (hz : a ≤ z := by first | omega | (simp_all; done) | (simp_all; omega)) (hl : z ≤ s.length := by first | omega | (simp_all; omega) | simp_all) (hg : GOk g tm := by first | exact trivial | exact gT rfl (by first | rfl | assumption)) : Sq P nt dr (⟨d, .slstr x lo hi, g, site, pre⟩ :: os) acc K ⟨lvl, tm, hp⟩ := op0 h (xNR hx h1 h2 ha hz hl) rfl hg
theorem xQA {x y : VX} {esz : Nat} {b : Bid} (h : Sq P nt dr os (acc ++ [([], [b])]) K ⟨lvl, tput tm d v, hp⟩) (hv : vop lvl site (tget tm) (hget hp) (.iaddr esz x y) = some ⟨v, [], [b]⟩ := by rfl) (hc : dr = true → xAn pre ([], [b]) 0 acc = true := by first | (intro h; cases h; done) | (intro _; kernel_rfl)) (hg : GOk g tm := by first | exact trivial | exact gT rfl (by first | rfl | assumption)) : Sq P nt dr (⟨d, .iaddr esz x y, g, site, pre⟩ :: os) acc K ⟨lvl, tm, hp⟩ := opr h hv rfl hc hg
theorem o_slslR {x : VX} {lo hi mx : Option VX} {esz : Nat} {b : Bid} (h : Sq P nt dr os (acc ++ [([], [b])]) K ⟨lvl, tput tm d v, hp⟩) (hv : vop lvl site (tget tm) (hget hp) (.slsl esz x lo hi mx) = some ⟨v, [], [b]⟩ := by rfl) (hc : dr = true → xAn pre ([], [b]) 0 acc = true := by first | (intro h; cases h; done) | (intro _; kernel_rfl)) (hg : GOk g tm := by first | exact trivial | exact gT rfl (by first | rfl | assumption)) : Sq P nt dr (⟨d, .slsl esz x lo hi mx, g, site, pre⟩ :: os) acc K ⟨lvl, tm, hp⟩ := opr h hv rfl hc hg
theorem xCX {x y : VX} {k : IntKind} {n m r : Int} (h : Sq P nt dr os (acc ++ [([], [])]) K ⟨lvl, tput tm d (.int k r), hp⟩) (hx : ev (tget tm) x = some (.int k n) := by rfl) (hy : ev (tget tm) y = some (.int k m) := by rfl) (hm : m ≠ 0 := by first | omega | exact (by decide)) (hr : n.tmod m = r := by first | assumption | rfl) (hg : GOk g tm := by first | exact trivial | exact gT rfl (by first | rfl | assumption)) : Sq P nt dr (⟨d, .bin .rem x y, g, site, pre⟩ :: os) acc K ⟨lvl, tm, hp⟩ := op0 h (by rw [← hr]; exact v_rem hx hy hm) rfl hg
theorem xBZ {x : VX} {k k' : IntKind} {n r : Int} (h : Sq P nt dr os (acc ++ [([], [])]) K ⟨lvl, tput tm d (.int k' r), hp⟩) (hx : ev (tget tm) x = some (.int k n) := by rfl) (hr : k'.wrap n = r := by first | assumption | rfl) (hg : GOk g tm := by first | exact trivial | exact gT rfl (by first | rfl | assumption)) : Sq P nt dr (⟨d, .conv k' x, g, site, pre⟩ :: os) acc K ⟨lvl, tm, hp⟩ := op0 h (by subst hr; simp only [vop, hx, Option.bind_some]; rfl) rfl hg
theorem xAm {x : VX} (h : Sq P nt dr os (acc ++ [([], [])]) K ⟨lvl, tput tm d v, hp⟩) (hv : vop lvl site (tget tm) (hget hp) (.copy x) = some ⟨v, [], []⟩ := by rfl)  (hg : GOk g tm := by first | exact trivial | exact gT rfl (by first | rfl | assumption)) : Sq P nt dr (⟨d, .copy x, g, site, pre⟩ :: os) acc K ⟨lvl, tm, hp⟩ := op0 h hv rfl hg
theorem xSb {n : Nat} {x : VX} (h : Sq P nt dr os (acc ++ [([], [])]) K ⟨lvl, tput tm d v, hp⟩) (hv : vop lvl site (tget tm) (hget hp) (.faddr n x) = some ⟨v, [], []⟩ := by rfl)  (hg : GOk g tm := by first | exact trivial | exact gT rfl (by first | rfl | assumption)) : Sq P nt dr (⟨d, .faddr n x, g, site, pre⟩ :: os) acc K ⟨lvl, tm, hp⟩ := op0 h hv rfl hg
theorem xSa {a : Bool} {n m : Nat} {x : VX} (h : Sq P nt dr os (acc ++ [([], [])]) K ⟨lvl, tput tm d v, hp⟩) (hv : vop lvl site (tget tm) (hget hp) (.field a n m x) = some ⟨v, [], []⟩ := by rfl)  (hg : GOk g tm := by first | exact trivial | exact gT rfl (by first | rfl | assumption)) : Sq P nt dr (⟨d, .field a n m x, g, site, pre⟩ :: os) acc K ⟨lvl, tm, hp⟩ := op0 h hv rfl hg
theorem o_bin {o : BinOp} {x y : VX} (h : Sq P nt dr os (acc ++ [([], [])]) K ⟨lvl, tput tm d v, hp⟩) (hv : vop lvl site (tget tm) (hget hp) (.bin o x y) = some ⟨v, [], []⟩ := by rfl)  (hg : GOk g tm := by first | exact trivial | exact gT rfl (by first | rfl | assumption)) : Sq P nt dr (⟨d, .bin o x y, g, site, pre⟩ :: os) acc K ⟨lvl, tm, hp⟩ := op0 h hv rfl hg
theorem o_not {x : VX} (h : Sq P nt dr os (acc ++ [([], [])]) K ⟨lvl, tput tm d v, hp⟩) (hv : vop lvl site (tget tm) (hget hp) (.not x) = some ⟨v, [], []⟩ := by rfl)  (hg : GOk g tm := by first | exact trivial | exact gT rfl (by first | rfl | assumption)) : Sq P nt dr (⟨d, .not x, g, site, pre⟩ :: os) acc K ⟨lvl, tm, hp⟩ := op0 h hv rfl hg
theorem o_eqb {n : Bool} {x y : VX} (h : Sq P nt dr os (acc ++ [([], [])]) K ⟨lvl, tput tm d v, hp⟩) (hv : vop lvl site (tget tm) (hget hp) (.eqb n x y) = some ⟨v, [], []⟩ := by rfl)  (hg : GOk g tm := by first | exact trivial | exact gT rfl (by first | rfl | assumption)) : Sq P nt dr (⟨d, .eqb n x y, g, site, pre⟩ :: os) acc K ⟨lvl, tm, hp⟩ := op0 h hv rfl hg
theorem o_eqc {n : Bool} {ks : List Nat} {x y : VX} (h : Sq P nt dr os (acc ++ [([], [])]) K ⟨lvl, tput tm d v, hp⟩) (hv : vop lvl site (tget tm) (hget hp) (.eqc n ks x y) = some ⟨v, [], []⟩ := by rfl)  (hg : GOk g tm := by first | exact trivial | exact gT rfl (by first | rfl | assumption)) : Sq P nt dr (⟨d, .eqc n ks x y, g, site, pre⟩ :: os) acc K ⟨lvl, tm, hp⟩ := op0 h hv rfl hg
theorem o_nilc {x : VX} (h : Sq P nt dr os (acc ++ [([], [])]) K ⟨lvl, tput tm d v, hp⟩) (hv : vop lvl site (tget tm) (hget hp) (.nilc x) = some ⟨v, [], []⟩ := by rfl)  (hg : GOk g tm := by first | exact trivial | exact gT rfl (by first | rfl | assumption)) : Sq P nt dr (⟨d, .nilc x, g, site, pre⟩ :: os) acc K ⟨lvl, tm, hp⟩ := op0 h hv rfl hg
theorem xSY {n : Bool} {x : VX} (h : Sq P nt dr os (acc ++ [([], [])]) K ⟨lvl, tput tm d v, hp⟩) (hv : vop lvl site (tget tm) (hget hp) (.isnil n x) = some ⟨v, [], []⟩ := by rfl)  (hg : GOk g tm := by first | exact trivial | exact gT rfl (by first | rfl | assumption)) : Sq P nt dr (⟨d, .isnil n x, g, site, pre⟩ :: os) acc K ⟨lvl, tm, hp⟩ := op0 h hv rfl hg
theorem o_fn {f : Nat} {cs : List VX} (h : Sq P nt dr os (acc ++ [([], [])]) K ⟨lvl, tput tm d v, hp⟩) (hv : vop lvl site (tget tm) (hget hp) (.fn f cs) = some ⟨v, [], []⟩ := by rfl)  (hg : GOk g tm := by first | exact trivial | exact gT rfl (by first | rfl | assumption)) : Sq P nt dr (⟨d, .fn f cs, g, site, pre⟩ :: os) acc K ⟨lvl, tm, hp⟩ := op0 h hv rfl hg
theorem xSc {z : List PV} {ps : List (Nat × Nat × VX)} (h : Sq P nt dr os (acc ++ [([], [])]) K ⟨lvl, tput tm d v, hp⟩) (hv : vop lvl site (tget tm) (hget hp) (.build z ps) = some ⟨v, [], []⟩ := by rfl)  (hg : GOk g tm := by first | exact trivial | exact gT rfl (by first | rfl | assumption)) : Sq P nt dr (⟨d, .build z ps, g, site, pre⟩ :: os) acc K ⟨lvl, tm, hp⟩ := op0 h hv rfl hg
theorem xOI {x : VX} {n : Nat} (h : Sq P nt dr os (acc ++ [([], [])]) K ⟨lvl, tput tm d v, hp⟩) (hv : vop lvl site (tget tm) (hget hp) (.extract x n) = some ⟨v, [], []⟩ := by rfl)  (hg : GOk g tm := by first | exact trivial | exact gT rfl (by first | rfl | assumption)) : Sq P nt dr (⟨d, .extract x n, g, site, pre⟩ :: os) acc K ⟨lvl, tm, hp⟩ := op0 h hv rfl hg
theorem o_lenS {x : VX} (h : Sq P nt dr os (acc ++ [([], [])]) K ⟨lvl, tput tm d v, hp⟩) (hv : vop lvl site (tget tm) (hget hp) (.lenS x) = some ⟨v, [], []⟩ := by rfl)  (hg : GOk g tm := by first | exact trivial | exact gT rfl (by first | rfl | assumption)) : Sq P nt dr (⟨d, .lenS x, g, site, pre⟩ :: os) acc K ⟨lvl, tm, hp⟩ := op0 h hv rfl hg
theorem o_len {x : VX} (h : Sq P nt dr os (acc ++ [([], [])]) K ⟨lvl, tput tm d v, hp⟩) (hv : vop lvl site (tget tm) (hget hp) (.len x) = some ⟨v, [], []⟩ := by rfl)  (hg : GOk g tm := by first | exact trivial | exact gT rfl (by first | rfl | assumption)) : Sq P nt dr (⟨d, .len x, g, site, pre⟩ :: os) acc K ⟨lvl, tm, hp⟩ := op0 h hv rfl hg
theorem o_cstr {x : VX} (h : Sq P nt dr os (acc ++ [([], [])]) K ⟨lvl, tput tm d v, hp⟩) (hv : vop lvl site (tget tm) (hget hp) (.cstr x) = some ⟨v, [], []⟩ := by rfl)  (hg : GOk g tm := by first | exact trivial | exact gT rfl (by first | rfl | assumption)) : Sq P nt dr (⟨d, .cstr x, g, site, pre⟩ :: os) acc K ⟨lvl, tm, hp⟩ := op0 h hv rfl hg
theorem xQC {n m : Nat} {x y : VX} (h : Sq P nt dr os (acc ++ [([], [])]) K ⟨lvl, tput tm d v, hp⟩) (hv : vop lvl site (tget tm) (hget hp) (.iaddrA n m x y) = some ⟨v, [], []⟩ := by rfl)  (hg : GOk g tm := by first | exact trivial | exact gT rfl (by first | rfl | assumption)) : Sq P nt dr (⟨d, .iaddrA n m x y, g, site, pre⟩ :: os) acc K ⟨lvl, tm, hp⟩ := op0 h hv rfl hg
theorem o_indexA {a : Bool} {n m : Nat} {x y : VX} (h : Sq P nt dr os (acc ++ [([], [])]) K ⟨lvl, tput tm d v, hp⟩) (hv : vop lvl site (tget tm) (hget hp) (.indexA a n m x y) = some ⟨v, [], []⟩ := by rfl)  (hg : GOk g tm := by first | exact trivial | exact gT rfl (by first | rfl | assumption)) : Sq P nt dr (⟨d, .indexA a n m x y, g, site, pre⟩ :: os) acc K ⟨lvl, tm, hp⟩ := op0 h hv rfl hg
theorem xP6 {a : Bool} {x y : VX} (h : Sq P nt dr os (acc ++ [([], [])]) K ⟨lvl, tput tm d v, hp⟩) (hv : vop lvl site (tget tm) (hget hp) (.minmax a x y) = some ⟨v, [], []⟩ := by rfl)  (hg : GOk g tm := by first | exact trivial | exact gT rfl (by first | rfl | assumption)) : Sq P nt dr (⟨d, .minmax a x y, g, site, pre⟩ :: os) acc K ⟨lvl, tm, hp⟩ := op0 h hv rfl hg
theorem o_conv {k : IntKind} {x : VX} (h : Sq P nt dr os (acc ++ [([], [])]) K ⟨lvl, tput tm d v, hp⟩) (hv : vop lvl site (tget tm) (hget hp) (.conv k x) = some ⟨v, [], []⟩ := by rfl)  (hg : GOk g tm := by first | exact trivial | exact gT rfl (by first | rfl | assumption)) : Sq P nt dr (⟨d, .conv k x, g, site, pre⟩ :: os) acc K ⟨lvl, tm, hp⟩ := op0 h hv rfl hg
theorem o_slsl0 {n : Nat} {x : VX} {lo hi mx : Option VX} (h : Sq P nt dr os (acc ++ [([], [])]) K ⟨lvl, tput tm d v, hp⟩) (hv : vop lvl site (tget tm) (hget hp) (.slsl n x lo hi mx) = some ⟨v, [], []⟩ := by rfl)  (hg : GOk g tm := by first | exact trivial | exact gT rfl (by first | rfl | assumption)) : Sq P nt dr (⟨d, .slsl n x lo hi mx, g, site, pre⟩ :: os) acc K ⟨lvl, tm, hp⟩ := op0 h hv rfl hg
theorem o_slstr0 {x : VX} {lo hi : Option VX} (h : Sq P nt dr os (acc ++ [([], [])]) K ⟨lvl, tput tm d v, hp⟩) (hv : vop lvl site (tget tm) (hget hp) (.slstr x lo hi) = some ⟨v, [], []⟩ := by rfl)  (hg : GOk g tm := by first | exact trivial | exact gT rfl (by first | rfl | assumption)) : Sq P nt dr (⟨d, .slstr x lo hi, g, site, pre⟩ :: os) acc K ⟨lvl, tm, hp⟩ := op0 h hv rfl hg
theorem o_indexS0 {x y : VX} (h : Sq P nt dr os (acc ++ [([], [])]) K ⟨lvl, tput tm d v, hp⟩) (hv : vop lvl site (tget tm) (hget hp) (.indexS x y) = some ⟨v, [], []⟩ := by rfl)  (hg : GOk g tm := by first | exact trivial | exact gT rfl (by first | rfl | assumption)) : Sq P nt dr (⟨d, .indexS x y, g, site, pre⟩ :: os) acc K ⟨lvl, tm, hp⟩ := op0 h hv rfl hg
theorem o_load0 {a : Bool} {n : Nat} {x : VX} (h : Sq P nt dr os (acc ++ [([], [])]) K ⟨lvl, tput tm d v, hp⟩) (hv : vop lvl site (tget tm) (hget hp) (.load a n x) = some ⟨v, [], []⟩ := by rfl)  (hg : GOk g tm := by first | exact trivial | exact gT rfl (by first | rfl | assumption)) : Sq P nt dr (⟨d, .load a n x, g, site, pre⟩ :: os) acc K ⟨lvl, tm, hp⟩ := op0 h hv rfl hg
theorem o_lenq {x : VX} {q : PV} {l : List (List PV)} (h : Sq P nt dr os (acc ++ [([], [])]) K ⟨lvl, tput tm d (.int .i64 l.length), hp⟩) (hx : ev (tget tm) x = some q := by rfl) (hs : Sl q l := by first | assumption | exact Sl.sh | exact Sl.nils | exact Sl.full)  (hg : GOk g tm := by first | exact trivial | exact gT rfl (by first | rfl | assumption)) : Sq P nt dr (⟨d, .len x, g, site, pre⟩ :: os) acc K ⟨lvl, tm, hp⟩ := op0 h (v_len hx hs) rfl hg
theorem o_add {x y : VX} {n m : Int} (h : Sq P nt dr os (acc ++ [([], [])]) K ⟨lvl, tput tm d (.int .i64 (n + m)), hp⟩) (hx : ev (tget tm) x = some (.int .i64 n) := by rfl) (hy : ev (tget tm) y = some (.int .i64 m) := by rfl) (hw : IntKind.i64.wrap (n + m) = n + m := by exact xCK (by omega) (by omega))  (hg : GOk g tm := by first | exact trivial | exact gT rfl (by first | rfl | assumption)) : Sq P nt dr (⟨d, .bin .add x y, g, site, pre⟩ :: os) acc K ⟨lvl, tm, hp⟩ := op0 h (xRm hx hy hw) rfl hg
theorem o_sub {x y : VX} {n m : Int} (h : Sq P nt dr os (acc ++ [([], [])]) K ⟨lvl, tput tm d (.int .i64 (n - m)), hp⟩) (hx : ev (tget tm) x = some (.int .i64 n) := by rfl) (hy : ev (tget tm) y = some (.int .i64 m) := by rfl) (hw : IntKind.i64.wrap (n - m) = n - m := by exact xCK (by omega) (by omega))  (hg : GOk g tm := by first | exact trivial | exact gT rfl (by first | rfl | assumption)) : Sq P nt dr (⟨d, .bin .sub x y, g, site, pre⟩ :: os) acc K ⟨lvl, tm, hp⟩ := op0 h (v_sub hx hy hw) rfl hg
theorem o_mul {x y : VX} {n m : Int} (h : Sq P nt dr os (acc ++ [([], [])]) K ⟨lvl, tput tm d (.int .i64 (n * m)), hp⟩) (hx : ev (tget tm) x = some (.int .i64 n) := by rfl) (hy : ev (tget tm) y = some (.int .i64 m) := by rfl) (hw : IntKind.i64.wrap (n * m) = n * m := by exact xCK (by omega) (by omega))  (hg : GOk g tm := by first | exact trivial | exact gT rfl (by first | rfl | assumption)) : Sq P nt dr (⟨d, .bin .mul x y, g, site, pre⟩ :: os) acc K ⟨lvl, tm, hp⟩ := op0 h (v_mul hx hy hw) rfl hg
theorem o_cat {x y : VX} {s t : List UInt8} (h : Sq P nt dr os (acc ++ [([], [])]) K ⟨lvl, tput tm d (.str (s ++ t)), hp⟩) (hx : ev (tget tm) x = some (.str s) := by rfl) (hy : ev (tget tm) y = some (.str t) := by rfl) (hw : s.length + t.length ≤ 140737488355328 := by first | omega | (simp only [List.length_append, List.length_cons, List.length_nil, List.length_take, List.length_drop]; omega))  (hg : GOk g tm := by first | exact trivial | exact gT rfl (by first | rfl | assumption)) : Sq P nt dr (⟨d, .bin .add x y, g, site, pre⟩ :: os) acc K ⟨lvl, tm, hp⟩ := op0 h (v_cat hx hy hw) rfl hg
theorem xSZ {x y : VX} {q : PV} {l : List (List PV)} {k : IntKind} {n : Int} {esz : Nat} {e : List PV} (h : Sq P nt dr os (acc ++ [([], [])]) K ⟨lvl, tput tm d (.sptr l n.toNat 0), hp⟩) (hx : ev (tget tm) x = some q := by rfl) (hy : ev (tget tm) y = some (.int k n) := by rfl) (hs : Sl q l := by first | assumption | exact Sl.sh | exact Sl.nils | exact Sl.full) (h0 : 0 ≤ n := by omega) (he : l[n.toNat]? = some e := by first | rfl | assumption) (hz : e.length = esz := by rfl)  (hg : GOk g tm := by first | exact trivial | exact gT rfl (by first | rfl | assumption)) : Sq P nt dr (⟨d, .iaddr esz x y, g, site, pre⟩ :: os) acc K ⟨lvl, tm, hp⟩ := op0 h (xRl hx hs hy h0 he hz) rfl hg
theorem xQB {x y : VX} {nn : Nat} {b : Bid} {els : List (List PV)} {k : IntKind} {n : Int} {esz : Nat} (h : Sq P nt dr os (acc ++ [([], [b])]) K ⟨lvl, tput tm d (.ptr b els.length n.toNat 0), hp⟩) (hx : ev (tget tm) x = some (.own b nn 0 nn) := by rfl) (hy : ev (tget tm) y = some (.int k n) := by rfl) (hb : hget hp b = some (blkV esz els) := by rfl) (hnn : nn = els.length := by first | rfl | (simp; done) | (simp only [blkV, List.length_map, List.length_set, List.length_append, List.length_cons, List.length_nil]; omega)) (h0 : 0 ≤ n := by omega) (h1 : n < els.length := by first | omega | (simp; done) | (simp; omega)) (hc : dr = true → xAn pre ([], [b]) 0 acc = true := by first | (intro h; cases h; done) | (intro _; kernel_rfl)) (hg : GOk g tm := by first | exact trivial | exact gT rfl (by first | rfl | assumption)) : Sq P nt dr (⟨d, .iaddr esz x y, g, site, pre⟩ :: os) acc K ⟨lvl, tm, hp⟩ := opr h (xJL hx hy hb hnn h0 h1) rfl hc hg
theorem xSW {x : VX} {l : List (List PV)} {a j : Nat} {e : List PV} {nn : Nat} (h : Sq P nt dr os (acc ++ [([], [])]) K ⟨lvl, tput tm d v, hp⟩) (hx : ev (tget tm) x = some (.sptr l a j) := by rfl) (he : l[a]? = some e := by first | rfl | assumption) (hv : e[j]? = some v := by rfl)  (hg : GOk g tm := by first | exact trivial | exact gT rfl (by first | rfl | assumption)) : Sq P nt dr (⟨d, .load false nn x, g, site, pre⟩ :: os) acc K ⟨lvl, tm, hp⟩ := op0 h (xKd hx he hv) rfl hg
theorem xP7 {x : VX} {l : List (List PV)} {a j : Nat} {e : List PV} {nn : Nat} (h : Sq P nt dr os (acc ++ [([], [])]) K ⟨lvl, tput tm d (.agg ((e.drop j).take nn)), hp⟩) (hx : ev (tget tm) x = some (.sptr l a j) := by rfl) (he : l[a]? = some e := by first | rfl | assumption) (hv : j + nn ≤ e.length := by exact Nat.le_of_ble_eq_true rfl)  (hg : GOk g tm := by first | exact trivial | exact gT rfl (by first | rfl | assumption)) : Sq P nt dr (⟨d, .load true nn x, g, site, pre⟩ :: os) acc K ⟨lvl, tm, hp⟩ := op0 h (xJK hx he hv) rfl hg
theorem xSX {x : VX} {b : Bid} {hw a j : Nat} {B : Blk} {e : List PV} {nn : Nat} (h : Sq P nt dr os (acc ++ [([], [b])]) K ⟨lvl, tput tm d v, hp⟩) (hx : ev (tget tm) x = some (.ptr b hw a j) := by rfl) (hb : hget hp b = some B := by rfl) (hl : hw = B.els.length := by first | rfl | (simp; done) | (simp only [blkV, List.length_map, List.length_set, List.length_append, List.length_cons, List.length_nil]; omega)) (he : B.els[a]? = some e := by first | rfl | assumption) (hv : e[j]? = some v := by rfl) (hc : dr = true → xAn pre ([], [b]) 0 acc = true := by first | (intro h; cases h; done) | (intro _; kernel_rfl)) (hg : GOk g tm := by first | exact trivial | exact gT rfl (by first | rfl | assumption)) : Sq P nt dr (⟨d, .load false nn x, g, site, pre⟩ :: os) acc K ⟨lvl, tm, hp⟩ := opr h (xMd hx hb hl he hv) rfl hc hg
theorem xP8 {x : VX} {b : Bid} {hw a j : Nat} {B : Blk} {e : List PV} {nn : Nat} (h : Sq P nt dr os (acc ++ [([], [b])]) K ⟨lvl, tput tm d (.agg ((e.drop j).take nn)), hp⟩) (hx : ev (tget tm) x = some (.ptr b hw a j) := by rfl) (hb : hget hp b = some B := by rfl) (hl : hw = B.els.length := by first | rfl | (simp; done) | (simp only [blkV, List.length_map, List.length_set, List.length_append, List.length_cons, List.length_nil]; omega)) (he : B.els[a]? = some e := by first | rfl | assumption) (hv : j + nn ≤ e.length := by exact Nat.le_of_ble_eq_true rfl) (hc : dr = true → xAn pre ([], [b]) 0 acc = true := by first | (intro h; cases h; done) | (intro _; kernel_rfl)) (hg : GOk g tm := by first | exact trivial | exact gT rfl (by first | rfl | assumption)) : Sq P nt dr (⟨d, .load true nn x, g, site, pre⟩ :: os) acc K ⟨lvl, tm, hp⟩ := opr h (xKe hx hb hl he hv) rfl hc hg
theorem xST {x y : VX} {b : Bid} {hw a j : Nat} {B : Blk} {e : List PV} {nn : Nat} (h : Sq P nt dr os (acc ++ [([b], [b])]) K ⟨lvl, tput tm d .dead, hset hp b { B with els := B.els.set a (e.take j ++ xAU v ++ e.drop (j + nn)) }⟩) (hx : ev (tget tm) x = some (.ptr b hw a j) := by rfl) (hy : ev (tget tm) y = some v := by rfl) (hb : hget hp b = some B := by rfl) (hl : hw = B.els.length := by first | rfl | (simp; done) | (simp only [blkV, List.length_map, List.length_set, List.length_append, List.length_cons, List.length_nil]; omega)) (hz : B.frz = false := by rfl) (he : B.els[a]? = some e := by first | rfl | assumption) (hn : (xAU v).length = nn := by rfl) (hj : j + nn ≤ e.length := by exact Nat.le_of_ble_eq_true rfl) (hs : (xAU v).all (xC6 B.box) = true := by first | rfl | (simp [xC6, closed, xB1, xAU]; done)) (hc : dr = true → xAn pre ([b], [b]) 0 acc = true := by first | (intro h; cases h; done) | (intro _; kernel_rfl)) (hg : GOk g tm := by first | exact trivial | exact gT rfl (by first | rfl | assumption)) : Sq P nt dr (⟨d, .store nn x y, g, site, pre⟩ :: os) acc K ⟨lvl, tm, hp⟩ := op1 (ws := [(b, { B with els := B.els.set a (e.take j ++ xAU v ++ e.drop (j + nn)) })]) (rd := [b]) h (xEm hx hy hb hl hz he hn hj hs) rfl hc hg
theorem xSU {c x y : VX} {t : Bool} (h : Sq P nt dr os (acc ++ [([], [])]) K ⟨lvl, tput tm d v, hp⟩) (hb : ev (tget tm) c = some (.bool t) := by rfl) (ht : t = true := by first | rfl | assumption) (hx : ev (tget tm) x = some v := by rfl)  (hg : GOk g tm := by first | exact trivial | exact gT rfl (by first | rfl | assumption)) : Sq P nt dr (⟨d, .pick c x y, g, site, pre⟩ :: os) acc K ⟨lvl, tm, hp⟩ := op0 h (xRj hb ht hx) rfl hg
theorem xSV {c x y : VX} {t : Bool} (h : Sq P nt dr os (acc ++ [([], [])]) K ⟨lvl, tput tm d v, hp⟩) (hb : ev (tget tm) c = some (.bool t) := by rfl) (ht : t = false := by first | rfl | assumption) (hy : ev (tget tm) y = some v := by rfl)  (hg : GOk g tm := by first | exact trivial | exact gT rfl (by first | rfl | assumption)) : Sq P nt dr (⟨d, .pick c x y, g, site, pre⟩ :: os) acc K ⟨lvl, tm, hp⟩ := op0 h (xRk hb ht hy) rfl hg
theorem o_box {x : VX} {B : Blk} (h : Sq P nt dr os (acc ++ [([⟨lvl, site⟩], [])]) K ⟨lvl, tput tm d v, hset hp ⟨lvl, site⟩ B⟩) (hv : vop lvl site (tget tm) (hget hp) (.box x) = some ⟨v, [(⟨lvl, site⟩, B)], []⟩ := by rfl) (hc : dr = true → xAn pre ([⟨lvl, site⟩], []) 0 acc = true := by first | (intro h; cases h; done) | (intro _; kernel_rfl)) (hg : GOk g tm := by first | exact trivial | exact gT rfl (by first | rfl | assumption)) : Sq P nt dr (⟨d, .box x, g, site, pre⟩ :: os) acc K ⟨lvl, tm, hp⟩ := op1 (ws := [(⟨lvl, site⟩, B)]) (rd := []) h hv rfl hc hg
theorem xSd {z : List PV} {B : Blk} (h : Sq P nt dr os (acc ++ [([⟨lvl, site⟩], [])]) K ⟨lvl, tput tm d v, hset hp ⟨lvl, site⟩ B⟩) (hv : vop lvl site (tget tm) (hget hp) (.alloc z) = some ⟨v, [(⟨lvl, site⟩, B)], []⟩ := by rfl) (hc : dr = true → xAn pre ([⟨lvl, site⟩], []) 0 acc = true := by first | (intro h; cases h; done) | (intro _; kernel_rfl)) (hg : GOk g tm := by first | exact trivial | exact gT rfl (by first | rfl | assumption)) : Sq P nt dr (⟨d, .alloc z, g, site, pre⟩ :: os) acc K ⟨lvl, tm, hp⟩ := op1 (ws := [(⟨lvl, site⟩, B)]) (rd := []) h hv rfl hc hg
theorem xQD {n m : Nat} {z : List PV} {ps : List (Nat × VX)} {B : Blk} (h : Sq P nt dr os (acc ++ [([⟨lvl, site⟩], [])]) K ⟨lvl, tput tm d v, hset hp ⟨lvl, site⟩ B⟩) (hv : vop lvl site (tget tm) (hget hp) (.bslice n z m ps) = some ⟨v, [(⟨lvl, site⟩, B)], []⟩ := by rfl) (hc : dr = true → xAn pre ([⟨lvl, site⟩], []) 0 acc = true := by first | (intro h; cases h; done) | (intro _; kernel_rfl)) (hg : GOk g tm := by first | exact trivial | exact gT rfl (by first | rfl | assumption)) : Sq P nt dr (⟨d, .bslice n z m ps, g, site, pre⟩ :: os) acc K ⟨lvl, tm, hp⟩ := op1 (ws := [(⟨lvl, site⟩, B)]) (rd := []) h hv rfl hc hg
theorem o_s2b {x : VX} {B : Blk} (h : Sq P nt dr os (acc ++ [([⟨lvl, site⟩], [])]) K ⟨lvl, tput tm d v, hset hp ⟨lvl, site⟩ B⟩) (hv : vop lvl site (tget tm) (hget hp) (.s2b x) = some ⟨v, [(⟨lvl, site⟩, B)], []⟩ := by rfl) (hc : dr = true → xAn pre ([⟨lvl, site⟩], []) 0 acc = true := by first | (intro h; cases h; done) | (intro _; kernel_rfl)) (hg : GOk g tm := by first | exact trivial | exact gT rfl (by first | rfl | assumption)) : Sq P nt dr (⟨d, .s2b x, g, site, pre⟩ :: os) acc K ⟨lvl, tm, hp⟩ := op1 (ws := [(⟨lvl, site⟩, B)]) (rd := []) h hv rfl hc hg
theorem o_v (hv : vop lvl site (tget tm) (hget hp) op = some ⟨v, ws, rd⟩) (h : Sq P nt dr os (acc ++ [(ws.map (·.1), rd)]) K ⟨lvl, tput tm d v, hput hp ws⟩) (hn : xCu op = true := by rfl) (hc : dr = true → xAn pre (ws.map (·.1), rd) 0 acc = true := by first | (intro h; cases h; done) | (intro _; kernel_rfl)) (hg : GOk g tm := by first | exact trivial | exact gT rfl (by first | rfl | assumption)) : Sq P nt dr (⟨d, op, g, site, pre⟩ :: os) acc K ⟨lvl, tm, hp⟩ := op1 h hv hn hc hg
theorem o_v0 (hv : vop lvl site (tget tm) (hget hp) op = some ⟨v, [], []⟩) (h : Sq P nt dr os (acc ++ [([], [])]) K ⟨lvl, tput tm d v, hp⟩) (hn : xCu op = true := by rfl) (hg : GOk g tm := by first | exact trivial | exact gT rfl (by first | rfl | assumption)) : Sq P nt dr (⟨d, op, g, site, pre⟩ :: os) acc K ⟨lvl, tm, hp⟩ := op0 h hv hn hg
variable {f : VX} {xs : List VX} {fid : Nat} {all qs : List PV} {rv : PV} {hout : List Blk}
theorem cv (h4 : VC P fid qs [] rv hout) (h : Sq P nt dr os (acc ++ [((named (xBI [] lvl site) 0 hout).map (·.1), rd)]) K ⟨lvl, tput tm d (mapV (xBI [] lvl site) rv), hput hp (named (xBI [] lvl site) 0 hout)⟩)
  (ht : Targ (tget tm) f xs fid all := by first | exact Targ.pl rfl rfl (Nat.le_of_ble_eq_true rfl) | exact Targ.mt rfl rfl rfl | exact Targ.bd rfl rfl) (h3 : xBe (hget hp) [] all = some (rd, qs) := by first | exact xBm | exact xAI (by first | exact xAW rfl (by first | rfl | (simp; done) | (simp only [blkV, List.length_map, List.length_set, List.length_append, List.length_cons, List.length_nil]; omega)) | exact xAA rfl | exact xAA (Sl.closed (by assumption)) | exact xAA (by assumption) | rfl) xBm | exact xAI (by first | exact xAW rfl (by first | rfl | (simp; done) | (simp only [blkV, List.length_map, List.length_set, List.length_append, List.length_cons, List.length_nil]; omega)) | exact xAA rfl | exact xAA (Sl.closed (by assumption)) | exact xAA (by assumption) | rfl) (xAI (by first | exact xAW rfl (by first | rfl | (simp; done) | (simp only [blkV, List.length_map, List.length_set, List.length_append, List.length_cons, List.length_nil]; omega)) | exact xAA rfl | exact xAA (Sl.closed (by assumption)) | exact xAA (by assumption) | rfl) xBm) | exact xAI (by first | exact xAW rfl (by first | rfl | (simp; done) | (simp only [blkV, List.length_map, List.length_set, List.length_append, List.length_cons, List.length_nil]; omega)) | exact xAA rfl | exact xAA (Sl.closed (by assumption)) | exact xAA (by assumption) | rfl) (xAI (by first | exact xAW rfl (by first | rfl | (simp; done) | (simp only [blkV, List.length_map, List.length_set, List.length_append, List.length_cons, List.length_nil]; omega)) | exact xAA rfl | exact xAA (Sl.closed (by assumption)) | exact xAA (by assumption) | rfl) (xAI (by first | exact xAW rfl (by first | rfl | (simp; done) | (simp only [blkV, List.length_map, List.length_set, List.length_append, List.length_cons, List.length_nil]; omega)) | exact xAA rfl | exact xAA (Sl.closed (by assumption)) | exact xAA (by assumption) | rfl) xBm)) | exact xAI (by first | exact xAW rfl (by first | rfl | (simp; done) | (simp only [blkV, List.length_map, List.length_set, List.length_append, List.length_cons, List.length_nil]; omega)) | exact xAA rfl | exact xAA (Sl.closed (by assumption)) | exact xAA (by assumption) | rfl) (xAI (by first | exact xAW rfl (by first | rfl | (simp; done) | (simp only [blkV, List.length_map, List.length_set, List.length_append, List.length_cons, List.length_nil]; omega)) | exact xAA rfl | exact xAA (Sl.closed (by assumption)) | exact xAA (by assumption) | rfl) (xAI (by first | exact xAW rfl (by first | rfl | (simp; done) | (simp only [blkV, List.length_map, List.length_set, List.length_append, List.length_cons, List.length_nil]; omega)) | exact xAA rfl | exact xAA (Sl.closed (by assumption)) | exact xAA (by assumption) | rfl) (xAI (by first | exact xAW rfl (by first | rfl | (simp; done) | (simp only [blkV, List.length_map, List.length_set, List.length_append, List.length_cons, List.length_nil]; omega)) | exact xAA rfl | exact xAA (Sl.closed (by assumption)) | exact xAA (by assumption) | rfl) xBm))) | exact xAI (by first | exact xAW rfl (by first | rfl | (simp; done) | (simp only [blkV, List.length_map, List.length_set, List.length_append, List.length_cons, List.length_nil]; omega)) | exact xAA rfl | exact xAA (Sl.closed (by assumption)) | exact xAA (by assumption) | rfl) (xAI (by first | exact xAW rfl (by first | rfl | (simp; done) | (simp only [blkV, List.length_map, List.length_set, List.length_append, List.length_cons, List.length_nil]; omega)) | exact xAA rfl | exact xAA (Sl.closed (by assumption)) | exact xAA (by assumption) | rfl) (xAI (by first | exact xAW rfl (by first | rfl | (simp; done) | (simp only [blkV, List.length_map, List.length_set, List.length_append, List.length_cons, List.length_nil]; omega)) | exact xAA rfl | exact xAA (Sl.closed (by assumption)) | exact xAA (by assumption) | rfl) (xAI (by first | exact xAW rfl (by first | rfl | (simp; done) | (simp only [blkV, List.length_map, List.length_set, List.length_append, List.length_cons, List.length_nil]; omega)) | exact xAA rfl | exact xAA (Sl.closed (by assumption)) | exact xAA (by assumption) | rfl) (xAI (by first | exact xAW rfl (by first | rfl | (simp; done) | (simp only [blkV, List.length_map, List.length_set, List.length_append, List.length_cons, List.length_nil]; omega)) | exact xAA rfl | exact xAA (Sl.closed (by assumption)) | exact xAA (by assumption) | rfl) xBm)))) | exact xAI (by first | exact xAW rfl (by first | rfl | (simp; done) | (simp only [blkV, List.length_map, List.length_set, List.length_append, List.length_cons, List.length_nil]; omega)) | exact xAA rfl | exact xAA (Sl.closed (by assumption)) | exact xAA (by assumption) | rfl) (xAI (by first | exact xAW rfl (by first | rfl | (simp; done) | (simp only [blkV, List.length_map, List.length_set, List.length_append, List.length_cons, List.length_nil]; omega)) | exact xAA rfl | exact xAA (Sl.closed (by assumption)) | exact xAA (by assumption) | rfl) (xAI (by first | exact xAW rfl (by first | rfl | (simp; done) | (simp only [blkV, List.length_map, List.length_set, List.length_append, List.length_cons, List.length_nil]; omega)) | exact xAA rfl | exact xAA (Sl.closed (by assumption)) | exact xAA (by assumption) | rfl) (xAI (by first | exact xAW rfl (by first | rfl | (simp; done) | (simp only [blkV, List.length_map, List.length_set, List.length_append, List.length_cons, List.length_nil]; omega)) | exact xAA rfl | exact xAA (Sl.closed (by assumption)) | exact xAA (by assumption) | rfl) (xAI (by first | exact xAW rfl (by first | rfl | (simp; done) | (simp only [blkV, List.length_map, List.length_set, List.length_append, List.length_cons, List.length_nil]; omega)) | exact xAA rfl | exact xAA (Sl.closed (by assumption)) | exact xAA (by assumption) | rfl) (xAI (by first | exact xAW rfl (by first | rfl | (simp; done) | (simp only [blkV, List.length_map, List.length_set, List.length_append, List.length_cons, List.length_nil]; omega)) | exact xAA rfl | exact xAA (Sl.closed (by assumption)) | exact xAA (by assumption) | rfl) xBm))))))
  (h5 : xHu (hget hp) lvl site hout.length := by first | exact trivial | exact xFK rfl) (h6 : xLO rv hout := by first | exact xKQ rfl | exact xPC (by intro a; simp [cS, cN, clean]) | exact xKP rfl (by assumption)) (hc : dr = true → xAn pre ((named (xBI [] lvl site) 0 hout).map (·.1), rd) 0 acc = true := by first | (intro h; cases h; done) | (intro _; kernel_rfl)) (hg : GOk g tm := by first | exact trivial | exact gT rfl (by first | rfl | assumption)) : Sq P nt dr (⟨d, .call f xs, g, site, pre⟩ :: os) acc K ⟨lvl, tm, hp⟩ :=
  opC h (xRc ht h3 h4 h5 h6) hc hg
theorem cv0 (h4 : VC P fid qs [] rv []) (h : Sq P nt dr os (acc ++ [([], rd)]) K ⟨lvl, tput tm d (mapV (xBI [] lvl site) rv), hp⟩)
  (ht : Targ (tget tm) f xs fid all := by first | exact Targ.pl rfl rfl (Nat.le_of_ble_eq_true rfl) | exact Targ.mt rfl rfl rfl | exact Targ.bd rfl rfl) (h3 : xBe (hget hp) [] all = some (rd, qs) := by first | exact xBm | exact xAI (by first | exact xAW rfl (by first | rfl | (simp; done) | (simp only [blkV, List.length_map, List.length_set, List.length_append, List.length_cons, List.length_nil]; omega)) | exact xAA rfl | exact xAA (Sl.closed (by assumption)) | exact xAA (by assumption) | rfl) xBm | exact xAI (by first | exact xAW rfl (by first | rfl | (simp; done) | (simp only [blkV, List.length_map, List.length_set, List.length_append, List.length_cons, List.length_nil]; omega)) | exact xAA rfl | exact xAA (Sl.closed (by assumption)) | exact xAA (by assumption) | rfl) (xAI (by first | exact xAW rfl (by first | rfl | (simp; done) | (simp only [blkV, List.length_map, List.length_set, List.length_append, List.length_cons, List.length_nil]; omega)) | exact xAA rfl | exact xAA (Sl.closed (by assumption)) | exact xAA (by assumption) | rfl) xBm) | exact xAI (by first | exact xAW rfl (by first | rfl | (simp; done) | (simp only [blkV, List.length_map, List.length_set, List.length_append, List.length_cons, List.length_nil]; omega)) | exact xAA rfl | exact xAA (Sl.closed (by assumption)) | exact xAA (by assumption) | rfl) (xAI (by first | exact xAW rfl (by first | rfl | (simp; done) | (simp only [blkV, List.length_map, List.length_set, List.length_append, List.length_cons, List.length_nil]; omega)) | exact xAA rfl | exact xAA (Sl.closed (by assumption)) | exact xAA (by assumption) | rfl) (xAI (by first | exact xAW rfl (by first | rfl | (simp; done) | (simp only [blkV, List.length_map, List.length_set, List.length_append, List.length_cons, List.length_nil]; omega)) | exact xAA rfl | exact xAA (Sl.closed (by assumption)) | exact xAA (by assumption) | rfl) xBm)) | exact xAI (by first | exact xAW rfl (by first | rfl | (simp; done) | (simp only [blkV, List.length_map, List.length_set, List.length_append, List.length_cons, List.length_nil]; omega)) | exact xAA rfl | exact xAA (Sl.closed (by assumption)) | exact xAA (by assumption) | rfl) (xAI (by first | exact xAW rfl (by first | rfl | (simp; done) | (simp only [blkV, List.length_map, List.length_set, List.length_append, List.length_cons, List.length_nil]; omega)) | exact xAA rfl | exact xAA (Sl.closed (by assumption)) | exact xAA (by assumption) | rfl) (xAI (by first | exact xAW rfl (by first | rfl | (simp; done) | (simp only [blkV, List.length_map, List.length_set, List.length_append, List.length_cons, List.length_nil]; omega)) | exact xAA rfl | exact xAA (Sl.closed (by assumption)) | exact xAA (by assumption) | rfl) (xAI (by first | exact xAW rfl (by first | rfl | (simp; done) | (simp only [blkV, List.length_map, List.length_set, List.length_append, List.length_cons, List.length_nil]; omega)) | exact xAA rfl | exact xAA (Sl.closed (by assumption)) | exact xAA (by assumption) | rfl) xBm))) | exact xAI (by first | exact xAW rfl (by first | rfl | (simp; done) | (simp only [blkV, List.length_map, List.length_set, List.length_append, List.length_cons, List.length_nil]; omega)) | exact xAA rfl | exact xAA (Sl.closed (by assumption)) | exact xAA (by assumption) | rfl) (xAI (by first | exact xAW rfl (by first | rfl | (simp; done) | (simp only [blkV, List.length_map, List.length_set, List.length_append, List.length_cons, List.length_nil]; omega)) | exact xAA rfl | exact xAA (Sl.closed (by assumption)) | exact xAA (by assumption) | rfl) (xAI (by first | exact xAW rfl (by first | rfl | (simp; done) | (simp only [blkV, List.length_map, List.length_set, List.length_append, List.length_cons, List.length_nil]; omega)) | exact xAA rfl | exact xAA (Sl.closed (by assumption)) | exact xAA (by assumption) | rfl) (xAI (by first | exact xAW rfl (by first | rfl | (simp; done) | (simp only [blkV, List.length_map, List.length_set, List.length_append, List.length_cons, List.length_nil]; omega)) | exact xAA rfl | exact xAA (Sl.closed (by assumption)) | exact xAA (by assumption) | rfl) (xAI (by first | exact xAW rfl (by first | rfl | (simp; done) | (simp only [blkV, List.length_map, List.length_set, List.length_append, List.length_cons, List.length_nil]; omega)) | exact xAA rfl | exact xAA (Sl.closed (by assumption)) | exact xAA (by assumption) | rfl) xBm)))) | exact xAI (by first | exact xAW rfl (by first | rfl | (simp; done) | (simp only [blkV, List.length_map, List.length_set, List.length_append, List.length_cons, List.length_nil]; omega)) | exact xAA rfl | exact xAA (Sl.closed (by assumption)) | exact xAA (by assumption) | rfl) (xAI (by first | exact xAW rfl (by first | rfl | (simp; done) | (simp only [blkV, List.length_map, List.length_set, List.length_append, List.length_cons, List.length_nil]; omega)) | exact xAA rfl | exact xAA (Sl.closed (by assumption)) | exact xAA (by assumption) | rfl) (xAI (by first | exact xAW rfl (by first | rfl | (simp; done) | (simp only [blkV, List.length_map, List.length_set, List.length_append, List.length_cons, List.length_nil]; omega)) | exact xAA rfl | exact xAA (Sl.closed (by assumption)) | exact xAA (by assumption) | rfl) (xAI (by first | exact xAW rfl (by first | rfl | (simp; done) | (simp only [blkV, List.length_map, List.length_set, List.length_append, List.length_cons, List.length_nil]; omega)) | exact xAA rfl | exact xAA (Sl.closed (by assumption)) | exact xAA (by assumption) | rfl) (xAI (by first | exact xAW rfl (by first | rfl | (simp; done) | (simp only [blkV, List.length_map, List.length_set, List.length_append, List.length_cons, List.length_nil]; omega)) | exact xAA rfl | exact xAA (Sl.closed (by assumption)) | exact xAA (by assumption) | rfl) (xAI (by first | exact xAW rfl (by first | rfl | (simp; done) | (simp only [blkV, List.length_map, List.length_set, List.length_append, List.length_cons, List.length_nil]; omega)) | exact xAA rfl | exact xAA (Sl.closed (by assumption)) | exact xAA (by assumption) | rfl) xBm))))))
  (h6 : cV rv = true := by rfl) (hc : dr = true → xAn pre ([], rd) 0 acc = true := by first | (intro h; cases h; done) | (intro _; kernel_rfl)) (hg : GOk g tm := by first | exact trivial | exact gT rfl (by first | rfl | assumption)) : Sq P nt dr (⟨d, .call f xs, g, site, pre⟩ :: os) acc K ⟨lvl, tm, hp⟩ :=
  opC (ws := []) (rd := rd) h (by have := xRc (lvl := lvl) (site := site) ht h3 h4 trivial (xKQ h6); exact this) hc hg
theorem cf (h4 : VC P fid qs [] rv hout) (h : Sq P nt dr os (acc ++ [((frozen (hget hp) rd ++ named (xBI [] lvl site) 0 hout).map (·.1), rd)]) K ⟨lvl, tput tm d (mapV (xBI [] lvl site) rv), hput hp (frozen (hget hp) rd ++ named (xBI [] lvl site) 0 hout)⟩)
  (ht : Targ (tget tm) f xs fid all := by first | exact Targ.pl rfl rfl (Nat.le_of_ble_eq_true rfl) | exact Targ.mt rfl rfl rfl | exact Targ.bd rfl rfl) (h3 : xBe (hget hp) [] all = some (rd, qs) := by first | exact xBm | exact xAI (by first | exact xAW rfl (by first | rfl | (simp; done) | (simp only [blkV, List.length_map, List.length_set, List.length_append, List.length_cons, List.length_nil]; omega)) | exact xAA rfl | exact xAA (Sl.closed (by assumption)) | exact xAA (by assumption) | rfl) xBm | exact xAI (by first | exact xAW rfl (by first | rfl | (simp; done) | (simp only [blkV, List.length_map, List.length_set, List.length_append, List.length_cons, List.length_nil]; omega)) | exact xAA rfl | exact xAA (Sl.closed (by assumption)) | exact xAA (by assumption) | rfl) (xAI (by first | exact xAW rfl (by first | rfl | (simp; done) | (simp only [blkV, List.length_map, List.length_set, List.length_append, List.length_cons, List.length_nil]; omega)) | exact xAA rfl | exact xAA (Sl.closed (by assumption)) | exact xAA (by assumption) | rfl) xBm) | exact xAI (by first | exact xAW rfl (by first | rfl | (simp; done) | (simp only [blkV, List.length_map, List.length_set, List.length_append, List.length_cons, List.length_nil]; omega)) | exact xAA rfl | exact xAA (Sl.closed (by assumption)) | exact xAA (by assumption) | rfl) (xAI (by first | exact xAW rfl (by first | rfl | (simp; done) | (simp only [blkV, List.length_map, List.length_set, List.length_append, List.length_cons, List.length_nil]; omega)) | exact xAA rfl | exact xAA (Sl.closed (by assumption)) | exact xAA (by assumption) | rfl) (xAI (by first | exact xAW rfl (by first | rfl | (simp; done) | (simp only [blkV, List.length_map, List.length_set, List.length_append, List.length_cons, List.length_nil]; omega)) | exact xAA rfl | exact xAA (Sl.closed (by assumption)) | exact xAA (by assumption) | rfl) xBm)) | exact xAI (by first | exact xAW rfl (by first | rfl | (simp; done) | (simp only [blkV, List.length_map, List.length_set, List.length_append, List.length_cons, List.length_nil]; omega)) | exact xAA rfl | exact xAA (Sl.closed (by assumption)) | exact xAA (by assumption) | rfl) (xAI (by first | exact xAW rfl (by first | rfl | (simp; done) | (simp only [blkV, List.length_map, List.length_set, List.length_append, List.length_cons, List.length_nil]; omega)) | exact xAA rfl | exact xAA (Sl.closed (by assumption)) | exact xAA (by assumption) | rfl) (xAI (by first | exact xAW rfl (by first | rfl | (simp; done) | (simp only [blkV, List.length_map, List.length_set, List.length_append, List.length_cons, List.length_nil]; omega)) | exact xAA rfl | exact xAA (Sl.closed (by assumption)) | exact xAA (by assumption) | rfl) (xAI (by first | exact xAW rfl (by first | rfl | (simp; done) | (simp only [blkV, List.length_map, List.length_set, List.length_append, List.length_cons, List.length_nil]; omega)) | exact xAA rfl | exact xAA (Sl.closed (by assumption)) | exact xAA (by assumption) | rfl) xBm))) | exact xAI (by first | exact xAW rfl (by first | rfl | (simp; done) | (simp only [blkV, List.length_map, List.length_set, List.length_append, List.length_cons, List.length_nil]; omega)) | exact xAA rfl | exact xAA (Sl.closed (by assumption)) | exact xAA (by assumption) | rfl) (xAI (by first | exact xAW rfl (by first | rfl | (simp; done) | (simp only [blkV, List.length_map, List.length_set, List.length_append, List.length_cons, List.length_nil]; omega)) | exact xAA rfl | exact xAA (Sl.closed (by assumption)) | exact xAA (by assumption) | rfl) (xAI (by first | exact xAW rfl (by first | rfl | (simp; done) | (simp only [blkV, List.length_map, List.length_set, List.length_append, List.length_cons, List.length_nil]; omega)) | exact xAA rfl | exact xAA (Sl.closed (by assumption)) | exact xAA (by assumption) | rfl) (xAI (by first | exact xAW rfl (by first | rfl | (simp; done) | (simp only [blkV, List.length_map, List.length_set, List.length_append, List.length_cons, List.length_nil]; omega)) | exact xAA rfl | exact xAA (Sl.closed (by assumption)) | exact xAA (by assumption) | rfl) (xAI (by first | exact xAW rfl (by first | rfl | (simp; done) | (simp only [blkV, List.length_map, List.length_set, List.length_append, List.length_cons, List.length_nil]; omega)) | exact xAA rfl | exact xAA (Sl.closed (by assumption)) | exact xAA (by assumption) | rfl) xBm)))) | exact xAI (by first | exact xAW rfl (by first | rfl | (simp; done) | (simp only [blkV, List.length_map, List.length_set, List.length_append, List.length_cons, List.length_nil]; omega)) | exact xAA rfl | exact xAA (Sl.closed (by assumption)) | exact xAA (by assumption) | rfl) (xAI (by first | exact xAW rfl (by first | rfl | (simp; done) | (simp only [blkV, List.length_map, List.length_set, List.length_append, List.length_cons, List.length_nil]; omega)) | exact xAA rfl | exact xAA (Sl.closed (by assumption)) | exact xAA (by assumption) | rfl) (xAI (by first | exact xAW rfl (by first | rfl | (simp; done) | (simp only [blkV, List.length_map, List.length_set, List.length_append, List.length_cons, List.length_nil]; omega)) | exact xAA rfl | exact xAA (Sl.closed (by assumption)) | exact xAA (by assumption) | rfl) (xAI (by first | exact xAW rfl (by first | rfl | (simp; done) | (simp only [blkV, List.length_map, List.length_set, List.length_append, List.length_cons, List.length_nil]; omega)) | exact xAA rfl | exact xAA (Sl.closed (by assumption)) | exact xAA (by assumption) | rfl) (xAI (by first | exact xAW rfl (by first | rfl | (simp; done) | (simp only [blkV, List.length_map, List.length_set, List.length_append, List.length_cons, List.length_nil]; omega)) | exact xAA rfl | exact xAA (Sl.closed (by assumption)) | exact xAA (by assumption) | rfl) (xAI (by first | exact xAW rfl (by first | rfl | (simp; done) | (simp only [blkV, List.length_map, List.length_set, List.length_append, List.length_cons, List.length_nil]; omega)) | exact xAA rfl | exact xAA (Sl.closed (by assumption)) | exact xAA (by assumption) | rfl) xBm))))))
  (h5 : xHu (hget hp) lvl site hout.length := by first | exact trivial | exact xFK rfl) (hc : dr = true → xAn pre ((frozen (hget hp) rd ++ named (xBI [] lvl site) 0 hout).map (·.1), rd) 0 acc = true := by first | (intro h; cases h; done) | (intro _; kernel_rfl)) (hg : GOk g tm := by first | exact trivial | exact gT rfl (by first | rfl | assumption)) : Sq P nt dr (⟨d, .call f xs, g, site, pre⟩ :: os) acc K ⟨lvl, tm, hp⟩ :=
  opC h (call_f ht h3 h4 h5) hc hg
theorem cl {lent : List Bid} {hin : List Blk} (h4 : VC P fid qs hin rv hout) (h : Sq P nt dr os (acc ++ [((named (xBI lent lvl site) 0 hout).map (·.1), lent)]) K ⟨lvl, tput tm d (mapV (xBI lent lvl site) rv), hput hp (named (xBI lent lvl site) 0 hout)⟩)
  (ht : Targ (tget tm) f xs fid all := by first | exact Targ.pl rfl rfl (Nat.le_of_ble_eq_true rfl) | exact Targ.mt rfl rfl rfl | exact Targ.bd rfl rfl) (h3 : xBe (hget hp) lent all = some ([], qs) := by rfl) (h0 : xBz (hget hp) lent lent = some hin := by rfl) (hn : lent.Nodup := by decide)
  (h5 : xHu (hget hp) lvl site (hout.length - lent.length) := by first | exact trivial | exact xFK rfl) (hc : dr = true → xAn pre ((named (xBI lent lvl site) 0 hout).map (·.1), lent) 0 acc = true := by first | (intro h; cases h; done) | (intro _; kernel_rfl)) (hg : GOk g tm := by first | exact trivial | exact gT rfl (by first | rfl | assumption)) : Sq P nt dr (⟨d, .call f xs, g, site, pre⟩ :: os) acc K ⟨lvl, tm, hp⟩ :=
  opC h (call_l lent ht h3 h0 hn h4 h5) hc hg
theorem cxt {rd0 : List Bid} (h4 : XC P (hget hp) fid all rv rd0) (h : Sq P nt dr os (acc ++ [([], rd0)]) K ⟨lvl, tput tm d rv, hp⟩)
  (ht : Targ (tget tm) f xs fid all := by first | exact Targ.pl rfl rfl (Nat.le_of_ble_eq_true rfl) | exact Targ.mt rfl rfl rfl | exact Targ.bd rfl rfl) (hc : dr = true → xAn pre ([], rd0) 0 acc = true := by first | (intro h; cases h; done) | (intro _; kernel_rfl)) (hg : GOk g tm := by first | exact trivial | exact gT rfl (by first | rfl | assumption)) : Sq P nt dr (⟨d, .call f xs, g, site, pre⟩ :: os) acc K ⟨lvl, tm, hp⟩ :=
  opC (ws := []) (rd := rd0) h (call_x ht h4) hc hg
end
section
variable {P : Program} {nt : Nat} {os : List VOper} {K : St → Prop} {lvl : Nat} {tm tm' : Tmps} {hp hp' : Heap} {d : Option Nat} {op : VOp} {site : Nat} {pre : List Nat} {acc : List Foot} {x : VCode} {Q : Exit → St → Prop}
theorem goes (h1 : xIY tm tm' := by repeat' first | exact trivial | apply And.intro | rfl | (simp; done))
  (h2 : xFt hp hp' := by repeat' first | exact trivial | apply And.intro | rfl | (simp; done))
  (h3 : xNM hp' tm' := by repeat' first | exact trivial | apply And.intro | exact xGu | exact xLs rfl | exact xBT rfl | exact xBT (Sl.closed (by assumption)) | exact xBT (by assumption))
  (h4 : xIV hp' hp' := by repeat' first | exact trivial | apply And.intro | exact xGu | exact xLs rfl | exact xBT rfl)
  (h5 : xF4 hp' hp := by repeat' first | exact trivial | apply And.intro | (intro h; first | exact absurd h (by decide) | rfl)) : Imp ⟨lvl, tm, hp⟩ ⟨lvl, tm', hp'⟩ := Imp.to h1 h2 h3 h4 h5
def xSo {G : Type} (T : G → Tmps) (H : G → Heap) (M : G → Nat) (R : G → Prop) (lvl : Nat) (g : G) (Q : Exit → St → Prop) : Exit → St → Prop
  | .normal, s => ∃ g', M g' < M g ∧ R g' ∧ Imp s ⟨lvl, T g', H g'⟩
  | e, s => Q e s
theorem xAK {G : Type} (T : G → Tmps) (H : G → Heap) (M : G → Nat) (R : G → Prop) (g0 : G) (hi : Imp ⟨lvl, tm, hp⟩ ⟨lvl, T g0, H g0⟩) (h0 : R g0) (h : ∀ g, R g → CT P nt x (xSo T H M R lvl g Q) ⟨lvl, T g, H g⟩) : CT P nt (.loop x) Q ⟨lvl, tm, hp⟩ := by
  refine xFN hi (xO4 (fun n s => ∃ g, M g = n ∧ R g ∧ s = ⟨lvl, T g, H g⟩) (M g0) ⟨g0, rfl, h0, rfl⟩ ?_)
  rintro n s ⟨g, rfl, hR, rfl⟩
  refine xLE (h g hR) fun e s' hq => ?_
  cases e with
  | normal =>
    obtain ⟨g', h1, h2, h3⟩ := hq
    exact ⟨M g', h1, _, h3, g', rfl, h2, rfl⟩
  | _ => exact hq
theorem xLN {G : Type} {T : G → Tmps} {H : G → Heap} {M : G → Nat} {R : G → Prop} {g : G} {s : St} (g' : G) (h1 : M g' < M g) (h2 : R g') (h3 : Imp s ⟨lvl, T g', H g'⟩) : xSo T H M R lvl g Q .normal s := ⟨g', h1, h2, h3⟩
theorem agn {G : Type} {T : G → Tmps} {H : G → Heap} {M : G → Nat} {R : G → Prop} {g : G} {s : St} (g' : G) (h2 : R g') (h3 : Imp s ⟨lvl, T g', H g'⟩) (h1 : M g' < M g := by first | omega | (simp only; omega)) : xSo T H M R lvl g Q .normal s := ⟨g', h1, h2, h3⟩
theorem cnd {c : VX} {y : VCode} {t : Bool} {s : St} (h1 : t = true → CT P nt x Q s) (h2 : t = false → CT P nt y Q s) (hb : ev (tget s.tmps) c = some (.bool t) := by rfl) : CT P nt (.cond c x y) Q s := xHa hb h1 h2
theorem cndt {c : VX} {y : VCode} {t : Bool} {s : St} (h1 : CT P nt x Q s) (hb : ev (tget s.tmps) c = some (.bool t) := by rfl) (ht : t = true := by first | rfl | assumption) : CT P nt (.cond c x y) Q s := xHa hb (fun _ => h1) (fun h => by rw [ht] at h; cases h)
theorem cndf {c : VX} {y : VCode} {t : Bool} {s : St} (h1 : CT P nt y Q s) (hb : ev (tget s.tmps) c = some (.bool t) := by rfl) (ht : t = false := by first | rfl | assumption) : CT P nt (.cond c x y) Q s := xHa hb (fun h => by rw [ht] at h; cases h) (fun _ => h1)
theorem o1 {s : St} {t : Nat} {v u : PV} (he : u = v) (h : tget s.tmps t = some u := by rfl) (hc : closed v = true := by first | rfl | assumption) : Out [.tmp t] 0 v [] s := out1 h he hc
theorem oOwn {s : St} {t esz nn : Nat} {b : Bid} {els els' : List (List PV)} (he : els' = els) (h : tget s.tmps t = some (.own b nn 0 nn) := by rfl) (hb : hget s.heap b = some (blkV esz els') := by rfl) (hnn : nn = els'.length := by first | rfl | (simp; done) | (simp only [blkV, List.length_map, List.length_set, List.length_append, List.length_cons, List.length_nil]; omega)) (hl : b.lvl ≠ 0 := by exact (by decide)) : Out [.tmp t] 0 (ownV ⟨0, 0⟩ els) [blkV esz els] s := by
  subst he
  subst hnn
  exact xOC h hb rfl hl
end
theorem xSj {σ : Bid → Bid} {p : PV} (h : xBF p = []) : mapN σ p = p := by
  cases p <;> first
    | rfl
    | (simp [xBF] at h)
theorem xGT {σ : Bid → Bid} : ∀ {l : List PV}, l.flatMap xBF = [] → l.map (mapN σ) = l
  | [], _ => rfl
  | p :: l, h => by
    simp only [List.flatMap_cons, List.append_eq_nil_iff] at h
    simp only [List.map_cons, xSj h.1, xGT h.2]
theorem xK4 {σ : Bid → Bid} {p : PV} (h : xBU p = []) : mapS σ p = p := by
  cases p <;> first
    | rfl
    | (simp [xBU, xBF] at h; done)
    | (simp only [mapS]; rw [xGT h])
theorem xIs {σ : Bid → Bid} : ∀ {l : List PV}, l.flatMap xBU = [] → l.map (mapS σ) = l
  | [], _ => rfl
  | p :: l, h => by
    simp only [List.flatMap_cons, List.append_eq_nil_iff] at h
    simp only [List.map_cons, xK4 h.1, xIs h.2]
theorem xSl {σ : Bid → Bid} {p : PV} (h : xCQ p = []) : mapA σ p = p := by
  cases p <;> first
    | rfl
    | (simp [xCQ, xBU, xBF] at h; done)
    | (simp only [mapA, mapS]; rw [xGT h])
    | (simp only [mapA]; rw [xIs h])
theorem xL2 {σ : Bid → Bid} : ∀ {l : List PV}, l.flatMap xCQ = [] → l.map (mapA σ) = l
  | [], _ => rfl
  | p :: l, h => by
    simp only [List.flatMap_cons, List.append_eq_nil_iff] at h
    simp only [List.map_cons, xSl h.1, xL2 h.2]
theorem xG4 {σ : Bid → Bid} {p : PV} (h : xBE p = []) : mapV σ p = p := by
  cases p <;> first
    | rfl
    | (simp [xBE, xCQ, xBU, xBF] at h; done)
    | (simp only [mapV, mapA, mapS]; rw [xGT h])
    | (simp only [mapV, mapA]; rw [xIs h])
    | (simp only [mapV]; rw [xL2 h])
theorem okN_no {n : Nat} {p : PV} (h : xBF p = []) : okN n p = true := by
  cases p <;> first
    | rfl
    | (simp [xBF] at h)
theorem xIn {n : Nat} : ∀ {l : List PV}, l.flatMap xBF = [] → l.all (okN n) = true
  | [], _ => rfl
  | p :: l, h => by
    simp only [List.flatMap_cons, List.append_eq_nil_iff] at h
    simp only [List.all_cons, okN_no h.1, xIn h.2, Bool.and_self]
theorem xOF {n : Nat} {p : PV} (h : xBU p = []) : okS n p = true := by
  cases p <;> first
    | rfl
    | (simp [xBU, xBF] at h; done)
    | exact xIn h
theorem xKx {n : Nat} : ∀ {l : List PV}, l.flatMap xBU = [] → l.all (okS n) = true
  | [], _ => rfl
  | p :: l, h => by
    simp only [List.flatMap_cons, List.append_eq_nil_iff] at h
    simp only [List.all_cons, xOF h.1, xKx h.2, Bool.and_self]
theorem okA_no {n : Nat} {p : PV} (h : xCQ p = []) : okA n p = true := by
  cases p <;> first
    | rfl
    | (simp [xCQ, xBU, xBF] at h; done)
    | exact xIn h
    | exact xKx h
theorem xOG {n : Nat} : ∀ {l : List PV}, l.flatMap xCQ = [] → l.all (okA n) = true
  | [], _ => rfl
  | p :: l, h => by
    simp only [List.flatMap_cons, List.append_eq_nil_iff] at h
    simp only [List.all_cons, okA_no h.1, xOG h.2, Bool.and_self]
theorem xLn {n : Nat} {p : PV} (h : xBE p = []) : okV n p = true := by
  cases p <;> first
    | rfl
    | (simp [xBE, xCQ, xBU, xBF] at h; done)
    | exact xIn h
    | exact xKx h
    | exact xOG h
theorem oAny {rs : List RV} {s : St} {v : PV} {ps : List PV} (hp : pack ps = v) (h : rdT (tget s.tmps) (hget s.heap) rs = some ps := by rfl) (hn : xBE v = [] := by rfl) : Out rs 0 v [] s :=
  ⟨[], List.nodup_nil, fun b hb => (by cases hb), rfl, trivial, xLn hn, ps, h, by rw [xG4 hn]; exact hp⟩
def xLM (σ : Bid → Bid) (tm : Tmps) : Tmps → Prop
  | [] => True
  | (t, v) :: r => (tget tm t).map (mapV σ) = some v ∧ xLM σ tm r
def xJG (σ : Bid → Bid) (h : Heap) : Heap → Prop
  | [] => True
  | (b, B) :: r => (hget h (σ b)).map (mapB σ) = some B ∧ xJG σ h r
theorem xIX {σ : Bid → Bid} {tm : Tmps} : ∀ {l : Tmps}, xLM σ tm l → xIY (renT σ tm) l
  | [], _ => trivial
  | (t, v) :: r, h => ⟨(xE5 σ tm t).trans h.1, xIX h.2⟩
theorem xHq {b c : Bid} {hp : Heap} : ∀ {l : Heap}, xJG (xEZ b c) hp l → xFt (renH (xEZ b c) hp) l
  | [], _ => trivial
  | (x, B) :: r, h => by
    refine ⟨?_, xHq h.2⟩
    have := xHM (xGh b c) hp (xEZ b c x)
    rw [xGh] at this
    exact this.trans h.1
theorem xIG {b c : Bid} (hb : b.lvl ≠ 0) (hc : c.lvl ≠ 0) {hp' : Heap} : ∀ {l : Heap}, xF4 hp' l → xF4 hp' (renH (xEZ b c) l)
  | [], _ => trivial
  | (x, B) :: r, h => by
    refine ⟨fun h0 => ?_, xIG hb hc h.2⟩
    have hx : xEZ b c x = x := by
      unfold xEZ at h0 ⊢
      by_cases h1 : x = b
      · rw [if_pos h1] at h0; exact absurd h0 hc
      · rw [if_neg h1] at h0 ⊢
        by_cases h2 : x = c
        · rw [if_pos h2] at h0; exact absurd h0 hb
        · rw [if_neg h2]
    rw [hx] at h0 ⊢
    exact h.1 h0
theorem xRA {σ : Bid → Bid} {tm : Tmps} {t : Nat} {q : PV} (hq : closed q = true) (h : tget tm t = some q) : (tget tm t).map (mapV σ) = some q := by
  rw [h, Option.map_some, xG4 (xF0 hq)]
theorem goesR (b c : Bid) {lvl : Nat} {tm tm' : Tmps} {hp hp' : Heap}
  (h1 : xLM (xEZ b c) tm tm' := by repeat' first | exact trivial | apply And.intro | rfl | exact xRA (Sl.closed (by assumption)) rfl | exact xRA (by assumption) rfl | (simp; done))
  (h2 : xJG (xEZ b c) hp hp' := by repeat' first | exact trivial | apply And.intro | rfl | (simp; done))
  (h3 : xNM hp' tm' := by repeat' first | exact trivial | apply And.intro | exact xGu | exact xLs rfl | exact xBT rfl | exact xBT (Sl.closed (by assumption)) | exact xBT (by assumption))
  (h4 : xIV hp' hp' := by repeat' first | exact trivial | apply And.intro | exact xGu | exact xLs rfl | exact xBT rfl)
  (h5 : xF4 hp' hp := by repeat' first | exact trivial | apply And.intro | (intro h; first | exact absurd h (by decide) | rfl))
  (hb : b.lvl ≠ 0 := by exact (by decide)) (hc : c.lvl ≠ 0 := by exact (by decide)) : Imp ⟨lvl, tm, hp⟩ ⟨lvl, tm', hp'⟩ :=
  (Imp.ren (s := ⟨lvl, tm, hp⟩) hb hc).trans (Imp.to (xIX h1) (xHq h2) h3 h4 (xIG hb hc h5))
def xSs : Option (PV × List Blk) → List UInt8 → Bool
  | some (.str s, []), t => s == t
  | _, _ => false
theorem xQZ {o : Option (PV × List Blk)} {t : List UInt8} (h : xSs o t = true) : o = some (.str t, []) := by
  unfold xSs at h
  split at h
  · rw [eq_of_beq h]
  · cases h
theorem xNQ {P : Program} {orc : Call} {xcall : Nat → List PV → Option PV} (ho : xCJ P orc) (hx : xKZ P xcall) {fuel d f : Nat} {F : Nat → List UInt8} (h : (List.range 256).all (fun n => xSs (run P orc xcall fuel d f [.int .u8 n] []) (F n)) = true) {n : Nat} (hn : n < 256) : VC P f [.int .u8 n] [] (.str (F n)) [] :=
  xLa ho hx d _ _ _ _ _ (xQZ (List.all_eq_true.1 h n (List.mem_range.2 hn)))
theorem oB {s : St} {t : Nat} {b b' : Bool} (he : b = b') (h : tget s.tmps t = some (.bool b) := by rfl) : Out [.tmp t] 0 (.bool b') [] s := o1 (congrArg PV.bool he) h rfl
theorem oI {s : St} {t : Nat} {k : IntKind} {b b' : Int} (he : b = b') (h : tget s.tmps t = some (.int k b) := by rfl) : Out [.tmp t] 0 (.int k b') [] s := o1 (congrArg (PV.int k) he) h rfl
theorem oS {s : St} {t : Nat} {b b' : List UInt8} (he : b = b') (h : tget s.tmps t = some (.str b) := by rfl) : Out [.tmp t] 0 (.str b') [] s := o1 (congrArg PV.str he) h rfl
theorem oC {s : St} {n t : Nat} {cs cs' : List PV} (he : cs = cs') (h : rdR (tget s.tmps) (hget s.heap) (.cell true n t) = some (.agg cs) := by rfl) (hn : xBE (.agg cs') = [] := by rfl) : Out [.cell true n t] 0 (.agg cs') [] s := by
  subst he
  exact oAny (ps := [.agg cs]) rfl (by simp only [rdT, h]; rfl) hn
theorem oSB {s : St} {t u : Nat} {a a' : List UInt8} {b b' : Bool} (he : (a, b) = (a', b')) (h : tget s.tmps t = some (.str a) := by rfl) (h2 : tget s.tmps u = some (.bool b) := by rfl) : Out [.tmp t, .tmp u] 0 (.tup [.str a', .bool b']) [] s := by
  cases he
  exact oAny (ps := [.str a, .bool b]) rfl (by simp only [rdT, rdR, h, h2]; rfl) rfl
theorem bq {id : Nat} {Q : Exit → St → Prop} {s : St} (h : Q .normal s) : xHl id Q .normal s := h
def rtQ (P : Program) (nt : Nat) (x : VCode) (Q : Exit → St → Prop) : Nat → Exit → St → Prop
  | 0, .normal, _ => False
  | n + 1, .normal, s => ∃ s', Imp s s' ∧ CT P nt x (rtQ P nt x Q n) s'
  | _, e, s => Q e s
theorem rt_other {P : Program} {nt : Nat} {x : VCode} {Q : Exit → St → Prop} {n : Nat} {e : Exit} {s : St} (h : e ≠ .normal) : rtQ P nt x Q n e s = Q e s := by
  cases n <;> cases e <;> first | rfl | exact absurd rfl h
theorem xO3 {P : Program} {nt : Nat} {x : VCode} {Q : Exit → St → Prop} (n : Nat) {s : St} (h : CT P nt x (rtQ P nt x Q n) s) : CT P nt (.loop x) Q s := by
  refine ⟨?_⟩
  intro Γ c hc a w hR
  cases c <;> simp only [cmp] at hc <;> (try (cases hc; done)) <;> (try (obtain ⟨_, _, hc⟩ := bind_some hc; obtain ⟨_, _, hc⟩ := map_some hc; cases hc; done))
  · obtain ⟨_, _, hc⟩ := bind_some hc
    split at hc <;> cases hc
  · obtain ⟨_, _, hc⟩ := bind_some hc
    obtain ⟨_, _, hc⟩ := bind_some hc
    obtain ⟨_, _, hc⟩ := map_some hc
    cases hc
  · obtain ⟨_, _, hc⟩ := map_some hc; cases hc
  · obtain ⟨vx, hx, hc⟩ := map_some hc
    cases hc
    rename_i body
    refine wpIn_loop_rounds (n + 1) ?_
    have key : ∀ (n : Nat) (s : St) (a : Act) (w : World), CT P nt x (rtQ P nt x Q n) s → RS Γ nt (tget s.tmps) (hget s.heap) a w → Code.roundsIn (FW Γ.ro) 0 P body (lift Γ nt Q) (n + 1) a w := by
      intro n
      induction n with
      | zero =>
        intro s a w h hR
        rw [roundsIn_succ]
        refine wpIn_mono (h.run Γ _ hx a w hR) ?_
        rintro e a' w' ⟨s', hq, hR'⟩
        cases e with
        | normal => exact hq.elim
        | _ => exact ⟨s', hq, hR'⟩
      | succ n ih =>
        intro s a w h hR
        rw [roundsIn_succ]
        refine wpIn_mono (h.run Γ _ hx a w hR) ?_
        rintro e a' w' ⟨s', hq, hR'⟩
        cases e with
        | normal =>
          obtain ⟨s'', hi, hc⟩ := hq
          exact ih s'' a' w' hc (hi _ _ _ _ hR')
        | _ => exact ⟨s', hq, hR'⟩
    exact key n s a w h hR
  · obtain ⟨_, _, hc⟩ := bind_some hc
    obtain ⟨_, _, hc⟩ := bind_some hc
    obtain ⟨_, _, hc⟩ := map_some hc
    cases hc
  · obtain ⟨_, _, hc⟩ := map_some hc; cases hc
theorem xSF {P : Program} {nt : Nat} {x : VCode} {Q : Exit → St → Prop} {n : Nat} {s : St} (h : CT P nt x (rtQ P nt x Q n) s) : rtQ P nt x Q (n + 1) .normal s := ⟨s, Imp.refl s, h⟩
theorem rt_norm {P : Program} {nt : Nat} {x : VCode} {Q : Exit → St → Prop} {n : Nat} {s : St} (h : CT P nt x (rtQ P nt x Q n) (norm s)) : rtQ P nt x Q (n + 1) .normal s := ⟨_, xIq s, h⟩
end Go.V
set_option linter.unusedVariables false
set_option linter.unusedSimpArgs false
namespace Go.V
section
variable {lvl site : Nat} {tf : TF} {hf : HF} {x y : VX} {b : Bid} {hw esz : Nat}
theorem vstf {α : Type} (enc : α → List PV) {e : α} (e' : α) {ys : List α} {a j nn : Nat} {v : PV} (hgt : ys[a]? = some e) (hx : ev tf x = some (.ptr b hw a j) := by rfl) (hy : ev tf y = some v := by rfl) (hb : hf b = some (blkV esz (ys.map enc)) := by rfl) (hw' : hw = (ys.map enc).length := by first | rfl | (simp; done) | (simp only [blkV, List.length_map, List.length_set, List.length_append, List.length_cons, List.length_nil]; omega))
    (he : (enc e).take j ++ xAU v ++ (enc e).drop (j + nn) = enc e' := by rfl) (hn : (xAU v).length = nn := by rfl) (hj : j + nn ≤ (enc e).length := by exact Nat.le_of_ble_eq_true rfl) (hok : (xAU v).all (xC6 false) = true := by first | rfl | (simp [xC6, closed, xB1, xAU]; done)) : vop lvl site tf hf (.store nn x y) = some ⟨.dead, [(b, blkV esz ((ys.set a e').map enc))], [b]⟩ := by
  have := xEm (lvl := lvl) (site := site) (nn := nn) (e := enc e) hx hy hb hw' rfl (by show (ys.map enc)[a]? = _; rw [List.getElem?_map, hgt]; rfl) hn hj hok
  rw [this, he]
  simp [blkV, List.map_set]
theorem vclr {α : Type} (enc : α → List PV) (e0 : α) {ys : List α} {off len : Nat} {z : List PV} (hx : ev tf x = some (.own b hw off len) := by rfl) (hb : hf b = some (blkV esz (ys.map enc)) := by rfl) (hw' : hw = (ys.map enc).length := by first | rfl | (simp; done) | (simp only [blkV, List.length_map, List.length_set, List.length_append, List.length_cons, List.length_nil]; omega))
    (hl : off + len ≤ ys.length := by omega) (he : z = enc e0 := by rfl) (hz : z.length = esz := by rfl) (h0 : 0 < esz := by decide) (hok : z.all closed = true := by rfl) : vop lvl site tf hf (.clear esz z x) = some ⟨.tup [], [(b, blkV esz ((ys.take off ++ List.replicate len e0 ++ ys.drop (off + len)).map enc))], [b]⟩ := by
  subst hw'
  have h1 : off + len ≤ (ys.map enc).length := by simpa using hl
  have h2 : vop lvl site tf hf (.clear esz z x) = some ⟨.tup [], [(b, { blkV esz (ys.map enc) with els := (ys.map enc).take off ++ List.replicate len z ++ (ys.map enc).drop (off + len) })], [b]⟩ := by
    simp only [vop, hx, hb, Option.bind_some]
    exact if_pos ⟨trivial, trivial, trivial, trivial, h1, hz, h0, hok⟩
  rw [h2, he]
  simp [blkV, List.map_take, List.map_drop]
end
theorem oL1 {rs : List RV} {s : St} {v : PV} {ps : List PV} {esz : Nat} {els els' : List (List PV)} (he : els' = els) (h : rdT (tget s.tmps) (hget s.heap) rs = some ps := by rfl) (hp : pack ps = v := by rfl) (hb : hget s.heap ⟨0, 0⟩ = some (blkV esz els') := by rfl) (hn : xBE v = [] := by rfl) : Out rs 1 v [blkV esz els] s := by
  subst he
  refine ⟨[], List.nodup_nil, fun b hb => (by cases hb), rfl, ⟨?_, (fun h => by cases h), trivial⟩, xLn hn, ps, h, by rw [xG4 hn]; exact hp⟩
  rw [show xBl 1 [] ⟨0, 0⟩ = ⟨0, 0⟩ from rfl, hb]
  unfold mapB
  rw [if_neg (by simp)]
theorem oLO {s : St} {t : Nat} {hw off len esz : Nat} {els els' : List (List PV)} (he : els' = els) (h : tget s.tmps t = some (.own ⟨0, 0⟩ hw off len) := by rfl) (hb : hget s.heap ⟨0, 0⟩ = some (blkV esz els') := by rfl) : Out [.tmp t] 1 (.own ⟨0, 0⟩ hw off len) [blkV esz els] s := by
  subst he
  refine ⟨[], List.nodup_nil, fun b hb => (by cases hb), rfl, ⟨?_, (fun h => by cases h), trivial⟩, rfl, [.own ⟨0, 0⟩ hw off len], ?_, rfl⟩
  · rw [show xBl 1 [] ⟨0, 0⟩ = ⟨0, 0⟩ from rfl, hb]
    unfold mapB
    rw [if_neg (by simp)]
  · simp only [rdT, rdR, h]; rfl
theorem oX1 {rs : List RV} {s : St} {v : PV} {ps : List PV} {esz : Nat} {els els' : List (List PV)} (he : els' = els) (h : rdT (tget s.tmps) (hget s.heap) rs = some ps := by rfl) (hp : pack ps = v := by rfl) (hb : hget s.heap ⟨0, 0⟩ = some ⟨true, false, esz, els'⟩ := by rfl) (hn : xBE v = [] := by rfl) (hc : ∀ e ∈ els, ∀ c ∈ e, xBU c = [] := by simp [xBU, xBF]) : Out rs 1 v [⟨true, false, esz, els⟩] s := by
  subst he
  refine ⟨[], List.nodup_nil, fun b hb => (by cases hb), rfl, ⟨?_, fun _ e he c hc' => xOF (hc e he c hc'), trivial⟩, xLn hn, ps, h, by rw [xG4 hn]; exact hp⟩
  rw [show xBl 1 [] ⟨0, 0⟩ = ⟨0, 0⟩ from rfl, hb]
  unfold mapB
  rw [if_pos rfl]
  have : els'.map (fun e => e.map (mapS (xBl 1 []))) = els' := by
    conv => rhs; rw [← List.map_id els']
    refine List.map_congr_left fun e he => ?_
    conv => rhs; rw [id, ← List.map_id e]
    exact List.map_congr_left fun c hc' => xK4 (hc e he c hc')
  simp [this]
theorem oX2 {rs : List RV} {s : St} {v : PV} {ps : List PV} {esz esz2 : Nat} {els els' els2 els2' : List (List PV)} (he : els' = els) (he2 : els2' = els2) (h : rdT (tget s.tmps) (hget s.heap) rs = some ps := by rfl) (hp : pack ps = v := by rfl) (hb : hget s.heap ⟨0, 0⟩ = some (blkV esz els') := by rfl) (hb2 : hget s.heap ⟨0, 1⟩ = some ⟨true, false, esz2, els2'⟩ := by rfl) (hn : xBE v = [] := by rfl) (hc : ∀ e ∈ els2, ∀ c ∈ e, xBU c = [] := by simp [xBU, xBF]) : Out rs 2 v [blkV esz els, ⟨true, false, esz2, els2⟩] s := by
  subst he
  subst he2
  refine ⟨[], List.nodup_nil, fun b hb => (by cases hb), rfl, ⟨?_, (fun h => by cases h), ?_, (fun _ e he c hc' => xOF (hc e he c hc')), trivial⟩, xLn hn, ps, h, by rw [xG4 hn]; exact hp⟩
  · rw [show xBl 2 [] ⟨0, 0⟩ = ⟨0, 0⟩ from rfl, hb]
    unfold mapB
    rw [if_neg (by simp)]
  · rw [show xBl 2 [] ⟨0, 0 + 1⟩ = ⟨0, 1⟩ from rfl, hb2]
    unfold mapB
    rw [if_pos rfl]
    have : els2'.map (fun e => e.map (mapS (xBl 2 []))) = els2' := by
      conv => rhs; rw [← List.map_id els2']
      refine List.map_congr_left fun e he => ?_
      conv => rhs; rw [id, ← List.map_id e]
      exact List.map_congr_left fun c hc' => xK4 (hc e he c hc')
    simp [this]
section
variable {P : Program} {nt : Nat} {x y : VCode} {Q : Exit → St → Prop} {s : St} {lvl : Nat}
def midQ {G : Type} (lvl : Nat) (T : G → Tmps) (H : G → Heap) (R : G → Prop) (Q : Exit → St → Prop) : Exit → St → Prop
  | .normal, s => ∃ g, R g ∧ Imp s ⟨lvl, T g, H g⟩
  | e, s => Q e s
theorem xB0 {G : Type} (T : G → Tmps) (H : G → Heap) (R : G → Prop) (h : CT P nt x (midQ lvl T H R Q) s) (h2 : ∀ g, R g → CT P nt y Q ⟨lvl, T g, H g⟩) : CT P nt (.seq x y) Q s :=
  xBH (xLE h (by
    intro e s' hq
    cases e with
    | normal => obtain ⟨g, h1, h3⟩ := hq; exact xFN h3 (h2 g h1)
    | _ => exact hq))
theorem mid {G : Type} {T : G → Tmps} {H : G → Heap} {R : G → Prop} (g : G) (h1 : R g) (h2 : Imp s ⟨lvl, T g, H g⟩) : midQ lvl T H R Q .normal s := ⟨g, h1, h2⟩
end
section
variable {P : Program} {nt : Nat} {os : List VOper} {K : St → Prop} {lvl : Nat} {tm : Tmps} {hp : Heap} {d : Option Nat} {site : Nat} {pre : List Nat} {acc : List Foot} {g : Option (Nat × Nat × Bool)} {dr : Bool}
theorem xBx {x y : VX} {o : BinOp} {k k2 k' : IntKind} {n m r : Int} (hr : bin o (.int k n) (.int k2 m) = some (.int k' r)) (h : Sq P nt dr os (acc ++ [([], [])]) K ⟨lvl, tput tm d (.int k' r), hp⟩) (hx : ev (tget tm) x = some (.int k n) := by rfl) (hy : ev (tget tm) y = some (.int k2 m) := by rfl) (hg : GOk g tm := by first | exact trivial | exact gT rfl (by first | rfl | assumption)) : Sq P nt dr (⟨d, .bin o x y, g, site, pre⟩ :: os) acc K ⟨lvl, tm, hp⟩ :=
  o_v0 (by simp only [vop, hx, hy, Option.bind_some, hr, Option.map_some]; rfl) h rfl hg
end
end Go.V
set_option linter.unusedVariables false
set_option linter.unusedSimpArgs false
namespace Go.V
section
variable {lvl site : Nat} {tf : Nat → Option PV} {hf : Bid → Option Blk}
theorem vmk0 {bytes : Nat} {z : List PV} {m : Int} {x y : VX} (hx : ev tf x = some (.int .i64 0) := by rfl) (hy : ev tf y = some (.int .i64 m) := by rfl) (hfree : hf ⟨lvl, site⟩ = none := by rfl) (h1 : 0 ≤ m := by omega) (hby : 0 < bytes := by decide) (hroom : m * bytes ≤ xA1 := by (unfold xA1; omega)) (hz : 0 < z.length := by decide) (hzc : z.all closed = true := by rfl) :
    vop lvl site tf hf (.mkslice bytes z x y) = some ⟨.own ⟨lvl, site⟩ 0 0 0, [(⟨lvl, site⟩, blkV z.length [])], []⟩ := xJJ hx hy hfree (by omega) h1 hby hroom hz hzc
theorem vsl1 {esz : Nat} {e : List PV} {l : List (List PV)} {x : VX} (hx : ev tf x = some (.sh false (e :: l)) := by rfl) (he : ∀ a ∈ e :: l, a.length = esz := by (intro a ha; simp at ha; rcases ha with rfl | ⟨b, _, rfl⟩ <;> rfl)) :
    vop lvl site tf hf (.slsl esz x (some (.c (.int .i64 1))) none none) = some ⟨.sh false l, [], []⟩ := by
  have h := xNS (lvl := lvl) (site := site) (hf := hf) (lo := some (.c (.int .i64 1))) (hi := none) (mx := none) (a := 1) (z := ((e :: l).length : Nat)) (c := ((e :: l).length : Nat)) hx rfl rfl rfl (by omega) (by simp; omega) (by omega) (by omega) he
  rw [h]
  have e1 : (1 : Int).toNat = 1 := rfl
  have e2 : (((e :: l).length : Nat) : Int).toNat - 1 = l.length := by simp
  simp only [e1, e2, Option.isSome_none, Bool.false_eq_true, if_false, Bool.false_and, List.drop_succ_cons, List.drop_zero, List.take_length]
theorem vslg {α : Type} {enc : α → List PV} (l r : List α) {esz : Nat} {ex : Bool} {x : VX} {lo hi mx : Option VX} (a z : Nat) (hr : (l.drop a).take (z - a) = r) (hx : ev tf x = some (.sh ex (l.map enc)) := by rfl) (h1 : xAP tf 0 lo = some (a : Int) := by rfl) (h2 : xAP tf (l.map enc).length hi = some (z : Int) := by rfl) (h3 : xAP tf (l.map enc).length mx = some (z : Int) := by rfl) (h4 : mx.isSome = true := by rfl)
    (h5 : a ≤ z := by omega) (h6 : z ≤ l.length := by omega) (he : ∀ a, (enc a).length = esz := by (intro a; rfl)) :
    vop lvl site tf hf (.slsl esz x lo hi mx) = some ⟨.sh true (r.map enc), [], []⟩ := by
  subst hr
  rw [xNS hx h1 h2 h3 (by omega) (by omega) (by omega) (by rw [List.length_map]; omega) (by intro e h; obtain ⟨b, _, rfl⟩ := List.mem_map.1 h; exact he b)]
  simp [h4, List.map_take, List.map_drop]
theorem vslh {α : Type} {enc : α → List PV} (l r : List α) {esz : Nat} {x : VX} {lo hi : Option VX} (a z : Nat) (hr : (l.drop a).take (z - a) = r) (hx : ev tf x = some (.sh false (l.map enc)) := by rfl) (h1 : xAP tf 0 lo = some (a : Int) := by rfl) (h2 : xAP tf (l.map enc).length hi = some (z : Int) := by rfl)
    (h5 : a ≤ z := by omega) (h6 : z ≤ l.length := by omega) (he : ∀ a, (enc a).length = esz := by (intro a; rfl)) :
    vop lvl site tf hf (.slsl esz x lo hi none) = some ⟨.sh false (r.map enc), [], []⟩ := by
  subst hr
  rw [xNS (c := ((l.map enc).length : Nat)) hx h1 h2 rfl (by omega) (by omega) (by rw [List.length_map]; omega) (by omega) (by intro e h; obtain ⟨b, _, rfl⟩ := List.mem_map.1 h; exact he b)]
  simp [List.map_take, List.map_drop]
theorem xRh {x : VX} (hx : ev tf x = some .nils := by rfl) : vop lvl site tf hf (.cap x) = some ⟨.int .i64 0, [], []⟩ := by
  simp only [vop, hx, Option.bind_some]; rfl
theorem vsln {esz : Nat} {x : VX} {hi : Option VX} (hx : ev tf x = some .nils := by rfl) (h2 : xAP tf 0 hi = some 0 := by rfl) : vop lvl site tf hf (.slsl esz x none hi none) = some ⟨.nils, [], []⟩ := by
  simp only [vop, hx, Option.bind_some, h2]; rfl
theorem vappz {esz bytes : Nat} {z : List PV} {n : Nat} {x y : VX} (hx : ev tf x = some .nils := by rfl) (hy : ev tf y = some (.int .i64 (n : Int)) := by rfl) (hfree : hf ⟨lvl, site⟩ = none := by rfl) (h1 : 0 < n := by omega) (hroom : n * bytes ≤ xA1 := by (unfold xA1; omega)) (hby : 0 < bytes := by decide) (hz : z.length = esz := by rfl) (h0 : 0 < esz := by decide) (hzc : z.all closed = true := by rfl) :
    vop lvl site tf hf (.appZ esz bytes z x y) = some ⟨.own ⟨lvl, site⟩ n 0 n, [(⟨lvl, site⟩, ⟨false, false, esz, List.replicate n z⟩)], []⟩ := by
  have hc : hf ⟨lvl, site⟩ = none ∧ 0 < (n : Int) ∧ (n : Int) * bytes ≤ xA1 ∧ 0 < bytes ∧ z.length = esz ∧ 0 < esz ∧ z.all closed = true := ⟨hfree, by omega, by exact_mod_cast hroom, hby, hz, h0, hzc⟩
  simp only [vop, hx, hy, Option.bind_some]
  rw [if_pos hc]
  rfl
theorem vapf {α : Type} (enc : α → List PV) (out ys rest : List α) {bytes N m : Nat} {esz : Nat} {z : List PV} {q : PV} {rd : List Bid} {b : Bid} {x y : VX} (hx : ev tf x = some (.own b N 0 m) := by rfl) (hy : ev tf y = some q := by rfl) (hct : xAb hf q = some (rd, ys.map enc) := by first | exact xBM rfl | exact xFn (by assumption) | rfl)
    (hb : hf b = some (blkV esz ((out ++ rest).map enc)) := by rfl) (hN : N = (out ++ rest).length := by (simp only [List.length_append]; omega)) (hm : m = out.length := by omega) (hr : ys.length ≤ rest.length := by omega)
    (hok : ∀ a, (enc a).length = esz ∧ ∀ c ∈ enc a, closed c = true := by (intro a; simp [closed])) (hz : z.length = esz := by rfl) (h0 : 0 < esz := by decide) (hby : 0 < bytes := by decide) (hroom : (m + ys.length) * bytes ≤ xA1 := by (unfold xA1; omega)) :
    vop lvl site tf hf (.append esz bytes z x y) = some ⟨.own b N 0 (m + ys.length), [(b, blkV esz ((out ++ ys ++ rest.drop ys.length).map enc))], b :: rd⟩ := by
  subst hm
  have h1 : (∀ e ∈ ys.map enc, e.length = esz ∧ ∀ c ∈ e, closed c = true) ∧ z.length = esz ∧ 0 < esz ∧ 0 < bytes := ⟨fun e he => by obtain ⟨a, _, rfl⟩ := List.mem_map.1 he; exact hok a, hz, h0, hby⟩
  have h2 : N = ((out ++ rest).map enc).length ∧ True ∧ True ∧ True ∧ 0 + out.length ≤ N ∧ (True ∨ 0 + out.length + (ys.map enc).length ≤ N) ∧ (out.length + (ys.map enc).length) * bytes ≤ xA1 :=
    ⟨by rw [hN]; simp, trivial, trivial, trivial, by rw [hN, List.length_append]; omega, .inl trivial, by rw [List.length_map]; exact hroom⟩
  have hNl : N = out.length + rest.length := by rw [hN, List.length_append]
  simp only [vop, hx, hy, hct, Option.bind_some]
  rw [if_pos h1, hb]
  simp only [Option.bind_some]
  rw [if_pos h2]
  by_cases hf' : rest = []
  · subst hf'
    have hy0 : ys = [] := List.length_eq_zero_iff.1 (by simpa using hr)
    subst hy0
    rw [if_pos ⟨trivial, by simpa using hNl.symm⟩]
    simp [blkV, hNl]
  · have hr0 : rest.length ≠ 0 := by intro h; exact hf' (List.length_eq_zero_iff.1 h)
    rw [if_neg (by rintro ⟨_, h⟩; omega)]
    have e1 : max (0 + out.length + (ys.map enc).length) N = N := by rw [List.length_map]; omega
    rw [e1]
    rw [List.map_append]
    simp only [blkV, List.map_append, List.map_drop, List.length_map, Nat.zero_add]
    rw [List.take_append_of_le_length (by simp), List.take_of_length_le (by simp), List.drop_append, List.drop_eq_nil_of_le (by simp), List.nil_append, List.length_map, Nat.add_sub_cancel_left]
theorem vapfE {α : Type} (enc : α → List PV) (out ys rest : List α) {r : List α} {bytes N m m' : Nat} {esz : Nat} {z : List PV} {q : PV} {rd : List Bid} {b : Bid} {x y : VX} (he : out ++ ys ++ rest.drop ys.length = r) (hm' : m + ys.length = m') (hx : ev tf x = some (.own b N 0 m) := by rfl) (hy : ev tf y = some q := by rfl) (hct : xAb hf q = some (rd, ys.map enc) := by first | exact xBM rfl | exact xFn (by assumption) | rfl)
    (hb : hf b = some (blkV esz ((out ++ rest).map enc)) := by rfl) (hN : N = (out ++ rest).length := by (simp only [List.length_append]; omega)) (hm : m = out.length := by omega) (hr : ys.length ≤ rest.length := by omega)
    (hok : ∀ a, (enc a).length = esz ∧ ∀ c ∈ enc a, closed c = true := by (intro a; simp [closed])) (hz : z.length = esz := by rfl) (h0 : 0 < esz := by decide) (hby : 0 < bytes := by decide) (hroom : (m + ys.length) * bytes ≤ xA1 := by (unfold xA1; omega)) :
    vop lvl site tf hf (.append esz bytes z x y) = some ⟨.own b N 0 m', [(b, blkV esz (r.map enc))], b :: rd⟩ := by
  subst he; subst hm'
  exact vapf enc out ys rest hx hy hct hb hN hm hr hok hz h0 hby hroom
end
end Go.V
set_option linter.unusedVariables false
set_option linter.unusedSimpArgs false
namespace Go.V
theorem xJB {α : Type} {enc : α → List PV} {cts : List CTy} {l : List (List PV)} (h : InTy (.sl cts) (.sh false l))
    (hd : ∀ e : List PV, e.length = cts.length → (∀ (j : Nat) (c : CTy) (p : PV), cts[j]? = some c → e[j]? = some p → InTy c p) → ∃ a, e = enc a) : ∃ xs : List α, l = xs.map enc ∧ xs.length ≤ maxLen := by
  cases h with
  | sl _ l g1 g2 g3 g4 =>
    have key : ∀ l' : List (List PV), (∀ e ∈ l', e.length = cts.length ∧ ∀ (j : Nat) (c : CTy) (p : PV), cts[j]? = some c → e[j]? = some p → InTy c p) → ∃ xs : List α, l' = xs.map enc := by
      intro l'
      induction l' with
      | nil => intro _; exact ⟨[], rfl⟩
      | cons e l' ih =>
        intro h
        obtain ⟨a, ha⟩ := hd e (h e (by simp)).1 (h e (by simp)).2
        obtain ⟨xs, hxs⟩ := ih (fun e' he' => h e' (by simp [he']))
        exact ⟨a :: xs, by rw [ha, hxs]; rfl⟩
    obtain ⟨xs, hxs⟩ := key l (fun e he => by
      obtain ⟨i, hi⟩ := List.mem_iff_getElem?.1 he
      exact ⟨g3 e he, fun j c p h1 h2 => g4 i j e c p hi h1 h2⟩)
    refine ⟨xs, hxs, ?_⟩
    rw [hxs] at g2
    simpa using g2
theorem xOm {p : PV} (h : InTy .str p) : ∃ s, p = .str s ∧ s.length ≤ maxLen := by
  cases h with
  | str s h => exact ⟨s, rfl, h⟩
theorem in_bool {p : PV} (h : InTy .bool p) : ∃ b, p = .bool b := by
  cases h with
  | bool b => exact ⟨b, rfl⟩
theorem in_int {k : IntKind} {p : PV} (h : InTy (.int k) p) : ∃ n, p = .int k n ∧ (Lit.int k n).wf = true := by
  cases h with
  | int _ n h => exact ⟨n, rfl, h⟩
theorem xDs {p : PV} (h : InTy (.int .u8) p) : ∃ n : Nat, p = .int .u8 n ∧ n < 256 := by
  obtain ⟨n, rfl, hw⟩ := in_int h
  have : 0 ≤ n ∧ n < 256 := by
    simp [Lit.wf, IntKind.min, IntKind.max, IntKind.signed, IntKind.bits] at hw
    omega
  exact ⟨n.toNat, by rw [Int.toNat_of_nonneg this.1], by omega⟩
theorem in_sl {cts : List CTy} {p : PV} (h : InTy (.sl cts) p) : ∃ l, p = .sh false l ∧ InTy (.sl cts) (.sh false l) := by
  cases h with
  | sl _ l g1 g2 g3 g4 => exact ⟨l, rfl, .sl _ l g1 g2 g3 g4⟩
theorem list1 {e : List PV} (h : e.length = 1) : ∃ a, e = [a] := by
  match e, h with
  | [a], _ => exact ⟨a, rfl⟩
theorem list2 {e : List PV} (h : e.length = 2) : ∃ a b, e = [a, b] := by
  match e, h with
  | [a, b], _ => exact ⟨a, b, rfl⟩
theorem list3 {e : List PV} (h : e.length = 3) : ∃ a b c, e = [a, b, c] := by
  match e, h with
  | [a, b, c], _ => exact ⟨a, b, c, rfl⟩
theorem list4 {e : List PV} (h : e.length = 4) : ∃ a b c d, e = [a, b, c, d] := by
  match e, h with
  | [a, b, c, d], _ => exact ⟨a, b, c, d, rfl⟩
theorem list5 {e : List PV} (h : e.length = 5) : ∃ a b c d f, e = [a, b, c, d, f] := by
  match e, h with
  | [a, b, c, d, f], _ => exact ⟨a, b, c, d, f, rfl⟩
theorem list6 {e : List PV} (h : e.length = 6) : ∃ a b c d f g, e = [a, b, c, d, f, g] := by
  match e, h with
  | [a, b, c, d, f, g], _ => exact ⟨a, b, c, d, f, g, rfl⟩
def RelL {w : World} : List PV → List Value → Prop
  | [], [] => True
  | p :: ps, v :: vs => VRel (Old w) xCY (resH []) w p v ∧ RelL (w := w) ps vs
  | _, _ => False
theorem xIg {w : World} : ∀ {ps : List PV} {vs : List Value}, RelL (w := w) ps vs → vs.length = ps.length ∧ ∀ (i : Nat) (p : PV) (x : Value), ps[i]? = some p → vs[i]? = some x → VRel (Old w) xCY (resH []) w p x
  | [], [], _ => ⟨rfl, by simp⟩
  | p :: ps, v :: vs, h => by
    obtain ⟨h1, h2⟩ := xIg h.2
    refine ⟨by simp [h1], fun i q x a b => ?_⟩
    cases i with
    | zero => simp at a b; subst a; subst b; exact h.1
    | succ i => exact h2 i q x (by simpa using a) (by simpa using b)
theorem xJI {P : Program} {w : World} {f : Nat} {args : List PV} {rargs : List Value} {b : Bool} (h : VC P f args [] (.bool b) []) (hr : RelL (w := w) args rargs) (hG : GlbW w := by (intro p hp; cases hp)) : Calls P f rargs.toArray w fun e w' => e = .returned (.bool b) ∧ RowKit.Below w.heap.size w w' :=
  xPX h (by simpa using (xIg hr).1) (fun i p x a b => (xIg hr).2 i p x a (by simpa using b)) hG
end Go.V
set_option linter.unusedVariables false
set_option linter.unusedSimpArgs false
namespace Go.V
theorem oG (bs : List Bid) {rs : List RV} {n : Nat} {s : St} {v v' : PV} {hout hout' : List Blk} {ps : List PV} (hv : v' = v := by rfl) (he : hout' = hout := by rfl)
    (h : rdT (tget s.tmps) (hget s.heap) rs = some ps := by rfl) (hp : pack ps = mapV (xBl n bs) v' := by rfl)
    (ho : outH (xBl n bs) hout'.length s.heap 0 hout' := by repeat' first | exact trivial | apply And.intro | rfl | (intro h; cases h; done) | (intro _; simp [okS, okN]; done))
    (hok : okV hout'.length v' = true := by rfl) (hl : hout'.length = n + bs.length := by rfl) (hnd : bs.Nodup := by decide) (hlv : ∀ b ∈ bs, b.lvl ≠ 0 := by decide) : Out rs n v hout s := by
  subst hv; subst he
  exact ⟨bs, hnd, hlv, hl, ho, hok, ps, h, hp⟩
section
variable {P : Program} {nt : Nat} {os : List VOper} {K : St → Prop} {lvl : Nat} {tm : Tmps} {hp : Heap} {d : Option Nat} {site : Nat} {pre : List Nat} {acc : List Foot} {g : Option (Nat × Nat × Bool)} {dr : Bool} {tf : TF} {hf : HF}
theorem vmkn {bytes : Nat} {z : List PV} {n : Nat} {x y : VX} (hx : ev tf x = some (.int .i64 n) := by rfl) (hy : ev tf y = some (.int .i64 n) := by rfl) (hfree : hf ⟨lvl, site⟩ = none := by rfl) (hby : 0 < bytes := by decide) (hroom : (n : Int) * bytes ≤ xA1 := by (unfold xA1; first | omega | (simp only [List.length_map]; omega)))
    (hz : 0 < z.length := by decide) (hzc : z.all closed = true := by rfl) : vop lvl site tf hf (.mkslice bytes z x y) = some ⟨.own ⟨lvl, site⟩ n 0 n, [(⟨lvl, site⟩, blkV z.length (List.replicate n z))], []⟩ :=
  xJJ hx hy hfree (by omega) (Int.le_refl _) hby hroom hz hzc
theorem vcpyA {b : Bid} {x y : VX} {q : PV} {nn esz : Nat} {els ys : List (List PV)} {rd : List Bid} (hl : ys.length = els.length) (hok : okEls esz ys) (hx : ev tf x = some (.own b nn 0 nn) := by rfl) (hy : ev tf y = some q := by rfl) (hct : xAb hf q = some (rd, ys) := by first | rfl | exact xBM rfl) (hb : hf b = some (blkV esz els) := by rfl) (hn : nn = els.length := by first | rfl | (simp; done)) :
    vop lvl site tf hf (.copyS esz x y) = some ⟨.int .i64 (els.length : Int), [(b, blkV esz ys)], b :: rd⟩ := by
  subst hn
  exact v_copy hx hy hct hb hok hl
theorem o_stF {α : Type} (enc : α → List PV) (v : α) {x : VX} {t : Nat} {b c : Bid} {hw a n esz2 : Nat} {ys : List α} {l : List (List PV)}
    (h : Sq P nt dr os (acc ++ [([c, b], [c, b])]) K ⟨lvl, tput tm d .dead, hset (hset hp c ⟨false, true, esz2, l⟩) b (blkV 1 ((ys.set a v).map enc))⟩)
    (hx : ev (tget tm) x = some (.ptr b hw a 0) := by rfl) (ht : tget tm t = some (.own c n 0 n) := by rfl) (hc : hget hp c = some (blkV esz2 l) := by rfl) (hn : n = l.length := by first | rfl | (simp; done)) (hb : hget hp b = some (blkV 1 (ys.map enc)) := by rfl)
    (hw' : hw = (ys.map enc).length := by first | rfl | (simp; done)) (he : [.sh false l] = enc v := by rfl) (ha : a < ys.length := by first | assumption | omega | (simp; omega)) (hbc : b ≠ c := by decide) (hxt : ∀ u, x = .t u → u ≠ t := by (intro u hu; cases hu; decide)) (hl : ∀ a, (enc a).length = 1 := by exact (fun _ => rfl))
    (hcl : dr = true → xAn pre ([c, b], [c, b]) 0 acc = true := by first | (intro h; cases h; done) | (intro _; kernel_rfl)) (hg : GOk g tm := by first | exact trivial | exact gT rfl (by first | rfl | assumption)) :
    Sq P nt dr (⟨d, .store 1 x (.t t), g, site, pre⟩ :: os) acc K ⟨lvl, tm, hp⟩ := by
  subst hn
  have hl1 : xCR (hget hp) [] (.own c l.length 0 l.length) = some ([c], .sh false l) := xAW hc rfl
  have hfr : frozen (hget hp) [c] = [(c, ⟨false, true, esz2, l⟩)] := by simp [frozen, hc]
  have hxe : ev (putF (tget tm) (some t) (.sh false l)) x = some (.ptr b hw a 0) := by
    cases x with
    | t u =>
      have := hxt u rfl
      simp only [ev, putF, if_neg this] at hx ⊢
      exact hx
    | c v => exact hx
  have hye : ev (putF (tget tm) (some t) (.sh false l)) (.t t) = some (.sh false l) := by simp [ev, putF]
  have hbe : xAe (hget hp) [(c, ⟨false, true, esz2, l⟩)] b = some (blkV 1 (ys.map enc)) := by
    simp only [xAe, updH, if_neg hbc]
    exact hb
  have hv : vop lvl site (putF (tget tm) (some t) (.sh false l)) (xAe (hget hp) [(c, ⟨false, true, esz2, l⟩)]) (.store 1 x (.t t)) = some ⟨.dead, [(b, blkV 1 ((ys.set a v).map enc))], [b]⟩ :=
    vst enc v hxe hye hbe hw' he ha hl (by rw [← he]; simp [closed])
  have hop : OpC P lvl site (.store 1 x (.t t)) [t] (tget tm) (hget hp) ⟨.dead, [(c, ⟨false, true, esz2, l⟩), (b, blkV 1 ((ys.set a v).map enc))], [c, b]⟩ := by
    refine ⟨_, [c], _, ⟨.dead, [(b, blkV 1 ((ys.set a v).map enc))], [b]⟩, ?_, ht, hl1, ?_, ?_⟩
    · simp [VOp.operands, VX.tmps]
    · rw [hfr]; exact hv
    · rw [hfr]; rfl
  exact opC (v := .dead) (ws := [(c, ⟨false, true, esz2, l⟩), (b, blkV 1 ((ys.set a v).map enc))]) (rd := [c, b]) h hop hcl hg
theorem vapS {α : Type} (enc : α → List PV) (xs : List α) (e : α) {x y : VX} {c : Bid} {esz bytes : Nat} {z e' : List PV} (hx : ev tf x = some (.sh true (xs.map enc)) := by rfl) (hy : ev tf y = some (.own c 1 0 1) := by rfl) (hc : hf c = some ⟨false, false, esz, [e']⟩ := by rfl) (hfree : hf ⟨lvl, site⟩ = none := by rfl)
    (he : e' = enc e := by rfl) (hok : ∀ a, (enc a).length = esz ∧ ∀ c ∈ enc a, closed c = true := by (intro a; simp [closed])) (hz : z.length = esz := by rfl) (h0 : 0 < esz := by decide) (hby : 0 < bytes := by decide) (hroom : (xs.length + 1) * bytes ≤ xA1 := by (unfold xA1; omega)) :
    vop lvl site tf hf (.append esz bytes z x y) = some ⟨ownV ⟨lvl, site⟩ ((xs ++ [e]).map enc), [(⟨lvl, site⟩, blkV esz ((xs ++ [e]).map enc))], [c]⟩ := by
  subst he
  have := xKf (lvl := lvl) (site := site) (bytes := bytes) (z := z) (l := xs.map enc) (y0 := enc e) (ys := []) (rd := [c]) hx hy (xBM hc) hfree (by
    intro e' he'
    simp at he'
    subst he'
    exact hok e) (fun e' he' => by obtain ⟨a, _, rfl⟩ := List.mem_map.1 he'; exact (hok a).1) hz h0 hby (by simpa using hroom)
  rw [this]
  simp [ownV, blkV, List.map_append]
theorem vmkm {α : Type} {enc : α → List PV} (ys : List α) {bytes : Nat} {z : List PV} {n : Nat} {x y : VX} (hys : List.replicate n z = ys.map enc) (hx : ev tf x = some (.int .i64 n) := by rfl) (hy : ev tf y = some (.int .i64 n) := by rfl) (hfree : hf ⟨lvl, site⟩ = none := by rfl) (hby : 0 < bytes := by decide) (hroom : (n : Int) * bytes ≤ xA1 := by (unfold xA1; first | omega | (simp only [List.length_map]; omega)))
    (hz : 0 < z.length := by decide) (hzc : z.all closed = true := by rfl) : vop lvl site tf hf (.mkslice bytes z x y) = some ⟨.own ⟨lvl, site⟩ n 0 n, [(⟨lvl, site⟩, blkV z.length (ys.map enc))], []⟩ := by
  rw [← hys]
  exact vmkn hx hy hfree hby hroom hz hzc
theorem vapN {α : Type} (enc : α → List PV) (e : α) {x y : VX} {c : Bid} {esz bytes : Nat} {z e' : List PV} (hx : ev tf x = some .nils := by rfl) (hy : ev tf y = some (.own c 1 0 1) := by rfl) (hc : hf c = some ⟨false, false, esz, [e']⟩ := by rfl) (hfree : hf ⟨lvl, site⟩ = none := by rfl)
    (he : e' = enc e := by rfl) (hok : ∀ c ∈ enc e, closed c = true := by simp [closed]) (hlen : (enc e).length = esz := by rfl) (hz : z.length = esz := by rfl) (h0 : 0 < esz := by decide) (hby : 0 < bytes := by decide) (hroom : 1 * bytes ≤ xA1 := by decide) :
    vop lvl site tf hf (.append esz bytes z x y) = some ⟨ownV ⟨lvl, site⟩ ([e].map enc), [(⟨lvl, site⟩, blkV esz ([e].map enc))], [c]⟩ := by
  subst he
  have := xIa (lvl := lvl) (site := site) (bytes := bytes) (z := z) (ys := [enc e]) (rd := [c]) hx hy (xBM hc) hfree (by
    intro e' he'
    simp at he'
    subst he'
    exact ⟨hlen, hok⟩) hz h0 hby (by simpa using hroom)
  rw [this]
  simp [ownV, blkV]
end
end Go.V
set_option linter.unusedVariables false
set_option linter.unusedSimpArgs false
namespace Go.V
theorem xRJ {h : Heap} {l : List Bid} (hl : l.all (fun b => (hget h b).isSome) = true) : nmOk h l := fun b hb => (List.all_eq_true.1 hl) b hb
theorem xOY {T : Tmps} (h : (T.all fun p => (xBE p.2).all fun b => Nat.beq b.lvl 0) = true) : lv0T T := by
  intro p hp b hb
  have := (List.all_eq_true.1 h) p hp
  have := (List.all_eq_true.1 this) b hb
  exact beqN_iff.1 this
section
variable {P : Program} {nt : Nat} {os : List VOper} {K : St → Prop} {lvl : Nat} {tm tm' : Tmps} {hp hp' : Heap} {s : St} {x y : VCode}
theorem xA7 (h1 : xIY tm tm' := by repeat' first | exact trivial | apply And.intro | rfl | (simp; done))
  (h2 : xFt hp hp' := by repeat' first | exact trivial | apply And.intro | rfl | (simp; done))
  (h3 : xNM hp' tm' := by repeat' first | exact trivial | apply And.intro | exact xGu | exact xRJ rfl | exact xBT rfl | exact xBT (Sl.closed (by assumption)) | exact xBT (by assumption))
  (h4 : xIV hp' hp' := by repeat' first | exact trivial | apply And.intro | exact xGu | exact xRJ rfl | exact xBT rfl)
  (h5 : xF4 hp' hp := by repeat' first | exact trivial | apply And.intro | (intro h; first | exact absurd h (by decide) | rfl)) : Imp ⟨lvl, tm, hp⟩ ⟨lvl, tm', hp'⟩ := Imp.to h1 h2 h3 h4 h5
theorem Imp.nilH {s : St} {b b1 : Bid} {esz : Nat} (hb1 : hget s.heap b1 = some ⟨true, false, 1, [[.nils]]⟩) (hb : hget s.heap b = none) (hz : 0 < esz) : Imp s ⟨s.lvl, s.tmps, hset (hset s.heap b ⟨false, false, esz, []⟩) b1 ⟨true, false, 1, [[.own b 0 0 0]]⟩⟩ := by
  rintro Γ nt a w ⟨F, μ, d1, d2, hI, hT, hK, hlv⟩
  have hne : b1 ≠ b := by
    rintro rfl
    rw [hb] at hb1
    cases hb1
  obtain ⟨g1, g2⟩ := hI.upd (w' := w) b ⟨false, false, esz, []⟩ none F rfl rfl rfl (Nat.le_refl _) (fun _ _ _ => rfl) (fun k => by simp) (.inr (.inl rfl)) (fun B h => by rw [hb] at h; cases h) (fun B h => by rw [hb] at h; cases h) (fun hK => by
    refine ⟨⟨hz, (fun _ k c e fz hk => by simp [updM] at hk), fun _ _ k c e fz hk => by simp [updM] at hk⟩, (by simp), (by simp), (by simp), ?_⟩
    have : updM μ b none b = none := by simp [updM]
    rw [this]
    exact ⟨rfl, rfl⟩)
  generalize hμ : updM μ b none = μ1 at g1 g2
  have hμb : μ1 b = none := by rw [← hμ]; simp [updM]
  generalize hh1 : updH (hget s.heap) b ⟨false, false, esz, []⟩ = hf1 at g1 g2
  have hfb : hf1 b = some ⟨false, false, esz, []⟩ := by rw [← hh1]; exact xB2
  have hfb1 : hf1 b1 = some ⟨true, false, 1, [[.nils]]⟩ := by rw [← hh1]; simp [updH, hne, hb1]
  obtain ⟨g3, g4⟩ := g1.upd (w' := w) b1 ⟨true, false, 1, [[.own b 0 0 0]]⟩ (μ1 b1) F rfl rfl rfl (Nat.le_refl _) (fun _ _ _ => rfl) (fun k => by simp) (.inl ⟨_, hfb1, rfl⟩) (fun B h hz => by rw [hfb1] at h; cases h; cases hz) (fun B h => by
      rw [hfb1] at h; cases h
      exact ⟨rfl, Nat.le_refl _, fun _ => ⟨rfl, rfl, fun _ _ => rfl⟩⟩) (fun hK2 => by
    have hB := g1.blk _ _ hfb1
    refine ⟨⟨Nat.zero_lt_one, (fun h => by cases h), (fun h => by cases h)⟩, (by simp), (by simp), (by simp), ?_⟩
    have e1 : updM μ1 b1 (μ1 b1) b1 = μ1 b1 := by simp [updM]
    rw [e1]
    have h5 := hB.2.2.2.2
    cases hm : μ1 b1 with
    | none => rw [hm] at h5; simp at h5
    | some k =>
      obtain ⟨f1, f2, c, e, fz, hc, hfz, hl, hr⟩ := hB.cells hm (fun _ => rfl)
      refine ⟨(fun h => by cases h), (fun _ => f2 rfl), .inl ⟨c, e, fz, hc, hfz, hl, fun i j el p h1 h2 => ?_⟩⟩
      have hi : i = 0 := by
        have := (List.getElem?_eq_some_iff.1 h1).1
        simp at this
        omega
      subst hi
      simp at h1
      subst h1
      have hj : j = 0 := by
        have := (List.getElem?_eq_some_iff.1 h2).1
        simp at this
        omega
      subst hj
      simp at h2
      subst h2
      obtain ⟨x, hx, hs⟩ := hr 0 0 [.nils] .nils rfl rfl
      refine ⟨x, hx, ?_⟩
      have hx0 : x = .slice none 0 0 := by
        have hs : CRel F w .nils x := hs
        cases hs
        rfl
      rw [hx0]
      have e2 : updM μ1 b1 (some k) b = none := by simp [updM, Ne.symm hne, hμb]
      refine ⟨none, 0, rfl, by simp, ⟨false, false, esz, []⟩, by simp [updH, Ne.symm hne, hfb], rfl, Nat.le_refl _, fun _ => ⟨Nat.le_refl _, ?_⟩⟩
      rw [e2]
      exact ⟨rfl, rfl, rfl, rfl⟩)
  have hh : hget (hset (hset s.heap b ⟨false, false, esz, []⟩) b1 ⟨true, false, 1, [[.own b 0 0 0]]⟩) = updH hf1 b1 ⟨true, false, 1, [[.own b 0 0 0]]⟩ := by
    funext c
    rw [xA5, xA5, ← hh1]; rfl
  refine ⟨F, updM μ1 b1 (μ1 b1), (d1.keeps g2).keeps g4, d2, by rw [hh]; exact g3, fun t' p h => ?_, by rw [hh]; exact (hK.tr g2).tr g4, hlv⟩
  rw [hh]
  exact ((hT t' p h).keeps g2).keeps g4
theorem mid0 {G : Type} {T : G → Tmps} {H : G → Heap} {R : G → Prop} (g : G) (h1 : R g) (h2 : Imp s ⟨lvl, T g, H g⟩) : midQ lvl T H R (fun _ _ => True) .normal s := ⟨g, h1, h2⟩
variable {lp : Lp} {l : Nat} {Q : Exit → St → Rho → Prop}
def xRM {G : Type} (T : G → Tmps) (H : G → Heap) (M : G → Nat) (R : G → Prop) (lvl : Nat) (g : G) (Q : Exit → St → Rho → Prop) : Exit → St → Rho → Prop
  | .normal, s, .ready => ∃ g', M g' < M g ∧ R g' ∧ Imp s ⟨lvl, T g', H g'⟩
  | .normal, s, .done _ => False
  | e, s, ρ => Q e s ρ
theorem xMU {G : Type} (T : G → Tmps) (H : G → Heap) (M : G → Nat) (R : G → Prop) (g0 : G) (hi : Imp ⟨lvl, tm, hp⟩ ⟨lvl, T g0, H g0⟩) (h0 : R g0) (h : ∀ g, R g → CTL P lp l nt x (xRM T H M R lvl g Q) ⟨lvl, T g, H g⟩ .ready) : CTL P lp l nt (.loop x) Q ⟨lvl, tm, hp⟩ .ready := by
  refine cl_imp hi (xS7 (fun n s ρ => ρ = .ready ∧ ∃ g, M g = n ∧ R g ∧ s = ⟨lvl, T g, H g⟩) (M g0) ⟨rfl, g0, rfl, h0, rfl⟩ ?_)
  rintro n s ρ ⟨rfl, g, rfl, hR, rfl⟩
  refine xS6 (h g hR) fun e s' ρ' hq => ?_
  cases e with
  | normal =>
    cases ρ' with
    | ready =>
      obtain ⟨g', h1, h2, h3⟩ := hq
      exact ⟨M g', h1, _, h3, rfl, g', rfl, h2, rfl⟩
    | done e => exact hq.elim
  | _ => exact hq
theorem agL {G : Type} {T : G → Tmps} {H : G → Heap} {M : G → Nat} {R : G → Prop} {g : G} {s : St} (g' : G) (h2 : R g') (h3 : Imp s ⟨lvl, T g', H g'⟩) (h1 : M g' < M g := by first | omega | (simp only; omega)) : xRM T H M R lvl g (fun _ _ _ => True) .normal s .ready := ⟨g', h1, h2, h3⟩
theorem cl_cnd {c : VX} {t : Bool} {ρ : Rho} (h1 : t = true → CTL P lp l nt x Q s ρ) (h2 : t = false → CTL P lp l nt y Q s ρ) (hb : ev (tget s.tmps) c = some (.bool t) := by rfl) : CTL P lp l nt (.cond c x y) Q s ρ := xLI hb h1 h2
theorem xCa {c : VX} {t : Bool} {ρ : Rho} (h1 : CTL P lp l nt x Q s ρ) (hb : ev (tget s.tmps) c = some (.bool t) := by rfl) (ht : t = true := by first | rfl | assumption) : CTL P lp l nt (.cond c x y) Q s ρ := xLI hb (fun _ => h1) (fun h => by rw [ht] at h; cases h)
theorem xCb {c : VX} {t : Bool} {ρ : Rho} (h1 : CTL P lp l nt y Q s ρ) (hb : ev (tget s.tmps) c = some (.bool t) := by rfl) (ht : t = false := by first | rfl | assumption) : CTL P lp l nt (.cond c x y) Q s ρ := xLI hb (fun h => by rw [ht] at h; cases h) (fun _ => h1)
theorem xLX (n : Nat) {os : List VOper} {K : St → Rho → Prop} {ρ : Rho} (h : Sq P nt false (os.take n) [] (fun s' => SeqL P lp l nt (os.drop n) K s' ρ) s) : SeqL P lp l nt os K s ρ :=
  xQ4 (os.take n) h (List.take_append_drop n os).symm
theorem xA0 {os : List VOper} {K : St → Rho → Prop} {ρ : Rho} (h : Sq P nt false os [] (fun s' => K s' ρ) s) : SeqL P lp l nt os K s ρ :=
  xQ4 os (SeqT.mk fun Γ ops vs rest i h1 h2 h3 Q a w hR hQ => (show SeqT P nt os (fun s' => K s' ρ) s from h).run Γ ops vs rest i h1 h2 h3 Q a w hR fun s' a' w' hk hr => hQ s' a' w' (sl_nil hk) hr) (List.append_nil os).symm
theorem rng {lvlI f nt' : Nat} {T : Tmps} {H : Heap} {gx : VX} {caps : List PV} {ps : List Nat} {asg body vc' : VCode} {Q : Exit → St → Prop} (hi : Imp s ⟨lvl, T, H⟩)
    (hvf : VF P (fnId f) = some (nt', vc', [])) (hit : ∀ l, CTL P ⟨nt, T, ps, asg, body⟩ l nt' vc' (xRC Q lvl T) ⟨lvlI, xGL 0 (caps.take (fnN f) ++ .yld l :: caps.drop (fnN f)), H⟩ .ready)
    (hg : ev (tget T) gx = some (.fn f caps) := by rfl) (hlv : (T.all fun p => (xBE p.2).all fun b => Nat.beq b.lvl 0) = true := by rfl) (hlc : (caps.all fun c => (xBE c).all fun b => Nat.beq b.lvl 0) = true := by rfl) (hlen : caps.length + 1 ≤ nt' := by decide) (hcap : fnN f ≤ caps.length := by decide) :
    CT P nt (.range gx ps asg body) Q s := by
  refine xFN hi (xQm hg hvf (xOY hlv) (fun c hc b hb => ?_) hlen hcap hit)
  exact beqN_iff.1 ((List.all_eq_true.1 ((List.all_eq_true.1 hlc) c hc)) b hb)
theorem yl {K : St → Rho → Prop} {T : Tmps} {H : Heap} {d : Option Nat} {t : Nat} {xs : List VX} {vals : List PV} {site : Nat} {pre : List Nat} (lvlB : Nat) (hi : Imp s ⟨lvl, T, H⟩)
    (hb : CT P lp.nt lp.asg (fun e s1 => e = .normal ∧ CT P lp.nt lp.body (xQ8 P lp l nt os K lvl T d) s1) ⟨lvlB, xMz lp.T lp.ps vals, H⟩)
    (hy : tget T t = some (.yld l) := by rfl) (hxs : evs (tget T) xs = some vals := by rfl) (hn : vals.length = lp.ps.length := by rfl) (hps : ∀ p ∈ lp.ps, p < lp.nt := by decide) (hlv : (T.all fun p => (xBE p.2).all fun b => Nat.beq b.lvl 0) = true := by rfl) :
    SeqL P lp l nt (⟨d, .call (.t t) xs, none, site, pre⟩ :: os) K s .ready :=
  sl_imp hi (xPk hy hxs hn hps (xOY hlv) hb)
end
end Go.V
set_option linter.unusedVariables false
set_option linter.unusedSimpArgs false
namespace Go.V
def vcm (P : Program) (f : Nat) {n c r} (_ : VF P f = some (n, c, r) := by (conv => lhs; reduce; try simp); first | done | exact rfl) : VCode := c
theorem sgo {A B : Prop} (h : B) (s : B → A := by first | exact fun h => xAm h | exact fun h => nl h | exact fun h => xBH h | exact fun h => rg h | exact fun h => xA3 h | exact fun h => bq h) : A := s h
theorem scn {A B : Prop} (h : B) (s : B → A := by first | exact fun h => xAB h | exact fun h => xAE h | exact fun h => xSF h | exact fun h => cndt h | exact fun h => cndf h) : A := s h
theorem sop {A B : Prop} (h : B) (s : B → A := by first | exact fun h => xSW h | exact fun h => xSX h | exact fun h => xSb h | exact fun h => xSZ h | exact fun h => xQB h | exact fun h => xQA h | exact fun h => o_add h | exact fun h => o_sub h | exact fun h => o_mul h | exact fun h => o_cat h | exact fun h => o_bin h | exact fun h => o_lenq h | exact fun h => o_len h | exact fun h => xP7 h | exact fun h => xP8 h | exact fun h => o_b2sR h | exact fun h => xP9 h | exact fun h => o_box h | exact fun h => xSd h | exact fun h => xQD h | exact fun h => o_s2b h | exact fun h => xST h | exact fun h => xSa h | exact fun h => o_not h | exact fun h => xSU h | exact fun h => xSV h | exact fun h => xSc h | exact fun h => xOI h | exact fun h => xQC h | exact fun h => o_eqb h | exact fun h => o_eqc h | exact fun h => o_nilc h | exact fun h => xSY h | exact fun h => o_fn h | exact fun h => o_lenS h | exact fun h => o_cstr h | exact fun h => xP6 h | exact fun h => skF h | exact fun h => skU h) : A := s h
variable {P : Program}
theorem vcs {f nt : Nat} {vc : VCode} {rs : List RV} {args : List PV} {hin : List Blk} {v : PV} {hout : List Blk} (hvf : VF P f = some (nt, vc, rs))
    (h : CT P nt vc (fun e s => (e = .normal ∨ e = .ret) ∧ Out rs hin.length v hout s) ⟨1, xGL 0 args, xFM 0 hin⟩) (hlen : args.length ≤ nt := by exact Nat.le_of_ble_eq_true rfl) (hnt : ∀ vs, v = .tup vs → ∀ p ∈ vs, ∀ q, p ≠ .tup q := by (intro vs h; cases h)) : VC P f args hin v hout := xCL hvf h hlen hnt
end Go.V
set_option linter.unusedVariables false
set_option linter.unusedSimpArgs false
namespace Go.V
theorem Imp.nilC {s : St} {b b1 : Bid} {esz n : Nat} (j0 : Nat) {e0 : List PV} (hb1 : hget s.heap b1 = some ⟨true, false, n, [e0]⟩) (hj : e0[j0]? = some .nils) (hb : hget s.heap b = none) (hz : 0 < esz) : Imp s ⟨s.lvl, s.tmps, hset (hset s.heap b ⟨false, false, esz, []⟩) b1 ⟨true, false, n, [e0.set j0 (.own b 0 0 0)]⟩⟩ := by
  rintro Γ nt a w ⟨F, μ, d1, d2, hI, hT, hK, hlv⟩
  have hne : b1 ≠ b := by
    rintro rfl
    rw [hb] at hb1
    cases hb1
  obtain ⟨g1, g2⟩ := hI.upd (w' := w) b ⟨false, false, esz, []⟩ none F rfl rfl rfl (Nat.le_refl _) (fun _ _ _ => rfl) (fun k => by simp) (.inr (.inl rfl)) (fun B h => by rw [hb] at h; cases h) (fun B h => by rw [hb] at h; cases h) (fun hK => by
    refine ⟨⟨hz, (fun _ k c e fz hk => by simp [updM] at hk), fun _ _ k c e fz hk => by simp [updM] at hk⟩, (by simp), (by simp), (by simp), ?_⟩
    have : updM μ b none b = none := by simp [updM]
    rw [this]
    exact ⟨rfl, rfl⟩)
  generalize hμ : updM μ b none = μ1 at g1 g2
  have hμb : μ1 b = none := by rw [← hμ]; simp [updM]
  generalize hh1 : updH (hget s.heap) b ⟨false, false, esz, []⟩ = hf1 at g1 g2
  have hfb : hf1 b = some ⟨false, false, esz, []⟩ := by rw [← hh1]; exact xB2
  have hfb1 : hf1 b1 = some ⟨true, false, n, [e0]⟩ := by rw [← hh1]; simp [updH, hne, hb1]
  have hB := g1.blk _ _ hfb1
  have hlen : e0.length = n := hB.2.1 e0 (by simp)
  obtain ⟨g3, g4⟩ := g1.upd (w' := w) b1 ⟨true, false, n, [e0.set j0 (.own b 0 0 0)]⟩ (μ1 b1) F rfl rfl rfl (Nat.le_refl _) (fun _ _ _ => rfl) (fun k => by simp) (.inl ⟨_, hfb1, rfl⟩) (fun B h hz => by rw [hfb1] at h; cases h; cases hz) (fun B h => by
      rw [hfb1] at h; cases h
      exact ⟨rfl, Nat.le_refl _, fun _ => ⟨rfl, rfl, fun _ _ => rfl⟩⟩) (fun hK2 => by
    refine ⟨⟨hB.1.1, (fun h => by cases h), (fun h => by cases h)⟩, (by simp [hlen]), (by simp), (by simp), ?_⟩
    have e1 : updM μ1 b1 (μ1 b1) b1 = μ1 b1 := by simp [updM]
    rw [e1]
    have h5 := hB.2.2.2.2
    cases hm : μ1 b1 with
    | none => rw [hm] at h5; simp at h5
    | some k =>
      obtain ⟨f1, f2, c, e, fz, hc, hfz, hl, hr⟩ := hB.cells hm (fun _ => rfl)
      refine ⟨(fun h => by cases h), (fun _ => f2 rfl), .inl ⟨c, e, fz, hc, hfz, by simpa using hl, fun i j el p h1 h2 => ?_⟩⟩
      have hi : i = 0 := by
        have := (List.getElem?_eq_some_iff.1 h1).1
        simp at this
        omega
      subst hi
      simp at h1
      subst h1
      rw [List.getElem?_set] at h2
      split at h2
      · rename_i hjj
        subst hjj
        split at h2
        · cases h2
          obtain ⟨x, hx, hs⟩ := hr 0 j0 e0 .nils rfl hj
          refine ⟨x, hx, ?_⟩
          have hx0 : x = .slice none 0 0 := by
            have hs : CRel F w .nils x := hs
            cases hs
            rfl
          rw [hx0]
          have e2 : updM μ1 b1 (some k) b = none := by simp [updM, Ne.symm hne, hμb]
          refine ⟨none, 0, rfl, by simp, ⟨false, false, esz, []⟩, by simp [updH, Ne.symm hne, hfb], rfl, Nat.le_refl _, fun _ => ⟨Nat.le_refl _, ?_⟩⟩
          rw [e2]
          exact ⟨rfl, rfl, rfl, rfl⟩
        · cases h2
      · obtain ⟨x, hx, hs⟩ := hr 0 j e0 p rfl h2
        refine ⟨x, hx, ?_⟩
        rw [← hm]
        exact hs.keeps hK2)
  have hh : hget (hset (hset s.heap b ⟨false, false, esz, []⟩) b1 ⟨true, false, n, [e0.set j0 (.own b 0 0 0)]⟩) = updH hf1 b1 ⟨true, false, n, [e0.set j0 (.own b 0 0 0)]⟩ := by
    funext c
    rw [xA5, xA5, ← hh1]; rfl
  refine ⟨F, updM μ1 b1 (μ1 b1), (d1.keeps g2).keeps g4, d2, by rw [hh]; exact g3, fun t' p h => ?_, by rw [hh]; exact (hK.tr g2).tr g4, hlv⟩
  rw [hh]
  exact ((hT t' p h).keeps g2).keeps g4
theorem Imp.wkC {s : St} {b1 : Bid} {n : Nat} (j0 : Nat) {e0 : List PV} {p0 q0 : PV} (hb1 : hget s.heap b1 = some ⟨true, false, n, [e0]⟩) (hj : e0[j0]? = some p0) (hle : CLe p0 q0) (hp0 : closed p0 = true) (hq0 : closed q0 = true) : Imp s ⟨s.lvl, s.tmps, hset s.heap b1 ⟨true, false, n, [e0.set j0 q0]⟩⟩ := by
  rintro Γ nt a w ⟨F, μ, d1, d2, g1, hT, hK, hlv⟩
  have hB := g1.blk _ _ hb1
  have hlen : e0.length = n := hB.2.1 e0 (by simp)
  obtain ⟨g3, g4⟩ := g1.upd (w' := w) b1 ⟨true, false, n, [e0.set j0 q0]⟩ (μ b1) F rfl rfl rfl (Nat.le_refl _) (fun _ _ _ => rfl) (fun k => by simp) (.inl ⟨_, hb1, rfl⟩) (fun B h hz => by rw [hb1] at h; cases h; cases hz) (fun B h => by
      rw [hb1] at h; cases h
      exact ⟨rfl, Nat.le_refl _, fun _ => ⟨rfl, rfl, fun _ _ => rfl⟩⟩) (fun hK2 => by
    refine ⟨⟨hB.1.1, (fun h => by cases h), (fun h => by cases h)⟩, (by simp [hlen]), (by simp), (by simp), ?_⟩
    have e1 : updM μ b1 (μ b1) b1 = μ b1 := by simp [updM]
    rw [e1]
    have h5 := hB.2.2.2.2
    cases hm : μ b1 with
    | none => rw [hm] at h5; simp at h5
    | some k =>
      obtain ⟨f1, f2, c, e, fz, hc, hfz, hl, hr⟩ := hB.cells hm (fun _ => rfl)
      refine ⟨(fun h => by cases h), (fun _ => f2 rfl), .inl ⟨c, e, fz, hc, hfz, by simpa using hl, fun i j el p h1 h2 => ?_⟩⟩
      have hi : i = 0 := by
        have := (List.getElem?_eq_some_iff.1 h1).1
        simp at this
        omega
      subst hi
      simp at h1
      subst h1
      rw [List.getElem?_set] at h2
      split at h2
      · rename_i hjj
        subst hjj
        split at h2
        · cases h2
          obtain ⟨x, hx, hs⟩ := hr 0 j0 e0 p0 rfl hj
          exact ⟨x, hx, (SRel.of_closed hq0).2 (hle _ _ _ ((SRel.of_closed hp0).1 hs))⟩
        · cases h2
      · obtain ⟨x, hx, hs⟩ := hr 0 j e0 p rfl h2
        refine ⟨x, hx, ?_⟩
        rw [← hm]
        exact hs.keeps hK2)
  have hh : hget (hset s.heap b1 ⟨true, false, n, [e0.set j0 q0]⟩) = updH (hget s.heap) b1 ⟨true, false, n, [e0.set j0 q0]⟩ := by
    funext c
    rw [xA5]; rfl
  refine ⟨F, updM μ b1 (μ b1), d1.keeps g4, d2, by rw [hh]; exact g3, fun t' p h => ?_, by rw [hh]; exact hK.tr g4, hlv⟩
  rw [hh]
  exact (hT t' p h).keeps g4
abbrev encK (k : Int) : List PV := [.int .i64 k, .bool true]
theorem mfK (k : Int) : ∀ ks : List Int, xOO 1 (.int .i64 k) (ks.map encK) = some (if ks.contains k then some (.bool true) else none)
  | [] => rfl
  | x :: ks => by
    simp only [List.map_cons, xOO, xBo, if_true, Option.bind_some]
    rw [mfK k ks]
    by_cases h : k = x
    · subst h; simp
    · have h1 : (k == x) = false := by simpa using h
      rw [h1]
      simp [h]
theorem mpK (k : Int) : ∀ ks : List Int, mput 1 (.int .i64 k) (.bool true) (ks.map encK) = some ((if ks.contains k then ks else ks ++ [k]).map encK)
  | [] => rfl
  | x :: ks => by
    simp only [List.map_cons, mput, xBo, if_true, Option.bind_some]
    by_cases h : k = x
    · subst h; simp
    · have h1 : (k == x) = false := by simpa using h
      rw [h1]
      simp only
      rw [mpK k ks]
      simp only [Option.map_some, List.contains_cons, h1, Bool.false_or, Option.some.injEq]
      split <;> simp
section
variable {lvl site : Nat} {tf : TF} {hf : HF} {x y z : VX} {b : Bid} {k : Int} {ks : List Int}
theorem xJx (es : List (List PV)) : xM4 (xA4 es) = some es := rfl
theorem vmpL (hx : ev tf x = some (.mapr b) := by rfl) (hk : ev tf y = some (.int .i64 k) := by rfl) (hb : hf b = some (xA4 (ks.map encK)) := by rfl) : vop lvl site tf hf (.mlook 1 (.bool false) false x y) = some ⟨.bool (ks.contains k), [], [b]⟩ := by
  simp only [vop, hx, hk, hb, Option.bind_some]
  rw [if_pos ⟨by simp [xM7, xBo], rfl⟩]
  simp only [xJx, Option.bind_some, mfK, Option.map_some]
  cases ks.contains k <;> rfl
theorem vmpS (hx : ev tf x = some (.mapr b) := by rfl) (hk : ev tf y = some (.int .i64 k) := by rfl) (hv : ev tf z = some (.bool true) := by rfl) (hb : hf b = some (xA4 (ks.map encK)) := by rfl) (hn : ks.contains k = false := by assumption) :
    vop lvl site tf hf (.mset 1 x y z) = some ⟨.dead, [(b, xA4 ((ks ++ [k]).map encK))], [b]⟩ := by
  simp only [vop, hx, hk, hv, hb, Option.bind_some]
  rw [if_pos ⟨by simp [xM7, xBo], rfl⟩]
  simp only [xJx, Option.bind_some, mpK, Option.map_some, hn]
  rfl
theorem vmpN (hf0 : hf ⟨lvl, site⟩ = none := by rfl) : vop lvl site tf hf .mkmap = some ⟨.mapr ⟨lvl, site⟩, [(⟨lvl, site⟩, xA4 (([] : List Int).map encK))], []⟩ := by
  simp only [vop, hf0, if_true]
  rfl
end
end Go.V
set_option linter.unusedVariables false
set_option linter.unusedSimpArgs false
namespace Go.V
theorem xKs {F : Nat → Prop} {μ : Bid → Option Nat} {rd : List Bid} : xBY (xBY F μ rd) μ rd = xBY F μ rd := by
  funext k
  simp only [xBY]
  refine propext ⟨fun h => ?_, fun h => .inl h⟩
  rcases h with h | h
  · exact h
  · exact .inr h
theorem Imp.frz {s : St} {c : Bid} {N esz : Nat} {fz : Bool} {els : List (List PV)} (hc : hget s.heap c = some ⟨false, fz, esz, els⟩) : Imp s ⟨s.lvl, s.tmps, hset s.heap c ⟨false, true, esz, els⟩⟩ := by
  rintro Γ nt a w ⟨F, μ, d1, d2, hI, hT, hK, hlv⟩
  have hl : xCR (hget s.heap) [] (.own c els.length 0 els.length) = some ([c], .sh false els) := xAW hc rfl
  obtain ⟨g1, g2⟩ := Inv.freezes [c] hI (xET hl)
  have hfr : frozen (hget s.heap) [c] = [(c, ⟨false, true, esz, els⟩)] := by simp [frozen, hc]
  rw [hfr] at g1 g2
  have hh : hget (hset s.heap c ⟨false, true, esz, els⟩) = xAe (hget s.heap) [(c, ⟨false, true, esz, els⟩)] := by
    funext x
    rw [xA5]; rfl
  refine ⟨xBY F μ [c], μ, d1.keeps g2, d2, by rw [hh]; exact g1, fun t' v h => ?_, by rw [hh]; exact hK.tr g2, hlv⟩
  rw [hh]
  exact (hT t' v h).keeps g2
theorem Imp.wrC {s : St} {b1 c : Bid} {n N esz : Nat} {fz : Bool} (j0 : Nat) {e0 : List PV} {els : List (List PV)} (hb1 : hget s.heap b1 = some ⟨true, false, n, [e0]⟩) (hj : e0[j0]? = some (.own c N 0 N)) (hc : hget s.heap c = some ⟨false, fz, esz, els⟩) (hN : N = els.length) :
    Imp s ⟨s.lvl, s.tmps, hset (hset s.heap c ⟨false, true, esz, els⟩) b1 ⟨true, false, n, [e0.set j0 (.sh false els)]⟩⟩ := by
  subst hN
  have hbc : b1 ≠ c := by
    rintro rfl
    rw [hb1] at hc
    cases hc
  rintro Γ nt a w ⟨F, μ, d1, d2, hI, hT, hK, hlv⟩
  have hl : xCR (hget s.heap) [] (.own c els.length 0 els.length) = some ([c], .sh false els) := xAW hc rfl
  obtain ⟨g1, g2⟩ := Inv.freezes [c] hI (xET hl)
  have hfr : frozen (hget s.heap) [c] = [(c, ⟨false, true, esz, els⟩)] := by simp [frozen, hc]
  rw [hfr] at g1 g2
  generalize hf1e : xAe (hget s.heap) [(c, (⟨false, true, esz, els⟩ : Blk))] = hf1 at g1 g2
  have hb1' : hf1 b1 = some ⟨true, false, n, [e0]⟩ := by rw [← hf1e]; simp only [xAe, updH, if_neg hbc]; exact hb1
  have hc' : hf1 c = some ⟨false, true, esz, els⟩ := by rw [← hf1e]; simp [xAe, updH]
  have hcc : xA9 hf1 (.own c els.length 0 els.length) = some ([c], .sh false els) := by
    have h0 := xBM hc'
    simp only [xA9, h0, Option.map_some]
  have hB := g1.blk _ _ hb1'
  have hlen : e0.length = n := hB.2.1 e0 (by simp)
  obtain ⟨g3, g4⟩ := g1.upd (w' := w) b1 ⟨true, false, n, [e0.set j0 (.sh false els)]⟩ (μ b1) (xBY F μ [c]) rfl rfl rfl (Nat.le_refl _) (fun _ _ _ => rfl) (fun k => by simp) (.inl ⟨_, hb1', rfl⟩) (fun B h hz => by rw [hb1'] at h; cases h; cases hz) (fun B h => by
      rw [hb1'] at h; cases h
      exact ⟨rfl, Nat.le_refl _, fun _ => ⟨rfl, rfl, fun _ _ => rfl⟩⟩) (fun hK2 => by
    refine ⟨⟨hB.1.1, (fun h => by cases h), (fun h => by cases h)⟩, (by simp [hlen]), (by simp), (by simp), ?_⟩
    have e1 : updM μ b1 (μ b1) b1 = μ b1 := by simp [updM]
    rw [e1]
    have h5 := hB.2.2.2.2
    cases hm : μ b1 with
    | none => rw [hm] at h5; simp at h5
    | some k =>
      obtain ⟨f1, f2, c1, e, fz1, hc1, hfz, hl1, hr⟩ := hB.cells hm (fun _ => rfl)
      refine ⟨(fun h => by cases h), (fun _ => f2 rfl), .inl ⟨c1, e, fz1, hc1, hfz, by simpa using hl1, fun i j el p h1 h2 => ?_⟩⟩
      have hi : i = 0 := by
        have := (List.getElem?_eq_some_iff.1 h1).1
        simp at this
        omega
      subst hi
      simp at h1
      subst h1
      rw [List.getElem?_set] at h2
      split at h2
      · rename_i hjj
        subst hjj
        split at h2
        · cases h2
          obtain ⟨x, hx, hs⟩ := hr 0 j0 e0 _ rfl hj
          refine ⟨x, hx, (SRel.of_closed rfl).2 ?_⟩
          have := xFO g1 hcc hs (rs := [c]) (fun b hb => hb)
          rwa [xKs] at this
        · cases h2
      · obtain ⟨x, hx, hs⟩ := hr 0 j e0 p rfl h2
        refine ⟨x, hx, ?_⟩
        rw [← hm]
        exact hs.keeps hK2)
  have hh : hget (hset (hset s.heap c ⟨false, true, esz, els⟩) b1 ⟨true, false, n, [e0.set j0 (.sh false els)]⟩) = updH hf1 b1 ⟨true, false, n, [e0.set j0 (.sh false els)]⟩ := by
    funext x
    rw [xA5, xA5, ← hf1e]; rfl
  refine ⟨xBY F μ [c], updM μ b1 (μ b1), (d1.keeps g2).keeps g4, d2, by rw [hh]; exact g3, fun t' p h => ?_, by rw [hh]; exact (hK.tr g2).tr g4, hlv⟩
  rw [hh]
  exact ((hT t' p h).keeps g2).keeps g4
section
variable {P : Program} {nt : Nat} {os : List VOper} {acc : List Foot} {K : St → Prop} {s s0 : St}
theorem sqi (h : Imp s s0) (h' : Sq P nt false os acc K s0) : Sq P nt false os acc K s := sq_imp h h'
end
end Go.V
