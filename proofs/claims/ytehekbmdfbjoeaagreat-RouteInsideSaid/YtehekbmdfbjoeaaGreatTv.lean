/- Tv -/
import Derived.Test.YtehekbmdfbjoeaaGreatTb
open Go.V Go.Pu
set_option linter.unusedVariables false
set_option linter.unusedSimpArgs false
set_option maxRecDepth 20000
namespace Go.Proofs
def vc147 := vcm Tryz.prog 147
theorem vf147 : VF Tryz.prog 147 = some (15, vc147, [.tmp 6]) := by kernel_rfl
def vc178 := vcm Tryz.prog 178
theorem vf178 : VF Tryz.prog 178 = some (16, vc178, [.tmp 2]) := by kernel_rfl
def vc187 := vcm Tryz.prog 187
theorem vf187 : VF Tryz.prog 187 = some (25, vc187, [.tmp 4]) := by kernel_rfl
def vc190 := vcm Tryz.prog 190
theorem vf190 : VF Tryz.prog 190 = some (8, vc190, [.tmp 4]) := by kernel_rfl
def vc141 := vcm Tryz.prog 141
theorem vf141 : VF Tryz.prog 141 = some (12, vc141, [.cell true 8 2]) := by kernel_rfl
def vc143 := vcm Tryz.prog 143
theorem vf143 : VF Tryz.prog 143 = some (18, vc143, [.tmp 2]) := by kernel_rfl
def vc162 := vcm Tryz.prog 162
theorem vf162 : VF Tryz.prog 162 = some (8, vc162, [.cell true 8 2]) := by kernel_rfl
def vc164 := vcm Tryz.prog 164
theorem vf164 : VF Tryz.prog 164 = some (7, vc164, [.tmp 2]) := by kernel_rfl
def vc173 := vcm Tryz.prog 173
theorem vf173 : VF Tryz.prog 173 = some (8, vc173, [.cell true 8 2]) := by kernel_rfl
def vc175 := vcm Tryz.prog 175
theorem vf175 : VF Tryz.prog 175 = some (6, vc175, [.tmp 2]) := by kernel_rfl
def vc180 := vcm Tryz.prog 180
theorem vf180 : VF Tryz.prog 180 = some (10, vc180, [.cell true 8 2]) := by kernel_rfl
def vc182 := vcm Tryz.prog 182
theorem vf182 : VF Tryz.prog 182 = some (8, vc182, [.tmp 2]) := by kernel_rfl
def vc196 := vcm Tryz.prog 196
theorem vf196 : VF Tryz.prog 196 = some (10, vc196, [.cell true 8 2]) := by kernel_rfl
def vc198 := vcm Tryz.prog 198
theorem vf198 : VF Tryz.prog 198 = some (8, vc198, [.tmp 2]) := by kernel_rfl
def vc202 := vcm Tryz.prog 202
theorem vf202 : VF Tryz.prog 202 = some (10, vc202, [.cell true 8 2]) := by kernel_rfl
def vc204 := vcm Tryz.prog 204
theorem vf204 : VF Tryz.prog 204 = some (11, vc204, [.tmp 2]) := by kernel_rfl
def vc38 : VCode :=
 (.seq
 (.region 0 false [
 .e 1 (.box (.t 0)) 0,
 .e 2 (.copy (.c (.bool false))) 8])
 (.seq
 (.region 1 false [
 .e 4 (.load true 8 (.t 1)) 8192,
 .e 5 (.call (.c (.fn 69 [])) [(.t 4)]) 8200,
 .e 3 (.copy (.t 5)) 8208])
 (.seq
 (.region 2 true [
 .e 6 (.copy (.t 3)) 16384,
 .f 7 (.isnili true (.t 6)) 16392 [0],
 .f 8 (.copy (.t 7)) 16400 [1, 0],
 .g 9 (.copy (.t 3)) 2 8 true 16408 [2, 1, 0],
 .g 10 (.call (.c (.mth [(106, 143), (107, 164), (108, 175), (109, 182), (110, 198), (111, 204)])) [(.t 9)]) 2 8 true 16416 [3, 2, 1, 0],
 .f 11 (.pick (.t 8) (.t 10) (.c (.bool false))) 16424 [2, 1, 0, 4, 3],
 .f 12 (.copy (.t 11)) 16432 [5, 2, 1, 0, 4, 3],
 .g 13 (.copy (.t 3)) 6 12 true 16440 [6, 5, 2, 1, 0, 4, 3],
 .g 14 (.call (.c (.mth [(106, 141), (107, 162), (108, 173), (109, 180), (110, 196), (111, 202)])) [(.t 13)]) 6 12 true 16448 [7, 6, 5, 2, 1, 0, 4, 3],
 .g 15 (.load true 8 (.t 1)) 6 12 true 16456 [6, 5, 2, 1, 0, 4, 3],
 .g 16 (.eqc false [1, 2, 2, 2, 2, 2, 2, 1] (.t 14) (.t 15)) 6 12 true 16464 [8, 7, 6, 5, 2, 1, 0, 4, 3, 9],
 .f 17 (.pick (.t 12) (.t 16) (.c (.bool false))) 16472 [6, 5, 2, 1, 0, 4, 3, 10, 8, 7, 9],
 .f 2 (.copy (.t 17)) 16480 [11, 6, 5, 2, 1, 0, 4, 3, 10, 8, 7, 9]])
 .ret)))
theorem vf38 : VF Tryz.prog 38 = some (18, vc38, [.tmp 2]) := by kernel_rfl
theorem xI5 {a lo hi : Int} (h1 : lo ≤ a) (h2 : a ≤ hi) : VC Tryz.prog 147 [.int .i64 a, .int .i64 lo, .int .i64 hi] [] (.bool true) [] := by
  have e1 : decide (lo ≤ a) = true := decide_eq_true h1
  have e2 : decide (a ≤ hi) = true := decide_eq_true h2
  refine vcs vf147 ?_
  repeat first|refine sgo ?_|refine sop ?_
  exact xAC ⟨.inr rfl, oB e2⟩
theorem xQe {s : SpanL} (h : spOk s) : VC Tryz.prog 178 [.agg (encS s)] [] (.bool true) [] := by
  have he := xCQ s
  rw [h.1] at he
  refine vcs vf178 ?_
  repeat first|refine sgo ?_|refine cv0 he ?_|refine sop ?_
  refine xAC ⟨.inr rfl, oB (decide_eq_true ?_)⟩
  have h1 := h.2.1
  have h2 := h.2.2
  (first | omega | (split <;> omega))
theorem xIs (k p : Str) (hk : k.length ≤ 1000000000) (hp : p.length ≤ 1000000000) : VC Tryz.prog 190 [.str k, .str p] [] (.bool (xAF k p)) [] := by
  have h := xEc k p hk hp
  refine vcs vf190 ?_
  repeat first|refine sgo ?_|refine cv0 h ?_|refine sop ?_
  exact xAC ⟨.inr rfl, oAny rfl⟩
theorem xNm {a b : Str} (h1 : 1 ≤ a.length ∧ a.length ≤ 200) (h2 : 1 ≤ b.length ∧ b.length ≤ 200) (h3 : xAF a b = false) (h4 : xAF b a = false) : VC Tryz.prog 187 [.str a, .str b] [] (.bool true) [] := by
  have n1 := xI5 (a := (a.length : Int)) (lo := 1) (hi := 200) (by omega) (by omega)
  have n2 := xI5 (a := (b.length : Int)) (lo := 1) (hi := 200) (by omega) (by omega)
  have p1 := xIs a b (by omega) (by omega)
  have p2 := xIs b a (by omega) (by omega)
  rw [h3] at p1
  rw [h4] at p2
  refine vcs vf187 ?_
  repeat first|refine sgo ?_|refine cv0 n1 ?_|refine cv0 n2 ?_|refine cv0 p1 ?_|refine cv0 p2 ?_|refine sop ?_
  exact xAC ⟨.inr rfl, oAny rfl⟩
theorem veM (a : MsgL) {lvl site : Nat} {tf : TF} {hf : HF} {x y : VX} (hx : ev tf x = some (.agg (encM a)) := by rfl) (hy : ev tf y = some (.agg (encM a)) := by rfl) :
    vop lvl site tf hf (.eqc false [1, 2, 2, 2, 2, 2, 2, 1] x y) = some ⟨.bool true, [], []⟩ := by
  have h := veqM a a (neg := false) (lvl := lvl) (site := site) (hf := hf) hx hy
  rw [h]
  simp
theorem xVG (m : MsgL) (h : m = (⟨1, m.key, m.val, noSp, [], [], m.n⟩)) : VC Tryz.prog 141 [.agg (encM m)] [] (.agg (encM m)) [] := by
  rw [h]
  refine vcs vf141 ?_
  repeat first|refine sgo ?_|refine sop ?_
  exact xAC ⟨.inr rfl, oAny rfl⟩
theorem xVJ (m : MsgL) (h : m = (⟨2, m.key, [], noSp, [], [], 0⟩)) : VC Tryz.prog 162 [.agg (encM m)] [] (.agg (encM m)) [] := by
  rw [h]
  refine vcs vf162 ?_
  repeat first|refine sgo ?_|refine sop ?_
  exact xAC ⟨.inr rfl, oAny rfl⟩
theorem xSu (m : MsgL) (h : m = (⟨3, [], [], m.sp, [], [], 0⟩)) : VC Tryz.prog 173 [.agg (encM m)] [] (.agg (encM m)) [] := by
  rw [h]
  refine vcs vf173 ?_
  repeat first|refine sgo ?_|refine sop ?_
  exact xAC ⟨.inr rfl, oAny rfl⟩
theorem xSt (m : MsgL) (h : m = (⟨4, [], [], noSp, m.fr, m.to, 0⟩)) : VC Tryz.prog 180 [.agg (encM m)] [] (.agg (encM m)) [] := by
  rw [h]
  refine vcs vf180 ?_
  repeat first|refine sgo ?_|refine sop ?_
  exact xAC ⟨.inr rfl, oAny rfl⟩
theorem xRB (m : MsgL) (h : m = (⟨5, [], [], noSp, m.fr, m.to, 0⟩)) : VC Tryz.prog 196 [.agg (encM m)] [] (.agg (encM m)) [] := by
  rw [h]
  refine vcs vf196 ?_
  repeat first|refine sgo ?_|refine sop ?_
  exact xAC ⟨.inr rfl, oAny rfl⟩
theorem xQ5 (m : MsgL) (h : m = (⟨6, [], [], m.sp, [], [], m.n⟩)) : VC Tryz.prog 202 [.agg (encM m)] [] (.agg (encM m)) [] := by
  rw [h]
  refine vcs vf202 ?_
  repeat first|refine sgo ?_|refine sop ?_
  exact xAC ⟨.inr rfl, oAny rfl⟩
theorem xTd {m : MsgL} (h : 1 ≤ m.key.length ∧ m.key.length ≤ 65535 ∧ m.val.length ≤ 64 ∧ 0 ≤ m.n ∧ m.n ≤ 1000000000) : VC Tryz.prog 143 [.agg (encM m)] [] (.bool true) [] := by
  have n1 := xI5 (a := (m.key.length : Int)) (lo := 1) (hi := 65535) (by omega) (by omega)
  have n2 := xI5 (a := m.n) (lo := 0) (hi := 1000000000) (by omega) (by omega)
  have e1 : decide ((m.val.length : Int) ≤ 64) = true := decide_eq_true (by omega)
  refine vcs vf143 ?_
  repeat first|refine sgo ?_|refine cv0 n1 ?_|refine cv0 n2 ?_|refine sop ?_
  exact xAC ⟨.inr rfl, oAny rfl⟩
theorem xTf {m : MsgL} (h : 1 ≤ m.key.length ∧ m.key.length ≤ 65535) : VC Tryz.prog 164 [.agg (encM m)] [] (.bool true) [] := by
  have n1 := xI5 (a := (m.key.length : Int)) (lo := 1) (hi := 65535) (by omega) (by omega)
  refine vcs vf164 ?_
  repeat first|refine sgo ?_|refine cv0 n1 ?_|refine sop ?_
  exact xAC ⟨.inr rfl, oAny rfl⟩
theorem xRO {m : MsgL} (h : spOk m.sp) : VC Tryz.prog 175 [.agg (encM m)] [] (.bool true) [] := by
  have n1 := xQe h
  refine vcs vf175 ?_
  repeat first|refine sgo ?_|refine cv0 n1 ?_|refine sop ?_
  exact xAC ⟨.inr rfl, oAny rfl⟩
theorem xRN {m : MsgL} (h1 : 1 ≤ m.fr.length ∧ m.fr.length ≤ 200) (h2 : 1 ≤ m.to.length ∧ m.to.length ≤ 200) (h3 : xAF m.fr m.to = false) (h4 : xAF m.to m.fr = false) : VC Tryz.prog 182 [.agg (encM m)] [] (.bool true) [] := by
  have n1 := xNm h1 h2 h3 h4
  refine vcs vf182 ?_
  repeat first|refine sgo ?_|refine cv0 n1 ?_|refine sop ?_
  exact xAC ⟨.inr rfl, oAny rfl⟩
theorem xOk {m : MsgL} (h1 : 1 ≤ m.fr.length ∧ m.fr.length ≤ 200) (h2 : 1 ≤ m.to.length ∧ m.to.length ≤ 200) (h3 : xAF m.fr m.to = false) (h4 : xAF m.to m.fr = false) : VC Tryz.prog 198 [.agg (encM m)] [] (.bool true) [] := by
  have n1 := xNm h1 h2 h3 h4
  refine vcs vf198 ?_
  repeat first|refine sgo ?_|refine cv0 n1 ?_|refine sop ?_
  exact xAC ⟨.inr rfl, oAny rfl⟩
theorem xOj {m : MsgL} (h : spOk m.sp) (h0 : 0 ≤ m.n ∧ m.n ≤ 1000000000) : VC Tryz.prog 204 [.agg (encM m)] [] (.bool true) [] := by
  have n1 := xQe h
  have n2 := xI5 (a := m.n) (lo := 0) (hi := 1000000000) (by omega) (by omega)
  refine vcs vf204 ?_
  repeat first|refine sgo ?_|refine cv0 n1 ?_|refine cv0 n2 ?_|refine sop ?_
  exact xAC ⟨.inr rfl, oAny rfl⟩
set_option maxHeartbeats 1000000 in
theorem xRQ {m : MsgL} (hm : MsgOk m) (hv : MsgV m) : VC Tryz.prog 38 [.agg (encM m)] [] (.bool true) [] := by
  have hk := hm.k
  have ho := xR4 hk
  have six' : m.kind = 1 ∨ m.kind = 2 ∨ m.kind = 3 ∨ m.kind = 4 ∨ m.kind = 5 ∨ m.kind = 6 := six hk
  rcases six' with h | h | h | h | h | h
  · obtain ⟨a1, a2, a3, a4, a5, e⟩ := hv.put h
    have v1 := xTd (m := m) ⟨a1, a2, a3, a4, a5⟩
    have v2 := xVG m e
    rw [h] at ho
    refine vcs vf38 ?_
    repeat first|refine sgo ?_|refine cf ho ?_|refine o_v0 visn ?_|refine cv0 v1 ?_|refine cv0 v2 ?_|refine o_v (veM m) ?_|refine sop ?_
    exact xAC ⟨.inr rfl, oAny rfl⟩
  · obtain ⟨a1, a2, e⟩ := hv.del h
    have v1 := xTf (m := m) ⟨a1, a2⟩
    have v2 := xVJ m e
    rw [h] at ho
    refine vcs vf38 ?_
    repeat first|refine sgo ?_|refine cf ho ?_|refine o_v0 visn ?_|refine cv0 v1 ?_|refine cv0 v2 ?_|refine o_v (veM m) ?_|refine sop ?_
    exact xAC ⟨.inr rfl, oAny rfl⟩
  · obtain ⟨a1, e⟩ := hv.drop h
    have v1 := xRO (m := m) a1
    have v2 := xSu m e
    rw [h] at ho
    refine vcs vf38 ?_
    repeat first|refine sgo ?_|refine cf ho ?_|refine o_v0 visn ?_|refine cv0 v1 ?_|refine cv0 v2 ?_|refine o_v (veM m) ?_|refine sop ?_
    exact xAC ⟨.inr rfl, oAny rfl⟩
  · obtain ⟨a1, a2, a3, a4, a5, a6, e⟩ := hv.mv (.inl h)
    rw [h] at e
    have v1 := xRN (m := m) ⟨a1, a2⟩ ⟨a3, a4⟩ a5 a6
    have v2 := xSt m e
    rw [h] at ho
    refine vcs vf38 ?_
    repeat first|refine sgo ?_|refine cf ho ?_|refine o_v0 visn ?_|refine cv0 v1 ?_|refine cv0 v2 ?_|refine o_v (veM m) ?_|refine sop ?_
    exact xAC ⟨.inr rfl, oAny rfl⟩
  · obtain ⟨a1, a2, a3, a4, a5, a6, e⟩ := hv.mv (.inr h)
    rw [h] at e
    have v1 := xOk (m := m) ⟨a1, a2⟩ ⟨a3, a4⟩ a5 a6
    have v2 := xRB m e
    rw [h] at ho
    refine vcs vf38 ?_
    repeat first|refine sgo ?_|refine cf ho ?_|refine o_v0 visn ?_|refine cv0 v1 ?_|refine cv0 v2 ?_|refine o_v (veM m) ?_|refine sop ?_
    exact xAC ⟨.inr rfl, oAny rfl⟩
  · obtain ⟨a1, a2, a3, e⟩ := hv.stamp h
    have v1 := xOj (m := m) a1 ⟨a2, a3⟩
    have v2 := xQ5 m e
    rw [h] at ho
    refine vcs vf38 ?_
    repeat first|refine sgo ?_|refine cf ho ?_|refine o_v0 visn ?_|refine cv0 v1 ?_|refine cv0 v2 ?_|refine o_v (veM m) ?_|refine sop ?_
    exact xAC ⟨.inr rfl, oAny rfl⟩
end Go.Proofs
