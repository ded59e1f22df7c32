/- TaIn -/
import Derived.Test.YtjjkeakejclknaaTa
import Derived.Test.YtjjkeakejclknaaVD
open Go.V Go.Pu
set_option linter.unusedVariables false
namespace Go.Proofs
theorem decP {l : List (List PV)} (h : InTy (.sl [.str, .str, .int .i64]) (.sh false l)) : ∃ xs : List PairL, l = xs.map encP ∧ xs.length ≤ maxLen := decodeL h fun e hl hc => by
  obtain ⟨a, b, c, rfl⟩ := list3 hl
  obtain ⟨s, rfl, _⟩ := in_str (hc 0 _ _ rfl rfl)
  obtain ⟨t, rfl, _⟩ := in_str (hc 1 _ _ rfl rfl)
  obtain ⟨n, rfl, _⟩ := in_int (hc 2 _ _ rfl rfl)
  exact ⟨⟨s, t, n⟩, rfl⟩
theorem decR {l : List (List PV)} (h : InTy (.sl [.int .u8, .int .u8, .int .u8]) (.sh false l)) : ∃ xs : List RawL, l = xs.map encR ∧ xs.length ≤ maxLen := decodeL h fun e hl hc => by
  obtain ⟨a, b, c, rfl⟩ := list3 hl
  obtain ⟨x, rfl, hx⟩ := in_u8 (hc 0 _ _ rfl rfl)
  obtain ⟨y, rfl, hy⟩ := in_u8 (hc 1 _ _ rfl rfl)
  obtain ⟨z, rfl, hz⟩ := in_u8 (hc 2 _ _ rfl rfl)
  exact ⟨⟨x, y, z, hx, hy, hz⟩, rfl⟩
theorem tableValid_in (l0 : List (List PV)) (i0 : InTy (.sl [.str, .str, .int .i64]) (.sh false l0)) (l1 : List (List PV)) (i1 : InTy (.sl [.int .u8, .int .u8, .int .u8]) (.sh false l1)) (qs : List PV) (hl : qs.length = [CTy.int .u8, .int .u8, .int .u8].length) (hq : ∀ (j : Nat) (c : CTy) (q : PV), [CTy.int .u8, .int .u8, .int .u8][j]? = some c → qs[j]? = some q → InTy c q) :
    VC Try.prog 4 [.sh false l0, .sh false l1, .agg qs] [] (.bool true) [] := by
  obtain ⟨raw, rfl, _⟩ := decP i0
  obtain ⟨l, rfl, _⟩ := decR i1
  obtain ⟨a, b, c, rfl⟩ := list3 hl
  obtain ⟨x, rfl, hx⟩ := in_u8 (hq 0 _ _ rfl rfl)
  obtain ⟨y, rfl, hy⟩ := in_u8 (hq 1 _ _ rfl rfl)
  obtain ⟨z, rfl, hz⟩ := in_u8 (hq 2 _ _ rfl rfl)
  exact law_vc Sl.sh Sl.sh hx hy hz
end Go.Proofs
