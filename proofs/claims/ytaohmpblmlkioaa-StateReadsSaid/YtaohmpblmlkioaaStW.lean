/- The contract of state.Encode, over lists alone. Conditions: up to a thousand vertices. -/
import Derived.Test.YtaohmpblmlkioaaStA
import Derived.Test.YtaohmpblmlkioaaBlkW
namespace Go.Proofs.Ytaohmpblmlkioaa.PAll
open Go.RowKit Go.Proofs.Ytaohmpblmlkioaa.Oct Go.Proofs.Ytaohmpblmlkioaa.HX Go.Proofs.YtaohmpblmlkioaaW.PrintWords Go.Proofs.YtaohmpblmlkioaaW.PrintLast Go.Proofs.YtaohmpblmlkioaaW.PrintMore
set_option linter.unusedVariables false
theorem sencode_w {A0 A1 : Option Addr} {c0 c1 : Nat} {vs : List Int} {ls : List Bool} {w : World} (h0 : Kd.C (Kd.int .u64) w A0 vs.length vs) (hc0 : vs.length ≤ c0) (h1 : Kd.C Kd.bool w A1 ls.length ls) (hc1 : ls.length ≤ c1) (hn : vs.length ≤ 1000) (step : Int) :
    Calls Try.prog 11 #[.int .i64 step, .agg #[.slice A0 vs.length c0, .slice A1 ls.length c1]] w fun e w' => ∃ A' c', e = .returned (.tuple #[.slice A' (senc step vs ls).length c', .int .i64 (serr step vs ls)]) ∧ (senc step vs ls).length ≤ c' ∧ Kd.C (Kd.int .u8) w' A' (senc step vs ls).length (senc step vs ls) ∧ Below w.heap.size w w' := by
  refine (state_Encode.calls 50000 step A0 c0 vs A1 c1 ls _ _ w h0 hc0 h1 hc1 (sencode_is hn step 50000 (by omega))).mono ?_
  rintro e w3 ⟨v3, rfl, ho3, hb3⟩
  obtain ⟨A3, c3, rfl⟩ := Kd.R_slice ho3
  have O3 := R_C ho3
  exact ⟨A3, c3, rfl, O3.2.1, O3.2.2, hb3⟩
theorem results_tct {P : Program} {fn : Func} {p u v : Tmp} {ty : TypeId} (h : fn.results = #[.tmp u, .cell p ty, .tmp v]) (tmps : Array Value) (w : World) (g : Nat) (t : TypeId) (cs : Array Value) (fr : Nat × Nat) (d : TypeDesc)
    (hp : tmps.getD p undef = .pointer (some ⟨g, 0, none⟩)) (hg : w.heap[g]? = some (.cells cs t fr))
    (hu : P.underlying ty = some d) (hd : (match d with | .struct _ | .array _ _ => true | _ => false) = true) (hi : (P.info? ty).map (·.size) = some cs.size) :
    (results fn tmps).run P w = .ok (.tuple #[tmps.getD u undef, .agg cs, tmps.getD v undef]) w := by
  have hp' : tmps[p]?.getD undef = .pointer (some ⟨g, 0, none⟩) := by simpa using hp
  simp [results, h, hp', asAddr, run_loadVar_row w g t ty cs fr d hg hu hd hi]
end Go.Proofs.Ytaohmpblmlkioaa.PAll
