/- Joined of my own texts: FwW. -/
import Derived.Test.YtodaafgpfjcpgaaDoorV10
import Derived.Laws.MakeOwn
namespace Go.Sy
open Go Go.RowKit
section
variable {P : Program} {W0 : World} {n : Nat} {Q : Po} {ρ : Rho} {L : List Res} {F : List Fact} {K : Act → World → Prop}
variable {d : Tmp} {ty t : TypeId} {pos : String} {af : Array Edge} {g : Option (Nat × Bool)}
variable {x y : Operand} {e sz bytes : Nat} {rows : List (List D)} {a : Option Addr} {k c : Nat}
theorem Y.max {T : World → Prop} {dd : Option Tmp} {i j : Int} {ts : Array TypeId} {kd : IntKind} (hx : ev ρ x = some (.int kd i)) (hy : ev ρ y = some (.int kd j)) : Yd P n ρ T ⟨dd, .call ⟨.builtin .max, #[x, y], ts⟩, ty, pos, af, g⟩ (.int kd (Max.max i j)) := ⟨fun s w st _ => by
  have : (if i < j then j else i) = Max.max i j := by omega
  simp [execOp, resolve, invoke, builtin, GM st hx, GM st hy, Builtin.max_, Builtin.max2, this]⟩
theorem Sat.ownRow {w : World} {i b q : Nat} {r : List D} (s : Sat W0 L F w) (hi : L[i]? = some (Res.own (.slice (some ⟨b, 0, none⟩) k c) e sz rows)) (hr : rows[q]? = some r) :
    ∃ cur : Array Value, w.heap[b]? = some (.cells cur e (0, 0)) ∧ ∀ (j : Nat) (v : Value), r[j]? = some (.val v) → cur[q * sz + j]? = some v := by
  obtain ⟨hb, hh, m, sx⟩ := s
  obtain ⟨h0, hp⟩ : ownP (.slice (some ⟨b, 0, none⟩) k c) e sz rows hh (m i) := sx.res i _ hi
  rcases hp with ⟨hv, _⟩ | ⟨gg, cap, cur, hv, hm, hcap, hmax, hcs, hx⟩
  · simp at hv
  injection hv with h1
  injection h1 with h1
  injection h1 with h1
  subst h1
  have hbl := sx.own i b _ (has_lt hi) (by rw [hm]; exact one_self _ _)
  refine ⟨cur, hbl.2.1, fun j v hj => ?_⟩
  obtain ⟨u, hu, hcu⟩ := hx q _ j _ hr hj
  cases hcu
  exact hu
end
end Go.Sy
