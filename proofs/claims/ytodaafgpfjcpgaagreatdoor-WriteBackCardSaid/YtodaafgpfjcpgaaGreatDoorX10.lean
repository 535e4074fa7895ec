/- Joined of my own texts: FwU, FwV. -/
import Derived.Test.YtodaafgpfjcpgaaGreatDoorX9
import Derived.Lib.SliceRun
namespace Go.Sy
open Go Go.RowKit
section
variable {P : Program} {W0 : World} {n : Nat} {Q : Po} {ρ : Rho} {L : List Res} {F : List Fact} {K : Act → World → Prop}
variable {d : Tmp} {ty t : TypeId} {pos : String} {af : Array Edge} {g : Option (Nat × Bool)}
variable {x y : Operand} {e sz bytes : Nat} {rows : List (List D)} {a : Option Addr} {k c : Nat}
theorem Sat.ownLen {w : World} {i : Nat} (s : Sat W0 L F w) (hi : L[i]? = some (Res.own (.slice a k c) e sz rows)) : k = rows.length := by
  obtain ⟨a0, c0, h⟩ := s.ownSl hi
  injection h
theorem AO.lenO {i : Nat} (hx : ev ρ x = some (.slice a k c)) (hd : Nat.blt d n = true) [ht : SlT P t e sz bytes] (hi : L[i]? = some (Res.own (.slice a k c) e sz rows)) (h : k = rows.length → AT W0 n K ((d, .int .i64 rows.length) :: ρ) L F) :
    AO P W0 n K ⟨some d, .call ⟨.builtin .len, #[x], #[t]⟩, ty, pos, af, g⟩ Q ρ L F := by
  intro a0 w s
  have hk := s.sat.ownLen hi
  subst hk
  exact HG (Q := Q) hd (fun s w st => by
    simp [execOp, resolve, invoke, builtin, GK st.slots hx, Builtin.len_, run_underlying ht.und, goInt]) (h rfl) a0 w s
theorem AO.indexAddrO {i q : Nat} {j : Int} {kd : IntKind} (hx : ev ρ x = some (.slice a k c)) (hy : ev ρ y = some (.int kd j)) (hd : Nat.blt d n = true) [ht : SlT P t e sz bytes] (hj : j = (q : Int)) (hi : L[i]? = some (Res.own (.slice a k c) e sz rows)) (hq : q < rows.length)
    (h : ∀ b, a = some ⟨b, 0, none⟩ → AT W0 n K ((d, .pointer (some ⟨b, 0 + q * sz, none⟩)) :: ρ) L F) : AO P W0 n K ⟨some d, .indexAddr t x y, ty, pos, af, g⟩ Q ρ L F := by
  intro a0 w s
  subst hj
  have hk := s.sat.ownLen hi
  obtain ⟨hb, hh, m, sx⟩ := id s.sat
  obtain ⟨_, hp⟩ : ownP (.slice a k c) e sz rows hh (m i) := sx.res i _ hi
  obtain ⟨b, ha⟩ : ∃ b, a = some ⟨b, 0, none⟩ := by
    rcases hp with ⟨_, hr, _⟩ | ⟨gg, cap, cur, hv, _⟩
    · rw [hr] at hq; exact absurd hq (by simp)
    injection hv with h1; exact ⟨gg, h1⟩
  subst ha
  have hlt : (0 : Int) ≤ (q : Int) ∧ (q : Int) < (k : Int) := by omega
  refine HG (Q := Q) hd (fun s w st => ?_) (h b HQ) a0 w s
  have := run_indexAt_slice (P := P) w t ⟨b, 0, none⟩ k c kd q (SlT.elem (t := t) (e := e) (bytes := bytes) (sz := sz))
  rw [if_pos hlt, SlT.size (t := t) (e := e) (bytes := bytes) (sz := sz)] at this
  simp only [execOp, GK st.slots hx, GK st.slots hy, Sem.run_bind, this]
  simp [Result.andThen, Addr.add_lit]
end
end Go.Sy
namespace Go.Sy
open Go Go.RowKit
end Go.Sy
