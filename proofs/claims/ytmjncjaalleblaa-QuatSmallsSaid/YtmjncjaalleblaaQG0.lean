import Derived.Test.YtmjncjaalleblaaQF
import Derived.ChangeKeysEq
/- Layer 4: quaternions that are held against one another. -/
namespace Go.Proofs.Ytmjncjaalleblaa.PQ
open Go.RowKit Go.Proofs.YtmjncjaalleblaaW.PrintWords Go.Proofs.YtmjncjaalleblaaW.PrintLast Go.Proofs.YtmjncjaalleblaaW.PrintMore
set_option linter.unusedVariables false
set_option linter.unusedSimpArgs false
theorem part22 (xs : Array Value) (k : Nat) (x : Int) (h : xs[k]? = some (.int .i64 x)) (w : World) : (part 22 xs k).run Try.prog w = .ok (.int .i64 x) w := by
  simp [part, go_sem, h]
theorem items_cons (a e : Int) (xs ys : Array Value) (k : Nat) (hx : xs[k]? = some (.int .i64 a)) (hy : ys[k]? = some (.int .i64 e)) (ks : List Nat) (r : Bool) (w : World)
    (h : (Op.eqItems 9999 22 1 xs ys ks).run Try.prog w = .ok r w) : (Op.eqItems 9999 22 1 xs ys (k :: ks)).run Try.prog w = .ok ((a == e) && r) w := by
  have p1 := part22 xs (k * 1) a (by simpa using hx) w
  have p2 := part22 ys (k * 1) e (by simpa using hy) w
  have p3 := run_equalIn_int w (P := Try.prog) 9998 22 .i64 .i64 a e rfl
  simp only [Op.eqItems, Sem.run_bind, p1, p2, p3, Result.andThen_ok]
  cases hr : (a == e)
  · simp
  · simpa using h
theorem eq24 (a b c d e f g h : Int) (w : World) :
    (Op.equalIn 10000 24 (.agg #[.int .i64 a, .int .i64 b, .int .i64 c, .int .i64 d]) (.agg #[.int .i64 e, .int .i64 f, .int .i64 g, .int .i64 h])).run Try.prog w = .ok ((a == e) && ((b == f) && ((c == g) && ((d == h) && true)))) w := by
  rw [run_equalIn_array (P := Try.prog) (w := w) 9999 (e := 22) (n := 4) (i := _) _ _ rfl rfl]
  exact items_cons _ _ _ _ 0 rfl rfl _ _ w (items_cons _ _ _ _ 1 rfl rfl _ _ w (items_cons _ _ _ _ 2 rfl rfl _ _ w (items_cons _ _ _ _ 3 rfl rfl _ _ w (by simp [Op.eqItems]))))
theorem eq26 (a b c e f g : Int) (w : World) :
    (Op.equalIn 10000 26 (.agg #[.int .i64 a, .int .i64 b, .int .i64 c]) (.agg #[.int .i64 e, .int .i64 f, .int .i64 g])).run Try.prog w = .ok ((a == e) && ((b == f) && ((c == g) && true))) w := by
  rw [run_equalIn_array (P := Try.prog) (w := w) 9999 (e := 22) (n := 3) (i := _) _ _ rfl rfl]
  exact items_cons _ _ _ _ 0 rfl rfl _ _ w (items_cons _ _ _ _ 1 rfl rfl _ _ w (items_cons _ _ _ _ 2 rfl rfl _ _ w (by simp [Op.eqItems])))
end Go.Proofs.Ytmjncjaalleblaa.PQ
