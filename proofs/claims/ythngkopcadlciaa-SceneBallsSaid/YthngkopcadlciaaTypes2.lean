import Derived.Test.YthngkopcadlciaaTypes
set_option linter.unusedVariables false
set_option linter.unusedSimpArgs false
namespace Go.Proofs.Ythngkopcadlciaa
open Go.RowKit

attribute [local irreducible] AC AR DWalk
structure Dec where
  c : Int
  scale : Int
deriving DecidableEq
@[reducible] def Dec.v (s : Dec) : Value := .agg #[.int .i64 s.c, .int .i64 s.scale]
structure A3 where
  a0 : Int
  a1 : Int
  a2 : Int
deriving DecidableEq
@[reducible] def A3.v (s : A3) : Value := .agg #[.int .i64 s.a0, .int .i64 s.a1, .int .i64 s.a2]
structure Shape where
  kind : Int
  x : Dec
  y : Dec
  z : Dec
  r : Dec
  glow : A3
deriving DecidableEq
@[reducible] def Shape.v (s : Shape) : Value := .agg #[.int .i64 s.kind, .int .i64 s.x.c, .int .i64 s.x.scale, .int .i64 s.y.c, .int .i64 s.y.scale, .int .i64 s.z.c, .int .i64 s.z.scale, .int .i64 s.r.c, .int .i64 s.r.scale, .int .i64 s.glow.a0, .int .i64 s.glow.a1, .int .i64 s.glow.a2]
structure RawRay where
  x : Int
  y : Int
  u : Int
  w : Int
  wide : Int
  lean : Int
deriving DecidableEq
@[reducible] def RawRay.v (s : RawRay) : Value := .agg #[.int .i64 s.x, .int .i64 s.y, .int .i64 s.u, .int .i64 s.w, .int .i64 s.wide, .int .i64 s.lean]
@[reducible] def Ray.v (s : Ray) : Value := .agg #[.int .i64 s.o.x.lo, .int .i64 s.o.x.hi, .bool s.o.x.no, .int .i64 s.o.y.lo, .int .i64 s.o.y.hi, .bool s.o.y.no, .int .i64 s.o.z.lo, .int .i64 s.o.z.hi, .bool s.o.z.no, .int .i64 s.d.x.lo, .int .i64 s.d.x.hi, .bool s.d.x.no, .int .i64 s.d.y.lo, .int .i64 s.d.y.hi, .bool s.d.y.no, .int .i64 s.d.z.lo, .int .i64 s.d.z.hi, .bool s.d.z.no]
end Go.Proofs.Ythngkopcadlciaa
