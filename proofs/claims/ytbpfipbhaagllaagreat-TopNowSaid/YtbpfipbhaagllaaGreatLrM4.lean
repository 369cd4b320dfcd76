/- Joined texts. What each part proves stands ahead of it; no condition. -/
import Derived.Test.YtbpfipbhaagllaaGreatLrM3
import Derived.Test.YtbpfipbhaagllaaGreatLrLenBits
import Derived.Test.YtbpfipbhaagllaaGreatLrM2
set_option linter.unusedVariables false
set_option linter.unusedSimpArgs false
/- wide: Mul, Round, Shift, by every path of their runs (printed by contract.py). -/
namespace Go.Proofs.YtbpfipbhaagllaaGreat
open Go.Lr
theorem jqq (a b:Int):(jG Tryz.prog S6 Zl 2000 66 [.v (.one (.int .i64 a)),.v (.one (.int .i64 b))] [] 0 []).map (fun r=>(r.1,r.2.2.2))=some (LV.v (V1.agg [At.int .i64 (w64 (wHi (sgn (!decide (a<0)==decide (b<0)) (jc (jh a*jh b/18446744073709551616) (jh a*jh b%18446744073709551616))))),At.int IntKind.u64 (wLo (sgn (!decide (a<0)==decide (b<0)) (jc (jh a*jh b/18446744073709551616) (jh a*jh b%18446744073709551616))))]),[(isU (jh a*jh b/18446744073709551616),true),(isU (jh a*jh b%18446744073709551616),true),(isU (jh a),true),(isU (jh b),true),(isI b,true),(isI a,true)]):=by kernel_rfl
def jqr (a b:Int):Option (LV×List (Bool×Bool)):=some (LV.v (V1.agg [At.int .i64 (w64 (wHi (sgn (!decide (a<0)==decide (b<0)) (jc (jh a*jh b/18446744073709551616) (jh a*jh b%18446744073709551616))))),At.int IntKind.u64 (wLo (sgn (!decide (a<0)==decide (b<0)) (jc (jh a*jh b/18446744073709551616) (jh a*jh b%18446744073709551616))))]),[(isU (jh a*jh b/18446744073709551616),true),(isU (jh a*jh b%18446744073709551616),true),(isU (jh a),true),(isU (jh b),true),(isI b,true),(isI a,true)])
def jqs:List LV→Option (LV×List (Bool×Bool))
 | [.v (.one (.int .i64 a)),.v (.one (.int .i64 b))]=>jqr a b
 | _=>none
theorem sumwmul:SumOK Tryz.prog 66 (jq jqs):=by
 refine jC (z:=Zl) sound6 (jl sound6 Tryz.func66 (by kernel_rfl)) fun args v cs hF hc=> ?_
 unfold jqs at hF
 split at hF
 ·rename_i a b
  unfold jqr at hF
  cases hF
  exact ⟨2000,[],_,jqq a b,ja (jt (hc)) (ja (jt (jg (hc))) (ja (jt (jg (jg (hc)))) (ja (jt (jg (jg (jg (hc))))) (ja (jt (jg (jg (jg (jg (hc)))))) (ja (jt (jg (jg (jg (jg (jg (hc))))))) (jd))))))⟩
 ·cases hF
theorem ji1 (x y s:Int):(jG Tryz.prog S6 Zl 2000 68 [.v (.agg [.int .i64 x,.int .u64 y]),.v (.one (.int .i64 s))] [] 0 [some true,some true,some true,none]).map (fun r=>(r.1,r.2.2.2))=some (LV.tup [V1.one (At.int .i64 0),V1.one (At.bool false)],[(decide (s<0),true),(decide (s<0),true),(decide (s<0),true)]):=by kernel_rfl
theorem ji2 (x y s:Int):(jG Tryz.prog S6 Zl 2000 68 [.v (.agg [.int .i64 x,.int .u64 y]),.v (.one (.int .i64 s))] [] 0 [some false,some false,some false,some true]).map (fun r=>(r.1,r.2.2.2))=some (LV.tup [V1.one (At.int .i64 0),V1.one (At.bool false)],[(decide (s>126),true),(decide (s<0),false),(decide (s<0),false),(decide (s<0),false)]):=by kernel_rfl
theorem ji3 (x y s:Int):(jG Tryz.prog S6 Zl 2000 68 [.v (.agg [.int .i64 x,.int .u64 y]),.v (.one (.int .i64 s))] [] 0 [some false,some false,some false,some false,some true]).map (fun r=>(r.1,r.2.2.2))=some (LV.tup [V1.one (At.int .i64 (if isI (sgn (decide (jc x y<0)) (jc (wHi (jc (wHi ((jc (wHi (jh (jc x y))) (wLo (jh (jc x y)))+jc (wHi (jc 0 1*jk (wr .i64 (s - 1)).toNat%340282366920938463463374607431768211456)) (wLo (jc 0 1*jk (wr .i64 (s - 1)).toNat%340282366920938463463374607431768211456)))%340282366920938463463374607431768211456)) (wLo ((jc (wHi (jh (jc x y))) (wLo (jh (jc x y)))+jc (wHi (jc 0 1*jk (wr .i64 (s - 1)).toNat%340282366920938463463374607431768211456)) (wLo (jc 0 1*jk (wr .i64 (s - 1)).toNat%340282366920938463463374607431768211456)))%340282366920938463463374607431768211456))/jk s.toNat)) (wLo (jc (wHi ((jc (wHi (jh (jc x y))) (wLo (jh (jc x y)))+jc (wHi (jc 0 1*jk (wr .i64 (s - 1)).toNat%340282366920938463463374607431768211456)) (wLo (jc 0 1*jk (wr .i64 (s - 1)).toNat%340282366920938463463374607431768211456)))%340282366920938463463374607431768211456)) (wLo ((jc (wHi (jh (jc x y))) (wLo (jh (jc x y)))+jc (wHi (jc 0 1*jk (wr .i64 (s - 1)).toNat%340282366920938463463374607431768211456)) (wLo (jc 0 1*jk (wr .i64 (s - 1)).toNat%340282366920938463463374607431768211456)))%340282366920938463463374607431768211456))/jk s.toNat))))=true then sgn (decide (jc x y<0)) (jc (wHi (jc (wHi ((jc (wHi (jh (jc x y))) (wLo (jh (jc x y)))+jc (wHi (jc 0 1*jk (wr .i64 (s - 1)).toNat%340282366920938463463374607431768211456)) (wLo (jc 0 1*jk (wr .i64 (s - 1)).toNat%340282366920938463463374607431768211456)))%340282366920938463463374607431768211456)) (wLo ((jc (wHi (jh (jc x y))) (wLo (jh (jc x y)))+jc (wHi (jc 0 1*jk (wr .i64 (s - 1)).toNat%340282366920938463463374607431768211456)) (wLo (jc 0 1*jk (wr .i64 (s - 1)).toNat%340282366920938463463374607431768211456)))%340282366920938463463374607431768211456))/jk s.toNat)) (wLo (jc (wHi ((jc (wHi (jh (jc x y))) (wLo (jh (jc x y)))+jc (wHi (jc 0 1*jk (wr .i64 (s - 1)).toNat%340282366920938463463374607431768211456)) (wLo (jc 0 1*jk (wr .i64 (s - 1)).toNat%340282366920938463463374607431768211456)))%340282366920938463463374607431768211456)) (wLo ((jc (wHi (jh (jc x y))) (wLo (jh (jc x y)))+jc (wHi (jc 0 1*jk (wr .i64 (s - 1)).toNat%340282366920938463463374607431768211456)) (wLo (jc 0 1*jk (wr .i64 (s - 1)).toNat%340282366920938463463374607431768211456)))%340282366920938463463374607431768211456))/jk s.toNat))) else 0)),V1.one (At.bool (isI (sgn (decide (jc x y<0)) (jc (wHi (jc (wHi ((jc (wHi (jh (jc x y))) (wLo (jh (jc x y)))+jc (wHi (jc 0 1*jk (wr .i64 (s - 1)).toNat%340282366920938463463374607431768211456)) (wLo (jc 0 1*jk (wr .i64 (s - 1)).toNat%340282366920938463463374607431768211456)))%340282366920938463463374607431768211456)) (wLo ((jc (wHi (jh (jc x y))) (wLo (jh (jc x y)))+jc (wHi (jc 0 1*jk (wr .i64 (s - 1)).toNat%340282366920938463463374607431768211456)) (wLo (jc 0 1*jk (wr .i64 (s - 1)).toNat%340282366920938463463374607431768211456)))%340282366920938463463374607431768211456))/jk s.toNat)) (wLo (jc (wHi ((jc (wHi (jh (jc x y))) (wLo (jh (jc x y)))+jc (wHi (jc 0 1*jk (wr .i64 (s - 1)).toNat%340282366920938463463374607431768211456)) (wLo (jc 0 1*jk (wr .i64 (s - 1)).toNat%340282366920938463463374607431768211456)))%340282366920938463463374607431768211456)) (wLo ((jc (wHi (jh (jc x y))) (wLo (jh (jc x y)))+jc (wHi (jc 0 1*jk (wr .i64 (s - 1)).toNat%340282366920938463463374607431768211456)) (wLo (jc 0 1*jk (wr .i64 (s - 1)).toNat%340282366920938463463374607431768211456)))%340282366920938463463374607431768211456))/jk s.toNat))))))],[(isU (wHi (jc (wHi ((jc (wHi (jh (jc x y))) (wLo (jh (jc x y)))+jc (wHi (jc 0 1*jk (wr .i64 (s - 1)).toNat%340282366920938463463374607431768211456)) (wLo (jc 0 1*jk (wr .i64 (s - 1)).toNat%340282366920938463463374607431768211456)))%340282366920938463463374607431768211456)) (wLo ((jc (wHi (jh (jc x y))) (wLo (jh (jc x y)))+jc (wHi (jc 0 1*jk (wr .i64 (s - 1)).toNat%340282366920938463463374607431768211456)) (wLo (jc 0 1*jk (wr .i64 (s - 1)).toNat%340282366920938463463374607431768211456)))%340282366920938463463374607431768211456))/jk s.toNat)),true),(isU (wLo (jc (wHi ((jc (wHi (jh (jc x y))) (wLo (jh (jc x y)))+jc (wHi (jc 0 1*jk (wr .i64 (s - 1)).toNat%340282366920938463463374607431768211456)) (wLo (jc 0 1*jk (wr .i64 (s - 1)).toNat%340282366920938463463374607431768211456)))%340282366920938463463374607431768211456)) (wLo ((jc (wHi (jh (jc x y))) (wLo (jh (jc x y)))+jc (wHi (jc 0 1*jk (wr .i64 (s - 1)).toNat%340282366920938463463374607431768211456)) (wLo (jc 0 1*jk (wr .i64 (s - 1)).toNat%340282366920938463463374607431768211456)))%340282366920938463463374607431768211456))/jk s.toNat)),true),(isU (wHi ((jc (wHi (jh (jc x y))) (wLo (jh (jc x y)))+jc (wHi (jc 0 1*jk (wr .i64 (s - 1)).toNat%340282366920938463463374607431768211456)) (wLo (jc 0 1*jk (wr .i64 (s - 1)).toNat%340282366920938463463374607431768211456)))%340282366920938463463374607431768211456)),true),(isU (wLo ((jc (wHi (jh (jc x y))) (wLo (jh (jc x y)))+jc (wHi (jc 0 1*jk (wr .i64 (s - 1)).toNat%340282366920938463463374607431768211456)) (wLo (jc 0 1*jk (wr .i64 (s - 1)).toNat%340282366920938463463374607431768211456)))%340282366920938463463374607431768211456)),true),(decide (0≤s)&&decide (s<128),true),(isU (wHi (jh (jc x y))),true),(isU (wLo (jh (jc x y))),true),(isU (wHi (jc 0 1*jk (wr .i64 (s - 1)).toNat%340282366920938463463374607431768211456)),true),(isU (wLo (jc 0 1*jk (wr .i64 (s - 1)).toNat%340282366920938463463374607431768211456)),true),(isU 0,true),(isU 1,true),(decide (0≤wr .i64 (s - 1))&&decide (wr .i64 (s - 1)<128),true),(decide (s>0),true),(isI x,true),(isU y,true),(decide (s>126),false),(decide (s<0),false),(decide (s<0),false),(decide (s<0),false)]):=by kernel_rfl
theorem ji4 (x y s:Int):(jG Tryz.prog S6 Zl 2000 68 [.v (.agg [.int .i64 x,.int .u64 y]),.v (.one (.int .i64 s))] [] 0 [some false,some false,some false,some false,some false]).map (fun r=>(r.1,r.2.2.2))=some (LV.tup [V1.one (At.int .i64 (if isI (sgn (decide (jc x y<0)) (jc (wHi (jc (wHi (jh (jc x y))) (wLo (jh (jc x y)))/jk s.toNat)) (wLo (jc (wHi (jh (jc x y))) (wLo (jh (jc x y)))/jk s.toNat))))=true then sgn (decide (jc x y<0)) (jc (wHi (jc (wHi (jh (jc x y))) (wLo (jh (jc x y)))/jk s.toNat)) (wLo (jc (wHi (jh (jc x y))) (wLo (jh (jc x y)))/jk s.toNat))) else 0)),V1.one (At.bool (isI (sgn (decide (jc x y<0)) (jc (wHi (jc (wHi (jh (jc x y))) (wLo (jh (jc x y)))/jk s.toNat)) (wLo (jc (wHi (jh (jc x y))) (wLo (jh (jc x y)))/jk s.toNat))))))],[(isU (wHi (jc (wHi (jh (jc x y))) (wLo (jh (jc x y)))/jk s.toNat)),true),(isU (wLo (jc (wHi (jh (jc x y))) (wLo (jh (jc x y)))/jk s.toNat)),true),(isU (wHi (jh (jc x y))),true),(isU (wLo (jh (jc x y))),true),(decide (0≤s)&&decide (s<128),true),(decide (s>0),false),(isI x,true),(isU y,true),(decide (s>126),false),(decide (s<0),false),(decide (s<0),false),(decide (s<0),false)]):=by kernel_rfl
def Zd (x y s:Int):Option (LV×List (Bool×Bool)):=
 bif (decide (s<0)) then some (LV.tup [V1.one (At.int .i64 0),V1.one (At.bool false)],[])
 else
  bif (decide (s>126)) then some (LV.tup [V1.one (At.int .i64 0),V1.one (At.bool false)],[])
  else
   bif (decide (s>0)) then some (LV.tup [V1.one (At.int .i64 (if isI (sgn (decide (jc x y<0)) (jc (wHi (jc (wHi ((jc (wHi (jh (jc x y))) (wLo (jh (jc x y)))+jc (wHi (jc 0 1*jk (wr .i64 (s - 1)).toNat%340282366920938463463374607431768211456)) (wLo (jc 0 1*jk (wr .i64 (s - 1)).toNat%340282366920938463463374607431768211456)))%340282366920938463463374607431768211456)) (wLo ((jc (wHi (jh (jc x y))) (wLo (jh (jc x y)))+jc (wHi (jc 0 1*jk (wr .i64 (s - 1)).toNat%340282366920938463463374607431768211456)) (wLo (jc 0 1*jk (wr .i64 (s - 1)).toNat%340282366920938463463374607431768211456)))%340282366920938463463374607431768211456))/jk s.toNat)) (wLo (jc (wHi ((jc (wHi (jh (jc x y))) (wLo (jh (jc x y)))+jc (wHi (jc 0 1*jk (wr .i64 (s - 1)).toNat%340282366920938463463374607431768211456)) (wLo (jc 0 1*jk (wr .i64 (s - 1)).toNat%340282366920938463463374607431768211456)))%340282366920938463463374607431768211456)) (wLo ((jc (wHi (jh (jc x y))) (wLo (jh (jc x y)))+jc (wHi (jc 0 1*jk (wr .i64 (s - 1)).toNat%340282366920938463463374607431768211456)) (wLo (jc 0 1*jk (wr .i64 (s - 1)).toNat%340282366920938463463374607431768211456)))%340282366920938463463374607431768211456))/jk s.toNat))))=true then sgn (decide (jc x y<0)) (jc (wHi (jc (wHi ((jc (wHi (jh (jc x y))) (wLo (jh (jc x y)))+jc (wHi (jc 0 1*jk (wr .i64 (s - 1)).toNat%340282366920938463463374607431768211456)) (wLo (jc 0 1*jk (wr .i64 (s - 1)).toNat%340282366920938463463374607431768211456)))%340282366920938463463374607431768211456)) (wLo ((jc (wHi (jh (jc x y))) (wLo (jh (jc x y)))+jc (wHi (jc 0 1*jk (wr .i64 (s - 1)).toNat%340282366920938463463374607431768211456)) (wLo (jc 0 1*jk (wr .i64 (s - 1)).toNat%340282366920938463463374607431768211456)))%340282366920938463463374607431768211456))/jk s.toNat)) (wLo (jc (wHi ((jc (wHi (jh (jc x y))) (wLo (jh (jc x y)))+jc (wHi (jc 0 1*jk (wr .i64 (s - 1)).toNat%340282366920938463463374607431768211456)) (wLo (jc 0 1*jk (wr .i64 (s - 1)).toNat%340282366920938463463374607431768211456)))%340282366920938463463374607431768211456)) (wLo ((jc (wHi (jh (jc x y))) (wLo (jh (jc x y)))+jc (wHi (jc 0 1*jk (wr .i64 (s - 1)).toNat%340282366920938463463374607431768211456)) (wLo (jc 0 1*jk (wr .i64 (s - 1)).toNat%340282366920938463463374607431768211456)))%340282366920938463463374607431768211456))/jk s.toNat))) else 0)),V1.one (At.bool (isI (sgn (decide (jc x y<0)) (jc (wHi (jc (wHi ((jc (wHi (jh (jc x y))) (wLo (jh (jc x y)))+jc (wHi (jc 0 1*jk (wr .i64 (s - 1)).toNat%340282366920938463463374607431768211456)) (wLo (jc 0 1*jk (wr .i64 (s - 1)).toNat%340282366920938463463374607431768211456)))%340282366920938463463374607431768211456)) (wLo ((jc (wHi (jh (jc x y))) (wLo (jh (jc x y)))+jc (wHi (jc 0 1*jk (wr .i64 (s - 1)).toNat%340282366920938463463374607431768211456)) (wLo (jc 0 1*jk (wr .i64 (s - 1)).toNat%340282366920938463463374607431768211456)))%340282366920938463463374607431768211456))/jk s.toNat)) (wLo (jc (wHi ((jc (wHi (jh (jc x y))) (wLo (jh (jc x y)))+jc (wHi (jc 0 1*jk (wr .i64 (s - 1)).toNat%340282366920938463463374607431768211456)) (wLo (jc 0 1*jk (wr .i64 (s - 1)).toNat%340282366920938463463374607431768211456)))%340282366920938463463374607431768211456)) (wLo ((jc (wHi (jh (jc x y))) (wLo (jh (jc x y)))+jc (wHi (jc 0 1*jk (wr .i64 (s - 1)).toNat%340282366920938463463374607431768211456)) (wLo (jc 0 1*jk (wr .i64 (s - 1)).toNat%340282366920938463463374607431768211456)))%340282366920938463463374607431768211456))/jk s.toNat))))))],[(isU (wHi (jc (wHi ((jc (wHi (jh (jc x y))) (wLo (jh (jc x y)))+jc (wHi (jc 0 1*jk (wr .i64 (s - 1)).toNat%340282366920938463463374607431768211456)) (wLo (jc 0 1*jk (wr .i64 (s - 1)).toNat%340282366920938463463374607431768211456)))%340282366920938463463374607431768211456)) (wLo ((jc (wHi (jh (jc x y))) (wLo (jh (jc x y)))+jc (wHi (jc 0 1*jk (wr .i64 (s - 1)).toNat%340282366920938463463374607431768211456)) (wLo (jc 0 1*jk (wr .i64 (s - 1)).toNat%340282366920938463463374607431768211456)))%340282366920938463463374607431768211456))/jk s.toNat)),true),(isU (wLo (jc (wHi ((jc (wHi (jh (jc x y))) (wLo (jh (jc x y)))+jc (wHi (jc 0 1*jk (wr .i64 (s - 1)).toNat%340282366920938463463374607431768211456)) (wLo (jc 0 1*jk (wr .i64 (s - 1)).toNat%340282366920938463463374607431768211456)))%340282366920938463463374607431768211456)) (wLo ((jc (wHi (jh (jc x y))) (wLo (jh (jc x y)))+jc (wHi (jc 0 1*jk (wr .i64 (s - 1)).toNat%340282366920938463463374607431768211456)) (wLo (jc 0 1*jk (wr .i64 (s - 1)).toNat%340282366920938463463374607431768211456)))%340282366920938463463374607431768211456))/jk s.toNat)),true),(isU (wHi ((jc (wHi (jh (jc x y))) (wLo (jh (jc x y)))+jc (wHi (jc 0 1*jk (wr .i64 (s - 1)).toNat%340282366920938463463374607431768211456)) (wLo (jc 0 1*jk (wr .i64 (s - 1)).toNat%340282366920938463463374607431768211456)))%340282366920938463463374607431768211456)),true),(isU (wLo ((jc (wHi (jh (jc x y))) (wLo (jh (jc x y)))+jc (wHi (jc 0 1*jk (wr .i64 (s - 1)).toNat%340282366920938463463374607431768211456)) (wLo (jc 0 1*jk (wr .i64 (s - 1)).toNat%340282366920938463463374607431768211456)))%340282366920938463463374607431768211456)),true),(decide (0≤s)&&decide (s<128),true),(isU (wHi (jh (jc x y))),true),(isU (wLo (jh (jc x y))),true),(isU (wHi (jc 0 1*jk (wr .i64 (s - 1)).toNat%340282366920938463463374607431768211456)),true),(isU (wLo (jc 0 1*jk (wr .i64 (s - 1)).toNat%340282366920938463463374607431768211456)),true),(isU 0,true),(isU 1,true),(decide (0≤wr .i64 (s - 1))&&decide (wr .i64 (s - 1)<128),true),(isI x,true),(isU y,true)])
   else some (LV.tup [V1.one (At.int .i64 (if isI (sgn (decide (jc x y<0)) (jc (wHi (jc (wHi (jh (jc x y))) (wLo (jh (jc x y)))/jk s.toNat)) (wLo (jc (wHi (jh (jc x y))) (wLo (jh (jc x y)))/jk s.toNat))))=true then sgn (decide (jc x y<0)) (jc (wHi (jc (wHi (jh (jc x y))) (wLo (jh (jc x y)))/jk s.toNat)) (wLo (jc (wHi (jh (jc x y))) (wLo (jh (jc x y)))/jk s.toNat))) else 0)),V1.one (At.bool (isI (sgn (decide (jc x y<0)) (jc (wHi (jc (wHi (jh (jc x y))) (wLo (jh (jc x y)))/jk s.toNat)) (wLo (jc (wHi (jh (jc x y))) (wLo (jh (jc x y)))/jk s.toNat))))))],[(isU (wHi (jc (wHi (jh (jc x y))) (wLo (jh (jc x y)))/jk s.toNat)),true),(isU (wLo (jc (wHi (jh (jc x y))) (wLo (jh (jc x y)))/jk s.toNat)),true),(isU (wHi (jh (jc x y))),true),(isU (wLo (jh (jc x y))),true),(decide (0≤s)&&decide (s<128),true),(isI x,true),(isU y,true)])
def jg1:List LV→Option (LV×List (Bool×Bool))
 | [.v (.agg [.int .i64 x,.int .u64 y]),.v (.one (.int .i64 s))]=>Zd x y s
 | _=>none
theorem sumwround:SumOK Tryz.prog 68 (jq jg1):=by
 refine jC (z:=Zl) sound6 (jl sound6 Tryz.func68 (by kernel_rfl)) fun args v cs hF hc=> ?_
 unfold jg1 at hF
 split at hF
 ·rename_i x y s
  unfold Zd at hF
  rcases ji (decide (s<0)) with h0 | h0
  ·rw [jy h0] at hF
   cases hF
   exact ⟨2000,[some true,some true,some true,none],_,ji1 x y s,ja (h0) (ja (h0) (ja (h0) (jd)))⟩
  ·rw [jv h0] at hF
   rcases ji (decide (s>126)) with h1 | h1
   ·rw [jy h1] at hF
    cases hF
    exact ⟨2000,[some false,some false,some false,some true],_,ji2 x y s,ja (h1) (ja (h0) (ja (h0) (ja (h0) (jd))))⟩
   ·rw [jv h1] at hF
    rcases ji (decide (s>0)) with h2 | h2
    ·rw [jy h2] at hF
     cases hF
     exact ⟨2000,[some false,some false,some false,some false,some true],_,ji3 x y s,ja (jt (hc)) (ja (jt (jg (hc))) (ja (jt (jg (jg (hc)))) (ja (jt (jg (jg (jg (hc))))) (ja (jt (jg (jg (jg (jg (hc)))))) (ja (jt (jg (jg (jg (jg (jg (hc))))))) (ja (jt (jg (jg (jg (jg (jg (jg (hc)))))))) (ja (jt (jg (jg (jg (jg (jg (jg (jg (hc))))))))) (ja (jt (jg (jg (jg (jg (jg (jg (jg (jg (hc)))))))))) (ja (jt (jg (jg (jg (jg (jg (jg (jg (jg (jg (hc))))))))))) (ja (jt (jg (jg (jg (jg (jg (jg (jg (jg (jg (jg (hc)))))))))))) (ja (jt (jg (jg (jg (jg (jg (jg (jg (jg (jg (jg (jg (hc))))))))))))) (ja (h2) (ja (jt (jg (jg (jg (jg (jg (jg (jg (jg (jg (jg (jg (jg (hc)))))))))))))) (ja (jt (jg (jg (jg (jg (jg (jg (jg (jg (jg (jg (jg (jg (jg (hc))))))))))))))) (ja (h1) (ja (h0) (ja (h0) (ja (h0) (jd)))))))))))))))))))⟩
    ·rw [jv h2] at hF
     cases hF
     exact ⟨2000,[some false,some false,some false,some false,some false],_,ji4 x y s,ja (jt (hc)) (ja (jt (jg (hc))) (ja (jt (jg (jg (hc)))) (ja (jt (jg (jg (jg (hc))))) (ja (jt (jg (jg (jg (jg (hc)))))) (ja (h2) (ja (jt (jg (jg (jg (jg (jg (hc))))))) (ja (jt (jg (jg (jg (jg (jg (jg (hc)))))))) (ja (h1) (ja (h0) (ja (h0) (ja (h0) (jd))))))))))))⟩
 ·cases hF
theorem ji5 (a s:Int):(jG Tryz.prog S6 Zl 2000 79 [.v (.one (.int .i64 a)),.v (.one (.int .i64 s))] [] 0 [some true,some true,some true,none]).map (fun r=>(r.1,r.2.2.2))=some (LV.tup [V1.agg [At.int .i64 0,At.int IntKind.u64 0],V1.one (At.bool false)],[(decide (s<0),true),(decide (s<0),true),(decide (s<0),true)]):=by kernel_rfl
theorem ji6 (a s:Int):(jG Tryz.prog S6 Zl 2000 79 [.v (.one (.int .i64 a)),.v (.one (.int .i64 s))] [] 0 [some false,some false,some false,some true]).map (fun r=>(r.1,r.2.2.2))=some (LV.tup [V1.agg [At.int .i64 0,At.int IntKind.u64 0],V1.one (At.bool false)],[(decide (s>127),true),(decide (s<0),false),(decide (s<0),false),(decide (s<0),false)]):=by kernel_rfl
theorem ji7 (a s:Int):(jG Tryz.prog S6 Zl 2000 79 [.v (.one (.int .i64 a)),.v (.one (.int .i64 s))] [] 0 [some false,some false,some false,some false,some true]).map (fun r=>(r.1,r.2.2.2))=some (LV.tup [V1.agg [At.int .i64 0,At.int IntKind.u64 0],V1.one (At.bool false)],[(!(wHi (jc (wHi (jc 0 (jh a)*jk s.toNat%340282366920938463463374607431768211456)) (wLo (jc 0 (jh a)*jk s.toNat%340282366920938463463374607431768211456))/jk s.toNat)==0&&(wLo (jc (wHi (jc 0 (jh a)*jk s.toNat%340282366920938463463374607431768211456)) (wLo (jc 0 (jh a)*jk s.toNat%340282366920938463463374607431768211456))/jk s.toNat)==jh a&&true)),true),(isU (wHi (jc 0 (jh a)*jk s.toNat%340282366920938463463374607431768211456)),true),(isU (wLo (jc 0 (jh a)*jk s.toNat%340282366920938463463374607431768211456)),true),(decide (0≤s)&&decide (s<128),true),(isU 0,true),(isU (jh a),true),(decide (0≤s)&&decide (s<128),true),(isI a,true),(decide (s>127),false),(decide (s<0),false),(decide (s<0),false),(decide (s<0),false)]):=by kernel_rfl
theorem ji8 (a s:Int):(jG Tryz.prog S6 Zl 2000 79 [.v (.one (.int .i64 a)),.v (.one (.int .i64 s))] [] 0 [some false,some false,some false,some false,some false,some true]).map (fun r=>(r.1,r.2.2.2))=some (LV.tup [V1.agg [At.int .i64 0,At.int IntKind.u64 0],V1.one (At.bool false)],[(!isW (sgn (decide (a<0)) (jc (wHi (jc 0 (jh a)*jk s.toNat%340282366920938463463374607431768211456)) (wLo (jc 0 (jh a)*jk s.toNat%340282366920938463463374607431768211456)))),true),(isU (wHi (jc 0 (jh a)*jk s.toNat%340282366920938463463374607431768211456)),true),(isU (wLo (jc 0 (jh a)*jk s.toNat%340282366920938463463374607431768211456)),true),(!(wHi (jc (wHi (jc 0 (jh a)*jk s.toNat%340282366920938463463374607431768211456)) (wLo (jc 0 (jh a)*jk s.toNat%340282366920938463463374607431768211456))/jk s.toNat)==0&&(wLo (jc (wHi (jc 0 (jh a)*jk s.toNat%340282366920938463463374607431768211456)) (wLo (jc 0 (jh a)*jk s.toNat%340282366920938463463374607431768211456))/jk s.toNat)==jh a&&true)),false),(isU (wHi (jc 0 (jh a)*jk s.toNat%340282366920938463463374607431768211456)),true),(isU (wLo (jc 0 (jh a)*jk s.toNat%340282366920938463463374607431768211456)),true),(decide (0≤s)&&decide (s<128),true),(isU 0,true),(isU (jh a),true),(decide (0≤s)&&decide (s<128),true),(isI a,true),(decide (s>127),false),(decide (s<0),false),(decide (s<0),false),(decide (s<0),false)]):=by kernel_rfl
theorem ji9 (a s:Int):(jG Tryz.prog S6 Zl 2000 79 [.v (.one (.int .i64 a)),.v (.one (.int .i64 s))] [] 0 [some false,some false,some false,some false,some false,some false]).map (fun r=>(r.1,r.2.2.2))=some (LV.tup [V1.agg [At.int .i64 (w64 (wHi (sgn (decide (a<0)) (jc (wHi (jc 0 (jh a)*jk s.toNat%340282366920938463463374607431768211456)) (wLo (jc 0 (jh a)*jk s.toNat%340282366920938463463374607431768211456)))))),At.int IntKind.u64 (wLo (sgn (decide (a<0)) (jc (wHi (jc 0 (jh a)*jk s.toNat%340282366920938463463374607431768211456)) (wLo (jc 0 (jh a)*jk s.toNat%340282366920938463463374607431768211456)))))],V1.one (At.bool true)],[(!isW (sgn (decide (a<0)) (jc (wHi (jc 0 (jh a)*jk s.toNat%340282366920938463463374607431768211456)) (wLo (jc 0 (jh a)*jk s.toNat%340282366920938463463374607431768211456)))),false),(isU (wHi (jc 0 (jh a)*jk s.toNat%340282366920938463463374607431768211456)),true),(isU (wLo (jc 0 (jh a)*jk s.toNat%340282366920938463463374607431768211456)),true),(!(wHi (jc (wHi (jc 0 (jh a)*jk s.toNat%340282366920938463463374607431768211456)) (wLo (jc 0 (jh a)*jk s.toNat%340282366920938463463374607431768211456))/jk s.toNat)==0&&(wLo (jc (wHi (jc 0 (jh a)*jk s.toNat%340282366920938463463374607431768211456)) (wLo (jc 0 (jh a)*jk s.toNat%340282366920938463463374607431768211456))/jk s.toNat)==jh a&&true)),false),(isU (wHi (jc 0 (jh a)*jk s.toNat%340282366920938463463374607431768211456)),true),(isU (wLo (jc 0 (jh a)*jk s.toNat%340282366920938463463374607431768211456)),true),(decide (0≤s)&&decide (s<128),true),(isU 0,true),(isU (jh a),true),(decide (0≤s)&&decide (s<128),true),(isI a,true),(decide (s>127),false),(decide (s<0),false),(decide (s<0),false),(decide (s<0),false)]):=by kernel_rfl
def Ze (a s:Int):Option (LV×List (Bool×Bool)):=
 bif (decide (s<0)) then some (LV.tup [V1.agg [At.int .i64 0,At.int IntKind.u64 0],V1.one (At.bool false)],[])
 else
  bif (decide (s>127)) then some (LV.tup [V1.agg [At.int .i64 0,At.int IntKind.u64 0],V1.one (At.bool false)],[])
  else
   bif (!(wHi (jc (wHi (jc 0 (jh a)*jk s.toNat%340282366920938463463374607431768211456)) (wLo (jc 0 (jh a)*jk s.toNat%340282366920938463463374607431768211456))/jk s.toNat)==0&&(wLo (jc (wHi (jc 0 (jh a)*jk s.toNat%340282366920938463463374607431768211456)) (wLo (jc 0 (jh a)*jk s.toNat%340282366920938463463374607431768211456))/jk s.toNat)==jh a&&true))) then some (LV.tup [V1.agg [At.int .i64 0,At.int IntKind.u64 0],V1.one (At.bool false)],[(isU (wHi (jc 0 (jh a)*jk s.toNat%340282366920938463463374607431768211456)),true),(isU (wLo (jc 0 (jh a)*jk s.toNat%340282366920938463463374607431768211456)),true),(decide (0≤s)&&decide (s<128),true),(isU 0,true),(isU (jh a),true),(isI a,true)])
   else
    bif (!isW (sgn (decide (a<0)) (jc (wHi (jc 0 (jh a)*jk s.toNat%340282366920938463463374607431768211456)) (wLo (jc 0 (jh a)*jk s.toNat%340282366920938463463374607431768211456))))) then some (LV.tup [V1.agg [At.int .i64 0,At.int IntKind.u64 0],V1.one (At.bool false)],[(isU (wHi (jc 0 (jh a)*jk s.toNat%340282366920938463463374607431768211456)),true),(isU (wLo (jc 0 (jh a)*jk s.toNat%340282366920938463463374607431768211456)),true),(decide (0≤s)&&decide (s<128),true),(isU 0,true),(isU (jh a),true),(isI a,true)])
    else some (LV.tup [V1.agg [At.int .i64 (w64 (wHi (sgn (decide (a<0)) (jc (wHi (jc 0 (jh a)*jk s.toNat%340282366920938463463374607431768211456)) (wLo (jc 0 (jh a)*jk s.toNat%340282366920938463463374607431768211456)))))),At.int IntKind.u64 (wLo (sgn (decide (a<0)) (jc (wHi (jc 0 (jh a)*jk s.toNat%340282366920938463463374607431768211456)) (wLo (jc 0 (jh a)*jk s.toNat%340282366920938463463374607431768211456)))))],V1.one (At.bool true)],[(isU (wHi (jc 0 (jh a)*jk s.toNat%340282366920938463463374607431768211456)),true),(isU (wLo (jc 0 (jh a)*jk s.toNat%340282366920938463463374607431768211456)),true),(decide (0≤s)&&decide (s<128),true),(isU 0,true),(isU (jh a),true),(isI a,true)])
def jg2:List LV→Option (LV×List (Bool×Bool))
 | [.v (.one (.int .i64 a)),.v (.one (.int .i64 s))]=>Ze a s
 | _=>none
theorem sumwshift:SumOK Tryz.prog 79 (jq jg2):=by
 refine jC (z:=Zl) sound6 (jl sound6 Tryz.func79 (by kernel_rfl)) fun args v cs hF hc=> ?_
 unfold jg2 at hF
 split at hF
 ·rename_i a s
  unfold Ze at hF
  rcases ji (decide (s<0)) with h0 | h0
  ·rw [jy h0] at hF
   cases hF
   exact ⟨2000,[some true,some true,some true,none],_,ji5 a s,ja (h0) (ja (h0) (ja (h0) (jd)))⟩
  ·rw [jv h0] at hF
   rcases ji (decide (s>127)) with h1 | h1
   ·rw [jy h1] at hF
    cases hF
    exact ⟨2000,[some false,some false,some false,some true],_,ji6 a s,ja (h1) (ja (h0) (ja (h0) (ja (h0) (jd))))⟩
   ·rw [jv h1] at hF
    rcases ji (!(wHi (jc (wHi (jc 0 (jh a)*jk s.toNat%340282366920938463463374607431768211456)) (wLo (jc 0 (jh a)*jk s.toNat%340282366920938463463374607431768211456))/jk s.toNat)==0&&(wLo (jc (wHi (jc 0 (jh a)*jk s.toNat%340282366920938463463374607431768211456)) (wLo (jc 0 (jh a)*jk s.toNat%340282366920938463463374607431768211456))/jk s.toNat)==jh a&&true))) with h2 | h2
    ·rw [jy h2] at hF
     cases hF
     exact ⟨2000,[some false,some false,some false,some false,some true],_,ji7 a s,ja (h2) (ja (jt (hc)) (ja (jt (jg (hc))) (ja (jt (jg (jg (hc)))) (ja (jt (jg (jg (jg (hc))))) (ja (jt (jg (jg (jg (jg (hc)))))) (ja (jt (jg (jg (hc)))) (ja (jt (jg (jg (jg (jg (jg (hc))))))) (ja (h1) (ja (h0) (ja (h0) (ja (h0) (jd))))))))))))⟩
    ·rw [jv h2] at hF
     rcases ji (!isW (sgn (decide (a<0)) (jc (wHi (jc 0 (jh a)*jk s.toNat%340282366920938463463374607431768211456)) (wLo (jc 0 (jh a)*jk s.toNat%340282366920938463463374607431768211456))))) with h3 | h3
     ·rw [jy h3] at hF
      cases hF
      exact ⟨2000,[some false,some false,some false,some false,some false,some true],_,ji8 a s,ja (h3) (ja (jt (hc)) (ja (jt (jg (hc))) (ja (h2) (ja (jt (hc)) (ja (jt (jg (hc))) (ja (jt (jg (jg (hc)))) (ja (jt (jg (jg (jg (hc))))) (ja (jt (jg (jg (jg (jg (hc)))))) (ja (jt (jg (jg (hc)))) (ja (jt (jg (jg (jg (jg (jg (hc))))))) (ja (h1) (ja (h0) (ja (h0) (ja (h0) (jd)))))))))))))))⟩
     ·rw [jv h3] at hF
      cases hF
      exact ⟨2000,[some false,some false,some false,some false,some false,some false],_,ji9 a s,ja (h3) (ja (jt (hc)) (ja (jt (jg (hc))) (ja (h2) (ja (jt (hc)) (ja (jt (jg (hc))) (ja (jt (jg (jg (hc)))) (ja (jt (jg (jg (jg (hc))))) (ja (jt (jg (jg (jg (jg (hc)))))) (ja (jt (jg (jg (hc)))) (ja (jt (jg (jg (jg (jg (jg (hc))))))) (ja (h1) (ja (h0) (ja (h0) (ja (h0) (jd)))))))))))))))⟩
 ·cases hF
end Go.Proofs.YtbpfipbhaagllaaGreat

/- wide: what Mul, Round, Shift come to, in numbers. -/
namespace Go.Proofs.YtbpfipbhaagllaaGreat
open Go.Lr
theorem jrh {a:Int} (h0: -9223372036854775808≤a) (h1:a<9223372036854775808):jh a≤9223372036854775808:=by unfold jh;split <;> omega
theorem Yb (v:Int):isU (wLo v)=true:=isU_iff.2 (qk v)
theorem jg3 {v:Int} (h0: -170141183460469231731687303715884105728≤v) (h1:v<170141183460469231731687303715884105728):w64 (wHi v)=wHi v:=q9 (kL v h0 h1).1 (kL v h0 h1).2
def juz:List LV→Option (LV×List (Bool×Bool))
 | [.v (.one (.int .i64 a)),.v (.one (.int .i64 b))]=>some (.v (W1 (a*b)),[(isI a,true),(isI b,true)])
 | _=>none
theorem jqt:SumOK Tryz.prog 66 (jq juz):=by
 refine sumwmul.pure_re fun args v cs hF hc=> ?_
 unfold juz at hF
 split at hF
 ·rename_i a b
  cases hF
  simp only [jM,isI_iff] at hc
  obtain ⟨⟨ha0,ha1⟩,⟨hb0,hb1⟩,-⟩:=hc
  have pa:=jrh ha0 ha1
  have pb:=jrh hb0 hb1
  obtain ⟨q0,q1⟩:=YI pa pb
  have na:=xt a
  have nb:=xt b
  have n0:=Int.mul_nonneg na nb
  have n1:jh a*jh b≤9223372036854775808*9223372036854775808:=Int.mul_le_mul pa pb nb (by omega)
  have e:jc (jh a*jh b/18446744073709551616) (jh a*jh b%18446744073709551616)=jh a*jh b:=jJ _
  refine ⟨_,jkb (a:=w64 _) _ ?_ ?_, ?_⟩
  ·rw [e,jfW,jg3 (by omega) (by omega)]
  ·rw [e,jfW]
  ·simp only [jM,isU_iff,isI_iff]
   refine ⟨⟨?_, ?_⟩,⟨?_, ?_⟩,⟨?_, ?_⟩,⟨?_, ?_⟩,⟨?_, ?_⟩,⟨?_, ?_⟩,jd⟩ <;> omega
 ·cases hF
theorem jja (s:Nat):0≤jif s∧jif s≤jk s:=by
 cases s with
 | zero=>exact ⟨by decide,by decide⟩
 | succ n=>have:=j4 n;have:=QE n;exact ⟨by show 0≤jk n;omega,by show jk n≤jk (n+1);omega⟩
def jg4:List LV→Option (LV×List (Bool×Bool))
 | [.v (.agg [.int .i64 x,.int .u64 y]),.v (.one (.int .i64 s))]=>
  some (.tup [.one (.int .i64 (if isI (kZ (jc x y) s.toNat)=true then kZ (jc x y) s.toNat else 0)),.one (.bool (isI (kZ (jc x y) s.toNat)))],[(isI x,true),(isU y,true),(decide (0≤s)&&decide (s≤126),true)])
 | _=>none
theorem jjb:SumOK Tryz.prog 68 (jq jg4):=by
 refine sumwround.pure_re fun args v cs hF hc=> ?_
 unfold jg4 at hF
 split at hF
 ·rename_i x y s
  cases hF
  simp only [jM,isI_iff,isU_iff,Bool.and_eq_true,decide_eq_true_eq] at hc
  obtain ⟨⟨hx0,hx1⟩,⟨hy0,hy1⟩,⟨hs0,hs1⟩,-⟩:=hc
  show ∃cs',Zd x y s=_∧_
  have hv0: -170141183460469231731687303715884105728≤jc x y:=by unfold jc;omega
  have hv1:jc x y<170141183460469231731687303715884105728:=by unfold jc;omega
  generalize hv:jc x y=v at *
  have va:jh v≤170141183460469231731687303715884105728:=by unfold jh;split <;> omega
  have va0:=xt v
  unfold Zd
  rw [jv (decide_eq_false (by omega)),jv (decide_eq_false (by omega))]
  simp only [jJ,hv]
  have e01:jc 0 1=1:=rfl
  have hp:=j4 s.toNat
  by_cases h:s>0
  ·have hw:wr .i64 (s - 1)=s - 1:=jgZ (by omega) (by omega)
   have hn:s.toNat=(s - 1).toNat+1:=by omega
   have hp1:=j4 (s - 1).toNat
   have hp2:jk (s - 1).toNat≤85070591730234615865843651857942052864:=jbm (n:=126) _ (by omega) (by decide)
   have e1:1*jk (s - 1).toNat%340282366920938463463374607431768211456=jk (s - 1).toNat:=by rw [Int.one_mul];omega
   have e2:(jh v+jk (s - 1).toNat)%340282366920938463463374607431768211456=jh v+jk (s - 1).toNat:=by omega
   have q0:0≤(jh v+jk (s - 1).toNat)/jk s.toNat:=Int.ediv_nonneg (by omega) (by omega)
   have q1:(jh v+jk (s - 1).toNat)/jk s.toNat≤jh v+jk (s - 1).toNat:=Int.ediv_le_self _ (by omega)
   have er:kZ v s.toNat=sgn (decide (v<0)) ((jh v+jk (s - 1).toNat)/jk s.toNat):=by
    unfold kZ;congr 2;rw [hn];rfl
   rw [jy (decide_eq_true h)]
   simp only [hw,e01,e1,e2,←er]
   refine ⟨_,rfl, ?_⟩
   simp only [jM,isU_iff,isI_iff,Bool.and_eq_true,decide_eq_true_eq]
   repeat' apply And.intro
   all_goals first | exact jd | (unfold wHi;omega) | (unfold wLo;omega) | omega
  ·have hs:s=0:=by omega
   subst hs
   have e1:jk (Int.toNat 0)=1:=rfl
   have er:kZ v (Int.toNat 0)=sgn (decide (v<0)) (jh v/jk (Int.toNat 0)):=by
    unfold kZ;congr 2;show jh v+0=_;omega
   rw [jv (decide_eq_false h)]
   simp only [←er]
   refine ⟨_,rfl, ?_⟩
   simp only [jM,isU_iff,isI_iff,Bool.and_eq_true,decide_eq_true_eq,e1,Int.ediv_one]
   repeat' apply And.intro
   all_goals first | exact jd | (unfold wHi;omega) | (unfold wLo;omega) | omega
 ·cases hF
def jg5:List LV→Option (LV×List (Bool×Bool))
 | [.v (.one (.int .i64 a)),.v (.one (.int .i64 s))]=>
  some (.tup [W1 (a*jk s.toNat),.one (.bool true)],[(isI a,true),(decide (0≤s)&&decide (s≤127),true),(decide (jh a*jk s.toNat<170141183460469231731687303715884105728),true)])
 | _=>none
theorem jjc:SumOK Tryz.prog 79 (jq jg5):=by
 refine sumwshift.pure_re fun args v cs hF hc=> ?_
 unfold jg5 at hF
 split at hF
 ·rename_i a s
  cases hF
  simp only [jM,isI_iff,isU_iff,Bool.and_eq_true,decide_eq_true_eq] at hc
  obtain ⟨⟨ha0,ha1⟩,⟨hs0,hs1⟩,hb,-⟩:=hc
  show ∃cs',Ze a s=_∧_
  have pa:=jrh ha0 ha1
  have na:=xt a
  have hp:=j4 s.toNat
  have n0:0≤jh a*jk s.toNat:=Int.mul_nonneg na (by omega)
  have e0:jc 0 (jh a)=jh a:=by unfold jc;omega
  have e1:jh a*jk s.toNat%340282366920938463463374607431768211456=jh a*jk s.toNat:=by omega
  have e2:jh a*jk s.toNat/jk s.toNat=jh a:=Int.mul_ediv_cancel _ (by omega)
  have e3:sgn (decide (a<0)) (jh a*jk s.toNat)=a*jk s.toNat:=by
   by_cases h:a<0
   ·unfold sgn jh;simp [h]
    grind
   ·unfold sgn jh;simp [h]
  have e4:wHi (jh a)=0:=by unfold wHi;omega
  have e5:wLo (jh a)=jh a:=by unfold wLo;omega
  have hR: -170141183460469231731687303715884105728≤a*jk s.toNat∧a*jk s.toNat<170141183460469231731687303715884105728:=by
   have h4:jh (a*jk s.toNat)=jh a*jk s.toNat:=by rw [YH,zD (a:=jk s.toNat) (by omega)]
   have h5:jh (a*jk s.toNat)<170141183460469231731687303715884105728:=by rw [h4];exact hb
   generalize a*jk s.toNat=t at h5 ⊢
   unfold jh at h5
   split at h5 <;> omega
  unfold Ze
  rw [jv (decide_eq_false (by omega)),jv (decide_eq_false (by omega))]
  simp only [jJ,e0,e1,e2,e3,e4,e5]
  rw [jv (by simp),jv (by rw [isW_iff.2 ⟨hR.1,hR.2⟩];rfl)]
  refine ⟨_,jgX _ (jg3 hR.1 hR.2) rfl rfl, ?_⟩
  simp only [jM,isU_iff,isI_iff,Bool.and_eq_true,decide_eq_true_eq]
  repeat' apply And.intro
  all_goals first | exact jd | (unfold wHi;omega) | (unfold wLo;omega) | omega
 ·cases hF
end Go.Proofs.YtbpfipbhaagllaaGreat

/- math/bits.Len64 and LeadingZeros64: what they come to. -/
namespace Go.Proofs.YtbpfipbhaagllaaGreat
open Go.Lr
theorem zP:∀(f x:Nat),0<x→x<2 ^ f→1≤Lib.bitLenAux f x∧Lib.bitLenAux f x≤f∧2 ^ (Lib.bitLenAux f x - 1)≤x∧x<2 ^ Lib.bitLenAux f x
 | 0,x,h0,h1=>by simp at h1;omega
 | f+1,x,h0,h1=>by
  simp only [Lib.bitLenAux]
  rw [if_neg (by omega)]
  by_cases h:x/2=0
  ·have:x=1:=by omega
   subst this
   have:Lib.bitLenAux f (1/2)=0:=by cases f <;> simp [Lib.bitLenAux]
   rw [this]
   exact ⟨by omega,by omega,by decide,by decide⟩
  ·obtain ⟨a,b,c,d⟩:=zP f (x/2) (by omega) (by rw [Nat.pow_succ] at h1;omega)
   generalize Lib.bitLenAux f (x/2)=n at *
   refine ⟨by omega,by omega, ?_, ?_⟩
   ·have e:1+n - 1=(n - 1)+1:=by omega
    rw [e,Nat.pow_succ];omega
   ·have e:1+n=n+1:=by omega
    rw [e,Nat.pow_succ];omega
theorem jbg (x:Nat) (h0:0<x) (h1:x<2 ^ 64):1≤Lib.bitLen x∧Lib.bitLen x≤64∧2 ^ (Lib.bitLen x - 1)≤x∧x<2 ^ Lib.bitLen x:=zP 64 x h0 h1
def jfE:List LV→Option (LV×List (Bool×Bool))
 | [.v (.one (.int .u64 x))]=>some (.v (.one (.int .i64 (Lib.bitLen x.toNat))),[(isU x,true)])
 | _=>none
theorem jh3:SumOK Tryz.prog 224 (jq jfE):=by
 refine xi fun args v cs hF hc w=> ?_
 unfold jfE at hF
 split at hF
 ·rename_i x
  cases hF
  obtain ⟨h0,h1⟩:=isU_iff.1 (hc (isU x,true) (by simp))
  refine kN (jl sound0 Tryz.func224 (by kernel_rfl)) ((jli x w h0 (by omega)).mono fun e w' he=>⟨he.1, ?_⟩)
  rw [he.2];exact .refl _ _
 ·cases hF
def S7:FuncId→Option SumK:=more (more (more (more S6 224 (jq jfE)) 66 (jq juz)) 68 (jq jg4)) 79 (jq jg5)
theorem sound7:Sound Tryz.prog S7:=(((sound6.more jh3).more jqt).more jjb).more jjc
def lzV (x:Int):Int:=64 - (Lib.bitLen x.toNat:Int)
def lzS:List LV→Option (LV×List (Bool×Bool))
 | [.v (.one (.int .u64 x))]=>some (.v (.one (.int .i64 (lzV x))),[(isU x,true),(decide (0<x),true)])
 | _=>none
theorem jsW (x:Int):(jG Tryz.prog S7 Zl 200 215 [.v (.one (.int .u64 x))] [] 0 []).map (fun r=>(r.1,r.2.2.2))=some (.v (.one (.int .i64 (wr .i64 (64 - (Lib.bitLen x.toNat:Int))))),[(isU x,true)]):=by kernel_rfl
theorem jcJ {x:Int} (h0:0<x) (h1:x<18446744073709551616):0≤lzV x∧lzV x≤63∧9223372036854775808≤x*jk (lzV x).toNat∧x*jk (lzV x).toNat<18446744073709551616:=by
 obtain ⟨a,b,c,d⟩:=jbg x.toNat (by omega) (by omega)
 unfold lzV
 generalize Lib.bitLen x.toNat=n at *
 have e:(64 - (n:Int)).toNat=64 - n:=by omega
 rw [e]
 refine ⟨by omega,by omega, ?_, ?_⟩
 ·have h2:jk (n - 1)*jk (64 - n)=9223372036854775808:=by
   rw [←qT,show n - 1+(64 - n)=63 by omega];decide
  have h3:jk (n - 1)≤x:=by
   have:((2 ^ (n - 1):Nat):Int)≤(x.toNat:Int):=Int.ofNat_le.2 c
   have e2:jk (n - 1)=((2 ^ (n - 1):Nat):Int):=rfl
   omega
  calc (9223372036854775808:Int)=jk (n - 1)*jk (64 - n):=h2.symm
   _≤x*jk (64 - n):=Int.mul_le_mul_of_nonneg_right h3 (Int.le_of_lt (j4 _))
 ·have h2:jk n*jk (64 - n)=18446744073709551616:=by
   rw [←qT,show n+(64 - n)=64 by omega];decide
  have h3:x<jk n:=by
   have:(x.toNat:Int)<((2 ^ n:Nat):Int):=Int.ofNat_lt.2 d
   have e2:jk n=((2 ^ n:Nat):Int):=rfl
   omega
  calc x*jk (64 - n)<jk n*jk (64 - n):=Int.mul_lt_mul_of_pos_right h3 (j4 _)
   _=18446744073709551616:=h2
theorem jsX:SumOK Tryz.prog 215 (jq lzS):=by
 refine jC (z:=Zl) sound7 (jl sound7 Tryz.func215 (by kernel_rfl)) fun args v cs hF hc=> ?_
 unfold lzS at hF
 split at hF
 ·rename_i x
  cases hF
  simp only [jM,isU_iff,decide_eq_true_eq] at hc
  obtain ⟨⟨h0,h1⟩,h2,-⟩:=hc
  have h:=jsW x
  obtain ⟨a,b,_,_⟩:=jcJ h2 h1
  have e:wr .i64 (64 - (Lib.bitLen x.toNat:Int))=lzV x:=jgZ (by unfold lzV at a;omega) (by unfold lzV at b;omega)
  rw [e] at h
  exact ⟨200,[],_,h,by simp only [jM,isU_iff];exact ⟨⟨h0,h1⟩,jd⟩⟩
 ·cases hF
def S8:FuncId→Option SumK:=more S7 215 (jq lzS)
theorem sound8:Sound Tryz.prog S8:=sound7.more jsX
end Go.Proofs.YtbpfipbhaagllaaGreat

/- wide.Root: its walk, round by round. -/
namespace Go.Proofs.YtbpfipbhaagllaaGreat
open Go.Lr
theorem jtB (dead:Nat→Value) (x y:Int):ju [4,5] [1,2] (xg Tryz.prog S8 Zl 200 (kJ 3 (jj Tryz.prog 138)) (Kst.st ⟨jS 0 [.v (.agg [.int .i64 x,.int .u64 y])],[],0⟩ 51 dead [some false]))=some (Ex.normal,[LV.v (V1.one (At.ptr 1 0)),LV.v (V1.one (At.ptr 2 0))],[some { ty:=240,fr:=(0,0),es:=0,cells:=[At.int IntKind.u64 (wr IntKind.u64 x),At.int IntKind.u64 y] },some { ty:=240,fr:=(0,0),es:=0,cells:=[At.int IntKind.u64 0,At.int IntKind.u64 0] }],[(decide (x<0),false)]):=by kernel_rfl
theorem jpE (dead:Nat→Value) (x y:Int):ju [2,3] [] (exec Tryz.prog S8 Zl 200 (.code (jj Tryz.prog 138)) (Kst.st ⟨jS 0 [.v (.agg [.int .i64 x,.int .u64 y])],[],0⟩ 51 dead [some true]))=some (Ex.ret,[LV.v (V1.one (At.int .i64 0)),LV.v (V1.one (At.bool false))],[],[(decide (x<0),true)]):=by kernel_rfl
theorem jtC (dead:Nat→Value) (p q x y:Int):ju [4,5,6] [1,2] (exec Tryz.prog S8 Zl 200 (.code (c1 (c1 (qg 3 (jj Tryz.prog 138))))) (Kst.st ⟨[(4,.v (.one (.ptr 1 0))),(5,.v (.one (.ptr 2 0)))],[(1,⟨240,(0,0),0,[.int .u64 p,.int .u64 q]⟩),(2,⟨240,(0,0),0,[.int .u64 x,.int .u64 y]⟩)],3⟩ 51 dead []))=some (Ex.normal,[LV.v (V1.one (At.ptr 1 0)),LV.v (V1.one (At.ptr 2 0)),LV.v (V1.one (At.int .i64 126))],[some { ty:=240,fr:=(0,0),es:=0,cells:=[At.int IntKind.u64 p,At.int IntKind.u64 q] },some { ty:=240,fr:=(0,0),es:=0,cells:=[At.int IntKind.u64 x,At.int IntKind.u64 y] }],[]):=by kernel_rfl
theorem jtD (dead:Nat→Value) (t p q x y:Int):ju [4,5] [1,2] (exec Tryz.prog S8 Zl 200 (.code (c1 (c1 (c2 (c1 (qg 3 (jj Tryz.prog 138))))))) (Kst.st ⟨[(4,.v (.one (.ptr 1 0))),(5,.v (.one (.ptr 2 0))),(6,.v (.one (.int .i64 t)))],[(1,⟨240,(0,0),0,[.int .u64 p,.int .u64 q]⟩),(2,⟨240,(0,0),0,[.int .u64 x,.int .u64 y]⟩)],3⟩ 51 dead [some false]))=some (Ex.exit 0,[LV.v (V1.one (At.ptr 1 0)),LV.v (V1.one (At.ptr 2 0))],[some { ty:=240,fr:=(0,0),es:=0,cells:=[At.int IntKind.u64 p,At.int IntKind.u64 q] },some { ty:=240,fr:=(0,0),es:=0,cells:=[At.int IntKind.u64 x,At.int IntKind.u64 y] }],[(decide (t≥0),false)]):=by kernel_rfl
theorem jtE (dead:Nat→Value) (t p q x y:Int):ju [4,5,6] [1,2] (exec Tryz.prog S8 Zl 200 (.code (c1 (c1 (c2 (c1 (qg 3 (jj Tryz.prog 138))))))) (Kst.st ⟨[(4,.v (.one (.ptr 1 0))),(5,.v (.one (.ptr 2 0))),(6,.v (.one (.int .i64 t)))],[(1,⟨240,(0,0),0,[.int .u64 p,.int .u64 q]⟩),(2,⟨240,(0,0),0,[.int .u64 x,.int .u64 y]⟩)],3⟩ 51 dead [some true,some true]))=some (Ex.normal,[LV.v (V1.one (At.ptr 1 0)),LV.v (V1.one (At.ptr 2 0)),LV.v (V1.one (At.int .i64 (wr .i64 (t - 2))))],[some { ty:=240,fr:=(0,0),es:=0,cells:=[At.int IntKind.u64 (wHi ((jc p q - jc (wHi ((jc x y+jc (wHi (jc 0 1*jk t.toNat%340282366920938463463374607431768211456)) (wLo (jc 0 1*jk t.toNat%340282366920938463463374607431768211456)))%340282366920938463463374607431768211456)) (wLo ((jc x y+jc (wHi (jc 0 1*jk t.toNat%340282366920938463463374607431768211456)) (wLo (jc 0 1*jk t.toNat%340282366920938463463374607431768211456)))%340282366920938463463374607431768211456)))%340282366920938463463374607431768211456)),At.int IntKind.u64 (wLo ((jc p q - jc (wHi ((jc x y+jc (wHi (jc 0 1*jk t.toNat%340282366920938463463374607431768211456)) (wLo (jc 0 1*jk t.toNat%340282366920938463463374607431768211456)))%340282366920938463463374607431768211456)) (wLo ((jc x y+jc (wHi (jc 0 1*jk t.toNat%340282366920938463463374607431768211456)) (wLo (jc 0 1*jk t.toNat%340282366920938463463374607431768211456)))%340282366920938463463374607431768211456)))%340282366920938463463374607431768211456))] },some { ty:=240,fr:=(0,0),es:=0,cells:=[At.int IntKind.u64 (wHi ((jc (wHi (jc x y/jk (Int.toNat 1))) (wLo (jc x y/jk (Int.toNat 1)))+jc (wHi (jc 0 1*jk t.toNat%340282366920938463463374607431768211456)) (wLo (jc 0 1*jk t.toNat%340282366920938463463374607431768211456)))%340282366920938463463374607431768211456)),At.int IntKind.u64 (wLo ((jc (wHi (jc x y/jk (Int.toNat 1))) (wLo (jc x y/jk (Int.toNat 1)))+jc (wHi (jc 0 1*jk t.toNat%340282366920938463463374607431768211456)) (wLo (jc 0 1*jk t.toNat%340282366920938463463374607431768211456)))%340282366920938463463374607431768211456))] }],[(isU (wHi (jc x y/jk (Int.toNat 1))),true),(isU (wLo (jc x y/jk (Int.toNat 1))),true),(isU (wHi (jc 0 1*jk t.toNat%340282366920938463463374607431768211456)),true),(isU (wLo (jc 0 1*jk t.toNat%340282366920938463463374607431768211456)),true),(isU p,true),(isU q,true),(isU (wHi ((jc x y+jc (wHi (jc 0 1*jk t.toNat%340282366920938463463374607431768211456)) (wLo (jc 0 1*jk t.toNat%340282366920938463463374607431768211456)))%340282366920938463463374607431768211456)),true),(isU (wLo ((jc x y+jc (wHi (jc 0 1*jk t.toNat%340282366920938463463374607431768211456)) (wLo (jc 0 1*jk t.toNat%340282366920938463463374607431768211456)))%340282366920938463463374607431768211456)),true),(!decide (jc p q<jc (wHi ((jc x y+jc (wHi (jc 0 1*jk t.toNat%340282366920938463463374607431768211456)) (wLo (jc 0 1*jk t.toNat%340282366920938463463374607431768211456)))%340282366920938463463374607431768211456)) (wLo ((jc x y+jc (wHi (jc 0 1*jk t.toNat%340282366920938463463374607431768211456)) (wLo (jc 0 1*jk t.toNat%340282366920938463463374607431768211456)))%340282366920938463463374607431768211456))),true),(isU q,true),(isU (wLo ((jc x y+jc (wHi (jc 0 1*jk t.toNat%340282366920938463463374607431768211456)) (wLo (jc 0 1*jk t.toNat%340282366920938463463374607431768211456)))%340282366920938463463374607431768211456)),true),(isU x,true),(isU y,true),(decide (0≤1)&&decide (1<128),true),(isU x,true),(isU y,true),(isU (wHi (jc 0 1*jk t.toNat%340282366920938463463374607431768211456)),true),(isU (wLo (jc 0 1*jk t.toNat%340282366920938463463374607431768211456)),true),(isU 0,true),(isU 1,true),(decide (0≤t)&&decide (t<128),true),(decide (t≥0),true)]):=by kernel_rfl
theorem jtF (dead:Nat→Value) (t p q x y:Int):ju [4,5,6] [1,2] (exec Tryz.prog S8 Zl 200 (.code (c1 (c1 (c2 (c1 (qg 3 (jj Tryz.prog 138))))))) (Kst.st ⟨[(4,.v (.one (.ptr 1 0))),(5,.v (.one (.ptr 2 0))),(6,.v (.one (.int .i64 t)))],[(1,⟨240,(0,0),0,[.int .u64 p,.int .u64 q]⟩),(2,⟨240,(0,0),0,[.int .u64 x,.int .u64 y]⟩)],3⟩ 51 dead [some true,some false]))=some (Ex.normal,[LV.v (V1.one (At.ptr 1 0)),LV.v (V1.one (At.ptr 2 0)),LV.v (V1.one (At.int .i64 (wr .i64 (t - 2))))],[some { ty:=240,fr:=(0,0),es:=0,cells:=[At.int IntKind.u64 p,At.int IntKind.u64 q] },some { ty:=240,fr:=(0,0),es:=0,cells:=[At.int IntKind.u64 (wHi (jc x y/jk (Int.toNat 1))),At.int IntKind.u64 (wLo (jc x y/jk (Int.toNat 1)))] }],[(!decide (jc p q<jc (wHi ((jc x y+jc (wHi (jc 0 1*jk t.toNat%340282366920938463463374607431768211456)) (wLo (jc 0 1*jk t.toNat%340282366920938463463374607431768211456)))%340282366920938463463374607431768211456)) (wLo ((jc x y+jc (wHi (jc 0 1*jk t.toNat%340282366920938463463374607431768211456)) (wLo (jc 0 1*jk t.toNat%340282366920938463463374607431768211456)))%340282366920938463463374607431768211456))),false),(isU q,true),(isU (wLo ((jc x y+jc (wHi (jc 0 1*jk t.toNat%340282366920938463463374607431768211456)) (wLo (jc 0 1*jk t.toNat%340282366920938463463374607431768211456)))%340282366920938463463374607431768211456)),true),(isU x,true),(isU y,true),(decide (0≤1)&&decide (1<128),true),(isU x,true),(isU y,true),(isU (wHi (jc 0 1*jk t.toNat%340282366920938463463374607431768211456)),true),(isU (wLo (jc 0 1*jk t.toNat%340282366920938463463374607431768211456)),true),(isU 0,true),(isU 1,true),(decide (0≤t)&&decide (t<128),true),(decide (t≥0),true)]):=by kernel_rfl
theorem jtG (dead:Nat→Value) (p q x y:Int):ju [2,3] [] (exec Tryz.prog S8 Zl 200 (.code (c2 (qg 3 (jj Tryz.prog 138)))) (Kst.st ⟨[(4,.v (.one (.ptr 1 0))),(5,.v (.one (.ptr 2 0)))],[(1,⟨240,(0,0),0,[.int .u64 p,.int .u64 q]⟩),(2,⟨240,(0,0),0,[.int .u64 x,.int .u64 y]⟩)],3⟩ 51 dead [some true]))=some (Ex.ret,[LV.v (V1.one (At.int .i64 (if isI (sgn false (jc (wHi ((jc x y+jc 0 1)%340282366920938463463374607431768211456)) (wLo ((jc x y+jc 0 1)%340282366920938463463374607431768211456))))=true then sgn false (jc (wHi ((jc x y+jc 0 1)%340282366920938463463374607431768211456)) (wLo ((jc x y+jc 0 1)%340282366920938463463374607431768211456))) else 0))),LV.v (V1.one (At.bool (isI (sgn false (jc (wHi ((jc x y+jc 0 1)%340282366920938463463374607431768211456)) (wLo ((jc x y+jc 0 1)%340282366920938463463374607431768211456)))))))],[],[(isU (wHi ((jc x y+jc 0 1)%340282366920938463463374607431768211456)),true),(isU (wLo ((jc x y+jc 0 1)%340282366920938463463374607431768211456)),true),(isU x,true),(isU y,true),(isU 0,true),(isU 1,true),(decide (jc x y<jc p q),true),(isU y,true),(isU q,true)]):=by kernel_rfl
theorem jtH (dead:Nat→Value) (p q x y:Int):ju [2,3] [] (exec Tryz.prog S8 Zl 200 (.code (c2 (qg 3 (jj Tryz.prog 138)))) (Kst.st ⟨[(4,.v (.one (.ptr 1 0))),(5,.v (.one (.ptr 2 0)))],[(1,⟨240,(0,0),0,[.int .u64 p,.int .u64 q]⟩),(2,⟨240,(0,0),0,[.int .u64 x,.int .u64 y]⟩)],3⟩ 51 dead [some false]))=some (Ex.ret,[LV.v (V1.one (At.int .i64 (if isI (sgn false (jc x y))=true then sgn false (jc x y) else 0))),LV.v (V1.one (At.bool (isI (sgn false (jc x y)))))],[],[(isU x,true),(isU y,true),(decide (jc x y<jc p q),false),(isU y,true),(isU q,true)]):=by kernel_rfl
noncomputable def YM:Code:=c2 (c1 (qg 3 (jj Tryz.prog 138)))
abbrev P1:LV:= .v (.one (.ptr 1 0))
abbrev P2:LV:= .v (.one (.ptr 2 0))
def jbw (v:Int):Blk:=⟨240,(0,0),0,[.int .u64 (wHi v),.int .u64 (wLo v)]⟩
def rtA (p r t:Int):Kst:=⟨[(4,P1),(5,P2),(6,.v (.one (.int .i64 t)))],[(1,jbw p),(2,jbw r)],3⟩
def rtB (p r:Int):Kst:=⟨[(4,P1),(5,P2)],[(1,jbw p),(2,jbw r)],3⟩
theorem jil (N:Int) (hN:N<170141183460469231731687303715884105728) (m:Nat) (hm:m≤63) (p r:Int) (h:RtInv N (m+1) p r):
  To Tryz.prog 51 (c1 (c1 YM)) (rtA p r (2*(m:Int))) .normal (rtA (if p<r+jk (2*m) then p else p - (r+jk (2*m))) (if p<r+jk (2*m) then r/2 else r/2+jk (2*m)) (2*(m:Int) - 2)):=by
 obtain ⟨b0,b1,b2,b3⟩:=h.bd
 have ht:(2*(m:Int)).toNat=2*m:=by omega
 have hb0:=j4 (2*m)
 have hb1:jk (2*m)≤85070591730234615865843651857942052864:=jbm (n:=126) _ (by omega) (by decide)
 have e0:jc 0 1=1:=rfl
 have e1:jk (Int.toNat 1)=2:=rfl
 have e2:1*jk (2*m)%340282366920938463463374607431768211456=jk (2*m):=by rw [Int.one_mul];omega
 have e3:(r+jk (2*m))%340282366920938463463374607431768211456=r+jk (2*m):=by omega
 have e5:(r/2+jk (2*m))%340282366920938463463374607431768211456=r/2+jk (2*m):=by omega
 have e6:wr .i64 (2*(m:Int) - 2)=2*(m:Int) - 2:=jgZ (by omega) (by omega)
 by_cases hlt:p<r+jk (2*m)
 ·rw [if_pos hlt,if_pos hlt]
  refine To.run (z:=Zl) sound8 (slots:=[4,5,6]) (blks:=[1,2]) (vs:=[P1,P2,.v (.one (.int .i64 (2*(m:Int) - 2)))]) (bs:=[jbw p,jbw (r/2)]) (nbB:=3) (fun dead=>jtF dead (2*(m:Int)) (wHi p) (wLo p) (wHi r) (wLo r)) rfl (by rw [e6]) (by simp only [jJ,e1];rfl) ?_ (jI (by rfl)) (Nat.le_refl _)
  ·simp only [jJ,e0,e1,ht,e2,e3,jM,kT,isU_iff,Bool.and_eq_true,decide_eq_true_eq]
   refine ⟨by simpa using hlt, ?_⟩
   repeat' apply And.intro
   all_goals first | exact jd | (unfold wHi;omega) | (unfold wLo;omega) | omega
 ·rw [if_neg hlt,if_neg hlt]
  have e4:(p - (r+jk (2*m)))%340282366920938463463374607431768211456=p - (r+jk (2*m)):=by omega
  refine To.run (z:=Zl) sound8 (slots:=[4,5,6]) (blks:=[1,2]) (vs:=[P1,P2,.v (.one (.int .i64 (2*(m:Int) - 2)))]) (bs:=[jbw (p - (r+jk (2*m))),jbw (r/2+jk (2*m))]) (nbB:=3) (fun dead=>jtE dead (2*(m:Int)) (wHi p) (wLo p) (wHi r) (wLo r)) rfl (by rw [e6]) (by simp only [jJ,e0,e1,ht,e2,e3,e4,e5];rfl) ?_ (jI (by rfl)) (Nat.le_refl _)
  ·simp only [jJ,e0,e1,ht,e2,e3,e4,e5,jM,kT,isU_iff,Bool.and_eq_true,decide_eq_true_eq]
   repeat' apply And.intro
   all_goals first | exact jd | (unfold wHi;omega) | (unfold wLo;omega) | omega | (simp;omega)
theorem jlI (p r:Int):To Tryz.prog 51 (c1 (c1 YM)) (rtA p r (-2)) (.exit 0) (rtB p r):=
 To.exec (z:=Zl) sound8 (slots:=[4,5]) (blks:=[1,2]) (vs:=[P1,P2]) (bs:=[jbw p,jbw r]) (nbB:=3) (fun dead=>jtD dead (-2) (wHi p) (wLo p) (wHi r) (wLo r)) (by simp) (jI (by rfl)) (Nat.le_refl _)
theorem jf1 (N:Int) (hN:N<170141183460469231731687303715884105728):∀(m:Nat),m≤64→∀p r,RtInv N m p r→Rd Tryz.prog 51 (c1 (c1 YM)) (m+1) (rtA p r (2*(m:Int) - 2)) (.exit 0) (rtB (rtL m p r).1 (rtL m p r).2)
 | 0,_,p,r,h=>Rd.last (by simp) (jlI p r)
 | m+1,hm,p,r,h=>by
  have hs:=jil N hN m (by omega) p r h
  have e:2*((m+1:Nat):Int) - 2=2*(m:Int):=by omega
  rw [e]
  refine Rd.next hs ?_
  simp only [rtL]
  by_cases hlt:p<r+jk (2*m)
  ·rw [if_pos hlt,if_pos hlt,decide_eq_true hlt]
   exact jf1 N hN m (by omega) _ _ (h.half hlt)
  ·rw [if_neg hlt,if_neg hlt,decide_eq_false hlt]
   exact jf1 N hN m (by omega) _ _ (h.take hlt)
def jim:List LV→Option (LV×List (Bool×Bool))
 | [.v (.agg [.int .i64 x,.int .u64 y])]=>
  match decide (x<0) with
  | true=>some (.tup [.one (.int .i64 0),.one (.bool false)],[])
  | false=>some (.tup [.one (.int .i64 (if isI (kf (jc x y))=true then kf (jc x y) else 0)),.one (.bool (isI (kf (jc x y))))],[(isI x,true),(isU y,true)])
 | _=>none
theorem sumRoot:SumOK Tryz.prog 138 (jq jim):=by
 refine xi fun args v cs hF hc w=> ?_
 unfold jim at hF
 split at hF
 ·rename_i x y
  refine kN (jl sound8 Tryz.func138 (by kernel_rfl)) ?_
  split at hF
  ·rename_i hx
   cases hF
   refine ye (c:=jj Tryz.prog 138) (e:= .ret) (B:=⟨[(2,.v (.one (.int .i64 0))),(3,.v (.one (.bool false)))],[],0⟩) Tryz.func138 (by kernel_rfl) (Nat.le_of_ble_eq_true (by kernel_rfl)) (Nat.le_of_ble_eq_true (by kernel_rfl)) rfl ?_ (.inr rfl) (fun dead=>by kernel_rfl) rfl w
   exact To.exec (z:=Zl) sound8 (slots:=[2,3]) (blks:=[]) (vs:=[_,_]) (bs:=[]) (nbB:=0) (fun dead=>jpE dead x y) (by simpa using hx) (jI (by rfl)) (Nat.le_refl _)
  ·rename_i hx
   cases hF
   simp only [jM,isU_iff,isI_iff] at hc
   obtain ⟨⟨hx0,hx1⟩,⟨hy0,hy1⟩,-⟩:=hc
   have hx':0≤x:=by simpa using hx
   have hN0:0≤jc x y:=by unfold jc;omega
   have hN1:jc x y<170141183460469231731687303715884105728:=by unfold jc;omega
   have hux:wr .u64 x=x:=kw hx' (by omega)
   have hhx:wHi (jc x y)=x:=jlt x y hy0 hy1
   have hhy:wLo (jc x y)=y:=jlu x y hy0 hy1
   generalize hN:jc x y=N at *
   have hI:=(RtInv.start hN0 (by omega)).run
   have hbd:=hI.bd
   have hrd:=jf1 N hN1 64 (by omega) N 0 (RtInv.start hN0 (by omega))
   refine ye (c:=jj Tryz.prog 138) (e:= .ret) (B:=⟨[(2,.v (.one (.int .i64 (if isI (kf N)=true then kf N else 0)))),(3,.v (.one (.bool (isI (kf N)))))],[],3⟩) Tryz.func138 (by kernel_rfl) (Nat.le_of_ble_eq_true (by kernel_rfl)) (Nat.le_of_ble_eq_true (by kernel_rfl)) rfl ?_ (.inr rfl) (fun dead=>by kernel_rfl) rfl w
   refine To.spineR (z:=Zl) sound8 (k:=3) (slots:=[4,5]) (blks:=[1,2]) (vs:=[P1,P2]) (bs:=[jbw N,jbw 0]) (nbB:=3) (by kernel_rfl) (fun dead=>jtB dead x y) rfl rfl (by rw [hux];unfold jbw;rw [hhx,hhy];rfl) (by simpa using hx) (jI (by rfl)) (Nat.zero_le _) ?_
   ·refine To.seq (by kernel_rfl) (To.seq (by kernel_rfl) (To.exec (z:=Zl) sound8 (slots:=[4,5,6]) (blks:=[1,2]) (vs:=[P1,P2,.v (.one (.int .i64 126))]) (bs:=[jbw N,jbw 0]) (nbB:=3) (fun dead=>jtC dead (wHi N) (wLo N) (wHi 0) (wLo 0)) (by simp) (jI (by rfl)) (Nat.le_refl _))
     (To.block (id:=0) (by kernel_rfl) (To.loop (by kernel_rfl) hrd) (.inl rfl))) ?_
    unfold kf
    generalize rtL 64 N 0=q at *
    obtain ⟨p,r⟩:=q
    simp only at hbd ⊢
    obtain ⟨b0,b1,b2,b3⟩:=hbd
    have e0:jc 0 1=1:=rfl
    by_cases hlt:r<p
    ·rw [if_pos hlt]
     have e1:(r+1)%340282366920938463463374607431768211456=r+1:=by omega
     refine To.run (z:=Zl) sound8 (slots:=[2,3]) (blks:=[]) (vs:=[.v (.one (.int .i64 (if isI (r+1)=true then r+1 else 0))),.v (.one (.bool (isI (r+1))))]) (bs:=[]) (nbB:=3) (fun dead=>jtG dead (wHi p) (wLo p) (wHi r) (wLo r)) rfl (by simp only [jJ,e0,e1];rfl) rfl ?_ (jI (by rfl)) (Nat.le_refl _)
     ·simp only [jJ,e0,e1,jM,kT,isU_iff,decide_eq_true_eq]
      repeat' apply And.intro
      all_goals first | exact jd | (unfold wHi;omega) | (unfold wLo;omega) | omega
    ·rw [if_neg hlt]
     refine To.run (z:=Zl) sound8 (slots:=[2,3]) (blks:=[]) (vs:=[.v (.one (.int .i64 (if isI r=true then r else 0))),.v (.one (.bool (isI r)))]) (bs:=[]) (nbB:=3) (fun dead=>jtH dead (wHi p) (wLo p) (wHi r) (wLo r)) rfl (by simp only [jJ];rfl) rfl ?_ (jI (by rfl)) (Nat.le_refl _)
     ·simp only [jJ,jM,kT,isU_iff,decide_eq_false_iff_not]
      repeat' apply And.intro
      all_goals first | exact jd | (unfold wHi;omega) | (unfold wLo;omega) | omega
 ·cases hF
end Go.Proofs.YtbpfipbhaagllaaGreat

/- math/bits.Div64: its pieces' runs (printed). -/
namespace Go.Proofs.YtbpfipbhaagllaaGreat
open Go.Lr
def U (n:Int):LV:= .v (.one (.int .u64 n))
theorem dvA (dead:Nat→Value) (h l y:Int):ju [2,8,9,10,11,13,14,15,16] [] (xg Tryz.prog S8 Zl 200 (kJ 14 (jj Tryz.prog 182)) (Kst.st ⟨jS 0 [.v (.one (.int .u64 h)),.v (.one (.int .u64 l)),.v (.one (.int .u64 y))],[],0⟩ 135 dead [some false,some false,some false]))=some (Ex.normal,[LV.v (V1.one (At.int IntKind.u64 (wr IntKind.u64 (y*jk (min (wr IntKind.u64 (lzV y)).toNat IntKind.u64.bits))))),LV.v (V1.one (At.int IntKind.u64 (wr IntKind.u64 (lzV y)))),LV.v (V1.one (At.int IntKind.u64 (wr IntKind.u64 (y*jk (min (wr IntKind.u64 (lzV y)).toNat IntKind.u64.bits))/jk (min (Int.toNat 32) IntKind.u64.bits)))),LV.v (V1.one (At.int IntKind.u64 (Int.ofNat ((u64 (wr IntKind.u64 (y*jk (min (wr IntKind.u64 (lzV y)).toNat IntKind.u64.bits)))).toNat.land (u64 4294967295).toNat)))),LV.v (V1.one (At.int IntKind.u64 (Int.ofNat ((u64 (wr IntKind.u64 (h*jk (min (wr IntKind.u64 (lzV y)).toNat IntKind.u64.bits)))).toNat.lor (u64 (l/jk (min (wr IntKind.u64 (64 - wr IntKind.u64 (lzV y))).toNat IntKind.u64.bits))).toNat)))),LV.v (V1.one (At.int IntKind.u64 (wr IntKind.u64 (l*jk (min (wr IntKind.u64 (lzV y)).toNat IntKind.u64.bits))/jk (min (Int.toNat 32) IntKind.u64.bits)))),LV.v (V1.one (At.int IntKind.u64 (Int.ofNat ((u64 (wr IntKind.u64 (l*jk (min (wr IntKind.u64 (lzV y)).toNat IntKind.u64.bits)))).toNat.land (u64 4294967295).toNat)))),LV.v (V1.one (At.int IntKind.u64 (wr IntKind.u64 ((Int.ofNat ((u64 (wr IntKind.u64 (h*jk (min (wr IntKind.u64 (lzV y)).toNat IntKind.u64.bits)))).toNat.lor (u64 (l/jk (min (wr IntKind.u64 (64 - wr IntKind.u64 (lzV y))).toNat IntKind.u64.bits))).toNat)).tdiv (wr IntKind.u64 (y*jk (min (wr IntKind.u64 (lzV y)).toNat IntKind.u64.bits))/jk (min (Int.toNat 32) IntKind.u64.bits)))))),LV.v (V1.one (At.int IntKind.u64 (wr IntKind.u64 (Int.ofNat ((u64 (wr IntKind.u64 (h*jk (min (wr IntKind.u64 (lzV y)).toNat IntKind.u64.bits)))).toNat.lor (u64 (l/jk (min (wr IntKind.u64 (64 - wr IntKind.u64 (lzV y))).toNat IntKind.u64.bits))).toNat) - wr IntKind.u64 (wr IntKind.u64 ((Int.ofNat ((u64 (wr IntKind.u64 (h*jk (min (wr IntKind.u64 (lzV y)).toNat IntKind.u64.bits)))).toNat.lor (u64 (l/jk (min (wr IntKind.u64 (64 - wr IntKind.u64 (lzV y))).toNat IntKind.u64.bits))).toNat)).tdiv (wr IntKind.u64 (y*jk (min (wr IntKind.u64 (lzV y)).toNat IntKind.u64.bits))/jk (min (Int.toNat 32) IntKind.u64.bits)))*(wr IntKind.u64 (y*jk (min (wr IntKind.u64 (lzV y)).toNat IntKind.u64.bits))/jk (min (Int.toNat 32) IntKind.u64.bits)))))))],[],[(decide (wr IntKind.u64 (y*jk (min (wr IntKind.u64 (lzV y)).toNat IntKind.u64.bits))/jk (min (Int.toNat 32) IntKind.u64.bits)=0),false),(decide (wr IntKind.u64 (lzV y)<0),false),(decide (wr IntKind.u64 (64 - wr IntKind.u64 (lzV y))<0),false),(decide (wr IntKind.u64 (lzV y)<0),false),(decide (wr IntKind.u64 (lzV y)<0),false),(isU y,true),(decide (0<y),true),(h==0,false),(decide (y≤h),false),(y==0,false)]):=by kernel_rfl
theorem dvZ (dead:Nat→Value) (h l y:Int):ju [6,7] [] (exec Tryz.prog S8 Zl 200 (.code (jj Tryz.prog 182)) (Kst.st ⟨jS 0 [.v (.one (.int .u64 h)),.v (.one (.int .u64 l)),.v (.one (.int .u64 y))],[],0⟩ 135 dead [some false,some false,some true]))=some (Ex.ret,[LV.v (V1.one (At.int IntKind.u64 (wr IntKind.u64 (l.tdiv y)))),LV.v (V1.one (At.int IntKind.u64 (l.tmod y)))],[],[(decide (y=0),false),(decide (y=0),false),(h==0,true),(decide (y≤h),false),(y==0,false)]):=by kernel_rfl
theorem dvM (dead:Nat→Value) (y s n1 n0 u32 u1 u0 q r:Int):ju [2,8,9,10,14,15,17,18,16] [] (xg Tryz.prog S8 Zl 200 (kJ 3 (c2 (qg 14 (jj Tryz.prog 182)))) (Kst.st ⟨[(2,U y),(8,U s),(9,U n1),(10,U n0),(11,U u32),(13,U u1),(14,U u0),(15,U q),(16,U r)],[],0⟩ 135 dead []))=some (Ex.normal,[LV.v (V1.one (At.int IntKind.u64 y)),LV.v (V1.one (At.int IntKind.u64 s)),LV.v (V1.one (At.int IntKind.u64 n1)),LV.v (V1.one (At.int IntKind.u64 n0)),LV.v (V1.one (At.int IntKind.u64 u0)),LV.v (V1.one (At.int IntKind.u64 q)),LV.v (V1.one (At.int IntKind.u64 (wr IntKind.u64 (wr IntKind.u64 (wr IntKind.u64 (u32*4294967296)+u1) - wr IntKind.u64 (q*y))))),LV.v (V1.one (At.int IntKind.u64 (wr IntKind.u64 ((wr IntKind.u64 (wr IntKind.u64 (wr IntKind.u64 (u32*4294967296)+u1) - wr IntKind.u64 (q*y))).tdiv n1)))),LV.v (V1.one (At.int IntKind.u64 (wr IntKind.u64 (wr IntKind.u64 (wr IntKind.u64 (wr IntKind.u64 (u32*4294967296)+u1) - wr IntKind.u64 (q*y)) - wr IntKind.u64 (wr IntKind.u64 ((wr IntKind.u64 (wr IntKind.u64 (wr IntKind.u64 (u32*4294967296)+u1) - wr IntKind.u64 (q*y))).tdiv n1)*n1)))))],[],[(decide (n1=0),false)]):=by kernel_rfl
theorem dvE (dead:Nat→Value) (y s n1 n0 u0 q1 u21 q r:Int):ju [6,7] [] (exec Tryz.prog S8 Zl 200 (.code (c2 (qg 18 (jj Tryz.prog 182)))) (Kst.st ⟨[(2,U y),(8,U s),(9,U n1),(10,U n0),(14,U u0),(15,U q1),(17,U u21),(18,U q),(16,U r)],[],0⟩ 135 dead []))=some (Ex.ret,[LV.v (V1.one (At.int IntKind.u64 (wr IntKind.u64 (wr IntKind.u64 (q1*4294967296)+q)))),LV.v (V1.one (At.int IntKind.u64 (wr IntKind.u64 (wr IntKind.u64 (wr IntKind.u64 (u21*4294967296)+u0) - wr IntKind.u64 (q*y))/jk (min s.toNat IntKind.u64.bits))))],[],[(decide (s<0),false)]):=by kernel_rfl
theorem jvf (dead:Nat→Value) (y s n1 n0 u32 u1 u0 q r:Int):ju [2,8,9,10,11,13,14,15,16] [] (exec Tryz.prog S8 Zl 200 (.code (c1 (c1 (c1 (qg 14 (jj Tryz.prog 182)))))) (Kst.st ⟨[(2,U y),(8,U s),(9,U n1),(10,U n0),(11,U u32),(13,U u1),(14,U u0),(15,U q),(16,U r)],[],0⟩ 135 dead [some true,some true,some true,some true,some true,some true,some true,some true,some true,none,some true]))=some (Ex.exit 0,[LV.v (V1.one (At.int IntKind.u64 y)),LV.v (V1.one (At.int IntKind.u64 s)),LV.v (V1.one (At.int IntKind.u64 n1)),LV.v (V1.one (At.int IntKind.u64 n0)),LV.v (V1.one (At.int IntKind.u64 u32)),LV.v (V1.one (At.int IntKind.u64 u1)),LV.v (V1.one (At.int IntKind.u64 u0)),LV.v (V1.one (At.int IntKind.u64 (wr IntKind.u64 (q - 1)))),LV.v (V1.one (At.int IntKind.u64 (wr IntKind.u64 (r+n1))))],[],[(decide (wr IntKind.u64 (r+n1)≥4294967296),true),(decide (q≥4294967296),true),(decide (q≥4294967296),true),(decide (q≥4294967296),true),(decide (q≥4294967296),true),(decide (q≥4294967296),true),(decide (q≥4294967296),true),(decide (q≥4294967296),true),(decide (q≥4294967296),true),(decide (q≥4294967296),true)]):=by kernel_rfl
theorem jvg (dead:Nat→Value) (y s n1 n0 u32 u1 u0 q r:Int):ju [2,8,9,10,11,13,14,15,16] [] (exec Tryz.prog S8 Zl 200 (.code (c1 (c1 (c1 (qg 14 (jj Tryz.prog 182)))))) (Kst.st ⟨[(2,U y),(8,U s),(9,U n1),(10,U n0),(11,U u32),(13,U u1),(14,U u0),(15,U q),(16,U r)],[],0⟩ 135 dead [some true,some true,some true,some true,some true,some true,some true,some true,some true,none,some false]))=some (Ex.normal,[LV.v (V1.one (At.int IntKind.u64 y)),LV.v (V1.one (At.int IntKind.u64 s)),LV.v (V1.one (At.int IntKind.u64 n1)),LV.v (V1.one (At.int IntKind.u64 n0)),LV.v (V1.one (At.int IntKind.u64 u32)),LV.v (V1.one (At.int IntKind.u64 u1)),LV.v (V1.one (At.int IntKind.u64 u0)),LV.v (V1.one (At.int IntKind.u64 (wr IntKind.u64 (q - 1)))),LV.v (V1.one (At.int IntKind.u64 (wr IntKind.u64 (r+n1))))],[],[(decide (wr IntKind.u64 (r+n1)≥4294967296),false),(decide (q≥4294967296),true),(decide (q≥4294967296),true),(decide (q≥4294967296),true),(decide (q≥4294967296),true),(decide (q≥4294967296),true),(decide (q≥4294967296),true),(decide (q≥4294967296),true),(decide (q≥4294967296),true),(decide (q≥4294967296),true)]):=by kernel_rfl
theorem jvh (dead:Nat→Value) (y s n1 n0 u32 u1 u0 q r:Int):ju [2,8,9,10,11,13,14,15,16] [] (exec Tryz.prog S8 Zl 200 (.code (c1 (c1 (c1 (qg 14 (jj Tryz.prog 182)))))) (Kst.st ⟨[(2,U y),(8,U s),(9,U n1),(10,U n0),(11,U u32),(13,U u1),(14,U u0),(15,U q),(16,U r)],[],0⟩ 135 dead [some false,some false,some false,some false,some false,some false,some false,some false,some false,some true,some true]))=some (Ex.exit 0,[LV.v (V1.one (At.int IntKind.u64 y)),LV.v (V1.one (At.int IntKind.u64 s)),LV.v (V1.one (At.int IntKind.u64 n1)),LV.v (V1.one (At.int IntKind.u64 n0)),LV.v (V1.one (At.int IntKind.u64 u32)),LV.v (V1.one (At.int IntKind.u64 u1)),LV.v (V1.one (At.int IntKind.u64 u0)),LV.v (V1.one (At.int IntKind.u64 (wr IntKind.u64 (q - 1)))),LV.v (V1.one (At.int IntKind.u64 (wr IntKind.u64 (r+n1))))],[],[(decide (wr IntKind.u64 (r+n1)≥4294967296),true),(decide (wr IntKind.u64 (q*n0)>wr IntKind.u64 (wr IntKind.u64 (4294967296*r)+u1)),true),(decide (q≥4294967296),false),(decide (q≥4294967296),false),(decide (q≥4294967296),false),(decide (q≥4294967296),false),(decide (q≥4294967296),false),(decide (q≥4294967296),false),(decide (q≥4294967296),false),(decide (q≥4294967296),false),(decide (q≥4294967296),false)]):=by kernel_rfl
theorem jvi (dead:Nat→Value) (y s n1 n0 u32 u1 u0 q r:Int):ju [2,8,9,10,11,13,14,15,16] [] (exec Tryz.prog S8 Zl 200 (.code (c1 (c1 (c1 (qg 14 (jj Tryz.prog 182)))))) (Kst.st ⟨[(2,U y),(8,U s),(9,U n1),(10,U n0),(11,U u32),(13,U u1),(14,U u0),(15,U q),(16,U r)],[],0⟩ 135 dead [some false,some false,some false,some false,some false,some false,some false,some false,some false,some true,some false]))=some (Ex.normal,[LV.v (V1.one (At.int IntKind.u64 y)),LV.v (V1.one (At.int IntKind.u64 s)),LV.v (V1.one (At.int IntKind.u64 n1)),LV.v (V1.one (At.int IntKind.u64 n0)),LV.v (V1.one (At.int IntKind.u64 u32)),LV.v (V1.one (At.int IntKind.u64 u1)),LV.v (V1.one (At.int IntKind.u64 u0)),LV.v (V1.one (At.int IntKind.u64 (wr IntKind.u64 (q - 1)))),LV.v (V1.one (At.int IntKind.u64 (wr IntKind.u64 (r+n1))))],[],[(decide (wr IntKind.u64 (r+n1)≥4294967296),false),(decide (wr IntKind.u64 (q*n0)>wr IntKind.u64 (wr IntKind.u64 (4294967296*r)+u1)),true),(decide (q≥4294967296),false),(decide (q≥4294967296),false),(decide (q≥4294967296),false),(decide (q≥4294967296),false),(decide (q≥4294967296),false),(decide (q≥4294967296),false),(decide (q≥4294967296),false),(decide (q≥4294967296),false),(decide (q≥4294967296),false)]):=by kernel_rfl
theorem jvj (dead:Nat→Value) (y s n1 n0 u32 u1 u0 q r:Int):ju [2,8,9,10,11,13,14,15,16] [] (exec Tryz.prog S8 Zl 200 (.code (c1 (c1 (c1 (qg 14 (jj Tryz.prog 182)))))) (Kst.st ⟨[(2,U y),(8,U s),(9,U n1),(10,U n0),(11,U u32),(13,U u1),(14,U u0),(15,U q),(16,U r)],[],0⟩ 135 dead [some false,some false,some false,some false,some false,some false,some false,some false,some false,some false]))=some (Ex.exit 0,[LV.v (V1.one (At.int IntKind.u64 y)),LV.v (V1.one (At.int IntKind.u64 s)),LV.v (V1.one (At.int IntKind.u64 n1)),LV.v (V1.one (At.int IntKind.u64 n0)),LV.v (V1.one (At.int IntKind.u64 u32)),LV.v (V1.one (At.int IntKind.u64 u1)),LV.v (V1.one (At.int IntKind.u64 u0)),LV.v (V1.one (At.int IntKind.u64 q)),LV.v (V1.one (At.int IntKind.u64 r))],[],[(decide (wr IntKind.u64 (q*n0)>wr IntKind.u64 (wr IntKind.u64 (4294967296*r)+u1)),false),(decide (q≥4294967296),false),(decide (q≥4294967296),false),(decide (q≥4294967296),false),(decide (q≥4294967296),false),(decide (q≥4294967296),false),(decide (q≥4294967296),false),(decide (q≥4294967296),false),(decide (q≥4294967296),false),(decide (q≥4294967296),false)]):=by kernel_rfl
theorem jvk (dead:Nat→Value) (y s n1 n0 u0 q1 u21 q r:Int):ju [2,8,9,10,14,15,17,18,16] [] (exec Tryz.prog S8 Zl 200 (.code (c1 (c1 (c1 (qg 18 (jj Tryz.prog 182)))))) (Kst.st ⟨[(2,U y),(8,U s),(9,U n1),(10,U n0),(14,U u0),(15,U q1),(17,U u21),(18,U q),(16,U r)],[],0⟩ 135 dead [some true,some true,some true,some true,some true,some true,some true,some true,some true,none,some true]))=some (Ex.exit 2,[LV.v (V1.one (At.int IntKind.u64 y)),LV.v (V1.one (At.int IntKind.u64 s)),LV.v (V1.one (At.int IntKind.u64 n1)),LV.v (V1.one (At.int IntKind.u64 n0)),LV.v (V1.one (At.int IntKind.u64 u0)),LV.v (V1.one (At.int IntKind.u64 q1)),LV.v (V1.one (At.int IntKind.u64 u21)),LV.v (V1.one (At.int IntKind.u64 (wr IntKind.u64 (q - 1)))),LV.v (V1.one (At.int IntKind.u64 (wr IntKind.u64 (r+n1))))],[],[(decide (wr IntKind.u64 (r+n1)≥4294967296),true),(decide (q≥4294967296),true),(decide (q≥4294967296),true),(decide (q≥4294967296),true),(decide (q≥4294967296),true),(decide (q≥4294967296),true),(decide (q≥4294967296),true),(decide (q≥4294967296),true),(decide (q≥4294967296),true),(decide (q≥4294967296),true)]):=by kernel_rfl
theorem jvl (dead:Nat→Value) (y s n1 n0 u0 q1 u21 q r:Int):ju [2,8,9,10,14,15,17,18,16] [] (exec Tryz.prog S8 Zl 200 (.code (c1 (c1 (c1 (qg 18 (jj Tryz.prog 182)))))) (Kst.st ⟨[(2,U y),(8,U s),(9,U n1),(10,U n0),(14,U u0),(15,U q1),(17,U u21),(18,U q),(16,U r)],[],0⟩ 135 dead [some true,some true,some true,some true,some true,some true,some true,some true,some true,none,some false]))=some (Ex.normal,[LV.v (V1.one (At.int IntKind.u64 y)),LV.v (V1.one (At.int IntKind.u64 s)),LV.v (V1.one (At.int IntKind.u64 n1)),LV.v (V1.one (At.int IntKind.u64 n0)),LV.v (V1.one (At.int IntKind.u64 u0)),LV.v (V1.one (At.int IntKind.u64 q1)),LV.v (V1.one (At.int IntKind.u64 u21)),LV.v (V1.one (At.int IntKind.u64 (wr IntKind.u64 (q - 1)))),LV.v (V1.one (At.int IntKind.u64 (wr IntKind.u64 (r+n1))))],[],[(decide (wr IntKind.u64 (r+n1)≥4294967296),false),(decide (q≥4294967296),true),(decide (q≥4294967296),true),(decide (q≥4294967296),true),(decide (q≥4294967296),true),(decide (q≥4294967296),true),(decide (q≥4294967296),true),(decide (q≥4294967296),true),(decide (q≥4294967296),true),(decide (q≥4294967296),true)]):=by kernel_rfl
theorem jvm (dead:Nat→Value) (y s n1 n0 u0 q1 u21 q r:Int):ju [2,8,9,10,14,15,17,18,16] [] (exec Tryz.prog S8 Zl 200 (.code (c1 (c1 (c1 (qg 18 (jj Tryz.prog 182)))))) (Kst.st ⟨[(2,U y),(8,U s),(9,U n1),(10,U n0),(14,U u0),(15,U q1),(17,U u21),(18,U q),(16,U r)],[],0⟩ 135 dead [some false,some false,some false,some false,some false,some false,some false,some false,some false,some true,some true]))=some (Ex.exit 2,[LV.v (V1.one (At.int IntKind.u64 y)),LV.v (V1.one (At.int IntKind.u64 s)),LV.v (V1.one (At.int IntKind.u64 n1)),LV.v (V1.one (At.int IntKind.u64 n0)),LV.v (V1.one (At.int IntKind.u64 u0)),LV.v (V1.one (At.int IntKind.u64 q1)),LV.v (V1.one (At.int IntKind.u64 u21)),LV.v (V1.one (At.int IntKind.u64 (wr IntKind.u64 (q - 1)))),LV.v (V1.one (At.int IntKind.u64 (wr IntKind.u64 (r+n1))))],[],[(decide (wr IntKind.u64 (r+n1)≥4294967296),true),(decide (wr IntKind.u64 (q*n0)>wr IntKind.u64 (wr IntKind.u64 (4294967296*r)+u0)),true),(decide (q≥4294967296),false),(decide (q≥4294967296),false),(decide (q≥4294967296),false),(decide (q≥4294967296),false),(decide (q≥4294967296),false),(decide (q≥4294967296),false),(decide (q≥4294967296),false),(decide (q≥4294967296),false),(decide (q≥4294967296),false)]):=by kernel_rfl
theorem jvn (dead:Nat→Value) (y s n1 n0 u0 q1 u21 q r:Int):ju [2,8,9,10,14,15,17,18,16] [] (exec Tryz.prog S8 Zl 200 (.code (c1 (c1 (c1 (qg 18 (jj Tryz.prog 182)))))) (Kst.st ⟨[(2,U y),(8,U s),(9,U n1),(10,U n0),(14,U u0),(15,U q1),(17,U u21),(18,U q),(16,U r)],[],0⟩ 135 dead [some false,some false,some false,some false,some false,some false,some false,some false,some false,some true,some false]))=some (Ex.normal,[LV.v (V1.one (At.int IntKind.u64 y)),LV.v (V1.one (At.int IntKind.u64 s)),LV.v (V1.one (At.int IntKind.u64 n1)),LV.v (V1.one (At.int IntKind.u64 n0)),LV.v (V1.one (At.int IntKind.u64 u0)),LV.v (V1.one (At.int IntKind.u64 q1)),LV.v (V1.one (At.int IntKind.u64 u21)),LV.v (V1.one (At.int IntKind.u64 (wr IntKind.u64 (q - 1)))),LV.v (V1.one (At.int IntKind.u64 (wr IntKind.u64 (r+n1))))],[],[(decide (wr IntKind.u64 (r+n1)≥4294967296),false),(decide (wr IntKind.u64 (q*n0)>wr IntKind.u64 (wr IntKind.u64 (4294967296*r)+u0)),true),(decide (q≥4294967296),false),(decide (q≥4294967296),false),(decide (q≥4294967296),false),(decide (q≥4294967296),false),(decide (q≥4294967296),false),(decide (q≥4294967296),false),(decide (q≥4294967296),false),(decide (q≥4294967296),false),(decide (q≥4294967296),false)]):=by kernel_rfl
theorem jvo (dead:Nat→Value) (y s n1 n0 u0 q1 u21 q r:Int):ju [2,8,9,10,14,15,17,18,16] [] (exec Tryz.prog S8 Zl 200 (.code (c1 (c1 (c1 (qg 18 (jj Tryz.prog 182)))))) (Kst.st ⟨[(2,U y),(8,U s),(9,U n1),(10,U n0),(14,U u0),(15,U q1),(17,U u21),(18,U q),(16,U r)],[],0⟩ 135 dead [some false,some false,some false,some false,some false,some false,some false,some false,some false,some false]))=some (Ex.exit 2,[LV.v (V1.one (At.int IntKind.u64 y)),LV.v (V1.one (At.int IntKind.u64 s)),LV.v (V1.one (At.int IntKind.u64 n1)),LV.v (V1.one (At.int IntKind.u64 n0)),LV.v (V1.one (At.int IntKind.u64 u0)),LV.v (V1.one (At.int IntKind.u64 q1)),LV.v (V1.one (At.int IntKind.u64 u21)),LV.v (V1.one (At.int IntKind.u64 q)),LV.v (V1.one (At.int IntKind.u64 r))],[],[(decide (wr IntKind.u64 (q*n0)>wr IntKind.u64 (wr IntKind.u64 (4294967296*r)+u0)),false),(decide (q≥4294967296),false),(decide (q≥4294967296),false),(decide (q≥4294967296),false),(decide (q≥4294967296),false),(decide (q≥4294967296),false),(decide (q≥4294967296),false),(decide (q≥4294967296),false),(decide (q≥4294967296),false),(decide (q≥4294967296),false)]):=by kernel_rfl
end Go.Proofs.YtbpfipbhaagllaaGreat

/- Long division by two digits: why the digits are right. Plain. -/
namespace Go.Lr
structure Dg (y n1 n0 u u1:Int):Prop where
 yd:y=n1*4294967296+n0
 n1a:2147483648≤n1
 n1b:n1<4294967296
 n0a:0≤n0
 n0b:n0<4294967296
 ua:0≤u
 ub:u<y
 u1a:0≤u1
 u1b:u1<4294967296
variable {y n1 n0 u u1:Int}
theorem Dg.ypos (h:Dg y n1 n0 u u1):0<y:=by have:=h.yd;have:=h.n1a;have:=h.n0a;omega
theorem Dg.nn (h:Dg y n1 n0 u u1):0≤(u*4294967296+u1)/y:=Int.ediv_nonneg (by have:=h.ua;have:=h.u1a;omega) (by have:=h.ypos;omega)
theorem Dg.lt (h:Dg y n1 n0 u u1):(u*4294967296+u1)/y<4294967296:=by
 refine Int.ediv_lt_of_lt_mul h.ypos ?_
 have:=h.ub;have:=h.u1b;have:=h.ypos;omega
theorem Dg.iff (h:Dg y n1 n0 u u1) {q r:Int} (hq:q*n1+r=u):q*n0>4294967296*r+u1↔(u*4294967296+u1)/y<q:=by
 rw [Int.ediv_lt_iff_lt_mul h.ypos,h.yd]
 have e1:q*(n1*4294967296+n0)=q*n1*4294967296+q*n0:=by grind
 rw [e1,←hq]
 generalize q*n1=a
 generalize q*n0=b
 omega
theorem Dg.brk (h:Dg y n1 n0 u u1) {q r:Int} (hq:q*n1+r=u) (hlt:(u*4294967296+u1)/y<q) (hb:r+n1≥4294967296):q - 1=(u*4294967296+u1)/y:=by
 have h0:=h.nn
 have hq':(q - 1)*n1+(r+n1)=u:=by rw [←hq];grind
 have hi:=h.iff hq'
 have e1:(q - 1)*n1<4294967296*n1:=by have:=h.ub;have:=h.yd;have:=h.n0b;omega
 have e2:q - 1<4294967296:=Int.lt_of_mul_lt_mul_right e1 (by have:=h.n1a;omega)
 have e3:(q - 1)*n0≤4294967295*4294967295:=Int.mul_le_mul (by omega) (by have:=h.n0b;omega) h.n0a (by omega)
 have hu:=h.u1a
 have:¬(u*4294967296+u1)/y<q - 1:=by rw [←hi];omega
 omega
theorem jdB {V p y0 y u32 u1 u0:Int} (hp:0<p) (hy0:0<y0) (hy:y=y0*p) (hV:V*p=(u32*4294967296+u1)*4294967296+u0):
  (u32*4294967296+u1)/y*4294967296+((u32*4294967296+u1)%y*4294967296+u0)/y=V/y0∧((u32*4294967296+u1)%y*4294967296+u0)%y/p=V%y0:=by
 have hyp:0<y:=by rw [hy];exact Int.mul_pos hy0 hp
 have e1:=Int.emod_add_mul_ediv (u32*4294967296+u1) y
 generalize (u32*4294967296+u1)/y=q1 at *
 generalize (u32*4294967296+u1)%y=r1 at *
 have e2:=Int.emod_add_mul_ediv (r1*4294967296+u0) y
 have m0:=Int.emod_nonneg (r1*4294967296+u0) (show y≠0 by omega)
 have m1:=Int.emod_lt_of_pos (r1*4294967296+u0) hyp
 generalize (r1*4294967296+u0)/y=q0 at *
 generalize (r1*4294967296+u0)%y=r0 at *
 have e3:V*p=(q1*4294967296+q0)*y+r0:=by rw [hV,←e1];grind
 have e4:r0=(V - (q1*4294967296+q0)*y0)*p:=by rw [hy] at e3;grind
 generalize q1*4294967296+q0=Q at *
 have d0:0≤V - Q*y0:=by
  rw [e4] at m0
  exact Int.nonneg_of_mul_nonneg_left m0 hp
 have d1:V - Q*y0<y0:=by
  rw [e4,hy] at m1
  exact Int.lt_of_mul_lt_mul_right m1 (by omega)
 have e5:V=Q*y0+(V - Q*y0):=by omega
 refine ⟨(z0 e5 d0 d1).symm, ?_⟩
 rw [e4,Int.mul_ediv_cancel _ (by omega)]
 exact (qG e5 d0 d1).symm
end Go.Lr

/- math/bits.Div64: what it comes to. -/
namespace Go.Proofs.YtbpfipbhaagllaaGreat
open Go.Lr
noncomputable def jeW:Code:=c1 (c1 (c1 (qg 14 (jj Tryz.prog 182))))
noncomputable def jeX:Code:=c1 (c1 (c1 (qg 18 (jj Tryz.prog 182))))
def jqE (y s n1 n0 u32 u1 u0 q r:Int):Kst:=⟨[(2,U y),(8,U s),(9,U n1),(10,U n0),(11,U u32),(13,U u1),(14,U u0),(15,U q),(16,U r)],[],0⟩
def jqF (y s n1 n0 u0 q1 u21 q r:Int):Kst:=⟨[(2,U y),(8,U s),(9,U n1),(10,U n0),(14,U u0),(15,U q1),(17,U u21),(18,U q),(16,U r)],[],0⟩
theorem jnp {y s n1 n0 u32 u1 u0:Int} (h:Dg y n1 n0 u32 u1):∀(d:Nat) (q r:Int),q*n1+r=u32→0≤r→r<4294967296→q≤8589934592→q=(u32*4294967296+u1)/y+d→
  ∃m r',Rd Tryz.prog 135 jeW m (jqE y s n1 n0 u32 u1 u0 q r) (.exit 0) (jqE y s n1 n0 u32 u1 u0 ((u32*4294967296+u1)/y) r')
 | 0,q,r,hq,hr0,hr1,hq1,hd=>by
  have n0a:=h.n0a
  have n0b:=h.n0b
  have u1a:=h.u1a
  have u1b:=h.u1b
  have nn:=h.nn
  have lt:=h.lt
  have hi:=h.iff hq
  have hd':q=(u32*4294967296+u1)/y:=by omega
  have p0:0≤q*n0:=Int.mul_nonneg (by omega) n0a
  have p1:q*n0≤4294967295*4294967295:=Int.mul_le_mul (by omega) (by omega) n0a (by omega)
  have c1':wr .u64 (q*n0)=q*n0:=kw p0 (by omega)
  have c2':wr .u64 (wr .u64 (4294967296*r)+u1)=4294967296*r+u1:=by rw [zS,zS];unfold u64;omega
  rw [←hd'] at hi ⊢
  refine ⟨1,r,Rd.last (by simp) ?_⟩
  refine To.weak (B:=⟨[2,8,9,10,11,13,14,15,16].zip [U y,U s,U n1,U n0,U u32,U u1,U u0,U q,U r],[],0⟩) ?_ (fun _ h=>h) rfl rfl (jI (by rfl))
  refine To.run (z:=Zl) sound8 (nbB:=0) (blks:=[]) (bs:=[]) (fun dead=>jvj dead y s n1 n0 u32 u1 u0 q r) rfl rfl rfl ?_ (jI (by rfl)) (Nat.le_refl _)
  have hq2:decide (q≥4294967296)=false:=by simp;omega
  simp only [hq2,c1',c2',kT,true_and,and_true,decide_eq_false_iff_not]
  exact ⟨by omega,jd⟩
 | d+1,q,r,hq,hr0,hr1,hq1,hd=>by
  have n0a:=h.n0a
  have n0b:=h.n0b
  have u1a:=h.u1a
  have u1b:=h.u1b
  have n1a:=h.n1a
  have n1b:=h.n1b
  have nn:=h.nn
  have lt:=h.lt
  have hi:=h.iff hq
  have hgt:(u32*4294967296+u1)/y<q:=by omega
  have f1:wr .u64 (q - 1)=q - 1:=kw (by omega) (by omega)
  have f2:wr .u64 (r+n1)=r+n1:=kw (by omega) (by omega)
  have hq':(q - 1)*n1+(r+n1)=u32:=by rw [←hq];grind
  have key:∀(e:Ex),(r+n1≥4294967296→e = .exit 0)→(¬r+n1≥4294967296→e = .normal)→To Tryz.prog 135 jeW (jqE y s n1 n0 u32 u1 u0 q r) e (jqE y s n1 n0 u32 u1 u0 (q - 1) (r+n1)):=by
   intro e he1 he2
   refine To.weak (B:=⟨[2,8,9,10,11,13,14,15,16].zip [U y,U s,U n1,U n0,U u32,U u1,U u0,U (q - 1),U (r+n1)],[],0⟩) ?_ (fun _ h=>h) rfl rfl (jI (by rfl))
   by_cases hqb:q≥4294967296
   ·by_cases hb:r+n1≥4294967296
    ·rw [he1 hb]
     refine To.run (z:=Zl) sound8 (nbB:=0) (blks:=[]) (bs:=[]) (fun dead=>jvf dead y s n1 n0 u32 u1 u0 q r) rfl (by rw [f1,f2];rfl) rfl ?_ (jI (by rfl)) (Nat.le_refl _)
     simp only [f2,jM,decide_eq_true_eq,hqb,hb,true_and]
     exact jd
    ·rw [he2 hb]
     refine To.run (z:=Zl) sound8 (nbB:=0) (blks:=[]) (bs:=[]) (fun dead=>jvg dead y s n1 n0 u32 u1 u0 q r) rfl (by rw [f1,f2];rfl) rfl ?_ (jI (by rfl)) (Nat.le_refl _)
     simp only [f2,jM,kT,decide_eq_true_eq,decide_eq_false_iff_not,hqb,hb,true_and,not_false_eq_true]
     exact jd
   ·have p0:0≤q*n0:=Int.mul_nonneg (by omega) n0a
    have p1:q*n0≤4294967295*4294967295:=Int.mul_le_mul (by omega) (by omega) n0a (by omega)
    have c1':wr .u64 (q*n0)=q*n0:=kw p0 (by omega)
    have c2':wr .u64 (wr .u64 (4294967296*r)+u1)=4294967296*r+u1:=by rw [zS,zS];unfold u64;omega
    have hc:=hi.2 hgt
    by_cases hb:r+n1≥4294967296
    ·rw [he1 hb]
     refine To.run (z:=Zl) sound8 (nbB:=0) (blks:=[]) (bs:=[]) (fun dead=>jvh dead y s n1 n0 u32 u1 u0 q r) rfl (by rw [f1,f2];rfl) rfl ?_ (jI (by rfl)) (Nat.le_refl _)
     simp only [f2,c1',c2',jM,kT,decide_eq_true_eq,decide_eq_false_iff_not,hqb,hb,hc,true_and,not_false_eq_true]
     exact jd
    ·rw [he2 hb]
     refine To.run (z:=Zl) sound8 (nbB:=0) (blks:=[]) (bs:=[]) (fun dead=>jvi dead y s n1 n0 u32 u1 u0 q r) rfl (by rw [f1,f2];rfl) rfl ?_ (jI (by rfl)) (Nat.le_refl _)
     simp only [f2,c1',c2',jM,kT,decide_eq_true_eq,decide_eq_false_iff_not,hqb,hb,hc,true_and,not_false_eq_true]
     exact jd
  by_cases hb:r+n1≥4294967296
  ·have:=h.brk hq hgt hb
   refine ⟨1,r+n1,Rd.last (by simp) ?_⟩
   rw [←this]
   exact key _ (fun _=>rfl) (fun h=>absurd hb h)
  ·obtain ⟨m,r',hm⟩:=jnp (s:=s) (u0:=u0) h d (q - 1) (r+n1) hq' (by omega) (by omega) (by omega) (by omega)
   exact ⟨m+1,r',Rd.next (key _ (fun h=>absurd h hb) (fun _=>rfl)) hm⟩
theorem jnq {y s n1 n0 u21 u0 q1:Int} (h:Dg y n1 n0 u21 u0):∀(d:Nat) (q r:Int),q*n1+r=u21→0≤r→r<4294967296→q≤8589934592→q=(u21*4294967296+u0)/y+d→
  ∃m r',Rd Tryz.prog 135 jeX m (jqF y s n1 n0 u0 q1 u21 q r) (.exit 2) (jqF y s n1 n0 u0 q1 u21 ((u21*4294967296+u0)/y) r')
 | 0,q,r,hq,hr0,hr1,hq1,hd=>by
  have n0a:=h.n0a
  have n0b:=h.n0b
  have u1a:=h.u1a
  have u1b:=h.u1b
  have nn:=h.nn
  have lt:=h.lt
  have hi:=h.iff hq
  have hd':q=(u21*4294967296+u0)/y:=by omega
  have p0:0≤q*n0:=Int.mul_nonneg (by omega) n0a
  have p1:q*n0≤4294967295*4294967295:=Int.mul_le_mul (by omega) (by omega) n0a (by omega)
  have c1':wr .u64 (q*n0)=q*n0:=kw p0 (by omega)
  have c2':wr .u64 (wr .u64 (4294967296*r)+u0)=4294967296*r+u0:=by rw [zS,zS];unfold u64;omega
  rw [←hd'] at hi ⊢
  refine ⟨1,r,Rd.last (by simp) ?_⟩
  refine To.weak (B:=⟨[2,8,9,10,14,15,17,18,16].zip [U y,U s,U n1,U n0,U u0,U q1,U u21,U q,U r],[],0⟩) ?_ (fun _ h=>h) rfl rfl (jI (by rfl))
  refine To.run (z:=Zl) sound8 (nbB:=0) (blks:=[]) (bs:=[]) (fun dead=>jvo dead y s n1 n0 u0 q1 u21 q r) rfl rfl rfl ?_ (jI (by rfl)) (Nat.le_refl _)
  have hq2:decide (q≥4294967296)=false:=by simp;omega
  simp only [hq2,c1',c2',kT,true_and,and_true,decide_eq_false_iff_not]
  exact ⟨by omega,jd⟩
 | d+1,q,r,hq,hr0,hr1,hq1,hd=>by
  have n0a:=h.n0a
  have n0b:=h.n0b
  have u1a:=h.u1a
  have u1b:=h.u1b
  have n1a:=h.n1a
  have n1b:=h.n1b
  have nn:=h.nn
  have lt:=h.lt
  have hi:=h.iff hq
  have hgt:(u21*4294967296+u0)/y<q:=by omega
  have f1:wr .u64 (q - 1)=q - 1:=kw (by omega) (by omega)
  have f2:wr .u64 (r+n1)=r+n1:=kw (by omega) (by omega)
  have hq':(q - 1)*n1+(r+n1)=u21:=by rw [←hq];grind
  have key:∀(e:Ex),(r+n1≥4294967296→e = .exit 2)→(¬r+n1≥4294967296→e = .normal)→To Tryz.prog 135 jeX (jqF y s n1 n0 u0 q1 u21 q r) e (jqF y s n1 n0 u0 q1 u21 (q - 1) (r+n1)):=by
   intro e he1 he2
   refine To.weak (B:=⟨[2,8,9,10,14,15,17,18,16].zip [U y,U s,U n1,U n0,U u0,U q1,U u21,U (q - 1),U (r+n1)],[],0⟩) ?_ (fun _ h=>h) rfl rfl (jI (by rfl))
   by_cases hqb:q≥4294967296
   ·by_cases hb:r+n1≥4294967296
    ·rw [he1 hb]
     refine To.run (z:=Zl) sound8 (nbB:=0) (blks:=[]) (bs:=[]) (fun dead=>jvk dead y s n1 n0 u0 q1 u21 q r) rfl (by rw [f1,f2];rfl) rfl ?_ (jI (by rfl)) (Nat.le_refl _)
     simp only [f2,jM,decide_eq_true_eq,hqb,hb,true_and]
     exact jd
    ·rw [he2 hb]
     refine To.run (z:=Zl) sound8 (nbB:=0) (blks:=[]) (bs:=[]) (fun dead=>jvl dead y s n1 n0 u0 q1 u21 q r) rfl (by rw [f1,f2];rfl) rfl ?_ (jI (by rfl)) (Nat.le_refl _)
     simp only [f2,jM,kT,decide_eq_true_eq,decide_eq_false_iff_not,hqb,hb,true_and,not_false_eq_true]
     exact jd
   ·have p0:0≤q*n0:=Int.mul_nonneg (by omega) n0a
    have p1:q*n0≤4294967295*4294967295:=Int.mul_le_mul (by omega) (by omega) n0a (by omega)
    have c1':wr .u64 (q*n0)=q*n0:=kw p0 (by omega)
    have c2':wr .u64 (wr .u64 (4294967296*r)+u0)=4294967296*r+u0:=by rw [zS,zS];unfold u64;omega
    have hc:=hi.2 hgt
    by_cases hb:r+n1≥4294967296
    ·rw [he1 hb]
     refine To.run (z:=Zl) sound8 (nbB:=0) (blks:=[]) (bs:=[]) (fun dead=>jvm dead y s n1 n0 u0 q1 u21 q r) rfl (by rw [f1,f2];rfl) rfl ?_ (jI (by rfl)) (Nat.le_refl _)
     simp only [f2,c1',c2',jM,kT,decide_eq_true_eq,decide_eq_false_iff_not,hqb,hb,hc,true_and,not_false_eq_true]
     exact jd
    ·rw [he2 hb]
     refine To.run (z:=Zl) sound8 (nbB:=0) (blks:=[]) (bs:=[]) (fun dead=>jvn dead y s n1 n0 u0 q1 u21 q r) rfl (by rw [f1,f2];rfl) rfl ?_ (jI (by rfl)) (Nat.le_refl _)
     simp only [f2,c1',c2',jM,kT,decide_eq_true_eq,decide_eq_false_iff_not,hqb,hb,hc,true_and,not_false_eq_true]
     exact jd
  by_cases hb:r+n1≥4294967296
  ·have:=h.brk hq hgt hb
   refine ⟨1,r+n1,Rd.last (by simp) ?_⟩
   rw [←this]
   exact key _ (fun _=>rfl) (fun h=>absurd hb h)
  ·obtain ⟨m,r',hm⟩:=jnq (s:=s) (q1:=q1) h d (q - 1) (r+n1) hq' (by omega) (by omega) (by omega) (by omega)
   exact ⟨m+1,r',Rd.next (key _ (fun h=>absurd h hb) (fun _=>rfl)) hm⟩
def jeY:List LV→Option (LV×List (Bool×Bool))
 | [.v (.one (.int .u64 h)),.v (.one (.int .u64 l)),.v (.one (.int .u64 y))]=>some (.tup [.one (.int .u64 (jc h l/y)),.one (.int .u64 (jc h l%y))],[(isU h,true),(isU l,true),(isU y,true),(decide (h<y),true)])
 | _=>none
theorem KP {a b:Int} (h:0≤a):a.tdiv b=a/b:=Int.tdiv_eq_ediv_of_nonneg h
theorem jcr {a b:Int} (h:0≤a):a.tmod b=a%b:=Int.tmod_eq_emod_of_nonneg h
theorem jjq {y n1 n0 u u1:Int} (h:Dg y n1 n0 u u1) (hu:u<18446744073709551616):u/n1*n1+u%n1=u∧0≤u%n1∧u%n1<4294967296∧u/n1≤8589934592∧∃d:Nat,u/n1=(u*4294967296+u1)/y+d:=by
 have n1a:=h.n1a
 have n1b:=h.n1b
 have ua:=h.ua
 have e:=Int.emod_add_mul_ediv u n1
 have m0:=Int.emod_nonneg u (show n1≠0 by omega)
 have m1:=Int.emod_lt_of_pos u (show 0<n1 by omega)
 have e':u/n1*n1+u%n1=u:=by rw [Int.mul_comm];omega
 have hd:u/n1<8589934593:=Int.ediv_lt_of_lt_mul (by omega) (by omega)
 refine ⟨e',m0,by omega,by omega, ?_⟩
 have hi:=h.iff (q:=u/n1+1) (r:=u%n1 - n1) (by rw [Int.add_mul];omega)
 have hlt:(u*4294967296+u1)/y<u/n1+1:=by
  rw [←hi]
  have:0≤(u/n1+1)*n0:=Int.mul_nonneg (by have:=Int.ediv_nonneg ua (show 0≤n1 by omega);omega) h.n0a
  have:=h.u1b
  omega
 have nn:=h.nn
 exact ⟨(u/n1 - (u*4294967296+u1)/y).toNat,by omega⟩
theorem jhs:SumOK Tryz.prog 182 (jq jeY):=by
 refine xi fun args v cs hF hc w=> ?_
 unfold jeY at hF
 split at hF
 ·rename_i h l y0
  cases hF
  simp only [jM,isU_iff,decide_eq_true_eq] at hc
  obtain ⟨⟨hh0,hh1⟩,⟨hl0,hl1⟩,⟨hy0,hy1⟩,hlt,-⟩:=hc
  have hypos:0<y0:=by omega
  have a1:(y0==0)=false:=by simp;omega
  have a2:decide (y0≤h)=false:=by simp;omega
  refine kN (jl sound8 Tryz.func182 (by kernel_rfl)) ?_
  by_cases hz:h=0
  ·subst hz
   have hv:jc 0 l=l:=by unfold jc;omega
   rw [hv]
   have q0:0≤l/y0:=Int.ediv_nonneg hl0 hy0
   have q1:l/y0≤l:=Int.ediv_le_self _ hl0
   refine ye (c:=jj Tryz.prog 182) (e:= .ret) (B:=⟨[(6,U (l/y0)),(7,U (l%y0))],[],0⟩) Tryz.func182 (by kernel_rfl) (Nat.le_of_ble_eq_true (by kernel_rfl)) (Nat.le_of_ble_eq_true (by kernel_rfl)) rfl ?_ (.inr rfl) (fun dead=>by kernel_rfl) rfl w
   refine To.weak (B:=⟨[6,7].zip [U (l/y0),U (l%y0)],[],0⟩) ?_ (fun _ h=>h) rfl rfl (jI (by rfl))
   refine To.run (z:=Zl) sound8 (nbB:=0) (blks:=[]) (bs:=[]) (fun dead=>dvZ dead 0 l y0) rfl (by rw [KP hl0,jcr hl0,zS,kw q0 (by omega)];rfl) rfl ?_ (jI (by rfl)) (Nat.le_refl _)
   simp only [jM,kT,a1,a2,decide_eq_false_iff_not,true_and,beq_self_eq_true]
   exact ⟨by omega,by omega,jd⟩
  ·obtain ⟨s0,s1,k0,k1⟩:=jcJ hypos hy1
   have w1:wr .u64 (lzV y0)=lzV y0:=kw s0 (by omega)
   have w2:wr .u64 (64 - lzV y0)=64 - lzV y0:=kw (by omega) (by omega)
   have w3:min (lzV y0).toNat IntKind.u64.bits=(lzV y0).toNat:=Xz s0 (by omega)
   have w4:min (64 - lzV y0).toNat IntKind.u64.bits=(64 - lzV y0).toNat:=Xz (by omega) (by omega)
   have hpq:jk (lzV y0).toNat*jk (64 - lzV y0).toNat=18446744073709551616:=by rw [←qT,←zZ];congr 1;omega
   obtain ⟨g1,g2,g3,g4,g5,g6,g7,g8⟩:=jjJ h l _ _ (j4 _) (j4 _) hpq hl0 hl1
   have hp:=j4 (lzV y0).toNat
   have hq:=j4 (64 - lzV y0).toNat
   have hior:=(jbn _ _ _ g8 g5 g6 g7).1
   generalize hsv:lzV y0=s at *
   generalize hpv:jk s.toNat=p at *
   generalize hqv:jk (64 - s).toNat=q at *
   have w5:wr .u64 (y0*p)=y0*p:=kw (by omega) k1
   have hVlt:jc h l*p<340282366920938463463374607431768211456:=by
    have e:jc h l<y0*18446744073709551616:=by
     unfold jc
     have:(h+1)*18446744073709551616≤y0*18446744073709551616:=Int.mul_le_mul_of_nonneg_right (by omega) (by omega)
     omega
    have e2:jc h l*p≤y0*18446744073709551616*p:=Int.mul_le_mul_of_nonneg_right (by omega) (by omega)
    have e3:y0*18446744073709551616*p=y0*p*18446744073709551616:=by grind
    rw [e3] at e2
    omega
   have hV0:0≤jc h l*p:=Int.mul_nonneg (by unfold jc;omega) (by omega)
   have hVm:jc h l*p%340282366920938463463374607431768211456=jc h l*p:=by omega
   rw [hVm] at g1 g2
   generalize hX:jc h l*p=X at *
   have x32:Int.ofNat ((u64 (wr .u64 (h*p))).toNat.lor (u64 (l/q)).toNat)=wHi X:=by rw [zS,g3,g1];exact hior
   have x10:wr .u64 (l*p)=wLo X:=by rw [zS,g4,g2]
   have u32b:wHi X<y0*p:=by
    have e:X<y0*p*18446744073709551616:=by
     rw [←hX]
     have e0:jc h l<y0*18446744073709551616:=by
      unfold jc
      have:(h+1)*18446744073709551616≤y0*18446744073709551616:=Int.mul_le_mul_of_nonneg_right (by omega) (by omega)
      omega
     have e2:jc h l*p<y0*18446744073709551616*p:=Int.mul_lt_mul_of_pos_right e0 hp
     have e3:y0*18446744073709551616*p=y0*p*18446744073709551616:=by grind
     omega
    unfold wHi;omega
   have xlo:=qk X
   have u0a:0≤wHi X:=by unfold wHi;omega
   have jpz:Int.ofNat ((u64 (wLo X)).toNat.land (u64 4294967295).toNat)=wLo X%4294967296:=ZU _ xlo.1 xlo.2
   have hyv0:9223372036854775808≤y0*p:=k0
   have land2:Int.ofNat ((u64 (y0*p)).toNat.land (u64 4294967295).toNat)=y0*p%4294967296:=ZU _ (by omega) k1
   generalize hY:y0*p=y at *
   have hDg1:Dg y (y/4294967296) (y%4294967296) (wHi X) (wLo X/4294967296):=⟨by omega,by omega,by omega,by omega,by omega,u0a,u32b,by omega,by omega⟩
   have hXv:X=(wHi X*4294967296+wLo X/4294967296)*4294967296+wLo X%4294967296:=by unfold wHi wLo;omega
   obtain ⟨D1,D2⟩:=jdB (V:=jc h l) (p:=p) (y0:=y0) (y:=y) hp hypos hY.symm (hX.trans hXv)
   generalize wHi X=u32 at *
   generalize hu1:wLo X/4294967296=u1 at *
   generalize hu0:wLo X%4294967296=u0 at *
   have hn1:y/jk (min (Int.toNat 32) IntKind.u64.bits)=y/4294967296:=by rw [KV]
   have hu0a:0≤u0∧u0<4294967296:=by omega
   obtain ⟨E1,E2,E3,E4,d1,E5⟩:=jjq hDg1 (by omega)
   generalize hN1:y/4294967296=n1 at *
   generalize hN0:y%4294967296=n0 at *
   obtain ⟨m1,r1,hR1⟩:=jnp (s:=s) (u0:=u0) hDg1 d1 _ _ E1 E2 E3 E4 E5
   have nn1:=hDg1.nn
   have lt1:=hDg1.lt
   have ypos:=hDg1.ypos
   have m0:=Int.emod_nonneg (u32*4294967296+u1) (show y≠0 by omega)
   have m1':=Int.emod_lt_of_pos (u32*4294967296+u1) ypos
   have emd:=Int.emod_add_mul_ediv (u32*4294967296+u1) y
   generalize hq1:(u32*4294967296+u1)/y=q1 at *
   generalize hu21:(u32*4294967296+u1)%y=u21 at *
   have hDg2:Dg y n1 n0 u21 u0:=⟨hDg1.yd,hDg1.n1a,hDg1.n1b,hDg1.n0a,hDg1.n0b,m0,m1',hu0a.1,hu0a.2⟩
   obtain ⟨F1,F2,F3,F4,d2,F5⟩:=jjq hDg2 (by omega)
   obtain ⟨m2,r2,hR2⟩:=jnq (s:=s) (q1:=q1) hDg2 d2 _ _ F1 F2 F3 F4 F5
   have nn2:=hDg2.nn
   have lt2:=hDg2.lt
   have m2a:=Int.emod_nonneg (u21*4294967296+u0) (show y≠0 by omega)
   have m2b:=Int.emod_lt_of_pos (u21*4294967296+u0) ypos
   have emd2:=Int.emod_add_mul_ediv (u21*4294967296+u0) y
   have n1a:=hDg1.n1a
   have n1b:=hDg1.n1b
   have v1:wr .u64 (u32.tdiv n1)=u32/n1:=by rw [KP u0a,zS];exact kw (Int.ediv_nonneg u0a (by omega)) (by omega)
   have v2:wr .u64 (u32 - wr .u64 (u32/n1*n1))=u32%n1:=by
    simp only [zS]
    generalize u32/n1*n1=t at *
    unfold u64;omega
   have v3:wr .u64 (wr .u64 (wr .u64 (u32*4294967296)+u1) - wr .u64 (q1*y))=u21:=by
    simp only [zS]
    have e:y*q1=q1*y:=Int.mul_comm _ _
    rw [e] at emd
    generalize q1*y=t at *
    unfold u64;omega
   have v4:wr .u64 (u21.tdiv n1)=u21/n1:=by rw [KP m0,zS];exact kw (Int.ediv_nonneg m0 (by omega)) (by omega)
   have v5:wr .u64 (u21 - wr .u64 (u21/n1*n1))=u21%n1:=by
    simp only [zS]
    generalize u21/n1*n1=t at *
    unfold u64;omega
   have v6:wr .u64 (wr .u64 (q1*4294967296)+(u21*4294967296+u0)/y)=jc h l/y0:=by
    rw [←D1]
    simp only [zS]
    unfold u64;omega
   have v7:wr .u64 (wr .u64 (wr .u64 (u21*4294967296)+u0) - wr .u64 ((u21*4294967296+u0)/y*y))/p=jc h l%y0:=by
    rw [←D2]
    congr 1
    simp only [zS]
    have e:y*((u21*4294967296+u0)/y)=(u21*4294967296+u0)/y*y:=Int.mul_comm _ _
    rw [e] at emd2
    generalize (u21*4294967296+u0)/y*y=t at *
    unfold u64;omega
   refine ye (c:=jj Tryz.prog 182) (e:= .ret) (B:=⟨[(6,U (jc h l/y0)),(7,U (jc h l%y0))],[],0⟩) Tryz.func182 (by kernel_rfl) (Nat.le_of_ble_eq_true (by kernel_rfl)) (Nat.le_of_ble_eq_true (by kernel_rfl)) rfl ?_ (.inr rfl) (fun dead=>by kernel_rfl) rfl w
   refine To.spineR (z:=Zl) sound8 (k:=14) (nbB:=0) (blks:=[]) (bs:=[]) (by kernel_rfl) (fun dead=>dvA dead h l y0) rfl
    (vs:=[U y,U s,U n1,U n0,U u32,U u1,U u0,U (u32/n1),U (u32%n1)]) ?_ rfl ?_ (jI (by rfl)) (Nat.le_refl _) ?_
   ·simp only [hsv,w1,w2,w3,w4,hpv,hqv,w5,hY,x32,x10,KV,jpz,land2,hN1,hu1,hu0,hN0,v1,v2]
    rfl
   ·simp only [hsv,w1,w2,w3,w4,hpv,hqv,w5,hY,KV,hN1,jM,kT,isU_iff,decide_eq_true_eq,a1,a2,decide_eq_false_iff_not,true_and]
    refine ⟨by omega,by omega,by omega,by omega,by omega,⟨hy0,hy1⟩,hypos,by simpa using hz,jd⟩
   ·refine To.seq (by kernel_rfl) (To.block (id:=0) (by kernel_rfl) (To.loop (by kernel_rfl) hR1) (.inl rfl)) ?_
    refine To.spineR (z:=Zl) sound8 (k:=3) (nbB:=0) (blks:=[]) (bs:=[]) (by kernel_rfl) (fun dead=>dvM dead y s n1 n0 u32 u1 u0 q1 r1) rfl
     (vs:=[U y,U s,U n1,U n0,U u0,U q1,U u21,U (u21/n1),U (u21%n1)]) ?_ rfl ?_ (jI (by rfl)) (Nat.le_refl _) ?_
    ·simp only [v3,v4,v5];rfl
    ·simp only [kT,decide_eq_false_iff_not];exact ⟨by omega,jd⟩
    ·refine To.seq (by kernel_rfl) (To.block (id:=2) (by kernel_rfl) (To.loop (by kernel_rfl) hR2) (.inl rfl)) ?_
     refine To.weak (B:=⟨[6,7].zip [U (jc h l/y0),U (jc h l%y0)],[],0⟩) ?_ (fun _ h=>h) rfl rfl (jI (by rfl))
     refine To.run (z:=Zl) sound8 (nbB:=0) (blks:=[]) (bs:=[]) (fun dead=>dvE dead y s n1 n0 u0 q1 u21 _ r2) rfl ?_ rfl ?_ (jI (by rfl)) (Nat.le_refl _)
     ·simp only [w3,hpv,v6,v7];rfl
     ·simp only [kT,decide_eq_false_iff_not];exact ⟨by omega,jd⟩
 ·cases hF
def S9:FuncId→Option SumK:=more (more S8 138 (jq jim)) 182 (jq jeY)
theorem jjr:Sound Tryz.prog S9:=(sound8.more sumRoot).more jhs
end Go.Proofs.YtbpfipbhaagllaaGreat

/- wide.Div: by every path of its run (printed), and what it comes to. -/
namespace Go.Proofs.YtbpfipbhaagllaaGreat
open Go.Lr
theorem jqu (x y d:Int):(jG Tryz.prog S9 Zl 2000 136 [.v (.agg [.int .i64 x,.int .u64 y]),.v (.one (.int .i64 d))] [] 0 [some true]).map (fun r=>(r.1,r.2.2.2))=some (LV.tup [V1.one (At.int .i64 0),V1.one (At.bool false)],[(d==0,true)]):=by kernel_rfl
theorem jqv (x y d:Int):(jG Tryz.prog S9 Zl 2000 136 [.v (.agg [.int .i64 x,.int .u64 y]),.v (.one (.int .i64 d))] [] 0 [some false,some true]).map (fun r=>(r.1,r.2.2.2))=some (LV.tup [V1.one (At.int .i64 (if isI (sgn (!decide (jc x y<0)==decide (d<0)) (jc (wHi ((jc (wr IntKind.u64 ((wHi (jh (jc x y))).tdiv (jh d))) (jc ((wHi (jh (jc x y))).tmod (jh d)) (wLo (jh (jc x y)))/jh d)+jc 0 1)%340282366920938463463374607431768211456)) (wLo ((jc (wr IntKind.u64 ((wHi (jh (jc x y))).tdiv (jh d))) (jc ((wHi (jh (jc x y))).tmod (jh d)) (wLo (jh (jc x y)))/jh d)+jc 0 1)%340282366920938463463374607431768211456))))=true then sgn (!decide (jc x y<0)==decide (d<0)) (jc (wHi ((jc (wr IntKind.u64 ((wHi (jh (jc x y))).tdiv (jh d))) (jc ((wHi (jh (jc x y))).tmod (jh d)) (wLo (jh (jc x y)))/jh d)+jc 0 1)%340282366920938463463374607431768211456)) (wLo ((jc (wr IntKind.u64 ((wHi (jh (jc x y))).tdiv (jh d))) (jc ((wHi (jh (jc x y))).tmod (jh d)) (wLo (jh (jc x y)))/jh d)+jc 0 1)%340282366920938463463374607431768211456))) else 0)),V1.one (At.bool (isI (sgn (!decide (jc x y<0)==decide (d<0)) (jc (wHi ((jc (wr IntKind.u64 ((wHi (jh (jc x y))).tdiv (jh d))) (jc ((wHi (jh (jc x y))).tmod (jh d)) (wLo (jh (jc x y)))/jh d)+jc 0 1)%340282366920938463463374607431768211456)) (wLo ((jc (wr IntKind.u64 ((wHi (jh (jc x y))).tdiv (jh d))) (jc ((wHi (jh (jc x y))).tmod (jh d)) (wLo (jh (jc x y)))/jh d)+jc 0 1)%340282366920938463463374607431768211456))))))],[(isU (wHi ((jc (wr IntKind.u64 ((wHi (jh (jc x y))).tdiv (jh d))) (jc ((wHi (jh (jc x y))).tmod (jh d)) (wLo (jh (jc x y)))/jh d)+jc 0 1)%340282366920938463463374607431768211456)),true),(isU (wLo ((jc (wr IntKind.u64 ((wHi (jh (jc x y))).tdiv (jh d))) (jc ((wHi (jh (jc x y))).tmod (jh d)) (wLo (jh (jc x y)))/jh d)+jc 0 1)%340282366920938463463374607431768211456)),true),(isU (wr IntKind.u64 ((wHi (jh (jc x y))).tdiv (jh d))),true),(isU (jc ((wHi (jh (jc x y))).tmod (jh d)) (wLo (jh (jc x y)))/jh d),true),(isU 0,true),(isU 1,true),(decide (jc ((wHi (jh (jc x y))).tmod (jh d)) (wLo (jh (jc x y)))%jh d≥wr IntKind.u64 (jh d - jc ((wHi (jh (jc x y))).tmod (jh d)) (wLo (jh (jc x y)))%jh d)),true),(isU ((wHi (jh (jc x y))).tmod (jh d)),true),(isU (wLo (jh (jc x y))),true),(isU (jh d),true),(decide ((wHi (jh (jc x y))).tmod (jh d)<jh d),true),(decide (jh d=0),false),(decide (jh d=0),false),(isI d,true),(isI x,true),(isU y,true),(d==0,false)]):=by kernel_rfl
theorem jqw (x y d:Int):(jG Tryz.prog S9 Zl 2000 136 [.v (.agg [.int .i64 x,.int .u64 y]),.v (.one (.int .i64 d))] [] 0 [some false,some false]).map (fun r=>(r.1,r.2.2.2))=some (LV.tup [V1.one (At.int .i64 (if isI (sgn (!decide (jc x y<0)==decide (d<0)) (jc (wr IntKind.u64 ((wHi (jh (jc x y))).tdiv (jh d))) (jc ((wHi (jh (jc x y))).tmod (jh d)) (wLo (jh (jc x y)))/jh d)))=true then sgn (!decide (jc x y<0)==decide (d<0)) (jc (wr IntKind.u64 ((wHi (jh (jc x y))).tdiv (jh d))) (jc ((wHi (jh (jc x y))).tmod (jh d)) (wLo (jh (jc x y)))/jh d)) else 0)),V1.one (At.bool (isI (sgn (!decide (jc x y<0)==decide (d<0)) (jc (wr IntKind.u64 ((wHi (jh (jc x y))).tdiv (jh d))) (jc ((wHi (jh (jc x y))).tmod (jh d)) (wLo (jh (jc x y)))/jh d)))))],[(isU (wr IntKind.u64 ((wHi (jh (jc x y))).tdiv (jh d))),true),(isU (jc ((wHi (jh (jc x y))).tmod (jh d)) (wLo (jh (jc x y)))/jh d),true),(decide (jc ((wHi (jh (jc x y))).tmod (jh d)) (wLo (jh (jc x y)))%jh d≥wr IntKind.u64 (jh d - jc ((wHi (jh (jc x y))).tmod (jh d)) (wLo (jh (jc x y)))%jh d)),false),(isU ((wHi (jh (jc x y))).tmod (jh d)),true),(isU (wLo (jh (jc x y))),true),(isU (jh d),true),(decide ((wHi (jh (jc x y))).tmod (jh d)<jh d),true),(decide (jh d=0),false),(decide (jh d=0),false),(isI d,true),(isI x,true),(isU y,true),(d==0,false)]):=by kernel_rfl
def jjd (x y d:Int):Option (LV×List (Bool×Bool)):=
 bif (d==0) then some (LV.tup [V1.one (At.int .i64 0),V1.one (At.bool false)],[])
 else
  bif (decide (jc ((wHi (jh (jc x y))).tmod (jh d)) (wLo (jh (jc x y)))%jh d≥wr IntKind.u64 (jh d - jc ((wHi (jh (jc x y))).tmod (jh d)) (wLo (jh (jc x y)))%jh d))) then some (LV.tup [V1.one (At.int .i64 (if isI (sgn (!decide (jc x y<0)==decide (d<0)) (jc (wHi ((jc (wr IntKind.u64 ((wHi (jh (jc x y))).tdiv (jh d))) (jc ((wHi (jh (jc x y))).tmod (jh d)) (wLo (jh (jc x y)))/jh d)+jc 0 1)%340282366920938463463374607431768211456)) (wLo ((jc (wr IntKind.u64 ((wHi (jh (jc x y))).tdiv (jh d))) (jc ((wHi (jh (jc x y))).tmod (jh d)) (wLo (jh (jc x y)))/jh d)+jc 0 1)%340282366920938463463374607431768211456))))=true then sgn (!decide (jc x y<0)==decide (d<0)) (jc (wHi ((jc (wr IntKind.u64 ((wHi (jh (jc x y))).tdiv (jh d))) (jc ((wHi (jh (jc x y))).tmod (jh d)) (wLo (jh (jc x y)))/jh d)+jc 0 1)%340282366920938463463374607431768211456)) (wLo ((jc (wr IntKind.u64 ((wHi (jh (jc x y))).tdiv (jh d))) (jc ((wHi (jh (jc x y))).tmod (jh d)) (wLo (jh (jc x y)))/jh d)+jc 0 1)%340282366920938463463374607431768211456))) else 0)),V1.one (At.bool (isI (sgn (!decide (jc x y<0)==decide (d<0)) (jc (wHi ((jc (wr IntKind.u64 ((wHi (jh (jc x y))).tdiv (jh d))) (jc ((wHi (jh (jc x y))).tmod (jh d)) (wLo (jh (jc x y)))/jh d)+jc 0 1)%340282366920938463463374607431768211456)) (wLo ((jc (wr IntKind.u64 ((wHi (jh (jc x y))).tdiv (jh d))) (jc ((wHi (jh (jc x y))).tmod (jh d)) (wLo (jh (jc x y)))/jh d)+jc 0 1)%340282366920938463463374607431768211456))))))],[(isU (wHi ((jc (wr IntKind.u64 ((wHi (jh (jc x y))).tdiv (jh d))) (jc ((wHi (jh (jc x y))).tmod (jh d)) (wLo (jh (jc x y)))/jh d)+jc 0 1)%340282366920938463463374607431768211456)),true),(isU (wLo ((jc (wr IntKind.u64 ((wHi (jh (jc x y))).tdiv (jh d))) (jc ((wHi (jh (jc x y))).tmod (jh d)) (wLo (jh (jc x y)))/jh d)+jc 0 1)%340282366920938463463374607431768211456)),true),(isU (wr IntKind.u64 ((wHi (jh (jc x y))).tdiv (jh d))),true),(isU (jc ((wHi (jh (jc x y))).tmod (jh d)) (wLo (jh (jc x y)))/jh d),true),(isU 0,true),(isU 1,true),(isU ((wHi (jh (jc x y))).tmod (jh d)),true),(isU (wLo (jh (jc x y))),true),(isU (jh d),true),(decide ((wHi (jh (jc x y))).tmod (jh d)<jh d),true),(decide (jh d=0),false),(isI d,true),(isI x,true),(isU y,true)])
  else some (LV.tup [V1.one (At.int .i64 (if isI (sgn (!decide (jc x y<0)==decide (d<0)) (jc (wr IntKind.u64 ((wHi (jh (jc x y))).tdiv (jh d))) (jc ((wHi (jh (jc x y))).tmod (jh d)) (wLo (jh (jc x y)))/jh d)))=true then sgn (!decide (jc x y<0)==decide (d<0)) (jc (wr IntKind.u64 ((wHi (jh (jc x y))).tdiv (jh d))) (jc ((wHi (jh (jc x y))).tmod (jh d)) (wLo (jh (jc x y)))/jh d)) else 0)),V1.one (At.bool (isI (sgn (!decide (jc x y<0)==decide (d<0)) (jc (wr IntKind.u64 ((wHi (jh (jc x y))).tdiv (jh d))) (jc ((wHi (jh (jc x y))).tmod (jh d)) (wLo (jh (jc x y)))/jh d)))))],[(isU (wr IntKind.u64 ((wHi (jh (jc x y))).tdiv (jh d))),true),(isU (jc ((wHi (jh (jc x y))).tmod (jh d)) (wLo (jh (jc x y)))/jh d),true),(isU ((wHi (jh (jc x y))).tmod (jh d)),true),(isU (wLo (jh (jc x y))),true),(isU (jh d),true),(decide ((wHi (jh (jc x y))).tmod (jh d)<jh d),true),(decide (jh d=0),false),(isI d,true),(isI x,true),(isU y,true)])
def jqx:List LV→Option (LV×List (Bool×Bool))
 | [.v (.agg [.int .i64 x,.int .u64 y]),.v (.one (.int .i64 d))]=>jjd x y d
 | _=>none
theorem sumwdiv:SumOK Tryz.prog 136 (jq jqx):=by
 refine jC (z:=Zl) jjr (jl jjr Tryz.func136 (by kernel_rfl)) fun args v cs hF hc=> ?_
 unfold jqx at hF
 split at hF
 ·rename_i x y d
  unfold jjd at hF
  rcases ji (d==0) with h0 | h0
  ·rw [jy h0] at hF
   cases hF
   exact ⟨2000,[some true],_,jqu x y d,ja (h0) (jd)⟩
  ·rw [jv h0] at hF
   rcases ji (decide (jc ((wHi (jh (jc x y))).tmod (jh d)) (wLo (jh (jc x y)))%jh d≥wr IntKind.u64 (jh d - jc ((wHi (jh (jc x y))).tmod (jh d)) (wLo (jh (jc x y)))%jh d))) with h1 | h1
   ·rw [jy h1] at hF
    cases hF
    exact ⟨2000,[some false,some true],_,jqv x y d,ja (jt (hc)) (ja (jt (jg (hc))) (ja (jt (jg (jg (hc)))) (ja (jt (jg (jg (jg (hc))))) (ja (jt (jg (jg (jg (jg (hc)))))) (ja (jt (jg (jg (jg (jg (jg (hc))))))) (ja (h1) (ja (jt (jg (jg (jg (jg (jg (jg (hc)))))))) (ja (jt (jg (jg (jg (jg (jg (jg (jg (hc))))))))) (ja (jt (jg (jg (jg (jg (jg (jg (jg (jg (hc)))))))))) (ja (jt (jg (jg (jg (jg (jg (jg (jg (jg (jg (hc))))))))))) (ja (jt (jg (jg (jg (jg (jg (jg (jg (jg (jg (jg (hc)))))))))))) (ja (jt (jg (jg (jg (jg (jg (jg (jg (jg (jg (jg (hc)))))))))))) (ja (jt (jg (jg (jg (jg (jg (jg (jg (jg (jg (jg (jg (hc))))))))))))) (ja (jt (jg (jg (jg (jg (jg (jg (jg (jg (jg (jg (jg (jg (hc)))))))))))))) (ja (jt (jg (jg (jg (jg (jg (jg (jg (jg (jg (jg (jg (jg (jg (hc))))))))))))))) (ja (h0) (jd)))))))))))))))))⟩
   ·rw [jv h1] at hF
    cases hF
    exact ⟨2000,[some false,some false],_,jqw x y d,ja (jt (hc)) (ja (jt (jg (hc))) (ja (h1) (ja (jt (jg (jg (hc)))) (ja (jt (jg (jg (jg (hc))))) (ja (jt (jg (jg (jg (jg (hc)))))) (ja (jt (jg (jg (jg (jg (jg (hc))))))) (ja (jt (jg (jg (jg (jg (jg (jg (hc)))))))) (ja (jt (jg (jg (jg (jg (jg (jg (hc)))))))) (ja (jt (jg (jg (jg (jg (jg (jg (jg (hc))))))))) (ja (jt (jg (jg (jg (jg (jg (jg (jg (jg (hc)))))))))) (ja (jt (jg (jg (jg (jg (jg (jg (jg (jg (jg (hc))))))))))) (ja (h0) (jd)))))))))))))⟩
 ·cases hF
theorem jje {B b:Int} (hb:0<b):jc (wHi B/b) (jc (wHi B%b) (wLo B)/b)=B/b∧jc (wHi B%b) (wLo B)%b=B%b:=by
 have e1:=Int.emod_add_mul_ediv (wHi B) b
 have e2:=Int.emod_add_mul_ediv (jc (wHi B%b) (wLo B)) b
 have m0:=Int.emod_nonneg (jc (wHi B%b) (wLo B)) (show b≠0 by omega)
 have m1:=Int.emod_lt_of_pos (jc (wHi B%b) (wLo B)) hb
 have e3:=jJ B
 generalize hq:wHi B/b=q at *
 generalize hr:wHi B%b=r at *
 generalize ht:jc r (wLo B)/b=t at *
 generalize hs:jc r (wLo B)%b=s at *
 have e4:B=jc q t*b+s:=by
  have:B=wHi B*18446744073709551616+wLo B:=by rw [←e3];simp only [jlt _ _ (qk B).1 (qk B).2,jlu _ _ (qk B).1 (qk B).2];rfl
  rw [this,←e1]
  have e5:jc r (wLo B)=r*18446744073709551616+wLo B:=rfl
  rw [e5] at e2
  unfold jc
  grind
 exact ⟨(z0 e4 m0 m1).symm,(qG e4 m0 m1).symm⟩
def ju9:List LV→Option (LV×List (Bool×Bool))
 | [.v (.agg [.int .i64 x,.int .u64 y]),.v (.one (.int .i64 d))]=>
  bif (d==0) then some (.tup [.one (.int .i64 0),.one (.bool false)],[])
  else some (.tup [.one (.int .i64 (if isI (yh (jc x y) d)=true then yh (jc x y) d else 0)),.one (.bool (isI (yh (jc x y) d)))],[(isI x,true),(isU y,true),(isI d,true)])
 | _=>none
theorem sumDiv:SumOK Tryz.prog 136 (jq ju9):=by
 refine sumwdiv.pure_re fun args v cs hF hc=> ?_
 unfold ju9 at hF
 split at hF
 ·rename_i x y d
  rcases ji (d==0) with hd | hd
  ·rw [jy hd] at hF
   cases hF
   exact ⟨[],jy hd,jd⟩
  ·rw [jv hd] at hF
   cases hF
   simp only [jM,isI_iff,isU_iff] at hc
   obtain ⟨⟨hx0,hx1⟩,⟨hy0,hy1⟩,⟨hd0,hd1⟩,-⟩:=hc
   show ∃cs',jjd x y d=_∧_
   have hdn:d≠0:=by simpa using hd
   have hv0: -170141183460469231731687303715884105728≤jc x y:=by unfold jc;omega
   have hv1:jc x y<170141183460469231731687303715884105728:=by unfold jc;omega
   have hB0:=xt (jc x y)
   have hB1:jh (jc x y)≤170141183460469231731687303715884105728:=by unfold jh;split <;> omega
   have hb0:0<jh d:=by unfold jh;split <;> omega
   have hb1:jh d≤9223372036854775808:=jrh hd0 hd1
   have hdef:yh (jc x y) d=sgn (!decide (jc x y<0)==decide (d<0)) (jdT (jh (jc x y)) (jh d)):=rfl
   rw [hdef]
   unfold jjd
   rw [jv hd]
   generalize jh (jc x y)=B at *
   generalize jh d=b at *
   have hh:=jpe B hB0 (by omega)
   have hl:=qk B
   obtain ⟨L1,L2⟩:=jje (B:=B) hb0
   have m0:=Int.emod_nonneg (wHi B) (show b≠0 by omega)
   have m1:=Int.emod_lt_of_pos (wHi B) hb0
   have t1:(wHi B).tmod b=wHi B%b:=jcr hh.1
   have t2:(wHi B).tdiv b=wHi B/b:=KP hh.1
   have d0:0≤wHi B/b:=Int.ediv_nonneg hh.1 (by omega)
   have d1:wHi B/b≤wHi B:=Int.ediv_le_self _ hh.1
   have t3:wr .u64 (wHi B/b)=wHi B/b:=kw d0 (by omega)
   have c0:0≤jc (wHi B%b) (wLo B):=by unfold jc;omega
   have q0:0≤jc (wHi B%b) (wLo B)/b:=Int.ediv_nonneg c0 (by omega)
   have q1:jc (wHi B%b) (wLo B)/b<18446744073709551616:=by
    refine Int.ediv_lt_of_lt_mul hb0 ?_
    have:(wHi B%b+1)*18446744073709551616≤b*18446744073709551616:=Int.mul_le_mul_of_nonneg_right (by omega) (by omega)
    unfold jc
    rw [Int.mul_comm 18446744073709551616 b]
    omega
   have r0:=Int.emod_nonneg B (show b≠0 by omega)
   have r1:=Int.emod_lt_of_pos B hb0
   have t4:wr .u64 (b - B%b)=b - B%b:=kw (by omega) (by omega)
   have Q0:0≤B/b:=Int.ediv_nonneg hB0 (by omega)
   have Q1:B/b≤B:=Int.ediv_le_self _ hB0
   have e01:jc 0 1=1:=rfl
   have t5:(B/b+1)%340282366920938463463374607431768211456=B/b+1:=by omega
   simp only [t1,t2,t3,L1,L2,t4,e01,t5,jJ]
   by_cases hr:B%b≥b - B%b
   ·rw [jy (decide_eq_true hr)]
    have eq:jdT B b=B/b+1:=if_pos hr
    rw [eq]
    refine ⟨_,rfl, ?_⟩
    simp only [jM,kT,isU_iff,isI_iff,decide_eq_true_eq,decide_eq_false_iff_not]
    repeat' apply And.intro
    all_goals first | exact jd | (unfold wHi;omega) | (unfold wLo;omega) | omega
   ·rw [jv (decide_eq_false hr)]
    have eq:jdT B b=B/b:=if_neg hr
    rw [eq]
    refine ⟨_,rfl, ?_⟩
    simp only [jM,kT,isU_iff,isI_iff,decide_eq_true_eq,decide_eq_false_iff_not]
    repeat' apply And.intro
    all_goals first | exact jd | (unfold wHi;omega) | (unfold wLo;omega) | omega
 ·cases hF
end Go.Proofs.YtbpfipbhaagllaaGreat

/- fx: the table of what is known so far. -/
namespace Go.Proofs.YtbpfipbhaagllaaGreat
open Go.Lr
def jky:List LV→Option (LV×List (Bool×Bool))
 | [.v (.agg [.int .i64 x,.int .u64 y]),.v (.one (.int .i64 d))]=>
  some (.tup [.one (.int .i64 (if isI (yh (jc x y) d)=true then yh (jc x y) d else 0)),.one (.bool (isI (yh (jc x y) d)))],[(d==0,false),(isI x,true),(isU y,true),(isI d,true)])
 | _=>none
theorem jkz:SumOK Tryz.prog 136 (jq jky):=by
 refine sumDiv.pure_re fun args v cs hF hc=> ?_
 unfold jky at hF
 split at hF
 ·cases hF
  exact ⟨_,jv (jt hc),jg hc⟩
 ·cases hF
def jfl:List LV→Option (LV×List (Bool×Bool))
 | [.v (.agg [.int .i64 x,.int .u64 y])]=>
  some (.tup [.one (.int .i64 (if isI (kf (jc x y))=true then kf (jc x y) else 0)),.one (.bool (isI (kf (jc x y))))],[(decide (x<0),false),(isI x,true),(isU y,true)])
 | _=>none
theorem jhB:SumOK Tryz.prog 138 (jq jfl):=by
 refine sumRoot.pure_re fun args v cs hF hc=> ?_
 unfold jfl at hF
 split at hF
 ·rename_i x y
  cases hF
  have h0:=jt hc
  refine ⟨[(isI x,true),(isU y,true)], ?_,jg hc⟩
  simp only [jim,h0]
 ·cases hF
def S11:FuncId→Option SumK:=more (more (more (more S8 138 (jq jfl)) 136 (jq jky)) 72 (js 63 jcu)) 73 (js 63 jr3)
theorem sound11:Sound Tryz.prog S11:=(((sound8.more jhB).more jkz).more jcv).more jnB
end Go.Proofs.YtbpfipbhaagllaaGreat

/- fx: end, Sub, Abs, by every path of their runs (printed), and what they come to. -/
namespace Go.Proofs.YtbpfipbhaagllaaGreat
open Go.Lr
theorem jnC (a:Int) (ok neg:Bool) (hb:Bool):(jG Tryz.prog S11 Zl 2000 134 [A0,.v (.one (.int .i64 a)),.v (.one (.bool ok)),.v (.one (.bool neg))] [(0,flag 63 hb)] 1 [some true,some true]).map kU=some (LV.v (V1.one (At.int .i64 (-1152921504606846976))),some { ty:=63,fr:=(0,0),es:=0,cells:=[At.bool true] },[(neg,true),(!ok,true)]):=by kernel_rfl
theorem jnD (a:Int) (ok neg:Bool) (hb:Bool):(jG Tryz.prog S11 Zl 2000 134 [A0,.v (.one (.int .i64 a)),.v (.one (.bool ok)),.v (.one (.bool neg))] [(0,flag 63 hb)] 1 [some true,some false]).map kU=some (LV.v (V1.one (At.int .i64 1152921504606846976)),some { ty:=63,fr:=(0,0),es:=0,cells:=[At.bool true] },[(neg,false),(!ok,true)]):=by kernel_rfl
theorem jnE (a:Int) (ok neg:Bool) (hb:Bool):(jG Tryz.prog S11 Zl 2000 134 [A0,.v (.one (.int .i64 a)),.v (.one (.bool ok)),.v (.one (.bool neg))] [(0,flag 63 hb)] 1 [some false]).map kU=some (LV.v (V1.one (At.int .i64 (jf a))),some { ty:=63,fr:=(0,0),es:=0,cells:=[At.bool (hb||jL a)] },[(!ok,false)]):=by kernel_rfl
def jhC (a:Int) (ok neg:Bool) (hb:Bool):Option (LV×Bool×List (Bool×Bool)):=
 bif (!ok) then
  bif (neg) then some (LV.v (V1.one (At.int .i64 (-1152921504606846976))),(true),[])
  else some (LV.v (V1.one (At.int .i64 1152921504606846976)),(true),[])
 else some (LV.v (V1.one (At.int .i64 (jf a))),(hb||jL a),[])
def jnF:List LV→Bool→Option (LV×Bool×List (Bool×Bool))
 | [.v (.one (.int .i64 a)),.v (.one (.bool ok)),.v (.one (.bool neg))],hb=>jhC a ok neg hb
 | _,_=>none
theorem sumxend:SumOK Tryz.prog 134 (js 63 jnF):=by
 refine jF (z:=Zl) sound11 (jl sound11 Tryz.func134 (by kernel_rfl)) fun args hb v h' cs hF hc=> ?_
 unfold jnF at hF
 split at hF
 ·rename_i a ok neg
  unfold jhC at hF
  rcases ji (!ok) with h0 | h0
  ·rw [jy h0] at hF
   rcases ji (neg) with h1 | h1
   ·rw [jy h1] at hF
    cases hF
    exact ⟨rfl,2000,[some true,some true],_,jnC a ok neg hb,ja (h1) (ja (h0) (jd))⟩
   ·rw [jv h1] at hF
    cases hF
    exact ⟨rfl,2000,[some true,some false],_,jnD a ok neg hb,ja (h1) (ja (h0) (jd))⟩
  ·rw [jv h0] at hF
   cases hF
   exact ⟨rfl,2000,[some false],_,jnE a ok neg hb,ja (h0) (jd)⟩
 ·cases hF
theorem jnG (a b:Int) (hb:Bool):(jG Tryz.prog S11 Zl 2000 144 [A0,.v (.one (.int .i64 a)),.v (.one (.int .i64 b))] [(0,flag 63 hb)] 1 []).map kU=some (LV.v (V1.one (At.int .i64 (jf (wr .i64 (jf a - jf b))))),some { ty:=63,fr:=(0,0),es:=0,cells:=[At.bool (hb||jL a||jL b||jL (wr .i64 (jf a - jf b)))] },[]):=by kernel_rfl
def jhD (a b:Int) (hb:Bool):Option (LV×Bool×List (Bool×Bool)):=some (LV.v (V1.one (At.int .i64 (jf (wr .i64 (jf a - jf b))))),(hb||jL a||jL b||jL (wr .i64 (jf a - jf b))),[])
def jnH:List LV→Bool→Option (LV×Bool×List (Bool×Bool))
 | [.v (.one (.int .i64 a)),.v (.one (.int .i64 b))],hb=>jhD a b hb
 | _,_=>none
theorem sumxsub:SumOK Tryz.prog 144 (js 63 jnH):=by
 refine jF (z:=Zl) sound11 (jl sound11 Tryz.func144 (by kernel_rfl)) fun args hb v h' cs hF hc=> ?_
 unfold jnH at hF
 split at hF
 ·rename_i a b
  unfold jhD at hF
  cases hF
  exact ⟨rfl,2000,[],_,jnG a b hb,jd⟩
 ·cases hF
theorem jnI (a:Int):(jG Tryz.prog S11 Zl 2000 65 [.v (.one (.int .i64 a))] [] 0 [some true,some true,some true,none]).map (fun r=>(r.1,r.2.2.2))=some (LV.v (V1.one (At.int .i64 1152921504606846976)),[(decide (a≥1152921504606846976),true),(decide (a≥1152921504606846976),true),(decide (a≥1152921504606846976),true)]):=by kernel_rfl
theorem jnJ (a:Int):(jG Tryz.prog S11 Zl 2000 65 [.v (.one (.int .i64 a))] [] 0 [some false,some false,some false,some true]).map (fun r=>(r.1,r.2.2.2))=some (LV.v (V1.one (At.int .i64 1152921504606846976)),[(decide (a≤ -1152921504606846976),true),(decide (a≥1152921504606846976),false),(decide (a≥1152921504606846976),false),(decide (a≥1152921504606846976),false)]):=by kernel_rfl
theorem jnK (a:Int):(jG Tryz.prog S11 Zl 2000 65 [.v (.one (.int .i64 a))] [] 0 [some false,some false,some false,some false,some true]).map (fun r=>(r.1,r.2.2.2))=some (LV.v (V1.one (At.int .i64 (wr .i64 (0 - a)))),[(decide (a<0),true),(decide (a≤ -1152921504606846976),false),(decide (a≥1152921504606846976),false),(decide (a≥1152921504606846976),false),(decide (a≥1152921504606846976),false)]):=by kernel_rfl
theorem jnL (a:Int):(jG Tryz.prog S11 Zl 2000 65 [.v (.one (.int .i64 a))] [] 0 [some false,some false,some false,some false,some false]).map (fun r=>(r.1,r.2.2.2))=some (LV.v (V1.one (At.int .i64 a)),[(decide (a<0),false),(decide (a≤ -1152921504606846976),false),(decide (a≥1152921504606846976),false),(decide (a≥1152921504606846976),false),(decide (a≥1152921504606846976),false)]):=by kernel_rfl
def jhE (a:Int):Option (LV×List (Bool×Bool)):=
 bif (decide (a≥1152921504606846976)) then some (LV.v (V1.one (At.int .i64 1152921504606846976)),[])
 else
  bif (decide (a≤ -1152921504606846976)) then some (LV.v (V1.one (At.int .i64 1152921504606846976)),[])
  else
   bif (decide (a<0)) then some (LV.v (V1.one (At.int .i64 (wr .i64 (0 - a)))),[])
   else some (LV.v (V1.one (At.int .i64 a)),[])
def jnM:List LV→Option (LV×List (Bool×Bool))
 | [.v (.one (.int .i64 a))]=>jhE a
 | _=>none
theorem sumxabs:SumOK Tryz.prog 65 (jq jnM):=by
 refine jC (z:=Zl) sound11 (jl sound11 Tryz.func65 (by kernel_rfl)) fun args v cs hF hc=> ?_
 unfold jnM at hF
 split at hF
 ·rename_i a
  unfold jhE at hF
  rcases ji (decide (a≥1152921504606846976)) with h0 | h0
  ·rw [jy h0] at hF
   cases hF
   exact ⟨2000,[some true,some true,some true,none],_,jnI a,ja (h0) (ja (h0) (ja (h0) (jd)))⟩
  ·rw [jv h0] at hF
   rcases ji (decide (a≤ -1152921504606846976)) with h1 | h1
   ·rw [jy h1] at hF
    cases hF
    exact ⟨2000,[some false,some false,some false,some true],_,jnJ a,ja (h1) (ja (h0) (ja (h0) (ja (h0) (jd))))⟩
   ·rw [jv h1] at hF
    rcases ji (decide (a<0)) with h2 | h2
    ·rw [jy h2] at hF
     cases hF
     exact ⟨2000,[some false,some false,some false,some false,some true],_,jnK a,ja (h2) (ja (h1) (ja (h0) (ja (h0) (ja (h0) (jd)))))⟩
    ·rw [jv h2] at hF
     cases hF
     exact ⟨2000,[some false,some false,some false,some false,some false],_,jnL a,ja (h2) (ja (h1) (ja (h0) (ja (h0) (ja (h0) (jd)))))⟩
 ·cases hF
theorem yF (a:Int): -1152921504606846976≤jf a∧jf a≤1152921504606846976:=by
 unfold jf jw;(repeat' split) <;> omega
theorem Jw {a:Int} (h0: -1152921504606846976≤a) (h1:a≤1152921504606846976):jf a=a:=by
 unfold jf jw;rw [if_neg (by omega),if_neg (by omega),if_neg (by omega)]
theorem JZ {a:Int} (h0: -1152921504606846976≤a) (h1:a≤1152921504606846976):jL a=false:=by
 unfold jL jx;simp;omega
theorem Ys {a:Int} (h:a < -1152921504606846976∨1152921504606846976<a):jL a=true:=by
 unfold jL jx;simp;omega
theorem jnN {a:Int} (h:a < -1152921504606846976):jf a = -1152921504606846976:=by
 unfold jf jw;rw [if_neg (by omega),if_pos (by omega)]
theorem jfm {a:Int} (h:1152921504606846976<a):jf a=1152921504606846976:=by
 unfold jf jw;rw [if_neg (by omega),if_neg (by omega),if_pos (by omega)]
def jeC (a:Int) (ok neg:Bool):Int:=bif ok then jf a else bif neg then -1152921504606846976 else 1152921504606846976
def jhF (a:Int) (ok:Bool):Bool:=bif ok then jL a else true
def jr4:List LV→Bool→Option (LV×Bool×List (Bool×Bool))
 | [.v (.one (.int .i64 a)),.v (.one (.bool ok)),.v (.one (.bool neg))],hb=>some (I (jeC a ok neg),hb||jhF a ok,[])
 | _,_=>none
theorem jnO:SumOK Tryz.prog 134 (js 63 jr4):=by
 refine sumxend.acc_re fun args hb v h' cs hF _=> ?_
 unfold jr4 at hF
 split at hF
 ·rename_i a ok neg
  cases hF
  refine ⟨[], ?_,jd⟩
  show jhC a ok neg hb=_
  unfold jhC
  cases ok <;> cases neg <;> simp [jeC,jhF,I]
 ·cases hF
def ZE (a b:Int):Int:=jf (jf a - jf b)
def jg7 (a b:Int):Bool:=jL a||(jL b||jL (jf a - jf b))
def jr5:List LV→Bool→Option (LV×Bool×List (Bool×Bool))
 | [.v (.one (.int .i64 a)),.v (.one (.int .i64 b))],hb=>some (I (ZE a b),hb||jg7 a b,[])
 | _,_=>none
theorem jnP:SumOK Tryz.prog 144 (js 63 jr5):=by
 refine sumxsub.acc_re fun args hb v h' cs hF _=> ?_
 unfold jr5 at hF
 split at hF
 ·rename_i a b
  cases hF
  refine ⟨[], ?_,jd⟩
  show jhD a b hb=_
  have ha:=yF a
  have hb':=yF b
  have e:wr .i64 (jf a - jf b)=jf a - jf b:=q9 (by omega) (by omega)
  unfold jhD
  rw [e]
  simp [ZE,jg7,I,Bool.or_assoc]
 ·cases hF
def jB (a:Int):Int:=if a≥1152921504606846976 then 1152921504606846976 else if a≤ -1152921504606846976 then 1152921504606846976 else if a<0 then -a else a
def jkA:List LV→Option (LV×List (Bool×Bool))
 | [.v (.one (.int .i64 a))]=>some (I (jB a),[])
 | _=>none
theorem jkB:SumOK Tryz.prog 65 (jq jkA):=by
 refine sumxabs.pure_re fun args v cs hF _=> ?_
 unfold jkA at hF
 split at hF
 ·rename_i a
  cases hF
  refine ⟨[], ?_,jd⟩
  show jhE a=_
  unfold jhE jB
  by_cases h1:a≥1152921504606846976
  ·rw [jy (decide_eq_true h1),if_pos h1];rfl
  ·rw [jv (decide_eq_false h1),if_neg h1]
   by_cases h2:a≤ -1152921504606846976
   ·rw [jy (decide_eq_true h2),if_pos h2];rfl
   ·rw [jv (decide_eq_false h2),if_neg h2]
    by_cases h3:a<0
    ·rw [jy (decide_eq_true h3),if_pos h3]
     have e:wr .i64 (0 - a) = -a:=by rw [jls];unfold w64;omega
     rw [e];rfl
    ·rw [jv (decide_eq_false h3),if_neg h3];rfl
 ·cases hF
def S12:FuncId→Option SumK:=more (more (more S11 134 (js 63 jr4)) 144 (js 63 jr5)) 65 (jq jkA)
theorem sound12:Sound Tryz.prog S12:=((sound11.more jnO).more jnP).more jkB
end Go.Proofs.YtbpfipbhaagllaaGreat

/- fx: round, by, by every path of their runs (printed), and what they come to. -/
namespace Go.Proofs.YtbpfipbhaagllaaGreat
open Go.Lr
theorem jhG (x y s:Int) (hb:Bool):(jG Tryz.prog S12 Zl 2000 74 [A0,.v (.agg [.int .i64 x,.int .u64 y]),.v (.one (.int .i64 s))] [(0,flag 63 hb)] 1 [some true,some true,some true,none]).map kU=some (LV.v (V1.one (At.int .i64 0)),some { ty:=63,fr:=(0,0),es:=0,cells:=[At.bool true] },[(decide (s<0),true),(decide (s<0),true),(decide (s<0),true)]):=by kernel_rfl
theorem jhH (x y s:Int) (hb:Bool):(jG Tryz.prog S12 Zl 2000 74 [A0,.v (.agg [.int .i64 x,.int .u64 y]),.v (.one (.int .i64 s))] [(0,flag 63 hb)] 1 [some false,some false,some false,some true]).map kU=some (LV.v (V1.one (At.int .i64 0)),some { ty:=63,fr:=(0,0),es:=0,cells:=[At.bool true] },[(decide (s>120),true),(decide (s<0),false),(decide (s<0),false),(decide (s<0),false)]):=by kernel_rfl
theorem jhI (x y s:Int) (hb:Bool):(jG Tryz.prog S12 Zl 2000 74 [A0,.v (.agg [.int .i64 x,.int .u64 y]),.v (.one (.int .i64 s))] [(0,flag 63 hb)] 1 [some false,some false,some false,some false]).map kU=some (LV.v (V1.one (At.int .i64 (jeC (if isI (kZ (jc x y) s.toNat)=true then kZ (jc x y) s.toNat else 0) (isI (kZ (jc x y) s.toNat)) (decide (x<0))))),some { ty:=63,fr:=(0,0),es:=0,cells:=[At.bool (hb||jhF (if isI (kZ (jc x y) s.toNat)=true then kZ (jc x y) s.toNat else 0) (isI (kZ (jc x y) s.toNat)))] },[(isI x,true),(isU y,true),(decide (0≤s)&&decide (s≤126),true),(decide (s>120),false),(decide (s<0),false),(decide (s<0),false),(decide (s<0),false)]):=by kernel_rfl
def Yt (x y s:Int) (hb:Bool):Option (LV×Bool×List (Bool×Bool)):=
 bif (decide (s<0)) then some (LV.v (V1.one (At.int .i64 0)),(true),[])
 else
  bif (decide (s>120)) then some (LV.v (V1.one (At.int .i64 0)),(true),[])
  else some (LV.v (V1.one (At.int .i64 (jeC (if isI (kZ (jc x y) s.toNat)=true then kZ (jc x y) s.toNat else 0) (isI (kZ (jc x y) s.toNat)) (decide (x<0))))),(hb||jhF (if isI (kZ (jc x y) s.toNat)=true then kZ (jc x y) s.toNat else 0) (isI (kZ (jc x y) s.toNat))),[(isI x,true),(isU y,true),(decide (0≤s)&&decide (s≤126),true)])
def jfn:List LV→Bool→Option (LV×Bool×List (Bool×Bool))
 | [.v (.agg [.int .i64 x,.int .u64 y]),.v (.one (.int .i64 s))],hb=>Yt x y s hb
 | _,_=>none
theorem sumxround:SumOK Tryz.prog 74 (js 63 jfn):=by
 refine jF (z:=Zl) sound12 (jl sound12 Tryz.func74 (by kernel_rfl)) fun args hb v h' cs hF hc=> ?_
 unfold jfn at hF
 split at hF
 ·rename_i x y s
  unfold Yt at hF
  rcases ji (decide (s<0)) with h0 | h0
  ·rw [jy h0] at hF
   cases hF
   exact ⟨rfl,2000,[some true,some true,some true,none],_,jhG x y s hb,ja (h0) (ja (h0) (ja (h0) (jd)))⟩
  ·rw [jv h0] at hF
   rcases ji (decide (s>120)) with h1 | h1
   ·rw [jy h1] at hF
    cases hF
    exact ⟨rfl,2000,[some false,some false,some false,some true],_,jhH x y s hb,ja (h1) (ja (h0) (ja (h0) (ja (h0) (jd))))⟩
   ·rw [jv h1] at hF
    cases hF
    exact ⟨rfl,2000,[some false,some false,some false,some false],_,jhI x y s hb,ja (jt (hc)) (ja (jt (jg (hc))) (ja (jt (jg (jg (hc)))) (ja (h1) (ja (h0) (ja (h0) (ja (h0) (jd)))))))⟩
 ·cases hF
theorem jr6 (x y d:Int) (hb:Bool):(jG Tryz.prog S12 Zl 2000 75 [A0,.v (.agg [.int .i64 x,.int .u64 y]),.v (.one (.int .i64 d))] [(0,flag 63 hb)] 1 [some true,some true]).map kU=some (LV.v (V1.one (At.int .i64 0)),some { ty:=63,fr:=(0,0),es:=0,cells:=[At.bool true] },[(x==0&&(y==0&&true),true),(d==0,true)]):=by kernel_rfl
theorem jr7 (x y d:Int) (hb:Bool):(jG Tryz.prog S12 Zl 2000 75 [A0,.v (.agg [.int .i64 x,.int .u64 y]),.v (.one (.int .i64 d))] [(0,flag 63 hb)] 1 [some true,some false,some true]).map kU=some (LV.v (V1.one (At.int .i64 (-1152921504606846976))),some { ty:=63,fr:=(0,0),es:=0,cells:=[At.bool true] },[(decide (x<0),true),(x==0&&(y==0&&true),false),(d==0,true)]):=by kernel_rfl
theorem jr8 (x y d:Int) (hb:Bool):(jG Tryz.prog S12 Zl 2000 75 [A0,.v (.agg [.int .i64 x,.int .u64 y]),.v (.one (.int .i64 d))] [(0,flag 63 hb)] 1 [some true,some false,some false]).map kU=some (LV.v (V1.one (At.int .i64 1152921504606846976)),some { ty:=63,fr:=(0,0),es:=0,cells:=[At.bool true] },[(decide (x<0),false),(x==0&&(y==0&&true),false),(d==0,true)]):=by kernel_rfl
theorem jr9 (x y d:Int) (hb:Bool):(jG Tryz.prog S12 Zl 2000 75 [A0,.v (.agg [.int .i64 x,.int .u64 y]),.v (.one (.int .i64 d))] [(0,flag 63 hb)] 1 [some false]).map kU=some (LV.v (V1.one (At.int .i64 (jeC (if isI (yh (jc x y) d)=true then yh (jc x y) d else 0) (isI (yh (jc x y) d)) !decide (x<0)==decide (d<0)))),some { ty:=63,fr:=(0,0),es:=0,cells:=[At.bool (hb||jhF (if isI (yh (jc x y) d)=true then yh (jc x y) d else 0) (isI (yh (jc x y) d)))] },[(d==0,false),(isI x,true),(isU y,true),(isI d,true),(d==0,false)]):=by kernel_rfl
def jqH (x y d:Int) (hb:Bool):Option (LV×Bool×List (Bool×Bool)):=
 bif (d==0) then
  bif (x==0&&(y==0&&true)) then some (LV.v (V1.one (At.int .i64 0)),(true),[])
  else
   bif (decide (x<0)) then some (LV.v (V1.one (At.int .i64 (-1152921504606846976))),(true),[])
   else some (LV.v (V1.one (At.int .i64 1152921504606846976)),(true),[])
 else some (LV.v (V1.one (At.int .i64 (jeC (if isI (yh (jc x y) d)=true then yh (jc x y) d else 0) (isI (yh (jc x y) d)) !decide (x<0)==decide (d<0)))),(hb||jhF (if isI (yh (jc x y) d)=true then yh (jc x y) d else 0) (isI (yh (jc x y) d))),[(isI x,true),(isU y,true),(isI d,true)])
def juD:List LV→Bool→Option (LV×Bool×List (Bool×Bool))
 | [.v (.agg [.int .i64 x,.int .u64 y]),.v (.one (.int .i64 d))],hb=>jqH x y d hb
 | _,_=>none
theorem sumxby:SumOK Tryz.prog 75 (js 63 juD):=by
 refine jF (z:=Zl) sound12 (jl sound12 Tryz.func75 (by kernel_rfl)) fun args hb v h' cs hF hc=> ?_
 unfold juD at hF
 split at hF
 ·rename_i x y d
  unfold jqH at hF
  rcases ji (d==0) with h0 | h0
  ·rw [jy h0] at hF
   rcases ji (x==0&&(y==0&&true)) with h1 | h1
   ·rw [jy h1] at hF
    cases hF
    exact ⟨rfl,2000,[some true,some true],_,jr6 x y d hb,ja (h1) (ja (h0) (jd))⟩
   ·rw [jv h1] at hF
    rcases ji (decide (x<0)) with h2 | h2
    ·rw [jy h2] at hF
     cases hF
     exact ⟨rfl,2000,[some true,some false,some true],_,jr7 x y d hb,ja (h2) (ja (h1) (ja (h0) (jd)))⟩
    ·rw [jv h2] at hF
     cases hF
     exact ⟨rfl,2000,[some true,some false,some false],_,jr8 x y d hb,ja (h2) (ja (h1) (ja (h0) (jd)))⟩
  ·rw [jv h0] at hF
   cases hF
   exact ⟨rfl,2000,[some false],_,jr9 x y d hb,ja (h0) (ja (jt (hc)) (ja (jt (jg (hc))) (ja (jt (jg (jg (hc)))) (ja (h0) (jd)))))⟩
 ·cases hF
theorem jfo {v:Int} {neg:Bool} (h0:v < -9223372036854775808→neg=true) (h1:9223372036854775808≤v→neg=false):jeC (if isI v=true then v else 0) (isI v) neg=jf v:=by
 unfold jeC
 by_cases h:isI v=true
 ·rw [h];simp
 ·have h':isI v=false:=by simpa using h
  rw [h']
  have hv:¬(-9223372036854775808≤v∧v<9223372036854775808):=fun hh=>h (isI_iff.2 hh)
  by_cases hn:v<0
  ·rw [h0 (by omega),jnN (a:=v) (by omega)];rfl
  ·rw [h1 (by omega),jfm (a:=v) (by omega)];rfl
theorem ja4 (v:Int):jhF (if isI v=true then v else 0) (isI v)=jL v:=by
 unfold jhF
 by_cases h:isI v=true
 ·rw [h];simp
 ·have h':isI v=false:=by simpa using h
  rw [h']
  have hv:¬(-9223372036854775808≤v∧v<9223372036854775808):=fun hh=>h (isI_iff.2 hh)
  rw [Ys (a:=v) (by omega)];rfl
theorem jnQ {x:Int}:sgn true x = -x:=rfl
theorem jnR {x:Int}:sgn false x=x:=rfl
theorem jnS (w:Int) (s:Nat):0≤(jh w+jif s)/jk s:=Int.ediv_nonneg (by have:=xt w;have:=(jja s).1;omega) (by have:=j4 s;omega)
theorem jnT {a b:Int} (ha:0≤a) (hb:0≤b):0≤jdT a b:=by
 have:=Int.ediv_nonneg ha hb
 unfold jdT;split <;> omega
theorem jfp (w:Int) (s:Nat) (n:Bool) (hn:n=decide (w<0)):jeC (if isI (kZ w s)=true then kZ w s else 0) (isI (kZ w s)) n=jf (kZ w s):=by
 have h:=jnS w s
 subst hn
 refine jfo (fun h1=> ?_) (fun h1=> ?_) <;> unfold kZ at h1 <;> cases hw:decide (w<0) <;> rw [hw] at h1 <;> simp only [jnQ,jnR] at h1 <;> first | rfl | (exfalso;omega)
theorem jkC (w d:Int) (n:Bool) (hn:n = !(decide (w<0)==decide (d<0))):jeC (if isI (yh w d)=true then yh w d else 0) (isI (yh w d)) n=jf (yh w d):=by
 have h:=jnT (xt w) (xt d)
 subst hn
 refine jfo (fun h1=> ?_) (fun h1=> ?_) <;> unfold yh at h1 <;> cases hw: !(decide (w<0)==decide (d<0)) <;> rw [hw] at h1 <;> simp only [jnQ,jnR] at h1 <;> first | rfl | (exfalso;omega)
def Jo (w s:Int):Int:=if s<0 then 0 else if s>120 then 0 else jf (kZ w s.toNat)
def Jp (w s:Int):Bool:=decide (s<0)||(decide (s>120)||jL (kZ w s.toNat))
def ja5:List LV→Bool→Option (LV×Bool×List (Bool×Bool))
 | [.v (.agg [.int .i64 x,.int .u64 y]),.v (.one (.int .i64 s))],hb=>some (I (Jo (jc x y) s),hb||Jp (jc x y) s,[(isI x,true),(isU y,true)])
 | _,_=>none
theorem Yu {x y:Int} (h0:0≤y) (h1:y<18446744073709551616):decide (x<0)=decide (jc x y<0):=by
 unfold jc;congr 1;apply propext;constructor <;> intro h <;> omega
theorem jfq:SumOK Tryz.prog 74 (js 63 ja5):=by
 refine sumxround.acc_re fun args hb v h' cs hF hc=> ?_
 unfold ja5 at hF
 split at hF
 ·rename_i x y s
  cases hF
  show ∃cs',Yt x y s hb=_∧_
  simp only [jM,isI_iff,isU_iff] at hc
  obtain ⟨⟨hx0,hx1⟩,⟨hy0,hy1⟩,-⟩:=hc
  unfold Yt Jo Jp
  by_cases h1:s<0
  ·rw [jy (decide_eq_true h1),if_pos h1,decide_eq_true h1]
   exact ⟨_,by simp [I],jd⟩
  ·rw [jv (decide_eq_false h1),if_neg h1,decide_eq_false h1]
   by_cases h2:s>120
   ·rw [jy (decide_eq_true h2),if_pos h2,decide_eq_true h2]
    exact ⟨_,by simp [I],jd⟩
   ·rw [jv (decide_eq_false h2),if_neg h2,decide_eq_false h2]
    rw [jfp _ _ _ (Yu hy0 hy1),ja4]
    refine ⟨[(isI x,true),(isU y,true),(decide (0≤s)&&decide (s≤126),true)],by simp only [I,Bool.false_or], ?_⟩
    simp only [jM,isI_iff,isU_iff,Bool.and_eq_true,decide_eq_true_eq]
    exact ⟨⟨hx0,hx1⟩,⟨hy0,hy1⟩,⟨by omega,by omega⟩,jd⟩
 ·cases hF
def byV (w d:Int):Int:=if d=0 then (if w=0 then 0 else if w<0 then -1152921504606846976 else 1152921504606846976) else jf (yh w d)
def byH (w d:Int):Bool:=d==0||jL (yh w d)
def jsa:List LV→Bool→Option (LV×Bool×List (Bool×Bool))
 | [.v (.agg [.int .i64 x,.int .u64 y]),.v (.one (.int .i64 d))],hb=>some (I (byV (jc x y) d),hb||byH (jc x y) d,[(isI x,true),(isU y,true),(isI d,true)])
 | _,_=>none
theorem jnU:SumOK Tryz.prog 75 (js 63 jsa):=by
 refine sumxby.acc_re fun args hb v h' cs hF hc=> ?_
 unfold jsa at hF
 split at hF
 ·rename_i x y d
  cases hF
  show ∃cs',jqH x y d hb=_∧_
  have hc':=hc
  simp only [jM,isI_iff,isU_iff] at hc
  obtain ⟨⟨hx0,hx1⟩,⟨hy0,hy1⟩,⟨hd0,hd1⟩,-⟩:=hc
  unfold jqH byV byH
  by_cases h1:d=0
  ·rw [jy (by simpa using h1),if_pos h1]
   have hd:(d==0)=true:=by simpa using h1
   rw [hd]
   by_cases h2:jc x y=0
   ·have hx:x=0:=by unfold jc at h2;omega
    have hy:y=0:=by unfold jc at h2;omega
    rw [jy (by simp [hx,hy]),if_pos h2]
    exact ⟨_,by simp [I],jd⟩
   ·rw [jv (by by_cases hx:x=0 <;> by_cases hy:y=0 <;> simp [hx,hy];exact absurd (by rw [hx,hy];rfl) h2),if_neg h2]
    by_cases h3:x<0
    ·rw [jy (by simpa using h3),if_pos (by unfold jc;omega)]
     exact ⟨_,by simp [I],jd⟩
    ·rw [jv (by simpa using h3),if_neg (by unfold jc;omega)]
     exact ⟨_,by simp [I],jd⟩
  ·have hd:(d==0)=false:=by simpa using h1
   rw [jv hd,if_neg h1,hd]
   rw [jkC _ _ _ (by rw [Yu hy0 hy1]),ja4]
   exact ⟨[(isI x,true),(isU y,true),(isI d,true)],by simp only [I,Bool.false_or],hc'⟩
 ·cases hF
def S13:FuncId→Option SumK:=more (more S12 74 (js 63 ja5)) 75 (js 63 jsa)
theorem sound13:Sound Tryz.prog S13:=(sound12.more jfq).more jnU
end Go.Proofs.YtbpfipbhaagllaaGreat

/- fx: Mul, Div, MulDiv, by every path of their runs (printed), and what they come to. -/
namespace Go.Proofs.YtbpfipbhaagllaaGreat
open Go.Lr
theorem jnV (a b s:Int) (hb:Bool):(jG Tryz.prog S13 Zl 2000 42 [A0,.v (.one (.int .i64 a)),.v (.one (.int .i64 b)),.v (.one (.int .i64 s))] [(0,flag 63 hb)] 1 []).map kU=some (LV.v (V1.one (At.int .i64 (Jo (jc (wHi (jf a*jf b)) (wLo (jf a*jf b))) s))),some { ty:=63,fr:=(0,0),es:=0,cells:=[At.bool (hb||jL a||jL b||Jp (jc (wHi (jf a*jf b)) (wLo (jf a*jf b))) s)] },[(isI (wHi (jf a*jf b)),true),(isU (wLo (jf a*jf b)),true),(isI (jf a),true),(isI (jf b),true)]):=by kernel_rfl
def jhJ (a b s:Int) (hb:Bool):Option (LV×Bool×List (Bool×Bool)):=some (LV.v (V1.one (At.int .i64 (Jo (jc (wHi (jf a*jf b)) (wLo (jf a*jf b))) s))),(hb||jL a||jL b||Jp (jc (wHi (jf a*jf b)) (wLo (jf a*jf b))) s),[(isI (wHi (jf a*jf b)),true),(isU (wLo (jf a*jf b)),true),(isI (jf a),true),(isI (jf b),true)])
def jnW:List LV→Bool→Option (LV×Bool×List (Bool×Bool))
 | [.v (.one (.int .i64 a)),.v (.one (.int .i64 b)),.v (.one (.int .i64 s))],hb=>jhJ a b s hb
 | _,_=>none
theorem sumxmul:SumOK Tryz.prog 42 (js 63 jnW):=by
 refine jF (z:=Zl) sound13 (jl sound13 Tryz.func42 (by kernel_rfl)) fun args hb v h' cs hF hc=> ?_
 unfold jnW at hF
 split at hF
 ·rename_i a b s
  unfold jhJ at hF
  cases hF
  exact ⟨rfl,2000,[],_,jnV a b s hb,ja (jt (hc)) (ja (jt (jg (hc))) (ja (jt (jg (jg (hc)))) (ja (jt (jg (jg (jg (hc))))) (jd))))⟩
 ·cases hF
theorem jnX (a b s:Int) (hb:Bool):(jG Tryz.prog S13 Zl 2000 47 [A0,.v (.one (.int .i64 a)),.v (.one (.int .i64 b)),.v (.one (.int .i64 s))] [(0,flag 63 hb)] 1 [some true,some true,some true,none]).map kU=some (LV.v (V1.one (At.int .i64 0)),some { ty:=63,fr:=(0,0),es:=0,cells:=[At.bool true] },[(decide (s<0),true),(decide (s<0),true),(decide (s<0),true)]):=by kernel_rfl
theorem jnY (a b s:Int) (hb:Bool):(jG Tryz.prog S13 Zl 2000 47 [A0,.v (.one (.int .i64 a)),.v (.one (.int .i64 b)),.v (.one (.int .i64 s))] [(0,flag 63 hb)] 1 [some false,some false,some false,some true]).map kU=some (LV.v (V1.one (At.int .i64 0)),some { ty:=63,fr:=(0,0),es:=0,cells:=[At.bool true] },[(decide (s>66),true),(decide (s<0),false),(decide (s<0),false),(decide (s<0),false)]):=by kernel_rfl
theorem jnZ (a b s:Int) (hb:Bool):(jG Tryz.prog S13 Zl 2000 47 [A0,.v (.one (.int .i64 a)),.v (.one (.int .i64 b)),.v (.one (.int .i64 s))] [(0,flag 63 hb)] 1 [some false,some false,some false,some false]).map kU=some (LV.v (V1.one (At.int .i64 (byV (jc (wHi (jf a*jk s.toNat)) (wLo (jf a*jk s.toNat))) (jf b)))),some { ty:=63,fr:=(0,0),es:=0,cells:=[At.bool (hb||jL a||jL b||byH (jc (wHi (jf a*jk s.toNat)) (wLo (jf a*jk s.toNat))) (jf b))] },[(isI (wHi (jf a*jk s.toNat)),true),(isU (wLo (jf a*jk s.toNat)),true),(isI (jf b),true),(isI (jf a),true),(decide (0≤s)&&decide (s≤127),true),(decide (jh (jf a)*jk s.toNat<170141183460469231731687303715884105728),true),(decide (s>66),false),(decide (s<0),false),(decide (s<0),false),(decide (s<0),false)]):=by kernel_rfl
def jhK (a b s:Int) (hb:Bool):Option (LV×Bool×List (Bool×Bool)):=
 bif (decide (s<0)) then some (LV.v (V1.one (At.int .i64 0)),(true),[])
 else
  bif (decide (s>66)) then some (LV.v (V1.one (At.int .i64 0)),(true),[])
  else some (LV.v (V1.one (At.int .i64 (byV (jc (wHi (jf a*jk s.toNat)) (wLo (jf a*jk s.toNat))) (jf b)))),(hb||jL a||jL b||byH (jc (wHi (jf a*jk s.toNat)) (wLo (jf a*jk s.toNat))) (jf b)),[(isI (wHi (jf a*jk s.toNat)),true),(isU (wLo (jf a*jk s.toNat)),true),(isI (jf b),true),(isI (jf a),true),(decide (0≤s)&&decide (s≤127),true),(decide (jh (jf a)*jk s.toNat<170141183460469231731687303715884105728),true)])
def jn0:List LV→Bool→Option (LV×Bool×List (Bool×Bool))
 | [.v (.one (.int .i64 a)),.v (.one (.int .i64 b)),.v (.one (.int .i64 s))],hb=>jhK a b s hb
 | _,_=>none
theorem sumxdiv:SumOK Tryz.prog 47 (js 63 jn0):=by
 refine jF (z:=Zl) sound13 (jl sound13 Tryz.func47 (by kernel_rfl)) fun args hb v h' cs hF hc=> ?_
 unfold jn0 at hF
 split at hF
 ·rename_i a b s
  unfold jhK at hF
  rcases ji (decide (s<0)) with h0 | h0
  ·rw [jy h0] at hF
   cases hF
   exact ⟨rfl,2000,[some true,some true,some true,none],_,jnX a b s hb,ja (h0) (ja (h0) (ja (h0) (jd)))⟩
  ·rw [jv h0] at hF
   rcases ji (decide (s>66)) with h1 | h1
   ·rw [jy h1] at hF
    cases hF
    exact ⟨rfl,2000,[some false,some false,some false,some true],_,jnY a b s hb,ja (h1) (ja (h0) (ja (h0) (ja (h0) (jd))))⟩
   ·rw [jv h1] at hF
    cases hF
    exact ⟨rfl,2000,[some false,some false,some false,some false],_,jnZ a b s hb,ja (jt (hc)) (ja (jt (jg (hc))) (ja (jt (jg (jg (hc)))) (ja (jt (jg (jg (jg (hc))))) (ja (jt (jg (jg (jg (jg (hc)))))) (ja (jt (jg (jg (jg (jg (jg (hc))))))) (ja (h1) (ja (h0) (ja (h0) (ja (h0) (jd))))))))))⟩
 ·cases hF
theorem jfr (a b d:Int) (hb:Bool):(jG Tryz.prog S13 Zl 2000 43 [A0,.v (.one (.int .i64 a)),.v (.one (.int .i64 b)),.v (.one (.int .i64 d))] [(0,flag 63 hb)] 1 []).map kU=some (LV.v (V1.one (At.int .i64 (byV (jc (wHi (jf a*jf b)) (wLo (jf a*jf b))) (jf d)))),some { ty:=63,fr:=(0,0),es:=0,cells:=[At.bool (hb||jL a||jL b||jL d||byH (jc (wHi (jf a*jf b)) (wLo (jf a*jf b))) (jf d))] },[(isI (wHi (jf a*jf b)),true),(isU (wLo (jf a*jf b)),true),(isI (jf d),true),(isI (jf a),true),(isI (jf b),true)]):=by kernel_rfl
def KQ (a b d:Int) (hb:Bool):Option (LV×Bool×List (Bool×Bool)):=some (LV.v (V1.one (At.int .i64 (byV (jc (wHi (jf a*jf b)) (wLo (jf a*jf b))) (jf d)))),(hb||jL a||jL b||jL d||byH (jc (wHi (jf a*jf b)) (wLo (jf a*jf b))) (jf d)),[(isI (wHi (jf a*jf b)),true),(isU (wLo (jf a*jf b)),true),(isI (jf d),true),(isI (jf a),true),(isI (jf b),true)])
def jcw:List LV→Bool→Option (LV×Bool×List (Bool×Bool))
 | [.v (.one (.int .i64 a)),.v (.one (.int .i64 b)),.v (.one (.int .i64 d))],hb=>KQ a b d hb
 | _,_=>none
theorem sumxmuldiv:SumOK Tryz.prog 43 (js 63 jcw):=by
 refine jF (z:=Zl) sound13 (jl sound13 Tryz.func43 (by kernel_rfl)) fun args hb v h' cs hF hc=> ?_
 unfold jcw at hF
 split at hF
 ·rename_i a b d
  unfold KQ at hF
  cases hF
  exact ⟨rfl,2000,[],_,jfr a b d hb,ja (jt (hc)) (ja (jt (jg (hc))) (ja (jt (jg (jg (hc)))) (ja (jt (jg (jg (jg (hc))))) (ja (jt (jg (jg (jg (jg (hc)))))) (jd)))))⟩
 ·cases hF
theorem Yv (a:Int):jh (jf a)≤1152921504606846976:=by have:=yF a;unfold jh;split <;> omega
theorem ZF (a b:Int): -1329227995784915872903807060280344576≤jf a*jf b∧jf a*jf b≤1329227995784915872903807060280344576:=YI (Yv a) (Yv b)
theorem yk (a:Int):isI (jf a)=true:=by have:=yF a;exact isI_iff.2 ⟨by omega,by omega⟩
theorem jjw {v:Int} (h0: -170141183460469231731687303715884105728≤v) (h1:v<170141183460469231731687303715884105728):isI (wHi v)=true:=isI_iff.2 (kL v h0 h1)
theorem ZG (a b:Int):isI (wHi (jf a*jf b))=true:=by have:=ZF a b;exact jjw (by omega) (by omega)
def kY (a b s:Int):Int:=Jo (jf a*jf b) s
def Xk (a b s:Int):Bool:=jL a||(jL b||Jp (jf a*jf b) s)
def jkD:List LV→Bool→Option (LV×Bool×List (Bool×Bool))
 | [.v (.one (.int .i64 a)),.v (.one (.int .i64 b)),.v (.one (.int .i64 s))],hb=>some (I (kY a b s),hb||Xk a b s,[])
 | _,_=>none
theorem jkE:SumOK Tryz.prog 42 (js 63 jkD):=by
 refine sumxmul.acc_re fun args hb v h' cs hF _=> ?_
 unfold jkD at hF
 split at hF
 ·rename_i a b s
  cases hF
  show ∃cs',jhJ a b s hb=_∧_
  unfold jhJ
  rw [jJ]
  refine ⟨[(isI (wHi (jf a*jf b)),true),(isU (wLo (jf a*jf b)),true),(isI (jf a),true),(isI (jf b),true)],by simp only [I,kY,Xk,Bool.or_assoc], ?_⟩
  simp only [ZG,Yb,yk]
  simp
 ·cases hF
def kV (a b s:Int):Int:=if s<0 then 0 else if s>66 then 0 else byV (jf a*jk s.toNat) (jf b)
def xD (a b s:Int):Bool:=jL a||(jL b||(decide (s<0)||(decide (s>66)||byH (jf a*jk s.toNat) (jf b))))
def jkF:List LV→Bool→Option (LV×Bool×List (Bool×Bool))
 | [.v (.one (.int .i64 a)),.v (.one (.int .i64 b)),.v (.one (.int .i64 s))],hb=>some (I (kV a b s),hb||xD a b s,[])
 | _,_=>none
theorem jkG:SumOK Tryz.prog 47 (js 63 jkF):=by
 refine sumxdiv.acc_re fun args hb v h' cs hF _=> ?_
 unfold jkF at hF
 split at hF
 ·rename_i a b s
  cases hF
  show ∃cs',jhK a b s hb=_∧_
  unfold jhK kV xD
  by_cases h1:s<0
  ·rw [jy (decide_eq_true h1),if_pos h1,decide_eq_true h1]
   exact ⟨[],by simp [I],jd⟩
  ·rw [jv (decide_eq_false h1),if_neg h1,decide_eq_false h1]
   by_cases h2:s>66
   ·rw [jy (decide_eq_true h2),if_pos h2,decide_eq_true h2]
    exact ⟨[],by simp [I],jd⟩
   ·rw [jv (decide_eq_false h2),if_neg h2,decide_eq_false h2]
    have hp:=j4 s.toNat
    have hp1:jk s.toNat≤73786976294838206464:=jbm (n:=66) _ (by omega) (by decide)
    have ha:=Yv a
    have h0:=xt (jf a)
    have hq:jh (jk s.toNat)≤73786976294838206464:=by rw [zD (by omega)];exact hp1
    have hm:=YI ha hq
    have hn:jh (jf a)*jk s.toNat≤1152921504606846976*73786976294838206464:=Int.mul_le_mul ha hp1 (by omega) (by omega)
    rw [jJ]
    refine ⟨[(isI (wHi (jf a*jk s.toNat)),true),(isU (wLo (jf a*jk s.toNat)),true),(isI (jf b),true),(isI (jf a),true),(decide (0≤s)&&decide (s≤127),true),(decide (jh (jf a)*jk s.toNat<170141183460469231731687303715884105728),true)],by simp only [I,Bool.or_assoc,Bool.false_or], ?_⟩
    simp only [Yb,yk,jjw (v:=jf a*jk s.toNat) (by omega) (by omega),jM,Bool.and_eq_true,decide_eq_true_eq]
    exact ⟨trivial,trivial,trivial,trivial,⟨by omega,by omega⟩,by omega,jd⟩
 ·cases hF
def ja6 (a b d:Int):Int:=byV (jf a*jf b) (jf d)
def jfs (a b d:Int):Bool:=jL a||(jL b||(jL d||byH (jf a*jf b) (jf d)))
def jsb:List LV→Bool→Option (LV×Bool×List (Bool×Bool))
 | [.v (.one (.int .i64 a)),.v (.one (.int .i64 b)),.v (.one (.int .i64 d))],hb=>some (I (ja6 a b d),hb||jfs a b d,[])
 | _,_=>none
theorem jn1:SumOK Tryz.prog 43 (js 63 jsb):=by
 refine sumxmuldiv.acc_re fun args hb v h' cs hF _=> ?_
 unfold jsb at hF
 split at hF
 ·rename_i a b d
  cases hF
  show ∃cs',KQ a b d hb=_∧_
  unfold KQ
  rw [jJ]
  refine ⟨[(isI (wHi (jf a*jf b)),true),(isU (wLo (jf a*jf b)),true),(isI (jf d),true),(isI (jf a),true),(isI (jf b),true)],by simp only [I,ja6,jfs,Bool.or_assoc], ?_⟩
  simp only [ZG,Yb,yk]
  simp
 ·cases hF
def S14:FuncId→Option SumK:=more (more (more S13 42 (js 63 jkD)) 47 (js 63 jkF)) 43 (js 63 jsb)
theorem sound14:Sound Tryz.prog S14:=((sound13.more jkE).more jkG).more jn1
end Go.Proofs.YtbpfipbhaagllaaGreat

/- wide.Add of two numbers. -/
namespace Go.Proofs.YtbpfipbhaagllaaGreat
open Go.Lr
theorem jri (ty:TypeId) (fr:Nat×Nat) (es:Nat) (x y u v:Int):(jG Tryz.prog S14 Zl 2000 67 [.v (.one (.sl 0 0 2 2))] [(0,⟨ty,fr,es,[.int .i64 x,.int .u64 y,.int .i64 u,.int .u64 v]⟩)] 1 [none,some false,none,some false,none]).map kU=some (LV.tup [V1.agg [At.int .i64 (w64 (wHi (jc (w64 (wHi (jc 0 0+jc x y))) (wLo (jc 0 0+jc x y))+jc u v))),At.int IntKind.u64 (wLo (jc (w64 (wHi (jc 0 0+jc x y))) (wLo (jc 0 0+jc x y))+jc u v))],V1.one (At.bool true)],some { ty:=ty,fr:=fr,es:=es,cells:=[At.int .i64 x,At.int IntKind.u64 y,At.int .i64 u,At.int IntKind.u64 v] },[(!isW (jc (w64 (wHi (jc 0 0+jc x y))) (wLo (jc 0 0+jc x y))+jc u v),false),(isI (w64 (wHi (jc 0 0+jc x y))),true),(isU (wLo (jc 0 0+jc x y)),true),(isI u,true),(isU v,true),(!isW (jc 0 0+jc x y),false),(isI 0,true),(isU 0,true),(isI x,true),(isU y,true)]):=by kernel_rfl
def jeH:Sum:=fun args=>
 match args with
 | [.v (.one (.sl b 0 2 2))]=>some ⟨[b],[],fun rdB _ _=>match rdB with
  | [⟨_,_,_,[.int .i64 x,.int .u64 y,.int .i64 u,.int .u64 v]⟩]=>
   some ⟨.tup [W1 (jc x y+jc u v),.one (.bool true)],[],[],[(isI x,true),(isU y,true),(isI u,true),(isU v,true),(isW (jc x y+jc u v),true)]⟩
  | _=>none⟩
 | _=>none
theorem jeI {v:Int} (h:isW v=true):w64 (wHi v)=wHi v:=by
 have:=isW_iff.1 h;exact jg3 this.1 this.2
theorem jkc:SumOK Tryz.prog 67 jeH:=by
 intro args t g nb p rdB wrB ans ws E w hs hr hw hnd hgo hz hc hrel hg hargs hn
 unfold jeH at hs
 split at hs
 ·rename_i b
  cases hs
  simp only at hgo hw hr
  split at hgo
  ·rename_i ty fr es x y u v
   cases hgo
   simp only [jM,isI_iff,isU_iff] at hc
   obtain ⟨⟨hx0,hx1⟩,⟨hy0,hy1⟩,⟨hu0,hu1⟩,⟨hv0,hv1⟩,hW,-⟩:=hc
   obtain ⟨k,r',hk,hr',hrr⟩:=jT hr
   cases kD hr'
   cases hrr
   cases kD hw
   simp only [Xi] at hz
   cases hz
   have e0:jc 0 0+jc x y=jc x y:=by unfold jc;omega
   have hW1:isW (jc x y)=true:=by rw [isW_iff];unfold jc;omega
   have hrun:=jri ty fr es x y u v
   rw [e0,jeI hW1,jJ,jeI hW,hW,hW1] at hrun
   cases hq:jG Tryz.prog S14 Zl 2000 67 [.v (.one (.sl 0 0 2 2))] [(0,⟨ty,fr,es,[.int .i64 x,.int .u64 y,.int .i64 u,.int .u64 v]⟩)] 1 [none,some false,none,some false,none] with
   | none=>rw [hq] at hrun;cases hrun
   | some q=>
    obtain ⟨v',m2,nb',cs'⟩:=q
    rw [hq] at hrun
    simp only [Option.map_some,kU,Option.some.injEq,Prod.mk.injEq] at hrun
    obtain ⟨rfl,hm2,rfl⟩:=hrun
    generalize hE1:(fun _:Nat=>E b)=E1
    have hE:∀i,E1 i=E b:=fun i=>by rw [←hE1]
    have hcl:=x8 sound14 hq (m':=[(0,⟨ty,fr,es,[.int .i64 x,.int .u64 y,.int .i64 u,.int .u64 v]⟩)]) (fun i c hic=>by
      obtain ⟨rfl,rfl⟩:=jca hic
      exact ⟨hm2,Nat.zero_lt_one,rfl⟩) (by
      simp only [jM,kT,isI_iff,isU_iff]
      have h1:=kL (jc x y) (isW_iff.1 hW1).1 (isW_iff.1 hW1).2
      have h2:=qk (jc x y)
      exact ⟨rfl,⟨h1.1,h1.2⟩,⟨h2.1,h2.2⟩,⟨hu0,hu1⟩,⟨hv0,hv1⟩,rfl,⟨by omega,by omega⟩,⟨by omega,by omega⟩,⟨hx0,hx1⟩,⟨hy0,hy1⟩,jd⟩) rfl (fun a ha=>by
      rw [List.mem_singleton] at ha;subst ha;rfl) rfl E1 w (jt1 hrel hk rfl (hE 0))
    obtain ⟨fn,f1,f2,f3⟩:=jl sound14 Tryz.func67 (by kernel_rfl)
    have ha:([.v (.one (.sl b 0 2 2))]:List LV).map (LV.den E)=([.v (.one (.sl 0 0 2 2))]:List LV).map (LV.den E1):=by
     simp only [List.map_cons,List.map_nil,LV.den,V1.den,At.den,hE]
    rw [ha]
    refine .inl ⟨fn,f1,f2,f3,hcl.mono ?_⟩
    rintro e w' ⟨rfl,hl⟩
    refine ⟨_,rfl,E,(kg rfl).symm, ?_⟩
    refine ⟨fun _ _=>rfl,⟨fun i c hic=> ?_,hrel.inj⟩,hl.os,hl.tape,hl.output,hl.size,fun j hj hne=>hl.frame j hj fun i hi=> ?_,fun i h1 h2=>by simp at h2;omega⟩
    ·simp only [nwG,wrG] at hic
     by_cases hib:i=b
     ·subst hib
      rw [hk] at hic
      cases hic
      exact kp (E:=E1) (i:=0) rfl (hE 0).symm (hl.blk 0 _ rfl)
     ·obtain ⟨r,g1,g2,g3⟩:=hrel.blk i c hic
      refine ⟨r, ?_,g2,g3⟩
      rw [hl.frame _ (Array.getElem?_eq_some_iff.1 g1).1 fun j hj e=>hib (hrel.inj i b (by simp [hic]) (by simp [hk]) (by rw [hE] at e;exact e.symm))]
      exact g1
    ·rw [hE]
     exact hne b (by simp [hk])
  ·cases hgo
 ·cases hs
def S15:FuncId→Option SumK:=more S14 67 jeH
theorem sound15:Sound Tryz.prog S15:=sound14.more jkc
end Go.Proofs.YtbpfipbhaagllaaGreat

/- fx.Add: its walk, round by round. -/
namespace Go.Proofs.YtbpfipbhaagllaaGreat
open Go.Lr
theorem fa (dead:Nat→Value) (hb:Bool) (o n c:Nat) (ty:TypeId) (fr:Nat×Nat) (es:Nat) (l:List At):ju [0,1,4,5] [0,1,2] (xg Tryz.prog S15 Zl 400 (kJ 2 (jj Tryz.prog 137)) (Kst.st ⟨jS 0 [A0,.v (.one (.slx 1 o n c))],[(0,flag 63 hb),(1,⟨ty,fr,es,l⟩)],2⟩ 39 dead []))=some (Ex.normal,[LV.v (V1.one (At.ptr 0 0)),LV.v (V1.one (At.slx 1 o n c)),LV.v (V1.one (At.int .i64 0)),LV.v (V1.one (At.ptr 2 0))],[some { ty:=63,fr:=(0,0),es:=0,cells:=[At.bool hb] },some { ty:=ty,fr:=fr,es:=es,cells:=l },some { ty:=164,fr:=(0,0),es:=0,cells:=[At.int .i64 0,At.int IntKind.u64 0] }],[]):=by kernel_rfl
theorem fb (dead:Nat→Value) (hb:Bool) (o n c:Nat) (ty:TypeId) (fr:Nat×Nat) (es:Nat) (l:List At) (x y:Int):ju [0,5,10,11,12] [0,1,2] (exec Tryz.prog S15 Zl 400 (.code (c1 (c1 (c2 (c2 (jj Tryz.prog 137)))))) (Kst.st ⟨[(0,A0),(1,.v (.one (.slx 1 o n c))),(4,.v (.one (.int .i64 0))),(5,.v (.one (.ptr 2 0)))],[(0,flag 63 hb),(1,⟨ty,fr,es,l⟩),(2,⟨164,(0,0),0,[.int .i64 x,.int .u64 y]⟩)],3⟩ 39 dead []))=some (Ex.normal,[LV.v (V1.one (At.ptr 0 0)),LV.v (V1.one (At.ptr 2 0)),LV.v (V1.one (At.slx 1 o n c)),LV.v (V1.one (At.int .i64 ↑n)),LV.v (V1.one (At.int .i64 0))],[some { ty:=63,fr:=(0,0),es:=0,cells:=[At.bool hb] },some { ty:=ty,fr:=fr,es:=es,cells:=l },some { ty:=164,fr:=(0,0),es:=0,cells:=[At.int .i64 x,At.int IntKind.u64 y] }],[]):=by kernel_rfl
theorem fc (dead:Nat→Value) (hb:Bool) (o n c:Nat) (ty:TypeId) (fr:Nat×Nat) (es:Nat) (l:List At) (x y i:Int):ju [0,5,10,11,12] [0,1,2] (exec Tryz.prog S15 Zl 400 (.code (c1 (c1 (c2 (c1 (c2 (c2 (jj Tryz.prog 137)))))))) (Kst.st ⟨[(0,A0),(5,.v (.one (.ptr 2 0))),(10,.v (.one (.slx 1 o n c))),(11,.v (.one (.int .i64 n))),(12,.v (.one (.int .i64 i)))],[(0,flag 63 hb),(1,⟨ty,fr,es,l⟩),(2,⟨164,(0,0),0,[.int .i64 x,.int .u64 y]⟩)],3⟩ 39 dead [some true]))=some (Ex.normal,[LV.v (V1.one (At.ptr 0 0)),LV.v (V1.one (At.ptr 2 0)),LV.v (V1.one (At.slx 1 o n c)),LV.v (V1.one (At.int .i64 ↑n)),LV.v (V1.one (At.int .i64 (wr .i64 (i+1))))],[some { ty:=63,fr:=(0,0),es:=0,cells:=[At.bool (hb||jL (intAt l (o+i.toNat*1)))] },some { ty:=ty,fr:=fr,es:=es,cells:=l },some { ty:=164,fr:=(0,0),es:=0,cells:=[At.int .i64 (wHi (jc x y+jc (wHi (jf (intAt l (o+i.toNat*1)))) (wLo (jf (intAt l (o+i.toNat*1)))))),At.int IntKind.u64 (wLo (jc x y+jc (wHi (jf (intAt l (o+i.toNat*1)))) (wLo (jf (intAt l (o+i.toNat*1))))))] }],[(isI x,true),(isU y,true),(isI (wHi (jf (intAt l (o+i.toNat*1)))),true),(isU (wLo (jf (intAt l (o+i.toNat*1)))),true),(isW (jc x y+jc (wHi (jf (intAt l (o+i.toNat*1)))) (wLo (jf (intAt l (o+i.toNat*1))))),true),(isI (jf (intAt l (o+i.toNat*1))),true),(isIntAt IntKind.i64 l (o+i.toNat*1),true),(decide (0≤i)&&decide (i < ↑n),true),(decide (i < ↑n),true)]):=by kernel_rfl
theorem fd (dead:Nat→Value) (hb:Bool) (o n c:Nat) (ty:TypeId) (fr:Nat×Nat) (es:Nat) (l:List At) (x y i:Int):ju [0,5] [0,1,2] (exec Tryz.prog S15 Zl 400 (.code (c1 (c1 (c2 (c1 (c2 (c2 (jj Tryz.prog 137)))))))) (Kst.st ⟨[(0,A0),(5,.v (.one (.ptr 2 0))),(10,.v (.one (.slx 1 o n c))),(11,.v (.one (.int .i64 n))),(12,.v (.one (.int .i64 i)))],[(0,flag 63 hb),(1,⟨ty,fr,es,l⟩),(2,⟨164,(0,0),0,[.int .i64 x,.int .u64 y]⟩)],3⟩ 39 dead [some false]))=some (Ex.exit 0,[LV.v (V1.one (At.ptr 0 0)),LV.v (V1.one (At.ptr 2 0))],[some { ty:=63,fr:=(0,0),es:=0,cells:=[At.bool hb] },some { ty:=ty,fr:=fr,es:=es,cells:=l },some { ty:=164,fr:=(0,0),es:=0,cells:=[At.int .i64 x,At.int IntKind.u64 y] }],[(decide (i < ↑n),false)]):=by kernel_rfl
theorem fe (dead:Nat→Value) (hb:Bool) (ty:TypeId) (fr:Nat×Nat) (es:Nat) (l:List At) (x y:Int):ju [4] [0,1] (exec Tryz.prog S15 Zl 400 (.code (c2 (c2 (c2 (jj Tryz.prog 137))))) (Kst.st ⟨[(0,A0),(5,.v (.one (.ptr 2 0)))],[(0,flag 63 hb),(1,⟨ty,fr,es,l⟩),(2,⟨164,(0,0),0,[.int .i64 x,.int .u64 y]⟩)],3⟩ 39 dead []))=some (Ex.ret,[LV.v (V1.one (At.int .i64 (jeC (if isI (kZ (jc x y) (Int.toNat 0))=true then kZ (jc x y) (Int.toNat 0) else 0) (isI (kZ (jc x y) (Int.toNat 0))) (decide (x<0)))))],[some { ty:=63,fr:=(0,0),es:=0,cells:=[At.bool (hb||jhF (if isI (kZ (jc x y) (Int.toNat 0))=true then kZ (jc x y) (Int.toNat 0) else 0) (isI (kZ (jc x y) (Int.toNat 0))))] },some { ty:=ty,fr:=fr,es:=es,cells:=l }],[(isI x,true),(isU y,true),(decide (0≤0)&&decide (0≤126),true)]):=by kernel_rfl
theorem yG {nb:Nat} {b0 b1 b2:Blk} (hnb:3≤nb) (h0:okL (below nb) b0.cells=true) (h1:okL (below nb) b1.cells=true) (h2:okL (below nb) b2.cells=true):jY nb [(0,b0),(1,b1),(2,b2)]=true:=by
 have e0:Nat.blt 0 nb=true:=by rw [zT];simp;omega
 have e1:Nat.blt 1 nb=true:=by rw [zT];simp;omega
 have e2:Nat.blt 2 nb=true:=by rw [zT];simp;omega
 simp only [jY,e0,e1,e2,h0,h1,h2]
 rfl
theorem xE {nb:Nat} {b0 b1:Blk} (hnb:2≤nb) (h0:okL (below nb) b0.cells=true) (h1:okL (below nb) b1.cells=true):jY nb [(0,b0),(1,b1)]=true:=by
 have e0:Nat.blt 0 nb=true:=by rw [zT];simp;omega
 have e1:Nat.blt 1 nb=true:=by rw [zT];simp;omega
 simp only [jY,e0,e1,h0,h1]
 rfl
theorem qh {A:Kst} (h1:kE A.nb A.live=true) (h2:jY A.nb A.mem=true):KstOK A:=by
 obtain ⟨a,b,c⟩:=yb h1
 obtain ⟨d,e⟩:=xC h2
 exact ⟨a,b,c,d,e⟩
def zw:List Int→Int
 | []=>0
 | a::l=>jf a+zw l
def zx:List Int→Bool
 | []=>false
 | a::l=>jL a||zx l
theorem jhL (l m:List Int):zw (l++m)=zw l+zw m:=by
 induction l with
 | nil=>simp [zw]
 | cons a l ih=>simp only [List.cons_append,zw,ih];omega
theorem jcx (l m:List Int):zx (l++m)=(zx l||zx m):=by
 induction l with
 | nil=>simp [zx]
 | cons a l ih=>simp only [List.cons_append,zx,ih,Bool.or_assoc]
theorem jft (l:List Int): -(l.length*1152921504606846976:Int)≤zw l∧zw l≤l.length*1152921504606846976:=by
 induction l with
 | nil=>simp [zw]
 | cons a l ih=>
  have:=yF a
  simp only [zw,List.length_cons]
  push_cast
  omega
theorem qa {α:Type} (l:List α) (i:Nat) (h:i<l.length):l.take (i+1)=l.take i++[l[i]]:=by rw [List.take_succ_eq_append_getElem h]
def wB (v:Int):Blk:=⟨164,(0,0),0,[.int .i64 (wHi v),.int .u64 (wLo v)]⟩
noncomputable def jkH:Code:=c1 (c2 (c2 (jj Tryz.prog 137)))
def adA (k:Blk) (o n c:Nat) (h:Bool) (v:Int) (i:Int):Kst:=⟨[(0,A0),(5,P2),(10,.v (.one (.slx 1 o n c))),(11,.v (.one (.int .i64 n))),(12,.v (.one (.int .i64 i)))],[(0,flag 63 h),(1,k),(2,wB v)],3⟩
def adB (k:Blk) (h:Bool) (v:Int):Kst:=⟨[(0,A0),(5,P2)],[(0,flag 63 h),(1,k),(2,wB v)],3⟩
theorem jkI (k:Blk) (o n c:Nat) (xs:List Int) (hk:SlAt 1 k o n xs) (hn:n<1152921504606846976) (hb:Bool) (i:Nat) (hi:i<n):
  To Tryz.prog 39 (c1 (c1 (c2 jkH))) (adA k o n c (hb||zx (xs.take i)) (zw (xs.take i)) i) .normal (adA k o n c (hb||zx (xs.take (i+1))) (zw (xs.take (i+1))) ((i:Int)+1)):=by
 obtain ⟨hlen,hat,hok⟩:=hk
 have hi':i<xs.length:=by omega
 have hx:=zO (hat i hi')
 have hs:=qa xs i hi'
 have b0:=jft (xs.take i)
 rw [List.length_take] at b0
 have b1:=yF xs[i]
 have hm:((min i xs.length:Nat):Int)=i:=by omega
 rw [hm] at b0
 have e1:zw (xs.take (i+1))=zw (xs.take i)+jf xs[i]:=by rw [hs,jhL];simp [zw]
 have e2:(hb||zx (xs.take (i+1)))=((hb||zx (xs.take i))||jL xs[i]):=by rw [hs,jcx];simp [zx,Bool.or_assoc]
 have e3:((i:Int)).toNat*1=i:=by simp
 have e4:wr .i64 ((i:Int)+1)=(i:Int)+1:=q9 (by omega) (by omega)
 obtain ⟨ty,fr,es,l⟩:=k
 rw [e1,e2]
 generalize zw (xs.take i)=S at *
 have hi2:=kL S (by omega) (by omega)
 have hl2:=qk S
 have hi3:=kL (jf xs[i]) (by omega) (by omega)
 have hl3:=qk (jf xs[i])
 refine To.run (z:=Zl) sound15 (slots:=[0,5,10,11,12]) (blks:=[0,1,2]) (vs:=[A0,P2,.v (.one (.slx 1 o n c)),.v (.one (.int .i64 n)),.v (.one (.int .i64 ((i:Int)+1)))])
  (bs:=[flag 63 ((hb||zx (xs.take i))||jL xs[i]),⟨ty,fr,es,l⟩,wB (S+jf xs[i])]) (nbB:=3)
  (fun dead=>fc dead (hb||zx (xs.take i)) o n c ty fr es l (wHi S) (wLo S) i) rfl (by rw [e4];rfl) (by rw [e3,hx.1];simp only [jJ];rfl) ?_ (qh rfl (yG (Nat.le_refl _) rfl (jn jo hok) rfl)) (Nat.le_refl _)
 rw [e3,hx.1,hx.2]
 simp only [jJ,jM,isI_iff,isU_iff,isW_iff,Bool.and_eq_true,decide_eq_true_eq]
 repeat' apply And.intro
 all_goals first | exact jd | exact True.intro | omega
theorem jn2 (k:Blk) (o n c:Nat) (hok:okL noP k.cells=true) (h:Bool) (v:Int):To Tryz.prog 39 (c1 (c1 (c2 jkH))) (adA k o n c h v n) (.exit 0) (adB k h v):=by
 obtain ⟨ty,fr,es,l⟩:=k
 refine To.exec (z:=Zl) sound15 (slots:=[0,5]) (blks:=[0,1,2]) (vs:=[A0,P2]) (bs:=[flag 63 h,⟨ty,fr,es,l⟩,wB v]) (nbB:=3) (fun dead=>fd dead h o n c ty fr es l (wHi v) (wLo v) n) ?_ (qh rfl (yG (Nat.le_refl _) rfl (jn jo hok) rfl)) (Nat.le_refl _)
 simp
theorem jn3 (k:Blk) (o n c:Nat) (xs:List Int) (hk:SlAt 1 k o n xs) (hn:n<1152921504606846976) (hb:Bool):∀(m i:Nat),i+m=n→
  Rd Tryz.prog 39 (c1 (c1 (c2 jkH))) (m+1) (adA k o n c (hb||zx (xs.take i)) (zw (xs.take i)) i) (.exit 0) (adB k (hb||zx xs) (zw xs))
 | 0,i,h=>by
  have hi:i=n:=by omega
  have hl:xs.length=n:=by have:=hk.1;omega
  subst hi
  rw [←hl,List.take_length,hl]
  exact Rd.last (by simp) (jn2 k o i c hk.2.2 _ _)
 | m+1,i,h=>by
  have hs:=jkI k o n c xs hk hn hb i (by omega)
  refine Rd.next hs ?_
  exact jn3 k o n c xs hk hn hb m (i+1) (by omega)
def Xl (xs:List Int):Int:=jf (zw xs)
def ja7 (xs:List Int):Bool:=zx xs||jL (zw xs)
def jhM:List AV→Bool→Option (LV×Bool×List (Bool×Bool))
 | [.ints xs],hb=>some (I (Xl xs),hb||ja7 xs,[(decide (xs.length<1152921504606846976),true)])
 | _,_=>none
theorem jvu (hb:Bool):(jG Tryz.prog S15 Zl 2000 137 [A0,.v (.one .nilsl)] [(0,flag 63 hb)] 1 []).map (fun r=>(r.1,getM r.2.1 0,r.2.2.2))=some (I 0,some (flag 63 (hb||false)),[(true,true),(true,true),(true,true)]):=by kernel_rfl
theorem jn4 (v:Int):kZ v (Int.toNat 0)=v:=by
 have h:kZ v 0=sgn (decide (v<0)) ((jh v+0)/1):=rfl
 show kZ v 0=v
 rw [h,Int.add_zero,Int.ediv_one,jfV]
theorem sumFadd:SumOK Tryz.prog 137 (x9 63 1 jhM):=by
 refine jaD (jl sound15 Tryz.func137 (by kernel_rfl)) (fun avs hb r h=> ?_) fun pre xs hb v h' cs hF hc hp hv=> ?_
 ·unfold jhM at h
  split at h
  ·exact ⟨[],_,rfl⟩
  ·cases h
 ·have hpre:pre=[]:=by
   cases pre with
   | nil=>rfl
   | cons p pre=>
    simp only [List.map_cons,List.cons_append] at hF
    unfold jhM at hF
    split at hF
    ·rename_i he;simp at he
    ·cases hF
  subst hpre
  have hF':some (I (Xl xs),hb||ja7 xs,[(decide (xs.length<1152921504606846976),true)])=some (v,h',cs):=hF
  cases hF'
  simp only [jM,decide_eq_true_eq] at hc
  obtain ⟨hn,-⟩:=hc
  refine ⟨fun k o n c hk _ E w hrel=> ?_,fun hx E w hrel=> ?_⟩
  ·have hlen:xs.length=n:=by have:=hk.1;omega
   rw [hlen] at hn
   have hok:=hk.2.2
   have hR:=jn3 k o n c xs hk hn hb n 0 (by omega)
   have b0:=jft xs
   rw [hlen] at b0
   have hi2:=kL (zw xs) (by omega) (by omega)
   have hl2:=qk (zw xs)
   have hend:jeC (if isI (zw xs)=true then zw xs else 0) (isI (zw xs)) (decide (wHi (zw xs)<0))=Xl xs:=by
    have:=jfp (zw xs) 0 (decide (wHi (zw xs)<0)) (by rw [Yu hl2.1 hl2.2,jJ])
    have e:=jn4 (zw xs)
    rw [show Int.toNat 0=0 from rfl] at e
    rw [e] at this
    exact this
   obtain ⟨ty,fr,es,l⟩:=k
   refine JT (c:=jj Tryz.prog 137) (e:= .ret) (nb:=2) (B:=⟨[(4,.v (.one (.int .i64 (Xl xs))))],[(0,flag 63 (hb||ja7 xs)),(1,⟨ty,fr,es,l⟩)],3⟩) Tryz.func137 (by kernel_rfl) (Nat.le_of_ble_eq_true (by kernel_rfl)) (Nat.le_of_ble_eq_true (by kernel_rfl))
    (fun u hu=> ?_) (xE (Nat.le_refl _) rfl (jn jo hok)) ?_ (.inr rfl) (fun dead=>by kernel_rfl) rfl (fun i b hib=> ?_) E w hrel
   ·simp only [List.nil_append,List.mem_cons,List.not_mem_nil,or_false] at hu
    rcases hu with rfl | rfl <;> rfl
   ·refine To.spineR (z:=Zl) sound15 (k:=2) (slots:=[0,1,4,5]) (blks:=[0,1,2]) (vs:=[A0,.v (.one (.slx 1 o n c)),.v (.one (.int .i64 0)),P2]) (bs:=[flag 63 hb,⟨ty,fr,es,l⟩,wB 0]) (nbB:=3) (by kernel_rfl) (fun dead=>fa dead hb o n c ty fr es l) rfl rfl rfl (by simp) (qh rfl (yG (Nat.le_refl _) rfl (jn jo hok) rfl)) (Nat.le_succ 2) ?_
    refine To.seq (by kernel_rfl) (To.seq (by kernel_rfl) (To.exec (z:=Zl) sound15 (slots:=[0,5,10,11,12]) (blks:=[0,1,2]) (vs:=[A0,P2,.v (.one (.slx 1 o n c)),.v (.one (.int .i64 n)),.v (.one (.int .i64 0))]) (bs:=[flag 63 hb,⟨ty,fr,es,l⟩,wB 0]) (nbB:=3) (fun dead=>fb dead hb o n c ty fr es l 0 0) (by simp) (qh rfl (yG (Nat.le_refl _) rfl (jn jo hok) rfl)) (Nat.le_refl _))
     (To.block (id:=0) (by kernel_rfl) (To.loop (m:=n+1) (by kernel_rfl) ?_) (.inl rfl))) (C:=_) (B:=adB ⟨ty,fr,es,l⟩ (hb||zx xs) (zw xs)) ?_
    ·have h0:adA ⟨ty,fr,es,l⟩ o n c (hb||zx (xs.take 0)) (zw (xs.take 0)) ((0:Nat):Int)=⟨[0,5,10,11,12].zip [A0,P2,.v (.one (.slx 1 o n c)),.v (.one (.int .i64 n)),.v (.one (.int .i64 0))],[0,1,2].zip [flag 63 hb,⟨ty,fr,es,l⟩,wB 0],3⟩:=by
      unfold adA
      simp only [List.take_zero,zx,Bool.or_false,zw]
      rfl
     rw [←h0]
     exact hR
    ·refine To.run (z:=Zl) sound15 (slots:=[4]) (blks:=[0,1]) (vs:=[.v (.one (.int .i64 (Xl xs)))]) (bs:=[flag 63 (hb||ja7 xs),⟨ty,fr,es,l⟩]) (nbB:=3) (fun dead=>fe dead (hb||zx xs) ty fr es l (wHi (zw xs)) (wLo (zw xs))) rfl ?_ ?_ ?_ (qh rfl (xE (Nat.le_succ 2) rfl (jn jo hok))) (Nat.le_refl _)
     ·rw [jJ,jn4,hend]
     ·rw [jJ,jn4,ja4,Bool.or_assoc];rfl
     ·simp only [jM,isI_iff,isU_iff]
      exact ⟨hi2,hl2,rfl,jd⟩
   ·rcases Xe hib with ⟨rfl,rfl⟩ | ⟨rfl,rfl⟩
    ·exact ⟨rfl,by decide,rfl⟩
    ·exact ⟨rfl,by decide,jn jo hok⟩
  ·subst hx
   have hrun:=jvu hb
   cases hq:jG Tryz.prog S15 Zl 2000 137 [A0,.v (.one .nilsl)] [(0,flag 63 hb)] 1 [] with
   | none=>rw [hq] at hrun;cases hrun
   | some q=>
    obtain ⟨v',m2,nb',cs'⟩:=q
    rw [hq] at hrun
    simp only [Option.map_some,Option.some.injEq,Prod.mk.injEq] at hrun
    obtain ⟨rfl,hm2,rfl⟩:=hrun
    exact x8 sound15 hq (m':=[(0,flag 63 (hb||ja7 []))]) (fun i c hic=>by
      obtain ⟨rfl,rfl⟩:=jca hic
      exact ⟨hm2,Nat.zero_lt_one,rfl⟩) (by simp) rfl (fun a ha=>by
      simp only [List.mem_cons,List.not_mem_nil,or_false] at ha
      rcases ha with rfl | rfl <;> rfl) rfl E w hrel
def S16:FuncId→Option SumK:=more S15 137 (x9 63 1 jhM)
theorem sound16:Sound Tryz.prog S16:=sound15.more sumFadd
end Go.Proofs.YtbpfipbhaagllaaGreat

/- root: end, Recip, by every path of their runs (printed), and what they come to. -/
namespace Go.Proofs.YtbpfipbhaagllaaGreat
open Go.Lr
theorem jkJ (x y:Int) (hb:Bool):(jG Tryz.prog S16 Zl 2000 80 [A0,.v (.agg [.int .i64 x,.int .u64 y])] [(0,flag 63 hb)] 1 [some true]).map kU=some (LV.v (V1.one (At.int .i64 (jf 1152921504606846977))),some { ty:=63,fr:=(0,0),es:=0,cells:=[At.bool (hb||jL 1152921504606846977)] },[(!isI (kf (jc x y)),true),(decide (x<0),false),(isI x,true),(isU y,true)]):=by kernel_rfl
theorem jkK (x y:Int) (hb:Bool):(jG Tryz.prog S16 Zl 2000 80 [A0,.v (.agg [.int .i64 x,.int .u64 y])] [(0,flag 63 hb)] 1 [some false]).map kU=some (LV.v (V1.one (At.int .i64 (jf (if isI (kf (jc x y))=true then kf (jc x y) else 0)))),some { ty:=63,fr:=(0,0),es:=0,cells:=[At.bool (hb||jL (if isI (kf (jc x y))=true then kf (jc x y) else 0))] },[(!isI (kf (jc x y)),false),(decide (x<0),false),(isI x,true),(isU y,true)]):=by kernel_rfl
def jcy (x y:Int) (hb:Bool):Option (LV×Bool×List (Bool×Bool)):=
 bif (!isI (kf (jc x y))) then some (LV.v (V1.one (At.int .i64 (jf 1152921504606846977))),(hb||jL 1152921504606846977),[(decide (x<0),false),(isI x,true),(isU y,true)])
 else some (LV.v (V1.one (At.int .i64 (jf (if isI (kf (jc x y))=true then kf (jc x y) else 0)))),(hb||jL (if isI (kf (jc x y))=true then kf (jc x y) else 0)),[(decide (x<0),false),(isI x,true),(isU y,true)])
def jjx:List LV→Bool→Option (LV×Bool×List (Bool×Bool))
 | [.v (.agg [.int .i64 x,.int .u64 y])],hb=>jcy x y hb
 | _,_=>none
theorem sumxrend:SumOK Tryz.prog 80 (js 63 jjx):=by
 refine jF (z:=Zl) sound16 (jl sound16 Tryz.func80 (by kernel_rfl)) fun args hb v h' cs hF hc=> ?_
 unfold jjx at hF
 split at hF
 ·rename_i x y
  unfold jcy at hF
  rcases ji (!isI (kf (jc x y))) with h0 | h0
  ·rw [jy h0] at hF
   cases hF
   exact ⟨rfl,2000,[some true],_,jkJ x y hb,ja (h0) (ja (jt (hc)) (ja (jt (jg (hc))) (ja (jt (jg (jg (hc)))) (jd))))⟩
  ·rw [jv h0] at hF
   cases hF
   exact ⟨rfl,2000,[some false],_,jkK x y hb,ja (h0) (ja (jt (hc)) (ja (jt (jg (hc))) (ja (jt (jg (jg (hc)))) (jd))))⟩
 ·cases hF
def jkL:List LV→Bool→Option (LV×Bool×List (Bool×Bool))
 | [.v (.agg [.int .i64 x,.int .u64 y])],hb=>some (I (jf (kf (jc x y))),hb||jL (kf (jc x y)),[(decide (x<0),false),(isI x,true),(isU y,true)])
 | _,_=>none
theorem jkM:SumOK Tryz.prog 80 (js 63 jkL):=by
 refine sumxrend.acc_re fun args hb v h' cs hF hc=> ?_
 unfold jkL at hF
 split at hF
 ·rename_i x y
  cases hF
  refine ⟨[(decide (x<0),false),(isI x,true),(isU y,true)], ?_,hc⟩
  show jcy x y hb=_
  simp only [jM,kT,isI_iff,isU_iff,decide_eq_false_iff_not] at hc
  obtain ⟨hx,⟨hx0,hx1⟩,⟨hy0,hy1⟩,-⟩:=hc
  have hN0:0≤jc x y:=by unfold jc;omega
  have hN1:jc x y<340282366920938463463374607431768211456:=by unfold jc;omega
  have hr:=(XR hN0 hN1).1
  unfold jcy
  generalize kf (jc x y)=r at *
  by_cases hi:isI r=true
  ·rw [jv (by rw [hi];rfl),if_pos hi];rfl
  ·have hi':isI r=false:=by simpa using hi
   rw [jy (by rw [hi'];rfl)]
   have hbig:¬(-9223372036854775808≤r∧r<9223372036854775808):=fun hh=>hi (isI_iff.2 hh)
   rw [jfm (a:=r) (by omega),Ys (a:=r) (by omega),jfm (a:=1152921504606846977) (by omega),Ys (a:=1152921504606846977) (by omega)]
   rfl
 ·cases hF
def S17:FuncId→Option SumK:=more S16 80 (js 63 jkL)
theorem sound17:Sound Tryz.prog S17:=sound16.more jkM
end Go.Proofs.YtbpfipbhaagllaaGreat

/- root: Sqrt, Hypot: their walks, and what they come to. -/
namespace Go.Proofs.YtbpfipbhaagllaaGreat
open Go.Lr
theorem jkN (a:Int) (hb:Bool):(jG Tryz.prog S17 Zl 2000 46 [A0,.v (.one (.int .i64 a))] [(0,flag 63 hb)] 1 [some true]).map kU=some (LV.v (V1.one (At.int .i64 0)),some { ty:=63,fr:=(0,0),es:=0,cells:=[At.bool true] },[(decide (jf a<0),true)]):=by kernel_rfl
theorem jkO (a:Int) (hb:Bool):(jG Tryz.prog S17 Zl 2000 46 [A0,.v (.one (.int .i64 a))] [(0,flag 63 hb)] 1 [some false]).map kU=some (LV.v (V1.one (At.int .i64 (jf (kf (jc (wHi (jf a*jk (Int.toNat 30))) (wLo (jf a*jk (Int.toNat 30)))))))),some { ty:=63,fr:=(0,0),es:=0,cells:=[At.bool (hb||jL a||jL (kf (jc (wHi (jf a*jk (Int.toNat 30))) (wLo (jf a*jk (Int.toNat 30))))))] },[(decide (wHi (jf a*jk (Int.toNat 30))<0),false),(isI (wHi (jf a*jk (Int.toNat 30))),true),(isU (wLo (jf a*jk (Int.toNat 30))),true),(isI (jf a),true),(decide (0≤30)&&decide (30≤127),true),(decide (jh (jf a)*jk (Int.toNat 30)<170141183460469231731687303715884105728),true),(decide (jf a<0),false)]):=by kernel_rfl
def jcz (a:Int) (hb:Bool):Option (LV×Bool×List (Bool×Bool)):=
 bif (decide (jf a<0)) then some (LV.v (V1.one (At.int .i64 0)),(true),[])
 else some (LV.v (V1.one (At.int .i64 (jf (kf (jc (wHi (jf a*jk (Int.toNat 30))) (wLo (jf a*jk (Int.toNat 30)))))))),(hb||jL a||jL (kf (jc (wHi (jf a*jk (Int.toNat 30))) (wLo (jf a*jk (Int.toNat 30)))))),[(decide (wHi (jf a*jk (Int.toNat 30))<0),false),(isI (wHi (jf a*jk (Int.toNat 30))),true),(isU (wLo (jf a*jk (Int.toNat 30))),true),(isI (jf a),true),(decide (0≤30)&&decide (30≤127),true),(decide (jh (jf a)*jk (Int.toNat 30)<170141183460469231731687303715884105728),true)])
def jjy:List LV→Bool→Option (LV×Bool×List (Bool×Bool))
 | [.v (.one (.int .i64 a))],hb=>jcz a hb
 | _,_=>none
theorem sumxsqrt:SumOK Tryz.prog 46 (js 63 jjy):=by
 refine jF (z:=Zl) sound17 (jl sound17 Tryz.func46 (by kernel_rfl)) fun args hb v h' cs hF hc=> ?_
 unfold jjy at hF
 split at hF
 ·rename_i a
  unfold jcz at hF
  rcases ji (decide (jf a<0)) with h0 | h0
  ·rw [jy h0] at hF
   cases hF
   exact ⟨rfl,2000,[some true],_,jkN a hb,ja (h0) (jd)⟩
  ·rw [jv h0] at hF
   cases hF
   exact ⟨rfl,2000,[some false],_,jkO a hb,ja (jt (hc)) (ja (jt (jg (hc))) (ja (jt (jg (jg (hc)))) (ja (jt (jg (jg (jg (hc))))) (ja (jt (jg (jg (jg (jg (hc)))))) (ja (jt (jg (jg (jg (jg (jg (hc))))))) (ja (h0) (jd)))))))⟩
 ·cases hF
theorem hb (dead:Nat→Value) (hb:Bool) (o n c:Nat) (ty:TypeId) (fr:Nat×Nat) (es:Nat) (l:List At) (x y:Int):ju [0,5,12,13,14] [0,1,2] (exec Tryz.prog S17 Zl 400 (.code (c1 (c1 (c2 (c2 (jj Tryz.prog 70)))))) (Kst.st ⟨[(0,A0),(1,.v (.one (.slx 1 o n c))),(4,.v (.one (.int .i64 0))),(5,P2)],[(0,flag 63 hb),(1,⟨ty,fr,es,l⟩),(2,⟨164,(0,0),0,[.int .i64 x,.int .u64 y]⟩)],3⟩ 34 dead []))=some (Ex.normal,[LV.v (V1.one (At.ptr 0 0)),LV.v (V1.one (At.ptr 2 0)),LV.v (V1.one (At.slx 1 (if c=((Int.ofNat 0)).toNat then o else o+((Int.ofNat 0)).toNat*1) ((if (64:Int)<(n:Int) then 64 else (n:Int)).toNat - ((Int.ofNat 0)).toNat) (c - ((Int.ofNat 0)).toNat))),LV.v (V1.one (At.int .i64 ↑((if (64:Int)<(n:Int) then 64 else (n:Int)).toNat - ((Int.ofNat 0)).toNat))),LV.v (V1.one (At.int .i64 0))],[some { ty:=63,fr:=(0,0),es:=0,cells:=[At.bool hb] },some { ty:=ty,fr:=fr,es:=es,cells:=l },some { ty:=164,fr:=(0,0),es:=0,cells:=[At.int .i64 x,At.int IntKind.u64 y] }],[(decide (0≤(Int.ofNat 0))&&(decide ((Int.ofNat 0)≤if 64<(n:Int) then 64 else (n:Int))&&decide ((if (64:Int)<(n:Int) then 64 else (n:Int))≤(c:Int))),true)]):=by kernel_rfl
theorem hc (dead:Nat→Value) (hb:Bool) (o n c:Nat) (ty:TypeId) (fr:Nat×Nat) (es:Nat) (l:List At) (x y i:Int):ju [0,5,12,13,14] [0,1,2] (exec Tryz.prog S17 Zl 400 (.code (c1 (c1 (c2 (c1 (c2 (c2 (jj Tryz.prog 70)))))))) (Kst.st ⟨[(0,A0),(5,P2),(12,.v (.one (.slx 1 o n c))),(13,.v (.one (.int .i64 n))),(14,.v (.one (.int .i64 i)))],[(0,flag 63 hb),(1,⟨ty,fr,es,l⟩),(2,⟨164,(0,0),0,[.int .i64 x,.int .u64 y]⟩)],3⟩ 34 dead [some true]))=some (Ex.normal,[LV.v (V1.one (At.ptr 0 0)),LV.v (V1.one (At.ptr 2 0)),LV.v (V1.one (At.slx 1 o n c)),LV.v (V1.one (At.int .i64 (n:Int))),LV.v (V1.one (At.int .i64 (wr .i64 (i+1))))],[some { ty:=63,fr:=(0,0),es:=0,cells:=[At.bool (hb||jL (intAt l (o+i.toNat*1)))] },some { ty:=ty,fr:=fr,es:=es,cells:=l },some { ty:=164,fr:=(0,0),es:=0,cells:=[At.int .i64 (wHi (jc x y+jc (wHi (jf (intAt l (o+i.toNat*1))*jf (intAt l (o+i.toNat*1)))) (wLo (jf (intAt l (o+i.toNat*1))*jf (intAt l (o+i.toNat*1)))))),At.int IntKind.u64 (wLo (jc x y+jc (wHi (jf (intAt l (o+i.toNat*1))*jf (intAt l (o+i.toNat*1)))) (wLo (jf (intAt l (o+i.toNat*1))*jf (intAt l (o+i.toNat*1))))))] }],[(isI x,true),(isU y,true),(isI (wHi (jf (intAt l (o+i.toNat*1))*jf (intAt l (o+i.toNat*1)))),true),(isU (wLo (jf (intAt l (o+i.toNat*1))*jf (intAt l (o+i.toNat*1)))),true),(isW (jc x y+jc (wHi (jf (intAt l (o+i.toNat*1))*jf (intAt l (o+i.toNat*1)))) (wLo (jf (intAt l (o+i.toNat*1))*jf (intAt l (o+i.toNat*1))))),true),(isI (jf (intAt l (o+i.toNat*1))),true),(isI (jf (intAt l (o+i.toNat*1))),true),(isIntAt IntKind.i64 l (o+i.toNat*1),true),(decide (0≤i)&&decide (i<(n:Int)),true),(decide (i<(n:Int)),true)]):=by kernel_rfl
theorem hd (dead:Nat→Value) (hb:Bool) (o n c:Nat) (ty:TypeId) (fr:Nat×Nat) (es:Nat) (l:List At) (x y i:Int):ju [0,5] [0,1,2] (exec Tryz.prog S17 Zl 400 (.code (c1 (c1 (c2 (c1 (c2 (c2 (jj Tryz.prog 70)))))))) (Kst.st ⟨[(0,A0),(5,P2),(12,.v (.one (.slx 1 o n c))),(13,.v (.one (.int .i64 n))),(14,.v (.one (.int .i64 i)))],[(0,flag 63 hb),(1,⟨ty,fr,es,l⟩),(2,⟨164,(0,0),0,[.int .i64 x,.int .u64 y]⟩)],3⟩ 34 dead [some false]))=some (Ex.exit 0,[LV.v (V1.one (At.ptr 0 0)),LV.v (V1.one (At.ptr 2 0))],[some { ty:=63,fr:=(0,0),es:=0,cells:=[At.bool hb] },some { ty:=ty,fr:=fr,es:=es,cells:=l },some { ty:=164,fr:=(0,0),es:=0,cells:=[At.int .i64 x,At.int IntKind.u64 y] }],[(decide (i<(n:Int)),false)]):=by kernel_rfl
theorem he (dead:Nat→Value) (hb:Bool) (ty:TypeId) (fr:Nat×Nat) (es:Nat) (l:List At) (x y:Int):ju [4] [0,1] (exec Tryz.prog S17 Zl 400 (.code (c2 (c2 (c2 (jj Tryz.prog 70))))) (Kst.st ⟨[(0,A0),(5,P2)],[(0,flag 63 hb),(1,⟨ty,fr,es,l⟩),(2,⟨164,(0,0),0,[.int .i64 x,.int .u64 y]⟩)],3⟩ 34 dead []))=some (Ex.ret,[LV.v (V1.one (At.int .i64 (jf (kf (jc x y)))))],[some { ty:=63,fr:=(0,0),es:=0,cells:=[At.bool (hb||jL (kf (jc x y)))] },some { ty:=ty,fr:=fr,es:=es,cells:=l }],[(decide (x<0),false),(isI x,true),(isU y,true)]):=by kernel_rfl
theorem ha (dead:Nat→Value) (hb:Bool) (o n c:Nat) (ty:TypeId) (fr:Nat×Nat) (es:Nat) (l:List At):ju [0,1,4,5] [0,1,2] (xg Tryz.prog S17 Zl 400 (kJ 2 (jj Tryz.prog 70)) (Kst.st ⟨jS 0 [A0,.v (.one (.slx 1 o n c))],[(0,flag 63 hb),(1,⟨ty,fr,es,l⟩)],2⟩ 34 dead []))=some (Ex.normal,[LV.v (V1.one (At.ptr 0 0)),LV.v (V1.one (At.slx 1 o n c)),LV.v (V1.one (At.int .i64 0)),LV.v (V1.one (At.ptr 2 0))],[some { ty:=63,fr:=(0,0),es:=0,cells:=[At.bool hb] },some { ty:=ty,fr:=fr,es:=es,cells:=l },some { ty:=164,fr:=(0,0),es:=0,cells:=[At.int .i64 0,At.int IntKind.u64 0] }],[]):=by kernel_rfl
def jn5 (a:Int):Int:=if jf a<0 then 0 else jf (kf (jf a*1073741824))
def jn6 (a:Int):Bool:=jL a||(decide (jf a<0)||jL (kf (jf a*1073741824)))
def jfu:List LV→Bool→Option (LV×Bool×List (Bool×Bool))
 | [.v (.one (.int .i64 a))],hb=>some (I (jn5 a),hb||jn6 a,[])
 | _,_=>none
theorem jkP:SumOK Tryz.prog 46 (js 63 jfu):=by
 refine sumxsqrt.acc_re fun args hb v h' cs hF hc=> ?_
 unfold jfu at hF
 split at hF
 ·rename_i a
  cases hF
  show ∃cs',jcz a hb=_∧_
  unfold jcz jn5 jn6
  have b:=yF a
  have e1:jk (Int.toNat 30)=1073741824:=rfl
  rw [e1]
  by_cases h1:jf a<0
  ·rw [jy (decide_eq_true h1),if_pos h1,decide_eq_true h1]
   exact ⟨[],by simp [I],jd⟩
  ·rw [jv (decide_eq_false h1),if_neg h1,decide_eq_false h1]
   rw [jJ]
   refine ⟨_,rfl.trans (by simp only [I,Bool.or_assoc,Bool.false_or];rfl), ?_⟩
   have h2:=kL (jf a*1073741824) (by omega) (by omega)
   have h3:jh (jf a)=jf a:=zD (by omega)
   have h4:0≤wHi (jf a*1073741824):=by unfold wHi;omega
   rw [h3,yk,Yb]
   simp only [jM,kT,isI_iff,Bool.and_eq_true,decide_eq_true_eq,decide_eq_false_iff_not]
   exact ⟨by omega,h2,True.intro,True.intro,⟨by omega,by omega⟩,by omega,jd⟩
 ·cases hF
def sqS:List Int→Int
 | []=>0
 | a::l=>jf a*jf a+sqS l
theorem jkQ (l m:List Int):sqS (l++m)=sqS l+sqS m:=by
 induction l with
 | nil=>simp [sqS]
 | cons a l ih=>simp only [List.cons_append,sqS,ih];omega
theorem jn7 (a:Int):0≤jf a*jf a∧jf a*jf a≤1329227995784915872903807060280344576:=by
 have h:=ZF a a
 refine ⟨?_,h.2⟩
 by_cases h0:0≤jf a
 ·exact Int.mul_nonneg h0 h0
 ·exact Int.mul_nonneg_of_nonpos_of_nonpos (by omega) (by omega)
theorem jjz (l:List Int):0≤sqS l∧sqS l≤l.length*1329227995784915872903807060280344576:=by
 induction l with
 | nil=>simp [sqS]
 | cons a l ih=>
  have:=jn7 a
  simp only [sqS,List.length_cons]
  push_cast
  omega
noncomputable def jsc:Code:=c1 (c2 (c2 (jj Tryz.prog 70)))
def hyA (k:Blk) (o n c:Nat) (h:Bool) (v:Int) (i:Int):Kst:=⟨[(0,A0),(5,P2),(12,.v (.one (.slx 1 o n c))),(13,.v (.one (.int .i64 n))),(14,.v (.one (.int .i64 i)))],[(0,flag 63 h),(1,k),(2,wB v)],3⟩
def hyB (k:Blk) (h:Bool) (v:Int):Kst:=⟨[(0,A0),(5,P2)],[(0,flag 63 h),(1,k),(2,wB v)],3⟩
theorem jn8 (k:Blk) (o n c:Nat) (xs:List Int) (hlen:xs.length=n) (hat:IntsAt k.cells o xs) (hok:okL noP k.cells=true) (hn:n≤64) (hb:Bool) (i:Nat) (hi:i<n):
  To Tryz.prog 34 (c1 (c1 (c2 jsc))) (hyA k o n c (hb||zx (xs.take i)) (sqS (xs.take i)) i) .normal (hyA k o n c (hb||zx (xs.take (i+1))) (sqS (xs.take (i+1))) ((i:Int)+1)):=by
 have hi':i<xs.length:=by omega
 have hx:=zO (hat i hi')
 have hs:=qa xs i hi'
 have b0:=jjz (xs.take i)
 rw [List.length_take] at b0
 have b1:=jn7 xs[i]
 have hm:((min i xs.length:Nat):Int)=i:=by omega
 rw [hm] at b0
 have e1:sqS (xs.take (i+1))=sqS (xs.take i)+jf xs[i]*jf xs[i]:=by rw [hs,jkQ];simp [sqS]
 have e2:(hb||zx (xs.take (i+1)))=((hb||zx (xs.take i))||jL xs[i]):=by rw [hs,jcx];simp [zx,Bool.or_assoc]
 have e3:((i:Int)).toNat*1=i:=by simp
 have e4:wr .i64 ((i:Int)+1)=(i:Int)+1:=q9 (by omega) (by omega)
 have hI:=yk xs[i]
 obtain ⟨ty,fr,es,l⟩:=k
 rw [e1,e2]
 generalize sqS (xs.take i)=S at *
 have hi2:=kL S (by omega) (by omega)
 have hl2:=qk S
 have hi3:=kL (jf xs[i]*jf xs[i]) (by omega) (by omega)
 have hl3:=qk (jf xs[i]*jf xs[i])
 refine To.run (z:=Zl) sound17 (slots:=[0,5,12,13,14]) (blks:=[0,1,2]) (vs:=[A0,P2,.v (.one (.slx 1 o n c)),.v (.one (.int .i64 n)),.v (.one (.int .i64 ((i:Int)+1)))])
  (bs:=[flag 63 ((hb||zx (xs.take i))||jL xs[i]),⟨ty,fr,es,l⟩,wB (S+jf xs[i]*jf xs[i])]) (nbB:=3)
  (fun dead=>hc dead (hb||zx (xs.take i)) o n c ty fr es l (wHi S) (wLo S) i) rfl (by rw [e4];rfl) (by rw [e3,hx.1];simp only [jJ];rfl) ?_ (qh rfl (yG (Nat.le_refl _) rfl (jn jo hok) rfl)) (Nat.le_refl _)
 rw [e3,hx.1,hx.2,hI]
 simp only [jJ,jM,isI_iff,isU_iff,isW_iff,Bool.and_eq_true,decide_eq_true_eq]
 repeat' apply And.intro
 all_goals first | exact jd | exact True.intro | omega
theorem jsd (k:Blk) (o n c:Nat) (hok:okL noP k.cells=true) (h:Bool) (v:Int):To Tryz.prog 34 (c1 (c1 (c2 jsc))) (hyA k o n c h v n) (.exit 0) (hyB k h v):=by
 obtain ⟨ty,fr,es,l⟩:=k
 refine To.exec (z:=Zl) sound17 (slots:=[0,5]) (blks:=[0,1,2]) (vs:=[A0,P2]) (bs:=[flag 63 h,⟨ty,fr,es,l⟩,wB v]) (nbB:=3) (fun dead=>hd dead h o n c ty fr es l (wHi v) (wLo v) n) ?_ (qh rfl (yG (Nat.le_refl _) rfl (jn jo hok) rfl)) (Nat.le_refl _)
 simp
theorem juE (k:Blk) (o n c:Nat) (xs:List Int) (hlen:xs.length=n) (hat:IntsAt k.cells o xs) (hok:okL noP k.cells=true) (hn:n≤64) (hb:Bool):∀(m i:Nat),i+m=n→
  Rd Tryz.prog 34 (c1 (c1 (c2 jsc))) (m+1) (hyA k o n c (hb||zx (xs.take i)) (sqS (xs.take i)) i) (.exit 0) (hyB k (hb||zx xs) (sqS xs))
 | 0,i,h=>by
  have hi:i=n:=by omega
  subst hi
  rw [←hlen,List.take_length,hlen]
  exact Rd.last (by simp) (jsd k o i c hok _ _)
 | m+1,i,h=>by
  have hs:=jn8 k o n c xs hlen hat hok hn hb i (by omega)
  refine Rd.next hs ?_
  exact juE k o n c xs hlen hat hok hn hb m (i+1) (by omega)
def Jq (xs:List Int):Int:=jf (kf (sqS (xs.take 64)))
def jg8 (xs:List Int):Bool:=zx (xs.take 64)||jL (kf (sqS (xs.take 64)))
def jdK:List AV→Bool→Option (LV×Bool×List (Bool×Bool))
 | [.ints xs],hb=>some (I (Jq xs),hb||jg8 xs,[])
 | _,_=>none
theorem jdL (hb:Bool):(jG Tryz.prog S17 Zl 2000 70 [A0,.v (.one .nilsl)] [(0,flag 63 hb)] 1 []).map (fun r=>(r.1,getM r.2.1 0,r.2.2.2))=some (I (Jq []),some (flag 63 (hb||jg8 [])),[(decide ((0:Int)<0),false),(isI 0,true),(isU 0,true)]):=by kernel_rfl
theorem IntsAt.take {l:List At} {o:Nat} {xs:List Int} (h:IntsAt l o xs) (m:Nat):IntsAt l o (xs.take m):=by
 intro j hj
 rw [List.length_take] at hj
 have:=h j (by omega)
 rw [this,List.getElem_take]
theorem jfv:SumOK Tryz.prog 70 (x9 63 1 jdK):=by
 refine jaD (jl sound17 Tryz.func70 (by kernel_rfl)) (fun avs hb r h=> ?_) fun pre xs hb v h' cs hF hcc hp hv=> ?_
 ·unfold jdK at h
  split at h
  ·exact ⟨[],_,rfl⟩
  ·cases h
 ·have hpre:pre=[]:=by
   cases pre with
   | nil=>rfl
   | cons p pre=>
    simp only [List.map_cons,List.cons_append] at hF
    unfold jdK at hF
    split at hF
    ·rename_i he;simp at he
    ·cases hF
  subst hpre
  have hF':some (I (Jq xs),hb||jg8 xs,[])=some (v,h',cs):=hF
  cases hF'
  refine ⟨fun k o n c hk hnc E w hrel=> ?_,fun hx E w hrel=> ?_⟩
  ·have hlen:xs.length=n:=by have:=hk.1;omega
   have hok:=hk.2.2
   have hat:=IntsAt.take hk.2.1 64
   have hlt:(xs.take 64).length=min n 64:=by rw [List.length_take];omega
   have hR:=juE k o (min n 64) c (xs.take 64) hlt hat hok (by omega) hb (min n 64) 0 (by omega)
   have b0:=jjz (xs.take 64)
   rw [hlt] at b0
   have hi2:=kL (sqS (xs.take 64)) (by omega) (by omega)
   have hl2:=qk (sqS (xs.take 64))
   have hh0:0≤wHi (sqS (xs.take 64)):=by unfold wHi;omega
   have eI:(if (64:Int) < ↑n then 64 else (↑n:Int))=((min n 64:Nat):Int):=by split <;> omega
   have eN:((min n 64:Nat):Int).toNat - (Int.ofNat 0).toNat=min n 64:=by simp
   have eO:(if c=(Int.ofNat 0).toNat then o else o+(Int.ofNat 0).toNat*1)=o:=by split <;> simp
   have eC:c - (Int.ofNat 0).toNat=c:=by simp
   obtain ⟨ty,fr,es,l⟩:=k
   refine JT (c:=jj Tryz.prog 70) (e:= .ret) (nb:=2) (B:=⟨[(4,.v (.one (.int .i64 (Jq xs))))],[(0,flag 63 (hb||jg8 xs)),(1,⟨ty,fr,es,l⟩)],3⟩) Tryz.func70 (by kernel_rfl) (Nat.le_of_ble_eq_true (by kernel_rfl)) (Nat.le_of_ble_eq_true (by kernel_rfl))
    (fun u hu=> ?_) (xE (Nat.le_refl _) rfl (jn jo hok)) ?_ (.inr rfl) (fun dead=>by kernel_rfl) rfl (fun i b hib=> ?_) E w hrel
   ·simp only [List.nil_append,List.mem_cons,List.not_mem_nil,or_false] at hu
    rcases hu with rfl | rfl <;> rfl
   ·refine To.spineR (z:=Zl) sound17 (k:=2) (slots:=[0,1,4,5]) (blks:=[0,1,2]) (vs:=[A0,.v (.one (.slx 1 o n c)),.v (.one (.int .i64 0)),P2]) (bs:=[flag 63 hb,⟨ty,fr,es,l⟩,wB 0]) (nbB:=3) (by kernel_rfl) (fun dead=>ha dead hb o n c ty fr es l) rfl rfl rfl (by simp) (qh rfl (yG (Nat.le_refl _) rfl (jn jo hok) rfl)) (Nat.le_succ 2) ?_
    refine To.seq (by kernel_rfl) (To.seq (by kernel_rfl) (To.run (z:=Zl) sound17 (slots:=[0,5,12,13,14]) (blks:=[0,1,2]) (vs:=[A0,P2,.v (.one (.slx 1 o (min n 64) c)),.v (.one (.int .i64 ((min n 64:Nat):Int))),.v (.one (.int .i64 0))]) (bs:=[flag 63 hb,⟨ty,fr,es,l⟩,wB 0]) (nbB:=3) (fun dead=>Go.Proofs.YtbpfipbhaagllaaGreat.hb dead hb o n c ty fr es l 0 0) rfl (by simp only [eI,eN,eO,eC];rfl) rfl ?_ (qh rfl (yG (Nat.le_refl _) rfl (jn jo hok) rfl)) (Nat.le_refl _))
     (To.block (id:=0) (by kernel_rfl) (To.loop (m:=min n 64+1) (by kernel_rfl) ?_) (.inl rfl))) (C:=_) (B:=hyB ⟨ty,fr,es,l⟩ (hb||zx (xs.take 64)) (sqS (xs.take 64))) ?_
    ·simp only [eI,jM,Bool.and_eq_true,decide_eq_true_eq]
     have e0:Int.ofNat 0=0:=rfl
     rw [e0]
     exact ⟨⟨by omega,by omega,by omega⟩,jd⟩
    ·have h0:hyA ⟨ty,fr,es,l⟩ o (min n 64) c (hb||zx ((xs.take 64).take 0)) (sqS ((xs.take 64).take 0)) ((0:Nat):Int)=⟨[0,5,12,13,14].zip [A0,P2,.v (.one (.slx 1 o (min n 64) c)),.v (.one (.int .i64 ((min n 64:Nat):Int))),.v (.one (.int .i64 0))],[0,1,2].zip [flag 63 hb,⟨ty,fr,es,l⟩,wB 0],3⟩:=by
      unfold hyA
      simp only [List.take_zero,zx,Bool.or_false,sqS]
      rfl
     rw [←h0]
     exact hR
    ·refine To.run (z:=Zl) sound17 (slots:=[4]) (blks:=[0,1]) (vs:=[.v (.one (.int .i64 (Jq xs)))]) (bs:=[flag 63 (hb||jg8 xs),⟨ty,fr,es,l⟩]) (nbB:=3) (fun dead=>he dead (hb||zx (xs.take 64)) ty fr es l (wHi (sqS (xs.take 64))) (wLo (sqS (xs.take 64)))) rfl ?_ ?_ ?_ (qh rfl (xE (Nat.le_succ 2) rfl (jn jo hok))) (Nat.le_refl _)
     ·rw [jJ];rfl
     ·rw [jJ,Bool.or_assoc];rfl
     ·simp only [jM,kT,isI_iff,isU_iff,decide_eq_false_iff_not]
      exact ⟨by omega,hi2,hl2,jd⟩
   ·rcases Xe hib with ⟨rfl,rfl⟩ | ⟨rfl,rfl⟩
    ·exact ⟨rfl,by decide,rfl⟩
    ·exact ⟨rfl,by decide,jn jo hok⟩
  ·subst hx
   have hrun:=jdL hb
   cases hq:jG Tryz.prog S17 Zl 2000 70 [A0,.v (.one .nilsl)] [(0,flag 63 hb)] 1 [] with
   | none=>rw [hq] at hrun;cases hrun
   | some q=>
    obtain ⟨v',m2,nb',cs'⟩:=q
    rw [hq] at hrun
    simp only [Option.map_some,Option.some.injEq,Prod.mk.injEq] at hrun
    obtain ⟨rfl,hm2,rfl⟩:=hrun
    exact x8 sound17 hq (m':=[(0,flag 63 (hb||jg8 []))]) (fun i c hic=>by
      obtain ⟨rfl,rfl⟩:=jca hic
      exact ⟨hm2,Nat.zero_lt_one,rfl⟩) (ja rfl (ja rfl (ja rfl jd))) rfl (fun a ha=>by
      simp only [List.mem_cons,List.not_mem_nil,or_false] at ha
      rcases ha with rfl | rfl <;> rfl) rfl E w hrel
def S18:FuncId→Option SumK:=more (more S17 46 (js 63 jfu)) 70 (x9 63 1 jdK)
theorem sound18:Sound Tryz.prog S18:=(sound17.more jkP).more jfv
end Go.Proofs.YtbpfipbhaagllaaGreat

/- fx.Dot: its walk, round by round. -/
namespace Go.Proofs.YtbpfipbhaagllaaGreat
open Go.Lr
theorem jeZ (dead:Nat→Value) (hb:Bool) (s:Int) (oa na ca ob nn cb:Nat) (ty:TypeId) (fr:Nat×Nat) (es:Nat) (l:List At) (ty2:TypeId) (fr2:Nat×Nat) (es2:Nat) (l2:List At):ju [0,1,2,3,9] [0,1,2,3] (xg Tryz.prog S18 Zl 400 (kJ 3 (jj Tryz.prog 142)) (Kst.st ⟨jS 0 [A0,I s,SLX 1 oa na ca,SLX 2 ob nn cb],[(0,flag 63 hb),(1,⟨ty,fr,es,l⟩),(2,⟨ty2,fr2,es2,l2⟩)],3⟩ 53 dead [some false,some false,some false,some false]))=some (Ex.normal,[LV.v (V1.one (At.ptr 0 0)),LV.v (V1.one (At.int .i64 s)),LV.v (V1.one (At.slx 1 oa na ca)),LV.v (V1.one (At.slx 2 ob nn cb)),LV.v (V1.one (At.ptr 3 0))],[some { ty:=63,fr:=(0,0),es:=0,cells:=[At.bool hb] },some { ty:=ty,fr:=fr,es:=es,cells:=l },some { ty:=ty2,fr:=fr2,es:=es2,cells:=l2 },some { ty:=164,fr:=(0,0),es:=0,cells:=[At.int .i64 0,At.int IntKind.u64 0] }],[(decide (s>120),false),(decide (s<0),false),(decide (s<0),false),(decide (s<0),false)]):=by kernel_rfl
theorem je0 (dead:Nat→Value) (hb:Bool) (s:Int) (oa na ca ob nn cb:Nat) (ty:TypeId) (fr:Nat×Nat) (es:Nat) (l:List At) (ty2:TypeId) (fr2:Nat×Nat) (es2:Nat) (l2:List At) (x y:Int):ju [0,1,2,3,9,25,26] [0,1,2,3] (exec Tryz.prog S18 Zl 400 (.code (c1 (c1 (c2 (c2 (c2 (jj Tryz.prog 142))))))) (Kst.st ⟨[(0,A0),(1,I s),(2,SLX 1 oa na ca),(3,SLX 2 ob nn cb),(9,.v (.one (.ptr 3 0)))],[(0,flag 63 hb),(1,⟨ty,fr,es,l⟩),(2,⟨ty2,fr2,es2,l2⟩),(3,⟨164,(0,0),0,[.int .i64 x,.int .u64 y]⟩)],4⟩ 53 dead []))=some (Ex.normal,[LV.v (V1.one (At.ptr 0 0)),LV.v (V1.one (At.int .i64 s)),LV.v (V1.one (At.slx 1 oa na ca)),LV.v (V1.one (At.slx 2 ob nn cb)),LV.v (V1.one (At.ptr 3 0)),LV.v (V1.one (At.int .i64 (if 100<if (nn:Int)<(na:Int) then (nn:Int) else (na:Int) then 100 else if (nn:Int)<(na:Int) then (nn:Int) else (na:Int)))),LV.v (V1.one (At.int .i64 0))],[some { ty:=63,fr:=(0,0),es:=0,cells:=[At.bool hb] },some { ty:=ty,fr:=fr,es:=es,cells:=l },some { ty:=ty2,fr:=fr2,es:=es2,cells:=l2 },some { ty:=164,fr:=(0,0),es:=0,cells:=[At.int .i64 x,At.int IntKind.u64 y] }],[]):=by kernel_rfl
theorem je1 (dead:Nat→Value) (hb:Bool) (s:Int) (oa na ca ob nn cb:Nat) (ty:TypeId) (fr:Nat×Nat) (es:Nat) (l:List At) (ty2:TypeId) (fr2:Nat×Nat) (es2:Nat) (l2:List At) (x y:Int) (mm i:Int):ju [0,1,2,3,9,25,26] [0,1,2,3] (exec Tryz.prog S18 Zl 400 (.code (c1 (c1 (c2 (c1 (c2 (c2 (c2 (jj Tryz.prog 142))))))))) (Kst.st ⟨[(0,A0),(1,I s),(2,SLX 1 oa na ca),(3,SLX 2 ob nn cb),(9,.v (.one (.ptr 3 0))),(25,I mm),(26,I i)],[(0,flag 63 hb),(1,⟨ty,fr,es,l⟩),(2,⟨ty2,fr2,es2,l2⟩),(3,⟨164,(0,0),0,[.int .i64 x,.int .u64 y]⟩)],4⟩ 53 dead [some true]))=some (Ex.normal,[LV.v (V1.one (At.ptr 0 0)),LV.v (V1.one (At.int .i64 s)),LV.v (V1.one (At.slx 1 oa na ca)),LV.v (V1.one (At.slx 2 ob nn cb)),LV.v (V1.one (At.ptr 3 0)),LV.v (V1.one (At.int .i64 mm)),LV.v (V1.one (At.int .i64 (wr .i64 (i+1))))],[some { ty:=63,fr:=(0,0),es:=0,cells:=[At.bool (hb||jL (intAt l (oa+i.toNat*1))||jL (intAt l2 (ob+i.toNat*1)))] },some { ty:=ty,fr:=fr,es:=es,cells:=l },some { ty:=ty2,fr:=fr2,es:=es2,cells:=l2 },some { ty:=164,fr:=(0,0),es:=0,cells:=[At.int .i64 (wHi (jc x y+jc (wHi (jf (intAt l (oa+i.toNat*1))*jf (intAt l2 (ob+i.toNat*1)))) (wLo (jf (intAt l (oa+i.toNat*1))*jf (intAt l2 (ob+i.toNat*1)))))),At.int IntKind.u64 (wLo (jc x y+jc (wHi (jf (intAt l (oa+i.toNat*1))*jf (intAt l2 (ob+i.toNat*1)))) (wLo (jf (intAt l (oa+i.toNat*1))*jf (intAt l2 (ob+i.toNat*1))))))] }],[(isI x,true),(isU y,true),(isI (wHi (jf (intAt l (oa+i.toNat*1))*jf (intAt l2 (ob+i.toNat*1)))),true),(isU (wLo (jf (intAt l (oa+i.toNat*1))*jf (intAt l2 (ob+i.toNat*1)))),true),(isW (jc x y+jc (wHi (jf (intAt l (oa+i.toNat*1))*jf (intAt l2 (ob+i.toNat*1)))) (wLo (jf (intAt l (oa+i.toNat*1))*jf (intAt l2 (ob+i.toNat*1))))),true),(isI (jf (intAt l (oa+i.toNat*1))),true),(isI (jf (intAt l2 (ob+i.toNat*1))),true),(isIntAt IntKind.i64 l2 (ob+i.toNat*1),true),(decide (0≤i)&&decide (i<(nn:Int)),true),(isIntAt IntKind.i64 l (oa+i.toNat*1),true),(decide (0≤i)&&decide (i<(na:Int)),true),(decide (i<mm),true)]):=by kernel_rfl
theorem je2 (dead:Nat→Value) (hb:Bool) (s:Int) (oa na ca ob nn cb:Nat) (ty:TypeId) (fr:Nat×Nat) (es:Nat) (l:List At) (ty2:TypeId) (fr2:Nat×Nat) (es2:Nat) (l2:List At) (x y:Int) (mm i:Int):ju [0,1,9] [0,1,2,3] (exec Tryz.prog S18 Zl 400 (.code (c1 (c1 (c2 (c1 (c2 (c2 (c2 (jj Tryz.prog 142))))))))) (Kst.st ⟨[(0,A0),(1,I s),(2,SLX 1 oa na ca),(3,SLX 2 ob nn cb),(9,.v (.one (.ptr 3 0))),(25,I mm),(26,I i)],[(0,flag 63 hb),(1,⟨ty,fr,es,l⟩),(2,⟨ty2,fr2,es2,l2⟩),(3,⟨164,(0,0),0,[.int .i64 x,.int .u64 y]⟩)],4⟩ 53 dead [some false]))=some (Ex.exit 0,[LV.v (V1.one (At.ptr 0 0)),LV.v (V1.one (At.int .i64 s)),LV.v (V1.one (At.ptr 3 0))],[some { ty:=63,fr:=(0,0),es:=0,cells:=[At.bool hb] },some { ty:=ty,fr:=fr,es:=es,cells:=l },some { ty:=ty2,fr:=fr2,es:=es2,cells:=l2 },some { ty:=164,fr:=(0,0),es:=0,cells:=[At.int .i64 x,At.int IntKind.u64 y] }],[(decide (i<mm),false)]):=by kernel_rfl
theorem je3 (dead:Nat→Value) (hb:Bool) (s:Int) (oa na ca ob nn cb:Nat) (ty:TypeId) (fr:Nat×Nat) (es:Nat) (l:List At) (ty2:TypeId) (fr2:Nat×Nat) (es2:Nat) (l2:List At) (x y:Int):ju [8] [0,1,2] (exec Tryz.prog S18 Zl 400 (.code (c2 (c2 (c2 (c2 (jj Tryz.prog 142)))))) (Kst.st ⟨[(0,A0),(1,I s),(9,.v (.one (.ptr 3 0)))],[(0,flag 63 hb),(1,⟨ty,fr,es,l⟩),(2,⟨ty2,fr2,es2,l2⟩),(3,⟨164,(0,0),0,[.int .i64 x,.int .u64 y]⟩)],4⟩ 53 dead []))=some (Ex.ret,[LV.v (V1.one (At.int .i64 (Jo (jc x y) s)))],[some { ty:=63,fr:=(0,0),es:=0,cells:=[At.bool (hb||Jp (jc x y) s)] },some { ty:=ty,fr:=fr,es:=es,cells:=l },some { ty:=ty2,fr:=fr2,es:=es2,cells:=l2 }],[(isI x,true),(isU y,true)]):=by kernel_rfl
theorem je4 (dead:Nat→Value) (hb:Bool) (s:Int) (oa na ca ob nn cb:Nat) (ty:TypeId) (fr:Nat×Nat) (es:Nat) (l:List At):ju [0,1,2,3,9] [0,1,3] (xg Tryz.prog S18 Zl 400 (kJ 3 (jj Tryz.prog 142)) (Kst.st ⟨jS 0 [A0,I s,SLX 1 oa na ca,SLX 1 ob nn cb],[(0,flag 63 hb),(1,⟨ty,fr,es,l⟩)],3⟩ 53 dead [some false,some false,some false,some false]))=some (Ex.normal,[LV.v (V1.one (At.ptr 0 0)),LV.v (V1.one (At.int .i64 s)),LV.v (V1.one (At.slx 1 oa na ca)),LV.v (V1.one (At.slx 1 ob nn cb)),LV.v (V1.one (At.ptr 3 0))],[some { ty:=63,fr:=(0,0),es:=0,cells:=[At.bool hb] },some { ty:=ty,fr:=fr,es:=es,cells:=l },some { ty:=164,fr:=(0,0),es:=0,cells:=[At.int .i64 0,At.int IntKind.u64 0] }],[(decide (s>120),false),(decide (s<0),false),(decide (s<0),false),(decide (s<0),false)]):=by kernel_rfl
theorem je5 (dead:Nat→Value) (hb:Bool) (s:Int) (oa na ca ob nn cb:Nat) (ty:TypeId) (fr:Nat×Nat) (es:Nat) (l:List At) (x y:Int):ju [0,1,2,3,9,25,26] [0,1,3] (exec Tryz.prog S18 Zl 400 (.code (c1 (c1 (c2 (c2 (c2 (jj Tryz.prog 142))))))) (Kst.st ⟨[(0,A0),(1,I s),(2,SLX 1 oa na ca),(3,SLX 1 ob nn cb),(9,.v (.one (.ptr 3 0)))],[(0,flag 63 hb),(1,⟨ty,fr,es,l⟩),(3,⟨164,(0,0),0,[.int .i64 x,.int .u64 y]⟩)],4⟩ 53 dead []))=some (Ex.normal,[LV.v (V1.one (At.ptr 0 0)),LV.v (V1.one (At.int .i64 s)),LV.v (V1.one (At.slx 1 oa na ca)),LV.v (V1.one (At.slx 1 ob nn cb)),LV.v (V1.one (At.ptr 3 0)),LV.v (V1.one (At.int .i64 (if 100<if (nn:Int)<(na:Int) then (nn:Int) else (na:Int) then 100 else if (nn:Int)<(na:Int) then (nn:Int) else (na:Int)))),LV.v (V1.one (At.int .i64 0))],[some { ty:=63,fr:=(0,0),es:=0,cells:=[At.bool hb] },some { ty:=ty,fr:=fr,es:=es,cells:=l },some { ty:=164,fr:=(0,0),es:=0,cells:=[At.int .i64 x,At.int IntKind.u64 y] }],[]):=by kernel_rfl
theorem je6 (dead:Nat→Value) (hb:Bool) (s:Int) (oa na ca ob nn cb:Nat) (ty:TypeId) (fr:Nat×Nat) (es:Nat) (l:List At) (x y:Int) (mm i:Int):ju [0,1,2,3,9,25,26] [0,1,3] (exec Tryz.prog S18 Zl 400 (.code (c1 (c1 (c2 (c1 (c2 (c2 (c2 (jj Tryz.prog 142))))))))) (Kst.st ⟨[(0,A0),(1,I s),(2,SLX 1 oa na ca),(3,SLX 1 ob nn cb),(9,.v (.one (.ptr 3 0))),(25,I mm),(26,I i)],[(0,flag 63 hb),(1,⟨ty,fr,es,l⟩),(3,⟨164,(0,0),0,[.int .i64 x,.int .u64 y]⟩)],4⟩ 53 dead [some true]))=some (Ex.normal,[LV.v (V1.one (At.ptr 0 0)),LV.v (V1.one (At.int .i64 s)),LV.v (V1.one (At.slx 1 oa na ca)),LV.v (V1.one (At.slx 1 ob nn cb)),LV.v (V1.one (At.ptr 3 0)),LV.v (V1.one (At.int .i64 mm)),LV.v (V1.one (At.int .i64 (wr .i64 (i+1))))],[some { ty:=63,fr:=(0,0),es:=0,cells:=[At.bool (hb||jL (intAt l (oa+i.toNat*1))||jL (intAt l (ob+i.toNat*1)))] },some { ty:=ty,fr:=fr,es:=es,cells:=l },some { ty:=164,fr:=(0,0),es:=0,cells:=[At.int .i64 (wHi (jc x y+jc (wHi (jf (intAt l (oa+i.toNat*1))*jf (intAt l (ob+i.toNat*1)))) (wLo (jf (intAt l (oa+i.toNat*1))*jf (intAt l (ob+i.toNat*1)))))),At.int IntKind.u64 (wLo (jc x y+jc (wHi (jf (intAt l (oa+i.toNat*1))*jf (intAt l (ob+i.toNat*1)))) (wLo (jf (intAt l (oa+i.toNat*1))*jf (intAt l (ob+i.toNat*1))))))] }],[(isI x,true),(isU y,true),(isI (wHi (jf (intAt l (oa+i.toNat*1))*jf (intAt l (ob+i.toNat*1)))),true),(isU (wLo (jf (intAt l (oa+i.toNat*1))*jf (intAt l (ob+i.toNat*1)))),true),(isW (jc x y+jc (wHi (jf (intAt l (oa+i.toNat*1))*jf (intAt l (ob+i.toNat*1)))) (wLo (jf (intAt l (oa+i.toNat*1))*jf (intAt l (ob+i.toNat*1))))),true),(isI (jf (intAt l (oa+i.toNat*1))),true),(isI (jf (intAt l (ob+i.toNat*1))),true),(isIntAt IntKind.i64 l (ob+i.toNat*1),true),(decide (0≤i)&&decide (i<(nn:Int)),true),(isIntAt IntKind.i64 l (oa+i.toNat*1),true),(decide (0≤i)&&decide (i<(na:Int)),true),(decide (i<mm),true)]):=by kernel_rfl
theorem je7 (dead:Nat→Value) (hb:Bool) (s:Int) (oa na ca ob nn cb:Nat) (ty:TypeId) (fr:Nat×Nat) (es:Nat) (l:List At) (x y:Int) (mm i:Int):ju [0,1,9] [0,1,3] (exec Tryz.prog S18 Zl 400 (.code (c1 (c1 (c2 (c1 (c2 (c2 (c2 (jj Tryz.prog 142))))))))) (Kst.st ⟨[(0,A0),(1,I s),(2,SLX 1 oa na ca),(3,SLX 1 ob nn cb),(9,.v (.one (.ptr 3 0))),(25,I mm),(26,I i)],[(0,flag 63 hb),(1,⟨ty,fr,es,l⟩),(3,⟨164,(0,0),0,[.int .i64 x,.int .u64 y]⟩)],4⟩ 53 dead [some false]))=some (Ex.exit 0,[LV.v (V1.one (At.ptr 0 0)),LV.v (V1.one (At.int .i64 s)),LV.v (V1.one (At.ptr 3 0))],[some { ty:=63,fr:=(0,0),es:=0,cells:=[At.bool hb] },some { ty:=ty,fr:=fr,es:=es,cells:=l },some { ty:=164,fr:=(0,0),es:=0,cells:=[At.int .i64 x,At.int IntKind.u64 y] }],[(decide (i<mm),false)]):=by kernel_rfl
theorem je8 (dead:Nat→Value) (hb:Bool) (s:Int) (oa na ca ob nn cb:Nat) (ty:TypeId) (fr:Nat×Nat) (es:Nat) (l:List At) (x y:Int):ju [8] [0,1] (exec Tryz.prog S18 Zl 400 (.code (c2 (c2 (c2 (c2 (jj Tryz.prog 142)))))) (Kst.st ⟨[(0,A0),(1,I s),(9,.v (.one (.ptr 3 0)))],[(0,flag 63 hb),(1,⟨ty,fr,es,l⟩),(3,⟨164,(0,0),0,[.int .i64 x,.int .u64 y]⟩)],4⟩ 53 dead []))=some (Ex.ret,[LV.v (V1.one (At.int .i64 (Jo (jc x y) s)))],[some { ty:=63,fr:=(0,0),es:=0,cells:=[At.bool (hb||Jp (jc x y) s)] },some { ty:=ty,fr:=fr,es:=es,cells:=l }],[(isI x,true),(isU y,true)]):=by kernel_rfl
theorem jdC (hb:Bool) (s:Int) (oa na ca ob nn cb:Nat) (ty:TypeId) (fr:Nat×Nat) (es:Nat) (l:List At) (ty2:TypeId) (fr2:Nat×Nat) (es2:Nat) (l2:List At):(jG Tryz.prog S18 Zl 2000 142 [A0,I s,SLX 1 oa na ca,SLX 2 ob nn cb] [(0,flag 63 hb),(1,⟨ty,fr,es,l⟩),(2,⟨ty2,fr2,es2,l2⟩)] 3 [some true,some true,some true,none]).map (fun r=>(r.1,getM r.2.1 0,getM r.2.1 1,getM r.2.1 2,r.2.2.2))=some (LV.v (V1.one (At.int .i64 (Jo (jc 0 0) s))),some { ty:=63,fr:=(0,0),es:=0,cells:=[At.bool (hb||Jp (jc 0 0) s)] },some { ty:=ty,fr:=fr,es:=es,cells:=l },some { ty:=ty2,fr:=fr2,es:=es2,cells:=l2 },[(isI 0,true),(isU 0,true),(decide (s<0),true),(decide (s<0),true),(decide (s<0),true)]):=by kernel_rfl
theorem jdD (hb:Bool) (s:Int) (oa na ca ob nn cb:Nat) (ty:TypeId) (fr:Nat×Nat) (es:Nat) (l:List At) (ty2:TypeId) (fr2:Nat×Nat) (es2:Nat) (l2:List At):(jG Tryz.prog S18 Zl 2000 142 [A0,I s,SLX 1 oa na ca,SLX 2 ob nn cb] [(0,flag 63 hb),(1,⟨ty,fr,es,l⟩),(2,⟨ty2,fr2,es2,l2⟩)] 3 [some false,some false,some false,some true]).map (fun r=>(r.1,getM r.2.1 0,getM r.2.1 1,getM r.2.1 2,r.2.2.2))=some (LV.v (V1.one (At.int .i64 (Jo (jc 0 0) s))),some { ty:=63,fr:=(0,0),es:=0,cells:=[At.bool (hb||Jp (jc 0 0) s)] },some { ty:=ty,fr:=fr,es:=es,cells:=l },some { ty:=ty2,fr:=fr2,es:=es2,cells:=l2 },[(isI 0,true),(isU 0,true),(decide (s>120),true),(decide (s<0),false),(decide (s<0),false),(decide (s<0),false)]):=by kernel_rfl
theorem jdE (hb:Bool) (s:Int) (oa na ca ob nn cb:Nat) (ty:TypeId) (fr:Nat×Nat) (es:Nat) (l:List At) (ty2:TypeId) (fr2:Nat×Nat) (es2:Nat) (l2:List At):(jG Tryz.prog S18 Zl 2000 142 [A0,I s,SLX 1 oa na ca,SLX 1 ob nn cb] [(0,flag 63 hb),(1,⟨ty,fr,es,l⟩)] 3 [some true,some true,some true,none]).map (fun r=>(r.1,getM r.2.1 0,getM r.2.1 1,getM r.2.1 2,r.2.2.2))=some (LV.v (V1.one (At.int .i64 (Jo (jc 0 0) s))),some { ty:=63,fr:=(0,0),es:=0,cells:=[At.bool (hb||Jp (jc 0 0) s)] },some { ty:=ty,fr:=fr,es:=es,cells:=l },none,[(isI 0,true),(isU 0,true),(decide (s<0),true),(decide (s<0),true),(decide (s<0),true)]):=by kernel_rfl
theorem jdF (hb:Bool) (s:Int) (oa na ca ob nn cb:Nat) (ty:TypeId) (fr:Nat×Nat) (es:Nat) (l:List At) (ty2:TypeId) (fr2:Nat×Nat) (es2:Nat) (l2:List At):(jG Tryz.prog S18 Zl 2000 142 [A0,I s,SLX 1 oa na ca,SLX 1 ob nn cb] [(0,flag 63 hb),(1,⟨ty,fr,es,l⟩)] 3 [some false,some false,some false,some true]).map (fun r=>(r.1,getM r.2.1 0,getM r.2.1 1,getM r.2.1 2,r.2.2.2))=some (LV.v (V1.one (At.int .i64 (Jo (jc 0 0) s))),some { ty:=63,fr:=(0,0),es:=0,cells:=[At.bool (hb||Jp (jc 0 0) s)] },some { ty:=ty,fr:=fr,es:=es,cells:=l },none,[(isI 0,true),(isU 0,true),(decide (s>120),true),(decide (s<0),false),(decide (s<0),false),(decide (s<0),false)]):=by kernel_rfl
theorem jaS (hb:Bool) (s:Int) (oa na ca ob nn cb:Nat) (ty:TypeId) (fr:Nat×Nat) (es:Nat) (l:List At) (ty2:TypeId) (fr2:Nat×Nat) (es2:Nat) (l2:List At):(jG Tryz.prog S18 Zl 2000 142 [A0,I s,SLX 1 oa na ca,NIL] [(0,flag 63 hb),(1,⟨ty,fr,es,l⟩)] 2 [some true,some true,some true,none]).map (fun r=>(r.1,getM r.2.1 0,getM r.2.1 1,getM r.2.1 2,r.2.2.2))=some (LV.v (V1.one (At.int .i64 (Jo (jc 0 0) s))),some { ty:=63,fr:=(0,0),es:=0,cells:=[At.bool (hb||Jp (jc 0 0) s)] },some { ty:=ty,fr:=fr,es:=es,cells:=l },none,[(isI 0,true),(isU 0,true),(decide (s<0),true),(decide (s<0),true),(decide (s<0),true)]):=by kernel_rfl
theorem jaT (hb:Bool) (s:Int) (oa na ca ob nn cb:Nat) (ty:TypeId) (fr:Nat×Nat) (es:Nat) (l:List At) (ty2:TypeId) (fr2:Nat×Nat) (es2:Nat) (l2:List At):(jG Tryz.prog S18 Zl 2000 142 [A0,I s,SLX 1 oa na ca,NIL] [(0,flag 63 hb),(1,⟨ty,fr,es,l⟩)] 2 [some false,some false,some false,some true]).map (fun r=>(r.1,getM r.2.1 0,getM r.2.1 1,getM r.2.1 2,r.2.2.2))=some (LV.v (V1.one (At.int .i64 (Jo (jc 0 0) s))),some { ty:=63,fr:=(0,0),es:=0,cells:=[At.bool (hb||Jp (jc 0 0) s)] },some { ty:=ty,fr:=fr,es:=es,cells:=l },none,[(isI 0,true),(isU 0,true),(decide (s>120),true),(decide (s<0),false),(decide (s<0),false),(decide (s<0),false)]):=by kernel_rfl
theorem jdG (hb:Bool) (s:Int) (oa na ca ob nn cb:Nat) (ty:TypeId) (fr:Nat×Nat) (es:Nat) (l:List At) (ty2:TypeId) (fr2:Nat×Nat) (es2:Nat) (l2:List At):(jG Tryz.prog S18 Zl 2000 142 [A0,I s,SLX 1 oa na ca,NIL] [(0,flag 63 hb),(1,⟨ty,fr,es,l⟩)] 2 [some false,some false,some false,some false,some false]).map (fun r=>(r.1,getM r.2.1 0,getM r.2.1 1,getM r.2.1 2,r.2.2.2))=some (LV.v (V1.one (At.int .i64 (Jo (jc 0 0) s))),some { ty:=63,fr:=(0,0),es:=0,cells:=[At.bool (hb||Jp (jc 0 0) s)] },some { ty:=ty,fr:=fr,es:=es,cells:=l },some { ty:=164,fr:=(0,0),es:=0,cells:=[At.int .i64 0,At.int IntKind.u64 0] },[(isI 0,true),(isU 0,true),(decide (0<if 100<if 0<(na:Int) then 0 else (na:Int) then 100 else if 0<(na:Int) then 0 else (na:Int)),false),(decide (s>120),false),(decide (s<0),false),(decide (s<0),false),(decide (s<0),false)]):=by kernel_rfl
theorem Zy (hb:Bool) (s:Int) (oa na ca ob nn cb:Nat) (ty:TypeId) (fr:Nat×Nat) (es:Nat) (l:List At) (ty2:TypeId) (fr2:Nat×Nat) (es2:Nat) (l2:List At):(jG Tryz.prog S18 Zl 2000 142 [A0,I s,NIL,SLX 1 ob nn cb] [(0,flag 63 hb),(1,⟨ty,fr,es,l⟩)] 2 [some true,some true,some true,none]).map (fun r=>(r.1,getM r.2.1 0,getM r.2.1 1,getM r.2.1 2,r.2.2.2))=some (LV.v (V1.one (At.int .i64 (Jo (jc 0 0) s))),some { ty:=63,fr:=(0,0),es:=0,cells:=[At.bool (hb||Jp (jc 0 0) s)] },some { ty:=ty,fr:=fr,es:=es,cells:=l },none,[(isI 0,true),(isU 0,true),(decide (s<0),true),(decide (s<0),true),(decide (s<0),true)]):=by kernel_rfl
theorem Zz (hb:Bool) (s:Int) (oa na ca ob nn cb:Nat) (ty:TypeId) (fr:Nat×Nat) (es:Nat) (l:List At) (ty2:TypeId) (fr2:Nat×Nat) (es2:Nat) (l2:List At):(jG Tryz.prog S18 Zl 2000 142 [A0,I s,NIL,SLX 1 ob nn cb] [(0,flag 63 hb),(1,⟨ty,fr,es,l⟩)] 2 [some false,some false,some false,some true]).map (fun r=>(r.1,getM r.2.1 0,getM r.2.1 1,getM r.2.1 2,r.2.2.2))=some (LV.v (V1.one (At.int .i64 (Jo (jc 0 0) s))),some { ty:=63,fr:=(0,0),es:=0,cells:=[At.bool (hb||Jp (jc 0 0) s)] },some { ty:=ty,fr:=fr,es:=es,cells:=l },none,[(isI 0,true),(isU 0,true),(decide (s>120),true),(decide (s<0),false),(decide (s<0),false),(decide (s<0),false)]):=by kernel_rfl
theorem jaU (hb:Bool) (s:Int) (oa na ca ob nn cb:Nat) (ty:TypeId) (fr:Nat×Nat) (es:Nat) (l:List At) (ty2:TypeId) (fr2:Nat×Nat) (es2:Nat) (l2:List At):(jG Tryz.prog S18 Zl 2000 142 [A0,I s,NIL,SLX 1 ob nn cb] [(0,flag 63 hb),(1,⟨ty,fr,es,l⟩)] 2 [some false,some false,some false,some false,some false]).map (fun r=>(r.1,getM r.2.1 0,getM r.2.1 1,getM r.2.1 2,r.2.2.2))=some (LV.v (V1.one (At.int .i64 (Jo (jc 0 0) s))),some { ty:=63,fr:=(0,0),es:=0,cells:=[At.bool (hb||Jp (jc 0 0) s)] },some { ty:=ty,fr:=fr,es:=es,cells:=l },some { ty:=164,fr:=(0,0),es:=0,cells:=[At.int .i64 0,At.int IntKind.u64 0] },[(isI 0,true),(isU 0,true),(decide (0<if 100<if (nn:Int)<0 then (nn:Int) else 0 then 100 else if (nn:Int)<0 then (nn:Int) else 0),false),(decide (s>120),false),(decide (s<0),false),(decide (s<0),false),(decide (s<0),false)]):=by kernel_rfl
theorem jaV (hb:Bool) (s:Int) (oa na ca ob nn cb:Nat) (ty:TypeId) (fr:Nat×Nat) (es:Nat) (l:List At) (ty2:TypeId) (fr2:Nat×Nat) (es2:Nat) (l2:List At):(jG Tryz.prog S18 Zl 2000 142 [A0,I s,NIL,NIL] [(0,flag 63 hb)] 1 [some true,some true,some true,none]).map (fun r=>(r.1,getM r.2.1 0,getM r.2.1 1,getM r.2.1 2,r.2.2.2))=some (LV.v (V1.one (At.int .i64 (Jo (jc 0 0) s))),some { ty:=63,fr:=(0,0),es:=0,cells:=[At.bool (hb||Jp (jc 0 0) s)] },none,none,[(isI 0,true),(isU 0,true),(decide (s<0),true),(decide (s<0),true),(decide (s<0),true)]):=by kernel_rfl
theorem jaW (hb:Bool) (s:Int) (oa na ca ob nn cb:Nat) (ty:TypeId) (fr:Nat×Nat) (es:Nat) (l:List At) (ty2:TypeId) (fr2:Nat×Nat) (es2:Nat) (l2:List At):(jG Tryz.prog S18 Zl 2000 142 [A0,I s,NIL,NIL] [(0,flag 63 hb)] 1 [some false,some false,some false,some true]).map (fun r=>(r.1,getM r.2.1 0,getM r.2.1 1,getM r.2.1 2,r.2.2.2))=some (LV.v (V1.one (At.int .i64 (Jo (jc 0 0) s))),some { ty:=63,fr:=(0,0),es:=0,cells:=[At.bool (hb||Jp (jc 0 0) s)] },none,none,[(isI 0,true),(isU 0,true),(decide (s>120),true),(decide (s<0),false),(decide (s<0),false),(decide (s<0),false)]):=by kernel_rfl
theorem jdH (hb:Bool) (s:Int) (oa na ca ob nn cb:Nat) (ty:TypeId) (fr:Nat×Nat) (es:Nat) (l:List At) (ty2:TypeId) (fr2:Nat×Nat) (es2:Nat) (l2:List At):(jG Tryz.prog S18 Zl 2000 142 [A0,I s,NIL,NIL] [(0,flag 63 hb)] 1 [some false,some false,some false,some false,some false]).map (fun r=>(r.1,getM r.2.1 0,getM r.2.1 1,getM r.2.1 2,r.2.2.2))=some (LV.v (V1.one (At.int .i64 (Jo (jc 0 0) s))),some { ty:=63,fr:=(0,0),es:=0,cells:=[At.bool (hb||Jp (jc 0 0) s)] },some { ty:=164,fr:=(0,0),es:=0,cells:=[At.int .i64 0,At.int IntKind.u64 0] },none,[(isI 0,true),(isU 0,true),(decide (0<if 100<if 0<0 then 0 else 0 then 100 else if 0<0 then 0 else 0),false),(decide (s>120),false),(decide (s<0),false),(decide (s<0),false),(decide (s<0),false)]):=by kernel_rfl
def yj:List Int→List Int→Int
 | a::l,b::m=>jf a*jf b+yj l m
 | _,_=>0
def kz:List Int→List Int→Bool
 | a::l,b::m=>jL a||(jL b||kz l m)
 | _,_=>false
theorem Qo (l:List Int):yj l []=0:=by cases l <;> rfl
theorem XH (l:List Int):kz l []=false:=by cases l <;> rfl
theorem Yn:∀(l m:List Int) (a b:Int),l.length=m.length→yj (l++[a]) (m++[b])=yj l m+jf a*jf b
 | [],[],a,b,_=>by simp [yj]
 | x::l,y::m,a,b,h=>by
  have:=Yn l m a b (by simpa using h)
  simp only [List.cons_append,yj,this];omega
theorem Qp:∀(l m:List Int) (a b:Int),l.length=m.length→kz (l++[a]) (m++[b])=(kz l m||(jL a||jL b))
 | [],[],a,b,_=>by simp [kz]
 | x::l,y::m,a,b,h=>by
  have:=Qp l m a b (by simpa using h)
  simp only [List.cons_append,kz,this,Bool.or_assoc]
theorem jaX:∀(xs ys:List Int) (n k:Nat),n≤k→(n=k∨xs.length≤n∨ys.length≤n)→yj (xs.take n) (ys.take n)=yj (xs.take k) (ys.take k)∧kz (xs.take n) (ys.take n)=kz (xs.take k) (ys.take k)
 | [],ys,n,k,_,_=>by simp [yj,kz]
 | x::xs,[],n,k,_,_=>by simp [Qo,XH]
 | x::xs,y::ys,0,k,_,h=>by
  have:k=0:=by simp at h;omega
  subst this;exact ⟨rfl,rfl⟩
 | x::xs,y::ys,n+1,0,h,_=>by omega
 | x::xs,y::ys,n+1,k+1,h,h'=>by
  have:=jaX xs ys n k (by omega) (by simp at h';omega)
  refine ⟨?_, ?_⟩ <;> simp only [List.take_succ_cons,yj,kz,this.1,this.2]
theorem Qq:∀(l m:List Int),-(l.length*1329227995784915872903807060280344576:Int)≤yj l m∧yj l m≤l.length*1329227995784915872903807060280344576
 | [],m=>by simp [yj]
 | a::l,[]=>by
  rw [Qo]
  have:(0:Int)≤((a::l).length:Int)*1329227995784915872903807060280344576:=Int.mul_nonneg (by omega) (by decide)
  omega
 | a::l,b::m=>by
  have h1:=Qq l m
  have h2:=ZF a b
  simp only [yj,List.length_cons]
  push_cast
  omega
theorem je9 {D p:Int} {i m:Nat} (hi:i<m) (hm:m≤100) (b0: -((i:Int)*1329227995784915872903807060280344576)≤D∧D≤i*1329227995784915872903807060280344576) (b1: -1329227995784915872903807060280344576≤p∧p≤1329227995784915872903807060280344576):
  (-170141183460469231731687303715884105728≤D∧D<170141183460469231731687303715884105728)∧(-170141183460469231731687303715884105728≤p∧p<170141183460469231731687303715884105728)∧(-170141183460469231731687303715884105728≤D+p∧D+p<170141183460469231731687303715884105728):=by omega
theorem jfa {D:Int} {n k:Nat} (b0: -(((min 100 n:Nat):Int)*1329227995784915872903807060280344576)≤D∧D≤((min 100 n:Nat):Int)*1329227995784915872903807060280344576):
  -170141183460469231731687303715884105728≤D∧D<170141183460469231731687303715884105728:=by omega
def qZ (s:Int) (xs ys:List Int):Int:=Jo (yj (xs.take 100) (ys.take 100)) s
def yf (s:Int) (xs ys:List Int):Bool:=kz (xs.take 100) (ys.take 100)||Jp (yj (xs.take 100) (ys.take 100)) s
def jaY:List AV→Bool→Option (LV×Bool×List (Bool×Bool))
 | [.pl (.v (.one (.int .i64 s))),.ints xs,.ints ys],hb=>some (I (qZ s xs ys),hb||yf s xs ys,[])
 | _,_=>none
theorem jaZ {s:Int} {xs ys:List Int} (h:xs=[]∨ys=[]) (hb:Bool):Jo (jc 0 0) s=qZ s xs ys∧(hb||Jp (jc 0 0) s)=(hb||yf s xs ys):=by
 have e:jc 0 0=0:=rfl
 unfold qZ yf
 rcases h with rfl | rfl
 ·simp [yj,kz,e]
 ·simp [Qo,XH,e]
theorem xN {s:Int} (h:s<0∨s>120) (xs ys:List Int) (hb:Bool):Jo (jc 0 0) s=qZ s xs ys∧(hb||Jp (jc 0 0) s)=(hb||yf s xs ys):=by
 unfold qZ yf Jo Jp
 rcases h with h | h
 ·simp [h]
 ·have:¬s<0:=by omega
  simp [h,this]
section
variable {P:Program} {S:FuncId→Option SumK} {z:Md}
theorem jcs (hs:Sound P S) {n:Nat} {f:FuncId} {args:List LV} {m m':Mem} {nb:Nat} {dec:List (Option Bool)} {v:LV} {b0 b1 b2:Option Blk} {cs:List (Bool×Bool)}
  (hrun:(jG P S z n f args m nb dec).map (fun r=>(r.1,getM r.2.1 0,getM r.2.1 1,getM r.2.1 2,r.2.2.2))=some (v,b0,b1,b2,cs))
  (hg:∀i b,getM m' i=some b→(i=0∧b0=some b∨i=1∧b1=some b∨i=2∧b2=some b)∧i<nb∧okL (below nb) b.cells=true) (hc:∀c∈cs,c.1=c.2) (hm:jY nb m=true) (ha:∀u∈args,u.ok (below nb)=true) (hv:v.ok noP=true)
  (E:Env) (w:World) (hrel:Rel E (getM m) w):Calls P f (args.map (LV.den E)).toArray w fun e w'=>e = .returned (v.den E0)∧Lcl E m m' w w':=by
 cases hq:jG P S z n f args m nb dec with
 | none=>rw [hq] at hrun;cases hrun
 | some q=>
  obtain ⟨v',m2,nb',cs'⟩:=q
  rw [hq] at hrun
  simp only [Option.map_some,Option.some.injEq,Prod.mk.injEq] at hrun
  obtain ⟨rfl,e0,e1,e2,rfl⟩:=hrun
  refine x8 hs hq (fun i b hib=> ?_) hc hm ha hv E w hrel
  obtain ⟨h,h2⟩:=hg i b hib
  refine ⟨?_,h2⟩
  rcases h with ⟨rfl,h⟩ | ⟨rfl,h⟩ | ⟨rfl,h⟩
  ·rw [e0,h]
  ·rw [e1,h]
  ·rw [e2,h]
end
theorem ZA {s:Int} (h:s<0):∀c∈[(isI 0,true),(isU 0,true),(decide (s<0),true),(decide (s<0),true),(decide (s<0),true)],c.1=c.2:=by
 have h1:isI 0=true:=by decide
 have h2:isU 0=true:=by decide
 rw [h1,h2,decide_eq_true h];simp
theorem ZB {s:Int} (h:s>120):∀c∈[(isI 0,true),(isU 0,true),(decide (s>120),true),(decide (s<0),false),(decide (s<0),false),(decide (s<0),false)],c.1=c.2:=by
 have h1:isI 0=true:=by decide
 have h2:isU 0=true:=by decide
 rw [h1,h2,decide_eq_true h,decide_eq_false (show ¬s<0 by omega)];simp
theorem jkq {s:Int} {b:Bool} (hb:b=false) (h0:0≤s) (h:s≤120):∀c∈[(isI 0,true),(isU 0,true),(b,false),(decide (s>120),false),(decide (s<0),false),(decide (s<0),false),(decide (s<0),false)],c.1=c.2:=by
 have h1:isI 0=true:=by decide
 have h2:isU 0=true:=by decide
 rw [h1,h2,hb,decide_eq_false (show ¬s>120 by omega),decide_eq_false (show ¬s<0 by omega)];simp
theorem jct {nb:Nat} {b0 b1 b2 b3:Blk} (hnb:4≤nb) (h0:okL (below nb) b0.cells=true) (h1:okL (below nb) b1.cells=true) (h2:okL (below nb) b2.cells=true) (h3:okL (below nb) b3.cells=true):jY nb [(0,b0),(1,b1),(2,b2),(3,b3)]=true:=by
 have e0:Nat.blt 0 nb=true:=by rw [zT];simp;omega
 have e1:Nat.blt 1 nb=true:=by rw [zT];simp;omega
 have e2:Nat.blt 2 nb=true:=by rw [zT];simp;omega
 have e3:Nat.blt 3 nb=true:=by rw [zT];simp;omega
 simp only [jY,e0,e1,e2,e3,h0,h1,h2,h3]
 rfl
theorem Yo {nb:Nat} {b0 b1 b3:Blk} (hnb:4≤nb) (h0:okL (below nb) b0.cells=true) (h1:okL (below nb) b1.cells=true) (h3:okL (below nb) b3.cells=true):jY nb [(0,b0),(1,b1),(3,b3)]=true:=by
 have e0:Nat.blt 0 nb=true:=by rw [zT];simp;omega
 have e1:Nat.blt 1 nb=true:=by rw [zT];simp;omega
 have e3:Nat.blt 3 nb=true:=by rw [zT];simp;omega
 simp only [jY,e0,e1,e3,h0,h1,h3]
 rfl
theorem jfb {nb:Nat} {b0:Blk} (hnb:1≤nb) (h0:okL (below nb) b0.cells=true):jY nb [(0,b0)]=true:=by
 have e0:Nat.blt 0 nb=true:=by rw [zT];simp;omega
 simp only [jY,e0,h0]
 rfl
def P3:LV:= .v (.one (.ptr 3 0))
noncomputable def jmB:Code:=c2 (c2 (c2 (jj Tryz.prog 142)))
def jht (k1 k2:Blk) (s:Int) (oa na ca ob nn cb:Nat) (h:Bool) (v mm i:Int):Kst:=⟨[(0,A0),(1,I s),(2,SLX 1 oa na ca),(3,SLX 2 ob nn cb),(9,P3),(25,I mm),(26,I i)],[(0,flag 63 h),(1,k1),(2,k2),(3,wB v)],4⟩
def jkr (k1 k2:Blk) (s:Int) (h:Bool) (v:Int):Kst:=⟨[(0,A0),(1,I s),(9,P3)],[(0,flag 63 h),(1,k1),(2,k2),(3,wB v)],4⟩
theorem jhu (k1 k2:Blk) (s:Int) (oa na ca ob nn cb:Nat) (xs ys:List Int) (hx:SlAt 1 k1 oa na xs) (hy:SlAt 1 k2 ob nn ys) (hb:Bool) (m:Nat) (hm:m≤100) (hma:m≤na) (hmb:m≤nn) (i:Nat) (hi:i<m):
  To Tryz.prog 53 (c1 (c1 (c2 (c1 jmB)))) (jht k1 k2 s oa na ca ob nn cb (hb||kz (xs.take i) (ys.take i)) (yj (xs.take i) (ys.take i)) m i) .normal (jht k1 k2 s oa na ca ob nn cb (hb||kz (xs.take (i+1)) (ys.take (i+1))) (yj (xs.take (i+1)) (ys.take (i+1))) m ((i:Int)+1)):=by
 obtain ⟨hlen,hat,hok⟩:=hx
 obtain ⟨hlen2,hat2,hok2⟩:=hy
 have ix:i<xs.length:=by omega
 have iy:i<ys.length:=by omega
 have hx:=zO (hat i ix)
 have hy:=zO (hat2 i iy)
 have b0:=Qq (xs.take i) (ys.take i)
 rw [List.length_take] at b0
 have b1:=ZF xs[i] ys[i]
 have hmi:((min i xs.length:Nat):Int)=i:=by omega
 rw [hmi] at b0
 have e0:(xs.take i).length=(ys.take i).length:=by simp only [List.length_take];omega
 have e1:yj (xs.take (i+1)) (ys.take (i+1))=yj (xs.take i) (ys.take i)+jf xs[i]*jf ys[i]:=by rw [qa xs i ix,qa ys i iy,Yn _ _ _ _ e0]
 have e2:(hb||kz (xs.take (i+1)) (ys.take (i+1)))=(((hb||kz (xs.take i) (ys.take i))||jL xs[i])||jL ys[i]):=by rw [qa xs i ix,qa ys i iy,Qp _ _ _ _ e0];simp [Bool.or_assoc]
 have e3:((i:Int)).toNat*1=i:=by simp
 have e4:wr .i64 ((i:Int)+1)=(i:Int)+1:=q9 (by omega) (by omega)
 have hI:=yk xs[i]
 have hI2:=yk ys[i]
 obtain ⟨ty,fr,es,l⟩:=k1
 obtain ⟨ty2,fr2,es2,l2⟩:=k2
 rw [e1,e2]
 generalize yj (xs.take i) (ys.take i)=D at *
 obtain ⟨⟨bD0,bD1⟩,⟨bp0,bp1⟩,bs0,bs1⟩:=je9 hi hm b0 b1
 obtain ⟨i2a,i2b⟩:=kL D bD0 bD1
 obtain ⟨l2a,l2b⟩:=qk D
 obtain ⟨i3a,i3b⟩:=kL (jf xs[i]*jf ys[i]) bp0 bp1
 obtain ⟨l3a,l3b⟩:=qk (jf xs[i]*jf ys[i])
 have j0:(0:Int)≤(i:Int):=Int.natCast_nonneg i
 have j1:(i:Int)<(na:Int):=Int.ofNat_lt.2 (Nat.lt_of_lt_of_le hi hma)
 have j2:(i:Int)<(nn:Int):=Int.ofNat_lt.2 (Nat.lt_of_lt_of_le hi hmb)
 have j3:(i:Int)<(m:Int):=Int.ofNat_lt.2 hi
 refine To.run (z:=Zl) sound18 (slots:=[0,1,2,3,9,25,26]) (blks:=[0,1,2,3]) (vs:=[A0,I s,SLX 1 oa na ca,SLX 2 ob nn cb,P3,I m,I ((i:Int)+1)])
  (bs:=[flag 63 (((hb||kz (xs.take i) (ys.take i))||jL xs[i])||jL ys[i]),⟨ty,fr,es,l⟩,⟨ty2,fr2,es2,l2⟩,wB (D+jf xs[i]*jf ys[i])]) (nbB:=4)
  (fun dead=>je1 dead (hb||kz (xs.take i) (ys.take i)) s oa na ca ob nn cb ty fr es l ty2 fr2 es2 l2 (wHi D) (wLo D) m i) rfl (by rw [e4];rfl) (by rw [e3,hx.1,hy.1];simp only [jJ];rfl) ?_ (qh rfl (jct (Nat.le_refl _) rfl (jn jo hok) (jn jo hok2) rfl)) (Nat.le_refl _)
 rw [e3,hx.1,hx.2,hy.1,hy.2,hI,hI2]
 simp only [jJ,jM,isI_iff,isU_iff,isW_iff,Bool.and_eq_true,decide_eq_true_eq]
 repeat' apply And.intro
 all_goals first | exact jd | exact True.intro | assumption
theorem jks (k1 k2:Blk) (s:Int) (oa na ca ob nn cb:Nat) (hok:okL noP k1.cells=true) (hok2:okL noP k2.cells=true) (h:Bool) (v:Int) (m:Nat):To Tryz.prog 53 (c1 (c1 (c2 (c1 jmB)))) (jht k1 k2 s oa na ca ob nn cb h v m m) (.exit 0) (jkr k1 k2 s h v):=by
 obtain ⟨ty,fr,es,l⟩:=k1
 obtain ⟨ty2,fr2,es2,l2⟩:=k2
 refine To.exec (z:=Zl) sound18 (slots:=[0,1,9]) (blks:=[0,1,2,3]) (vs:=[A0,I s,P3]) (bs:=[flag 63 h,⟨ty,fr,es,l⟩,⟨ty2,fr2,es2,l2⟩,wB v]) (nbB:=4) (fun dead=>je2 dead h s oa na ca ob nn cb ty fr es l ty2 fr2 es2 l2 (wHi v) (wLo v) m m) ?_ (qh rfl (jct (Nat.le_refl _) rfl (jn jo hok) (jn jo hok2) rfl)) (Nat.le_refl _)
 simp
theorem jjs (k1 k2:Blk) (s:Int) (oa na ca ob nn cb:Nat) (xs ys:List Int) (hx:SlAt 1 k1 oa na xs) (hy:SlAt 1 k2 ob nn ys) (hb:Bool) (m:Nat) (hm:m≤100) (hma:m≤na) (hmb:m≤nn):∀(j i:Nat),i+j=m→
  Rd Tryz.prog 53 (c1 (c1 (c2 (c1 jmB)))) (j+1) (jht k1 k2 s oa na ca ob nn cb (hb||kz (xs.take i) (ys.take i)) (yj (xs.take i) (ys.take i)) m i) (.exit 0) (jkr k1 k2 s (hb||kz (xs.take m) (ys.take m)) (yj (xs.take m) (ys.take m)))
 | 0,i,h=>by
  have hi:i=m:=by omega
  subst hi
  exact Rd.last (by simp) (jks k1 k2 s oa na ca ob nn cb hx.2.2 hy.2.2 _ _ i)
 | j+1,i,h=>Rd.next (jhu k1 k2 s oa na ca ob nn cb xs ys hx hy hb m hm hma hmb i (by omega)) (jjs k1 k2 s oa na ca ob nn cb xs ys hx hy hb m hm hma hmb j (i+1) (by omega))
theorem jnr (k1 k2:Blk) (s:Int) (h0:0≤s) (h1:s≤120) (oa na ca ob nn cb:Nat) (xs ys:List Int) (hx:SlAt 1 k1 oa na xs) (hy:SlAt 1 k2 ob nn ys) (hb:Bool) (E:Env) (w:World) (hrel:Rel E (getM [(0,flag 63 hb),(1,k1),(2,k2)]) w):
  Calls Tryz.prog 142 ((A0::([I s]++[SLX 1 oa na ca,SLX 2 ob nn cb])).map (LV.den E)).toArray w fun e w'=>e = .returned ((I (qZ s xs ys)).den E0)∧Lcl E [(0,flag 63 hb),(1,k1),(2,k2)] [(0,flag 63 (hb||yf s xs ys)),(1,k1),(2,k2)] w w':=by
 have hxl:xs.length=na:=by have:=hx.1;omega
 have hyl:ys.length=nn:=by have:=hy.1;omega
 have hok:=hx.2.2
 have hok2:=hy.2.2
 have hm:min (min na nn) 100≤100:=by omega
 have hR:=jjs k1 k2 s oa na ca ob nn cb xs ys hx hy hb (min (min na nn) 100) (by omega) (by omega) (by omega) (min (min na nn) 100) 0 (by omega)
 have hmin:=jaX xs ys (min (min na nn) 100) 100 (by omega) (by omega)
 rw [hmin.1,hmin.2] at hR
 have eI:(if (100:Int)<if (nn:Int)<(na:Int) then (nn:Int) else (na:Int) then 100 else if (nn:Int)<(na:Int) then (nn:Int) else (na:Int))=((min (min na nn) 100:Nat):Int):=by (repeat' split) <;> omega
 generalize min (min na nn) 100=m at *
 have b0:=Qq (xs.take 100) (ys.take 100)
 rw [List.length_take] at b0
 have hV:qZ s xs ys=Jo (yj (xs.take 100) (ys.take 100)) s:=rfl
 have hH:(hb||yf s xs ys)=((hb||kz (xs.take 100) (ys.take 100))||Jp (yj (xs.take 100) (ys.take 100)) s):=by unfold yf;rw [Bool.or_assoc]
 rw [hV,hH]
 generalize yj (xs.take 100) (ys.take 100)=D at *
 obtain ⟨bD0,bD1⟩:=jfa (k:=0) b0
 have hi2:=kL D bD0 bD1
 have hl2:=qk D
 have hs1:decide (s>120)=false:=decide_eq_false (by omega)
 have hs0:decide (s<0)=false:=decide_eq_false (by omega)
 obtain ⟨ty,fr,es,l⟩:=k1
 obtain ⟨ty2,fr2,es2,l2⟩:=k2
 refine JT (c:=jj Tryz.prog 142) (e:= .ret) (nb:=3) (B:=⟨[(8,I (Jo D s))],[(0,flag 63 ((hb||kz (xs.take 100) (ys.take 100))||Jp D s)),(1,⟨ty,fr,es,l⟩),(2,⟨ty2,fr2,es2,l2⟩)],4⟩) Tryz.func142 (by kernel_rfl) (Nat.le_of_ble_eq_true (by kernel_rfl)) (Nat.le_of_ble_eq_true (by kernel_rfl))
  (fun u hu=> ?_) (yG (Nat.le_refl _) rfl (jn jo hok) (jn jo hok2)) ?_ (.inr rfl) (fun dead=>by kernel_rfl) rfl (fun i b hib=> ?_) E w hrel
 ·simp only [List.cons_append,List.nil_append,List.mem_cons,List.not_mem_nil,or_false] at hu
  rcases hu with rfl | rfl | rfl | rfl <;> rfl
 ·refine To.spineR (z:=Zl) sound18 (k:=3) (slots:=[0,1,2,3,9]) (blks:=[0,1,2,3]) (vs:=[A0,I s,SLX 1 oa na ca,SLX 2 ob nn cb,P3]) (bs:=[flag 63 hb,⟨ty,fr,es,l⟩,⟨ty2,fr2,es2,l2⟩,wB 0]) (nbB:=4) (by kernel_rfl) (fun dead=>jeZ dead hb s oa na ca ob nn cb ty fr es l ty2 fr2 es2 l2) rfl rfl rfl (by rw [hs1,hs0];simp) (qh rfl (jct (Nat.le_refl _) rfl (jn jo hok) (jn jo hok2) rfl)) (Nat.le_succ 3) ?_
  refine To.seq (by kernel_rfl) (To.seq (by kernel_rfl) (To.run (z:=Zl) sound18 (slots:=[0,1,2,3,9,25,26]) (blks:=[0,1,2,3]) (vs:=[A0,I s,SLX 1 oa na ca,SLX 2 ob nn cb,P3,I m,I 0]) (bs:=[flag 63 hb,⟨ty,fr,es,l⟩,⟨ty2,fr2,es2,l2⟩,wB 0]) (nbB:=4) (fun dead=>je0 dead hb s oa na ca ob nn cb ty fr es l ty2 fr2 es2 l2 0 0) rfl (by simp only [eI];rfl) rfl jd (qh rfl (jct (Nat.le_refl _) rfl (jn jo hok) (jn jo hok2) rfl)) (Nat.le_refl _))
   (To.block (id:=0) (by kernel_rfl) (To.loop (m:=m+1) (by kernel_rfl) ?_) (.inl rfl))) (C:=_) (B:=jkr ⟨ty,fr,es,l⟩ ⟨ty2,fr2,es2,l2⟩ s (hb||kz (xs.take 100) (ys.take 100)) D) ?_
  ·simp only [List.take_zero,kz,Bool.or_false,yj] at hR
   exact hR
  ·refine To.run (z:=Zl) sound18 (slots:=[8]) (blks:=[0,1,2]) (vs:=[I (Jo D s)]) (bs:=[flag 63 ((hb||kz (xs.take 100) (ys.take 100))||Jp D s),⟨ty,fr,es,l⟩,⟨ty2,fr2,es2,l2⟩]) (nbB:=4) (fun dead=>je3 dead (hb||kz (xs.take 100) (ys.take 100)) s oa na ca ob nn cb ty fr es l ty2 fr2 es2 l2 (wHi D) (wLo D)) rfl ?_ ?_ ?_ (qh rfl (yG (Nat.le_of_ble_eq_true rfl) rfl (jn jo hok) (jn jo hok2))) (Nat.le_refl _)
   ·rw [jJ];rfl
   ·rw [jJ];rfl
   ·simp only [jM,isI_iff,isU_iff]
    exact ⟨hi2,hl2,jd⟩
 ·rcases jeG hib with ⟨rfl,rfl⟩ | ⟨rfl,rfl⟩ | ⟨rfl,rfl⟩
  ·exact ⟨rfl,by decide,rfl⟩
  ·exact ⟨rfl,by decide,jn jo hok⟩
  ·exact ⟨rfl,by decide,jn jo hok2⟩
def jhv (k1:Blk) (s:Int) (oa na ca ob nn cb:Nat) (h:Bool) (v mm i:Int):Kst:=⟨[(0,A0),(1,I s),(2,SLX 1 oa na ca),(3,SLX 1 ob nn cb),(9,P3),(25,I mm),(26,I i)],[(0,flag 63 h),(1,k1),(3,wB v)],4⟩
def jkt (k1:Blk) (s:Int) (h:Bool) (v:Int):Kst:=⟨[(0,A0),(1,I s),(9,P3)],[(0,flag 63 h),(1,k1),(3,wB v)],4⟩
theorem jhw (k1:Blk) (s:Int) (oa na ca ob nn cb:Nat) (xs ys:List Int) (hx:SlAt 1 k1 oa na xs) (hy:SlAt 1 k1 ob nn ys) (hb:Bool) (m:Nat) (hm:m≤100) (hma:m≤na) (hmb:m≤nn) (i:Nat) (hi:i<m):
  To Tryz.prog 53 (c1 (c1 (c2 (c1 jmB)))) (jhv k1 s oa na ca ob nn cb (hb||kz (xs.take i) (ys.take i)) (yj (xs.take i) (ys.take i)) m i) .normal (jhv k1 s oa na ca ob nn cb (hb||kz (xs.take (i+1)) (ys.take (i+1))) (yj (xs.take (i+1)) (ys.take (i+1))) m ((i:Int)+1)):=by
 obtain ⟨hlen,hat,hok⟩:=hx
 obtain ⟨hlen2,hat2,-⟩:=hy
 have ix:i<xs.length:=by omega
 have iy:i<ys.length:=by omega
 have hx:=zO (hat i ix)
 have hy:=zO (hat2 i iy)
 have b0:=Qq (xs.take i) (ys.take i)
 rw [List.length_take] at b0
 have b1:=ZF xs[i] ys[i]
 have hmi:((min i xs.length:Nat):Int)=i:=by omega
 rw [hmi] at b0
 have e0:(xs.take i).length=(ys.take i).length:=by simp only [List.length_take];omega
 have e1:yj (xs.take (i+1)) (ys.take (i+1))=yj (xs.take i) (ys.take i)+jf xs[i]*jf ys[i]:=by rw [qa xs i ix,qa ys i iy,Yn _ _ _ _ e0]
 have e2:(hb||kz (xs.take (i+1)) (ys.take (i+1)))=(((hb||kz (xs.take i) (ys.take i))||jL xs[i])||jL ys[i]):=by rw [qa xs i ix,qa ys i iy,Qp _ _ _ _ e0];simp [Bool.or_assoc]
 have e3:((i:Int)).toNat*1=i:=by simp
 have e4:wr .i64 ((i:Int)+1)=(i:Int)+1:=q9 (by omega) (by omega)
 have hI:=yk xs[i]
 have hI2:=yk ys[i]
 obtain ⟨ty,fr,es,l⟩:=k1
 rw [e1,e2]
 generalize yj (xs.take i) (ys.take i)=D at *
 obtain ⟨⟨bD0,bD1⟩,⟨bp0,bp1⟩,bs0,bs1⟩:=je9 hi hm b0 b1
 obtain ⟨i2a,i2b⟩:=kL D bD0 bD1
 obtain ⟨l2a,l2b⟩:=qk D
 obtain ⟨i3a,i3b⟩:=kL (jf xs[i]*jf ys[i]) bp0 bp1
 obtain ⟨l3a,l3b⟩:=qk (jf xs[i]*jf ys[i])
 have j0:(0:Int)≤(i:Int):=Int.natCast_nonneg i
 have j1:(i:Int)<(na:Int):=Int.ofNat_lt.2 (Nat.lt_of_lt_of_le hi hma)
 have j2:(i:Int)<(nn:Int):=Int.ofNat_lt.2 (Nat.lt_of_lt_of_le hi hmb)
 have j3:(i:Int)<(m:Int):=Int.ofNat_lt.2 hi
 refine To.run (z:=Zl) sound18 (slots:=[0,1,2,3,9,25,26]) (blks:=[0,1,3]) (vs:=[A0,I s,SLX 1 oa na ca,SLX 1 ob nn cb,P3,I m,I ((i:Int)+1)])
  (bs:=[flag 63 (((hb||kz (xs.take i) (ys.take i))||jL xs[i])||jL ys[i]),⟨ty,fr,es,l⟩,wB (D+jf xs[i]*jf ys[i])]) (nbB:=4)
  (fun dead=>je6 dead (hb||kz (xs.take i) (ys.take i)) s oa na ca ob nn cb ty fr es l (wHi D) (wLo D) m i) rfl (by rw [e4];rfl) (by rw [e3,hx.1,hy.1];simp only [jJ];rfl) ?_ (qh rfl (Yo (Nat.le_refl _) rfl (jn jo hok) rfl)) (Nat.le_refl _)
 rw [e3,hx.1,hx.2,hy.1,hy.2,hI,hI2]
 simp only [jJ,jM,isI_iff,isU_iff,isW_iff,Bool.and_eq_true,decide_eq_true_eq]
 repeat' apply And.intro
 all_goals first | exact jd | exact True.intro | assumption
theorem jku (k1:Blk) (s:Int) (oa na ca ob nn cb:Nat) (hok:okL noP k1.cells=true) (h:Bool) (v:Int) (m:Nat):To Tryz.prog 53 (c1 (c1 (c2 (c1 jmB)))) (jhv k1 s oa na ca ob nn cb h v m m) (.exit 0) (jkt k1 s h v):=by
 obtain ⟨ty,fr,es,l⟩:=k1
 refine To.exec (z:=Zl) sound18 (slots:=[0,1,9]) (blks:=[0,1,3]) (vs:=[A0,I s,P3]) (bs:=[flag 63 h,⟨ty,fr,es,l⟩,wB v]) (nbB:=4) (fun dead=>je7 dead h s oa na ca ob nn cb ty fr es l (wHi v) (wLo v) m m) ?_ (qh rfl (Yo (Nat.le_refl _) rfl (jn jo hok) rfl)) (Nat.le_refl _)
 simp
theorem jjt (k1:Blk) (s:Int) (oa na ca ob nn cb:Nat) (xs ys:List Int) (hx:SlAt 1 k1 oa na xs) (hy:SlAt 1 k1 ob nn ys) (hb:Bool) (m:Nat) (hm:m≤100) (hma:m≤na) (hmb:m≤nn):∀(j i:Nat),i+j=m→
  Rd Tryz.prog 53 (c1 (c1 (c2 (c1 jmB)))) (j+1) (jhv k1 s oa na ca ob nn cb (hb||kz (xs.take i) (ys.take i)) (yj (xs.take i) (ys.take i)) m i) (.exit 0) (jkt k1 s (hb||kz (xs.take m) (ys.take m)) (yj (xs.take m) (ys.take m)))
 | 0,i,h=>by
  have hi:i=m:=by omega
  subst hi
  exact Rd.last (by simp) (jku k1 s oa na ca ob nn cb hx.2.2 _ _ i)
 | j+1,i,h=>Rd.next (jhw k1 s oa na ca ob nn cb xs ys hx hy hb m hm hma hmb i (by omega)) (jjt k1 s oa na ca ob nn cb xs ys hx hy hb m hm hma hmb j (i+1) (by omega))
theorem jns (k1:Blk) (s:Int) (h0:0≤s) (h1:s≤120) (oa na ca ob nn cb:Nat) (xs ys:List Int) (hx:SlAt 1 k1 oa na xs) (hy:SlAt 1 k1 ob nn ys) (hb:Bool) (E:Env) (w:World) (hrel:Rel E (getM [(0,flag 63 hb),(1,k1)]) w):
  Calls Tryz.prog 142 ((A0::([I s]++[SLX 1 oa na ca,SLX 1 ob nn cb])).map (LV.den E)).toArray w fun e w'=>e = .returned ((I (qZ s xs ys)).den E0)∧Lcl E [(0,flag 63 hb),(1,k1)] [(0,flag 63 (hb||yf s xs ys)),(1,k1)] w w':=by
 have hxl:xs.length=na:=by have:=hx.1;omega
 have hyl:ys.length=nn:=by have:=hy.1;omega
 have hok:=hx.2.2
 have hok2:=hy.2.2
 have hm:min (min na nn) 100≤100:=by omega
 have hR:=jjt k1 s oa na ca ob nn cb xs ys hx hy hb (min (min na nn) 100) (by omega) (by omega) (by omega) (min (min na nn) 100) 0 (by omega)
 have hmin:=jaX xs ys (min (min na nn) 100) 100 (by omega) (by omega)
 rw [hmin.1,hmin.2] at hR
 have eI:(if (100:Int)<if (nn:Int)<(na:Int) then (nn:Int) else (na:Int) then 100 else if (nn:Int)<(na:Int) then (nn:Int) else (na:Int))=((min (min na nn) 100:Nat):Int):=by (repeat' split) <;> omega
 generalize min (min na nn) 100=m at *
 have b0:=Qq (xs.take 100) (ys.take 100)
 rw [List.length_take] at b0
 have hV:qZ s xs ys=Jo (yj (xs.take 100) (ys.take 100)) s:=rfl
 have hH:(hb||yf s xs ys)=((hb||kz (xs.take 100) (ys.take 100))||Jp (yj (xs.take 100) (ys.take 100)) s):=by unfold yf;rw [Bool.or_assoc]
 rw [hV,hH]
 generalize yj (xs.take 100) (ys.take 100)=D at *
 obtain ⟨bD0,bD1⟩:=jfa (k:=0) b0
 have hi2:=kL D bD0 bD1
 have hl2:=qk D
 have hs1:decide (s>120)=false:=decide_eq_false (by omega)
 have hs0:decide (s<0)=false:=decide_eq_false (by omega)
 obtain ⟨ty,fr,es,l⟩:=k1
 refine JT (c:=jj Tryz.prog 142) (e:= .ret) (nb:=3) (B:=⟨[(8,I (Jo D s))],[(0,flag 63 ((hb||kz (xs.take 100) (ys.take 100))||Jp D s)),(1,⟨ty,fr,es,l⟩)],4⟩) Tryz.func142 (by kernel_rfl) (Nat.le_of_ble_eq_true (by kernel_rfl)) (Nat.le_of_ble_eq_true (by kernel_rfl))
  (fun u hu=> ?_) (xE (Nat.le_of_ble_eq_true rfl) rfl (jn jo hok)) ?_ (.inr rfl) (fun dead=>by kernel_rfl) rfl (fun i b hib=> ?_) E w hrel
 ·simp only [List.cons_append,List.nil_append,List.mem_cons,List.not_mem_nil,or_false] at hu
  rcases hu with rfl | rfl | rfl | rfl <;> rfl
 ·refine To.spineR (z:=Zl) sound18 (k:=3) (slots:=[0,1,2,3,9]) (blks:=[0,1,3]) (vs:=[A0,I s,SLX 1 oa na ca,SLX 1 ob nn cb,P3]) (bs:=[flag 63 hb,⟨ty,fr,es,l⟩,wB 0]) (nbB:=4) (by kernel_rfl) (fun dead=>je4 dead hb s oa na ca ob nn cb ty fr es l) rfl rfl rfl (by rw [hs1,hs0];simp) (qh rfl (Yo (Nat.le_refl _) rfl (jn jo hok) rfl)) (Nat.le_succ 3) ?_
  refine To.seq (by kernel_rfl) (To.seq (by kernel_rfl) (To.run (z:=Zl) sound18 (slots:=[0,1,2,3,9,25,26]) (blks:=[0,1,3]) (vs:=[A0,I s,SLX 1 oa na ca,SLX 1 ob nn cb,P3,I m,I 0]) (bs:=[flag 63 hb,⟨ty,fr,es,l⟩,wB 0]) (nbB:=4) (fun dead=>je5 dead hb s oa na ca ob nn cb ty fr es l 0 0) rfl (by simp only [eI];rfl) rfl jd (qh rfl (Yo (Nat.le_refl _) rfl (jn jo hok) rfl)) (Nat.le_refl _))
   (To.block (id:=0) (by kernel_rfl) (To.loop (m:=m+1) (by kernel_rfl) ?_) (.inl rfl))) (C:=_) (B:=jkt ⟨ty,fr,es,l⟩ s (hb||kz (xs.take 100) (ys.take 100)) D) ?_
  ·simp only [List.take_zero,kz,Bool.or_false,yj] at hR
   exact hR
  ·refine To.run (z:=Zl) sound18 (slots:=[8]) (blks:=[0,1]) (vs:=[I (Jo D s)]) (bs:=[flag 63 ((hb||kz (xs.take 100) (ys.take 100))||Jp D s),⟨ty,fr,es,l⟩]) (nbB:=4) (fun dead=>je8 dead (hb||kz (xs.take 100) (ys.take 100)) s oa na ca ob nn cb ty fr es l (wHi D) (wLo D)) rfl ?_ ?_ ?_ (qh rfl (xE (Nat.le_of_ble_eq_true rfl) rfl (jn jo hok))) (Nat.le_refl _)
   ·rw [jJ];rfl
   ·rw [jJ];rfl
   ·simp only [jM,isI_iff,isU_iff]
    exact ⟨hi2,hl2,jd⟩
 ·rcases Xe hib with ⟨rfl,rfl⟩ | ⟨rfl,rfl⟩
  ·exact ⟨rfl,by decide,rfl⟩
  ·exact ⟨rfl,by decide,jn jo hok⟩
theorem jju:SumOK Tryz.prog 142 (x9 63 1 jaY):=by
 refine jgQ (jl sound18 Tryz.func142 (by kernel_rfl)) (fun avs hb r h=> ?_) fun pre xs ys hb v h' cs hF hcc hp hv=> ?_
 ·unfold jaY at h
  split at h
  ·exact ⟨[_],_,_,rfl⟩
  ·cases h
 ·have hpre:∃s,pre=[I s]:=by
   match pre with
   | []=>simp [jaY] at hF
   | [p]=>
    simp only [List.map_cons,List.map_nil,List.cons_append,List.nil_append] at hF
    unfold jaY at hF
    split at hF
    ·rename_i he
     simp only [List.cons.injEq,AV.pl.injEq] at he
     obtain ⟨e,-⟩:=he
     exact ⟨_,by rw [e];rfl⟩
    ·cases hF
   | p::q::r=>simp [jaY] at hF
  obtain ⟨s,rfl⟩:=hpre
  have hF':some (I (qZ s xs ys),hb||yf s xs ys,[])=some (v,h',cs):=hF
  cases hF'
  have hargs:∀(p q:LV) (nb:Nat),p.ok (below nb)=true→q.ok (below nb)=true→1≤nb→∀u∈A0::([I s]++[p,q]),u.ok (below nb)=true:=by
   intro p q nb hp hq hn u hu
   simp only [List.cons_append,List.nil_append,List.mem_cons,List.not_mem_nil,or_false] at hu
   rcases hu with rfl | rfl | rfl | rfl
   ·simp [A0,LV.ok,V1.ok,At.ok,below,zT];omega
   ·rfl
   ·exact hp
   ·exact hq
  have hs:s<0∨s>120∨(0≤s∧s≤120):=by omega
  refine ⟨fun k1 oa na ca k2 ob nn cb hx hy E w hrel=> ?_,fun k1 oa na ca ob nn cb hx hy E w hrel=> ?_,fun hx k1 ob nn cb hy E w hrel=> ?_,fun hy k1 oa na ca hx E w hrel=> ?_,fun hx hy E w hrel=> ?_⟩
  ·have hok:=hx.2.2
   have hok2:=hy.2.2
   obtain ⟨ty,fr,es,l⟩:=k1
   obtain ⟨ty2,fr2,es2,l2⟩:=k2
   rcases hs with h | h | ⟨h0,h1⟩
   ·have hd:=xN (.inl h) xs ys hb
    rw [←hd.1,←hd.2]
    refine jcs sound18 (jdC hb s oa na ca ob nn cb ty fr es l ty2 fr2 es2 l2) (fun i b hib=> ?_) (ZA h) (yG (Nat.le_refl _) rfl (jn jo hok) (jn jo hok2)) (hargs _ _ _ rfl rfl (by decide)) rfl E w hrel
    ·rcases jeG hib with ⟨rfl,rfl⟩ | ⟨rfl,rfl⟩ | ⟨rfl,rfl⟩
     ·exact ⟨.inl ⟨rfl,rfl⟩,by decide,rfl⟩
     ·exact ⟨.inr (.inl ⟨rfl,rfl⟩),by decide,jn jo hok⟩
     ·exact ⟨.inr (.inr ⟨rfl,rfl⟩),by decide,jn jo hok2⟩
   ·have hd:=xN (.inr h) xs ys hb
    rw [←hd.1,←hd.2]
    refine jcs sound18 (jdD hb s oa na ca ob nn cb ty fr es l ty2 fr2 es2 l2) (fun i b hib=> ?_) (ZB h) (yG (Nat.le_refl _) rfl (jn jo hok) (jn jo hok2)) (hargs _ _ _ rfl rfl (by decide)) rfl E w hrel
    ·rcases jeG hib with ⟨rfl,rfl⟩ | ⟨rfl,rfl⟩ | ⟨rfl,rfl⟩
     ·exact ⟨.inl ⟨rfl,rfl⟩,by decide,rfl⟩
     ·exact ⟨.inr (.inl ⟨rfl,rfl⟩),by decide,jn jo hok⟩
     ·exact ⟨.inr (.inr ⟨rfl,rfl⟩),by decide,jn jo hok2⟩
   ·exact jnr ⟨ty,fr,es,l⟩ ⟨ty2,fr2,es2,l2⟩ s h0 h1 oa na ca ob nn cb xs ys hx hy hb E w hrel
  ·have hok:=hx.2.2
   obtain ⟨ty,fr,es,l⟩:=k1
   rcases hs with h | h | ⟨h0,h1⟩
   ·have hd:=xN (.inl h) xs ys hb
    rw [←hd.1,←hd.2]
    refine jcs sound18 (jdE hb s oa na ca ob nn cb ty fr es l 0 (0,0) 0 []) (fun i b hib=> ?_) (ZA h) (xE (Nat.le_of_ble_eq_true rfl) rfl (jn jo hok)) (hargs _ _ _ rfl rfl (by decide)) rfl E w hrel
    ·rcases Xe hib with ⟨rfl,rfl⟩ | ⟨rfl,rfl⟩
     ·exact ⟨.inl ⟨rfl,rfl⟩,by decide,rfl⟩
     ·exact ⟨.inr (.inl ⟨rfl,rfl⟩),by decide,jn jo hok⟩
   ·have hd:=xN (.inr h) xs ys hb
    rw [←hd.1,←hd.2]
    refine jcs sound18 (jdF hb s oa na ca ob nn cb ty fr es l 0 (0,0) 0 []) (fun i b hib=> ?_) (ZB h) (xE (Nat.le_of_ble_eq_true rfl) rfl (jn jo hok)) (hargs _ _ _ rfl rfl (by decide)) rfl E w hrel
    ·rcases Xe hib with ⟨rfl,rfl⟩ | ⟨rfl,rfl⟩
     ·exact ⟨.inl ⟨rfl,rfl⟩,by decide,rfl⟩
     ·exact ⟨.inr (.inl ⟨rfl,rfl⟩),by decide,jn jo hok⟩
   ·exact jns ⟨ty,fr,es,l⟩ s h0 h1 oa na ca ob nn cb xs ys hx hy hb E w hrel
  ·have hok:=hy.2.2
   obtain ⟨ty,fr,es,l⟩:=k1
   rcases hs with h | h | ⟨h0,h1⟩
   ·have hd:=xN (.inl h) xs ys hb
    rw [←hd.1,←hd.2]
    refine jcs sound18 (Zy hb s 0 0 0 ob nn cb ty fr es l 0 (0,0) 0 []) (fun i b hib=> ?_) (ZA h) (xE (Nat.le_of_ble_eq_true rfl) rfl (jn jo hok)) (hargs _ _ _ rfl rfl (by decide)) rfl E w hrel
    ·rcases Xe hib with ⟨rfl,rfl⟩ | ⟨rfl,rfl⟩
     ·exact ⟨.inl ⟨rfl,rfl⟩,by decide,rfl⟩
     ·exact ⟨.inr (.inl ⟨rfl,rfl⟩),by decide,jn jo hok⟩
   ·have hd:=xN (.inr h) xs ys hb
    rw [←hd.1,←hd.2]
    refine jcs sound18 (Zz hb s 0 0 0 ob nn cb ty fr es l 0 (0,0) 0 []) (fun i b hib=> ?_) (ZB h) (xE (Nat.le_of_ble_eq_true rfl) rfl (jn jo hok)) (hargs _ _ _ rfl rfl (by decide)) rfl E w hrel
    ·rcases Xe hib with ⟨rfl,rfl⟩ | ⟨rfl,rfl⟩
     ·exact ⟨.inl ⟨rfl,rfl⟩,by decide,rfl⟩
     ·exact ⟨.inr (.inl ⟨rfl,rfl⟩),by decide,jn jo hok⟩
   ·have hd:=jaZ (s:=s) (xs:=xs) (ys:=ys) (.inl hx) hb
    rw [←hd.1,←hd.2]
    refine jcs sound18 (jaU hb s 0 0 0 ob nn cb ty fr es l 0 (0,0) 0 []) (fun i b hib=> ?_) (jkq (decide_eq_false (by (repeat' split) <;> omega)) h0 h1) (xE (Nat.le_of_ble_eq_true rfl) rfl (jn jo hok)) (hargs _ _ _ rfl rfl (by decide)) rfl E w hrel
    ·rcases Xe hib with ⟨rfl,rfl⟩ | ⟨rfl,rfl⟩
     ·exact ⟨.inl ⟨rfl,rfl⟩,by decide,rfl⟩
     ·exact ⟨.inr (.inl ⟨rfl,rfl⟩),by decide,jn jo hok⟩
  ·have hok:=hx.2.2
   obtain ⟨ty,fr,es,l⟩:=k1
   rcases hs with h | h | ⟨h0,h1⟩
   ·have hd:=xN (.inl h) xs ys hb
    rw [←hd.1,←hd.2]
    refine jcs sound18 (jaS hb s oa na ca 0 0 0 ty fr es l 0 (0,0) 0 []) (fun i b hib=> ?_) (ZA h) (xE (Nat.le_of_ble_eq_true rfl) rfl (jn jo hok)) (hargs _ _ _ rfl rfl (by decide)) rfl E w hrel
    ·rcases Xe hib with ⟨rfl,rfl⟩ | ⟨rfl,rfl⟩
     ·exact ⟨.inl ⟨rfl,rfl⟩,by decide,rfl⟩
     ·exact ⟨.inr (.inl ⟨rfl,rfl⟩),by decide,jn jo hok⟩
   ·have hd:=xN (.inr h) xs ys hb
    rw [←hd.1,←hd.2]
    refine jcs sound18 (jaT hb s oa na ca 0 0 0 ty fr es l 0 (0,0) 0 []) (fun i b hib=> ?_) (ZB h) (xE (Nat.le_of_ble_eq_true rfl) rfl (jn jo hok)) (hargs _ _ _ rfl rfl (by decide)) rfl E w hrel
    ·rcases Xe hib with ⟨rfl,rfl⟩ | ⟨rfl,rfl⟩
     ·exact ⟨.inl ⟨rfl,rfl⟩,by decide,rfl⟩
     ·exact ⟨.inr (.inl ⟨rfl,rfl⟩),by decide,jn jo hok⟩
   ·have hd:=jaZ (s:=s) (xs:=xs) (ys:=ys) (.inr hy) hb
    rw [←hd.1,←hd.2]
    refine jcs sound18 (jdG hb s oa na ca 0 0 0 ty fr es l 0 (0,0) 0 []) (fun i b hib=> ?_) (jkq (decide_eq_false (by (repeat' split) <;> omega)) h0 h1) (xE (Nat.le_of_ble_eq_true rfl) rfl (jn jo hok)) (hargs _ _ _ rfl rfl (by decide)) rfl E w hrel
    ·rcases Xe hib with ⟨rfl,rfl⟩ | ⟨rfl,rfl⟩
     ·exact ⟨.inl ⟨rfl,rfl⟩,by decide,rfl⟩
     ·exact ⟨.inr (.inl ⟨rfl,rfl⟩),by decide,jn jo hok⟩
  ·have hok:=True.intro
   have l:List At:=[]
   rcases hs with h | h | ⟨h0,h1⟩
   ·have hd:=xN (.inl h) xs ys hb
    rw [←hd.1,←hd.2]
    refine jcs sound18 (jaV hb s 0 0 0 0 0 0 0 (0,0) 0 [] 0 (0,0) 0 []) (fun i b hib=> ?_) (ZA h) (jfb (Nat.le_of_ble_eq_true rfl) rfl) (hargs _ _ _ rfl rfl (by decide)) rfl E w hrel
    ·obtain ⟨rfl,rfl⟩:=jca hib
     exact ⟨.inl ⟨rfl,rfl⟩,by decide,rfl⟩
   ·have hd:=xN (.inr h) xs ys hb
    rw [←hd.1,←hd.2]
    refine jcs sound18 (jaW hb s 0 0 0 0 0 0 0 (0,0) 0 [] 0 (0,0) 0 []) (fun i b hib=> ?_) (ZB h) (jfb (Nat.le_of_ble_eq_true rfl) rfl) (hargs _ _ _ rfl rfl (by decide)) rfl E w hrel
    ·obtain ⟨rfl,rfl⟩:=jca hib
     exact ⟨.inl ⟨rfl,rfl⟩,by decide,rfl⟩
   ·have hd:=jaZ (s:=s) (xs:=xs) (ys:=ys) (.inl hx) hb
    rw [←hd.1,←hd.2]
    refine jcs sound18 (jdH hb s 0 0 0 0 0 0 0 (0,0) 0 [] 0 (0,0) 0 []) (fun i b hib=> ?_) (jkq (decide_eq_false (by (repeat' split) <;> omega)) h0 h1) (jfb (Nat.le_of_ble_eq_true rfl) rfl) (hargs _ _ _ rfl rfl (by decide)) rfl E w hrel
    ·obtain ⟨rfl,rfl⟩:=jca hib
     exact ⟨.inl ⟨rfl,rfl⟩,by decide,rfl⟩
def S21:FuncId→Option SumK:=more S18 142 (x9 63 1 jaY)
theorem sound21:Sound Tryz.prog S21:=sound18.more jju
end Go.Proofs.YtbpfipbhaagllaaGreat
