import Derived.Test.YtbppknpnmjhjpaaGreatDoorProg
import Derived.Lib.Strings
import Derived.Lib.Slices
import Derived.Lib.Small
import Derived.Lib.Walk
import Derived.Lib.BitFns
import Derived.Shelf.Spec.BitsCarry
namespace Go.Proofs.YtbppknpnmjhjpaaGreatDoor
theorem Zzq (x y b:Nat) (hb:b≤1) (w:World):(callFunc 221 #[.int .u64 x,.int .u64 y,.int .u64 b]).run Tryz.prog w = .ok (.value (.tuple #[.int .u64 (((x+y+b) % 18446744073709551616:Nat):Int),.int .u64 (((x+y+b) / 18446744073709551616:Nat):Int)])) w:=by
  rw[run_callFunc_extern Tryz.func221 (by kernel_rfl) (by kernel_rfl) (by kernel_rfl) (e:=add64Entry) (by kernel_rfl),run_add64 x y b (by omega) (by omega) (by omega) (by omega)];simp only[Result.andThen]
  congr 5 <;> omega
theorem Zzr (x y b:Nat) (hb:b≤1) (w:World):(callFunc 238 #[.int .u64 x,.int .u64 y,.int .u64 b]).run Tryz.prog w = .ok (.value (.tuple #[.int .u64 (((x+18446744073709551616-y-b) % 18446744073709551616:Nat):Int),.int .u64 ((if x<y+b then 1 else 0:Nat):Int)])) w:=by
  rw[run_callFunc_extern Tryz.func238 (by kernel_rfl) (by kernel_rfl) (by kernel_rfl) (e:=sub64Entry) (by kernel_rfl),run_sub64 x y b hb];rfl
set_option maxHeartbeats 4000000 in
set_option maxRecDepth 100000 in
theorem bl49 (x:Int) (w:World) (h0:0≤x) (h1:x≤18446744073709551615) :
    Calls Tryz.prog 49 #[.int .u64 x] w fun e w'=>e = .returned (.int .i64 (Lib.bitLen x.toNat))∧w'=w:=by
  go_enter Tryz.func49,Tryz.ntmps49
  go_wp2
  all_goals (go_ret; refine⟨congrArg Ending.returned (congrArg (Value.int IntKind.i64) ?_),rfl⟩)
  all_goals first
    | (rw[Lib.len8_of (x / 4294967296 / 65536 / 256 % 256) (by omega) (by omega)]
       have e:(x / 4294967296 / 65536 / 256 % 256).toNat=x.toNat / 72057594037927936:=by omega
       have l:=Lib.bitLen_le8' (x / 4294967296 / 65536 / 256 % 256) (by omega) (by omega);have s:=Lib.bitLen_shift56 x.toNat (by omega) (by omega);rw[e] at l ⊢
       omega)
    | (rw[Lib.len8_of (x / 4294967296 / 65536 % 256) (by omega) (by omega)]
       have e:(x / 4294967296 / 65536 % 256).toNat=x.toNat / 281474976710656:=by omega
       have l:=Lib.bitLen_le8' (x / 4294967296 / 65536 % 256) (by omega) (by omega);have s:=Lib.bitLen_shift48 x.toNat (by omega) (by omega);rw[e] at l ⊢
       omega)
    | (rw[Lib.len8_of (x / 4294967296 / 256 % 256) (by omega) (by omega)]
       have e:(x / 4294967296 / 256 % 256).toNat=x.toNat / 1099511627776:=by omega
       have l:=Lib.bitLen_le8' (x / 4294967296 / 256 % 256) (by omega) (by omega);have s:=Lib.bitLen_shift40 x.toNat (by omega) (by omega);rw[e] at l ⊢
       omega)
    | (rw[Lib.len8_of (x / 4294967296 % 256) (by omega) (by omega)]
       have e:(x / 4294967296 % 256).toNat=x.toNat / 4294967296:=by omega
       have l:=Lib.bitLen_le8' (x / 4294967296 % 256) (by omega) (by omega);have s:=Lib.bitLen_shift32 x.toNat (by omega) (by omega);rw[e] at l ⊢
       omega)
    | (rw[Lib.len8_of (x / 65536 / 256 % 256) (by omega) (by omega)]
       have e:(x / 65536 / 256 % 256).toNat=x.toNat / 16777216:=by omega
       have l:=Lib.bitLen_le8' (x / 65536 / 256 % 256) (by omega) (by omega);have s:=Lib.bitLen_shift24 x.toNat (by omega) (by omega);rw[e] at l ⊢
       omega)
    | (rw[Lib.len8_of (x / 65536 % 256) (by omega) (by omega)]
       have e:(x / 65536 % 256).toNat=x.toNat / 65536:=by omega
       have l:=Lib.bitLen_le8' (x / 65536 % 256) (by omega) (by omega);have s:=Lib.bitLen_shift16 x.toNat (by omega) (by omega);rw[e] at l ⊢
       omega)
    | (rw[Lib.len8_of (x / 256 % 256) (by omega) (by omega)]
       have e:(x / 256 % 256).toNat=x.toNat / 256:=by omega
       have l:=Lib.bitLen_le8' (x / 256 % 256) (by omega) (by omega);have s:=Lib.bitLen_shift8 x.toNat (by omega) (by omega);rw[e] at l ⊢
       omega)
    | (rw[Lib.len8_of (x % 256) (by omega) (by omega)]
       have e:(x % 256).toNat=x.toNat:=by omega
       have l:=Lib.bitLen_le8' (x % 256) (by omega) (by omega);rw[e] at l ⊢
       omega)
set_option maxHeartbeats 4000000 in
set_option maxRecDepth 100000 in
theorem Zzs (x:Int) (w:World) (h0:0≤x) (h1:x≤4294967295) :
    Calls Tryz.prog 210 #[.int .u32 x] w fun e w'=>e = .returned (.int .i64 (Lib.bitLen x.toNat))∧w'=w:=by
  go_enter Tryz.func210,Tryz.ntmps210
  go_wp2
  all_goals (go_ret; refine⟨congrArg Ending.returned (congrArg (Value.int IntKind.i64) ?_),rfl⟩)
  all_goals first
    | (rw[Lib.len8_of (x / 65536 / 256 % 256) (by omega) (by omega)]
       have e:(x / 65536 / 256 % 256).toNat=x.toNat / 16777216:=by omega
       have l:=Lib.bitLen_le8' (x / 65536 / 256 % 256) (by omega) (by omega);have s:=Lib.bitLen_shift24 x.toNat (by omega) (by omega);rw[e] at l ⊢
       omega)
    | (rw[Lib.len8_of (x / 65536 % 256) (by omega) (by omega)]
       have e:(x / 65536 % 256).toNat=x.toNat / 65536:=by omega
       have l:=Lib.bitLen_le8' (x / 65536 % 256) (by omega) (by omega);have s:=Lib.bitLen_shift16 x.toNat (by omega) (by omega);rw[e] at l ⊢
       omega)
    | (rw[Lib.len8_of (x / 256 % 256) (by omega) (by omega)]
       have e:(x / 256 % 256).toNat=x.toNat / 256:=by omega
       have l:=Lib.bitLen_le8' (x / 256 % 256) (by omega) (by omega);have s:=Lib.bitLen_shift8 x.toNat (by omega) (by omega);rw[e] at l ⊢
       omega)
    | (rw[Lib.len8_of (x % 256) (by omega) (by omega)]
       have e:(x % 256).toNat=x.toNat:=by omega
       have l:=Lib.bitLen_le8' (x % 256) (by omega) (by omega);rw[e] at l ⊢
       omega)
end Go.Proofs.YtbppknpnmjhjpaaGreatDoor
