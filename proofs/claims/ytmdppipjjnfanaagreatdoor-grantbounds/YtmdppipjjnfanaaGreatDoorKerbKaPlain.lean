/- Chapter 22: what is written is read as it was. -/
import Derived.Test.YtmdppipjjnfanaaGreatDoorKerbKa
namespace Kerb
open Go Go.Abs
set_option linter.unusedVariables false
theorem At.get1 {b rest:Bytes} {pos n:Int} {li:Bool} (h:At b pos (putN n 1 li++rest)) (h0:0≤n) (h1:n≤255):Kerb.get b pos 1 li=⟨n,pos+1,0⟩∧At b (pos+1) rest :=
 h.get (k:=1) (.inl rfl) h0 (by omega)
theorem At.get4 {b rest:Bytes} {pos n:Int} {li:Bool} (h:At b pos (putN n 4 li++rest)) (h0:0≤n) (h1:n≤4294967295):Kerb.get b pos 4 li=⟨n,pos+4,0⟩∧At b (pos+4) rest :=
 h.get (k:=4) (.inr (.inr rfl)) h0 (by omega)
theorem within_iff {n m:Int}:within n m=true↔0≤n∧n≤m:=by simp [within]
theorem pad_ex (b:Bytes):∃ z,pad b=b++z∧z.length≤7:=⟨_,rfl,by simp;omega⟩
theorem decBy_fin {α:Type} {no:α} {enc:α→Enc} {rd:Bytes→α×Bool} {b:Bytes} (R:α) (bad:Bool) (h:rd b=(R,bad)) {β:Type} (f:α→Int→β) :
  sel bad (some (f no 100)) (sel (!((enc R).err==0)) (some (f no 100)) (sel (!((enc R).val==b)) (some (f no 100)) (some (f R 0))))=some (f (decBy no enc rd b).val (decBy no enc rd b).err):=by
 unfold decBy
 rw [h]
 cases bad
 case true=>rw [if_pos (.inl rfl)];rfl
 rw [sel_false]
 by_cases h1:(enc R).err=0
 ·rw [sel_neg (by simp [h1])]
  by_cases h2:(enc R).val=b
  ·rw [sel_neg (by simp [h2]),if_neg (by simp [h1,h2])]
  ·rw [sel_pos (by simpa using h2),if_pos (.inr (.inr h2))]
 ·rw [sel_pos (by simpa using h1),if_pos (.inr (.inl h1))]
theorem u8_beq {m k:Nat} (hm:m<256) (hk:k<256):(UInt8.ofNat m==UInt8.ofNat k)=decide (m=k):=by
 by_cases h:m=k
 ·subst h;simp
 ·have:UInt8.ofNat m≠UInt8.ofNat k:=fun e=>h (by
   have:=congrArg UInt8.toNat e
   rwa [UInt8.toNat_ofNat_of_lt' hm,UInt8.toNat_ofNat_of_lt' hk] at this)
  simp [h,this]
theorem tmod_u8 (x:UInt8) (k:Nat) (hk:0<k):Int.toNat (Int.tmod (x.toNat:Int) (k:Int))=x.toNat % k:=by
 rw [Int.tmod_eq_emod_of_nonneg (by omega)];omega
theorem wrap_u8i (x:UInt8):IntKind.wrap .i64 (x.toNat:Int)=u8i x:=by
 have:=x.toNat_lt
 unfold u8i;exact wrap_i64 (by omega) (by omega)
theorem u8i_bd (x:UInt8):0≤u8i x∧u8i x≤255:=by
 have:=x.toNat_lt
 unfold u8i;omega
theorem long_bd (n:Int):0≤long n∧long n<18446744073709551616:=by
 unfold long;rw [wrap_u64];omega
theorem session_bd2 (n:Int):0≤session n∧session n<18446744073709551616:=by
 unfold session;rw [wrap_u64];omega
end Kerb
