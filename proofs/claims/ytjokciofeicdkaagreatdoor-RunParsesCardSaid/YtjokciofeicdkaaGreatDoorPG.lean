/- A part of the proof of RunParses: EqA. -/
import Derived.Test.YtjokciofeicdkaaGreatDoorPF
set_option maxHeartbeats 16000000
set_option maxRecDepth 100000
set_option linter.all false
namespace Go.Proofs.YtjokciofeicdkaaGreatDoor
open Go.RowKit
theorem get_bang (s:ByteArray)(k:Nat)(h:k<s.size):s.get! k=s[k]:=by
 have e1:=get_at s k h
 simpa using e1
theorem within_get (s:ByteArray)(k lo hi:Nat):withinS s k lo hi=(decide (k<s.size) && (decide (lo≤(s.get! k).toNat) && decide ((s.get! k).toNat≤hi))):=by
 by_cases h:k<s.size
 ·rw [withinS_in s k lo hi h,get_bang s k h,decide_eq_true h,Bool.true_and,Bool.decide_and]
 ·rw [withinS_out s k lo hi h,decide_eq_false h,Bool.false_and]
def sizeB (b0 g1 g2 g3:Nat)(p1 p2 p3:Bool):Nat×Bool:=
 if b0<128 then (1,false)
 else if (decide (194≤b0) && decide (b0≤223) && (p1 && (decide (128≤g1) && decide (g1≤191))))=true then (2,false)
 else if (decide (b0=224) && (p1 && (decide (160≤g1) && decide (g1≤191))) && (p2 && (decide (128≤g2) && decide (g2≤191))))=true then (3,false)
 else if (decide (b0=237) && (p1 && (decide (128≤g1) && decide (g1≤159))) && (p2 && (decide (128≤g2) && decide (g2≤191))))=true then (3,false)
 else if (decide (225≤b0) && decide (b0≤239) && !decide (b0=237) && (p1 && (decide (128≤g1) && decide (g1≤191))) && (p2 && (decide (128≤g2) && decide (g2≤191))))=true then (3,false)
 else if (decide (b0=240) && (p1 && (decide (144≤g1) && decide (g1≤191))) && (p2 && (decide (128≤g2) && decide (g2≤191))) && (p3 && (decide (128≤g3) && decide (g3≤191))))=true then (4,false)
 else if (decide (241≤b0) && decide (b0≤243) && (p1 && (decide (128≤g1) && decide (g1≤191))) && (p2 && (decide (128≤g2) && decide (g2≤191))) && (p3 && (decide (128≤g3) && decide (g3≤191))))=true then (4,false)
 else if (decide (b0=244) && (p1 && (decide (128≤g1) && decide (g1≤143))) && (p2 && (decide (128≤g2) && decide (g2≤191))) && (p3 && (decide (128≤g3) && decide (g3≤191))))=true then (4,false)
 else (1,true)
def decB (b0 g1 g2 g3:Nat)(p1 p2 p3:Bool):Nat×Nat:=
 if b0<128 then (b0,1)
 else if (b0 / 32 == 6 && (p1 && g1 / 64 == 2))=true then (if b0 % 32*64+g1 % 64≥128 then (b0 % 32*64+g1 % 64,2) else (65533,1))
 else if (b0 / 16 == 14 && (p1 && g1 / 64 == 2) && (p2 && g2 / 64 == 2))=true then (if (decide (b0 % 16*4096+g1 % 64*64+g2 % 64≥2048) && Utf8.valid ((b0 % 16*4096+g1 % 64*64+g2 % 64:Nat):Int))=true then (b0 % 16*4096+g1 % 64*64+g2 % 64,3) else (65533,1))
 else if (b0 / 8 == 30 && (p1 && g1 / 64 == 2) && (p2 && g2 / 64 == 2) && (p3 && g3 / 64 == 2))=true then (if (decide (b0 % 8*262144+g1 % 64*4096+g2 % 64*64+g3 % 64≥65536) && Utf8.valid ((b0 % 8*262144+g1 % 64*4096+g2 % 64*64+g3 % 64:Nat):Int))=true then (b0 % 8*262144+g1 % 64*4096+g2 % 64*64+g3 % 64,4) else (65533,1))
 else (65533,1)
theorem size_as_B (s:ByteArray)(i:Nat)(h:i<s.size):sizeS s i=sizeB (s.get! i).toNat (s.get! (i+1)).toNat (s.get! (i+2)).toNat (s.get! (i+3)).toNat (decide (i+1<s.size)) (decide (i+2<s.size)) (decide (i+3<s.size)):=by
 unfold sizeS sizeB;rw [bs_get s i h,get_bang s i h];simp only [within_get]
theorem dec_as_B (s:ByteArray)(i:Nat):Utf8.decode s i=decB (s.get! i).toNat (s.get! (i+1)).toNat (s.get! (i+2)).toNat (s.get! (i+3)).toNat (decide (i+1<s.size)) (decide (i+2<s.size)) (decide (i+3<s.size)):=rfl
theorem B_same (b0 g1 g2 g3:Nat)(p1 p2 p3:Bool)(h0:b0<256)(h1:g1<256)(h2:g2<256)(h3:g3<256) :
 (decB b0 g1 g2 g3 p1 p2 p3).2=(sizeB b0 g1 g2 g3 p1 p2 p3).1∧((sizeB b0 g1 g2 g3 p1 p2 p3).2=true↔decB b0 g1 g2 g3 p1 p2 p3=(65533,1)):=by
 have hv:∀ c:Nat,Utf8.valid (c:Int)=(decide (c<55296) || (decide (57344≤c) && decide (c≤1114111))):=fun c=>by
  unfold Utf8.valid;rw [Bool.eq_iff_iff]
  simp;omega
 have h1':g1 / 64=2↔128≤g1∧g1≤191:=by omega
 have h2':g2 / 64=2↔128≤g2∧g2≤191:=by omega
 have h3':g3 / 64=2↔128≤g3∧g3≤191:=by omega
 unfold sizeB decB;simp only [hv,Bool.and_eq_true,Bool.or_eq_true,decide_eq_true_eq,beq_iff_eq,Bool.not_eq_true',decide_eq_false_iff_not,h1',h2',h3']
 by_cases hb:b0<128
 ·rw [if_pos hb,if_pos hb];exact ⟨rfl,by simp;omega⟩
 rw [if_neg hb,if_neg hb];clear hv h1' h2' h3'
 cases p1
 ·simp
 cases p2
 ·simp only [true_and,Bool.false_eq_true,false_and,and_false,if_false,ge_iff_le]
  (repeat' split)<;>first|(exfalso;omega)|(exact ⟨rfl,by simp⟩)|(exact ⟨rfl,by simp;omega⟩)
 cases p3
 ·simp only [true_and,Bool.false_eq_true,false_and,and_false,if_false,ge_iff_le]
  (repeat' split)<;>first|(exfalso;omega)|(exact ⟨rfl,by simp⟩)|(exact ⟨rfl,by simp;omega⟩)
 ·simp only [true_and,ge_iff_le]
  (repeat' split)<;>first|(exfalso;omega)|(exact ⟨rfl,by simp⟩)|(exact ⟨rfl,by simp;omega⟩)
theorem byte_lt (s:ByteArray)(k:Nat):(s.get! k).toNat<256:=UInt8.toNat_lt _
theorem size_dec (s:ByteArray)(i:Nat)(h:i<s.size):(Utf8.decode s i).2=(sizeS s i).1∧((sizeS s i).2=true↔Utf8.decode s i=(65533,1)):=by
 rw [size_as_B s i h,dec_as_B s i];exact B_same _ _ _ _ _ _ _ (byte_lt _ _) (byte_lt _ _) (byte_lt _ _) (byte_lt _ _)
theorem B_bytes (b0 g1 g2 g3:Nat)(p1 p2 p3:Bool)(h0:b0<256)(h1:g1<256)(h2:g2<256)(h3:g3<256)(hl:(sizeB b0 g1 g2 g3 p1 p2 p3).2=false) :
 Lib.encodeRuneZ ((decB b0 g1 g2 g3 p1 p2 p3).1:Nat)=([(b0:Int),g1,g2,g3]:List Int).take (sizeB b0 g1 g2 g3 p1 p2 p3).1:=by
 have hv:∀ c:Nat,Utf8.valid (c:Int)=(decide (c<55296) || (decide (57344≤c) && decide (c≤1114111))):=fun c=>by
  unfold Utf8.valid;rw [Bool.eq_iff_iff]
  simp;omega
 have h1':g1 / 64=2↔128≤g1∧g1≤191:=by omega
 have h2':g2 / 64=2↔128≤g2∧g2≤191:=by omega
 have h3':g3 / 64=2↔128≤g3∧g3≤191:=by omega
 unfold sizeB decB at *;simp only [hv,Bool.and_eq_true,Bool.or_eq_true,decide_eq_true_eq,beq_iff_eq,Bool.not_eq_true',decide_eq_false_iff_not,h1',h2',h3'] at *
 by_cases hb:b0<128
 ·rw [if_pos hb,if_pos hb];rw [Lib.encodeRuneZ_one (by omega) (by omega)]
  rfl
 rw [if_neg hb,if_neg hb];rw [if_neg hb] at hl;clear hv h1' h2' h3'
 cases p1
 ·simp at hl
 cases p2
 ·simp only [true_and,Bool.false_eq_true,false_and,and_false,if_false,ge_iff_le] at *
  split at hl
  ·rename_i hc;rw [if_pos (by omega),if_pos (by omega),if_pos hc,Lib.encodeRuneZ_two (by omega) (by omega)]
   simp;omega
  ·simp at hl
 have e2:194≤b0→b0≤223→128≤g1→g1≤191→Lib.encodeRuneZ ((b0 % 32*64+g1 % 64:Nat):Int)=[(b0:Int),g1]:=fun a b c d=>by
  rw [Lib.encodeRuneZ_two (by omega) (by omega)];simp;omega
 have e3:224≤b0→b0≤239→128≤g1→g1≤191→128≤g2→g2≤191→(b0=224→160≤g1)→(b0=237→g1≤159)→Lib.encodeRuneZ ((b0 % 16*4096+g1 % 64*64+g2 % 64:Nat):Int)=[(b0:Int),g1,g2]:=fun a b c d e f g h=>by
  rw [Lib.encodeRuneZ_three (by omega)];simp;omega
 have e4:240≤b0→b0≤244→128≤g1→g1≤191→128≤g2→g2≤191→128≤g3→g3≤191→(b0=240→144≤g1)→(b0=244→g1≤143)→Lib.encodeRuneZ ((b0 % 8*262144+g1 % 64*4096+g2 % 64*64+g3 % 64:Nat):Int)=[(b0:Int),g1,g2,g3]:=fun a b c d e f g h i j=>by
  rw [Lib.encodeRuneZ_four (by omega) (by omega)];simp;omega
 cases p3
 ·simp only [true_and,Bool.false_eq_true,false_and,and_false,if_false,ge_iff_le] at *
  revert hl
  (repeat' split)<;>intro hl<;>first|(simp at hl;done)|(exfalso;omega)|(rw [e2 (by omega) (by omega) (by omega) (by omega)];rfl)| (rw [e3 (by omega) (by omega) (by omega) (by omega) (by omega) (by omega) (by omega) (by omega)];rfl)
 ·simp only [true_and,ge_iff_le] at *
  revert hl
  (repeat' split)<;>intro hl<;>first|(simp at hl;done)|(exfalso;omega)|(rw [e2 (by omega) (by omega) (by omega) (by omega)];rfl)| (rw [e3 (by omega) (by omega) (by omega) (by omega) (by omega) (by omega) (by omega) (by omega)];rfl)| (rw [e4 (by omega) (by omega) (by omega) (by omega) (by omega) (by omega) (by omega) (by omega) (by omega) (by omega)];rfl)
end Go.Proofs.YtjokciofeicdkaaGreatDoor
