/- A part of the proof of RunParses: RefA. -/
import Derived.Test.YtjokciofeicdkaaGreatDoorPB
set_option maxHeartbeats 16000000
set_option maxRecDepth 100000
set_option linter.all false
namespace Go.Proofs.YtjokciofeicdkaaGreatDoor
open Go.RowKit
def blankN (n:Nat):Bool:=decide (n=32∨n=9∨n=13)
def hexI (n:Nat):Int:=if 48≤n∧n≤57 then (n:Int)-48 else if 97≤n∧n≤102 then (n:Int)-87 else if 65≤n∧n≤70 then (n:Int)-55 else -1
theorem r_letter (n:Nat)(w:World):Calls Tryz.prog 92 #[.int .u8 n] w fun e w'=>e=.returned (.bool (letterN n))∧w=w':=by
 go_enter Tryz.func92,Tryz.ntmps92;go_wp2
 all_goals go_ret
 all_goals (refine ⟨ret_bool ?_,rfl⟩;rw [Bool.eq_iff_iff];simp [letterN];omega)
theorem r_digit (n:Nat)(w:World):Calls Tryz.prog 94 #[.int .u8 n] w fun e w'=>e=.returned (.bool (digitN n))∧w=w':=by
 go_enter Tryz.func94,Tryz.ntmps94;go_wp2
 all_goals go_ret
 all_goals (refine ⟨ret_bool ?_,rfl⟩;rw [Bool.eq_iff_iff];simp [digitN];omega)
theorem r_blank (n:Nat)(w:World):Calls Tryz.prog 67 #[.int .u8 n] w fun e w'=>e=.returned (.bool (blankN n))∧w=w':=by
 go_enter Tryz.func67,Tryz.ntmps67;go_wp2
 all_goals go_ret
 all_goals (refine ⟨ret_bool ?_,rfl⟩;rw [Bool.eq_iff_iff];simp [blankN];omega)
theorem r_word (n:Nat)(w:World):Calls Tryz.prog 95 #[.int .u8 n] w fun e w'=>e=.returned (.bool (letterN n || digitN n))∧w=w':=by
 have c1:=Hi (r_letter n w);have c2:=Hi (r_digit n w)
 cases hL:letterN n
 ·have c1:=Hi (show Calls Tryz.prog 92 #[.int .u8 n] w fun e w'=>e=.returned (.bool false)∧w=w' from hL▸c1.out)
  go_enter Tryz.func95,Tryz.ntmps95;go_wp2_with (first|(go_at_call 92;refine c1.out.mono ?_;rintro e w' ⟨rfl,rfl⟩)|(go_at_call 94;refine c2.out.mono ?_;rintro e w' ⟨rfl,rfl⟩))
  go_ret;exact ⟨rfl,rfl⟩
 ·have c1:=Hi (show Calls Tryz.prog 92 #[.int .u8 n] w fun e w'=>e=.returned (.bool true)∧w=w' from hL▸c1.out)
  go_enter Tryz.func95,Tryz.ntmps95;go_wp2_with (first|(go_at_call 92;refine c1.out.mono ?_;rintro e w' ⟨rfl,rfl⟩)|(go_at_call 94;refine c2.out.mono ?_;rintro e w' ⟨rfl,rfl⟩))
  go_ret;exact ⟨rfl,rfl⟩
theorem u8w (x:Int)(h:0≤x∧x<256):IntKind.u8.wrap x=x:=by
 rw [show IntKind.u8.wrap x=x % 256 from rfl];omega
theorem r_hex (n:Nat)(hn:n<256)(w:World):Calls Tryz.prog 102 #[.int .u8 n] w fun e w'=>e=.returned (.int .i64 (hexI n))∧w=w':=by
 have c2:=Hi (r_digit n w)
 by_cases hd:48≤n∧n≤57
 ·obtain ⟨hd1,hd2⟩:=hd;have c2:=Hi (show Calls Tryz.prog 94 #[.int .u8 n] w fun e w'=>e=.returned (.bool true)∧w=w' from (show digitN n=true by simp [digitN];omega)▸c2.out)
  have H:=Hi (show hexI n=(n:Int)-48 by simp [hexI,hd1,hd2])
  have hw:IntKind.u8.wrap ((n:Int)-48)=(n:Int)-48:=u8w _ (by omega)
  go_enter Tryz.func102,Tryz.ntmps102;go_wp2_with (go_at_call 94;refine c2.out.mono ?_;rintro e w' ⟨rfl,rfl⟩);go_ret;exact ⟨by rw [H.out];rfl,rfl⟩
 ·have c2:=Hi (show Calls Tryz.prog 94 #[.int .u8 n] w fun e w'=>e=.returned (.bool false)∧w=w' from (show digitN n=false by simp [digitN];omega)▸c2.out)
  by_cases h1:97≤n∧n≤102
  ·obtain ⟨hd1,hd2⟩:=h1;have H:=Hi (show hexI n=(n:Int)-97+10 by unfold hexI;rw [if_neg hd,if_pos ⟨hd1,hd2⟩];omega)
   have hw:IntKind.u8.wrap ((n:Int)-97)=(n:Int)-97:=u8w _ (by omega)
   clear hd;go_enter Tryz.func102,Tryz.ntmps102;go_wp2_with (go_at_call 94;refine c2.out.mono ?_;rintro e w' ⟨rfl,rfl⟩);go_ret;exact ⟨by rw [H.out];rfl,rfl⟩
  ·by_cases h2:65≤n∧n≤70
   ·obtain ⟨hd1,hd2⟩:=h2;have H:=Hi (show hexI n=(n:Int)-65+10 by unfold hexI;rw [if_neg hd,if_neg h1,if_pos ⟨hd1,hd2⟩];omega)
    have hw:IntKind.u8.wrap ((n:Int)-65)=(n:Int)-65:=u8w _ (by omega)
    clear hd h1;go_enter Tryz.func102,Tryz.ntmps102;go_wp2_with (go_at_call 94;refine c2.out.mono ?_;rintro e w' ⟨rfl,rfl⟩);go_ret;exact ⟨by rw [H.out];rfl,rfl⟩
   ·have H:=Hi (show hexI n = -1 by unfold hexI;rw [if_neg hd,if_neg h1,if_neg h2])
    have g1:¬ (97≤n∧n≤102):=h1;have g2:¬ (65≤n∧n≤70):=h2;have g1:=Hi g1;have g2:=Hi g2;clear hd h1 h2;go_enter Tryz.func102,Tryz.ntmps102;go_wp2_with (go_at_call 94;refine c2.out.mono ?_;rintro e w' ⟨rfl,rfl⟩)
    all_goals first
     | (go_ret;exact ⟨by rw [H.out];rfl,rfl⟩)
     | (exfalso;have:=g1.out;have:=g2.out;omega)
def withinS (s:ByteArray)(i lo hi:Nat):Bool:=match (bs s)[i]? with
 | some c=>decide (lo≤c.toNat∧c.toNat≤hi)
 | none=>false
theorem bs_get (s:ByteArray)(i:Nat)(h:i<s.size):(bs s)[i]?=some s[i]:=by
 have:=bs_drop s i h;have h2:((bs s).drop i)[0]?=some s[i]:=by rw [this];rfl
 simpa using h2
theorem withinS_in (s:ByteArray)(i lo hi:Nat)(h:i<s.size):withinS s i lo hi=decide (lo≤s[i].toNat∧s[i].toNat≤hi):=by unfold withinS;rw [bs_get s i h]
theorem withinS_out (s:ByteArray)(i lo hi:Nat)(h:¬ i<s.size):withinS s i lo hi=false:=by
 unfold withinS;rw [List.getElem?_eq_none (by simpa [bs] using Nat.not_lt.1 h)]
theorem r_within (s:ByteArray)(i lo hi:Nat)(w:World):Calls Tryz.prog 127 #[.string s,.int .i64 i,.int .u8 lo,.int .u8 hi] w fun e w'=>e=.returned (.bool (withinS s i lo hi))∧w=w':=by
 by_cases hi':i<s.size
 ·have H:=Hi (withinS_in s i lo hi hi');go_enter Tryz.func127,Tryz.ntmps127;go_wp2
  all_goals go_ret
  all_goals (refine ⟨ret_bool ?_,rfl⟩;rw [H.out,Bool.eq_iff_iff];simp;omega)
 ·have H:=Hi (withinS_out s i lo hi hi');go_enter Tryz.func127,Tryz.ntmps127;go_wp2;go_ret;exact ⟨ret_bool H.out.symm,rfl⟩
def sizeS (s:ByteArray)(i:Nat):Nat×Bool:=match (bs s)[i]? with
 | none=>(1,true)
 | some b=>
   if b.toNat<128 then (1,false)
   else if (decide (194≤b.toNat) && decide (b.toNat≤223) && withinS s (i+1) 128 191)=true then (2,false)
   else if (decide (b.toNat=224) && withinS s (i+1) 160 191 && withinS s (i+2) 128 191)=true then (3,false)
   else if (decide (b.toNat=237) && withinS s (i+1) 128 159 && withinS s (i+2) 128 191)=true then (3,false)
   else if (decide (225≤b.toNat) && decide (b.toNat≤239) && !decide (b.toNat=237) && withinS s (i+1) 128 191 && withinS s (i+2) 128 191)=true then (3,false)
   else if (decide (b.toNat=240) && withinS s (i+1) 144 191 && withinS s (i+2) 128 191 && withinS s (i+3) 128 191)=true then (4,false)
   else if (decide (241≤b.toNat) && decide (b.toNat≤243) && withinS s (i+1) 128 191 && withinS s (i+2) 128 191 && withinS s (i+3) 128 191)=true then (4,false)
   else if (decide (b.toNat=244) && withinS s (i+1) 128 143 && withinS s (i+2) 128 191 && withinS s (i+3) 128 191)=true then (4,false)
   else (1,true)
theorem size_ret {x:Nat×Bool}{k:Int}{l:Bool}(h:(x.1:Int)=k∧x.2=l):Ending.returned (.tuple #[.int .i64 k,.bool l])=Ending.returned (.tuple #[.int .i64 (x.1:Nat),.bool x.2]):=by
 rw [← h.1,← h.2]
theorem r_size (s:ByteArray)(i:Nat)(hi:i<s.size)(hs:s.size≤9223372036854775000)(w:World):Calls Tryz.prog 99 #[.string s,.int .i64 i] w fun e w'=>e=.returned (.tuple #[.int .i64 ((sizeS s i).1:Nat),.bool (sizeS s i).2])∧w=w':=by
 have cw:=Hi (fun (d lo hi:Nat) (w:World)=>r_within s (i+d) lo hi w)
 have H:=Hi (show sizeS s i=_ by unfold sizeS;rw [bs_get s i hi])
 go_enter Tryz.func99,Tryz.ntmps99;go_upto_region 5 with (go_at_call 127;refine (cw.out _ _ _ _).mono ?_;rintro e w' ⟨rfl,rfl⟩);generalize s[i].toNat=b at *;generalize withinS s (i+1) 128 191=o1 at *;generalize withinS s (i+2) 128 191=o2 at *;generalize withinS s (i+3) 128 191=o3 at *;go_wp2_with (go_at_call 127;refine (cw.out _ _ _ _).mono ?_;rintro e w' ⟨rfl,rfl⟩)
 all_goals (go_ret2;refine ⟨size_ret ?_,rfl⟩;rw [H.out];clear cw H)
 all_goals ((repeat' split)<;>first|exact ⟨rfl,rfl⟩|(exfalso;omega)|(exfalso;simp_all;done)|(exfalso;simp_all;omega))
end Go.Proofs.YtjokciofeicdkaaGreatDoor
