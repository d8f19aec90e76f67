/- A part of the proof of RunParses: RefB RefC RefD RefE RefF RefG RefH RefI RefJ RefK RefL RefM. -/
import Derived.Test.YtjokciofeicdkaaGreatDoorPE
import Derived.Test.YtjokciofeicdkaaGreatDoorPC
import Derived.Test.YtjokciofeicdkaaGreatDoorPD
import Derived.Test.YtjokciofeicdkaaGreatDoorPAn
import Derived.Laws.BytesArg
import Derived.Deep.RegionHeld3
import Derived.Deep.RegionLaw
import Derived.Lib.SmallJoins
set_option maxHeartbeats 16000000
set_option maxRecDepth 100000
set_option linter.all false
namespace Go.Proofs.YtjokciofeicdkaaGreatDoor
open Go.RowKit
theorem sizeS_pos (s:ByteArray)(i:Nat):1≤(sizeS s i).1∧(sizeS s i).1≤4:=by
 unfold sizeS
 repeat' split
 all_goals decide
def colR (s:ByteArray):Nat→Nat→Nat→Nat
 | 0,_,_=>1
 | f+1,a,i=>if a<i then colR s f (a+(sizeS s a).1) i+1 else 1
theorem r_column (s:ByteArray)(i:Nat)(hi:i≤s.size)(hs:s.size≤4611686018427387904)(w:World):Calls Tryz.prog 69 #[.string s,.int .i64 i] w fun e w'=>e=.returned (.int .i64 (colR s (i+1) 0 i:Nat))∧w=w':=by
 have cs:=Hi (fun (k:Nat) (hk:k<s.size) (w:World)=>r_size s k hk (by omega) w)
 go_enter Tryz.func69,Tryz.ntmps69;go_wp2_with fail
 go_loop [5,6] (fun n a=>∃ k m f:Nat,m≤i+4∧k≤m∧n=.int .i64 ((k:Int)+1)∧a=.int .i64 m∧i<m+f∧Hid (colR s (i+1) 0 i=k+colR s f m i)) (fun n a=>i+4-(intOf a).toNat)
 case atStart=>exact ⟨0,0,i+1,by omega,by omega,rfl,rfl,by omega,Hi (by omega)⟩
 case round=>
  obtain ⟨k,m,f,hm,hkm,rfl,rfl,hf,hR⟩:=hrel
  by_cases hlt:m<i
  ·obtain ⟨f,rfl⟩:∃ g,f=g+1:=⟨f-1,by omega⟩
   have hR2:=Hi (hR.out.trans (show k+colR s (f+1) m i=(k+1)+colR s f (m+(sizeS s m).1) i by
    rw [show colR s (f+1) m i=colR s f (m+(sizeS s m).1) i+1 from by rw [colR,if_pos hlt]];omega))
   have c1:=Hi (cs.out m (by omega))
   have hz:=sizeS_pos s m;clear hR cs;generalize sizeS s m=z at *;obtain ⟨z,l⟩:=z;dsimp only at hz hR2 c1;obtain ⟨hz1,hz2⟩:=hz;go_wp2_with (go_at_call 99;refine (c1.out _).mono ?_;rintro e w' ⟨rfl,rfl⟩)
   go_round
   case rel=>exact ⟨k+1,m+z,f,by omega,by omega,by go_num,by go_num,by omega,hR2⟩
   case measure=>simp [intOf];omega
  ·have hR2:=Hi (show colR s (i+1) 0 i=k+1 by
    rw [hR.out]
    cases f with
    | zero=>rfl
    | succ f=>rw [show colR s (f+1) m i=1 from by rw [colR,if_neg hlt]])
   go_wp2_with fail;go_ret;exact ⟨by rw [hR2.out];rfl,rfl⟩
def runE (s:ByteArray)(i:Nat):Nat:=i+wordLen ((bs s).drop i)
theorem r_run (s:ByteArray)(i:Nat)(hi:i≤s.size)(hs:s.size≤4611686018427387904)(w:World):Calls Tryz.prog 93 #[.string s,.int .i64 i] w fun e w'=>e=.returned (.int .i64 (runE s i:Nat))∧w=w':=by
 have cw:=Hi (fun (n:Nat) (w:World)=>r_word n w)
 go_enter Tryz.func93,Tryz.ntmps93;go_wp2_with fail
 go_loop [1] (fun a=>∃ m:Nat,m≤s.size∧a=.int .i64 m∧Hid (runE s i=m+wordLen ((bs s).drop m))) (fun a=>s.size-(intOf a).toNat)
 case atStart=>exact ⟨i,hi,rfl,Hi rfl⟩
 case round=>
  obtain ⟨m,hm,rfl,hR⟩:=hrel
  by_cases hlt:m<s.size
  ·have hd:=bs_drop s m hlt
   cases hb:(letterN s[m].toNat || digitN s[m].toNat)
   ·have hR2:=Hi (hR.out.trans (show m+wordLen ((bs s).drop m)=m by
     rw [hd,wordLen,if_neg (by show ¬ (letterN s[m].toNat || digitN s[m].toNat)=true;rw [hb];simp)];rfl))
    have c1:=Hi (show ∀ w,Calls Tryz.prog 95 #[.int .u8 s[m].toNat] w fun e w'=>e=.returned (.bool false)∧w=w' from fun w=>hb▸cw.out _ w)
    clear cw hR hd hb;go_wp2_with (go_at_call 95;refine (c1.out _).mono ?_;rintro e w' ⟨rfl,rfl⟩);go_ret;exact ⟨by rw [hR2.out];rfl,rfl⟩
   ·have hR2:=Hi (hR.out.trans (show m+wordLen ((bs s).drop m)=(m+1)+wordLen ((bs s).drop (m+1)) by
     rw [hd,wordLen,if_pos (by show (letterN s[m].toNat || digitN s[m].toNat)=true;exact hb)];omega))
    have c1:=Hi (show ∀ w,Calls Tryz.prog 95 #[.int .u8 s[m].toNat] w fun e w'=>e=.returned (.bool true)∧w=w' from fun w=>hb▸cw.out _ w)
    clear hR hd hb;go_wp2_with (go_at_call 95;refine (c1.out _).mono ?_;rintro e w' ⟨rfl,rfl⟩)
    go_round
    case rel=>exact ⟨m+1,by omega,by go_num,hR2⟩
    case measure=>simp [intOf];omega
  ·have hR2:=Hi (hR.out.trans (show m+wordLen ((bs s).drop m)=m by rw [bs_drop_end s m hlt];rfl))
   go_wp2_with fail;go_ret;exact ⟨by rw [hR2.out];rfl,rfl⟩
def dotL:Bytes→Option Nat
 | []=>none
 | c::r=>if c.toNat=46 then some 0 else (dotL r).map (· + 1)
def optI (o:Option Nat):Int:=match o with|some d=>(d:Int)|none=>-1
theorem r_dot (s:ByteArray)(hs:s.size≤4611686018427387904)(w:World):Calls Tryz.prog 100 #[.string s] w fun e w'=>e=.returned (.int .i64 (optI (dotL (bs s))))∧w=w':=by
 go_enter Tryz.func100,Tryz.ntmps100;go_wp2_with fail
 go_loop [3] (fun a=>∃ m:Nat,m≤s.size∧a=.int .i64 m∧Hid (dotL (bs s)=(dotL ((bs s).drop m)).map (· + m))) (fun a=>s.size-(intOf a).toNat)
 case atStart=>exact ⟨0,by omega,rfl,Hi (by simp)⟩
 case round=>
  obtain ⟨m,hm,rfl,hR⟩:=hrel
  by_cases hlt:m<s.size
  ·have hd:=bs_drop s m hlt
   by_cases h46:s[m].toNat=46
   ·have hR2:=Hi (hR.out.trans (show _=some m by rw [hd,dotL,if_pos h46];simp))
    have b46:((s[m].toNat:Int) == 46)=true:=by rw [h46];rfl
    clear hR hd h46;go_wp2_with fail;go_ret;exact ⟨by rw [hR2.out];rfl,rfl⟩
   ·have hR2:=Hi (hR.out.trans (show _=(dotL ((bs s).drop (m+1))).map (· + (m+1)) by
     rw [hd,dotL,if_neg h46,Option.map_map];congr 1;funext x;simp;omega))
    have b46:((s[m].toNat:Int) == 46)=false:=by simp;omega
    clear hR hd h46;go_wp2_with fail
    go_round
    case rel=>exact ⟨m+1,by omega,by go_num,hR2⟩
    case measure=>simp [intOf];omega
  ·have hR2:=Hi (hR.out.trans (show _=none by rw [bs_drop_end s m hlt];rfl))
   go_wp2_with fail;go_ret;exact ⟨by rw [hR2.out];rfl,rfl⟩
theorem take_contains (l:Bytes){j:Nat}{c:UInt8}(hj:l[j]?=some c)(x:UInt8):(l.take (j+1)).contains x=((l.take j).contains x || x == c):=by
 rw [List.take_add_one,hj,Bool.eq_iff_iff]
 simp
theorem r_all (s cs:ByteArray)(hs:s.size≤4611686018427387904)(hc:cs.size≤4611686018427387904)(w:World):Calls Tryz.prog 125 #[.string s,.string cs] w fun e w'=>e=.returned (.bool (allOf (bs s) (bs cs)))∧Qt w w':=by
 go_enter Tryz.func125,Tryz.ntmps125;go_wp2_with fail
 go_loopw [5] (fun a wr=>∃ m:Nat,m≤s.size∧a=.int .i64 m∧Hid (allOf (bs s) (bs cs)=allOf ((bs s).drop m) (bs cs))∧Hid (Qt w wr)) (fun a _=>s.size-(intOf a).toNat)
 case atStart=>exact ⟨0,by omega,rfl,Hi rfl,Hi (Qt.refl _)⟩
 case round=>
  obtain ⟨m,hm,rfl,hR,hq⟩:=hrel;obtain ⟨q,rfl⟩:=hq.out
  by_cases hlt:m<s.size
  ·have hd:=bs_drop s m hlt;have hR2:=Hi (hR.out.trans (show _=((bs cs).contains s[m] && allOf ((bs s).drop (m+1)) (bs cs)) by rw [hd];rfl))
   clear hR hd;go_wp2_with fail
   go_loopw [6,7] (fun x a wr=>∃ j:Nat,j≤cs.size∧x=.bool (((bs cs).take j).contains s[m])∧a=.int .i64 j∧Hid (Qt w wr)) (fun _ a _=>cs.size-(intOf a).toNat)
   case atStart=>exact ⟨0,by omega,rfl,rfl,Hi (Qt.self _ _)⟩
   case round=>
    obtain ⟨j,hj,rfl,rfl,hq2⟩:=hrel;obtain ⟨q2,rfl⟩:=hq2.out
    by_cases hlj:j<cs.size
    ·have ht:=take_contains (bs cs) (bs_get cs j hlj) s[m];have iI:(m:Int)<(s.size:Int):=by omega
     have jI:(j:Int)<(cs.size:Int):=by omega
     by_cases he:s[m]=cs[j]
     ·have hb:((s[m].toNat:Int) == (cs[j].toNat:Int))=true:=by rw [he];simp
      have ht2:=Hi (ht.trans (show _=true by rw [he];simp))
      clear ht;go_wp2_with fail;go_quiet (fail);go_wp2_with fail
      go_roundw
      case rel=>exact ⟨j+1,by omega,by rw [ht2.out],by go_num,Hi (Qt.self _ _)⟩
      case measure=>simp [intOf];omega
     ·have hb:((s[m].toNat:Int) == (cs[j].toNat:Int))=false:=by
       rw [beq_eq_false_iff_ne];intro h;exact he (UInt8.toNat.inj (by omega))
      have ht2:=Hi (ht.trans (show _=((bs cs).take j).contains s[m] by rw [show (s[m] == cs[j])=false from by simpa using he];simp))
      clear ht;go_wp2_with fail;go_quiet (fail);go_wp2_with fail
      go_roundw
      case rel=>exact ⟨j+1,by omega,by rw [ht2.out],by go_num,Hi (Qt.self _ _)⟩
      case measure=>simp [intOf];omega
    ·have hje:(bs cs).take j=bs cs:=List.take_of_length_le (by rw [bs_length];omega)
     rw [hje];clear hje
     cases hx:(bs cs).contains s[m]
     ·have hR3:=Hi (hR2.out.trans (show _=false by rw [hx];rfl))
      go_wp2_with fail;go_ret;exact ⟨by rw [hR3.out];rfl,Qt.self _ _⟩
     ·have hR3:=Hi (hR2.out.trans (show _=allOf ((bs s).drop (m+1)) (bs cs) by rw [hx];simp))
      go_wp2_with fail
      go_roundw
      case rel=>exact ⟨m+1,by omega,by go_num,hR3,Hi (Qt.self _ _)⟩
      case measure=>simp [intOf];omega
  ·have hR2:=Hi (hR.out.trans (show _=true by rw [bs_drop_end s m hlt];rfl))
   go_wp2_with fail;go_ret;exact ⟨by rw [hR2.out];rfl,Qt.self _ _⟩
theorem emp_true (s:ByteArray)(h:s.size=0):s.toList.isEmpty=true:=by
 rw [ByteArray.toList_eq];have:s.data.toList.length=0:=h;rw [List.length_eq_zero_iff.1 this];rfl
theorem decS_none1 {l:Bytes}{top:Nat}(h:l=[]):decS l top=none:=by unfold decS;rw [if_pos (Or.inl h)]
theorem decS_none2 {l:Bytes}{top:Nat}(h:10<l.length):decS l top=none:=by unfold decS;rw [if_pos (Or.inr h)]
theorem decS_none3 {l:Bytes}{top:Nat}(h:allOf l decCs=false):decS l top=none:=by
 unfold decS;split
 ·rfl
 ·first|rfl|(rw [if_pos h])
theorem decS_none4 {l:Bytes}{top:Nat}(h:l.head?=some 48∧l≠[48]):decS l top=none:=by
 unfold decS;split
 ·rfl
 ·split
  ·rfl
  ·first|rfl|(rw [if_pos h])
theorem decS_val {l:Bytes}{top:Nat}(h1:l≠[])(h2:l.length≤10)(h3:allOf l decCs=true)(h4:¬ (l.head?=some 48∧l≠[48])):decS l top=if top<decVal l then none else some (decVal l):=by
 unfold decS;rw [if_neg (by rintro (h|h);exact h1 h;omega),if_neg (by rw [h3];simp),if_neg h4]
theorem allOf_dec (l:Bytes):allOf l decCs=l.all digitU:=by
 unfold allOf;congr 1;funext c;exact decCs_at c
theorem decVal_take (l:Bytes){m:Nat}{c:UInt8}(h:l[m]?=some c):decVal (l.take (m+1))=decVal (l.take m)*10+(c.toNat-48):=by
 rw [List.take_add_one,h]
 simp [decVal,List.foldl_append]
theorem bs_head (s:ByteArray)(h:0<s.size):(bs s).head?=some s[0]:=by
 rw [List.head?_eq_getElem?];exact bs_get s 0 h
theorem r_decimal (s:ByteArray)(top:Nat)(hs:s.size≤4611686018427387904)(w:World):Calls Tryz.prog 103 #[.string s,.int .i64 top] w fun e w'=>e=.returned (.int .i64 (optI (decS (bs s) top)))∧Qt w w':=by
 have ca0:=Hi (fun w=>r_all s ⟨#[48,49,50,51,52,53,54,55,56,57]⟩ hs (by decide) w)
 by_cases h0:s.size=0
 ·have he:=emp_true s h0;have H:=Hi (decS_none1 (l:=bs s) (top:=top) (List.length_eq_zero_iff.1 (by rw [bs_length];exact h0)))
  clear ca0;go_enter Tryz.func103,Tryz.ntmps103;go_wp2_with fail;go_ret;exact ⟨by rw [H.out];rfl,Qt.refl _⟩
 have he:=emp_false s h0;have hne:bs s≠[]:=fun h=>h0 (by rw [← bs_length,h];rfl)
 cases ha:allOf (bs s) decCs
 ·have H:=Hi (decS_none3 (top:=top) ha);have ca:=Hi (show ∀ w,Calls Tryz.prog 125 #[.string s,.string ⟨#[48,49,50,51,52,53,54,55,56,57]⟩] w fun e w'=>e=.returned (.bool false)∧Qt w w' from fun w=>ha▸ca0.out w)
  clear ca0 ha;go_enter Tryz.func103,Tryz.ntmps103;go_wp2_with (go_at_call 125;refine (ca.out _).mono ?_;rintro e w' ⟨rfl,hq⟩);go_ret;exact ⟨by rw [H.out];rfl,hq⟩
 have ca:=Hi (show ∀ w,Calls Tryz.prog 125 #[.string s,.string ⟨#[48,49,50,51,52,53,54,55,56,57]⟩] w fun e w'=>e=.returned (.bool true)∧Qt w w' from fun w=>ha▸ca0.out w)
 clear ca0;have hpos:0<s.size:=by omega
 by_cases h48:1<s.size∧s[0].toNat=48
 ·obtain ⟨h1,h48⟩:=h48;have H:=Hi (decS_none4 (l:=bs s) (top:=top) ⟨by rw [bs_head s hpos,show s[0]=48 from UInt8.toNat.inj h48],fun h=>by have:=congrArg List.length h;rw [bs_length] at this;simp at this;omega⟩)
  have b48:((s[0].toNat:Int) == 48)=true:=by rw [h48];rfl
  have b1:(s.size:Int)>1:=by omega
  clear ha h48 h1;go_enter Tryz.func103,Tryz.ntmps103;go_wp2_with (go_at_call 125;refine (ca.out _).mono ?_;rintro e w' ⟨rfl,hq⟩);go_ret;exact ⟨by rw [H.out];rfl,hq⟩
 have b48:1<s.size→((s[0].toNat:Int) == 48)=false:=fun h1=>by
  rw [beq_eq_false_iff_ne];intro h;exact h48 ⟨h1,by omega⟩
 by_cases h10:10<s.size
 ·have H:=Hi (decS_none2 (l:=bs s) (top:=top) (by rw [bs_length];exact h10))
  have b48':=b48 (by omega)
  have b1:(s.size:Int)>1:=by omega
  clear ha h48 b48;go_enter Tryz.func103,Tryz.ntmps103;go_wp2_with (go_at_call 125;refine (ca.out _).mono ?_;rintro e w' ⟨rfl,hq⟩);go_ret;exact ⟨by rw [H.out];rfl,hq⟩
 have H:=Hi (decS_val (l:=bs s) (top:=top) hne (by rw [bs_length];omega) ha (by
  rintro ⟨h1,h2⟩;rw [bs_head s hpos] at h1
  by_cases hs1:1<s.size
  ·exact h48 ⟨hs1,by rw [Option.some.inj h1];rfl⟩
  ·refine h2 ?_;have hl:(bs s).length=1:=by rw [bs_length];omega
   have hh:=bs_head s hpos
   match hb:bs s,hl,hh with
   | [c],_,hh=>simp at hh;rw [hh,Option.some.inj h1]))
 have hdig:(bs s).all digitU=true:=by rw [← allOf_dec];exact ha
 have hbd:=Hi (fun m (_:m≤s.size)=>decVal_bd ((bs s).take m) (by rw [List.all_eq_true] at hdig ⊢;exact fun x hx=>hdig x (List.mem_of_mem_take hx)) (by rw [List.length_take,bs_length];omega))
 have hd1:=Hi (show ∀ m (hm:m<s.size),48≤s[m].toNat∧s[m].toNat≤57 from fun m hm=>by
  rw [List.all_eq_true] at hdig;have:=hdig s[m] (List.mem_of_getElem? (bs_get s m hm))
  simpa [digitU,digitN] using this)
 have main:((s.size:Int)>1∧((s[0].toNat:Int) == 48)=false)∨¬ ((s.size:Int)>1):=by
  by_cases h:1<s.size
  ·exact .inl ⟨by omega,b48 h⟩
  ·exact .inr (by omega)
 have b10:¬ ((s.size:Int)>10):=by omega
 clear ha hdig h48 b48 hne h10;rcases main with ⟨b1,b48⟩|b1
 all_goals (
  go_enter Tryz.func103,Tryz.ntmps103;go_upto_region 5 with (go_at_call 125;refine (ca.out _).mono ?_;rintro e w' ⟨rfl,hq⟩)
  go_loopw [5,6] (fun n a wr=>∃ m:Nat,m≤s.size∧n=.int .i64 (decVal ((bs s).take m):Nat)∧a=.int .i64 m∧wr=w') (fun _ a _=>s.size-(intOf a).toNat)
  case atStart=>exact ⟨0,by omega,rfl,rfl,rfl⟩
  case round=>
   obtain ⟨m,hm,rfl,rfl,rfl⟩:=hrel
   by_cases hlt:m<s.size
   ·have hv:=Hi (decVal_take (bs s) (bs_get s m hlt));have hb:=hbd.out m hm;obtain ⟨d1,d2⟩:=hd1.out m hlt;generalize decVal ((bs s).take m)=v at *;have w1:IntKind.u8.wrap ((s[m].toNat:Int)-48)=(s[m].toNat:Int)-48:=u8w _ (by omega)
    go_wp2_with fail
    go_roundw
    case rel=>exact ⟨m+1,by omega,by rw [hv.out];go_num,by go_num,by first|rfl|trivial⟩
    case measure=>simp [intOf];omega
   ·have hm2:m=s.size:=by omega
    have ht2:(bs s).take m=bs s:=List.take_of_length_le (by rw [bs_length];omega)
    rw [ht2];clear hm2 ht2
    by_cases htop:top<decVal (bs s)
    ·have H2:=Hi (H.out.trans (if_pos htop));have bt:(decVal (bs s):Int)>(top:Int):=by omega
     go_wp2_with fail;go_ret;exact ⟨by rw [H2.out];rfl,hq⟩
    ·have H2:=Hi (H.out.trans (if_neg htop));have bt:¬ (decVal (bs s):Int)>(top:Int):=by omega
     go_wp2_with fail;go_ret;exact ⟨by rw [H2.out];rfl,hq⟩)
def quadR:Nat→Nat→Bytes→Option Nat
 | 0,v,_=>some v
 | 1,v,l=>match decS l 255 with
   | none=>none
   | some x=>some (256*v+x)
 | r+2,v,l=>match dotL l with
   | none=>none
   | some d=>match decS (l.take d) 255 with
     | none=>none
     | some x=>quadR (r+1) (256*v+x) (l.drop (d+1))
theorem dotL_lt:∀ (l:Bytes)(d:Nat),dotL l=some d→d<l.length
 | [],d,h=>by simp [dotL] at h
 | c::r,d,h=>by
   unfold dotL at h
   split at h
   ·simp only [Option.some.injEq] at h;subst h;simp
   ·obtain ⟨e,he,rfl⟩:=Option.map_eq_some_iff.1 h;have:=dotL_lt r e he
    simp;omega
theorem decS_top {l:Bytes}{top x:Nat}(h:decS l top=some x):x≤top:=by
 unfold decS at h
 repeat' split at h
 all_goals simp_all
theorem size_ext (s:ByteArray)(a b:Nat):(s.extract a b).size≤s.size:=size_extract_le s a b
theorem r_quad (s:ByteArray)(hs:s.size≤4611686018427387904)(w:World):Calls Tryz.prog 101 #[.string s] w fun e w'=>e=.returned (.int .i64 (optI (quadR 4 0 (bs s))))∧Qt w w':=by
 have cd:=Hi (fun (t:ByteArray) (ht:t.size≤s.size) (w:World)=>r_dot t (by omega) w)
 have cc:=Hi (fun (t:ByteArray) (ht:t.size≤s.size) (w:World)=>r_decimal t 255 (by omega) w)
 go_enter Tryz.func101,Tryz.ntmps101;go_wp2_with fail
 go_loopw [0,3,4] (fun x n a wr=>∃ (t:ByteArray) (k v:Nat),t.size≤s.size∧k≤4∧x=.string t∧n=.int .i64 v∧a=.int .i64 k∧v<256 ^ k∧Hid (quadR 4 0 (bs s)=quadR (4-k) v (bs t))∧Hid (Qt w wr)) (fun _ _ a _=>4-(intOf a).toNat)
 case atStart=>exact ⟨s,0,0,Nat.le_refl _,by omega,rfl,rfl,rfl,by decide,Hi rfl,Hi (Qt.refl _)⟩
 case round=>
  obtain ⟨t,k,v,ht,hk,rfl,rfl,rfl,hv,hR,hq⟩:=hrel;obtain ⟨q,rfl⟩:=hq.out;clear hq
  by_cases hlt:k<4
  ·have cd1:=Hi (cd.out t ht);have hv4:v<16777216:=Nat.lt_of_lt_of_le hv (Nat.le_trans (Nat.pow_le_pow_right (by decide) (show k≤3 by omega)) (by decide))
   by_cases h3:k<3
   ·obtain ⟨r,hr⟩:∃ r,4-k=r+2:=⟨2-k,by omega⟩
    cases hd:dotL (bs t) with
    | none=>
      have hR2:=Hi (hR.out.trans (show _=none by rw [hr,quadR,hd]))
      have cd2:=Hi (show ∀ w,Calls Tryz.prog 100 #[.string t] w fun e w'=>e=.returned (.int .i64 (-1))∧w=w' from fun w=>by have:=cd1.out w;rw [hd] at this;exact this)
      clear hR hd cd cc cd1;go_wp2_with (go_at_call 100;refine (cd2.out _).mono ?_;rintro e w' ⟨rfl,rfl⟩);go_ret;exact ⟨by rw [hR2.out];rfl,Qt.self _ _⟩
    | some d=>
      have hdl:=dotL_lt _ _ hd;rw [bs_length] at hdl;have cd2:=Hi (show ∀ w,Calls Tryz.prog 100 #[.string t] w fun e w'=>e=.returned (.int .i64 (d:Nat))∧w=w' from fun w=>by have:=cd1.out w;rw [hd] at this;exact this)
      have cc1:=Hi (cc.out (t.extract 0 d) (Nat.le_trans (size_ext _ _ _) ht));have hR1:=Hi (hR.out.trans (show _=(match decS ((bs t).take d) 255 with|none=>none|some x=>quadR (r+1) (256*v+x) ((bs t).drop (d+1))) by rw [hr,quadR,hd]))
      have ed:bs (t.extract 0 d)=(bs t).take d:=bs_take t d;clear hR hd cd1
      cases hx:decS ((bs t).take d) 255 with
      | none=>
        have hR2:=Hi (hR1.out.trans (show _=none by rw [hx]))
        have cc2:=Hi (show ∀ w,Calls Tryz.prog 103 #[.string (t.extract 0 d),.int .i64 255] w fun e w'=>e=.returned (.int .i64 (-1))∧Qt w w' from fun w=>by have:=cc1.out w;rw [ed,hx] at this;exact this)
        clear hR1 hx cd cc cc1 ed;go_wp2_with (first|(go_at_call 100;refine (cd2.out _).mono ?_;rintro e w' ⟨rfl,rfl⟩)|(go_at_call 103;refine (cc2.out _).mono ?_;rintro e w' ⟨rfl,hq2⟩))
        go_ret;exact ⟨by rw [hR2.out];rfl,(Qt.self _ _).trans hq2⟩
      | some x=>
        have hxl:=decS_top hx;have hR2:=Hi (hR1.out.trans (show _=quadR (4-(k+1)) (256*v+x) ((bs t).drop (d+1)) by rw [hx,show 4-(k+1)=r+1 by omega]))
        have cc2:=Hi (show ∀ w,Calls Tryz.prog 103 #[.string (t.extract 0 d),.int .i64 255] w fun e w'=>e=.returned (.int .i64 (x:Nat))∧Qt w w' from fun w=>by have:=cc1.out w;rw [ed,hx] at this;exact this)
        have et:=Hi (bs_from t (d+1));clear hR1 hx cc1 ed;have dI:(d:Int)<(t.size:Int):=by omega
        go_wp2_with (first|(go_at_call 100;refine (cd2.out _).mono ?_;rintro e w' ⟨rfl,rfl⟩)|(go_at_call 103;refine (cc2.out _).mono ?_;rintro e w' ⟨rfl,hq2⟩))
        go_roundw
        case rel=>exact ⟨t.extract (d+1) t.size,k+1,256*v+x,Nat.le_trans (size_ext _ _ _) ht,by omega,rfl,by go_num,by go_num,by rw [Nat.pow_succ];omega,Hi (by rw [et.out];exact hR2.out),Hi ((Qt.self _ _).trans hq2)⟩
        case measure=>simp [intOf];omega
   ·have hk3:k=3:=by omega
    subst hk3;have cc1:=Hi (cc.out t ht);have cd2:Hid (∃ z:Int,∀ w,Calls Tryz.prog 100 #[.string t] w fun e w'=>e=.returned (.int .i64 z)∧w=w'):=Hi ⟨_,fun w=>cd1.out w⟩
    obtain ⟨z,cd2⟩:=cd2.out;have cd2:=Hi cd2;have hR1:=Hi (hR.out.trans (show _=(match decS (bs t) 255 with|none=>none|some x=>some (256*v+x)) from rfl))
    clear hR cd1
    cases hx:decS (bs t) 255 with
    | none=>
      have hR2:=Hi (hR1.out.trans (show _=none by rw [hx]))
      have cc2:=Hi (show ∀ w,Calls Tryz.prog 103 #[.string t,.int .i64 255] w fun e w'=>e=.returned (.int .i64 (-1))∧Qt w w' from fun w=>by have:=cc1.out w;rw [hx] at this;exact this)
      clear hR1 hx cd cc cc1;go_wp2_with (first|(go_at_call 100;refine (cd2.out _).mono ?_;rintro e w' ⟨rfl,rfl⟩)|(go_at_call 103;refine (cc2.out _).mono ?_;rintro e w' ⟨rfl,hq2⟩))
      go_ret;exact ⟨by rw [hR2.out];rfl,(Qt.self _ _).trans hq2⟩
    | some x=>
      have hxl:=decS_top hx;have hR2:=Hi (hR1.out.trans (show _=quadR (4-4) (256*v+x) (bs t) by rw [hx];rfl))
      have cc2:=Hi (show ∀ w,Calls Tryz.prog 103 #[.string t,.int .i64 255] w fun e w'=>e=.returned (.int .i64 (x:Nat))∧Qt w w' from fun w=>by have:=cc1.out w;rw [hx] at this;exact this)
      clear hR1 hx cc1;go_wp2_with (first|(go_at_call 100;refine (cd2.out _).mono ?_;rintro e w' ⟨rfl,rfl⟩)|(go_at_call 103;refine (cc2.out _).mono ?_;rintro e w' ⟨rfl,hq2⟩))
      go_roundw
      case rel=>exact ⟨t,4,256*v+x,ht,by omega,rfl,by go_num,by go_num,by rw [show (256:Nat) ^ 4=4294967296 from rfl];omega,hR2,Hi ((Qt.self _ _).trans hq2)⟩
      case measure=>simp [intOf]
  ·have hk4:k=4:=by omega
   subst hk4;have hR2:=Hi (hR.out.trans (show _=some v from rfl))
   go_wp2_with fail;go_ret;exact ⟨by rw [hR2.out];rfl,Qt.self _ _⟩
def hexR (a:Nat):Bytes→Option Nat
 | []=>some a
 | c::r=>if hexI c.toNat<0 then none else hexR (16*a+(hexI c.toNat).toNat) r
def binR (a:Nat):Bytes→Option Nat
 | []=>some a
 | c::r=>if c.toNat=48∨c.toNat=49 then binR (2*a+(c.toNat-48)) r else none
def zxB:ByteArray:=⟨#[48,120]⟩
def zbB:ByteArray:=⟨#[48,98]⟩
def numR (s:ByteArray):Option Nat:=
 if (dotL (bs s)).isSome=true then quadR 4 0 (bs s) else
 if 3≤s.size∧s.size≤10∧s.extract 0 2=zxB then hexR 0 ((bs s).drop 2) else
 if 3≤s.size∧s.size≤34∧s.extract 0 2=zbB then binR 0 ((bs s).drop 2) else decS (bs s) 4294967295
theorem hexI_rng (n:Nat):hexI n = -1∨(0≤hexI n∧hexI n≤15):=by
 unfold hexI;repeat' split
 all_goals omega
theorem zx_eq (s:ByteArray):(s.toList == [48,120])=decide (s=zxB):=by
 rw [← ba_beq,ByteArray.toList_eq zxB];rfl
theorem zb_eq (s:ByteArray):(s.toList == [48,98])=decide (s=zbB):=by
 rw [← ba_beq,ByteArray.toList_eq zbB];rfl
theorem optI_some (o:Option Nat)(h:o.isSome=true):0≤optI o:=by
 cases o with
 | none=>simp at h
 | some d=>exact Int.natCast_nonneg d
theorem pow_step (b a P x:Nat)(ha:a<P)(hx:x<b):b*a+x<P*b:=by
 have:b*(a+1)≤b*P:=Nat.mul_le_mul_left b ha;rw [Nat.mul_comm P b];rw [Nat.mul_add] at this;omega
theorem r_number (s:ByteArray)(hs:s.size≤4611686018427387904)(w:World):Calls Tryz.prog 70 #[.string s] w fun e w'=>e=.returned (.int .i64 (optI (numR s)))∧Qt w w':=by
 have cd:=Hi (fun (w:World)=>r_dot s hs w)
 by_cases h1:(dotL (bs s)).isSome=true
 ·have H:=Hi (show numR s=quadR 4 0 (bs s) by unfold numR;rw [if_pos h1])
  have cq:=Hi (fun (w:World)=>r_quad s hs w)
  have hz:=optI_some _ h1;generalize optI (dotL (bs s))=z at *;rw [H.out];generalize optI (quadR 4 0 (bs s))=y at *;have bz:z≥0:=hz;clear hz h1 H;go_enter Tryz.func70,Tryz.ntmps70;go_wp2_with (first|(go_at_call 100;refine (cd.out _).mono ?_;rintro e w' ⟨rfl,rfl⟩)|(go_at_call 101;refine (cq.out _).mono ?_;rintro e w' ⟨rfl,hq2⟩))
  go_ret;exact ⟨rfl,hq2⟩
 have cd2:=Hi (show ∀ w,Calls Tryz.prog 100 #[.string s] w fun e w'=>e=.returned (.int .i64 (-1))∧w=w' from fun w=>by
  have:=cd.out w;rw [show dotL (bs s)=none from by cases h:dotL (bs s) with|none=>rfl|some d=>rw [h] at h1;simp at h1] at this;exact this)
 have H:=Hi (show numR s=_ by unfold numR;rw [if_neg h1])
 clear cd h1
 by_cases h2:3≤s.size∧s.size≤10∧s.extract 0 2=zxB
 ·have H2:=Hi (H.out.trans (if_pos h2));obtain ⟨h3,h10,he⟩:=h2;have be:((s.extract 0 2).toList == [48,120])=true:=by rw [zx_eq];exact decide_eq_true he
  have ch:=Hi (fun (m:Nat) (hm:m<s.size) (w:World)=>r_hex s[m].toNat (UInt8.toNat_lt _) w)
  clear H he;go_enter Tryz.func70,Tryz.ntmps70;go_upto_region 6 with (go_at_call 100;refine (cd2.out _).mono ?_;rintro e w' ⟨rfl,rfl⟩)
  go_loopw [3,4] (fun n a wr=>∃ (m v:Nat),2≤m∧m≤s.size∧n=.int .i64 v∧a=.int .i64 m∧v<16 ^ (m-2)∧Hid (numR s=hexR v ((bs s).drop m))∧wr=w) (fun _ a _=>s.size-(intOf a).toNat)
  case atStart=>exact ⟨2,0,by omega,by omega,rfl,rfl,by decide,H2,rfl⟩
  case round=>
   obtain ⟨m,v,hm2,hm,rfl,rfl,hv,hR,rfl⟩:=hrel;clear H2 cd2
   by_cases hlt:m<s.size
   ·have c1:=Hi (ch.out m hlt);have hR1:=Hi (hR.out.trans (show _=if hexI s[m].toNat<0 then none else hexR (16*v+(hexI s[m].toNat).toNat) ((bs s).drop (m+1)) by rw [bs_drop s m hlt];rfl))
    have hv8:v<4294967296:=Nat.lt_of_lt_of_le hv (Nat.le_trans (Nat.pow_le_pow_right (by decide) (show m-2≤8 by omega)) (by decide))
    have hrng:=hexI_rng s[m].toNat;clear ch hR;generalize hexI s[m].toNat=z at *;rcases hrng with rfl|⟨z0,z15⟩
    ·have hR2:=Hi (hR1.out.trans (if_pos (by decide)))
     clear hR1;go_wp2_with (go_at_call 102;refine (c1.out _).mono ?_;rintro e w' ⟨rfl,rfl⟩);go_ret;exact ⟨by rw [hR2.out];rfl,Qt.refl _⟩
    ·obtain ⟨x,rfl⟩:∃ x:Nat,z=x:=⟨z.toNat,by omega⟩
     have hR2:=Hi (hR1.out.trans (if_neg (by omega)))
     have bx:¬ (x:Int)<0:=by omega
     clear hR1;have hp:=pow_step 16 v _ x hv (by omega)
     go_wp2_with (go_at_call 102;refine (c1.out _).mono ?_;rintro e w' ⟨rfl,rfl⟩)
     go_roundw
     case rel=>exact ⟨m+1,16*v+x,by omega,by omega,by go_num,by go_num,by rw [show m+1-2=(m-2)+1 by omega,Nat.pow_succ];exact hp,hR2,by first|rfl|trivial⟩
     case measure=>simp [intOf];omega
   ·have hR2:=Hi (hR.out.trans (show _=some v by rw [bs_drop_end s m hlt];rfl))
    go_wp2_with fail;go_ret;exact ⟨by rw [hR2.out];rfl,Qt.refl _⟩
 have H3:=Hi (H.out.trans (if_neg h2))
 have n2:Hid (¬ (3≤s.size∧s.size≤10∧((s.extract 0 2).toList == [48,120])=true)):=Hi (by
  rw [zx_eq];simpa using h2)
 clear H h2
 by_cases h2:3≤s.size∧s.size≤34∧s.extract 0 2=zbB
 ·have H2:=Hi (H3.out.trans (if_pos h2));obtain ⟨h3,h10,he⟩:=h2;have be:((s.extract 0 2).toList == [48,98])=true:=by rw [zb_eq];exact decide_eq_true he
  have bx:((s.extract 0 2).toList == [48,120])=false:=by rw [he,zx_eq];decide
  clear H3 he n2;go_enter Tryz.func70,Tryz.ntmps70;go_upto_region 15 with (go_at_call 100;refine (cd2.out _).mono ?_;rintro e w' ⟨rfl,rfl⟩)
  all_goals (
   go_loopw [5,6] (fun n a wr=>∃ (m v:Nat),2≤m∧m≤s.size∧n=.int .i64 v∧a=.int .i64 m∧v<2 ^ (m-2)∧Hid (numR s=binR v ((bs s).drop m))∧wr=w) (fun _ a _=>s.size-(intOf a).toNat)
   case atStart=>exact ⟨2,0,by omega,by omega,rfl,rfl,by decide,H2,rfl⟩
   case round=>
    obtain ⟨m,v,hm2,hm,rfl,rfl,hv,hR,rfl⟩:=hrel;clear H2 cd2
    by_cases hlt:m<s.size
    ·have hR1:=Hi (hR.out.trans (show _=if s[m].toNat=48∨s[m].toNat=49 then binR (2*v+(s[m].toNat-48)) ((bs s).drop (m+1)) else none by rw [bs_drop s m hlt];rfl))
     have hv8:v<4294967296:=Nat.lt_of_lt_of_le hv (Nat.le_trans (Nat.pow_le_pow_right (by decide) (show m-2≤32 by omega)) (by decide))
     clear hR
     by_cases hd:s[m].toNat=48∨s[m].toNat=49
     ·have hR2:=Hi (hR1.out.trans (if_pos hd));have hp:=pow_step 2 v _ (s[m].toNat-48) hv (by omega)
      have wu:IntKind.u8.wrap ((s[m].toNat:Int)-48)=(s[m].toNat:Int)-48:=u8w _ (by omega)
      clear hR1
      have b48:((s[m].toNat:Int) != 48)=false∨(((s[m].toNat:Int) != 48)=true∧((s[m].toNat:Int) != 49)=false):=by
       rcases hd with hd|hd
       ·left;rw [hd];rfl
       ·right;rw [hd];exact ⟨rfl,rfl⟩
      rcases b48 with b48|⟨b48,b49⟩
      all_goals (
       go_wp2_with fail
       go_roundw
       case rel=>exact ⟨m+1,2*v+(s[m].toNat-48),by omega,by omega,by go_num,by go_num,by rw [show m+1-2=(m-2)+1 by omega,Nat.pow_succ];exact hp,hR2,by first|rfl|trivial⟩
       case measure=>simp [intOf];omega)
     ·have hR2:=Hi (hR1.out.trans (if_neg hd));have b48:((s[m].toNat:Int) != 48)=true:=by simp;omega
      have b49:((s[m].toNat:Int) != 49)=true:=by simp;omega
      clear hR1 hd;go_wp2_with fail;go_ret;exact ⟨by rw [hR2.out];rfl,Qt.refl _⟩
    ·have hR2:=Hi (hR.out.trans (show _=some v by rw [bs_drop_end s m hlt];rfl))
     go_wp2_with fail;go_ret;exact ⟨by rw [hR2.out];rfl,Qt.refl _⟩)
 have H4:=Hi (H3.out.trans (if_neg h2))
 have n3:Hid (¬ (3≤s.size∧s.size≤34∧((s.extract 0 2).toList == [48,98])=true)):=Hi (by
  rw [zb_eq];simpa using h2)
 have cc:=Hi (fun (w:World)=>r_decimal s 4294967295 hs w)
 clear H3 h2;rw [H4.out];clear H4;generalize optI (decS (bs s) 4294967295)=y at *;go_enter Tryz.func70,Tryz.ntmps70;go_wp2_with (first|(go_at_call 100;refine (cd2.out _).mono ?_;rintro e w' ⟨rfl,rfl⟩)|(go_at_call 103;refine (cc.out _).mono ?_;rintro e w' ⟨rfl,hq2⟩))
 all_goals first
  | (go_ret;exact ⟨rfl,hq2⟩)
  | (exfalso;have m2:=n2.out;have m3:=n3.out;simp_all;done)
  | (exfalso;have m2:=n2.out;have m3:=n3.out;simp_all;omega)
def isPatR:Bytes→Bool
 | []=>false
 | c::r=>c.toNat == 37 && patS r
theorem allOf_trit (l:Bytes):allOf l [48,49,120]=l.all trit:=by
 unfold allOf;congr 1;funext c;exact u8_all (p:=fun c=>([48,49,120]:Bytes).contains c) (q:=trit) (by decide +kernel) c
theorem r_isPattern (s:ByteArray)(hs:s.size≤4611686018427387904)(w:World):Calls Tryz.prog 96 #[.string s] w fun e w'=>e=.returned (.bool (isPatR (bs s)))∧Qt w w':=by
 by_cases h0:s.size=0
 ·have H:=Hi (show isPatR (bs s)=false by rw [List.length_eq_zero_iff.1 (show (bs s).length=0 from h0)];rfl)
  go_enter Tryz.func96,Tryz.ntmps96;go_wp2_with fail;go_ret;exact ⟨by rw [H.out];rfl,Qt.refl _⟩
 have hpos:0<s.size:=by omega
 have hc:bs s=s[0]::(bs s).drop 1:=by have:=bs_drop s 0 hpos;simpa using this
 have H0:=Hi (show isPatR (bs s)=(s[0].toNat == 37 && patS ((bs s).drop 1)) by rw [hc];rfl)
 have hl1:((bs s).drop 1).length=s.size-1:=by rw [List.length_drop,bs_length]
 clear hc h0
 by_cases hz:2≤s.size∧s.size≤33
 ·obtain ⟨hz1,hz2⟩:=hz
  by_cases h37:s[0].toNat=37
  ·have H:=Hi (H0.out.trans (show _=((bs s).drop 1).all trit by
    rw [h37,patS,hl1,decide_eq_true (show 0<s.size-1 by omega),decide_eq_true (show s.size-1≤32 by omega)];simp))
   have ca0:=Hi (fun w=>r_all (s.extract 1 s.size) ⟨#[48,49,120]⟩ (by have:=size_ext s 1 s.size;omega) (by decide) w)
   have ca:=Hi (show ∀ w,Calls Tryz.prog 125 #[.string (s.extract 1 s.size),.string ⟨#[48,49,120]⟩] w fun e w'=>e=.returned (.bool (((bs s).drop 1).all trit))∧Qt w w' from fun w=>by
    have:=ca0.out w;rw [bs_from s 1,show bs ⟨#[48,49,120]⟩=[48,49,120] from rfl,allOf_trit] at this;exact this)
   have b37:((s[0].toNat:Int) == 37)=true:=by rw [h37];rfl
   rw [H.out];clear H0 h37 ca0 hl1 H;generalize ((bs s).drop 1).all trit=y at *;go_enter Tryz.func96,Tryz.ntmps96;go_wp2_with (go_at_call 125;refine (ca.out _).mono ?_;rintro e w' ⟨rfl,hq⟩);go_ret;exact ⟨rfl,hq⟩
  ·have H:=Hi (H0.out.trans (show _=false by rw [show (s[0].toNat == 37)=false from by simpa using h37];rfl))
   have b37:((s[0].toNat:Int) == 37)=false:=by rw [beq_eq_false_iff_ne];omega
   clear H0 h37 hl1;go_enter Tryz.func96,Tryz.ntmps96;go_wp2_with fail;go_ret;exact ⟨by rw [H.out];rfl,Qt.refl _⟩
 ·have H:=Hi (H0.out.trans (show _=false by
   rw [patS,hl1,Bool.and_eq_false_iff];right;rw [Bool.and_eq_false_iff];right;rw [Bool.and_eq_false_iff,decide_eq_false_iff_not,decide_eq_false_iff_not];omega))
  have n1:=Hi hz;clear H0 hl1 hz;go_enter Tryz.func96,Tryz.ntmps96;go_wp2_with fail
  all_goals first
   | (go_ret;exact ⟨by rw [H.out];rfl,Qt.refl _⟩)
   | (exfalso;have:=n1.out;omega)
def isSignS (s:ByteArray):Bool:=signsB.any fun g=>decide (g=s)
def SignsR (w:World):Prop:=∀ (k:Nat) (g:ByteArray),signsB[k]?=some g→w.cell? ⟨4,k,none⟩=some (.string g)
theorem SignsR.below {w w':World}(h:SignsR w)(hb:Below w.heap.size w w'):SignsR w':=fun k g hg=>cell_below hb (h k g hg)
theorem r_isSign (s:ByteArray)(w:World)(hT:SignsR w):Calls Tryz.prog 98 #[.string s] w fun e w'=>e=.returned (.bool (isSignS s))∧w=w':=by
 have hT:=Hi hT;go_enter Tryz.func98,Tryz.ntmps98;go_wp2_with fail
 go_loopw [3] (fun a wr=>∃ k:Nat,k≤16∧a=.int .i64 k∧Hid (isSignS s=(signsB.drop k).any fun g=>decide (g=s))∧wr=w) (fun a _=>16-(intOf a).toNat)
 case atStart=>exact ⟨0,by omega,rfl,Hi rfl,rfl⟩
 case round=>
  obtain ⟨k,hk,rfl,hR,rfl⟩:=hrel
  by_cases hlt:k<16
  ·have hl:k<signsB.length:=hlt;have hc:=hT.out k signsB[k] (List.getElem?_eq_getElem hl);have hR1:=Hi (hR.out.trans (show _=(decide (signsB[k]=s) || (signsB.drop (k+1)).any fun g=>decide (g=s)) by rw [List.drop_eq_getElem_cons hl];rfl))
   clear hR;generalize signsB[k]=g at *;have kI:(k:Int)<17:=by omega
   by_cases he:g=s
   ·have hR2:=Hi (hR1.out.trans (show _=true by rw [decide_eq_true he];rfl))
    have be:(g.toList == s.toList)=true:=by rw [ba_beq];exact decide_eq_true he
    clear hR1 he hl;go_wp2_with fail;go_ret;exact ⟨by rw [hR2.out];rfl,rfl⟩
   ·have hR2:=Hi (hR1.out.trans (show _=_ by rw [decide_eq_false he,Bool.false_or]))
    have be:(g.toList == s.toList)=false:=by rw [ba_beq];exact decide_eq_false he
    clear hR1 he hl;go_wp2_with fail
    go_roundw
    case rel=>exact ⟨k+1,by omega,by go_num,hR2,by first|rfl|trivial⟩
    case measure=>simp [intOf];omega
  ·have hR2:=Hi (hR.out.trans (show _=false by rw [show k=16 by omega];rfl))
   clear hR;go_wp2_with fail;go_ret;exact ⟨by rw [hR2.out];rfl,rfl⟩
def utfI (n:Nat):List Int:=
 if n<128 then [(n:Int)] else if n<2048 then [192+(n:Int) / 64,128+(n:Int) % 64]
 else if n<65536 then [224+(n:Int) / 4096,128+(n:Int) / 64 % 64,128+(n:Int) % 64]
 else [240+(n:Int) / 262144,128+(n:Int) / 4096 % 64,128+(n:Int) / 64 % 64,128+(n:Int) % 64]
theorem conv_at {W:World}{b:Nat}(xs:List Int)(k:Nat)(hk:xs.length=k)(hW:W.heap[b]?=some (.cells (xs.map (Value.int .u8)).toArray 5 (0,0))) :
 (convert 144 9 (.slice (some ⟨b,0,none⟩) k k)).run Tryz.prog W=.ok (.string (strOfNums xs)) W:=by
 have hb:∀ i,W.cell? ⟨b,i,none⟩=(xs.map (Value.int .u8))[i]?:=fun i=>by
  rw [cell_of_row _ b i _ _ (0,0) hW];simp
 exact run_convert_bytes_arg (P:=Tryz.prog) W 144 5 Tryz.underlying144 Tryz.underlying5 b 0 k k xs hk (fun i hi=>by
  rw [Nat.zero_add,hb,List.getElem?_map,List.getElem?_eq_getElem (by omega:i<xs.length)]
  simp [List.getD,List.getElem?_eq_getElem (show i<xs.length by omega)]) 9 Tryz.underlying9
theorem conv_new (w:World)(xs:List Int)(k:Nat)(hk:xs.length=k)(W:World)(hW:W=w.alloc (.cells (xs.map (Value.int .u8)).toArray 5 (0,0))) :
 (convert 144 9 (.slice (some ⟨w.heap.size,0,none⟩) k k)).run Tryz.prog W=.ok (.string (strOfNums xs)) W:=
 conv_at xs k hk (by rw [hW];exact heap_alloc_new w _)
theorem r_utf (n:Nat)(h:n≤1114111)(w:World):Calls Tryz.prog 163 #[.int .i64 n] w fun e w'=>e=.returned (.string (strOfNums (utfI n)))∧Below w.heap.size w w':=by
 have hb:=Hi (fun o=>(Below.refl w.heap.size w).alloc (Nat.le_refl _) o)
 by_cases h1:n<128
 ·have H:=Hi (show utfI n=_ by unfold utfI;rw [if_pos h1])
  have hcv:=conv_new w [(n:Int)] 1 rfl _ rfl;simp only [List.map_cons,List.map_nil] at hcv;rw [H.out];clear H;go_enter Tryz.func163,Tryz.ntmps163;go_wp2_with fail;go_ret;exact ⟨rfl,hb.out _⟩
 by_cases h2:n<2048
 ·have H:=Hi (show utfI n=_ by unfold utfI;rw [if_neg h1,if_pos h2])
  have hcv:=conv_new w [192+(n:Int) / 64,128+(n:Int) % 64] 2 rfl _ rfl;simp only [List.map_cons,List.map_nil] at hcv;rw [H.out];clear H;go_enter Tryz.func163,Tryz.ntmps163;go_wp2_with fail;go_ret;exact ⟨rfl,hb.out _⟩
 by_cases h3:n<65536
 ·have H:=Hi (show utfI n=_ by unfold utfI;rw [if_neg h1,if_neg h2,if_pos h3])
  obtain ⟨a,ha⟩:∃ a:Int,(n:Int) / 4096=a:=⟨_,rfl⟩
  obtain ⟨b,hb1⟩:∃ b:Int,(n:Int) / 64=b:=⟨_,rfl⟩
  obtain ⟨c,hc⟩:∃ c:Int,b % 64=c:=⟨_,rfl⟩
  obtain ⟨d,hd⟩:∃ d:Int,(n:Int) % 64=d:=⟨_,rfl⟩
  have l1:0≤a∧a≤15:=by omega
  have l2:0≤c∧c<64:=by omega
  have l3:0≤d∧d<64:=by omega
  have l4:0≤b:=by omega
  obtain ⟨l1,l1'⟩:=l1;obtain ⟨l2,l2'⟩:=l2;obtain ⟨l3,l3'⟩:=l3;have hcv:=conv_new w [224+a,128+c,128+d] 3 rfl _ rfl;simp only [List.map_cons,List.map_nil] at hcv;rw [H.out,ha,hb1,hc,hd];have b1:¬ (n:Int)<128:=by omega
  have b2:¬ (n:Int)<2048:=by omega
  have b3:(n:Int)<65536:=by omega
  clear H h1 h2 h3 h;go_enter Tryz.func163,Tryz.ntmps163;go_wp2_with fail;go_ret;exact ⟨rfl,hb.out _⟩
 ·have H:=Hi (show utfI n=_ by unfold utfI;rw [if_neg h1,if_neg h2,if_neg h3])
  obtain ⟨x,hx⟩:∃ x:Int,(n:Int) / 262144=x:=⟨_,rfl⟩
  obtain ⟨a,ha⟩:∃ a:Int,(n:Int) / 4096=a:=⟨_,rfl⟩
  obtain ⟨e,he⟩:∃ e:Int,a % 64=e:=⟨_,rfl⟩
  obtain ⟨b,hb1⟩:∃ b:Int,(n:Int) / 64=b:=⟨_,rfl⟩
  obtain ⟨c,hc⟩:∃ c:Int,b % 64=c:=⟨_,rfl⟩
  obtain ⟨d,hd⟩:∃ d:Int,(n:Int) % 64=d:=⟨_,rfl⟩
  have l0:0≤x∧x≤4:=by omega
  have l1:0≤e∧e<64:=by omega
  have l2:0≤c∧c<64:=by omega
  have l3:0≤d∧d<64:=by omega
  have l4:0≤b:=by omega
  have l5:0≤a:=by omega
  obtain ⟨l0,l0'⟩:=l0;obtain ⟨l1,l1'⟩:=l1;obtain ⟨l2,l2'⟩:=l2;obtain ⟨l3,l3'⟩:=l3;have hcv:=conv_new w [240+x,128+e,128+c,128+d] 4 rfl _ rfl;simp only [List.map_cons,List.map_nil] at hcv;rw [H.out,hx,ha,he,hb1,hc,hd];have b1:¬ (n:Int)<128:=by omega
  have b2:¬ (n:Int)<2048:=by omega
  have b3:¬ (n:Int)<65536:=by omega
  clear H h1 h2 h3 h;go_enter Tryz.func163,Tryz.ntmps163;go_wp2_with fail;go_ret;exact ⟨rfl,hb.out _⟩
def hexRun:Nat→Nat→Bytes→Nat×Nat
 | 0,n,_=>(0,n)
 | _+1,n,[]=>(0,n)
 | k+1,n,c::r=>if hexI c.toNat<0 then (0,n) else ((hexRun k (16*n+(hexI c.toNat).toNat) r).1+1,(hexRun k (16*n+(hexI c.toNat).toNat) r).2)
def bracedR (s:ByteArray)(i:Nat):Nat×Nat:=
 if (bs s)[i+2]?≠some 123 then (0,0) else
 if (hexRun 6 0 ((bs s).drop (i+3))).1=0∨(bs s)[i+3+(hexRun 6 0 ((bs s).drop (i+3))).1]?≠some 125∨1114111<(hexRun 6 0 ((bs s).drop (i+3))).2∨(55296≤(hexRun 6 0 ((bs s).drop (i+3))).2∧(hexRun 6 0 ((bs s).drop (i+3))).2≤57343) then (0,0)
 else ((hexRun 6 0 ((bs s).drop (i+3))).1+4,(hexRun 6 0 ((bs s).drop (i+3))).2)
theorem nn_ret {x:Nat×Nat}{a b:Int}(h:(x.1:Int)=a∧(x.2:Int)=b):Ending.returned (.tuple #[.int .i64 a,.int .i64 b])=Ending.returned (.tuple #[.int .i64 (x.1:Nat),.int .i64 (x.2:Nat)]):=by
 rw [← h.1,← h.2]
theorem bs_none (s:ByteArray)(i:Nat)(h:¬ i<s.size):(bs s)[i]?=none:=List.getElem?_eq_none (by rw [bs_length];omega)
theorem byte_eq (s:ByteArray)(i:Nat)(h:i<s.size)(c:UInt8):(bs s)[i]?≠some c↔s[i].toNat≠c.toNat:=by
 rw [bs_get s i h]
 simp [← UInt8.toNat_inj]
theorem r_braced (s:ByteArray)(i:Nat)(hi:i<s.size)(hs:s.size≤4611686018427387000)(w:World):Calls Tryz.prog 162 #[.string s,.int .i64 i] w fun e w'=>e=.returned (.tuple #[.int .i64 ((bracedR s i).1:Nat),.int .i64 ((bracedR s i).2:Nat)])∧w=w':=by
 have ch:=Hi (fun (m:Nat) (hm:m<s.size) (w:World)=>r_hex s[m].toNat (UInt8.toNat_lt _) w)
 by_cases h0:i+2<s.size
 ·by_cases h1:s[i+2].toNat=123
  ·have H:=Hi (show bracedR s i=_ by unfold bracedR;rw [if_neg (by rw [byte_eq s _ h0];simpa using h1)])
   have b1:((s[i+2].toNat:Int) != 123)=false:=by rw [h1];rfl
   have b0:¬ ((i:Int)+3>(s.size:Int)):=by omega
   clear h1;go_enter Tryz.func162,Tryz.ntmps162;go_upto_region 5 with fail
   go_loopw [6,7] (fun x a wr=>∃ (k n:Nat),k≤6∧i+3+k≤s.size∧x=.int .i64 n∧a=.int .i64 ((i+3+k:Nat):Int)∧n<16 ^ k∧Hid (hexRun 6 0 ((bs s).drop (i+3))=((hexRun (6-k) n ((bs s).drop (i+3+k))).1+k,(hexRun (6-k) n ((bs s).drop (i+3+k))).2))∧wr=w) (fun _ a _=>i+9-(intOf a).toNat)
   case atStart=>exact ⟨0,0,by omega,by omega,rfl,by go_num,by decide,Hi rfl,rfl⟩
   case round=>
    obtain ⟨k,n,hk,hks,rfl,rfl,hn,hR,rfl⟩:=hrel;have hn6:n<16777216:=Nat.lt_of_lt_of_le hn (Nat.le_trans (Nat.pow_le_pow_right (by decide) hk) (by decide))
    by_cases hlt:i+3+k<s.size
    ·have c1:=Hi (ch.out _ hlt);have hdr:=bs_drop s _ hlt
     by_cases hgo:0≤hexI s[i+3+k].toNat∧k<6
     ·obtain ⟨hg0,hk6⟩:=hgo;have hrng:hexI s[i+3+k].toNat≤15:=by rcases hexI_rng s[i+3+k].toNat with h|h<;>omega
      have hR2:=Hi (hR.out.trans (show _=((hexRun (6-(k+1)) (16*n+(hexI s[i+3+k].toNat).toNat) ((bs s).drop (i+3+(k+1)))).1+(k+1),(hexRun (6-(k+1)) (16*n+(hexI s[i+3+k].toNat).toNat) ((bs s).drop (i+3+(k+1)))).2) by
       rw [hdr,show 6-k=(6-(k+1))+1 by omega,hexRun,if_neg (by omega)];simp only [show i+3+(k+1)=i+3+k+1 by omega];rw [Prod.mk.injEq];exact ⟨by omega,rfl⟩))
      clear hR hdr ch;generalize hexI s[i+3+k].toNat=z at *;obtain ⟨x,rfl⟩:∃ x:Nat,z=x:=⟨z.toNat,by omega⟩
      have hp:=pow_step 16 n _ x hn (by omega)
      have bx:(x:Int)≥0:=by omega
      have bk:((i+3+k:Nat):Int)<(i:Int)+9:=by omega
      have hx:=Int.toNat_natCast x;go_wp2_with (go_at_call 102;refine (c1.out _).mono ?_;rintro e w' ⟨rfl,rfl⟩)
      go_roundw
      case rel=>exact ⟨k+1,16*n+x,by omega,by omega,by go_num,by go_num,by rw [Nat.pow_succ];exact hp,hR2,by first|rfl|trivial⟩
      case measure=>simp [intOf];omega
     ·have hq:hexRun 6 0 ((bs s).drop (i+3))=(k,n):=hR.out.trans (by
       rw [hdr]
       by_cases hk6:k=6
       ·subst hk6;rfl
       ·rw [show 6-k=(6-(k+1))+1 by omega,hexRun,if_pos (by omega)];simp)
      have hB:=Hi (H.out.trans (show _=if k=0∨s[i+3+k].toNat≠125∨1114111<n∨(55296≤n∧n≤57343) then (0,0) else (k+4,n) by
       rw [hq];simp only [byte_eq s _ hlt];rfl))
      have hgo2:hexI s[i+3+k].toNat<0∨(hexI s[i+3+k].toNat≥0∧¬ (((i+3+k:Nat):Int)<(i:Int)+9)):=by omega
      clear hR hdr ch H hq hn hgo;generalize hexI s[i+3+k].toNat=z at *;rcases hgo2 with b5|⟨b5,b6⟩
      all_goals (
       go_wp2_with (go_at_call 102;refine (c1.out _).mono ?_;rintro e w' ⟨rfl,rfl⟩)
       all_goals (go_ret2;refine ⟨nn_ret ?_,rfl⟩;rw [hB.out])
       all_goals (split<;>first|exact ⟨rfl,rfl⟩|(exfalso;omega)|(exfalso;simp only [beq_iff_eq] at *;omega)|exact ⟨by simp;omega,rfl⟩|exact ⟨by simp;omega,by simp⟩))
    ·have hq:hexRun 6 0 ((bs s).drop (i+3))=(k,n):=hR.out.trans (by
      rw [bs_drop_end s _ hlt]
      cases 6-k<;>simp [hexRun])
     have hB:=Hi (H.out.trans (show _=(0,0) by
      rw [hq];rw [if_pos];exact .inr (.inl (by rw [bs_none s _ hlt];simp))))
     clear hR H hq hn ch;go_wp2_with fail
     all_goals (go_ret2;refine ⟨nn_ret ?_,rfl⟩;rw [hB.out];exact ⟨rfl,rfl⟩)
  ·have H:=Hi (show bracedR s i=(0,0) by unfold bracedR;rw [if_pos (by rw [byte_eq s _ h0];simpa using h1)])
   have b1:((s[i+2].toNat:Int) != 123)=true:=by simp;omega
   have b0:¬ ((i:Int)+3>(s.size:Int)):=by omega
   clear h1 ch;go_enter Tryz.func162,Tryz.ntmps162;go_wp2_with fail
   all_goals (go_ret2;refine ⟨nn_ret ?_,rfl⟩;rw [H.out];exact ⟨rfl,rfl⟩)
 ·have H:=Hi (show bracedR s i=(0,0) by unfold bracedR;rw [if_pos (by rw [bs_none s _ h0];simp)])
  have b0:(i:Int)+3>(s.size:Int):=by omega
  clear h0 ch;go_enter Tryz.func162,Tryz.ntmps162;go_wp2_with fail
  all_goals (go_ret2;refine ⟨nn_ret ?_,rfl⟩;rw [H.out];exact ⟨rfl,rfl⟩)
def escX (s:ByteArray)(i:Nat):Nat×List Int:=
 match (bs s)[i+2]?,(bs s)[i+3]? with
 | some x,some y=>if 0≤hexI x.toNat∧0≤hexI y.toNat then (4,[16*hexI x.toNat+hexI y.toNat]) else (0,[])
 | _,_=>(0,[])
def escC (s:ByteArray)(i b:Nat):Nat×List Int:=
 if b=34 then (2,[34]) else if b=92 then (2,[92]) else if b=110 then (2,[10]) else if b=114 then (2,[13]) else if b=116 then (2,[9])
 else if b=120 then escX s i else if b=117 then (if 0<(bracedR s i).1 then ((bracedR s i).1,utfI (bracedR s i).2) else (0,[]))
 else (0,[])
def escR (s:ByteArray)(i:Nat):Nat×List Int:=match (bs s)[i+1]? with
 | none=>(0,[])
 | some b=>escC s i b.toNat
theorem ns_ret {x:Nat×List Int}{a:Int}{t:ByteArray}(h:(x.1:Int)=a∧strOfNums x.2=t):Ending.returned (.tuple #[.int .i64 a,.string t])=Ending.returned (.tuple #[.int .i64 (x.1:Nat),.string (strOfNums x.2)]):=by
 rw [← h.1,← h.2]
theorem bracedR_le (s:ByteArray)(i:Nat):(bracedR s i).2≤1114111:=by
 unfold bracedR
 split
 ·exact Nat.zero_le _
 ·split
  ·exact Nat.zero_le _
  ·rename_i h;simp only [not_or] at h;omega
theorem r_escape_x (s:ByteArray)(i:Nat)(h3:i+3<s.size)(hs:s.size≤4611686018427387000)(w:World)(h120:s[i+1].toNat=120)(x y:Int)(hx:hexI s[i+2].toNat=x)(hy:hexI s[i+3].toNat=y)(x0:0≤x)(y0:0≤y) :
 Calls Tryz.prog 126 #[.string s,.int .i64 i] w fun e w'=>e=.returned (.tuple #[.int .i64 4,.string (strOfNums [16*x+y])])∧Below w.heap.size w w':=by
 have ch:=Hi (fun (n:Nat) (hn:n<256) (w:World)=>r_hex n hn w)
 have x15:x≤15:=by rcases hexI_rng s[i+2].toNat with h|h<;>omega
 have y15:y≤15:=by rcases hexI_rng s[i+3].toNat with h|h<;>omega
 have b0:¬ ((i:Int)+1≥(s.size:Int)):=by omega
 have e1:((s[i+1].toNat:Int) == 34)=false:=by rw [h120];rfl
 have e2:((s[i+1].toNat:Int) == 92)=false:=by rw [h120];rfl
 have e3:((s[i+1].toNat:Int) == 110)=false:=by rw [h120];rfl
 have e4:((s[i+1].toNat:Int) == 114)=false:=by rw [h120];rfl
 have e5:((s[i+1].toNat:Int) == 116)=false:=by rw [h120];rfl
 have e6:((s[i+1].toNat:Int) == 120)=true:=by rw [h120];rfl
 clear h120;have b3:(i:Int)+3<(s.size:Int):=by omega
 have bx:x≥0:=x0;have bY:y≥0:=y0;go_enter Tryz.func126,Tryz.ntmps126;go_upto_region 16 with (go_at_call 102;refine (ch.out _ (UInt8.toNat_lt _) _).mono ?_;rintro e w' ⟨rfl,rfl⟩);have wu:IntKind.u8.wrap (16*x+y)=16*x+y:=u8w _ (by omega)
 have w2:IntKind.i64.wrap ((i:Int)+2)=(i:Int)+2:=by rw [IntKind.wrap_i64]<;>omega
 have w3:IntKind.i64.wrap ((i:Int)+3)=(i:Int)+3:=by rw [IntKind.wrap_i64]<;>omega
 have w4:IntKind.i64.wrap (16*x)=16*x:=by rw [IntKind.wrap_i64]<;>omega
 have w5:IntKind.i64.wrap (16*x+y)=16*x+y:=by rw [IntKind.wrap_i64]<;>omega
 have t2:((i:Int)+2).toNat=i+2:=by omega
 have t3:((i:Int)+3).toNat=i+3:=by omega
 have hcv:(convert 144 9 (.slice (some ⟨w.heap.size,0,none⟩) 1 1)).run Tryz.prog (w.alloc (.cells #[.int .u8 (16*x+y)] 5 (0,0))).drew=.ok (.string (strOfNums [16*x+y])) (w.alloc (.cells #[.int .u8 (16*x+y)] 5 (0,0))).drew:=
  conv_at [16*x+y] 1 rfl (heap_alloc_new w _)
 go_region_law (go_simp;go_at_call 102;refine (ch.out _ (UInt8.toNat_lt _) _).mono ?_;rintro e wz ⟨rfl,rfl⟩;go_wp2_with fail)
 all_goals (
  go_wp2_with fail;go_ret2;exact ⟨rfl,((Below.refl _ _).alloc (Nat.le_refl _) _).drew⟩)
theorem r_escape (s:ByteArray)(i:Nat)(hi:i<s.size)(hs:s.size≤4611686018427387000)(w:World):Calls Tryz.prog 126 #[.string s,.int .i64 i] w fun e w'=>e=.returned (.tuple #[.int .i64 ((escR s i).1:Nat),.string (strOfNums (escR s i).2)])∧Below w.heap.size w w':=by
 by_cases h1:i+1<s.size
 ·have H:=Hi (show escR s i=escC s i s[i+1].toNat by unfold escR;rw [bs_get s _ h1])
  have b0:¬ ((i:Int)+1≥(s.size:Int)):=by omega
  by_cases h120:s[i+1].toNat=120
  ·have H1:=Hi (H.out.trans (show _=escX s i by rw [h120];rfl))
   have zero:∀ (hz:Hid (escX s i=(0,[]))) (hx:∀ (h:i+3<s.size),hexI (s[i+2]'(by omega)).toNat<0∨(0≤hexI (s[i+2]'(by omega)).toNat∧hexI s[i+3].toNat<0)),Calls Tryz.prog 126 #[.string s,.int .i64 i] w fun e w'=>e=.returned (.tuple #[.int .i64 ((escR s i).1:Nat),.string (strOfNums (escR s i).2)])∧Below w.heap.size w w':=by
    intro hz hx;have H2:=Hi (H1.out.trans hz.out);have ch:=Hi (fun (n:Nat) (hn:n<256) (w:World)=>r_hex n hn w)
    have e1:((s[i+1].toNat:Int) == 34)=false:=by rw [h120];rfl
    have e2:((s[i+1].toNat:Int) == 92)=false:=by rw [h120];rfl
    have e3:((s[i+1].toNat:Int) == 110)=false:=by rw [h120];rfl
    have e4:((s[i+1].toNat:Int) == 114)=false:=by rw [h120];rfl
    have e5:((s[i+1].toNat:Int) == 116)=false:=by rw [h120];rfl
    have e6:((s[i+1].toNat:Int) == 120)=true:=by rw [h120];rfl
    clear H H1 hz h120
    by_cases h3:i+3<s.size
    ·have b3:(i:Int)+3<(s.size:Int):=by omega
     rcases hx h3 with hx|⟨hx,hy⟩
     ·obtain ⟨x,hxx⟩:∃ x,hexI s[i+2].toNat=x:=⟨_,rfl⟩
      have bx:¬ x≥0:=by omega
      clear hx;go_enter Tryz.func126,Tryz.ntmps126;go_wp2_with (go_at_call 102;refine (ch.out _ (UInt8.toNat_lt _) _).mono ?_;rintro e w' ⟨rfl,rfl⟩);go_ret2;exact ⟨ns_ret (by rw [H2.out];exact ⟨rfl,rfl⟩),Below.refl _ _⟩
     ·obtain ⟨x,hxx⟩:∃ x,hexI s[i+2].toNat=x:=⟨_,rfl⟩
      obtain ⟨y,hyy⟩:∃ y,hexI s[i+3].toNat=y:=⟨_,rfl⟩
      have bx:x≥0:=by omega
      have bY:¬ y≥0:=by omega
      clear hx hy;go_enter Tryz.func126,Tryz.ntmps126;go_wp2_with (go_at_call 102;refine (ch.out _ (UInt8.toNat_lt _) _).mono ?_;rintro e w' ⟨rfl,rfl⟩);go_ret2;exact ⟨ns_ret (by rw [H2.out];exact ⟨rfl,rfl⟩),Below.refl _ _⟩
    ·have b3:¬ (i:Int)+3<(s.size:Int):=by omega
     clear hx;go_enter Tryz.func126,Tryz.ntmps126;go_wp2_with fail;go_ret2;exact ⟨ns_ret (by rw [H2.out];exact ⟨rfl,rfl⟩),Below.refl _ _⟩
   by_cases h3:i+3<s.size
   ·have hX:=Hi (show escX s i=if 0≤hexI s[i+2].toNat∧0≤hexI s[i+3].toNat then (4,[16*hexI s[i+2].toNat+hexI s[i+3].toNat]) else (0,[]) by unfold escX;rw [bs_get s (i+2) (by omega),bs_get s _ h3])
    by_cases hc:0≤hexI s[i+2].toNat∧0≤hexI s[i+3].toNat
    ·have H2:=Hi (H1.out.trans (hX.out.trans (if_pos hc)));refine (r_escape_x s i h3 hs w h120 _ _ rfl rfl hc.1 hc.2).mono fun e w' h=>⟨?_,h.2⟩
     rw [h.1,H2.out]
     rfl
    ·exact zero (Hi (hX.out.trans (if_neg hc))) fun _=>by
      by_cases h0:0≤hexI s[i+2].toNat
      ·exact .inr ⟨h0,by by_cases h9:0≤hexI s[i+3].toNat;exact absurd ⟨h0,h9⟩ hc;omega⟩
      ·exact .inl (by omega)
   ·exact zero (Hi (by unfold escX;rw [bs_none s _ h3];cases (bs s)[i+2]?<;>rfl)) fun h=>absurd h h3
  by_cases h117:s[i+1].toNat=117
  ·have H1:=Hi (H.out.trans (show _=if 0<(bracedR s i).1 then ((bracedR s i).1,utfI (bracedR s i).2) else (0,[]) by rw [h117];rfl))
   have e1:((s[i+1].toNat:Int) == 34)=false:=by rw [h117];rfl
   have e2:((s[i+1].toNat:Int) == 92)=false:=by rw [h117];rfl
   have e3:((s[i+1].toNat:Int) == 110)=false:=by rw [h117];rfl
   have e4:((s[i+1].toNat:Int) == 114)=false:=by rw [h117];rfl
   have e5:((s[i+1].toNat:Int) == 116)=false:=by rw [h117];rfl
   have e6:((s[i+1].toNat:Int) == 120)=false:=by rw [h117];rfl
   have e7:((s[i+1].toNat:Int) == 117)=true:=by rw [h117];rfl
   have cb:=Hi (r_braced s i hi hs w);have hle:=bracedR_le s i;have cu:=Hi (fun w=>r_utf (bracedR s i).2 hle w)
   clear H h120 h117
   by_cases hp:0<(bracedR s i).1
   ·have H2:=Hi (H1.out.trans (if_pos hp));have bp:((bracedR s i).1:Int)>0:=by omega
    rw [H2.out];clear H1 H2 hp;generalize bracedR s i=q at *;obtain ⟨k,n⟩:=q;dsimp only at *;go_enter Tryz.func126,Tryz.ntmps126;go_wp2_with (first|(go_at_call 162;refine cb.out.mono ?_;rintro e w' ⟨rfl,rfl⟩)|(go_at_call 163;refine (cu.out _).mono ?_;rintro e w' ⟨rfl,hb⟩))
    go_ret2;exact ⟨rfl,hb⟩
   ·have H2:=Hi (H1.out.trans (if_neg hp));have bp:¬ ((bracedR s i).1:Int)>0:=by omega
    rw [H2.out];clear H1 H2 hp cu;generalize bracedR s i=q at *;obtain ⟨k,n⟩:=q;dsimp only at *;go_enter Tryz.func126,Tryz.ntmps126;go_wp2_with (go_at_call 162;refine cb.out.mono ?_;rintro e w' ⟨rfl,rfl⟩);go_ret2;exact ⟨rfl,Below.refl _ _⟩
  have e6:((s[i+1].toNat:Int) == 120)=false:=by rw [beq_eq_false_iff_ne];omega
  have e7:((s[i+1].toNat:Int) == 117)=false:=by rw [beq_eq_false_iff_ne];omega
  have nx:=Hi h120;have nu:=Hi h117;clear h120 h117;generalize hc:s[i+1].toNat=c at *;have hc:=Hi hc;go_enter Tryz.func126,Tryz.ntmps126;go_wp2_with fail
  all_goals (go_ret2;refine ⟨ns_ret ?_,Below.refl _ _⟩;rw [H.out];have m1:=nx.out;have m2:=nu.out;unfold escC)
  all_goals ((repeat' split)<;>first|exact ⟨rfl,rfl⟩|(exfalso;omega)|exact ⟨rfl,by decide⟩|(exfalso;simp_all;done)|(exfalso;simp_all;omega))
 ·have H:=Hi (show escR s i=(0,[]) by unfold escR;rw [bs_none s _ h1])
  have b0:(i:Int)+1≥(s.size:Int):=by omega
  clear h1;go_enter Tryz.func126,Tryz.ntmps126;go_wp2_with fail;go_ret2;exact ⟨ns_ret (by rw [H.out];exact ⟨rfl,rfl⟩),Below.refl _ _⟩
theorem below_sz {w w1 w2:World}(h1:Below w.heap.size w w1)(h2:Below w1.heap.size w1 w2):Below w.heap.size w w2:=h1.trans (h2.mono h1.size)
theorem withinS_lt {s:ByteArray}{i lo hi:Nat}(h:withinS s i lo hi=true):i<s.size:=by
 by_cases hi':i<s.size
 ·exact hi'
 ·rw [withinS_out s i lo hi hi'] at h;cases h
theorem sizeS_le (s:ByteArray)(i:Nat)(hi:i<s.size):i+(sizeS s i).1≤s.size:=by
 unfold sizeS;rw [bs_get s i hi];dsimp only
 repeat' split
 all_goals first
  | (dsimp only;omega)
  | (rename_i h;simp only [Bool.and_eq_true] at h;have:=withinS_lt h.2;dsimp only;omega)
theorem hexRun_le:∀ (k n:Nat)(l:Bytes),(hexRun k n l).1≤k
 | 0,_,_=>Nat.le_refl _
 | _+1,_,[]=>Nat.zero_le _
 | k+1,n,c::r=>by
   unfold hexRun
   split
   ·exact Nat.zero_le _
   ·exact Nat.succ_le_succ (hexRun_le k _ r)
theorem bracedR_len (s:ByteArray)(i:Nat):(bracedR s i).1≤10:=by
 unfold bracedR;have:=hexRun_le 6 0 ((bs s).drop (i+3))
 repeat' split
 all_goals (dsimp only;omega)
theorem escR_len (s:ByteArray)(i:Nat):(escR s i).1≤10:=by
 have:=bracedR_len s i;unfold escR escC escX
 repeat' split
 all_goals (dsimp only;omega)
theorem utfI_len (n:Nat):(utfI n).length≤4:=by
 unfold utfI;repeat' split
 all_goals simp
theorem escR_bytes (s:ByteArray)(i:Nat):(strOfNums (escR s i).2).size≤4:=by
 have h:(escR s i).2.length≤4:=by
  have:=utfI_len (bracedR s i).2;unfold escR escC escX
  repeat' split
  all_goals first|exact this|(dsimp only [List.length_cons,List.length_nil];omega)
 simpa [strOfNums,ByteArray.size] using h
def insR (s:ByteArray):Nat→Nat→ByteArray→ByteArray×Nat×Int
 | 0,_,_=>(⟨#[]⟩,s.size,32)
 | f+1,j,said=>
   if h:j<s.size then
    if s[j].toNat=34 then (said,j+1,0)
    else if s[j].toNat=92 then (if (escR s j).1=0 then (⟨#[]⟩,j,34) else insR s f (j+(escR s j).1) (said++strOfNums (escR s j).2))
    else if (sizeS s j).2=true∨s[j].toNat<32∨s[j].toNat=127 then (⟨#[]⟩,j,33)
    else insR s f (j+(sizeS s j).1) (said++s.extract j (j+(sizeS s j).1))
   else (⟨#[]⟩,s.size,32)
theorem ins_ret {x:ByteArray×Nat×Int}{t:ByteArray}{a b:Int}(h:x.1=t∧(x.2.1:Int)=a∧x.2.2=b):Ending.returned (.tuple #[.string t,.int .i64 a,.int .i64 b])=Ending.returned (.tuple #[.string x.1,.int .i64 (x.2.1:Nat),.int .i64 x.2.2]):=by
 rw [← h.1,← h.2.1,← h.2.2]
theorem r_inside (s:ByteArray)(i:Nat)(hi:i<s.size)(hs:s.size≤1000000000000)(w:World):Calls Tryz.prog 97 #[.string s,.int .i64 i] w fun e w'=>e=.returned (.tuple #[.string (insR s (s.size+1) (i+1) ⟨#[]⟩).1,.int .i64 ((insR s (s.size+1) (i+1) ⟨#[]⟩).2.1:Nat),.int .i64 (insR s (s.size+1) (i+1) ⟨#[]⟩).2.2])∧Below w.heap.size w w':=by
 have ce:=Hi (fun (k:Nat) (hk:k<s.size) (w:World)=>r_escape s k hk (by omega) w)
 have cz:=Hi (fun (k:Nat) (hk:k<s.size) (w:World)=>r_size s k hk (by omega) w)
 obtain ⟨R,hR0⟩:∃ R,R=insR s (s.size+1) (i+1) ⟨#[]⟩:=⟨_,rfl⟩
 rw [← hR0];have hR0:=Hi hR0;go_enter Tryz.func97,Tryz.ntmps97;go_wp2_with fail
 go_loopw [7,8] (fun t a wr=>∃ (said:ByteArray) (j f:Nat),t=.string said∧a=.int .i64 j∧j≤s.size+10∧s.size<j+f∧said.size≤4*j∧Hid (R=insR s f j said)∧Hid (Below w.heap.size w wr)) (fun _ a _=>s.size+16-(intOf a).toNat)
 case atStart=>exact ⟨⟨#[]⟩,i+1,s.size+1,rfl,by go_num,by omega,by omega,Nat.zero_le _,hR0,Hi (Below.refl _ _)⟩
 case round=>
  obtain ⟨said,j,f,rfl,rfl,hj,hf,hsd,hR,hb⟩:=hrel;clear hR0;obtain ⟨wq,rfl⟩:∃ wq,wq=wr:=⟨_,rfl⟩
  by_cases hlt:j<s.size
  ·obtain ⟨f,rfl⟩:∃ g,f=g+1:=⟨f-1,by omega⟩
   have hR1:=Hi (hR.out.trans (show _=(if s[j].toNat=34 then (said,j+1,0)
    else if s[j].toNat=92 then (if (escR s j).1=0 then (⟨#[]⟩,j,34) else insR s f (j+(escR s j).1) (said++strOfNums (escR s j).2))
    else if (sizeS s j).2=true∨s[j].toNat<32∨s[j].toNat=127 then (⟨#[]⟩,j,33)
    else insR s f (j+(sizeS s j).1) (said++s.extract j (j+(sizeS s j).1))) by rw [insR,dif_pos hlt]))
   clear hR
   by_cases h34:s[j].toNat=34
   ·have hR2:=Hi (hR1.out.trans (if_pos h34));have b34:((s[j].toNat:Int) != 34)=false:=by rw [h34];rfl
    clear hR1 h34;go_wp2_with fail
    go_ret3
    exact ⟨ins_ret (by rw [hR2.out];exact ⟨rfl,by simp,rfl⟩),hb.out⟩
   ·have b34:((s[j].toNat:Int) != 34)=true:=by simp;omega
    by_cases h92:s[j].toNat=92
    ·have b92:((s[j].toNat:Int) == 92)=true:=by rw [h92];rfl
     have hR2:=Hi (hR1.out.trans ((if_neg h34).trans (if_pos h92)));have c1:=Hi (ce.out j hlt);have hl:=escR_len s j;have hl4:=escR_bytes s j;clear hR1 h34 h92;generalize escR s j=q at *;obtain ⟨k,l⟩:=q;dsimp only at *
     by_cases hk:k=0
     ·have hR3:=Hi (hR2.out.trans (if_pos hk));have bk:((k:Int) == 0)=true:=by rw [hk];rfl
      clear hR2 hk;go_wp2_with (go_at_call 126;refine (c1.out _).mono ?_;rintro e w' ⟨rfl,hb2⟩)
      go_ret3
      exact ⟨ins_ret (by rw [hR3.out];exact ⟨rfl,rfl,rfl⟩),below_sz hb.out hb2⟩
     ·have hR3:=Hi (hR2.out.trans (if_neg hk));have bk:((k:Int) == 0)=false:=by simp;omega
      have hz9:said.size+(strOfNums l).size≤9223372036854775807:=by omega
      clear hR2;go_wp2_with (go_at_call 126;refine (c1.out _).mono ?_;rintro e w' ⟨rfl,hb2⟩);refine ⟨⟨said++strOfNums l,j+k,f,rfl,by go_num,by omega,by omega,by rw [ByteArray.size_append];omega,hR3,Hi (below_sz hb.out hb2)⟩,?_⟩
      simp [intOf];omega
    ·have b92:((s[j].toNat:Int) == 92)=false:=by rw [beq_eq_false_iff_ne];omega
     have hR2:=Hi (hR1.out.trans ((if_neg h34).trans (if_neg h92)));have c1:=Hi (cz.out j hlt);have hz1:=(sizeS_pos s j).1;have hz4:=(sizeS_pos s j).2;have hz2:=sizeS_le s j hlt;clear hR1 h34 h92;generalize sizeS s j=q at *;obtain ⟨k,l⟩:=q;dsimp only at *
     by_cases hbad:l=true∨s[j].toNat<32∨s[j].toNat=127
     ·have hR3:=Hi (hR2.out.trans (if_pos hbad))
      have b3:l=true∨(l=false∧(s[j].toNat:Int)<32)∨(l=false∧¬ (s[j].toNat:Int)<32∧((s[j].toNat:Int) == 127)=true):=by
       cases l
       ·rcases hbad with h|h|h
        ·cases h
        ·exact .inr (.inl ⟨rfl,by omega⟩)
        ·exact .inr (.inr ⟨rfl,by omega,by rw [h];rfl⟩)
       ·exact .inl rfl
      clear hR2 hbad;rcases b3 with rfl|⟨rfl,b32⟩|⟨rfl,b32,b127⟩
      all_goals (
       go_wp2_with (go_at_call 99;refine (c1.out _).mono ?_;rintro e w' ⟨rfl,rfl⟩)
       go_ret3
       exact ⟨ins_ret (by rw [hR3.out];exact ⟨rfl,rfl,rfl⟩),hb.out⟩)
     ·have hR3:=Hi (hR2.out.trans (if_neg hbad));have hl:l=false:=by cases l;rfl;exact absurd (.inl rfl) hbad
      subst hl;have b32:¬ (s[j].toNat:Int)<32:=by intro h;exact hbad (.inr (.inl (by omega)))
      have b127:((s[j].toNat:Int) == 127)=false:=by rw [beq_eq_false_iff_ne];intro h;exact hbad (.inr (.inr (by omega)))
      have hx4:(s.extract j (j+k)).size≤4:=by simp [ByteArray.size_extract];omega
      have hz9:said.size+k≤9223372036854775807:=by omega
      clear hR2 hbad;go_wp2_with (go_at_call 99;refine (c1.out _).mono ?_;rintro e w' ⟨rfl,rfl⟩);refine ⟨⟨said++s.extract j (j+k),j+k,f,rfl,by go_num,by omega,by omega,by rw [ByteArray.size_append];omega,hR3,hb⟩,?_⟩
      simp [intOf];omega
  ·have hR2:=Hi (hR.out.trans (show _=(⟨#[]⟩,s.size,32) by
    cases f with
    | zero=>rfl
    | succ f=>rw [insR,dif_neg hlt]))
   clear hR;go_wp2_with fail
   go_ret3
   exact ⟨ins_ret (by rw [hR2.out];exact ⟨rfl,rfl,rfl⟩),hb.out⟩
def wordN (n:Nat):Bool:=letterN n || digitN n
theorem runE_le (s:ByteArray)(i:Nat)(hi:i≤s.size):i≤runE s i∧runE s i≤s.size:=by
 have:=wordLen_le ((bs s).drop i);rw [List.length_drop,bs_length] at this;unfold runE;omega
theorem runE_in (s:ByteArray)(i:Nat)(h:i<s.size)(hw:wordN s[i].toNat=true):i<runE s i:=by
 unfold runE;rw [bs_drop s i h,wordLen,if_pos (show wordU s[i]=true from hw)];omega
def numE (s:ByteArray)(i:Nat):Nat:=i+numLen ((bs s).drop i)
theorem numE_le (s:ByteArray)(i:Nat)(hi:i≤s.size):i≤numE s i∧numE s i≤s.size:=by
 have:=numLen_le ((bs s).drop i);rw [List.length_drop,bs_length] at this;unfold numE;omega
def dotted (s:ByteArray)(j:Nat):Bool:=match (bs s)[j]?,(bs s)[j+1]? with
 | some a,some b=>a.toNat == 46 && letterN b.toNat
 | _,_=>false
def tokNameJ (s:ByteArray)(i j:Nat):Int×Nat×Int:=
 if 24<j-i then (0,i,36) else if dotted s j=false then (2,j,0)
 else if 24<runE s (j+1)-j-1 then (0,i,36) else (3,runE s (j+1),0)
def tokName (s:ByteArray)(i:Nat):Int×Nat×Int:=tokNameJ s i (runE s i)
def tokNum (s:ByteArray)(i:Nat):Int×Nat×Int:=
 if (numR (s.extract i (numE s i))).isSome=true then (4,numE s i,0) else (0,i,31)
def tokPat (s:ByteArray)(i:Nat):Int×Nat×Int:=
 if isPatR (bs (s.extract i (runE s (i+1))))=true then (5,runE s (i+1),0) else (0,i,44)
def tokQuo (s:ByteArray)(i:Nat):Int×Nat×Int:=
 if (insR s (s.size+1) (i+1) ⟨#[]⟩).2.2≠0 then (0,(insR s (s.size+1) (i+1) ⟨#[]⟩).2.1,(insR s (s.size+1) (i+1) ⟨#[]⟩).2.2)
 else if 256<(insR s (s.size+1) (i+1) ⟨#[]⟩).1.size then (0,i,37) else (6,(insR s (s.size+1) (i+1) ⟨#[]⟩).2.1,0)
def tokSign (s:ByteArray)(i:Nat):Int×Nat×Int:=
 if i+2≤s.size∧isSignS (s.extract i (i+2))=true then (7,i+2,0) else if i+1≤s.size∧isSignS (s.extract i (i+1))=true then (7,i+1,0) else (0,i,30)
def tokR (s:ByteArray)(i:Nat):Int×Nat×Int:=match (bs s)[i]? with
 | none=>(0,i,30)
 | some b=>if letterN b.toNat=true then tokName s i else if digitN b.toNat=true then tokNum s i else if b.toNat=37 then tokPat s i else if b.toNat=34 then tokQuo s i else tokSign s i
abbrev T3 (x:Int×Nat×Int):Value:=.tuple #[.int .i64 x.1,.int .i64 (x.2.1:Nat),.int .i64 x.2.2]
theorem t3_ret {x:Int×Nat×Int}{a b c:Int}(h:x.1=a∧(x.2.1:Int)=b∧x.2.2=c):Ending.returned (.tuple #[.int .i64 a,.int .i64 b,.int .i64 c])=Ending.returned (T3 x):=by
 unfold T3;rw [← h.1,← h.2.1,← h.2.2]
theorem r_token_name (s:ByteArray)(i:Nat)(hi:i<s.size)(hs:s.size≤1000000000000)(hL:letterN s[i].toNat=true)(w:World) :
 Calls Tryz.prog 68 #[.string s,.int .i64 i] w fun e w'=>e=.returned (T3 (tokName s i))∧w=w':=by
 have cl:=Hi (fun (n:Nat) (w:World)=>r_letter n w)
 have cr:=Hi (fun (k:Nat) (hk:k≤s.size) (w:World)=>r_run s k hk (by omega) w)
 obtain ⟨hr1,hr2⟩:=runE_le s i (by omega)
 obtain ⟨j,hj⟩:∃ j,runE s i=j:=⟨_,rfl⟩
 have H:=Hi (show tokName s i=tokNameJ s i j by unfold tokName;rw [hj])
 rw [hj] at hr1 hr2
 by_cases h24:24<j-i
 ·have H2:=Hi (H.out.trans (show _=(0,i,36) by unfold tokNameJ;rw [if_pos h24]))
  have b24:(j:Int)-(i:Int)>24:=by omega
  clear H h24;go_enter Tryz.func68,Tryz.ntmps68;go_wp2_with (first|(go_at_call 92;refine (cl.out _ _).mono ?_;rintro e w' ⟨rfl,rfl⟩)|(go_at_call 93;refine (cr.out _ (by omega) _).mono ?_;rintro e w' ⟨rfl,rfl⟩))
  go_ret3
  exact ⟨t3_ret (by rw [H2.out];exact ⟨rfl,rfl,rfl⟩),rfl⟩
 have b24:¬ (j:Int)-(i:Int)>24:=by omega
 have H1:=Hi (H.out.trans (show _=if dotted s j=false then (2,j,0) else if 24<runE s (j+1)-j-1 then (0,i,36) else (3,runE s (j+1),0) by unfold tokNameJ;rw [if_neg h24]))
 clear H h24
 by_cases h1:j+1<s.size
 ·have hdot:dotted s j=(s[j].toNat == 46 && letterN s[j+1].toNat):=by unfold dotted;rw [bs_get s j (by omega),bs_get s _ h1]
  have b1:¬ ((j:Int)+1≥(s.size:Int)):=by omega
  by_cases h46:s[j].toNat=46
  ·have b46:((s[j].toNat:Int) != 46)=false:=by rw [h46];rfl
   cases hL2:letterN s[j+1].toNat
   ·have H2:=Hi (H1.out.trans (if_pos (by rw [hdot,hL2];simp)))
    clear H1 hdot h46;go_enter Tryz.func68,Tryz.ntmps68;go_wp2_with (first|(go_at_call 92;refine (cl.out _ _).mono ?_;rintro e w' ⟨rfl,rfl⟩)|(go_at_call 93;refine (cr.out _ (by omega) _).mono ?_;rintro e w' ⟨rfl,rfl⟩))
    go_ret3
    exact ⟨t3_ret (by rw [H2.out];exact ⟨rfl,rfl,rfl⟩),rfl⟩
   ·have H2:=Hi (H1.out.trans (if_neg (by rw [hdot,hL2,h46];simp)))
    obtain ⟨hk1,hk2⟩:=runE_le s (j+1) (by omega)
    obtain ⟨k,hk⟩:∃ k,runE s (j+1)=k:=⟨_,rfl⟩
    rw [hk] at hk1 hk2
    have cr2:=Hi (show ∀ w,Calls Tryz.prog 93 #[.string s,.int .i64 ((j:Int)+1)] w fun e w'=>e=.returned (.int .i64 k)∧w=w' from fun w=>by
     have:=cr.out (j+1) (by omega) w;rw [hk] at this;simpa using this)
    have cr1:=Hi (show ∀ w,Calls Tryz.prog 93 #[.string s,.int .i64 (i:Int)] w fun e w'=>e=.returned (.int .i64 j)∧w=w' from fun w=>by
     have:=cr.out i (by omega) w;rw [hj] at this;exact this)
    have H3:=Hi H2.out;rw [hk] at H3;clear H1 hdot H2 cr
    by_cases hk24:24<k-j-1
    ·have H4:=Hi (H3.out.trans (if_pos hk24));have bk:(k:Int)-(j:Int)-1>24:=by omega
     clear hk24 H3;go_enter Tryz.func68,Tryz.ntmps68;go_upto_region 8 with (first|(go_at_call 92;refine (cl.out _ _).mono ?_;rintro e w' ⟨rfl,rfl⟩)|(go_at_call 93;refine (cr1.out _).mono ?_;rintro e w' ⟨rfl,rfl⟩))
     go_wp2_with (go_at_call 93;refine (cr2.out _).mono ?_;rintro e w' ⟨rfl,rfl⟩)
     go_ret3
     exact ⟨t3_ret (by rw [H4.out];exact ⟨rfl,rfl,rfl⟩),rfl⟩
    ·have H4:=Hi (H3.out.trans (if_neg hk24));have bk:¬ (k:Int)-(j:Int)-1>24:=by omega
     clear hk24 H3;go_enter Tryz.func68,Tryz.ntmps68;go_upto_region 8 with (first|(go_at_call 92;refine (cl.out _ _).mono ?_;rintro e w' ⟨rfl,rfl⟩)|(go_at_call 93;refine (cr1.out _).mono ?_;rintro e w' ⟨rfl,rfl⟩))
     go_wp2_with (go_at_call 93;refine (cr2.out _).mono ?_;rintro e w' ⟨rfl,rfl⟩)
     go_ret3
     exact ⟨t3_ret (by rw [H4.out];exact ⟨rfl,rfl,rfl⟩),rfl⟩
  ·have b46:((s[j].toNat:Int) != 46)=true:=by simp;omega
   have H2:=Hi (H1.out.trans (if_pos (by rw [hdot,show (s[j].toNat == 46)=false from by simpa using h46];rfl)))
   clear H1 hdot h46;go_enter Tryz.func68,Tryz.ntmps68;go_wp2_with (first|(go_at_call 92;refine (cl.out _ _).mono ?_;rintro e w' ⟨rfl,rfl⟩)|(go_at_call 93;refine (cr.out _ (by omega) _).mono ?_;rintro e w' ⟨rfl,rfl⟩))
   go_ret3
   exact ⟨t3_ret (by rw [H2.out];exact ⟨rfl,rfl,rfl⟩),rfl⟩
 ·have H2:=Hi (H1.out.trans (if_pos (by unfold dotted;rw [bs_none s _ h1];cases (bs s)[j]?<;>rfl)))
  have b1:(j:Int)+1≥(s.size:Int):=by omega
  clear H1 h1;go_enter Tryz.func68,Tryz.ntmps68;go_wp2_with (first|(go_at_call 92;refine (cl.out _ _).mono ?_;rintro e w' ⟨rfl,rfl⟩)|(go_at_call 93;refine (cr.out _ (by omega) _).mono ?_;rintro e w' ⟨rfl,rfl⟩))
  go_ret3
  exact ⟨t3_ret (by rw [H2.out];exact ⟨rfl,rfl,rfl⟩),rfl⟩
theorem classL_digit (l:Bytes):(classL l == 6)=(match l with|[]=>false|c::_=>digitN c.toNat):=by
 cases l with
 | nil=>rfl
 | cons c r=>
   rw [Bool.eq_iff_iff,beq_iff_eq];exact class_digit c.toNat
theorem r_wordN (n:Nat)(w:World):Calls Tryz.prog 95 #[.int .u8 n] w fun e w'=>e=.returned (.bool (wordN n))∧w=w':=r_word n w
theorem r_token_num (s:ByteArray)(i:Nat)(hi:i<s.size)(hs:s.size≤1000000000000)(hL:letterN s[i].toNat=false)(hD:digitN s[i].toNat=true)(w:World) :
 Calls Tryz.prog 68 #[.string s,.int .i64 i] w fun e w'=>e=.returned (T3 (tokNum s i))∧Qt w w':=by
 have cl:=Hi (fun (n:Nat) (w:World)=>r_letter n w)
 have cdg:=Hi (fun (n:Nat) (w:World)=>r_digit n w)
 have cw:=Hi (fun (n:Nat) (w:World)=>r_wordN n w)
 obtain ⟨hr1,hr2⟩:=numE_le s i (by omega)
 have cn:=Hi (fun (w:World)=>r_number (s.extract i (numE s i)) (by have:=size_ext s i (numE s i);omega) w)
 go_enter Tryz.func68,Tryz.ntmps68;go_upto_region 14 with (first|(go_at_call 92;refine (cl.out _ _).mono ?_;rintro e w' ⟨rfl,rfl⟩)|(go_at_call 94;refine (cdg.out _ _).mono ?_;rintro e w' ⟨rfl,rfl⟩))
 go_loopw [10] (fun a wr=>∃ m:Nat,i≤m∧m≤s.size∧a=.int .i64 m∧Hid (numE s i=m+numLen ((bs s).drop m))∧wr=w) (fun a _=>s.size-(intOf a).toNat)
 case atStart=>exact ⟨i,by omega,by omega,rfl,Hi rfl,rfl⟩
 case round=>
  obtain ⟨m,him,hm,rfl,hR,rfl⟩:=hrel
  by_cases hlt:m<s.size
  ·have hR1:=Hi (hR.out.trans (show _=m+(if (wordN s[m].toNat || (s[m].toNat == 46 && classL ((bs s).drop (m+1)) == 6))=true then numLen ((bs s).drop (m+1))+1 else 0) by rw [bs_drop s m hlt];rfl))
   clear hR
   cases hW:wordN s[m].toNat
   ·by_cases h46:s[m].toNat=46
    ·have b46:((s[m].toNat:Int) == 46)=true:=by rw [h46];rfl
     by_cases h1:m+1<s.size
     ·have hcl:(classL ((bs s).drop (m+1)) == 6)=digitN s[m+1].toNat:=by rw [classL_digit,bs_drop s _ h1]
      have b1:(m:Int)+1<(s.size:Int):=by omega
      cases hd:digitN s[m+1].toNat
      ·have hE:=Hi (hR1.out.trans (show _=m by rw [hW,hcl,hd];simp))
       have H:Hid (tokNum s i=if (numR (s.extract i m)).isSome=true then (4,m,0) else (0,i,31)):=Hi (by unfold tokNum;rw [hE.out])
       have cn2:=Hi cn.out;rw [hE.out] at cn2;clear cn hE
       cases hn:numR (s.extract i m) with
       | none=>
         have H2:=Hi (H.out.trans (if_neg (by rw [hn];simp)))
         have cn3:=Hi (show ∀ w,Calls Tryz.prog 70 #[.string (s.extract i m)] w fun e w'=>e=.returned (.int .i64 (-1))∧Qt w w' from fun w=>by have:=cn2.out w;rw [hn] at this;exact this)
         clear H cn2 hn;go_wp2_with (first|(go_at_call 95;refine (cw.out _ _).mono ?_;rintro e w' ⟨rfl,rfl⟩)|(go_at_call 94;refine (cdg.out _ _).mono ?_;rintro e w' ⟨rfl,rfl⟩)|(go_at_call 70;refine (cn3.out _).mono ?_;rintro e w' ⟨rfl,hq⟩))
         go_ret3
         exact ⟨t3_ret (by rw [H2.out];exact ⟨rfl,rfl,rfl⟩),hq⟩
       | some v=>
         have H2:=Hi (H.out.trans (if_pos (by rw [hn];rfl)))
         have cn3:=Hi (show ∀ w,Calls Tryz.prog 70 #[.string (s.extract i m)] w fun e w'=>e=.returned (.int .i64 (v:Nat))∧Qt w w' from fun w=>by have:=cn2.out w;rw [hn] at this;exact this)
         clear H cn2 hn;go_wp2_with (first|(go_at_call 95;refine (cw.out _ _).mono ?_;rintro e w' ⟨rfl,rfl⟩)|(go_at_call 94;refine (cdg.out _ _).mono ?_;rintro e w' ⟨rfl,rfl⟩)|(go_at_call 70;refine (cn3.out _).mono ?_;rintro e w' ⟨rfl,hq⟩))
         go_ret3
         exact ⟨t3_ret (by rw [H2.out];exact ⟨rfl,rfl,rfl⟩),hq⟩
      ·have hR2:=Hi (hR1.out.trans (show _=(m+1)+numLen ((bs s).drop (m+1)) by rw [hW,hcl,hd,h46];simp;omega))
       clear hR1;go_wp2_with (first|(go_at_call 95;refine (cw.out _ _).mono ?_;rintro e w' ⟨rfl,rfl⟩)|(go_at_call 94;refine (cdg.out _ _).mono ?_;rintro e w' ⟨rfl,rfl⟩))
       go_roundw
       case rel=>exact ⟨m+1,by omega,by omega,by go_num,hR2,by first|rfl|trivial⟩
       case measure=>simp [intOf];omega
     ·have b1:¬ (m:Int)+1<(s.size:Int):=by omega
      have hcl:(classL ((bs s).drop (m+1)) == 6)=false:=by rw [classL_digit,bs_drop_end s _ h1]
      have hE:=Hi (hR1.out.trans (show _=m by rw [hW,hcl];simp))
      have H:Hid (tokNum s i=if (numR (s.extract i m)).isSome=true then (4,m,0) else (0,i,31)):=Hi (by unfold tokNum;rw [hE.out])
      have cn2:=Hi cn.out;rw [hE.out] at cn2;clear cn hE
      cases hn:numR (s.extract i m) with
      | none=>
        have H2:=Hi (H.out.trans (if_neg (by rw [hn];simp)))
        have cn3:=Hi (show ∀ w,Calls Tryz.prog 70 #[.string (s.extract i m)] w fun e w'=>e=.returned (.int .i64 (-1))∧Qt w w' from fun w=>by have:=cn2.out w;rw [hn] at this;exact this)
        clear H cn2 hn;go_wp2_with (first|(go_at_call 95;refine (cw.out _ _).mono ?_;rintro e w' ⟨rfl,rfl⟩)|(go_at_call 94;refine (cdg.out _ _).mono ?_;rintro e w' ⟨rfl,rfl⟩)|(go_at_call 70;refine (cn3.out _).mono ?_;rintro e w' ⟨rfl,hq⟩))
        go_ret3
        exact ⟨t3_ret (by rw [H2.out];exact ⟨rfl,rfl,rfl⟩),hq⟩
      | some v=>
        have H2:=Hi (H.out.trans (if_pos (by rw [hn];rfl)))
        have cn3:=Hi (show ∀ w,Calls Tryz.prog 70 #[.string (s.extract i m)] w fun e w'=>e=.returned (.int .i64 (v:Nat))∧Qt w w' from fun w=>by have:=cn2.out w;rw [hn] at this;exact this)
        clear H cn2 hn;go_wp2_with (first|(go_at_call 95;refine (cw.out _ _).mono ?_;rintro e w' ⟨rfl,rfl⟩)|(go_at_call 94;refine (cdg.out _ _).mono ?_;rintro e w' ⟨rfl,rfl⟩)|(go_at_call 70;refine (cn3.out _).mono ?_;rintro e w' ⟨rfl,hq⟩))
        go_ret3
        exact ⟨t3_ret (by rw [H2.out];exact ⟨rfl,rfl,rfl⟩),hq⟩
    ·have b46:((s[m].toNat:Int) == 46)=false:=by rw [beq_eq_false_iff_ne];omega
     have hE:=Hi (hR1.out.trans (show _=m by rw [hW,show (s[m].toNat == 46)=false from by simpa using h46];simp))
     have H:Hid (tokNum s i=if (numR (s.extract i m)).isSome=true then (4,m,0) else (0,i,31)):=Hi (by unfold tokNum;rw [hE.out])
     have cn2:=Hi cn.out;rw [hE.out] at cn2;clear cn hE
     cases hn:numR (s.extract i m) with
     | none=>
       have H2:=Hi (H.out.trans (if_neg (by rw [hn];simp)))
       have cn3:=Hi (show ∀ w,Calls Tryz.prog 70 #[.string (s.extract i m)] w fun e w'=>e=.returned (.int .i64 (-1))∧Qt w w' from fun w=>by have:=cn2.out w;rw [hn] at this;exact this)
       clear H cn2 hn;go_wp2_with (first|(go_at_call 95;refine (cw.out _ _).mono ?_;rintro e w' ⟨rfl,rfl⟩)|(go_at_call 94;refine (cdg.out _ _).mono ?_;rintro e w' ⟨rfl,rfl⟩)|(go_at_call 70;refine (cn3.out _).mono ?_;rintro e w' ⟨rfl,hq⟩))
       go_ret3
       exact ⟨t3_ret (by rw [H2.out];exact ⟨rfl,rfl,rfl⟩),hq⟩
     | some v=>
       have H2:=Hi (H.out.trans (if_pos (by rw [hn];rfl)))
       have cn3:=Hi (show ∀ w,Calls Tryz.prog 70 #[.string (s.extract i m)] w fun e w'=>e=.returned (.int .i64 (v:Nat))∧Qt w w' from fun w=>by have:=cn2.out w;rw [hn] at this;exact this)
       clear H cn2 hn;go_wp2_with (first|(go_at_call 95;refine (cw.out _ _).mono ?_;rintro e w' ⟨rfl,rfl⟩)|(go_at_call 94;refine (cdg.out _ _).mono ?_;rintro e w' ⟨rfl,rfl⟩)|(go_at_call 70;refine (cn3.out _).mono ?_;rintro e w' ⟨rfl,hq⟩))
       go_ret3
       exact ⟨t3_ret (by rw [H2.out];exact ⟨rfl,rfl,rfl⟩),hq⟩
   ·have hR2:=Hi (hR1.out.trans (show _=(m+1)+numLen ((bs s).drop (m+1)) by rw [hW];simp;omega))
    clear hR1;go_wp2_with (first|(go_at_call 95;refine (cw.out _ _).mono ?_;rintro e w' ⟨rfl,rfl⟩)|(go_at_call 94;refine (cdg.out _ _).mono ?_;rintro e w' ⟨rfl,rfl⟩))
    go_roundw
    case rel=>exact ⟨m+1,by omega,by omega,by go_num,hR2,by first|rfl|trivial⟩
    case measure=>simp [intOf];omega
  ·have hE:=Hi (hR.out.trans (show _=m by rw [bs_drop_end s m hlt];rfl))
   have H:Hid (tokNum s i=if (numR (s.extract i m)).isSome=true then (4,m,0) else (0,i,31)):=Hi (by unfold tokNum;rw [hE.out])
   have cn2:=Hi cn.out;rw [hE.out] at cn2;clear cn hE
   cases hn:numR (s.extract i m) with
   | none=>
     have H2:=Hi (H.out.trans (if_neg (by rw [hn];simp)))
     have cn3:=Hi (show ∀ w,Calls Tryz.prog 70 #[.string (s.extract i m)] w fun e w'=>e=.returned (.int .i64 (-1))∧Qt w w' from fun w=>by have:=cn2.out w;rw [hn] at this;exact this)
     clear H cn2 hn;go_wp2_with (first|(go_at_call 95;refine (cw.out _ _).mono ?_;rintro e w' ⟨rfl,rfl⟩)|(go_at_call 94;refine (cdg.out _ _).mono ?_;rintro e w' ⟨rfl,rfl⟩)|(go_at_call 70;refine (cn3.out _).mono ?_;rintro e w' ⟨rfl,hq⟩))
     go_ret3
     exact ⟨t3_ret (by rw [H2.out];exact ⟨rfl,rfl,rfl⟩),hq⟩
   | some v=>
     have H2:=Hi (H.out.trans (if_pos (by rw [hn];rfl)))
     have cn3:=Hi (show ∀ w,Calls Tryz.prog 70 #[.string (s.extract i m)] w fun e w'=>e=.returned (.int .i64 (v:Nat))∧Qt w w' from fun w=>by have:=cn2.out w;rw [hn] at this;exact this)
     clear H cn2 hn;go_wp2_with (first|(go_at_call 95;refine (cw.out _ _).mono ?_;rintro e w' ⟨rfl,rfl⟩)|(go_at_call 94;refine (cdg.out _ _).mono ?_;rintro e w' ⟨rfl,rfl⟩)|(go_at_call 70;refine (cn3.out _).mono ?_;rintro e w' ⟨rfl,hq⟩))
     go_ret3
     exact ⟨t3_ret (by rw [H2.out];exact ⟨rfl,rfl,rfl⟩),hq⟩
theorem r_token_pat (s:ByteArray)(i:Nat)(hi:i<s.size)(hs:s.size≤1000000000000)(h37:s[i].toNat=37)(w:World) :
 Calls Tryz.prog 68 #[.string s,.int .i64 i] w fun e w'=>e=.returned (T3 (tokPat s i))∧Qt w w':=by
 have cl:=Hi (fun (n:Nat) (w:World)=>r_letter n w)
 have cdg:=Hi (fun (n:Nat) (w:World)=>r_digit n w)
 have hL:letterN s[i].toNat=false:=by rw [h37];rfl
 have hD:digitN s[i].toNat=false:=by rw [h37];rfl
 have b37:((s[i].toNat:Int) == 37)=true:=by rw [h37];rfl
 obtain ⟨hr1,hr2⟩:=runE_le s (i+1) (by omega)
 have cr:=Hi (show ∀ w,Calls Tryz.prog 93 #[.string s,.int .i64 ((i:Int)+1)] w fun e w'=>e=.returned (.int .i64 (runE s (i+1):Nat))∧w=w' from fun w=>by simpa using r_run s (i+1) (by omega) (by omega) w)
 have cp:=Hi (fun (w:World)=>r_isPattern (s.extract i (runE s (i+1))) (by have:=size_ext s i (runE s (i+1));omega) w)
 have H:=Hi (show tokPat s i=if isPatR (bs (s.extract i (runE s (i+1))))=true then (5,runE s (i+1),0) else (0,i,44) from rfl)
 clear h37;generalize runE s (i+1)=j at *
 cases hp:isPatR (bs (s.extract i j))
 ·have H2:=Hi (H.out.trans (if_neg (by rw [hp];simp)))
  have cp2:=Hi (show ∀ w,Calls Tryz.prog 96 #[.string (s.extract i j)] w fun e w'=>e=.returned (.bool false)∧Qt w w' from fun w=>hp▸cp.out w)
  clear H cp hp;go_enter Tryz.func68,Tryz.ntmps68;go_wp2_with (first|(go_at_call 92;refine (cl.out _ _).mono ?_;rintro e w' ⟨rfl,rfl⟩)|(go_at_call 94;refine (cdg.out _ _).mono ?_;rintro e w' ⟨rfl,rfl⟩)|(go_at_call 93;refine (cr.out _).mono ?_;rintro e w' ⟨rfl,rfl⟩)|(go_at_call 96;refine (cp2.out _).mono ?_;rintro e w' ⟨rfl,hq⟩))
  go_ret3
  exact ⟨t3_ret (by rw [H2.out];exact ⟨rfl,rfl,rfl⟩),hq⟩
 ·have H2:=Hi (H.out.trans (if_pos hp));have cp2:=Hi (show ∀ w,Calls Tryz.prog 96 #[.string (s.extract i j)] w fun e w'=>e=.returned (.bool true)∧Qt w w' from fun w=>hp▸cp.out w)
  clear H cp hp;go_enter Tryz.func68,Tryz.ntmps68;go_wp2_with (first|(go_at_call 92;refine (cl.out _ _).mono ?_;rintro e w' ⟨rfl,rfl⟩)|(go_at_call 94;refine (cdg.out _ _).mono ?_;rintro e w' ⟨rfl,rfl⟩)|(go_at_call 93;refine (cr.out _).mono ?_;rintro e w' ⟨rfl,rfl⟩)|(go_at_call 96;refine (cp2.out _).mono ?_;rintro e w' ⟨rfl,hq⟩))
  go_ret3
  exact ⟨t3_ret (by rw [H2.out];exact ⟨rfl,rfl,rfl⟩),hq⟩
theorem r_token_text (s:ByteArray)(i:Nat)(hi:i<s.size)(hs:s.size≤1000000000000)(h34:s[i].toNat=34)(w:World) :
 Calls Tryz.prog 68 #[.string s,.int .i64 i] w fun e w'=>e=.returned (T3 (tokQuo s i))∧Below w.heap.size w w':=by
 have cl:=Hi (fun (n:Nat) (w:World)=>r_letter n w)
 have cdg:=Hi (fun (n:Nat) (w:World)=>r_digit n w)
 have hL:letterN s[i].toNat=false:=by rw [h34];rfl
 have hD:digitN s[i].toNat=false:=by rw [h34];rfl
 have b37:((s[i].toNat:Int) == 37)=false:=by rw [h34];rfl
 have b34:((s[i].toNat:Int) == 34)=true:=by rw [h34];rfl
 have ci:=Hi (fun (w:World)=>r_inside s i hi hs w)
 have H:=Hi (show tokQuo s i=if (insR s (s.size+1) (i+1) ⟨#[]⟩).2.2≠0 then (0,(insR s (s.size+1) (i+1) ⟨#[]⟩).2.1,(insR s (s.size+1) (i+1) ⟨#[]⟩).2.2)
  else if 256<(insR s (s.size+1) (i+1) ⟨#[]⟩).1.size then (0,i,37) else (6,(insR s (s.size+1) (i+1) ⟨#[]⟩).2.1,0) from rfl)
 clear h34;generalize insR s (s.size+1) (i+1) ⟨#[]⟩=q at *;obtain ⟨t,j,e⟩:=q;dsimp only at *
 by_cases he:e=0
 ·have H2:=Hi (H.out.trans (if_neg (by simpa using he)))
  subst he
  by_cases hz:256<t.size
  ·have H3:=Hi (H2.out.trans (if_pos hz));have bz:(t.size:Int)>256:=by omega
   clear H H2 hz;go_enter Tryz.func68,Tryz.ntmps68;go_wp2_with (first|(go_at_call 92;refine (cl.out _ _).mono ?_;rintro e w' ⟨rfl,rfl⟩)|(go_at_call 94;refine (cdg.out _ _).mono ?_;rintro e w' ⟨rfl,rfl⟩)|(go_at_call 97;refine (ci.out _).mono ?_;rintro e w' ⟨rfl,hb⟩))
   go_ret3
   exact ⟨t3_ret (by rw [H3.out];exact ⟨rfl,rfl,rfl⟩),hb⟩
  ·have H3:=Hi (H2.out.trans (if_neg hz));have bz:¬ (t.size:Int)>256:=by omega
   clear H H2 hz;go_enter Tryz.func68,Tryz.ntmps68;go_wp2_with (first|(go_at_call 92;refine (cl.out _ _).mono ?_;rintro e w' ⟨rfl,rfl⟩)|(go_at_call 94;refine (cdg.out _ _).mono ?_;rintro e w' ⟨rfl,rfl⟩)|(go_at_call 97;refine (ci.out _).mono ?_;rintro e w' ⟨rfl,hb⟩))
   go_ret3
   exact ⟨t3_ret (by rw [H3.out];exact ⟨rfl,rfl,rfl⟩),hb⟩
 ·have H2:=Hi (H.out.trans (if_pos he));have be:(e != 0)=true:=by simpa using he
  clear H he;go_enter Tryz.func68,Tryz.ntmps68;go_wp2_with (first|(go_at_call 92;refine (cl.out _ _).mono ?_;rintro e w' ⟨rfl,rfl⟩)|(go_at_call 94;refine (cdg.out _ _).mono ?_;rintro e w' ⟨rfl,rfl⟩)|(go_at_call 97;refine (ci.out _).mono ?_;rintro e w' ⟨rfl,hb⟩))
  go_ret3
  exact ⟨t3_ret (by rw [H2.out];exact ⟨rfl,rfl,rfl⟩),hb⟩
def signR (s:ByteArray)(i:Nat):Nat→Int×Nat×Int
 | 0=>(0,i,30)
 | n+1=>if i+(n+1)≤s.size∧isSignS (s.extract i (i+(n+1)))=true then (7,i+(n+1),0) else signR s i n
theorem r_token_sign (s:ByteArray)(i:Nat)(hi:i<s.size)(hs:s.size≤1000000000000)(hL:letterN s[i].toNat=false)(hD:digitN s[i].toNat=false)(h37:s[i].toNat≠37)(h34:s[i].toNat≠34)(w:World)(hT:SignsR w) :
 Calls Tryz.prog 68 #[.string s,.int .i64 i] w fun e w'=>e=.returned (T3 (tokSign s i))∧w=w':=by
 have cl:=Hi (fun (n:Nat) (w:World)=>r_letter n w)
 have cdg:=Hi (fun (n:Nat) (w:World)=>r_digit n w)
 have b37:((s[i].toNat:Int) == 37)=false:=by rw [beq_eq_false_iff_ne];omega
 have b34:((s[i].toNat:Int) == 34)=false:=by rw [beq_eq_false_iff_ne];omega
 have cs:=Hi (fun (t:ByteArray)=>r_isSign t w hT)
 have H:=Hi (show tokSign s i=signR s i 2 from rfl)
 clear h37 h34 hT;go_enter Tryz.func68,Tryz.ntmps68;go_upto_region 32 with (first|(go_at_call 92;refine (cl.out _ _).mono ?_;rintro e w' ⟨rfl,rfl⟩)|(go_at_call 94;refine (cdg.out _ _).mono ?_;rintro e w' ⟨rfl,rfl⟩))
 go_loopw [15] (fun a wr=>∃ n:Nat,n≤2∧a=.int .i64 n∧Hid (tokSign s i=signR s i n)∧wr=w) (fun a _=>(intOf a).toNat)
 case atStart=>exact ⟨2,by omega,rfl,H,rfl⟩
 case round=>
  obtain ⟨n,hn,rfl,hR,rfl⟩:=hrel;clear H
  cases n with
  | zero=>
    have hR2:=Hi (hR.out.trans (show _=(0,i,30) from rfl))
    clear hR;go_wp2_with fail
    go_ret3
    exact ⟨t3_ret (by rw [hR2.out];exact ⟨rfl,rfl,rfl⟩),rfl⟩
  | succ m=>
    have hR1:=Hi (hR.out.trans (show _=if i+(m+1)≤s.size∧isSignS (s.extract i (i+(m+1)))=true then (7,i+(m+1),0) else signR s i m from rfl))
    clear hR
    by_cases hz:i+(m+1)≤s.size
    ·have bz:(i:Int)+((m:Int)+1)≤(s.size:Int):=by omega
     have bi:(i:Int)≤(i:Int)+((m:Int)+1):=by omega
     have b0:(0:Int)≤(i:Int):=by omega
     cases hx:isSignS (s.extract i (i+(m+1)))
     ·have hR2:=Hi (hR1.out.trans (if_neg (by rw [hx];simp)))
      clear hR1;go_wp2_with (go_at_call 98;refine (cs.out _).mono ?_;rintro e w' ⟨rfl,rfl⟩)
      go_roundw
      case rel=>exact ⟨m,by omega,by go_num,hR2,by first|rfl|trivial⟩
      case measure=>simp [intOf]
     ·have hR2:=Hi (hR1.out.trans (if_pos ⟨hz,hx⟩));clear hR1;go_wp2_with (go_at_call 98;refine (cs.out _).mono ?_;rintro e w' ⟨rfl,rfl⟩)
      go_ret3
      exact ⟨t3_ret (by rw [hR2.out];exact ⟨rfl,by simp,rfl⟩),rfl⟩
    ·have hR2:=Hi (hR1.out.trans (if_neg fun h=>hz h.1))
     have bz:¬ (i:Int)+((m:Int)+1)≤(s.size:Int):=by omega
     clear hR1 hz;go_wp2_with fail
     go_roundw
     case rel=>exact ⟨m,by omega,by go_num,hR2,by first|rfl|trivial⟩
     case measure=>simp [intOf]
theorem r_token (s:ByteArray)(i:Nat)(hi:i<s.size)(hs:s.size≤1000000000000)(w:World)(hT:SignsR w) :
 Calls Tryz.prog 68 #[.string s,.int .i64 i] w fun e w'=>e=.returned (T3 (tokR s i))∧Below w.heap.size w w':=by
 have H:tokR s i=if letterN s[i].toNat=true then tokName s i else if digitN s[i].toNat=true then tokNum s i else if s[i].toNat=37 then tokPat s i else if s[i].toNat=34 then tokQuo s i else tokSign s i:=by
  unfold tokR;rw [bs_get s i hi]
 rw [H]
 split
 ·rename_i h;exact (r_token_name s i hi hs h w).mono fun e w' h=>⟨h.1,h.2▸Below.refl _ _⟩
 ·rename_i hL;have hL:=eq_false_of_ne_true hL
  split
  ·rename_i h;exact (r_token_num s i hi hs hL h w).mono fun e w' h=>⟨h.1,h.2.below _⟩
  ·rename_i hD;have hD:=eq_false_of_ne_true hD
   split
   ·rename_i h;exact (r_token_pat s i hi hs h w).mono fun e w' h=>⟨h.1,h.2.below _⟩
   ·rename_i h37
    split
    ·rename_i h;exact r_token_text s i hi hs h w
    ·rename_i h34;exact (r_token_sign s i hi hs hL hD h37 h34 w hT).mono fun e w' h=>⟨h.1,h.2▸Below.refl _ _⟩
structure Tk where
 kind:Int
 text:ByteArray
 line:Int
 col:Int
abbrev Tk.cells (t:Tk):List Value:=tokC t.kind t.text t.line t.col
def flatT (l:List Tk):List Value:=(l.map Tk.cells).flatten
theorem flatT_snoc (l:List Tk)(t:Tk):flatT (l++[t])=flatT l++t.cells:=by simp [flatT]
def colAt (s:ByteArray)(i:Nat):Nat:=colR s (i+1) 0 i
theorem insR_bounds (s:ByteArray):∀ (f j:Nat) (said:ByteArray),(insR s f j said).2.1≤s.size∧((insR s f j said).2.2=0→j<(insR s f j said).2.1)
 | 0,j,said=>⟨Nat.le_refl _,fun h=>by simp [insR] at h⟩
 | f+1,j,said=>by
   unfold insR;have h1:=insR_bounds s f (j+(escR s j).1) (said++strOfNums (escR s j).2);have h2:=insR_bounds s f (j+(sizeS s j).1) (said++s.extract j (j+(sizeS s j).1))
   split
   ·rename_i hj
    split
    ·exact ⟨by dsimp only;omega,fun _=>by dsimp only;omega⟩
    ·split
     ·split
      ·exact ⟨by dsimp only;omega,fun h=>by simp at h⟩
      ·exact ⟨h1.1,fun h=>by have:=h1.2 h;omega⟩
     ·split
      ·exact ⟨by dsimp only;omega,fun h=>by simp at h⟩
      ·exact ⟨h2.1,fun h=>by have:=h2.2 h;omega⟩
   ·exact ⟨Nat.le_refl _,fun h=>by simp at h⟩
theorem tokR_bounds (s:ByteArray)(i:Nat)(hi:i<s.size):(tokR s i).2.1≤s.size∧((tokR s i).2.2=0→i<(tokR s i).2.1):=by
 unfold tokR;rw [bs_get s i hi];dsimp only;have r0:=runE_le s i (by omega)
 have r1:=runE_le s (i+1) (by omega)
 have r2:=numE_le s i (by omega)
 have r3:=insR_bounds s (s.size+1) (i+1) ⟨#[]⟩
 split
 ·rename_i hL;have r4:=runE_in s i hi (by unfold wordN;rw [hL];rfl)
  unfold tokName tokNameJ
  have r5:∀ h:dotted s (runE s i)=true,runE s i+1<s.size:=fun h=>by
   unfold dotted at h
   by_cases hx:runE s i+1<s.size
   ·exact hx
   ·rw [bs_none s _ hx] at h;cases hh:(bs s)[runE s i]?<;>rw [hh] at h<;>cases h
  split
  ·exact ⟨by dsimp only;omega,fun h=>by simp at h⟩
  ·split
   ·exact ⟨by dsimp only;omega,fun _=>by dsimp only;omega⟩
   ·rename_i hd;have r6:=runE_le s (runE s i+1) (by have:=r5 (by simpa using hd);omega)
    split
    ·exact ⟨by dsimp only;omega,fun h=>by simp at h⟩
    ·exact ⟨by dsimp only;omega,fun _=>by dsimp only;omega⟩
 ·split
  ·rename_i hL hD
   have r4:i<numE s i:=by
    unfold numE;rw [bs_drop s i hi,numLen,if_pos (by rw [show wordU s[i]=true from by show (letterN _ || digitN _)=true;rw [hD];simp];rfl)];omega
   unfold tokNum
   split
   ·exact ⟨by dsimp only;omega,fun _=>by dsimp only;omega⟩
   ·exact ⟨by dsimp only;omega,fun h=>by simp at h⟩
  ·split
   ·unfold tokPat
    split
    ·exact ⟨by dsimp only;omega,fun _=>by dsimp only;omega⟩
    ·exact ⟨by dsimp only;omega,fun h=>by simp at h⟩
   ·split
    ·unfold tokQuo
     split
     ·rename_i he;exact ⟨r3.1,fun h=>absurd h he⟩
     ·split
      ·exact ⟨by dsimp only;omega,fun h=>by simp at h⟩
      ·rename_i he _;exact ⟨r3.1,fun _=>by have:=r3.2 (by simpa using he);dsimp only;omega⟩
    ·unfold tokSign
     split
     ·exact ⟨by dsimp only;omega,fun _=>by dsimp only;omega⟩
     ·split
      ·exact ⟨by dsimp only;omega,fun _=>by dsimp only;omega⟩
      ·exact ⟨by dsimp only;omega,fun h=>by simp at h⟩
def cutR (s:ByteArray)(no:Int):Nat→Nat→List Tk→List Tk ⊕ (Int×Nat)
 | 0,_,l=>.inl l
 | f+1,i,l=>if h:i<s.size then
  if s[i].toNat=35 then .inl l else if blankN s[i].toNat=true then cutR s no f (i+1) l
  else if (tokR s i).2.2≠0 then .inr ((tokR s i).2.2,colAt s (tokR s i).2.1)
  else cutR s no f (tokR s i).2.1 (l++[⟨(tokR s i).1,s.extract i (tokR s i).2.1,no,colAt s i⟩])
  else .inl l
def endT (s:ByteArray)(no:Int):Tk:=⟨1,⟨#[10]⟩,no,colAt s s.size⟩
def lineOf (s:ByteArray)(no:Int):List Tk ⊕ (Int×Nat)→List Tk ⊕ (Int×Nat)
 | .inl l=>.inl (if l.length=0 then [] else l++[endT s no])
 | .inr e=>.inr e
def lineR (s:ByteArray)(no:Int):List Tk ⊕ (Int×Nat):=lineOf s no (cutR s no (s.size+1) 0 [])
def CutPost (w:World)(q:List Tk ⊕ (Int×Nat))(e:Ending)(w':World):Prop:=Below w.heap.size w w'∧match q with
 | .inl l=>∃ v,e=.returned (.tuple #[v,.int .i64 0,.int .i64 0])∧w'.ownsRow w.heap.size 76 4 v l.length (flatT l)
 | .inr x=>e=.returned (.tuple #[.slice none 0 0,.int .i64 x.1,.int .i64 (x.2:Nat)])
theorem r_cut (s:ByteArray)(no:Int)(hs:s.size≤1000000000000)(w:World)(hT:SignsR w) :
 Calls Tryz.prog 50 #[.string s,.int .i64 no] w fun e w'=>CutPost w (lineR s no) e w':=by
 have cb:=Hi (fun (n:Nat) (w:World)=>r_blank n w)
 have ct:=Hi (fun (k:Nat) (hk:k<s.size) (w:World) (hT:SignsR w)=>r_token s k hk hs w hT)
 have cc:=Hi (fun (k:Nat) (hk:k≤s.size) (w:World)=>r_column s k hk (by omega) w)
 have hT:=Hi hT;obtain ⟨i0,hi,hz0,hz1,hz2⟩:=info_parts tok_info;have hi:=Hi hi;have hz0:=Hi hz0;have hz1:=Hi hz1;have hz2:=Hi hz2;obtain ⟨R,hR0⟩:∃ R,R=cutR s no (s.size+1) 0 []:=⟨_,rfl⟩
 have HL:=Hi (show lineR s no=lineOf s no R by rw [hR0];rfl)
 have hR0:=Hi hR0;go_enter Tryz.func50,Tryz.ntmps50;go_wp2_with fail
 go_loopw [7,8] (fun t a wr=>∃ (l:List Tk) (i f:Nat),a=.int .i64 i∧i≤s.size∧s.size<i+f∧l.length≤i∧Hid (R=cutR s no f i l)∧Hid (wr.ownsRow w.heap.size 76 4 t l.length (flatT l))∧Hid (Below w.heap.size w wr)) (fun _ a _=>s.size-(intOf a).toNat)
 case atStart=>exact ⟨[],0,s.size+1,rfl,by omega,by omega,by simp,hR0,Hi (World.ownsRow_nil _ _ _ _),Hi (Below.refl _ _)⟩
 case round=>
  obtain ⟨l,i,f,rfl,hil,hf,hll,hR,hO,hb⟩:=hrel;clear hR0;obtain ⟨wq,rfl⟩:∃ wq,wq=wr:=⟨_,rfl⟩
  by_cases hlt:i<s.size
  ·obtain ⟨f,rfl⟩:∃ g,f=g+1:=⟨f-1,by omega⟩
   have hR1:=Hi (hR.out.trans (show _=(if s[i].toNat=35 then .inl l else if blankN s[i].toNat=true then cutR s no f (i+1) l
    else if (tokR s i).2.2≠0 then .inr ((tokR s i).2.2,colAt s (tokR s i).2.1)
    else cutR s no f (tokR s i).2.1 (l++[⟨(tokR s i).1,s.extract i (tokR s i).2.1,no,colAt s i⟩])) by rw [cutR,dif_pos hlt]))
   clear hR
   by_cases h35:s[i].toNat=35
   ·have hR2:=Hi (hR1.out.trans (if_pos h35));have b35:((s[i].toNat:Int) != 35)=false:=by rw [h35];rfl
    clear hR1 h35 cb ct;have HE:=Hi (HL.out.trans (show _=_ by rw [hR2.out]))
    by_cases hl0:l.length=0
    ·have HE2:=Hi (show lineR s no=.inl [] by rw [HE.out];exact congrArg Sum.inl (if_pos hl0))
     obtain rfl:l=[]:=List.length_eq_zero_iff.1 hl0;rcases Go.Joins.ownsRow_forms hO.out with ⟨rfl,_⟩|⟨g,cap,rfl⟩
     all_goals (
      go_wp2_with fail
      go_ret3
      unfold CutPost;rw [HE2.out];exact ⟨hb.out,_,rfl,hO.out⟩)
    ·have HE2:=Hi (show lineR s no=.inl (l++[endT s no]) by rw [HE.out];exact congrArg Sum.inl (if_neg hl0))
     obtain ⟨g,cap,rfl⟩:=Go.Joins.ownsRow_form hO.out (by omega)
     have bl:(l.length:Int)>0:=by omega
     have cS:=Hi (show ∀ w,Calls Tryz.prog 69 #[.string s,.int .i64 (s.size:Int)] w fun e w'=>e=.returned (.int .i64 (colAt s s.size:Nat))∧w=w' from fun w=>cc.out s.size (Nat.le_refl _) w)
     have hbs:w.heap.size≤wq.heap.size:=hb.out.size;go_upto_region 12 with fail
     go_wp2_with (first
      | (at_builtin;refine wpList_append_lies _ rfl (.tmp 58) (.tmp 65) _ rfl w.heap.size 76 i0 _ 4 40 Tryz.underlying61 hi.out hz0.out hz1.out hz2.out rfl (by decide) (.slice (some ⟨g,0,none⟩) l.length cap) l.length (flatT l) rfl (hO.out.alloc _) ⟨wq.heap.size,0,none⟩ 1 1 (tokC 1 ⟨#[10]⟩ no (colAt s s.size:Nat)) rfl rfl (World.news_of_block (heap_alloc_new wq _)) (oc _ rfl) (by decide) (by unfold maxLen;omega) (by omega) (by simp;omega) (wq.heap.size+1) (by simp) ?_;intro gg cap1 w4 hown4 hg4 hat4 hgl4)
      | (go_at_call 69;refine (cS.out _).mono ?_;rintro e w' ⟨rfl,rfl⟩))
     go_ret3
     unfold CutPost;rw [HE2.out];exact ⟨((Below.refl w.heap.size w).trans hb.out).trans (((Below.refl w.heap.size wq).alloc hbs _).grown hg4 (by simp;omega) (fun i hi=>(hO.out.lt i hi).1)),_,rfl,by rw [List.length_append,flatT_snoc];exact hown4⟩
   ·have b35:((s[i].toNat:Int) != 35)=true:=by simp;omega
    cases hbl:blankN s[i].toNat
    ·have hR2:=Hi (hR1.out.trans ((if_neg h35).trans (if_neg (by rw [hbl];simp))))
     have c1:=Hi (ct.out i hlt wq (hT.out.below hb.out));obtain ⟨q1,q2⟩:=tokR_bounds s i hlt;have cI:=Hi (show ∀ w,Calls Tryz.prog 69 #[.string s,.int .i64 (i:Int)] w fun e w'=>e=.returned (.int .i64 (colAt s i:Nat))∧w=w' from fun w=>cc.out i (by omega) w)
     have cA:=Hi (show ∀ w,Calls Tryz.prog 69 #[.string s,.int .i64 ((tokR s i).2.1:Nat)] w fun e w'=>e=.returned (.int .i64 (colAt s (tokR s i).2.1:Nat))∧w=w' from fun w=>cc.out (tokR s i).2.1 q1 w)
     clear hR1 h35;generalize tokR s i=q at *;obtain ⟨kind,at_,e⟩:=q;dsimp only at *
     by_cases he:e=0
     ·subst he;have q2:=q2 rfl;have hR3:=Hi (hR2.out.trans (if_neg (by simp)))
      clear hR2;go_upto_region 9 with (first|(go_at_call 67;refine (cb.out _ _).mono ?_;rintro e w' ⟨rfl,rfl⟩)|(go_at_call 68;refine c1.out.mono ?_;rintro e w1 ⟨rfl,hb1⟩))
      have hO1:=Hi (own_below hO.out hb1);have hb2:=Hi (below_sz hb.out hb1);have i1:(i:Int)≤(at_:Int):=by omega
      have i2:(at_:Int)≤(s.size:Int):=by omega
      have i3:(0:Int)≤(i:Int):=by omega
      have hbs:w.heap.size≤w1.heap.size:=hb2.out.size
      go_region_law (first
       | (refine step_append_lies _ (by rfl) (.tmp 41) (.tmp 52) _ (by rfl) w.heap.size 76 i0 _ 4 40 Tryz.underlying61 hi.out hz0.out hz1.out hz2.out rfl (by decide) u7 l.length (flatT l) (by rfl) ((hO1.out.alloc _).drew) ⟨w1.heap.size,0,none⟩ 1 1 (tokC kind (s.extract i at_) no (colAt s i:Nat)) (by rfl) (by rfl) (World.news_of_block (heap_alloc_new w1 _)) (oc _ rfl) (by decide) (by unfold maxLen;omega) (by omega) (by simp;omega) (w1.heap.size+1) (by simp) ?_;intro g cap w3 hown3 hgrow hat hg)
       | (go_simp;go_at_call 69;refine (cI.out _).mono ?_;rintro e wz ⟨rfl,rfl⟩;go_wp2_with fail))
      all_goals (
       have hb3:=Hi (hb2.out.trans ((((Below.refl w.heap.size w1).alloc hbs _).drew).grown hgrow (by simp;omega) (fun i hi=>(hO1.out.lt i hi).1)))
       have hO3:Hid (w3.ownsRow w.heap.size 76 4 (.slice (some ⟨g,0,none⟩) (l.length+1) cap) (l++[(⟨kind,s.extract i at_,no,colAt s i⟩:Tk)]).length (flatT (l++[⟨kind,s.extract i at_,no,colAt s i⟩]))):=Hi (by rw [List.length_append,flatT_snoc];exact hown3)
       clear hown3 hgrow hat;go_wp2_with fail
       go_roundw
       case rel=>exact ⟨l++[⟨kind,s.extract i at_,no,colAt s i⟩],at_,f,by first|rfl|go_num,by omega,by omega,by rw [List.length_append];simp;omega,hR3,hO3,hb3⟩
       case measure=>simp [intOf];omega)
     ·have hR3:=Hi (hR2.out.trans (if_pos he));have HE:=Hi (HL.out.trans (show _=Sum.inr (e,colAt s at_) by rw [hR3.out];rfl))
      have be:(e != 0)=true:=by simpa using he
      clear hR2 he;go_wp2_with (first|(go_at_call 67;refine (cb.out _ _).mono ?_;rintro e w' ⟨rfl,rfl⟩)|(go_at_call 68;refine c1.out.mono ?_;rintro e w1 ⟨rfl,hb1⟩)|(go_at_call 69;refine (cA.out _).mono ?_;rintro e w' ⟨rfl,rfl⟩))
      go_ret3
      unfold CutPost;rw [HE.out];exact ⟨below_sz hb.out hb1,rfl⟩
    ·have hR2:=Hi (hR1.out.trans ((if_neg h35).trans (if_pos hbl)));clear hR1 h35;go_wp2_with (go_at_call 67;refine (cb.out _ _).mono ?_;rintro e w' ⟨rfl,rfl⟩)
     go_roundw
     case rel=>exact ⟨l,i+1,f,by go_num,by omega,by omega,by omega,hR2,hO,hb⟩
     case measure=>simp [intOf];omega
  ·have hR2:=Hi (hR.out.trans (show _=.inl l by
    cases f with
    | zero=>rfl
    | succ f=>rw [cutR,dif_neg hlt]))
   clear hR cb ct;have HE:=Hi (HL.out.trans (show _=_ by rw [hR2.out]))
   by_cases hl0:l.length=0
   ·have HE2:=Hi (show lineR s no=.inl [] by rw [HE.out];exact congrArg Sum.inl (if_pos hl0))
    obtain rfl:l=[]:=List.length_eq_zero_iff.1 hl0;rcases Go.Joins.ownsRow_forms hO.out with ⟨rfl,_⟩|⟨g,cap,rfl⟩
    all_goals (
     go_wp2_with fail
     go_ret3
     unfold CutPost;rw [HE2.out];exact ⟨hb.out,_,rfl,hO.out⟩)
   ·have HE2:=Hi (show lineR s no=.inl (l++[endT s no]) by rw [HE.out];exact congrArg Sum.inl (if_neg hl0))
    obtain ⟨g,cap,rfl⟩:=Go.Joins.ownsRow_form hO.out (by omega)
    have bl:(l.length:Int)>0:=by omega
    have cS:=Hi (show ∀ w,Calls Tryz.prog 69 #[.string s,.int .i64 (s.size:Int)] w fun e w'=>e=.returned (.int .i64 (colAt s s.size:Nat))∧w=w' from fun w=>cc.out s.size (Nat.le_refl _) w)
    have hbs:w.heap.size≤wq.heap.size:=hb.out.size;go_upto_region 12 with fail
    go_wp2_with (first
     | (at_builtin;refine wpList_append_lies _ rfl (.tmp 58) (.tmp 65) _ rfl w.heap.size 76 i0 _ 4 40 Tryz.underlying61 hi.out hz0.out hz1.out hz2.out rfl (by decide) (.slice (some ⟨g,0,none⟩) l.length cap) l.length (flatT l) rfl (hO.out.alloc _) ⟨wq.heap.size,0,none⟩ 1 1 (tokC 1 ⟨#[10]⟩ no (colAt s s.size:Nat)) rfl rfl (World.news_of_block (heap_alloc_new wq _)) (oc _ rfl) (by decide) (by unfold maxLen;omega) (by omega) (by simp;omega) (wq.heap.size+1) (by simp) ?_;intro gg cap1 w4 hown4 hg4 hat4 hgl4)
     | (go_at_call 69;refine (cS.out _).mono ?_;rintro e w' ⟨rfl,rfl⟩))
    go_ret3
    unfold CutPost;rw [HE2.out];exact ⟨((Below.refl w.heap.size w).trans hb.out).trans (((Below.refl w.heap.size wq).alloc hbs _).grown hg4 (by simp;omega) (fun i hi=>(hO.out.lt i hi).1)),_,rfl,by rw [List.length_append,flatT_snoc];exact hown4⟩
theorem cutR_len (s:ByteArray)(no:Int):∀ (f i:Nat) (l l':List Tk),cutR s no f i l=.inl l'→l.length≤i→i≤s.size→l'.length≤s.size
 | 0,i,l,l',h,hl,hi=>by
   simp only [cutR,Sum.inl.injEq] at h;subst h;omega
 | f+1,i,l,l',h,hl,hi=>by
   unfold cutR at h
   split at h
   ·rename_i hlt;have hb:=tokR_bounds s i hlt
    split at h
    ·simp only [Sum.inl.injEq] at h;subst h;omega
    ·split at h
     ·exact cutR_len s no f (i+1) l l' h (by omega) (by omega)
     ·split at h
      ·cases h
      ·rename_i he;exact cutR_len s no f _ _ l' h (by rw [List.length_append];have:=hb.2 (by simpa using he);simp;omega) hb.1
   ·simp only [Sum.inl.injEq] at h;subst h;omega
theorem lineR_len (s:ByteArray)(no:Int)(l:List Tk)(h:lineR s no=.inl l):l.length≤s.size+1:=by
 unfold lineR at h
 cases hc:cutR s no (s.size+1) 0 [] with
 | inr e=>rw [hc] at h;cases h
 | inl l'=>
   rw [hc] at h;have:=cutR_len s no _ 0 [] l' hc (by simp) (by omega)
   simp only [lineOf,Sum.inl.injEq] at h
   split at h
   ·subst h;simp
   ·subst h;simp;omega
def scanL (s:ByteArray):Nat→Nat→Int→List Tk→List Tk ⊕ (Int×Int×Nat)
 | 0,_,_,acc=>.inl acc
 | f+1,a,no,acc=>if a≤s.size then
  match lineR (s.extract a (a+lineLen ((bs s).drop a))) no with
  | .inr x=>.inr (x.1,no,x.2)
  | .inl l=>scanL s f (a+lineLen ((bs s).drop a)+1) (no+1) (acc++l)
  else .inl acc
def scanR (s:ByteArray):List Tk ⊕ (Int×Int×Nat):=if 16384<s.size then .inr (2,0,0) else scanL s (s.size+2) 0 1 []
def ScanRPost (w:World)(q:List Tk ⊕ (Int×Int×Nat))(e:Ending)(w':World):Prop:=Below w.heap.size w w'∧match q with
 | .inl l=>∃ v,e=.returned (.tuple #[v,.int .i64 0,.int .i64 0,.int .i64 0])∧w'.ownsRow w.heap.size 76 4 v l.length (flatT l)∧l.length≤32770
 | .inr x=>e=.returned (.tuple #[.slice none 0 0,.int .i64 x.1,.int .i64 x.2.1,.int .i64 (x.2.2:Nat)])
theorem flatT_append (a b:List Tk):flatT (a++b)=flatT a++flatT b:=by simp [flatT]
theorem flatT_at (l:List Tk)(k:Nat)(t:Tk)(h:l[k]?=some t)(j:Nat)(u:Value)(hj:t.cells[j]?=some u):(flatT l)[k*4+j]?=some u:=by
 refine flatten_at 4 _ (fun c hc=>?_) k j t.cells u (by rw [List.getElem?_map,h];rfl) hj
 obtain ⟨t,_,rfl⟩:=List.mem_map.1 hc
 rfl
theorem own_tok {w:World}{base g n cap:Nat}{l:List Tk}(h:w.ownsRow base 76 4 (.slice (some ⟨g,0,none⟩) n cap) n (flatT l))(hn:n=l.length)(k:Nat)(t:Tk)(hk:l[k]?=some t)(j:Nat)(u:Value)(hj:t.cells[j]?=some u) :
 w.cell? ⟨g,k*4+j,none⟩=some u:=by
 have hkl:=(List.getElem?_eq_some_iff.1 hk).1;have hjl:j<4:=(List.getElem?_eq_some_iff.1 hj).1;rw [h.cellAt _ (by omega)]
 exact flatT_at l k t hk j u hj
theorem own_ne2 {w w1:World}{b e1 e2 s1 s2 n1 n2:Nat}{v1 v2:Value}{x1 x2:List Value}(h1:w.ownsRow b e1 s1 v1 n1 x1)(h2:w1.ownsRow w.heap.size e2 s2 v2 n2 x2):v2.ownBlock=none∨v2.ownBlock≠v1.ownBlock:=by
 cases hb:v2.ownBlock with
 | none=>exact .inl rfl
 | some g=>
   refine .inr fun hh=>?_
   have:=(h2.lt g hb).1;have:=(h1.lt g hh.symm).2;omega
theorem own_ne3 {w:World}{b e2 s2 n2 g H:Nat}{v1 v2 v':Value}{x2:List Value}(h2:w.ownsRow b e2 s2 v2 n2 x2)(hne:v2.ownBlock=none∨v2.ownBlock≠v1.ownBlock)(hat:v1.ownBlock=some g∨g=H)(hH:w.heap.size≤H)(hv:v'.ownBlock=some g):v2.ownBlock=none∨v2.ownBlock≠v'.ownBlock:=by
 rcases hne with h|h
 ·exact .inl h
 ·refine .inr fun hh=>?_
  rw [hv] at hh;rcases hat with h3|h3
  ·exact h (hh.trans h3.symm)
  ·have:=(h2.lt g hh).2;omega
theorem cutR_err (s:ByteArray)(no:Int):∀ (f i:Nat) (l:List Tk) (x:Int×Nat),cutR s no f i l=.inr x→x.1≠0
 | 0,i,l,x,h=>by simp [cutR] at h
 | f+1,i,l,x,h=>by
   unfold cutR at h
   split at h
   ·split at h
    ·cases h
    ·split at h
     ·exact cutR_err s no f _ _ x h
     ·split at h
      ·rename_i he;simp only [Sum.inr.injEq] at h;subst h;exact he
      ·exact cutR_err s no f _ _ x h
   ·cases h
theorem lineR_err (s:ByteArray)(no:Int)(x:Int×Nat)(h:lineR s no=.inr x):x.1≠0:=by
 unfold lineR at h
 cases hc:cutR s no (s.size+1) 0 [] with
 | inl l=>rw [hc] at h;cases h
 | inr e=>rw [hc] at h;simp only [lineOf,Sum.inr.injEq] at h;subst h;exact cutR_err s no _ _ _ _ hc
theorem r_Scan (s:ByteArray)(w:World)(hT:SignsR w)(hs:s.size≤9223372036854775807) :
 Calls Tryz.prog 30 #[.string s] w fun e w'=>ScanRPost w (scanR s) e w':=by
 by_cases h16:16384<s.size
 ·have H:=Hi (show scanR s=.inr (2,0,0) by unfold scanR;rw [if_pos h16])
  have b16:(s.size:Int)>16384:=by omega
  clear h16;go_enter Tryz.func30,Tryz.ntmps30;go_wp2_with fail
  ((try simp only [Exit.inBlock,Exit.then]);refine bodyPost_ret (results4 rfl _ _ _) rfl ?_)
  unfold ScanRPost;rw [H.out];exact ⟨Below.refl _ _,rfl⟩
 have b16:¬ (s.size:Int)>16384:=by omega
 have H:=Hi (show scanR s=scanL s (s.size+2) 0 1 [] by unfold scanR;rw [if_neg h16])
 have hT:=Hi hT;obtain ⟨i0,hi,hz0,hz1,hz2⟩:=info_parts tok_info;have hi:=Hi hi;have hz0:=Hi hz0;have hz1:=Hi hz1;have hz2:=Hi hz2;obtain ⟨R,hR0⟩:∃ R,R=scanL s (s.size+2) 0 1 []:=⟨_,rfl⟩
 have H:=Hi (H.out.trans hR0.symm);have hR0:=Hi hR0;rw [H.out];clear H;go_enter Tryz.func30,Tryz.ntmps30;go_wp2_with fail
 go_loopw [6,7,8,9] (fun vl nv fv iv wr=>∃ (acc:List Tk) (no:Int) (a i f:Nat),nv=.int .i64 no∧fv=.int .i64 a∧iv=.int .i64 i∧acc.length≤2*a∧s.size+1<a+f∧0≤no∧no≤a+1∧Hid (wr.ownsRow w.heap.size 76 4 vl acc.length (flatT acc))∧Hid (Below w.heap.size w wr) ∧
  ((a≤i∧i≤s.size∧Hid (a+lineLen ((bs s).drop a)=i+lineLen ((bs s).drop i))∧Hid (R=scanL s f a no acc))∨(i=s.size+1∧a=s.size+1∧Hid (R=.inl acc)))) (fun _ _ _ iv _=>s.size+2-(intOf iv).toNat)
 case atStart=>exact ⟨[],1,0,0,s.size+2,rfl,rfl,rfl,by simp,by omega,by omega,by omega,Hi (World.ownsRow_nil _ _ _ _),Hi (Below.refl _ _),.inl ⟨by omega,by omega,Hi rfl,hR0⟩⟩
 case round=>
  obtain ⟨acc,no,a,i,f,rfl,rfl,rfl,hal,hf,hno0,hno1,hO,hb,hcase⟩:=hrel;clear hR0;obtain ⟨wq,rfl⟩:∃ wq,wq=wr:=⟨_,rfl⟩
  rcases hcase with ⟨hai,his,hnl,hR⟩|⟨rfl,rfl,hR⟩
  ·have bi:(i:Int)≤(s.size:Int):=by omega
   by_cases hgo:∃ h:i<s.size,s[i].toNat≠10
   ·obtain ⟨hlt,h10⟩:=hgo;have b10:((s[i].toNat:Int) != 10)=true:=by simp;omega
    have hnl2:=Hi (hnl.out.trans (show _=(i+1)+lineLen ((bs s).drop (i+1)) by rw [bs_drop s i hlt,lineLen,if_neg h10];omega))
    clear hnl h10;go_wp2_with fail
    go_roundw
    case rel=>exact ⟨acc,no,a,i+1,f,rfl,by go_num,by go_num,hal,hf,hno0,hno1,hO,hb,.inl ⟨by omega,by omega,hnl2,hR⟩⟩
    case measure=>simp [intOf];omega
   ·have hz:lineLen ((bs s).drop i)=0:=by
     by_cases hlt:i<s.size
     ·have h10:s[i].toNat=10:=by
       by_cases h:s[i].toNat=10
       ·exact h
       ·exact absurd ⟨hlt,h⟩ hgo
      rw [bs_drop s i hlt,lineLen,if_pos h10]
     ·rw [bs_drop_end s i hlt];rfl
    have hfin:(i<s.size∧∀ h:i<s.size,((s[i].toNat:Int) != 10)=false)∨¬ i<s.size:=by
     by_cases hlt:i<s.size
     ·refine .inl ⟨hlt,fun h=>?_⟩
      have h10:s[i].toNat=10:=by
       by_cases h:s[i].toNat=10
       ·exact h
       ·exact absurd ⟨hlt,h⟩ hgo
      rw [h10];rfl
     ·exact .inr hlt
    have he:a+lineLen ((bs s).drop a)=i:=by rw [hnl.out,hz];omega
    obtain ⟨f,rfl⟩:∃ g,f=g+1:=⟨f-1,by omega⟩
    have hR1:=Hi (hR.out.trans (show _=(match lineR (s.extract a i) no with
     | .inr x=>.inr (x.1,no,x.2)
     | .inl l=>scanL s f (i+1) (no+1) (acc++l)) by rw [scanL,if_pos (by omega),he]))
    have c1:=Hi (r_cut (s.extract a i) no (by have:=size_ext s a i;omega) wq (hT.out.below hb.out))
    have hlen:=fun l h=>lineR_len (s.extract a i) no l h
    have herr:=fun x h=>lineR_err (s.extract a i) no x h
    have hez:(s.extract a i).size=i-a:=by simp [ByteArray.size_extract];omega
    rw [hez] at hlen;have a1:(a:Int)≤(i:Int):=by omega
    clear hnl hR hz he hgo;generalize lineR (s.extract a i) no=q at *
    cases q with
    | inr x=>
      have hR2:=Hi (hR1.out.trans (show _=Sum.inr (x.1,no,x.2) from rfl))
      have be:(x.1 != 0)=true:=by simpa using herr x rfl
      clear hR1 hlen herr;rcases hfin with ⟨hlt,h10⟩|hge
      ·have b10:=h10 hlt;clear h10;go_wp2_with (go_at_call 50;refine c1.out.mono ?_;rintro e w1 ⟨hb1,rfl⟩)
       ((try simp only [Exit.inBlock,Exit.then]);refine bodyPost_ret (results4 rfl _ _ _) rfl ?_)
       unfold ScanRPost;rw [hR2.out];exact ⟨below_sz hb.out hb1,rfl⟩
      ·have bge:¬ (i:Int)<(s.size:Int):=by omega
       go_wp2_with (go_at_call 50;refine c1.out.mono ?_;rintro e w1 ⟨hb1,rfl⟩)
       ((try simp only [Exit.inBlock,Exit.then]);refine bodyPost_ret (results4 rfl _ _ _) rfl ?_)
       unfold ScanRPost;rw [hR2.out];exact ⟨below_sz hb.out hb1,rfl⟩
    | inl l=>
      have hR2:=Hi (hR1.out.trans (show _=scanL s f (i+1) (no+1) (acc++l) from rfl))
      have hll:=hlen l rfl;clear hR1 hlen herr;rcases hfin with ⟨hlt,h10⟩|hge
      ·have b10:=h10 hlt;clear h10;go_upto_region 13 with (go_at_call 50;refine c1.out.mono ?_;rintro e w1 ⟨hb1,v,rfl,hv⟩);have hO1:=Hi (own_below hO.out hb1);have hb2:=Hi (below_sz hb.out hb1);have hne:=Hi (own_ne2 hO.out hv);obtain ⟨vv,hvv⟩:∃ x,x=v:=⟨v,rfl⟩
       have hvh:=Hi hv;rw [← hvv] at hvh hne;have hvv:=Hi hvv;clear hb1;rcases Go.Joins.ownsRow_forms hv with ⟨rfl,hl0⟩|⟨g,cap,rfl⟩
       all_goals (
        go_upto_region 14 with fail
        go_loopw [6,13] (fun vl kv wr=>∃ (k:Nat),k≤l.length∧kv=.int .i64 k∧Hid (wr.ownsRow w.heap.size 76 4 vl (acc.length+k) (flatT (acc++l.take k)))∧Hid (wr.ownsRow wq.heap.size 76 4 vv l.length (flatT l))∧Hid (Value.ownBlock vv=none∨Value.ownBlock vv≠Value.ownBlock vl)∧Hid (Below w.heap.size w wr)) (fun _ kv _=>l.length-(intOf kv).toNat)
        case atStart=>exact ⟨0,Nat.zero_le _,rfl,Hi (by rw [List.take_zero,List.append_nil];exact hO1.out),hvh,hne,hb2⟩
        case round=>
         obtain ⟨k,hk,rfl,hOk,hMk,hnk,hbk⟩:=hrel;obtain ⟨wo,rfl⟩:∃ wo,wo=wr:=⟨_,rfl⟩
         clear hO1 hb2 hne hvh
         by_cases hkl:k<l.length
         ·first|(exfalso;omega;done)|skip
          all_goals (
           have ht:=List.getElem?_eq_getElem hkl;generalize l[k]=t at *;have hMx:=hMk.out;rw [hvv.out] at hMx;have e0:=own_tok hMx rfl k t ht 0 _ rfl;have e1:=own_tok hMx rfl k t ht 1 _ rfl;have e2:=own_tok hMx rfl k t ht 2 _ rfl;have e3:=own_tok hMx rfl k t ht 3 _ rfl;rw [Nat.add_zero] at e0;have hkI:(k:Int)<(l.length:Int):=by omega
           have hbs:w.heap.size≤wo.heap.size:=hbk.out.size;have hft:=Hi (show flatT (acc++l.take (k+1))=flatT (acc++l.take k)++tokC t.kind t.text t.line t.col by rw [List.take_add_one,ht,Option.toList_some,← List.append_assoc,flatT_snoc])
           clear hMx ht;go_wp2_with (at_builtin;refine wpList_append_lies _ rfl (.tmp 54) (.tmp 59) _ rfl w.heap.size 76 i0 _ 4 40 Tryz.underlying61 hi.out hz0.out hz1.out hz2.out rfl (by decide) u6 (acc.length+k) (flatT (acc++l.take k)) rfl (hOk.out.alloc _) ⟨wo.heap.size,0,none⟩ 1 1 (tokC t.kind t.text t.line t.col) rfl rfl (World.news_of_block (heap_alloc_new wo _)) (oc _ rfl) (by decide) (by unfold maxLen;omega) (by omega) (by simp;omega) (wo.heap.size+1) (by simp) ?_;intro gg cap1 w4 hown4 hg4 hat4 hgl4)
           refine ⟨⟨k+1,by omega,by go_num,Hi ?_,Hi ((hMk.out.alloc _).kept hg4 hnk.out),Hi (own_ne3 hMk.out hnk.out hat4 (by omega) rfl),Hi (hbk.out.trans (((Below.refl w.heap.size wo).alloc hbs _).grown hg4 (by simp;omega) (fun i hi=>(hOk.out.lt i hi).1)))⟩,?_⟩
           ·rw [hft.out];exact hown4
           ·simp [intOf];omega)
         ·have hk2:k=l.length:=by omega
          subst hk2
          have hO9:=Hi (show wo.ownsRow w.heap.size 76 4 u6 (acc++l).length (flatT (acc++l)) by
           have:=hOk.out;rw [List.take_length] at this;rw [List.length_append];exact this)
          go_wp2_with fail
          go_roundw
          case rel=>
           refine ⟨acc++l,no+1,i+1,i+1,f,by go_num,by go_num,by go_num,by rw [List.length_append];omega,by omega,by omega,by omega,hO9,hbk,?_⟩
           by_cases hlt2:i<s.size
           ·exact .inl ⟨by omega,by omega,Hi rfl,hR2⟩
           ·refine .inr ⟨by omega,by omega,Hi (hR2.out.trans ?_)⟩
            cases f with
            | zero=>rfl
            | succ f=>rw [scanL,if_neg (by omega)]
          case measure=>simp [intOf];omega)
      ·have bge:¬ (i:Int)<(s.size:Int):=by omega
       go_upto_region 13 with (go_at_call 50;refine c1.out.mono ?_;rintro e w1 ⟨hb1,v,rfl,hv⟩);have hO1:=Hi (own_below hO.out hb1);have hb2:=Hi (below_sz hb.out hb1);have hne:=Hi (own_ne2 hO.out hv);obtain ⟨vv,hvv⟩:∃ x,x=v:=⟨v,rfl⟩
       have hvh:=Hi hv;rw [← hvv] at hvh hne;have hvv:=Hi hvv;clear hb1;rcases Go.Joins.ownsRow_forms hv with ⟨rfl,hl0⟩|⟨g,cap,rfl⟩
       all_goals (
        go_upto_region 14 with fail
        go_loopw [6,13] (fun vl kv wr=>∃ (k:Nat),k≤l.length∧kv=.int .i64 k∧Hid (wr.ownsRow w.heap.size 76 4 vl (acc.length+k) (flatT (acc++l.take k)))∧Hid (wr.ownsRow wq.heap.size 76 4 vv l.length (flatT l))∧Hid (Value.ownBlock vv=none∨Value.ownBlock vv≠Value.ownBlock vl)∧Hid (Below w.heap.size w wr)) (fun _ kv _=>l.length-(intOf kv).toNat)
        case atStart=>exact ⟨0,Nat.zero_le _,rfl,Hi (by rw [List.take_zero,List.append_nil];exact hO1.out),hvh,hne,hb2⟩
        case round=>
         obtain ⟨k,hk,rfl,hOk,hMk,hnk,hbk⟩:=hrel;obtain ⟨wo,rfl⟩:∃ wo,wo=wr:=⟨_,rfl⟩
         clear hO1 hb2 hne hvh
         by_cases hkl:k<l.length
         ·first|(exfalso;omega;done)|skip
          all_goals (
           have ht:=List.getElem?_eq_getElem hkl;generalize l[k]=t at *;have hMx:=hMk.out;rw [hvv.out] at hMx;have e0:=own_tok hMx rfl k t ht 0 _ rfl;have e1:=own_tok hMx rfl k t ht 1 _ rfl;have e2:=own_tok hMx rfl k t ht 2 _ rfl;have e3:=own_tok hMx rfl k t ht 3 _ rfl;rw [Nat.add_zero] at e0;have hkI:(k:Int)<(l.length:Int):=by omega
           have hbs:w.heap.size≤wo.heap.size:=hbk.out.size;have hft:=Hi (show flatT (acc++l.take (k+1))=flatT (acc++l.take k)++tokC t.kind t.text t.line t.col by rw [List.take_add_one,ht,Option.toList_some,← List.append_assoc,flatT_snoc])
           clear hMx ht;go_wp2_with (at_builtin;refine wpList_append_lies _ rfl (.tmp 54) (.tmp 59) _ rfl w.heap.size 76 i0 _ 4 40 Tryz.underlying61 hi.out hz0.out hz1.out hz2.out rfl (by decide) u6 (acc.length+k) (flatT (acc++l.take k)) rfl (hOk.out.alloc _) ⟨wo.heap.size,0,none⟩ 1 1 (tokC t.kind t.text t.line t.col) rfl rfl (World.news_of_block (heap_alloc_new wo _)) (oc _ rfl) (by decide) (by unfold maxLen;omega) (by omega) (by simp;omega) (wo.heap.size+1) (by simp) ?_;intro gg cap1 w4 hown4 hg4 hat4 hgl4)
           refine ⟨⟨k+1,by omega,by go_num,Hi ?_,Hi ((hMk.out.alloc _).kept hg4 hnk.out),Hi (own_ne3 hMk.out hnk.out hat4 (by omega) rfl),Hi (hbk.out.trans (((Below.refl w.heap.size wo).alloc hbs _).grown hg4 (by simp;omega) (fun i hi=>(hOk.out.lt i hi).1)))⟩,?_⟩
           ·rw [hft.out];exact hown4
           ·simp [intOf];omega)
         ·have hk2:k=l.length:=by omega
          subst hk2
          have hO9:=Hi (show wo.ownsRow w.heap.size 76 4 u6 (acc++l).length (flatT (acc++l)) by
           have:=hOk.out;rw [List.take_length] at this;rw [List.length_append];exact this)
          go_wp2_with fail
          go_roundw
          case rel=>
           refine ⟨acc++l,no+1,i+1,i+1,f,by go_num,by go_num,by go_num,by rw [List.length_append];omega,by omega,by omega,by omega,hO9,hbk,?_⟩
           by_cases hlt2:i<s.size
           ·exact .inl ⟨by omega,by omega,Hi rfl,hR2⟩
           ·refine .inr ⟨by omega,by omega,Hi (hR2.out.trans ?_)⟩
            cases f with
            | zero=>rfl
            | succ f=>rw [scanL,if_neg (by omega)]
          case measure=>simp [intOf];omega)
  ·go_wp2_with fail
   ((try simp only [Exit.inBlock,Exit.then]);refine bodyPost_ret (results4 rfl _ _ _) rfl ?_)
   unfold ScanRPost;rw [hR.out];exact ⟨hb.out,_,rfl,hO.out,by omega⟩
def valOf (s:ByteArray)(o:Option Nat):Int×Int:=if 16384<s.size then (0,2) else match o with
 | none=>(0,31)
 | some v=>((v:Nat),0)
theorem val_ret {x:Int×Int}{a b:Int}(h:x=(a,b)):Ending.returned (.tuple #[.int .i64 a,.int .i64 b])=Ending.returned (.tuple #[.int .i64 x.1,.int .i64 x.2]):=by rw [h]
theorem r_Value (s:ByteArray)(hs:s.size≤9223372036854775807)(w:World):Calls Tryz.prog 51 #[.string s] w fun e w'=>e=.returned (.tuple #[.int .i64 (valOf s (numR s)).1,.int .i64 (valOf s (numR s)).2])∧Qt w w':=by
 by_cases h16:16384<s.size
 ·have H:=Hi (show valOf s (numR s)=(0,2) by unfold valOf;rw [if_pos h16])
  have b16:(s.size:Int)>16384:=by omega
  clear h16;go_enter Tryz.func51,Tryz.ntmps51;go_wp2_with fail;go_ret2;exact ⟨val_ret H.out,Qt.refl _⟩
 ·have H:=Hi (show valOf s (numR s)=_ by unfold valOf;rw [if_neg h16])
  have b16:¬ (s.size:Int)>16384:=by omega
  have cn:=Hi (fun w=>r_number s (by omega) w)
  clear h16
  cases hn:numR s with
  | none=>
    have H2:=Hi (H.out.trans (show _=((0:Int),(31:Int)) by rw [hn]))
    have cn2:=Hi (show ∀ w,Calls Tryz.prog 70 #[.string s] w fun e w'=>e=.returned (.int .i64 (-1))∧Qt w w' from fun w=>by have:=cn.out w;rw [hn] at this;exact this)
    rw [hn] at H2;clear H cn hn;go_enter Tryz.func51,Tryz.ntmps51;go_wp2_with (go_at_call 70;refine (cn2.out _).mono ?_;rintro e w' ⟨rfl,hq⟩);go_ret2;exact ⟨val_ret H2.out,hq⟩
  | some v=>
    have H2:=Hi (H.out.trans (show _=(((v:Nat):Int),(0:Int)) by rw [hn]))
    have cn2:=Hi (show ∀ w,Calls Tryz.prog 70 #[.string s] w fun e w'=>e=.returned (.int .i64 (v:Nat))∧Qt w w' from fun w=>by have:=cn.out w;rw [hn] at this;exact this)
    rw [hn] at H2;clear H cn hn;go_enter Tryz.func51,Tryz.ntmps51;go_wp2_with (go_at_call 70;refine (cn2.out _).mono ?_;rintro e w' ⟨rfl,hq⟩);go_ret2;exact ⟨val_ret H2.out,hq⟩
theorem p_Value (s:ByteArray)(hs:s.size≤9223372036854775807)(w:World)(E:Env w):Calls Tryz.prog 65 #[.string s] w fun e w'=>e=.returned (.tuple #[.int .i64 (valOf s (numS s)).1,.int .i64 (valOf s (numS s)).2])∧Below w.heap.size w w':=by
 by_cases h16:16384<s.size
 ·have H:=Hi (show valOf s (numS s)=(0,2) by unfold valOf;rw [if_pos h16])
  have b16:(s.size:Int)>16384:=by omega
  clear h16 E;go_enter Tryz.func65,Tryz.ntmps65;go_wp2_with fail;go_ret2;exact ⟨val_ret H.out,Below.refl _ _⟩
 ·have H:=Hi (show valOf s (numS s)=_ by unfold valOf;rw [if_neg h16])
  have b16:¬ (s.size:Int)>16384:=by omega
  have cn:=Hi (number_any s (by omega) w E)
  clear h16 E;generalize numS s=o at *
  cases o with
  | none=>
    have cn2:=Hi (show Calls Tryz.prog 83 #[.string s] w fun e w'=>e=.returned (.tuple #[.int .i64 0,.bool false])∧Below w.heap.size w w' from cn.out)
    have H2:=Hi (H.out.trans (show _=((0:Int),(31:Int)) from rfl))
    clear H cn;go_enter Tryz.func65,Tryz.ntmps65;go_wp2_with (go_at_call 83;refine cn2.out.mono ?_;rintro e w' ⟨rfl,hb⟩);go_ret2;exact ⟨val_ret H2.out,hb⟩
  | some v=>
    have cn2:=Hi (show Calls Tryz.prog 83 #[.string s] w fun e w'=>e=.returned (.tuple #[.int .i64 (v:Nat),.bool true])∧Below w.heap.size w w' from cn.out)
    have H2:=Hi (H.out.trans (show _=(((v:Nat):Int),(0:Int)) from rfl))
    clear H cn;go_enter Tryz.func65,Tryz.ntmps65;go_wp2_with (go_at_call 83;refine cn2.out.mono ?_;rintro e w' ⟨rfl,hb⟩);go_ret2;exact ⟨val_ret H2.out,hb⟩
def unqOf (s:ByteArray)(q:ByteArray×Nat×Int):ByteArray×Int×Nat:=
 if 16384<s.size then (⟨#[]⟩,2,0) else if (bs s)[0]?≠some 34 then (⟨#[]⟩,32,0) else
 if q.2.2≠0 then (⟨#[]⟩,q.2.2,q.2.1) else if q.2.1<s.size then (⟨#[]⟩,32,q.2.1) else if 256<q.1.size then (⟨#[]⟩,37,0) else (q.1,0,0)
theorem unq_ret {x:ByteArray×Int×Nat}{t:ByteArray}{a b:Int}(h:x.1=t∧x.2.1=a∧(x.2.2:Int)=b):Ending.returned (.tuple #[.string t,.int .i64 a,.int .i64 b])=Ending.returned (.tuple #[.string x.1,.int .i64 x.2.1,.int .i64 (x.2.2:Nat)]):=by
 rw [← h.1,← h.2.1,← h.2.2]
abbrev insQ (s:ByteArray):ByteArray×Nat×Int:=insR s (s.size+1) 1 ⟨#[]⟩
theorem r_Unquote (s:ByteArray)(hs:s.size≤9223372036854775807)(w:World):Calls Tryz.prog 73 #[.string s] w fun e w'=>e=.returned (.tuple #[.string (unqOf s (insQ s)).1,.int .i64 (unqOf s (insQ s)).2.1,.int .i64 ((unqOf s (insQ s)).2.2:Nat)])∧Below w.heap.size w w':=by
 by_cases h16:16384<s.size
 ·have H:=Hi (show unqOf s (insQ s)=(⟨#[]⟩,2,0) by unfold unqOf;rw [if_pos h16])
  have b16:(s.size:Int)>16384:=by omega
  clear h16;go_enter Tryz.func73,Tryz.ntmps73;go_wp2_with fail
  go_ret3
  exact ⟨unq_ret (by rw [H.out];exact ⟨rfl,rfl,rfl⟩),Below.refl _ _⟩
 have b16:¬ (s.size:Int)>16384:=by omega
 by_cases h0:s.size=0
 ·have H:=Hi (show unqOf s (insQ s)=(⟨#[]⟩,32,0) by unfold unqOf;rw [if_neg h16,if_pos (by rw [bs_none s 0 (by omega)];simp)])
  have he:=emp_true s h0;clear h0 h16;go_enter Tryz.func73,Tryz.ntmps73;go_wp2_with fail
  go_ret3
  exact ⟨unq_ret (by rw [H.out];exact ⟨rfl,rfl,rfl⟩),Below.refl _ _⟩
 have he:=emp_false s h0;have hpos:0<s.size:=by omega
 by_cases h34:s[0].toNat=34
 ·have H:=Hi (show unqOf s (insQ s)=_ by unfold unqOf;rw [if_neg h16,if_neg (by rw [byte_eq s 0 hpos];simpa using h34)])
  have b34:((s[0].toNat:Int) != 34)=false:=by rw [h34];rfl
  have ci:=Hi (show Calls Tryz.prog 97 #[.string s,.int .i64 0] w fun e w'=>e=.returned (.tuple #[.string (insQ s).1,.int .i64 ((insQ s).2.1:Nat),.int .i64 (insQ s).2.2])∧Below w.heap.size w w' from r_inside s 0 hpos (by omega) w)
  clear h34 h16 h0;rw [H.out];clear H;generalize insQ s=q at *;obtain ⟨t,j,e⟩:=q;dsimp only at *
  by_cases hE:e=0
  ·subst hE
   by_cases hj:j<s.size
   ·have bj:(j:Int)<(s.size:Int):=by omega
    have H:=Hi (show (if (0:Int)≠0 then ((⟨#[]⟩:ByteArray),(0:Int),j) else if j<s.size then (⟨#[]⟩,32,j) else if 256<t.size then (⟨#[]⟩,37,0) else (t,0,0))=(⟨#[]⟩,32,j) by rw [if_neg (by simp),if_pos hj])
    rw [H.out];clear H hj;go_enter Tryz.func73,Tryz.ntmps73;go_wp2_with (go_at_call 97;refine ci.out.mono ?_;rintro e w' ⟨rfl,hb⟩)
    go_ret3
    exact ⟨rfl,hb⟩
   ·have bj:¬ (j:Int)<(s.size:Int):=by omega
    by_cases hz:256<t.size
    ·have bz:(t.size:Int)>256:=by omega
     have H:=Hi (show (if (0:Int)≠0 then ((⟨#[]⟩:ByteArray),(0:Int),j) else if j<s.size then (⟨#[]⟩,32,j) else if 256<t.size then (⟨#[]⟩,37,0) else (t,0,0))=(⟨#[]⟩,37,0) by rw [if_neg (by simp),if_neg hj,if_pos hz])
     rw [H.out];clear H hj hz;go_enter Tryz.func73,Tryz.ntmps73;go_wp2_with (go_at_call 97;refine ci.out.mono ?_;rintro e w' ⟨rfl,hb⟩)
     go_ret3
     exact ⟨rfl,hb⟩
    ·have bz:¬ (t.size:Int)>256:=by omega
     have H:=Hi (show (if (0:Int)≠0 then ((⟨#[]⟩:ByteArray),(0:Int),j) else if j<s.size then (⟨#[]⟩,32,j) else if 256<t.size then (⟨#[]⟩,37,0) else (t,0,0))=(t,0,0) by rw [if_neg (by simp),if_neg hj,if_neg hz])
     rw [H.out];clear H hj hz;go_enter Tryz.func73,Tryz.ntmps73;go_wp2_with (go_at_call 97;refine ci.out.mono ?_;rintro e w' ⟨rfl,hb⟩)
     go_ret3
     exact ⟨rfl,hb⟩
  ·have be:(e != 0)=true:=by simpa using hE
   have H:=Hi (show (if e≠0 then ((⟨#[]⟩:ByteArray),e,j) else if j<s.size then (⟨#[]⟩,32,j) else if 256<t.size then (⟨#[]⟩,37,0) else (t,0,0))=(⟨#[]⟩,e,j) by rw [if_pos hE])
   rw [H.out];clear H hE;go_enter Tryz.func73,Tryz.ntmps73;go_wp2_with (go_at_call 97;refine ci.out.mono ?_;rintro e w' ⟨rfl,hb⟩)
   go_ret3
   exact ⟨rfl,hb⟩
 ·have H:=Hi (show unqOf s (insQ s)=(⟨#[]⟩,32,0) by unfold unqOf;rw [if_neg h16,if_pos (by rw [byte_eq s 0 hpos];simpa using h34)])
  have b34:((s[0].toNat:Int) != 34)=true:=by simp;omega
  clear h34 h0 h16;go_enter Tryz.func73,Tryz.ntmps73;go_wp2_with fail
  go_ret3
  exact ⟨unq_ret (by rw [H.out];exact ⟨rfl,rfl,rfl⟩),Below.refl _ _⟩
abbrev spkQ (s:ByteArray):ByteArray×Nat×Int:=(strOfNums (speakS s false (s.size+1) 1 []).1,(speakS s false (s.size+1) 1 []).2.1,(speakS s false (s.size+1) 1 []).2.2)
theorem conv_own {w:World}{base n:Nat}{v:Value}{xs:List Int}(h:w.ownsRow base 5 1 v n (u8s xs))(hn:n=xs.length):(convert 144 9 v).run Tryz.prog w=.ok (.string (strOfNums xs)) w:=by
 rcases Go.Joins.ownsRow_forms h with ⟨rfl,h0⟩|⟨g,cap,rfl⟩
 ·have:xs=[]:=List.length_eq_zero_iff.1 (by omega)
  subst this;have:=run_convert_bytes_nil (P:=Tryz.prog) w 144 5 Tryz.underlying144 Tryz.underlying5 0 0 9 Tryz.underlying9;exact this
 ·exact run_convert_bytes_arg (P:=Tryz.prog) w 144 5 Tryz.underlying144 Tryz.underlying5 g 0 n cap xs hn.symm (fun i hi=>by
   rw [Nat.zero_add,h.cellAt i (by omega)]
   simp only [u8s,List.getElem?_map,List.getElem?_eq_getElem (show i<xs.length by omega),Option.map_some]
   simp [List.getD,List.getElem?_eq_getElem (show i<xs.length by omega)]) 9 Tryz.underlying9
theorem strOfNums_size (l:List Int):(strOfNums l).size=l.length:=by simp [strOfNums,ByteArray.size]
theorem p_Unquote (s:ByteArray)(hs:s.size≤9223372036854775807)(w:World)(E:Env w):Calls Tryz.prog 183 #[.string s] w fun e w'=>e=.returned (.tuple #[.string (unqOf s (spkQ s)).1,.int .i64 (unqOf s (spkQ s)).2.1,.int .i64 ((unqOf s (spkQ s)).2.2:Nat)])∧Below w.heap.size w w':=by
 by_cases h16:16384<s.size
 ·have H:=Hi (show unqOf s (spkQ s)=(⟨#[]⟩,2,0) by unfold unqOf;rw [if_pos h16])
  have b16:(s.size:Int)>16384:=by omega
  clear h16 E;go_enter Tryz.func183,Tryz.ntmps183;go_wp2_with fail
  go_ret3
  exact ⟨unq_ret (by rw [H.out];exact ⟨rfl,rfl,rfl⟩),Below.refl _ _⟩
 have b16:¬ (s.size:Int)>16384:=by omega
 by_cases h0:s.size=0
 ·have H:=Hi (show unqOf s (spkQ s)=(⟨#[]⟩,32,0) by unfold unqOf;rw [if_neg h16,if_pos (by rw [bs_none s 0 (by omega)];simp)])
  have he:=emp_true s h0;clear h0 h16 E;go_enter Tryz.func183,Tryz.ntmps183;go_wp2_with fail
  go_ret3
  exact ⟨unq_ret (by rw [H.out];exact ⟨rfl,rfl,rfl⟩),Below.refl _ _⟩
 have he:=emp_false s h0;have hpos:0<s.size:=by omega
 by_cases h34:s[0].toNat=34
 ·have H:=Hi (show unqOf s (spkQ s)=_ by unfold unqOf;rw [if_neg h16,if_neg (by rw [byte_eq s 0 hpos];simpa using h34)])
  have b34:((s[0].toNat:Int) != 34)=false:=by rw [h34];rfl
  have ci:=Hi (speak_any s false hpos (by omega) w E)
  clear h34 h16 h0 E;rw [H.out];clear H;unfold spkQ;generalize speakS s false (s.size+1) 1 []=q at *;obtain ⟨l,j,e⟩:=q;have ci:=Hi (show Calls Tryz.prog 86 #[.string s,.bool false] w fun e' w'=>∃ sv,e'=.returned (.tuple #[sv,.int .i64 (j:Nat),.int .i64 e])∧w'.ownsRow w.heap.size 5 1 sv l.length (u8s l)∧Below w.heap.size w w' from ci.out)
  dsimp only at *;have hts:=strOfNums_size l
  by_cases hE:e=0
  ·subst hE
   by_cases hj:j<s.size
   ·have bj:(j:Int)<(s.size:Int):=by omega
    have H:=Hi (show (if (0:Int)≠0 then ((⟨#[]⟩:ByteArray),(0:Int),j) else if j<s.size then (⟨#[]⟩,32,j) else if 256<(strOfNums l).size then (⟨#[]⟩,37,0) else (strOfNums l,0,0))=(⟨#[]⟩,32,j) by rw [if_neg (by simp),if_pos hj])
    rw [H.out];clear H hj;go_enter Tryz.func183,Tryz.ntmps183;go_wp2_with (go_at_call 86;refine ci.out.mono ?_;rintro e w' ⟨sv,rfl,ho,hb⟩)
    go_ret3
    exact ⟨rfl,hb⟩
   ·have bj:¬ (j:Int)<(s.size:Int):=by omega
    by_cases hz:256<(strOfNums l).size
    ·have bz:(l.length:Int)>256:=by omega
     have H:=Hi (show (if (0:Int)≠0 then ((⟨#[]⟩:ByteArray),(0:Int),j) else if j<s.size then (⟨#[]⟩,32,j) else if 256<(strOfNums l).size then (⟨#[]⟩,37,0) else (strOfNums l,0,0))=(⟨#[]⟩,37,0) by rw [if_neg (by simp),if_neg hj,if_pos hz])
     rw [H.out];clear H hj;go_enter Tryz.func183,Tryz.ntmps183;go_upto_region 6 with (go_at_call 86;refine ci.out.mono ?_;rintro e w' ⟨sv,rfl,ho,hb⟩);obtain ⟨g,cap,rfl⟩:=Go.Joins.ownsRow_form ho (by omega)
     go_wp2_with fail
     go_ret3
     exact ⟨rfl,hb⟩
    ·have bz:¬ (l.length:Int)>256:=by omega
     have H:=Hi (show (if (0:Int)≠0 then ((⟨#[]⟩:ByteArray),(0:Int),j) else if j<s.size then (⟨#[]⟩,32,j) else if 256<(strOfNums l).size then (⟨#[]⟩,37,0) else (strOfNums l,0,0))=(strOfNums l,0,0) by rw [if_neg (by simp),if_neg hj,if_neg hz])
     rw [H.out];clear H hj hz;go_enter Tryz.func183,Tryz.ntmps183;go_upto_region 6 with (go_at_call 86;refine ci.out.mono ?_;rintro e w' ⟨sv,rfl,ho,hb⟩);have hcv:=conv_own ho rfl;rcases Go.Joins.ownsRow_forms ho with ⟨rfl,hl0⟩|⟨g,cap,rfl⟩
     all_goals (
      go_wp2_with fail
      go_ret3
      exact ⟨rfl,hb⟩)
  ·have be:(e != 0)=true:=by simpa using hE
   have be2:(e == 0)=false:=by rw [beq_eq_false_iff_ne];exact hE
   have H:=Hi (show (if e≠0 then ((⟨#[]⟩:ByteArray),e,j) else if j<s.size then (⟨#[]⟩,32,j) else if 256<(strOfNums l).size then (⟨#[]⟩,37,0) else (strOfNums l,0,0))=(⟨#[]⟩,e,j) by rw [if_pos hE])
   rw [H.out];clear H hE;go_enter Tryz.func183,Tryz.ntmps183;go_wp2_with (go_at_call 86;refine ci.out.mono ?_;rintro e w' ⟨sv,rfl,ho,hb⟩)
   go_ret3
   exact ⟨rfl,hb⟩
 ·have H:=Hi (show unqOf s (spkQ s)=(⟨#[]⟩,32,0) by unfold unqOf;rw [if_neg h16,if_pos (by rw [byte_eq s 0 hpos];simpa using h34)])
  have b34:((s[0].toNat:Int) != 34)=true:=by simp;omega
  clear h34 h0 h16 E;go_enter Tryz.func183,Tryz.ntmps183;go_wp2_with fail
  go_ret3
  exact ⟨unq_ret (by rw [H.out];exact ⟨rfl,rfl,rfl⟩),Below.refl _ _⟩
end Go.Proofs.YtjokciofeicdkaaGreatDoor
