/- A part of the proof of RunParses: Base Spec. -/
import Derived.Test.YtjokciofeicdkaaGreatDoorProg
import Derived.WalkKit
import Derived.WalkSpells
import Derived.WalkLawsBesides
import Derived.Lib.Hide
import Derived.Deep.DeepCutAuto
import Derived.Deep.QuietTactic
import Derived.BigQuiet
import Derived.Lib.Strings
set_option maxHeartbeats 16000000
set_option maxRecDepth 100000
set_option linter.all false
namespace Go.Proofs.YtjokciofeicdkaaGreatDoor
open Go.RowKit
theorem Hi {p:Prop}(h:p):Hid p:=Lib.hid h
theorem wS (i:Nat)(h:i<9223372036854775807):IntKind.i64.wrap ((i:Int)+1)=(i:Int)+1:=IntWalk.i64_in _ (by omega)
theorem oc (l:List Value)(h:(l.all fun u=>u.oneCell')=true):∀ u∈l,u.oneCell'=true:=List.all_eq_true.1 h
theorem ret_bool {a b:Bool}(h:a=b):Ending.returned (.bool a)=.returned (.bool b):=by rw [h]
theorem ret_int {k:IntKind}{a b:Int}(h:a=b):Ending.returned (.int k a)=.returned (.int k b):=by rw [h]
theorem val_bool {a b:Bool}(h:a=b):Value.bool a=.bool b:=by rw [h]
theorem results4 {fn:Func}{t u v x:Tmp}(h:fn.results = #[.tmp t,.tmp u,.tmp v,.tmp x])(tmps:Array Value)(P:Program)(w:World) :
 (results fn tmps).run P w=.ok (.tuple #[tmps.getD t undef,tmps.getD u undef,tmps.getD v undef,tmps.getD x undef]) w:=by simp [results,h]
def Qt (w w':World):Prop:=∃ n,w'=w.drewN n
theorem Qt.refl (w:World):Qt w w:=⟨0,by simp [World.drewN]⟩
theorem Qt.self (w:World)(n:Nat):Qt w (w.drewN n):=⟨n,rfl⟩
theorem Qt.trans {a b c:World}(h:Qt a b)(k:Qt b c):Qt a c:=by
 obtain ⟨n,rfl⟩:=h;obtain ⟨m,rfl⟩:=k;exact ⟨n+m,by simp [World.drewN_drewN]⟩
theorem below_drewN {B:Nat}{a w:World}(h:Below B a w)(n:Nat):Below B a (w.drewN n):=⟨h.os,h.tape,h.output,h.size,h.block⟩
theorem Qt.below {a b:World}(h:Qt a b)(B:Nat):Below B a b:=by
 obtain ⟨n,rfl⟩:=h;exact below_drewN (Below.refl _ _) n
theorem flatten_at (size:Nat):∀ (cs:List (List Value)),(∀ c∈cs,c.length=size)→∀ (i j:Nat) (c:List Value) (u:Value),
 cs[i]?=some c→c[j]?=some u→cs.flatten[i*size+j]?=some u
 | [],_,i,j,c,u,h,_=>by simp at h
 | d::cs,hs,0,j,c,u,h,hu=>by
   simp only [List.getElem?_cons_zero,Option.some.injEq] at h;subst h;have:j<d.length:=(List.getElem?_eq_some_iff.1 hu).1;rw [List.flatten_cons,Nat.zero_mul,Nat.zero_add,List.getElem?_append_left this];exact hu
 | d::cs,hs,i+1,j,c,u,h,hu=>by
   simp only [List.getElem?_cons_succ] at h;have hd:d.length=size:=hs d (by simp)
   have hrec:=flatten_at size cs (fun c hc=>hs c (by simp [hc])) i j c u h hu
   rw [List.flatten_cons,List.getElem?_append_right (by rw [hd,Nat.add_mul];omega),hd]
   rw [show (i+1)*size+j-size=i*size+j by rw [Nat.add_mul];omega]
   exact hrec
theorem drop_at {α : Type}{l:List α}{k:Nat}{x : α}(h:l[k]?=some x):l.drop k=x::l.drop (k+1):=by
 obtain ⟨hk,rfl⟩:=List.getElem?_eq_some_iff.1 h;exact List.drop_eq_getElem_cons hk
theorem drop_end {α : Type}{l:List α}{k:Nat}(h:¬ k<l.length):l.drop k=[]:=List.drop_eq_nil_of_le (by omega)
abbrev Bytes:=List UInt8
def bs (s:ByteArray):Bytes:=s.data.toList
theorem bs_length (s:ByteArray):(bs s).length=s.size:=rfl
theorem bs_at (s:ByteArray)(k:Nat)(h:k<s.size):(bs s)[k]?=some s[k]:=by
 show s.data.toList[k]?=_
 rw [List.getElem?_eq_getElem (by simpa using h)];rfl
theorem bs_drop (s:ByteArray)(k:Nat)(h:k<s.size):(bs s).drop k=s[k]::(bs s).drop (k+1):=drop_at (bs_at s k h)
theorem bs_drop_end (s:ByteArray)(k:Nat)(h:¬ k<s.size):(bs s).drop k=[]:=drop_end (by simpa [bs_length] using h)
def letterN (n:Nat):Bool:=decide (n=95∨(97≤n∧n≤122)∨(65≤n∧n≤90))
def digitN (n:Nat):Bool:=decide (48≤n∧n≤57)
def letterU (c:UInt8):Bool:=letterN c.toNat
def digitU (c:UInt8):Bool:=digitN c.toNat
def wordU (c:UInt8):Bool:=letterU c || digitU c
def classN (n:Nat):Int:=
 if n=32∨n=9∨n=13 then 2 else if n=10 then 3 else if n=35 then 4 else if n=37 then 7 else if n=34 then 8
 else if n=95∨(97≤n∧n≤122)∨(65≤n∧n≤90) then 5 else if 48≤n∧n≤57 then 6 else 0
def classL:Bytes→Int
 | []=>1
 | c::_=>classN c.toNat
theorem class_letter (n:Nat):(classN n=5)↔letterN n=true:=by
 unfold classN letterN;simp only [decide_eq_true_eq];(repeat' split)<;>omega
theorem class_digit (n:Nat):(classN n=6)↔digitN n=true:=by
 unfold classN digitN;simp only [decide_eq_true_eq];(repeat' split)<;>omega
def wordL (l:Bytes):Bool:=classL l == 5 || classL l == 6
theorem wordL_cons (c:UInt8)(r:Bytes):wordL (c::r)=wordU c:=by
 rw [Bool.eq_iff_iff];simp only [wordL,classL,wordU,letterU,digitU,Bool.or_eq_true,beq_iff_eq,class_letter,class_digit]
def wordLen:Bytes→Nat
 | []=>0
 | c::r=>if wordU c then wordLen r+1 else 0
theorem wordLen_le:∀ l:Bytes,wordLen l≤l.length
 | []=>Nat.le_refl _
 | c::r=>by have:=wordLen_le r;unfold wordLen;split<;>simp<;>omega
def numLen:Bytes→Nat
 | []=>0
 | c::r=>if wordU c || (c.toNat == 46 && classL r == 6) then numLen r+1 else 0
theorem numLen_le:∀ l:Bytes,numLen l≤l.length
 | []=>Nat.le_refl _
 | c::r=>by have:=numLen_le r;unfold numLen;split<;>simp<;>omega
def nm:Bool→Bytes→Bool
 | _,[]=>true
 | f,c::r=>if !letterU c && (f || !digitU c) then false else nm false r
def isName (l:Bytes):Bool:=decide (1≤l.length) && (decide (l.length≤24) && nm true l)
theorem bs_extract (s:ByteArray)(a b:Nat):bs (s.extract a b)=((bs s).drop a).take (b-a):=Lib.extract_data s a b
theorem bs_take (s:ByteArray)(k:Nat):bs (s.extract 0 k)=(bs s).take k:=by rw [bs_extract];rfl
theorem bs_from (s:ByteArray)(k:Nat):bs (s.extract k s.size)=(bs s).drop k:=by
 rw [bs_extract,List.take_of_length_le (by simp [bs_length])]
theorem isName_out (s:ByteArray)(h:s.size<1∨24<s.size):isName (bs s)=false:=by
 unfold isName;rw [bs_length];rcases h with h|h
 ·rw [decide_eq_false (by omega)];rfl
 ·rw [decide_eq_false (show ¬ s.size≤24 by omega)];simp
theorem isName_in (s:ByteArray)(h1:¬ s.size<1)(h2:¬ 24<s.size):isName (bs s)=nm true (bs s):=by
 unfold isName;rw [bs_length,decide_eq_true (show 1≤s.size by omega),decide_eq_true (show s.size≤24 by omega)];rfl
end Go.Proofs.YtjokciofeicdkaaGreatDoor
