/- A part of the proof of DeltaLines: Base Spec Str1. -/
import Derived.Test.YtdhehcobnbcmdaaGreatDoorProg
import Derived.WalkKit
import Derived.WalkSpells
import Derived.WalkLawsBesides
import Derived.Lib.Hide
import Derived.Deep.DeepCutAuto
import Derived.Deep.QuietTactic
import Derived.BigQuiet
import Derived.Lib.Strings
set_option linter.all false
namespace Go.Proofs.YtdhehcobnbcmdaaGreatDoor
open Go.RowKit
theorem ret_bool {a b:Bool}(h:a=b):Ending.returned (.bool a)=.returned (.bool b):=by rw [h]
theorem ret_int {k:IntKind}{a b:Int}(h:a=b):Ending.returned (.int k a)=.returned (.int k b):=by rw [h]
theorem val_bool {a b:Bool}(h:a=b):Value.bool a=.bool b:=by rw [h]
theorem results4 {fn:Func}{t u v x:Tmp}(h:fn.results = #[.tmp t, .tmp u, .tmp v, .tmp x])(tmps:Array Value)(P:Program)(w:World) :
    (results fn tmps).run P w=.ok (.tuple #[tmps.getD t undef,tmps.getD u undef,tmps.getD v undef,tmps.getD x undef]) w:=by simp [results,h]
def Qt (w w':World):Prop:=∃ n,w'=w.drewN n
theorem Qt.refl (w:World):Qt w w:=⟨0,by simp [World.drewN]⟩
theorem Qt.self (w:World)(n:Nat):Qt w (w.drewN n):=⟨n,rfl⟩
theorem below_drewN {B:Nat}{a w:World}(h:Below B a w)(n:Nat):Below B a (w.drewN n):=⟨h.os,h.tape,h.output,h.size,h.block⟩
theorem bcell {B:Nat}{W w1:World}(hb:Below B W w1) :
    (∀ b o,b<B→w1.cell? ⟨b,o,none⟩=W.cell? ⟨b,o,none⟩)∧(∀ b o,b<B→w1.frozen? ⟨b,o,none⟩=W.frozen? ⟨b,o,none⟩):=
  ⟨fun b o h=>hb.cell (p:=⟨b,o,none⟩) h,fun b o h=>hb.frozen (p:=⟨b,o,none⟩) h⟩
def Sl (w : World) (B size : Nat) (v : Value) (n : Nat) (xs : List Value) : Prop :=
  ∃ A cap, v = .slice A n cap ∧ n ≤ cap ∧ (cap ≤ 9223372036854775807 ∧ n ≤ 140737488355328) ∧ xs.length = n * size ∧
    (0<n→∃ b off,A=some ⟨b,off,none⟩∧b<B∧∀ j u,xs[j]?=some u→w.cell? ⟨b,off+j,none⟩=some u)
theorem Sl.keep {w w':World}{B B' size n:Nat}{v:Value}{xs:List Value}(h:Sl w B size v n xs)(hB:B≤B')
    (hk:∀ b o,b<B→w'.cell? ⟨b,o,none⟩=w.cell? ⟨b,o,none⟩):Sl w' B' size v n xs:=by
  obtain ⟨A,cap,hv,h1,h2,h3,h4⟩:=h
  refine ⟨A,cap,hv,h1,h2,h3,fun hn=>?_⟩
  obtain ⟨b,off,hA,hb,hc⟩:=h4 hn
  exact ⟨b,off,hA,by omega,fun j u hu=>(hk _ _ hb).trans (hc j u hu)⟩
def SlOf {α : Type} (size : Nat) (R : World → Nat → List Value → α → Prop) (w : World) (B : Nat) (v : Value) (l : List α) : Prop :=
  ∃ cs : List (List Value), cs.length = l.length ∧ (∀ c ∈ cs, c.length = size) ∧ Sl w B size v l.length cs.flatten ∧
    ∀ (i:Nat) (c:List Value) (x : α),cs[i]?=some c→l[i]?=some x→R w B c x
theorem flatten_at (size:Nat):∀ (cs:List (List Value)),(∀ c∈cs,c.length=size)→∀ (i j:Nat) (c:List Value) (u:Value),
    cs[i]?=some c→c[j]?=some u→cs.flatten[i*size+j]?=some u
  | [],_,i,j,c,u,h,_=>by simp at h
  | d :: cs, hs, 0, j, c, u, h, hu => by
    simp only [List.getElem?_cons_zero,Option.some.injEq] at h
    subst h
    have:j<d.length:=(List.getElem?_eq_some_iff.1 hu).1
    rw [List.flatten_cons,Nat.zero_mul,Nat.zero_add,List.getElem?_append_left this]
    exact hu
  | d :: cs, hs, i + 1, j, c, u, h, hu => by
    simp only [List.getElem?_cons_succ] at h
    have hd:d.length=size:=hs d (by simp)
    have hrec:=flatten_at size cs (fun c hc=>hs c (by simp [hc])) i j c u h hu
    rw [List.flatten_cons,List.getElem?_append_right (by rw [hd,Nat.add_mul];omega),hd]
    rw [show (i+1)*size+j-size=i*size+j by rw [Nat.add_mul];omega]
    exact hrec
section
variable {α : Type} {size:Nat} {R:World→Nat→List Value→α→Prop} {w w':World} {B B':Nat} {v:Value} {l:List α}
theorem SlOf.form (h:SlOf size R w B v l):∃ A cap,v=.slice A l.length cap∧l.length≤cap∧(cap≤9223372036854775807∧l.length≤140737488355328):=by
  obtain ⟨cs,_,_,⟨A,cap,hv,h1,h2,_⟩,_⟩:=h
  exact ⟨A,cap,hv,h1,h2⟩
theorem SlOf.at_ (h:SlOf size R w B v l){k:Nat}(hk:k<l.length) :
    ∃ b off cap c x, v = .slice (some ⟨b, off, none⟩) l.length cap ∧ b < B ∧ l[k]? = some x ∧ R w B c x ∧ c.length = size ∧
      ∀ j u,c[j]?=some u→w.cell? ⟨b,off+k*size+j,none⟩=some u:=by
  obtain ⟨cs,hl,hs,⟨A,cap,hv,h1,h2,h3,h4⟩,hR⟩:=h
  obtain ⟨b,off,rfl,hb,hc⟩:=h4 (by omega)
  have hck:cs[k]?=some cs[k]:=List.getElem?_eq_getElem (by omega)
  have hlk:l[k]?=some l[k]:=List.getElem?_eq_getElem hk
  refine ⟨b,off,cap,cs[k],l[k],hv,hb,hlk,hR k _ _ hck hlk,hs _ (List.getElem_mem _),fun j u hu=>?_⟩
  rw [Nat.add_assoc]
  exact hc _ u (flatten_at size cs hs k j _ u hck hu)
theorem SlOf.keep (h:SlOf size R w B v l)(hB:B≤B')(hk:∀ b o,b<B→w'.cell? ⟨b,o,none⟩=w.cell? ⟨b,o,none⟩)
    (hR:∀ c x,R w B c x→R w' B' c x):SlOf size R w' B' v l:=by
  obtain ⟨cs,hl,hs,hS,hR'⟩:=h
  exact ⟨cs,hl,hs,hS.keep hB hk,fun i c x h1 h2=>hR _ _ (hR' i c x h1 h2)⟩
end
def StrC (_:World)(_:Nat)(c:List Value)(x:ByteArray):Prop:=c=[.string x]∧x.size≤140737488355328
def Texts:=SlOf 1 StrC
theorem Texts.keep {w w':World}{B B':Nat}{v:Value}{l:List ByteArray}(h:Texts w B v l)(hB:B≤B')
    (hk:∀ b o,b<B→w'.cell? ⟨b,o,none⟩=w.cell? ⟨b,o,none⟩):Texts w' B' v l:=SlOf.keep h hB hk fun _ _ h=>h
theorem drop_at {α : Type}{l:List α}{k:Nat}{x : α}(h:l[k]?=some x):l.drop k=x::l.drop (k+1):=by
  obtain ⟨hk,rfl⟩:=List.getElem?_eq_some_iff.1 h
  exact List.drop_eq_getElem_cons hk
theorem drop_end {α : Type}{l:List α}{k:Nat}(h:¬ k<l.length):l.drop k=[]:=List.drop_eq_nil_of_le (by omega)
abbrev Bytes:=List UInt8
def bs (s:ByteArray):Bytes:=s.data.toList
theorem bs_length (s:ByteArray):(bs s).length=s.size:=rfl
theorem bs_at (s:ByteArray)(k:Nat)(h:k<s.size):(bs s)[k]?=some s[k]:=by
  show s.data.toList[k]?=_
  rw [List.getElem?_eq_getElem (by simpa using h)];rfl
theorem bs_drop (s:ByteArray)(k:Nat)(h:k<s.size):(bs s).drop k=s[k]::(bs s).drop (k+1):=drop_at (bs_at s k h)
theorem bs_drop_end (s:ByteArray)(k:Nat)(h:¬ k<s.size):(bs s).drop k=[]:=drop_end (by simpa [bs_length] using h)
def letterN (n:Nat):Bool:=decide (n=95∨(97≤n∧n≤122)∨(65≤n∧n≤90))
def digitN (n:Nat):Bool:=decide (48≤n∧n≤57)
def letterU (c:UInt8):Bool:=letterN c.toNat
def digitU (c:UInt8):Bool:=digitN c.toNat
def wordU (c:UInt8):Bool:=letterU c || digitU c
def classN (n:Nat):Int:=
  if n=32∨n=9∨n=13 then 2 else if n=10 then 3 else if n=35 then 4 else if n=37 then 7 else if n=34 then 8
  else if n=95∨(97≤n∧n≤122)∨(65≤n∧n≤90) then 5 else if 48≤n∧n≤57 then 6 else 0
def classL:Bytes→Int
  | []=>1
  | c::_=>classN c.toNat
theorem class_letter (n:Nat):(classN n=5)↔letterN n=true:=by
  unfold classN letterN;simp only [decide_eq_true_eq];(repeat' split)<;>omega
theorem class_digit (n:Nat):(classN n=6)↔digitN n=true:=by
  unfold classN digitN;simp only [decide_eq_true_eq];(repeat' split)<;>omega
def wordL (l:Bytes):Bool:=classL l == 5 || classL l == 6
theorem wordL_cons (c:UInt8)(r:Bytes):wordL (c::r)=wordU c:=by
  rw [Bool.eq_iff_iff]
  simp only [wordL,classL,wordU,letterU,digitU,Bool.or_eq_true,beq_iff_eq,class_letter,class_digit]
def wordLen:Bytes→Nat
  | []=>0
  | c::r=>if wordU c then wordLen r+1 else 0
theorem wordLen_le:∀ l:Bytes,wordLen l≤l.length
  | []=>Nat.le_refl _
  | c::r=>by have:=wordLen_le r;unfold wordLen;split<;>simp<;>omega
def numLen:Bytes→Nat
  | []=>0
  | c::r=>if wordU c || (c.toNat == 46 && classL r == 6) then numLen r+1 else 0
theorem numLen_le:∀ l:Bytes,numLen l≤l.length
  | []=>Nat.le_refl _
  | c::r=>by have:=numLen_le r;unfold numLen;split<;>simp<;>omega
def nm:Bool→Bytes→Bool
  | _,[]=>true
  | f,c::r=>if !letterU c && (f || !digitU c) then false else nm false r
def isName (l:Bytes):Bool:=decide (1≤l.length) && (decide (l.length≤24) && nm true l)
def cubeU (c:UInt8):Bool:=c.toNat == 48 || c.toNat == 49 || c.toNat == 120
def isCube (l:Bytes):Bool:=decide (1≤l.length) && (decide (l.length≤256) && l.all cubeU)
theorem bs_extract (s:ByteArray)(a b:Nat):bs (s.extract a b)=((bs s).drop a).take (b-a):=Lib.extract_data s a b
theorem bs_from (s:ByteArray)(k:Nat):bs (s.extract k s.size)=(bs s).drop k:=by
  rw [bs_extract,List.take_of_length_le (by simp [bs_length])]
theorem isName_out (s:ByteArray)(h:s.size<1∨24<s.size):isName (bs s)=false:=by
  unfold isName
  rw [bs_length]
  rcases h with h|h
  · rw [decide_eq_false (by omega)];rfl
  · rw [decide_eq_false (show ¬ s.size≤24 by omega)];simp
theorem isName_in (s:ByteArray)(h1:¬ s.size<1)(h2:¬ 24<s.size):isName (bs s)=nm true (bs s):=by
  unfold isName
  rw [bs_length,decide_eq_true (show 1≤s.size by omega),decide_eq_true (show s.size≤24 by omega)];rfl
theorem isCube_out (s:ByteArray)(h:s.size<1∨256<s.size):isCube (bs s)=false:=by
  unfold isCube
  rw [bs_length]
  rcases h with h|h
  · rw [decide_eq_false (by omega)];rfl
  · rw [decide_eq_false (show ¬ s.size≤256 by omega)];simp
theorem isCube_in (s:ByteArray)(h1:¬ s.size<1)(h2:¬ 256<s.size):isCube (bs s)=(bs s).all cubeU:=by
  unfold isCube
  rw [bs_length,decide_eq_true (show 1≤s.size by omega),decide_eq_true (show s.size≤256 by omega)];rfl
theorem emp_false (s:ByteArray)(h:s.size≠0):s.toList.isEmpty=false:=by
  rw [ByteArray.toList_eq,List.isEmpty_eq_false_iff]
  intro e
  apply h
  have:s.data.toList.length=0:=by rw [e];rfl
  exact this
theorem emp_true (s:ByteArray)(h:s.size=0):s.toList.isEmpty=true:=by
  rw [ByteArray.toList_eq,List.isEmpty_iff]
  exact List.length_eq_zero_iff.1 h
def resW:List (List UInt8):=[[110,101,116,119,111,114,107],[104,101,97,100,101,114],[114,111,117,116,105,110,103],[115,108,105,109],[98,111,120],[105,110],[111,117,116],[103,117,97,114,100],[112,101,114,109,105,116],[100,101,110,121],[114,117,108,101],[102,114,111,109],[109,97,116,99,104],[115,101,116],[116,111],[100,114,111,112],[111,119,110],[114,111,117,116,101],[108,105,110,107],[99,111,115,116],[115,108,105,99,101],[119,104,101,114,101],[97,110,121],[110,111,110,101],[97,116],[110,111]]
def resB (s:ByteArray):Bool:=resW.any fun r=>s.toList == r
set_option maxHeartbeats 4000000 in
set_option maxRecDepth 100000 in
theorem m_isReserved (s:ByteArray)(w:World):Calls Tryz.prog 55 #[.string s] w fun e w'=>e=.returned (.bool (resB s))∧w=w':=by
  go_enter Tryz.func55,Tryz.ntmps55
  go_wp2
  all_goals go_ret
  all_goals (refine ⟨ret_bool ?_,rfl⟩;first|(simp only [resB,resW,List.any_cons,List.any_nil, *,Bool.or_true,Bool.true_or,Bool.or_false];done)|(simp only [*,Bool.false_eq_true] at *;done))
set_option maxHeartbeats 1600000 in
theorem f_name (s : ByteArray) (w : World) (hs : s.size ≤ 9223372036854775807) :
    Calls Tryz.prog 93 #[.string s] w fun e w'=>e=.returned (.bool (isName (bs s)))∧w=w':=by
  by_cases h1:s.size=0
  · have H:=Lib.hid (isName_out s (by omega))
    have he:=emp_true s h1
    clear h1
    go_enter Tryz.func93,Tryz.ntmps93
    go_wp2
    go_ret
    exact ⟨ret_bool H.out.symm,rfl⟩
  have he:=emp_false s h1
  by_cases h2:24<s.size
  · have H:=Lib.hid (isName_out s (by omega))
    have h2':(s.size:Int)>24:=by omega
    clear h2
    go_enter Tryz.func93,Tryz.ntmps93
    go_wp2
    go_ret
    exact ⟨ret_bool H.out.symm,rfl⟩
  have H:=Lib.hid (isName_in s (by omega) h2)
  go_enter Tryz.func93,Tryz.ntmps93
  go_wp2
  go_loopw [3,4,5,15] (fun _ _ _ i wr=>wr=w∧∃ k:Nat,k≤s.size∧i=.int .i64 k∧Hid (isName (bs s)=nm (k == 0) ((bs s).drop k))) (fun _ _ _ i _=>s.size-(intOf i).toNat)
  case atStart=>exact ⟨rfl,0,Nat.zero_le _,rfl,H⟩
  case round=>
    obtain ⟨rfl,k,hk,rfl,HR⟩:=hrel
    by_cases hlt:k<s.size
    · have HS : Hid (isName (bs s) = if !letterN s[k].toNat && ((k == 0) || !digitN s[k].toNat) then false else nm false ((bs s).drop (k + 1))) := by
        refine Lib.hid ?_
        have:=HR.out
        rw [bs_drop s k hlt] at this
        exact this
      clear H HR
      go_upto_region 7 with fail
      go_cut [4,5] (fun u v wx=>wx=wr∧u=.int .u8 s[k].toNat∧v=.bool (letterN s[k].toNat))
      case first=>
        go_wp2
        all_goals (go_meet)
        all_goals (refine ⟨rfl,by first|rfl|(simp;omega),val_bool ?_⟩;rw [Bool.eq_iff_iff];simp [letterN];omega)
      case rest =>
        obtain ⟨rfl,rfl,rfl⟩:=hcut
        generalize hL:letterN s[k].toNat=L at *
        clear hL
        by_cases h0:k=0
        · have HS':Hid (isName (bs s)=if !L then false else nm false ((bs s).drop 1)):=Lib.hid (by have:=HS.out;subst h0;simpa using this)
          clear HS
          cases L
          · go_wp2
            go_ret
            exact ⟨ret_bool HS'.out.symm,rfl⟩
          · go_wp2
            go_roundw
            case rel=>exact ⟨by trivial,1,by omega,by first|go_num|(simp;omega),HS'⟩
            case measure=>simp [intOf];omega
        · have h0':((k:Int) == 0)=false:=by simp;omega
          have HS':Hid (isName (bs s)=if !L && !digitN s[k].toNat then false else nm false ((bs s).drop (k+1))):=Lib.hid (by have:=HS.out;rw [show (k == 0)=false by simp [h0]] at this;simpa using this)
          clear HS
          cases L
          · by_cases hd:48≤s[k].toNat∧s[k].toNat≤57
            · have HS2:Hid (isName (bs s)=nm false ((bs s).drop (k+1))):=Lib.hid (by have:=HS'.out;rw [show digitN s[k].toNat=true by simp [digitN,hd]] at this;simpa using this)
              obtain ⟨hd1,hd2⟩:=hd
              go_wp2
              go_roundw
              case rel=>exact ⟨by trivial,k+1,by omega,by go_num,HS2⟩
              case measure=>simp [intOf];omega
            · have HS2:Hid (isName (bs s)=false):=Lib.hid (by have:=HS'.out;rw [show digitN s[k].toNat=false by simp [digitN];omega] at this;simpa using this)
              go_wp2
              all_goals first
                | (go_ret;exact ⟨ret_bool HS2.out.symm,rfl⟩)
                | (exfalso;apply hd;omega)
                | (exfalso;simp at *;omega)
          · have HS2:Hid (isName (bs s)=nm false ((bs s).drop (k+1))):=Lib.hid (by simpa using HS'.out)
            go_wp2
            go_roundw
            case rel=>exact ⟨by trivial,k+1,by omega,by go_num,HS2⟩
            case measure=>simp [intOf];omega
    · have HE:Hid (isName (bs s)=true):=Lib.hid (by have:=HR.out;rw [bs_drop_end s k hlt] at this;exact this)
      go_wp2
      go_ret
      exact ⟨ret_bool HE.out.symm,rfl⟩
end Go.Proofs.YtdhehcobnbcmdaaGreatDoor
