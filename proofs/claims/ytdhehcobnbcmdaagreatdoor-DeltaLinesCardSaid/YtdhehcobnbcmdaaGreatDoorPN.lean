/- A part of the proof of DeltaLines: NumS Num1. -/
import Derived.Test.YtdhehcobnbcmdaaGreatDoorPS2
import Derived.Test.YtdhehcobnbcmdaaGreatDoorPF1
set_option linter.all false
namespace Go.Proofs.YtdhehcobnbcmdaaGreatDoor
open Go.RowKit
theorem below_freeze {B:Nat}{a w:World}(h:Below B a w){p:Addr}(hp:B≤p.block)(n:Nat):Below B a (w.freeze p n):=by
  unfold World.freeze
  split
  · exact h
  · refine h.trans ⟨rfl,rfl,rfl,by simp,fun k hk=>?_⟩
    simp only [Array.getElem?_modify]
    rw [if_neg (by omega)]
theorem below_bytes (w:World)(e:TypeId)(s:ByteArray):Below w.heap.size w (Lib.bytesWorld w e s):=by
  unfold Lib.bytesWorld
  exact below_freeze (((Below.refl _ _).drew).alloc (Nat.le_refl _) _) (Nat.le_refl _) _
theorem dropWhile_nil {α : Type}(p : α→Bool):∀ l:List α,l.dropWhile p=[]↔∀ x∈l,p x=true
  | []=>by simp
  | a :: l => by
    cases h:p a
    · simp [h]
    · simp [h,dropWhile_nil p l]
theorem mem_dropWhile {α : Type}(p : α→Bool):∀ (l:List α) (x : α),x∈l→p x=false→x∈l.dropWhile p
  | [],x,h,_=>absurd h (by simp)
  | a :: l, x, h, hp => by
    cases ha:p a
    · simpa [ha] using h
    · rcases List.mem_cons.1 h with rfl|h
      · rw [hp] at ha;cases ha
      · simpa [ha] using mem_dropWhile p l x h hp
def allOf (l cs:Bytes):Bool:=l.all (cs.contains ·)
theorem trimS_nil (l cs:Bytes):(Lib.trimS l cs=[])↔allOf l cs=true:=by
  unfold Lib.trimS Lib.trimLeftS Lib.trimRightS allOf
  constructor
  · intro h
    rw [dropWhile_nil] at h
    rw [List.all_eq_true]
    intro x hx
    cases hc:cs.contains x
    · have h1:=mem_dropWhile (cs.contains ·) l.reverse x (by simpa using hx) hc
      have:=h x (by simpa using h1)
      rw [hc] at this
      exact absurd this (by simp)
    · rfl
  · intro h
    rw [List.all_eq_true] at h
    have:l.reverse.dropWhile (cs.contains ·)=[]:=by
      rw [dropWhile_nil]
      intro x hx
      exact h x (by simpa using hx)
    rw [this];rfl
def decCs:Bytes:=[48,49,50,51,52,53,54,55,56,57]
def hexCs:Bytes:=[48,49,50,51,52,53,54,55,56,57,97,98,99,100,101,102,65,66,67,68,69,70]
theorem u8_all {p q:UInt8→Bool}(h:(List.range 256).all (fun n=>p (UInt8.ofNat n) == q (UInt8.ofNat n))=true)(c:UInt8):p c=q c:=by
  rw [List.all_eq_true] at h
  have:=h c.toNat (List.mem_range.2 c.toNat_lt)
  simpa using this
theorem decCs_at (c:UInt8):decCs.contains c=digitU c:=u8_all (p:=fun c=>decCs.contains c) (q:=digitU) (by decide +kernel) c
def hexU (c:UInt8):Bool:=digitU c || (decide (97≤c.toNat) && decide (c.toNat≤102)) || (decide (65≤c.toNat) && decide (c.toNat≤70))
theorem hexCs_at (c:UInt8):hexCs.contains c=hexU c:=u8_all (p:=fun c=>hexCs.contains c) (q:=hexU) (by decide +kernel) c
def decVal (l:Bytes):Nat:=l.foldl (fun a c=>a*10+(c.toNat-48)) 0
theorem decFrom_val:∀ (l:Bytes)(a:Nat),l.all digitU=true→Lib.decFrom a l=some (l.foldl (fun a c=>a*10+(c.toNat-48)) a)
  | [],a,_=>rfl
  | c :: r, a, h => by
    simp only [List.all_cons,Bool.and_eq_true] at h
    have hd:Lib.digitVal c=some (c.toNat-48):=by
      have:=h.1
      simp only [digitU,digitN,decide_eq_true_eq] at this
      simp [Lib.digitVal,this]
    simp only [Lib.decFrom,hd,List.foldl_cons]
    exact decFrom_val r _ h.2
theorem atoi_val (l:Bytes)(hne:l≠[])(h:l.all digitU=true):Lib.atoi l=some (decVal l:Int):=by
  cases l with
  | nil=>exact absurd rfl hne
  | cons c r =>
    have hc:digitU c=true:=by simp only [List.all_cons,Bool.and_eq_true] at h;exact h.1
    have h1:(c == 45)=false:=by
      rw [beq_eq_false_iff_ne];rintro rfl;revert hc;decide
    have h2:(c == 43)=false:=by
      rw [beq_eq_false_iff_ne];rintro rfl;revert hc;decide
    unfold Lib.atoi
    simp only [h1,h2,Bool.false_eq_true,if_false,Lib.decNat,List.isEmpty_cons,decFrom_val _ _ h,Option.map_some,decVal]
def optT (o:Option Nat):Value:=.tuple #[.int .i64 (o.getD 0:Nat), .bool o.isSome]
def decS (l:Bytes)(top:Nat):Option Nat:=
  if l=[]∨10<l.length then none else
  if allOf l decCs=false then none else
  if l.head?=some 48∧l≠[48] then none else
  if top<decVal l then none else some (decVal l)
theorem decVal_lt:∀ (l:Bytes)(a:Nat),l.all digitU=true→l.foldl (fun a c=>a*10+(c.toNat-48)) a<(a+1)*10 ^ l.length
  | [],a,_=>by simp
  | c :: r, a, h => by
    simp only [List.all_cons,Bool.and_eq_true] at h
    have h1:=h.1
    simp only [digitU,digitN,decide_eq_true_eq] at h1
    have:=decVal_lt r (a*10+(c.toNat-48)) h.2
    simp only [List.foldl_cons,List.length_cons]
    refine Nat.lt_of_lt_of_le this ?_
    rw [Nat.pow_succ,Nat.mul_comm (10 ^ r.length) 10,← Nat.mul_assoc]
    exact Nat.mul_le_mul_right _ (by omega)
theorem decVal_bd (l:Bytes)(h:l.all digitU=true)(hl:l.length≤10):decVal l<10000000000:=by
  have:=decVal_lt l 0 h
  refine Nat.lt_of_lt_of_le this ?_
  rw [Nat.zero_add,Nat.one_mul]
  exact Nat.le_trans (Nat.pow_le_pow_right (by decide) hl) (by decide)
def hexVal (n:Nat):Nat:=if 48≤n∧n≤57 then n-48 else if 97≤n∧n≤102 then n-87 else n-55
def basedFrom (b acc:Nat):Bytes→Option Nat
  | []=>some acc
  | c::r=>if hexVal c.toNat<b then basedFrom b (acc*b+hexVal c.toNat) r else none
def basedS (b most:Nat)(l:Bytes):Option Nat:=
  if l=[]∨most<l.length then none else if allOf l hexCs=false then none else basedFrom b 0 l
set_option maxHeartbeats 400000 in
theorem plain_any (s cs:ByteArray)(w:World)(hs:s.size≤9223372036854775807)(hcs:cs.size<4294967281)(ha:∀ (j:Nat) b,cs.data.toList[j]?=some b→b.toNat<128) :
    Calls Tryz.prog 255 #[.string s, .string cs] w fun e w'=>e=.returned (.bool (allOf (bs s) (bs cs)))∧Below w.heap.size w w':=by
  have c:=Lib.hid (Any.strings_Trim_laid Tryz.lays160 (by kernel_rfl) s cs w hs hcs ha)
  have hq:Hid ((Lib.trimS s.data.toList cs.data.toList=[])↔allOf (bs s) (bs cs)=true):=Lib.hid (trimS_nil _ _)
  generalize Lib.trimS s.data.toList cs.data.toList=q at *
  generalize allOf (bs s) (bs cs)=r at *
  go_enter Tryz.func255,Tryz.ntmps255
  go_wp2_with fail
  refine c.out.mono ?_
  rintro e w' ⟨rfl,hb⟩
  clear c
  cases q with
  | nil =>
    have:r=true:=hq.out.1 rfl
    subst this
    go_wp2
    go_ret
    exact ⟨rfl,hb⟩
  | cons x q =>
    have:r=false:=by
      cases r with
      | false=>rfl
      | true=>exact absurd (hq.out.2 rfl) (by simp)
    subst this
    go_wp2
    go_ret
    exact ⟨rfl,hb⟩
theorem plain_dec (s:ByteArray)(w:World)(hs:s.size≤9223372036854775807) :
    Calls Tryz.prog 255 #[.string s, .string ⟨#[48,49,50,51,52,53,54,55,56,57]⟩] w fun e w'=>e=.returned (.bool (allOf (bs s) decCs))∧Below w.heap.size w w':=
  plain_any s ⟨#[48,49,50,51,52,53,54,55,56,57]⟩ w hs (by decide) (ascii_of_all (by decide))
theorem plain_hex (s:ByteArray)(w:World)(hs:s.size≤9223372036854775807) :
    Calls Tryz.prog 255 #[.string s, .string ⟨#[48,49,50,51,52,53,54,55,56,57,97,98,99,100,101,102,65,66,67,68,69,70]⟩] w fun e w'=>e=.returned (.bool (allOf (bs s) hexCs))∧Below w.heap.size w w':=
  plain_any s ⟨#[48,49,50,51,52,53,54,55,56,57,97,98,99,100,101,102,65,66,67,68,69,70]⟩ w hs (by decide) (ascii_of_all (by decide))
theorem ret_opt {o:Option Nat}{v:Int}{b:Bool}(h:optT o=.tuple #[.int .i64 v, .bool b]):Ending.returned (.tuple #[.int .i64 v, .bool b])=.returned (optT o):=by rw [h]
theorem str_nil (s:ByteArray)(h:s.size=0):s=ByteArray.empty:=by
  cases s with|mk d=>simpa using h
set_option maxHeartbeats 1000000 in
theorem decimal_any (s : ByteArray) (top : Int) (w : World) (hs : s.size ≤ 9223372036854775807) (h0 : 0 ≤ top) (h1 : top ≤ 9223372036854775807) :
    Calls Tryz.prog 252 #[.string s, .int .i64 top] w fun e w'=>e=.returned (optT (decS (bs s) top.toNat))∧Below w.heap.size w w':=by
  by_cases hz:s.size=0
  · have H:=Lib.hid (show optT (decS (bs s) top.toNat)=.tuple #[.int .i64 0, .bool false] by
      rw [str_nil s hz];rfl)
    obtain rfl:=str_nil s hz
    go_enter Tryz.func252,Tryz.ntmps252
    go_wp2
    go_ret2
    exact ⟨ret_opt H.out,Below.refl _ _⟩
  have he:=emp_false s hz
  by_cases hl:10<s.size
  · have H:=Lib.hid (show optT (decS (bs s) top.toNat)=.tuple #[.int .i64 0, .bool false] by
      unfold decS;rw [if_pos (.inr (by rw [bs_length];exact hl))];rfl)
    go_enter Tryz.func252,Tryz.ntmps252
    go_wp2
    go_ret2
    exact ⟨ret_opt H.out,Below.refl _ _⟩
  have hne:¬ (bs s=[]∨10<(bs s).length):=by
    rintro (h|h)
    · exact hz (by rw [← bs_length,h];rfl)
    · rw [bs_length] at h;omega
  have c1:=Lib.hid (plain_dec s w hs)
  have HD:=Lib.hid (show decS (bs s) top.toNat=if allOf (bs s) decCs=false then none else if (bs s).head?=some 48∧bs s≠[48] then none else if top.toNat<decVal (bs s) then none else some (decVal (bs s)) by
    rw [decS,if_neg hne])
  have hall:=Lib.hid (show allOf (bs s) decCs=true→(bs s).all digitU=true from fun h=>by
    unfold allOf at h
    rw [← h];congr 1;funext c;exact (decCs_at c).symm)
  have hne':=Lib.hid (show bs s≠[] from fun h=>hne (.inl h))
  clear hne
  by_cases hA:allOf (bs s) decCs=true
  · rw [hA] at c1 HD
    have hall:=Lib.hid (hall.out hA)
    clear hA
    have hpos:0<s.size:=by omega
    have hbs:=Lib.hid (show bs s=s[0]::(bs s).drop 1 from by simpa using bs_drop s 0 hpos)
    have ha:=Lib.hid (Tryz.strconv_Atoi s (decVal (bs s)) (by omega) (atoi_val _ hne'.out hall.out))
    have hbd:decVal (bs s)<10000000000:=decVal_bd _ hall.out (by rw [bs_length];omega)
    have HD:=Lib.hid (HD.out.trans (if_neg (by simp)))
    by_cases hlead:s[0].toNat=48∧s.size≠1
    · obtain ⟨hd0,hn1⟩:=hlead
      have H:=Lib.hid (show optT (decS (bs s) top.toNat)=.tuple #[.int .i64 0, .bool false] by
        rw [HD.out,if_pos ⟨by rw [hbs.out];simp [← UInt8.toNat_inj,hd0],fun e=>hn1 (by rw [← bs_length,e];rfl)⟩];rfl)
      have hn0:(s.toList == [48])=false:=by
        rw [beq_eq_false_iff_ne]
        intro e
        apply hn1
        have e2:bs s=[48]:=by rw [← e];exact (ByteArray.toList_eq s).symm
        rw [← bs_length,e2];rfl
      have hd0':((s[0].toNat:Int) == 48)=true:=by simp;omega
      clear HD hd0 ha hbs hall hne'
      go_enter Tryz.func252,Tryz.ntmps252
      go_wp2_with (go_at_call 255;refine c1.out.mono ?_;rintro e w' ⟨rfl,hb⟩)
      go_ret2
      exact ⟨ret_opt H.out,hb⟩
    · have HD:=Lib.hid (HD.out.trans (if_neg (show ¬ ((bs s).head?=some 48∧bs s≠[48]) by
        rintro ⟨ha1,ha2⟩
        rw [hbs.out] at ha1
        simp only [List.head?_cons,Option.some.injEq] at ha1
        apply hlead
        refine ⟨by rw [ha1];rfl,fun h1=>ha2 ?_⟩
        rw [hbs.out,ha1,List.drop_eq_nil_of_le (by rw [bs_length];omega)])))
      have hcase:((s[0].toNat:Int) == 48)=false∨(((s[0].toNat:Int) == 48)=true∧(s.toList == [48])=true):=by
        by_cases hd0:s[0].toNat=48
        · refine .inr ⟨by simp;omega,?_⟩
          rw [beq_iff_eq,ByteArray.toList_eq]
          show bs s=[48]
          have h1:s.size=1:=by
            by_cases h1:s.size=1
            · exact h1
            · exact absurd ⟨hd0,h1⟩ hlead
          rw [hbs.out,List.drop_eq_nil_of_le (by rw [bs_length];omega),(UInt8.toNat_inj.1 (by rw [hd0];rfl):s[0]=48)]
        · exact .inl (by simp;omega)
      have ha':=Lib.hid (fun w=>(ha.out w).mono (R':=fun e w'=>e=.returned (.tuple #[.int .i64 (decVal (bs s)), .nilIface])∧Below w.heap.size w w') (fun e w' ⟨he,u,hu⟩=>⟨he,by rw [hu];exact below_bytes _ _ _⟩))
      clear ha hlead hbs hall hne'
      generalize decVal (bs s)=v at *
      by_cases hv:top.toNat<v
      · have H:=Lib.hid (show optT (decS (bs s) top.toNat)=.tuple #[.int .i64 0, .bool false] by rw [HD.out,if_pos hv];rfl)
        have hv':top<(v:Int):=by omega
        clear HD hv
        rcases hcase with hd0|⟨hd0,hq⟩
        all_goals
          go_enter Tryz.func252,Tryz.ntmps252
          go_wp2_with (first|(go_at_call 255;refine c1.out.mono ?_;rintro e w1 ⟨rfl,hb⟩)|(go_at_call 257;refine (ha'.out _).mono ?_;rintro e w2 ⟨rfl,hb2⟩))
          go_ret2
          exact ⟨ret_opt H.out,hb.trans (hb2.mono hb.size)⟩
      · have H:=Lib.hid (show optT (decS (bs s) top.toNat)=.tuple #[.int .i64 v, .bool true] by rw [HD.out,if_neg hv];rfl)
        have hv':(v:Int)≤top:=by omega
        clear HD hv
        rcases hcase with hd0|⟨hd0,hq⟩
        all_goals
          go_enter Tryz.func252,Tryz.ntmps252
          go_wp2_with (first|(go_at_call 255;refine c1.out.mono ?_;rintro e w1 ⟨rfl,hb⟩)|(go_at_call 257;refine (ha'.out _).mono ?_;rintro e w2 ⟨rfl,hb2⟩))
          go_ret2
          exact ⟨ret_opt H.out,hb.trans (hb2.mono hb.size)⟩
  · have hA':allOf (bs s) decCs=false:=by simpa using hA
    rw [hA'] at c1 HD
    have H:=Lib.hid (show optT (decS (bs s) top.toNat)=.tuple #[.int .i64 0, .bool false] by rw [HD.out];rfl)
    clear HD hA hA' hall
    go_enter Tryz.func252,Tryz.ntmps252
    go_wp2_with (go_at_call 255;refine c1.out.mono ?_;rintro e w' ⟨rfl,hb⟩)
    go_ret2
    exact ⟨ret_opt H.out,hb⟩
end Go.Proofs.YtdhehcobnbcmdaaGreatDoor
