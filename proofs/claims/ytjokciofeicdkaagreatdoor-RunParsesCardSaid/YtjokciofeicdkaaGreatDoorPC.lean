/- A part of the proof of RunParses: NumS Num1 Num2 Num3. -/
import Derived.Test.YtjokciofeicdkaaGreatDoorPB
import Derived.Test.YtjokciofeicdkaaGreatDoorPSh
import Derived.Shelf.Strings.SlTrimAscii
set_option maxHeartbeats 16000000
set_option maxRecDepth 100000
set_option linter.all false
namespace Go.Proofs.YtjokciofeicdkaaGreatDoor
open Go.RowKit
def signsB:List ByteArray:=[⟨#[33,61]⟩,⟨#[60,61]⟩,⟨#[62,61]⟩,⟨#[46,46]⟩,⟨#[45,62]⟩,⟨#[40]⟩,⟨#[41]⟩,⟨#[33]⟩,⟨#[61]⟩,⟨#[60]⟩,⟨#[62]⟩,⟨#[38]⟩,⟨#[124]⟩,⟨#[44]⟩,⟨#[58]⟩,⟨#[47]⟩]
def signsA:Array Value:=(signsB.map Value.string).toArray
structure Env (w:World):Prop where
 maxlen:∃ m,w.cell? ⟨5,0,none⟩=some (.int .i64 m)
 errS:∃ ev,w.cell? ⟨8,0,none⟩=some ev∧(ev=.nilIface∨∃ te pe,ev=.iface te pe)
 u8:Lib.Utf8Tabs 6 7 w
 signs:∃ t fr,w.heap[2]?=some (.cells signsA t fr)
theorem cell_below {w w':World}(hb:Below w.heap.size w w'){a:Addr}{v:Value}(h:w.cell? a=some v):w'.cell? a=some v:=
 (hb.cell (World.block_lt_of_cell? w a h)).trans h
theorem Env.below {w w':World}(h:Env w)(hb:Below w.heap.size w w'):Env w' where
 maxlen:=let ⟨m,hm⟩:=h.maxlen;⟨m,cell_below hb hm⟩
 errS:=let ⟨ev,h1,h2⟩:=h.errS;⟨ev,cell_below hb h1,h2⟩
 u8:=⟨fun c hc=>cell_below hb (h.u8.1 c hc),fun i hi=>⟨cell_below hb (h.u8.2 i hi).1,cell_below hb (h.u8.2 i hi).2⟩⟩
 signs:=let ⟨t,fr,hs⟩:=h.signs;⟨t,fr,(hb.block _ (Array.getElem?_eq_some_iff.1 hs).1).trans hs⟩
theorem Env.drewN {w:World}(h:Env w)(n:Nat):Env (w.drewN n):=h.below (below_drewN (Below.refl _ _) n)
theorem below_freeze {B:Nat}{a w:World}(h:Below B a w){p:Addr}(hp:B≤p.block)(n:Nat):Below B a (w.freeze p n):=by
 unfold World.freeze
 split
 ·exact h
 ·refine h.trans ⟨rfl,rfl,rfl,by simp,fun k hk=>?_⟩
  simp only [Array.getElem?_modify];rw [if_neg (by omega)]
theorem below_bytes (w:World)(e:TypeId)(s:ByteArray):Below w.heap.size w (Lib.bytesWorld w e s):=by
 unfold Lib.bytesWorld;exact below_freeze (((Below.refl _ _).drew).alloc (Nat.le_refl _) _) (Nat.le_refl _) _
theorem dropWhile_nil {α : Type}(p : α→Bool):∀ l:List α,l.dropWhile p=[]↔∀ x∈l,p x=true
 | []=>by simp
 | a::l=>by
   cases h:p a
   ·simp [h]
   ·simp [h,dropWhile_nil p l]
theorem mem_dropWhile {α : Type}(p : α→Bool):∀ (l:List α) (x : α),x∈l→p x=false→x∈l.dropWhile p
 | [],x,h,_=>absurd h (by simp)
 | a::l,x,h,hp=>by
   cases ha:p a
   ·simpa [ha] using h
   ·rcases List.mem_cons.1 h with rfl|h
    ·rw [hp] at ha;cases ha
    ·simpa [ha] using mem_dropWhile p l x h hp
def allOf (l cs:Bytes):Bool:=l.all (cs.contains ·)
theorem trimS_nil (l cs:Bytes):(Lib.trimS l cs=[])↔allOf l cs=true:=by
 unfold Lib.trimS Lib.trimLeftS Lib.trimRightS allOf;constructor
 ·intro h;rw [dropWhile_nil] at h;rw [List.all_eq_true];intro x hx
  cases hc:cs.contains x
  ·have h1:=mem_dropWhile (cs.contains ·) l.reverse x (by simpa using hx) hc
   have:=h x (by simpa using h1)
   rw [hc] at this;exact absurd this (by simp)
  ·rfl
 ·intro h;rw [List.all_eq_true] at h
  have:l.reverse.dropWhile (cs.contains ·)=[]:=by
   rw [dropWhile_nil];intro x hx;exact h x (by simpa using hx)
  rw [this];rfl
def decCs:Bytes:=[48,49,50,51,52,53,54,55,56,57]
def hexCs:Bytes:=[48,49,50,51,52,53,54,55,56,57,97,98,99,100,101,102,65,66,67,68,69,70]
theorem u8_all {p q:UInt8→Bool}(h:(List.range 256).all (fun n=>p (UInt8.ofNat n) == q (UInt8.ofNat n))=true)(c:UInt8):p c=q c:=by
 rw [List.all_eq_true] at h;have:=h c.toNat (List.mem_range.2 c.toNat_lt)
 simpa using this
theorem decCs_at (c:UInt8):decCs.contains c=digitU c:=u8_all (p:=fun c=>decCs.contains c) (q:=digitU) (by decide +kernel) c
def hexU (c:UInt8):Bool:=digitU c || (decide (97≤c.toNat) && decide (c.toNat≤102)) || (decide (65≤c.toNat) && decide (c.toNat≤70))
theorem hexCs_at (c:UInt8):hexCs.contains c=hexU c:=u8_all (p:=fun c=>hexCs.contains c) (q:=hexU) (by decide +kernel) c
def decVal (l:Bytes):Nat:=l.foldl (fun a c=>a*10+(c.toNat-48)) 0
theorem decFrom_val:∀ (l:Bytes)(a:Nat),l.all digitU=true→Lib.decFrom a l=some (l.foldl (fun a c=>a*10+(c.toNat-48)) a)
 | [],a,_=>rfl
 | c::r,a,h=>by
   simp only [List.all_cons,Bool.and_eq_true] at h
   have hd:Lib.digitVal c=some (c.toNat-48):=by
    have:=h.1;simp only [digitU,digitN,decide_eq_true_eq] at this
    simp [Lib.digitVal,this]
   simp only [Lib.decFrom,hd,List.foldl_cons];exact decFrom_val r _ h.2
theorem atoi_val (l:Bytes)(hne:l≠[])(h:l.all digitU=true):Lib.atoi l=some (decVal l:Int):=by
 cases l with
 | nil=>exact absurd rfl hne
 | cons c r=>
   have hc:digitU c=true:=by simp only [List.all_cons,Bool.and_eq_true] at h;exact h.1
   have h1:(c == 45)=false:=by
    rw [beq_eq_false_iff_ne];rintro rfl;revert hc;decide
   have h2:(c == 43)=false:=by
    rw [beq_eq_false_iff_ne];rintro rfl;revert hc;decide
   unfold Lib.atoi;simp only [h1,h2,Bool.false_eq_true,if_false,Lib.decNat,List.isEmpty_cons,decFrom_val _ _ h,Option.map_some,decVal]
def optT (o:Option Nat):Value:=.tuple #[.int .i64 (o.getD 0:Nat),.bool o.isSome]
def decS (l:Bytes)(top:Nat):Option Nat:=
 if l=[]∨10<l.length then none else
 if allOf l decCs=false then none else
 if l.head?=some 48∧l≠[48] then none else
 if top<decVal l then none else some (decVal l)
theorem decVal_lt:∀ (l:Bytes)(a:Nat),l.all digitU=true→l.foldl (fun a c=>a*10+(c.toNat-48)) a<(a+1)*10 ^ l.length
 | [],a,_=>by simp
 | c::r,a,h=>by
   simp only [List.all_cons,Bool.and_eq_true] at h;have h1:=h.1;simp only [digitU,digitN,decide_eq_true_eq] at h1;have:=decVal_lt r (a*10+(c.toNat-48)) h.2;simp only [List.foldl_cons,List.length_cons];refine Nat.lt_of_lt_of_le this ?_;rw [Nat.pow_succ,Nat.mul_comm (10 ^ r.length) 10,← Nat.mul_assoc];exact Nat.mul_le_mul_right _ (by omega)
theorem decVal_bd (l:Bytes)(h:l.all digitU=true)(hl:l.length≤10):decVal l<10000000000:=by
 have:=decVal_lt l 0 h;refine Nat.lt_of_lt_of_le this ?_;rw [Nat.zero_add,Nat.one_mul];exact Nat.le_trans (Nat.pow_le_pow_right (by decide) hl) (by decide)
def hexVal (n:Nat):Nat:=if 48≤n∧n≤57 then n-48 else if 97≤n∧n≤102 then n-87 else n-55
def basedFrom (b acc:Nat):Bytes→Option Nat
 | []=>some acc
 | c::r=>if hexVal c.toNat<b then basedFrom b (acc*b+hexVal c.toNat) r else none
def basedS (b most:Nat)(l:Bytes):Option Nat:=
 if l=[]∨most<l.length then none else if allOf l hexCs=false then none else basedFrom b 0 l
theorem plain_any (s cs:ByteArray)(w:World)(hs:s.size≤9223372036854775807)(hcs:cs.size<4294967281)(ha:∀ (j:Nat) b,cs.data.toList[j]?=some b→b.toNat<128) :
 Calls Tryz.prog 152 #[.string s,.string cs] w fun e w'=>e=.returned (.bool (allOf (bs s) (bs cs)))∧Below w.heap.size w w':=by
 have c:=Hi (Any.strings_Trim_laid Tryz.lays160 (by kernel_rfl) s cs w hs hcs ha)
 have hq:Hid ((Lib.trimS s.data.toList cs.data.toList=[])↔allOf (bs s) (bs cs)=true):=Hi (trimS_nil _ _);generalize Lib.trimS s.data.toList cs.data.toList=q at *;generalize allOf (bs s) (bs cs)=r at *;go_enter Tryz.func152,Tryz.ntmps152;go_wp2_with fail;refine c.out.mono ?_;rintro e w' ⟨rfl,hb⟩;clear c
 cases q with
 | nil=>
   have:r=true:=hq.out.1 rfl;subst this;go_wp2;go_ret;exact ⟨rfl,hb⟩
 | cons x q=>
   have:r=false:=by
    cases r with
    | false=>rfl
    | true=>exact absurd (hq.out.2 rfl) (by simp)
   subst this;go_wp2;go_ret;exact ⟨rfl,hb⟩
theorem plain_dec (s:ByteArray)(w:World)(hs:s.size≤9223372036854775807) :
 Calls Tryz.prog 152 #[.string s,.string ⟨#[48,49,50,51,52,53,54,55,56,57]⟩] w fun e w'=>e=.returned (.bool (allOf (bs s) decCs))∧Below w.heap.size w w':=
 plain_any s ⟨#[48,49,50,51,52,53,54,55,56,57]⟩ w hs (by decide) (ascii_of_all (by decide))
theorem plain_hex (s:ByteArray)(w:World)(hs:s.size≤9223372036854775807) :
 Calls Tryz.prog 152 #[.string s,.string ⟨#[48,49,50,51,52,53,54,55,56,57,97,98,99,100,101,102,65,66,67,68,69,70]⟩] w fun e w'=>e=.returned (.bool (allOf (bs s) hexCs))∧Below w.heap.size w w':=
 plain_any s ⟨#[48,49,50,51,52,53,54,55,56,57,97,98,99,100,101,102,65,66,67,68,69,70]⟩ w hs (by decide) (ascii_of_all (by decide))
theorem ret_opt {o:Option Nat}{v:Int}{b:Bool}(h:optT o=.tuple #[.int .i64 v,.bool b]):Ending.returned (.tuple #[.int .i64 v,.bool b])=.returned (optT o):=by rw [h]
theorem str_nil (s:ByteArray)(h:s.size=0):s=ByteArray.empty:=by
 cases s with|mk d=>simpa using h
theorem emp_false (s:ByteArray)(h:s.size≠0):s.toList.isEmpty=false:=by
 rw [← decide_eq_emptyBytes];exact decide_eq_false (fun e=>h (by rw [e];rfl))
theorem decimal_any (s:ByteArray)(top:Int)(w:World)(hs:s.size≤9223372036854775807)(h0:0≤top)(h1:top≤9223372036854775807) :
 Calls Tryz.prog 119 #[.string s,.int .i64 top] w fun e w'=>e=.returned (optT (decS (bs s) top.toNat))∧Below w.heap.size w w':=by
 by_cases hz:s.size=0
 ·have H:=Hi (show optT (decS (bs s) top.toNat)=.tuple #[.int .i64 0,.bool false] by
   rw [str_nil s hz];rfl)
  obtain rfl:=str_nil s hz;go_enter Tryz.func119,Tryz.ntmps119;go_wp2;go_ret2;exact ⟨ret_opt H.out,Below.refl _ _⟩
 have he:=emp_false s hz
 by_cases hl:10<s.size
 ·have H:=Hi (show optT (decS (bs s) top.toNat)=.tuple #[.int .i64 0,.bool false] by
   unfold decS;rw [if_pos (.inr (by rw [bs_length];exact hl))];rfl)
  go_enter Tryz.func119,Tryz.ntmps119;go_wp2;go_ret2;exact ⟨ret_opt H.out,Below.refl _ _⟩
 have hne:¬ (bs s=[]∨10<(bs s).length):=by
  rintro (h|h)
  ·exact hz (by rw [← bs_length,h];rfl)
  ·rw [bs_length] at h;omega
 have c1:=Hi (plain_dec s w hs)
 have HD:=Hi (show decS (bs s) top.toNat=if allOf (bs s) decCs=false then none else if (bs s).head?=some 48∧bs s≠[48] then none else if top.toNat<decVal (bs s) then none else some (decVal (bs s)) by
  rw [decS,if_neg hne])
 have hall:=Hi (show allOf (bs s) decCs=true→(bs s).all digitU=true from fun h=>by
  unfold allOf at h;rw [← h];congr 1;funext c;exact (decCs_at c).symm)
 have hne':=Hi (show bs s≠[] from fun h=>hne (.inl h))
 clear hne
 by_cases hA:allOf (bs s) decCs=true
 ·rw [hA] at c1 HD;have hall:=Hi (hall.out hA);clear hA;have hpos:0<s.size:=by omega
  have hbs:=Hi (show bs s=s[0]::(bs s).drop 1 from by simpa using bs_drop s 0 hpos)
  have ha:=Hi (Tryz.strconv_Atoi s (decVal (bs s)) (by omega) (atoi_val _ hne'.out hall.out))
  have hbd:decVal (bs s)<10000000000:=decVal_bd _ hall.out (by rw [bs_length];omega)
  have HD:=Hi (HD.out.trans (if_neg (by simp)))
  by_cases hlead:s[0].toNat=48∧s.size≠1
  ·obtain ⟨hd0,hn1⟩:=hlead
   have H:=Hi (show optT (decS (bs s) top.toNat)=.tuple #[.int .i64 0,.bool false] by
    rw [HD.out,if_pos ⟨by rw [hbs.out];simp [← UInt8.toNat_inj,hd0],fun e=>hn1 (by rw [← bs_length,e];rfl)⟩];rfl)
   have hn0:(s.toList == [48])=false:=by
    rw [beq_eq_false_iff_ne];intro e;apply hn1;have e2:bs s=[48]:=by rw [← e];exact (ByteArray.toList_eq s).symm
    rw [← bs_length,e2];rfl
   have hd0':((s[0].toNat:Int) == 48)=true:=by simp;omega
   clear HD hd0 ha hbs hall hne';go_enter Tryz.func119,Tryz.ntmps119;go_wp2_with (go_at_call 152;refine c1.out.mono ?_;rintro e w' ⟨rfl,hb⟩);go_ret2;exact ⟨ret_opt H.out,hb⟩
  ·have HD:=Hi (HD.out.trans (if_neg (show ¬ ((bs s).head?=some 48∧bs s≠[48]) by
    rintro ⟨ha1,ha2⟩;rw [hbs.out] at ha1;simp only [List.head?_cons,Option.some.injEq] at ha1;apply hlead;refine ⟨by rw [ha1];rfl,fun h1=>ha2 ?_⟩
    rw [hbs.out,ha1,List.drop_eq_nil_of_le (by rw [bs_length];omega)])))
   have hcase:((s[0].toNat:Int) == 48)=false∨(((s[0].toNat:Int) == 48)=true∧(s.toList == [48])=true):=by
    by_cases hd0:s[0].toNat=48
    ·refine .inr ⟨by simp;omega,?_⟩
     rw [beq_iff_eq,ByteArray.toList_eq]
     show bs s=[48]
     have h1:s.size=1:=by
      by_cases h1:s.size=1
      ·exact h1
      ·exact absurd ⟨hd0,h1⟩ hlead
     rw [hbs.out,List.drop_eq_nil_of_le (by rw [bs_length];omega),(UInt8.toNat_inj.1 (by rw [hd0];rfl):s[0]=48)]
    ·exact .inl (by simp;omega)
   have ha':=Hi (fun w=>(ha.out w).mono (R':=fun e w'=>e=.returned (.tuple #[.int .i64 (decVal (bs s)),.nilIface])∧Below w.heap.size w w') (fun e w' ⟨he,u,hu⟩=>⟨he,by rw [hu];exact below_bytes _ _ _⟩))
   clear ha hlead hbs hall hne';generalize decVal (bs s)=v at *
   by_cases hv:top.toNat<v
   ·have H:=Hi (show optT (decS (bs s) top.toNat)=.tuple #[.int .i64 0,.bool false] by rw [HD.out,if_pos hv];rfl)
    have hv':top<(v:Int):=by omega
    clear HD hv;rcases hcase with hd0|⟨hd0,hq⟩
    all_goals
     go_enter Tryz.func119,Tryz.ntmps119;go_wp2_with (first|(go_at_call 152;refine c1.out.mono ?_;rintro e w1 ⟨rfl,hb⟩)|(go_at_call 154;refine (ha'.out _).mono ?_;rintro e w2 ⟨rfl,hb2⟩))
     go_ret2;exact ⟨ret_opt H.out,hb.trans (hb2.mono hb.size)⟩
   ·have H:=Hi (show optT (decS (bs s) top.toNat)=.tuple #[.int .i64 v,.bool true] by rw [HD.out,if_neg hv];rfl)
    have hv':(v:Int)≤top:=by omega
    clear HD hv;rcases hcase with hd0|⟨hd0,hq⟩
    all_goals
     go_enter Tryz.func119,Tryz.ntmps119;go_wp2_with (first|(go_at_call 152;refine c1.out.mono ?_;rintro e w1 ⟨rfl,hb⟩)|(go_at_call 154;refine (ha'.out _).mono ?_;rintro e w2 ⟨rfl,hb2⟩))
     go_ret2;exact ⟨ret_opt H.out,hb.trans (hb2.mono hb.size)⟩
 ·have hA':allOf (bs s) decCs=false:=by simpa using hA
  rw [hA'] at c1 HD;have H:=Hi (show optT (decS (bs s) top.toNat)=.tuple #[.int .i64 0,.bool false] by rw [HD.out];rfl)
  clear HD hA hA' hall;go_enter Tryz.func119,Tryz.ntmps119;go_wp2_with (go_at_call 152;refine c1.out.mono ?_;rintro e w' ⟨rfl,hb⟩);go_ret2;exact ⟨ret_opt H.out,hb⟩
theorem based_snoc (b:Nat):∀ (l:Bytes) (acc k:Nat) (v:Nat) (c:UInt8),basedFrom b acc (l.take k)=some v→l[k]?=some c→hexVal c.toNat<b →
 basedFrom b acc (l.take (k+1))=some (v*b+hexVal c.toNat)
 | [],_,_,_,_,_,h,_=>by simp at h
 | d::l,acc,0,v,c,h,hc,hb=>by
   simp only [List.take_zero,basedFrom,Option.some.injEq] at h;simp only [List.getElem?_cons_zero,Option.some.injEq] at hc;subst h;subst hc
   simp [basedFrom,hb]
 | d::l,acc,k+1,v,c,h,hc,hb=>by
   simp only [List.take_succ_cons,basedFrom] at h ⊢
   split at h
   ·rename_i hd;rw [if_pos hd];exact based_snoc b l _ k v c h (by simpa using hc) hb
   ·cases h
theorem based_bad (b:Nat):∀ (l:Bytes) (acc k:Nat) (c:UInt8),l[k]?=some c→¬ hexVal c.toNat<b→basedFrom b acc l=none
 | [],_,_,_,h,_=>by simp at h
 | d::l,acc,0,c,hc,hb=>by
   simp only [List.getElem?_cons_zero,Option.some.injEq] at hc;subst hc
   simp [basedFrom,hb]
 | d::l,acc,k+1,c,hc,hb=>by
   simp only [basedFrom]
   split
   ·exact based_bad b l _ k c (by simpa using hc) hb
   ·rfl
theorem based_lt (b:Nat)(hb:0<b):∀ (l:Bytes) (acc v:Nat),basedFrom b acc l=some v→v<(acc+1)*b ^ l.length
 | [],acc,v,h=>by simp only [basedFrom,Option.some.injEq] at h;subst h;simp
 | c::r,acc,v,h=>by
   simp only [basedFrom] at h
   split at h
   ·rename_i hd;have:=based_lt b hb r _ v h;refine Nat.lt_of_lt_of_le this ?_;rw [List.length_cons,Nat.pow_succ,Nat.mul_comm (b ^ r.length) b,← Nat.mul_assoc];refine Nat.mul_le_mul_right _ ?_;rw [Nat.add_mul];omega
   ·cases h
theorem based_bd {b most:Nat}(hb:0<b)(hm:b ^ most≤4294967296){l:Bytes}{v k:Nat}(h:basedFrom b 0 (l.take k)=some v)(hk:k≤most):v<4294967296:=by
 have:=based_lt b hb _ _ _ h;have h2:(l.take k).length≤most:=by rw [List.length_take];omega
 have h3:=Nat.pow_le_pow_right hb h2;omega
def uintT (o:Option Nat):Value:=match o with
 | some v=>.tuple #[.int .u64 v,.nilIface]
 | none=>.tuple #[.int .u64 0,.iface 250 (.int .i64 2)]
theorem or32_lo:∀ n:Nat,97≤n→n≤102→bits .or .u8 (n:Int) 32=(n:Int):=fun n h1 h2=>by
 have:=u8_or_nat n 32 (by omega) (by decide)
 rw [show ((32:Nat):Int)=32 from rfl] at this
 rw [this];have:n=97∨n=98∨n=99∨n=100∨n=101∨n=102:=by omega
 rcases this with rfl|rfl|rfl|rfl|rfl|rfl<;>rfl
theorem or32_up:∀ n:Nat,65≤n→n≤70→bits .or .u8 (n:Int) 32=((n+32:Nat):Int):=fun n h1 h2=>by
 have:=u8_or_nat n 32 (by omega) (by decide)
 rw [show ((32:Nat):Int)=32 from rfl] at this
 rw [this];have:n=65∨n=66∨n=67∨n=68∨n=69∨n=70:=by omega
 rcases this with rfl|rfl|rfl|rfl|rfl|rfl<;>rfl
theorem ret_uint {o:Option Nat}{v:Value}(h:uintT o=v):Ending.returned v=.returned (uintT o):=by rw [h]
theorem pu_16 (s:ByteArray)(hne:s.size≠0)(hmost:s.size≤8)(hhex:(bs s).all hexU=true)(w:World) :
 Calls Tryz.prog 178 #[.string s,.int .i64 16,.int .i64 64] w fun e w'=>e=.returned (uintT (basedFrom 16 0 (bs s)))∧Below w.heap.size w w':=by
 have hemp:=emp_false s hne;have hbd:Hid (∀ k v,basedFrom 16 0 ((bs s).take k)=some v→k≤8→v<4294967296):=Hi fun k v h hk=>based_bd (by decide) (by decide) h hk
 have hcv:=Lib.run_convert_string_bytes (P:=Tryz.prog) w 9 144 5 s (u:=.string) Tryz.underlying9 Tryz.underlying144 Tryz.underlying5
 have hB:=Hi (show ∀ j (hj:j<s.size),(Lib.bytesWorld w 5 s).cell? ⟨w.heap.size,j,none⟩=some (.int .u8 s[j].toNat) from fun j hj=>by
  rw [Lib.bytesWorld_cell w 5 s j hj]
  have e:s.data.toList.getD j 0=s[j]:=by
   have:=bs_at s j hj;unfold bs at this;rw [List.getD_eq_getElem?_getD,this];rfl
  rw [e])
 have hbel:=Hi (below_bytes w 5 s)
 have hall:=Hi (show ∀ j (hj:j<s.size),hexU s[j]=true from fun j hj=>by
  rw [List.all_eq_true] at hhex;exact hhex _ (List.mem_of_getElem? (bs_at s j hj)))
 clear hhex;obtain ⟨W1,hW1⟩:∃ W1,W1=Lib.bytesWorld w 5 s:=⟨_,rfl⟩
 rw [← hW1] at hcv hB hbel;clear hW1
 have hmv:IntKind.u64.wrap (IntKind.u64.wrap 18446744073709551616-1)=18446744073709551615:=by
  rw [IntKind.wrap_u64,IntKind.wrap_u64];decide
 go_enter Tryz.func178,Tryz.ntmps178;go_wp2
 go_loop [12,13,101] (fun vu vn vi=>∃ (k acc:Nat) (a:Int),vu=.bool false∧vn=.int .u64 a∧vi=.int .i64 k∧k≤s.size∧Hid (a=(acc:Int)∧basedFrom 16 0 ((bs s).take k)=some acc))
  (fun _ _ vi=>s.size-(intOf vi).toNat)
 case atStart=>exact ⟨0,0,0,rfl,rfl,rfl,by omega,rfl,rfl⟩
 case round=>
  obtain ⟨k,acc,a,rfl,rfl,rfl,hk,hh⟩:=hrel;have a1:a<4294967296:=by have h1:=hh.out.1;have h2:=hbd.out k acc hh.out.2 (by omega);omega
  have a0:0≤a:=by have h1:=hh.out.1;omega
  by_cases hkn:k<s.size
  ·have hc:=hB.out k hkn;have hx:=hall.out k hkn;have hat:=Hi (bs_at s k hkn)
   have hok:=Hi (show hexVal s[k].toNat<16→a*16+(hexVal s[k].toNat:Int)=((acc*16+hexVal s[k].toNat:Nat):Int)∧basedFrom 16 0 ((bs s).take (k+1))=some (acc*16+hexVal s[k].toNat) from fun h=>
    ⟨by have:=hh.out.1;omega,based_snoc 16 _ 0 k acc _ hh.out.2 hat.out h⟩)
   have hno:=Hi (show ¬ hexVal s[k].toNat<16→basedFrom 16 0 (bs s)=none from fun h=>based_bad 16 _ 0 k _ hat.out h)
   clear hh hat hB hall hcv;simp only [hexU,digitU,digitN,Bool.or_eq_true,Bool.and_eq_true,decide_eq_true_eq] at hx;generalize s[k].toNat=n at *;rcases hx with (hx|hx)|hx
   ·obtain ⟨x1,x2⟩:=hx;have hv:=Hi (show hexVal n=n-48 from by unfold hexVal;rw [if_pos ⟨x1,x2⟩])
    rw [hv.out] at hok hno;clear hv
    by_cases hd:n-48<16
    ·have hN:=Hi (hok.out hd);clear hok hno;go_wp2;refine ⟨⟨k+1,acc*16+(n-48),a*16+((n:Int)-48),rfl,(by first|rfl|(congr 1;omega)),(by first|rfl|(congr 1;omega)),by omega,Hi ⟨by have:=hN.out.1;omega,hN.out.2⟩⟩,by simp [intOf];omega⟩
    ·have hN:=Hi (hno.out hd);clear hok hno
     first
      | (exfalso;omega)
      | (go_wp2
         go_ret2;exact ⟨ret_uint (by rw [hN.out];rfl),hbel.out⟩)
   ·obtain ⟨x1,x2⟩:=hx;have hv:=Hi (show hexVal n=n-87 from by unfold hexVal;rw [if_neg (by omega),if_pos ⟨x1,x2⟩])
    rw [hv.out] at hok hno;have hor:=or32_lo n x1 x2;clear hv
    by_cases hd:n-87<16
    ·have hN:=Hi (hok.out hd);clear hok hno
     first
      | (exfalso;omega)
      | (go_wp2_with (go_at_call 197;refine (Tryz.internal_strconv_lower _ _).mono ?_;rintro e w' ⟨rfl,rfl⟩)
         refine ⟨⟨k+1,acc*16+(n-87),a*16+((n:Int)-87),rfl,(by first|rfl|(congr 1;omega)),(by first|rfl|(congr 1;omega)),by omega,Hi ⟨by have:=hN.out.1;omega,hN.out.2⟩⟩,by simp [intOf];omega⟩)
    ·have hN:=Hi (hno.out hd);clear hok hno
     first
      | (exfalso;omega)
      | (go_wp2_with (go_at_call 197;refine (Tryz.internal_strconv_lower _ _).mono ?_;rintro e w' ⟨rfl,rfl⟩)
         go_ret2;exact ⟨ret_uint (by rw [hN.out];rfl),hbel.out⟩)
   ·obtain ⟨x1,x2⟩:=hx;have hv:=Hi (show hexVal n=n-55 from by unfold hexVal;rw [if_neg (by omega),if_neg (by omega)])
    rw [hv.out] at hok hno;have hor:=or32_up n x1 x2;clear hv
    by_cases hd:n-55<16
    ·have hN:=Hi (hok.out hd);clear hok hno
     first
      | (exfalso;omega)
      | (go_wp2_with (go_at_call 197;refine (Tryz.internal_strconv_lower _ _).mono ?_;rintro e w' ⟨rfl,rfl⟩)
         refine ⟨⟨k+1,acc*16+(n-55),a*16+((n:Int)-55),rfl,(by first|rfl|(congr 1;omega)),(by first|rfl|(congr 1;omega)),by omega,Hi ⟨by have:=hN.out.1;omega,hN.out.2⟩⟩,by simp [intOf];omega⟩)
    ·have hN:=Hi (hno.out hd);clear hok hno
     first
      | (exfalso;omega)
      | (go_wp2_with (go_at_call 197;refine (Tryz.internal_strconv_lower _ _).mono ?_;rintro e w' ⟨rfl,rfl⟩)
         go_ret2;exact ⟨ret_uint (by rw [hN.out];rfl),hbel.out⟩)
  ·have hkk:k=s.size:=by omega
   have H:=Hi (show basedFrom 16 0 (bs s)=some acc from by
    have:=hh.out.2
    rwa [List.take_of_length_le (by rw [bs_length];omega)] at this)
   have ha:=hh.out.1;clear hh hB hall hcv hbd;subst ha;have hkk:=Hi hkk;go_wp2;go_ret2;exact ⟨ret_uint (by rw [H.out];rfl),hbel.out⟩
theorem pu_2 (s:ByteArray)(hne:s.size≠0)(hmost:s.size≤32)(hhex:(bs s).all hexU=true)(w:World) :
 Calls Tryz.prog 178 #[.string s,.int .i64 2,.int .i64 64] w fun e w'=>e=.returned (uintT (basedFrom 2 0 (bs s)))∧Below w.heap.size w w':=by
 have hemp:=emp_false s hne;have hbd:Hid (∀ k v,basedFrom 2 0 ((bs s).take k)=some v→k≤32→v<4294967296):=Hi fun k v h hk=>based_bd (by decide) (by decide) h hk
 have hcv:=Lib.run_convert_string_bytes (P:=Tryz.prog) w 9 144 5 s (u:=.string) Tryz.underlying9 Tryz.underlying144 Tryz.underlying5
 have hB:=Hi (show ∀ j (hj:j<s.size),(Lib.bytesWorld w 5 s).cell? ⟨w.heap.size,j,none⟩=some (.int .u8 s[j].toNat) from fun j hj=>by
  rw [Lib.bytesWorld_cell w 5 s j hj]
  have e:s.data.toList.getD j 0=s[j]:=by
   have:=bs_at s j hj;unfold bs at this;rw [List.getD_eq_getElem?_getD,this];rfl
  rw [e])
 have hbel:=Hi (below_bytes w 5 s)
 have hall:=Hi (show ∀ j (hj:j<s.size),hexU s[j]=true from fun j hj=>by
  rw [List.all_eq_true] at hhex;exact hhex _ (List.mem_of_getElem? (bs_at s j hj)))
 clear hhex;obtain ⟨W1,hW1⟩:∃ W1,W1=Lib.bytesWorld w 5 s:=⟨_,rfl⟩
 rw [← hW1] at hcv hB hbel;clear hW1
 have hmv:IntKind.u64.wrap (IntKind.u64.wrap 18446744073709551616-1)=18446744073709551615:=by
  rw [IntKind.wrap_u64,IntKind.wrap_u64];decide
 go_enter Tryz.func178,Tryz.ntmps178;go_wp2
 go_loop [12,13,101] (fun vu vn vi=>∃ (k acc:Nat) (a:Int),vu=.bool false∧vn=.int .u64 a∧vi=.int .i64 k∧k≤s.size∧Hid (a=(acc:Int)∧basedFrom 2 0 ((bs s).take k)=some acc))
  (fun _ _ vi=>s.size-(intOf vi).toNat)
 case atStart=>exact ⟨0,0,0,rfl,rfl,rfl,by omega,rfl,rfl⟩
 case round=>
  obtain ⟨k,acc,a,rfl,rfl,rfl,hk,hh⟩:=hrel;have a1:a<4294967296:=by have h1:=hh.out.1;have h2:=hbd.out k acc hh.out.2 (by omega);omega
  have a0:0≤a:=by have h1:=hh.out.1;omega
  by_cases hkn:k<s.size
  ·have hc:=hB.out k hkn;have hx:=hall.out k hkn;have hat:=Hi (bs_at s k hkn)
   have hok:=Hi (show hexVal s[k].toNat<2→a*2+(hexVal s[k].toNat:Int)=((acc*2+hexVal s[k].toNat:Nat):Int)∧basedFrom 2 0 ((bs s).take (k+1))=some (acc*2+hexVal s[k].toNat) from fun h=>
    ⟨by have:=hh.out.1;omega,based_snoc 2 _ 0 k acc _ hh.out.2 hat.out h⟩)
   have hno:=Hi (show ¬ hexVal s[k].toNat<2→basedFrom 2 0 (bs s)=none from fun h=>based_bad 2 _ 0 k _ hat.out h)
   clear hh hat hB hall hcv;simp only [hexU,digitU,digitN,Bool.or_eq_true,Bool.and_eq_true,decide_eq_true_eq] at hx;generalize s[k].toNat=n at *;rcases hx with (hx|hx)|hx
   ·obtain ⟨x1,x2⟩:=hx;have hv:=Hi (show hexVal n=n-48 from by unfold hexVal;rw [if_pos ⟨x1,x2⟩])
    rw [hv.out] at hok hno;clear hv
    by_cases hd:n-48<2
    ·have hN:=Hi (hok.out hd);clear hok hno;go_wp2;refine ⟨⟨k+1,acc*2+(n-48),a*2+((n:Int)-48),rfl,(by first|rfl|(congr 1;omega)),(by first|rfl|(congr 1;omega)),by omega,Hi ⟨by have:=hN.out.1;omega,hN.out.2⟩⟩,by simp [intOf];omega⟩
    ·have hN:=Hi (hno.out hd);clear hok hno
     first
      | (exfalso;omega)
      | (go_wp2
         go_ret2;exact ⟨ret_uint (by rw [hN.out];rfl),hbel.out⟩)
   ·obtain ⟨x1,x2⟩:=hx;have hv:=Hi (show hexVal n=n-87 from by unfold hexVal;rw [if_neg (by omega),if_pos ⟨x1,x2⟩])
    rw [hv.out] at hok hno;have hor:=or32_lo n x1 x2;clear hv
    by_cases hd:n-87<2
    ·have hN:=Hi (hok.out hd);clear hok hno
     first
      | (exfalso;omega)
      | (go_wp2_with (go_at_call 197;refine (Tryz.internal_strconv_lower _ _).mono ?_;rintro e w' ⟨rfl,rfl⟩)
         refine ⟨⟨k+1,acc*2+(n-87),a*2+((n:Int)-87),rfl,(by first|rfl|(congr 1;omega)),(by first|rfl|(congr 1;omega)),by omega,Hi ⟨by have:=hN.out.1;omega,hN.out.2⟩⟩,by simp [intOf];omega⟩)
    ·have hN:=Hi (hno.out hd);clear hok hno
     first
      | (exfalso;omega)
      | (go_wp2_with (go_at_call 197;refine (Tryz.internal_strconv_lower _ _).mono ?_;rintro e w' ⟨rfl,rfl⟩)
         go_ret2;exact ⟨ret_uint (by rw [hN.out];rfl),hbel.out⟩)
   ·obtain ⟨x1,x2⟩:=hx;have hv:=Hi (show hexVal n=n-55 from by unfold hexVal;rw [if_neg (by omega),if_neg (by omega)])
    rw [hv.out] at hok hno;have hor:=or32_up n x1 x2;clear hv
    by_cases hd:n-55<2
    ·have hN:=Hi (hok.out hd);clear hok hno
     first
      | (exfalso;omega)
      | (go_wp2_with (go_at_call 197;refine (Tryz.internal_strconv_lower _ _).mono ?_;rintro e w' ⟨rfl,rfl⟩)
         refine ⟨⟨k+1,acc*2+(n-55),a*2+((n:Int)-55),rfl,(by first|rfl|(congr 1;omega)),(by first|rfl|(congr 1;omega)),by omega,Hi ⟨by have:=hN.out.1;omega,hN.out.2⟩⟩,by simp [intOf];omega⟩)
    ·have hN:=Hi (hno.out hd);clear hok hno
     first
      | (exfalso;omega)
      | (go_wp2_with (go_at_call 197;refine (Tryz.internal_strconv_lower _ _).mono ?_;rintro e w' ⟨rfl,rfl⟩)
         go_ret2;exact ⟨ret_uint (by rw [hN.out];rfl),hbel.out⟩)
  ·have hkk:k=s.size:=by omega
   have H:=Hi (show basedFrom 2 0 (bs s)=some acc from by
    have:=hh.out.2
    rwa [List.take_of_length_le (by rw [bs_length];omega)] at this)
   have ha:=hh.out.1;clear hh hB hall hcv hbd;subst ha;have hkk:=Hi hkk;go_wp2;go_ret2;exact ⟨ret_uint (by rw [H.out];rfl),hbel.out⟩
def uintR (o:Option Nat)(e:Ending):Prop:=match o with
 | some v=>e=.returned (.tuple #[.int .u64 v,.nilIface])
 | none=>∃ t a,e=.returned (.tuple #[.int .u64 0,.iface t a])
theorem ParseUint_of (b most:Nat)(hb:b=16∧most≤8∨b=2∧most=32)(s:ByteArray)(hne:s.size≠0)(hmost:s.size≤most)(hhex:(bs s).all hexU=true)(w:World)(E:Env w) :
 Calls Tryz.prog 153 #[.string s,.int .i64 b,.int .i64 64] w fun e w'=>uintR (basedFrom b 0 (bs s)) e∧Below w.heap.size w w':=by
 have c1:=Hi (show ∀ w,Calls Tryz.prog 178 #[.string s,.int .i64 b,.int .i64 64] w fun e w'=>e=.returned (uintT (basedFrom b 0 (bs s)))∧Below w.heap.size w w' from fun w=>by
  rcases hb with ⟨rfl,hm8⟩|⟨rfl,rfl⟩
  ·exact pu_16 s hne (by omega) hhex w
  ·exact pu_2 s hne hmost hhex w)
 have hm:s.size≤32:=by rcases hb with ⟨_,h8⟩|⟨_,h8⟩<;>omega
 obtain ⟨ev,he1,he2⟩:=E.errS;have hE:=Hi he1;have hE2:=Hi he2;clear he1 he2 hb hhex;generalize basedFrom b 0 (bs s)=o at *;go_enter Tryz.func153,Tryz.ntmps153;go_wp2_with fail;refine (c1.out _).mono ?_;rintro e w1 ⟨rfl,hb1⟩
 cases o with
 | some v=>
   unfold uintT;dsimp only;go_wp2;go_ret2;exact ⟨rfl,hb1⟩
 | none=>
   unfold uintT;dsimp only;have hv1:=Hi (cell_below hb1 hE.out);go_wp2_with fail;refine (Tryz.strconv_toError_syntax _ s _ _ ev _ (by omega) hv1.out hE2.out).mono ?_
   rintro e w2 ⟨N,rfl,_,_,hb2⟩;go_wp2_with fail;go_ret2;exact ⟨⟨_,_,rfl⟩,hb1.trans (hb2.mono hb1.size)⟩
theorem basedS_none {b most:Nat}{l:Bytes}(h:l=[]∨most<l.length∨allOf l hexCs=false):basedS b most l=none:=by
 unfold basedS
 split
 ·rfl
 ·rename_i h1;rw [if_pos];rcases h with h|h|h
  ·exact absurd (.inl h) h1
  ·exact absurd (.inr h) h1
  ·exact h
theorem based_any (b most:Nat)(hb:b=16∧most≤8∨b=2∧most=32)(s:ByteArray)(hs:s.size≤9223372036854775807)(w:World)(E:Env w) :
 Calls Tryz.prog 118 #[.string s,.int .i64 b,.int .i64 most] w fun e w'=>e=.returned (optT (basedS b most (bs s)))∧Below w.heap.size w w':=by
 have hm:most≤32:=by rcases hb with ⟨_,h8⟩|⟨_,h8⟩<;>omega
 by_cases hz:s.size=0
 ·have H:=Hi (show optT (basedS b most (bs s))=.tuple #[.int .i64 0,.bool false] by rw [basedS_none (.inl (by rw [str_nil s hz];rfl))];rfl)
  obtain rfl:=str_nil s hz;go_enter Tryz.func118,Tryz.ntmps118;go_wp2;go_ret2;exact ⟨ret_opt H.out,Below.refl _ _⟩
 have he:=emp_false s hz
 by_cases hl:most<s.size
 ·have H:=Hi (show optT (basedS b most (bs s))=.tuple #[.int .i64 0,.bool false] by rw [basedS_none (.inr (.inl (by rw [bs_length];exact hl)))];rfl)
  go_enter Tryz.func118,Tryz.ntmps118;go_wp2;go_ret2;exact ⟨ret_opt H.out,Below.refl _ _⟩
 have c1:=Hi (plain_hex s w hs)
 by_cases hA:allOf (bs s) hexCs=true
 ·have hhex:(bs s).all hexU=true:=by
   unfold allOf at hA;rw [← hA];congr 1;funext c;exact (hexCs_at c).symm
  have c2:=Hi (fun w E=>ParseUint_of b most hb s hz (by omega) hhex w E)
  have HS:=Hi (show basedS b most (bs s)=basedFrom b 0 (bs s) by
   unfold basedS;rw [if_neg,if_neg (by rw [hA];simp)]
   rintro (h|h)
   ·exact hz (by rw [← bs_length,h];rfl)
   ·rw [bs_length] at h;omega)
  have hbd:=Hi (show ∀ v,basedFrom b 0 (bs s)=some v→v<4294967296 from fun v h=>by
   have h':basedFrom b 0 ((bs s).take s.size)=some v:=by rwa [List.take_of_length_le (by rw [bs_length];omega)]
   rcases hb with ⟨rfl,h8⟩|⟨rfl,rfl⟩
   ·exact based_bd (most:=8) (by decide) (by decide) h' (by omega)
   ·exact based_bd (most:=32) (by decide) (by decide) h' (by omega))
  rw [hA] at c1;clear hA hhex hb;generalize basedFrom b 0 (bs s)=o at *;have HE:=Hi E;clear E;go_enter Tryz.func118,Tryz.ntmps118;go_wp2_with fail;refine c1.out.mono ?_;rintro e w1 ⟨rfl,hb1⟩;go_wp2_with fail;refine (c2.out _ (HE.out.below hb1)).mono ?_;rintro e w2 ⟨hr,hb2⟩
  cases o with
  | some v=>
    have hv:v<4294967296:=hbd.out v rfl;have H:=Hi (show optT (basedS b most (bs s))=.tuple #[.int .i64 v,.bool true] by rw [HS.out];rfl)
    obtain rfl:=hr;clear HS;go_wp2;go_quiet (fail);go_wp2;go_ret2;exact ⟨ret_opt H.out,below_drewN (hb1.trans (hb2.mono hb1.size)) _⟩
  | none=>
    obtain ⟨t,a,rfl⟩:=hr;have H:=Hi (show optT (basedS b most (bs s))=.tuple #[.int .i64 0,.bool false] by rw [HS.out];rfl)
    clear HS;go_wp2;go_quiet (fail);go_wp2;go_ret2;exact ⟨ret_opt H.out,below_drewN (hb1.trans (hb2.mono hb1.size)) _⟩
 ·have hA':allOf (bs s) hexCs=false:=by simpa using hA
  have H:=Hi (show optT (basedS b most (bs s))=.tuple #[.int .i64 0,.bool false] by rw [basedS_none (.inr (.inr hA'))];rfl)
  rw [hA'] at c1;clear hA hA';go_enter Tryz.func118,Tryz.ntmps118;go_wp2_with fail;refine c1.out.mono ?_;rintro e w1 ⟨rfl,hb1⟩;go_wp2;go_ret2;exact ⟨ret_opt H.out,hb1⟩
def partsD (s:ByteArray):List ByteArray:=Lib.splitB ⟨#[46]⟩ 0 (Lib.countB s ⟨#[46]⟩) s
theorem partsD_length (s:ByteArray):(partsD s).length=Lib.countB s ⟨#[46]⟩+1:=Lib.splitB_all _ (by decide) 0 _ s rfl
theorem splitB_le (sep:ByteArray)(save:Nat):∀ (k:Nat) (s p:ByteArray),p∈Lib.splitB sep save k s→p.size≤s.size
 | 0,s,p,h=>by simp only [Lib.splitB_zero,List.mem_singleton] at h;rw [h];exact Nat.le_refl _
 | k+1,s,p,h=>by
   unfold Lib.splitB at h
   split at h
   ·simp only [List.mem_singleton] at h;rw [h];exact Nat.le_refl _
   ·rcases List.mem_cons.1 h with rfl|h
    ·exact size_extract_le _ _ _
    ·exact Nat.le_trans (splitB_le sep save k _ p h) (size_extract_le _ _ _)
def quadFold (v:Nat):List ByteArray→Option Nat
 | []=>some v
 | p::r=>match decS (bs p) 255 with
   | some n=>quadFold (v*256+n) r
   | none=>none
def quadS (s:ByteArray):Option Nat:=if (partsD s).length=4 then quadFold 0 (partsD s) else none
theorem ofInt_i64 (a:Nat)(ha:a<9223372036854775808):(BitVec.ofInt 64 (a:Int)).toNat=a:=by
 rw [BitVec.ofInt_natCast,BitVec.toNat_ofNat];exact Nat.mod_eq_of_lt (by omega)
theorem i64_or (a b:Nat)(ha:a<9223372036854775808)(hb:b<9223372036854775808):bits .or .i64 (a:Int) (b:Int)=((a ||| b:Nat):Int):=by
 have hx:a ||| b<2 ^ 63:=Nat.or_lt_two_pow (by omega) (by omega)
 show IntKind.i64.wrap ((BitVec.ofInt 64 (a:Int) ||| BitVec.ofInt 64 (b:Int)).toNat:Int)=_
 rw [BitVec.toNat_or,ofInt_i64 a ha,ofInt_i64 b hb,IntKind.wrap_i64];omega
theorem or_add (a n:Nat)(hn:n<256):(a*256) ||| n=a*256+n:=by
 have:=Nat.two_pow_add_eq_or_of_lt (i:=8) (b:=n) hn a;rw [Nat.mul_comm a 256];exact this.symm
theorem decS_le {l:Bytes}{top n:Nat}(h:decS l top=some n):n≤top:=by
 unfold decS at h
 split at h
 ·cases h
 ·split at h
  ·cases h
  ·split at h
   ·cases h
   ·split at h
    ·cases h
    ·simp only [Option.some.injEq] at h;omega
theorem quad_any (s:ByteArray)(hs:s.size<4294967281)(w:World)(E:Env w) :
 Calls Tryz.prog 116 #[.string s] w fun e w'=>e=.returned (optT (quadS s))∧Below w.heap.size w w':=by
 obtain ⟨m,hm⟩:=E.maxlen;have c1:=Hi (Tryz.strings_Split s ⟨#[46]⟩ m w hs hm (by decide))
 have hlen:=Hi (partsD_length s)
 have hcell:=Hi (show ∀ k p,(partsD s)[k]?=some p→(w.alloc (.cells ((Lib.splitB ⟨#[46]⟩ 0 (Lib.countB s ⟨#[46]⟩) s).map Value.string).toArray 9)).cell? ⟨w.heap.size,k,none⟩=some (.string p) from fun k p h=>by
  rw [World.cell?_alloc_new];simp only [List.getElem?_toArray,List.getElem?_map];unfold partsD at h;rw [h];rfl)
 have hW:∃ W,W=(w.alloc (.cells ((Lib.splitB ⟨#[46]⟩ 0 (Lib.countB s ⟨#[46]⟩) s).map Value.string).toArray 9)):=⟨_,rfl⟩
 obtain ⟨W,hW⟩:=hW;have hbW:Below w.heap.size w W:=by rw [hW];exact (Below.refl _ _).alloc (Nat.le_refl _) _
 have hsz:w.heap.size<W.heap.size:=by rw [hW];simp
 rw [← hW] at c1 hcell;have hle:=Hi (show ∀ p,p∈partsD s→p.size≤s.size from fun p h=>splitB_le _ _ _ _ p h)
 clear hW hm E;have HQ:=Hi (show quadS s=if (partsD s).length=4 then quadFold 0 (partsD s) else none from rfl)
 generalize Lib.countB s ⟨#[46]⟩=n at *;go_enter Tryz.func116,Tryz.ntmps116;go_wp2_with fail;refine c1.out.mono ?_;rintro e w1 ⟨rfl,rfl⟩;clear c1
 by_cases h4:n+1=4
 ·obtain rfl:n=3:=by omega
  have HQ2:=Hi (HQ.out.trans (if_pos hlen.out));clear HQ h4;go_wp2_with fail
  go_loopw [5,17] (fun vv vi wr=>∃ (k acc:Nat),k≤4∧vi=.int .i64 k∧vv=.int .i64 acc∧Hid (acc<256 ^ k)∧Hid (quadS s=quadFold acc ((partsD s).drop k))∧Below w1.heap.size w1 wr) (fun _ vi _=>4-(intOf vi).toNat)
  case atStart=>exact ⟨0,0,by omega,rfl,rfl,Hi (by decide),HQ2,Below.refl _ _⟩
  case round=>
   obtain ⟨k,acc,hk,rfl,rfl,ha,HR,hbr⟩:=hrel
   by_cases hlt:k<4
   ·obtain ⟨p,hp⟩:∃ p,(partsD s)[k]?=some p:=⟨_,List.getElem?_eq_getElem (by rw [hlen.out];omega)⟩
    have hc:wr.cell? ⟨w.heap.size,k,none⟩=some (.string p):=(hbr.cell (p:=⟨w.heap.size,k,none⟩) hsz).trans (hcell.out k p hp);have hps:p.size≤s.size:=hle.out p (List.mem_of_getElem? hp)
    have HS:=Hi (show quadS s=match decS (bs p) 255 with|some n=>quadFold (acc*256+n) ((partsD s).drop (k+1))|none=>none by
     rw [HR.out,drop_at hp];rfl)
    have ha3:acc<16777216:=Nat.lt_of_lt_of_le ha.out (Nat.le_trans (Nat.pow_le_pow_right (by decide) (show k≤3 by omega)) (by decide))
    have ha4:=Hi (show ∀ n,n≤255→acc*256+n<256 ^ (k+1) from fun n hn=>by have:=ha.out;rw [Nat.pow_succ];omega)
    have hdl:=Hi (show ∀ n,decS (bs p) 255=some n→n≤255 from fun n h=>decS_le h)
    have c2:=Hi (fun w=>decimal_any p 255 w (by omega) (by omega) (by omega))
    rw [show (255:Int).toNat=255 from rfl] at c2
    clear HR ha hp hcell;generalize decS (bs p) 255=o at *;go_wp2_with fail;refine (c2.out _).mono ?_;rintro e w2 ⟨rfl,hb2⟩;clear c2
    cases o with
    | none=>
      unfold optT;dsimp only [Option.getD_none,Option.isSome_none];have HS:=Hi (show optT (quadS s)=.tuple #[.int .i64 0,.bool false] by rw [HS.out];rfl)
      go_wp2_with fail;go_ret2;exact ⟨ret_opt HS.out,hbW.trans ((hbr.trans (hb2.mono hbr.size)).mono (by omega))⟩
    | some n=>
      unfold optT;dsimp only [Option.getD_some,Option.isSome_some];have hn:n≤255:=hdl.out n rfl;have HS:=Hi (show quadS s=quadFold (acc*256+n) ((partsD s).drop (k+1)) from HS.out)
      have hor:bits .or .i64 ((acc:Int)*256) (n:Int)=((acc*256+n:Nat):Int):=by
       have:=i64_or (acc*256) n (by omega) (by omega)
       rw [or_add acc n (by omega)] at this
       rw [← this];congr 1
      go_wp2_with fail
      go_roundw
      case rel=>exact ⟨k+1,acc*256+n,by omega,by go_num,by go_num,Hi (ha4.out n hn),HS,hbr.trans (hb2.mono hbr.size)⟩
      case measure=>simp [intOf];omega
   ·have hk4:k=4:=by omega
    have H:=Hi (show optT (quadS s)=.tuple #[.int .i64 acc,.bool true] by
     rw [HR.out,drop_end (by rw [hlen.out];omega)];rfl)
    clear HR ha hcell hk4;go_wp2_with fail;go_ret2;exact ⟨ret_opt H.out,hbW.trans (hbr.mono (by omega))⟩
 ·have H:=Hi (show optT (quadS s)=.tuple #[.int .i64 0,.bool false] by rw [HQ.out,if_neg (by rw [hlen.out];exact h4)];rfl)
  have h4':(((n:Int)+1) != 4)=true:=by simp;omega
  clear HQ h4;go_wp2_with fail;go_ret2;exact ⟨ret_opt H.out,hbW⟩
def zx:Bytes:=[48,120]
def zb:Bytes:=[48,98]
def numS (s:ByteArray):Option Nat:=
 if 0≤Lib.indexByte (bs s) 46 then quadS s else
 if Lib.hasPrefix (bs s) zx then basedS 16 8 ((bs s).drop 2) else
 if Lib.hasPrefix (bs s) zb then basedS 2 32 ((bs s).drop 2) else decS (bs s) 4294967295
theorem size_mk (l:Bytes):(ByteArray.mk l.toArray).size=l.length:=by simp [ByteArray.size]
theorem number_any (s:ByteArray)(hs:s.size<4294967281)(w:World)(E:Env w) :
 Calls Tryz.prog 83 #[.string s] w fun e w'=>e=.returned (optT (numS s))∧Below w.heap.size w w':=by
 have c1:=Hi (Tryz.strings_Contains_one s 46 w)
 have HN:=Hi (show numS s=if 0≤Lib.indexByte (bs s) 46 then quadS s else
  if Lib.hasPrefix (bs s) zx then basedS 16 8 ((bs s).drop 2) else
  if Lib.hasPrefix (bs s) zb then basedS 2 32 ((bs s).drop 2) else decS (bs s) 4294967295 from rfl)
 have HE:=Hi E;clear E
 by_cases h1:0≤Lib.indexByte (bs s) 46
 ·have HN2:=Hi (HN.out.trans (if_pos h1));have c2:=Hi (fun w E=>quad_any s hs w E)
  have c1':Hid (Calls Tryz.prog 55 #[.string s,.string ⟨#[46]⟩] w fun e w'=>e=.returned (.bool true)∧w'=w):=by
   have:=c1.out
   rwa [show (decide (0≤Lib.indexByte s.data.toList 46))=true from decide_eq_true h1] at this
  clear HN h1 c1;rw [HN2.out];clear HN2;generalize quadS s=o at *;go_enter Tryz.func83,Tryz.ntmps83;go_wp2_with fail;refine c1'.out.mono ?_;rintro e w1 ⟨rfl,rfl⟩;go_wp2_with fail;refine (c2.out _ HE.out).mono ?_;rintro e w2 ⟨rfl,hb2⟩;unfold optT;go_wp2_with fail;go_ret2;exact ⟨rfl,hb2⟩
 have HN2:=Hi (HN.out.trans (if_neg h1))
 have c1':Hid (Calls Tryz.prog 55 #[.string s,.string ⟨#[46]⟩] w fun e w'=>e=.returned (.bool false)∧w'=w):=by
  have:=c1.out
  rwa [show (decide (0≤Lib.indexByte s.data.toList 46))=false from decide_eq_false h1] at this
 have cp:=Hi (fun p w=>Tryz.strings_CutPrefix s p w)
 have hd2:∀ p:Bytes,p.length=2→Lib.hasPrefix (bs s) p=true→Lib.trimPrefix s.data.toList p=(bs s).drop 2:=fun p hp h=>by
  unfold Lib.trimPrefix;rw [show Lib.hasPrefix s.data.toList p=true from h,if_pos rfl,hp];rfl
 have hmk:bs (ByteArray.mk ((bs s).drop 2).toArray)=(bs s).drop 2:=by simp [bs]
 have hsz:(ByteArray.mk ((bs s).drop 2).toArray).size≤9223372036854775807:=by
  rw [size_mk,List.length_drop,bs_length];omega
 clear HN h1 c1
 by_cases h2:Lib.hasPrefix (bs s) zx=true
 ·have HN3:=Hi (HN2.out.trans (if_pos h2));have c2:=Hi (fun w E=>based_any 16 8 (.inl ⟨rfl,by omega⟩) (ByteArray.mk ((bs s).drop 2).toArray) hsz w E)
  rw [hmk] at c2
  have c3:=Hi (show ∀ w,Calls Tryz.prog 117 #[.string s,.string ⟨#[48,120]⟩] w fun e w'=>e=.returned (.tuple #[.string ⟨((bs s).drop 2).toArray⟩,.bool true])∧w'=w from fun w=>by
   have:=cp.out ⟨#[48,120]⟩ w
   rwa [show Lib.trimPrefix s.data.toList ((⟨#[48,120]⟩:ByteArray).data.toList)=(bs s).drop 2 from hd2 zx rfl h2,show Lib.hasPrefix s.data.toList ((⟨#[48,120]⟩:ByteArray).data.toList)=true from h2] at this)
  clear hd2 hmk hsz HN2 cp;rw [HN3.out];clear HN3 h2;generalize basedS 16 8 ((bs s).drop 2)=o at *;generalize ((bs s).drop 2).toArray=q at *;go_enter Tryz.func83,Tryz.ntmps83;go_wp2_with fail;refine c1'.out.mono ?_;rintro e w1 ⟨rfl,rfl⟩;go_wp2_with fail;refine (c3.out _).mono ?_;rintro e w1 ⟨rfl,rfl⟩;go_wp2_with fail;refine (c2.out _ HE.out).mono ?_;rintro e w2 ⟨rfl,hb2⟩;unfold optT;go_wp2_with fail;go_ret2;exact ⟨rfl,hb2⟩
 have h2':Lib.hasPrefix (bs s) zx=false:=by simpa using h2
 have HN3:=Hi (HN2.out.trans (if_neg h2))
 have c3:=Hi (show ∀ w,∃ q,Calls Tryz.prog 117 #[.string s,.string ⟨#[48,120]⟩] w fun e w'=>e=.returned (.tuple #[.string q,.bool false])∧w'=w from fun w=>by
  have:=cp.out ⟨#[48,120]⟩ w;rw [show Lib.hasPrefix s.data.toList ((⟨#[48,120]⟩:ByteArray).data.toList)=false from h2'] at this
  exact ⟨_,this⟩)
 obtain ⟨q3,c3⟩:=c3.out w;have c3:=Hi c3;clear HN2 h2 h2'
 by_cases h4:Lib.hasPrefix (bs s) zb=true
 ·have HN4:=Hi (HN3.out.trans (if_pos h4));have c2:=Hi (fun w E=>based_any 2 32 (.inr ⟨rfl,rfl⟩) (ByteArray.mk ((bs s).drop 2).toArray) hsz w E)
  rw [hmk] at c2
  have c4:=Hi (show ∀ w,Calls Tryz.prog 117 #[.string s,.string ⟨#[48,98]⟩] w fun e w'=>e=.returned (.tuple #[.string ⟨((bs s).drop 2).toArray⟩,.bool true])∧w'=w from fun w=>by
   have:=cp.out ⟨#[48,98]⟩ w
   rwa [show Lib.trimPrefix s.data.toList ((⟨#[48,98]⟩:ByteArray).data.toList)=(bs s).drop 2 from hd2 zb rfl h4,show Lib.hasPrefix s.data.toList ((⟨#[48,98]⟩:ByteArray).data.toList)=true from h4] at this)
  clear hd2 hmk hsz HN3 cp;rw [HN4.out];clear HN4 h4;generalize basedS 2 32 ((bs s).drop 2)=o at *;generalize ((bs s).drop 2).toArray=q at *;go_enter Tryz.func83,Tryz.ntmps83;go_wp2_with fail;refine c1'.out.mono ?_;rintro e w1 ⟨rfl,rfl⟩;go_wp2_with fail;refine c3.out.mono ?_;rintro e w1 ⟨rfl,rfl⟩;go_wp2_with fail;refine (c4.out _).mono ?_;rintro e w1 ⟨rfl,rfl⟩;go_wp2_with fail;refine (c2.out _ HE.out).mono ?_;rintro e w2 ⟨rfl,hb2⟩;unfold optT;go_wp2_with fail;go_ret2;exact ⟨rfl,hb2⟩
 have h4':Lib.hasPrefix (bs s) zb=false:=by simpa using h4
 have HN4:=Hi (HN3.out.trans (if_neg h4))
 have c4:=Hi (show ∀ w,∃ q,Calls Tryz.prog 117 #[.string s,.string ⟨#[48,98]⟩] w fun e w'=>e=.returned (.tuple #[.string q,.bool false])∧w'=w from fun w=>by
  have:=cp.out ⟨#[48,98]⟩ w;rw [show Lib.hasPrefix s.data.toList ((⟨#[48,98]⟩:ByteArray).data.toList)=false from h4'] at this
  exact ⟨_,this⟩)
 obtain ⟨q4,c4⟩:=c4.out w;have c4:=Hi c4;have c5:=Hi (fun w=>decimal_any s 4294967295 w (by omega) (by omega) (by omega))
 rw [show (4294967295:Int).toNat=4294967295 from rfl] at c5
 clear HN3 h4 h4' hd2 hmk hsz cp;rw [HN4.out];clear HN4;generalize decS (bs s) 4294967295=o at *;go_enter Tryz.func83,Tryz.ntmps83;go_wp2_with fail;refine c1'.out.mono ?_;rintro e w1 ⟨rfl,rfl⟩;go_wp2_with fail;refine c3.out.mono ?_;rintro e w1 ⟨rfl,rfl⟩;go_wp2_with fail;refine c4.out.mono ?_;rintro e w1 ⟨rfl,rfl⟩;go_wp2_with fail;refine (c5.out _).mono ?_;rintro e w2 ⟨rfl,hb2⟩;unfold optT;go_wp2_with fail;go_ret2;exact ⟨rfl,hb2⟩
end Go.Proofs.YtjokciofeicdkaaGreatDoor
