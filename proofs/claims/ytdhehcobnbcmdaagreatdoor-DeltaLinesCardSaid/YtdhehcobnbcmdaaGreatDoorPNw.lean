/- A part of the proof of DeltaLines: NumW. -/
import Derived.Test.YtdhehcobnbcmdaaGreatDoorPF1
import Derived.Test.YtdhehcobnbcmdaaGreatDoorPCf
import Derived.Test.YtdhehcobnbcmdaaGreatDoorPSh
set_option linter.all false
namespace Go.Proofs.YtdhehcobnbcmdaaGreatDoor
open Go.RowKit Go.Sort
theorem elByte:ElT 132 5 1:=ElT.mk' Tryz.underlying132 (z:=.int .u8 0) (by kernel_rfl) rfl
theorem conv_bytes {w:World}{base n:Nat}{v:Value}{l:Bytes}(h:w.ownsRow base 5 1 v n (Lib.byteCells l))(hn:n=l.length):(convert 132 9 v).run Tryz.prog w=.ok (.string (ba l)) w:=by
  have e:Lib.byteCells l=u8r (l.map fun b=>(b.toNat:Int)):=by
    unfold Lib.byteCells u8r
    rw [List.map_map]
    rfl
  rw [e] at h
  rw [conv_own h (by rw [List.length_map];exact hn)]
  congr 3
  apply congrArg ByteArray.mk
  apply congrArg List.toArray
  rw [List.map_map]
  exact (List.map_congr_left fun b _=>by simp).trans (List.map_id l)
theorem below_os (w:World)(k:Nat)(os:Array Obj):Below w.heap.size w (grow (w.drewN k) os):=by
  have h:=below_drewN (Below.refl w.heap.size w) k
  have hs:=h.size
  exact ⟨h.os,h.tape,h.output,by simp only [grow,Array.size_append];omega,fun b hb=>by
    rw [← h.block b hb]
    simp only [grow]
    exact Array.getElem?_append_left (by omega)⟩
theorem and_255 (x:Int)(h0:0≤x)(h1:x<9223372036854775808):bits .and .i64 x 255=x % 256:=by
  have h:=bits_mask .i64 63 (by decide) (fun n h0 h1=>by rw [show (2:Int) ^ 63=9223372036854775808 by decide] at h1;rw [IntKind.wrap_i64];omega) 8 (by decide) x h0 (by rw [show (2:Int) ^ 63=9223372036854775808 by decide];omega)
  have e:((2:Int) ^ 8-1)=255:=by decide
  have e2:((2:Int) ^ 8)=256:=by decide
  rw [e,e2] at h
  exact h
def StrW (s:ByteArray)(w:World)(e:Ending)(w':World):Prop:=e=.returned (.string s)∧Below w.heap.size w w'
def NumW (s:ByteArray)(w:World)(e:Ending)(w':World):Prop:=e=.returned (.tuple #[.string s, .int .i64 0])∧Below w.heap.size w w'
def quadP (v:Int):Nat→Bytes
  | 0=>[]
  | 1=>Lib.itoa (v / 16777216 % 256)++[46]
  | 2=>Lib.itoa (v / 16777216 % 256)++[46]++Lib.itoa (v / 65536 % 256)++[46]
  | 3=>Lib.itoa (v / 16777216 % 256)++[46]++Lib.itoa (v / 65536 % 256)++[46]++Lib.itoa (v / 256 % 256)++[46]
  | _=>quadL v
theorem quadP_le (v:Int){k:Nat}(hk:k≤3):(quadP v k).length≤12:=by
  have h1:=itoa_le (n:=v / 16777216 % 256) (by omega) 2 (by omega)
  have h2:=itoa_le (n:=v / 65536 % 256) (by omega) 2 (by omega)
  have h3:=itoa_le (n:=v / 256 % 256) (by omega) 2 (by omega)
  rcases (show k=0∨k=1∨k=2∨k=3 by omega) with rfl|rfl|rfl|rfl
  all_goals (simp only [quadP,List.length_append,List.length_cons,List.length_nil];omega)
set_option maxHeartbeats 4000000 in
set_option maxRecDepth 100000 in
theorem n_dec (v:Int)(h0:0≤v)(h1:v≤4294967295)(w:World)(E:Env w):Calls Tryz.prog 113 #[.int .i64 v, .bool false] w (NumW (itoaB v) w):=by
  have c:=Lib.hid (Tryz.strconv_Itoa v (by omega) (by omega) w E.pow)
  go_enter Tryz.func113,Tryz.ntmps113
  go_wp2_with (go_at_call 21;refine c.out.mono ?_;rintro e w2 ⟨rfl,k,os,hw⟩;have hb:Hid (Below w.heap.size w w2):=Lib.hid (hw▸below_os w k os);clear hw)
  go_ret2
  exact ⟨rfl,hb.out⟩
set_option maxHeartbeats 4000000 in
set_option maxRecDepth 100000 in
theorem n_dot (v : Int) (h0 : 0 ≤ v) (h1 : v ≤ 4294967295) (w : World) (E : Env w) : Calls Tryz.prog 113 #[.int .i64 v, .bool true] w (NumW (ba (quadL v)) w) := by
  have hT:=Lib.hid (Lib.tabBelow_of_tabIs E.pow)
  go_enter Tryz.func113,Tryz.ntmps113
  go_wp2_with fail
  go_loopw [6,7] (fun b s wr=>∃ k:Nat,k≤4∧s=.int .i64 (24-8*(k:Int))∧Hid (wr.ownsRow w.heap.size 5 1 b (quadP v k).length (Lib.byteCells (quadP v k)))∧Hid (Below w.heap.size w wr)) (fun _ s _=>(intOf s+8).toNat)
  case atStart=>exact ⟨0,by omega,rfl,Lib.hid (World.ownsRow_nil _ _ _ _),Lib.hid (Below.refl _ _)⟩
  case round=>
    obtain ⟨k,hk,hs,hR,hbw⟩:=hrel
    obtain ⟨A1,c1,rfl,hc1,hc2⟩:=row_form hR.out
    by_cases h4:k=4
    · subst h4
      replace hs:=hs.trans (show _=Value.int .i64 (-8) from rfl)
      subst hs
      have cv:=conv_bytes hR.out rfl
      go_wp2_with fail
      go_ret2
      exact ⟨rfl,hbw.out⟩
    have hq:=quadP_le v (k:=k) (by omega)
    by_cases h3:k=3
    · subst h3
      replace hs:=hs.trans (show _=Value.int .i64 0 from rfl)
      subst hs
      have ca:=Lib.hid (Tryz.strconv_AppendInt_10 w.heap.size _ (v % 256) (by omega) (by omega) _ _ wr hR.out hbw.out.size (by omega) (hT.out.on hbw.out))
      have ea:=and_255 v (by omega) (by omega)
      clear hR
      go_wp2_with (go_at_call 142;refine ca.out.mono ?_;rintro e w2 ⟨b2,rfl,ho2,hb2,_⟩;have ho3:=Lib.hid ho2;have hb3:=Lib.hid (hbw.out.trans hb2);clear ho2 hb2)
      go_roundw
      case rel=>exact ⟨4,by omega,rfl,Lib.hid (by have:=ho3.out;rw [← Lib.byteCells_append,← List.length_append] at this;exact this),hb3⟩
      case measure=>simp [intOf]
    rcases (show k=0∨k=1∨k=2 by omega) with rfl|rfl|rfl
    case' inl=>
      replace hs:=hs.trans (show _=Value.int .i64 24 from rfl)
      have ca:=Lib.hid (Tryz.strconv_AppendInt_10 w.heap.size _ (v / 16777216 % 256) (by omega) (by omega) _ _ wr hR.out hbw.out.size (by omega) (hT.out.on hbw.out))
      have ea:=and_255 (v / 16777216) (by omega) (by omega)
      have hd:=itoa_le (n:=v / 16777216 % 256) (by omega) 2 (by omega)
      obtain ⟨q,hqk⟩:∃ q:Nat,q=1:=⟨_,rfl⟩
      have hE:Hid (quadP v 0++Lib.itoa (v / 16777216 % 256)++[46]=quadP v q):=Lib.hid (by rw [hqk];rfl)
      obtain ⟨D,hD⟩:∃ D,D=Lib.itoa (v / 16777216 % 256):=⟨_,rfl⟩
    case' inr.inl=>
      replace hs:=hs.trans (show _=Value.int .i64 16 from rfl)
      have ca:=Lib.hid (Tryz.strconv_AppendInt_10 w.heap.size _ (v / 65536 % 256) (by omega) (by omega) _ _ wr hR.out hbw.out.size (by omega) (hT.out.on hbw.out))
      have ea:=and_255 (v / 65536) (by omega) (by omega)
      have hd:=itoa_le (n:=v / 65536 % 256) (by omega) 2 (by omega)
      obtain ⟨q,hqk⟩:∃ q:Nat,q=2:=⟨_,rfl⟩
      have hE:Hid (quadP v 1++Lib.itoa (v / 65536 % 256)++[46]=quadP v q):=Lib.hid (by rw [hqk];rfl)
      obtain ⟨D,hD⟩:∃ D,D=Lib.itoa (v / 65536 % 256):=⟨_,rfl⟩
    case' inr.inr=>
      replace hs:=hs.trans (show _=Value.int .i64 8 from rfl)
      have ca:=Lib.hid (Tryz.strconv_AppendInt_10 w.heap.size _ (v / 256 % 256) (by omega) (by omega) _ _ wr hR.out hbw.out.size (by omega) (hT.out.on hbw.out))
      have ea:=and_255 (v / 256) (by omega) (by omega)
      have hd:=itoa_le (n:=v / 256 % 256) (by omega) 2 (by omega)
      obtain ⟨q,hqk⟩:∃ q:Nat,q=3:=⟨_,rfl⟩
      have hE:Hid (quadP v 2++Lib.itoa (v / 256 % 256)++[46]=quadP v q):=Lib.hid (by rw [hqk];rfl)
      obtain ⟨D,hD⟩:∃ D,D=Lib.itoa (v / 256 % 256):=⟨_,rfl⟩
    all_goals
      subst hs
      rw [← hD] at ca hd hE
      replace hqk:=Lib.hid hqk
      replace hE:=Lib.hid hE.out.symm
      clear hR hD
      go_wp2_with (first
        | (go_at_call 142;refine ca.out.mono ?_;rintro e w2 ⟨b2,rfl,ho2,hb2,_⟩;obtain ⟨A2,c2,rfl,hc3,hc4⟩:=row_form ho2;have ho3:=Lib.hid ho2;have hb3:=Lib.hid (hbw.out.trans hb2);have hzz:=hb3.out.size;clear ho2 hb2)
        | (at_builtin;refine push_one elByte rfl (.tmp 30) (.tmp 31) rfl w.heap.size _ _ _ rfl ho3.out w2.heap.size rfl (.int .u8 46) rfl rfl (by omega) (by unfold maxLen;omega) hzz ?_;intro g' cap' w4 ho4 hb4 _;have ho5:=Lib.hid ho4;have hb5:=Lib.hid (hb3.out.trans hb4);clear ho4 hb4))
      go_roundw
      case rel=>exact ⟨q,by have:=hqk.out;omega,by rw [hqk.out];rfl,Lib.hid (by rw [hE.out,Lib.byteCells_append,Lib.byteCells_append,List.length_append,List.length_append];exact ho5.out),hb5⟩
      case measure=>simp [intOf]
set_option maxHeartbeats 4000000 in
set_option maxRecDepth 100000 in
theorem x_number (v:Int)(h0:0≤v)(h1:v≤4294967295)(w:World)(E:Env w):Calls Tryz.prog 291 #[.int .i64 v] w (StrW (numT v) w):=by
  by_cases h:v<65536
  · have hN:numT v=itoaB v:=if_pos h
    have c:=Lib.hid (n_dec v h0 h1 w E)
    generalize numT v=N at *
    subst hN
    have hd:decide ((65536:Int)≤v)=false:=decide_eq_false (by omega)
    go_enter Tryz.func291,Tryz.ntmps291
    go_wp2_with (go_at_call 113;refine c.out.mono ?_;rintro e w2 ⟨rfl,hb⟩;replace hb:=Lib.hid hb)
    go_ret
    exact ⟨rfl,hb.out⟩
  · have hN:numT v=ba (quadL v):=if_neg h
    have c:=Lib.hid (n_dot v h0 h1 w E)
    generalize numT v=N at *
    subst hN
    have hd:decide ((65536:Int)≤v)=true:=decide_eq_true (by omega)
    go_enter Tryz.func291,Tryz.ntmps291
    go_wp2_with (go_at_call 113;refine c.out.mono ?_;rintro e w2 ⟨rfl,hb⟩;replace hb:=Lib.hid hb)
    go_ret
    exact ⟨rfl,hb.out⟩
set_option maxHeartbeats 4000000 in
theorem x_signOf (op:Int)(h:1≤op∧op≤6)(w:World):Calls Tryz.prog 290 #[.int .i64 op] w fun e w''=>e=.returned (.string (opT op))∧w''=w:=by
  rcases (show op=1∨op=2∨op=3∨op=4∨op=5∨op=6 by omega) with rfl|rfl|rfl|rfl|rfl|rfl
  all_goals (go_enter Tryz.func290,Tryz.ntmps290;go_wp2_with fail;go_ret;exact ⟨rfl,rfl⟩)
end Go.Proofs.YtdhehcobnbcmdaaGreatDoor
