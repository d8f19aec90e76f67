/- A part of the proof of DeltaLines: Num2 Num3 Mach Pat. -/
import Derived.Test.YtdhehcobnbcmdaaGreatDoorPN
import Derived.Lib.OthersKept
import Derived.StillTailTactics
import Derived.Deep.RegionHeld3
import Derived.Deep.DrawnRows
import Derived.KernelRfl
set_option linter.all false
namespace Go.Proofs.YtdhehcobnbcmdaaGreatDoor
open Go.RowKit
theorem based_snoc (b:Nat):∀ (l:Bytes) (acc k:Nat) (v:Nat) (c:UInt8),basedFrom b acc (l.take k)=some v→l[k]?=some c→hexVal c.toNat<b →
    basedFrom b acc (l.take (k+1))=some (v*b+hexVal c.toNat)
  | [],_,_,_,_,_,h,_=>by simp at h
  | d :: l, acc, 0, v, c, h, hc, hb => by
    simp only [List.take_zero,basedFrom,Option.some.injEq] at h
    simp only [List.getElem?_cons_zero,Option.some.injEq] at hc
    subst h;subst hc
    simp [basedFrom,hb]
  | d :: l, acc, k + 1, v, c, h, hc, hb => by
    simp only [List.take_succ_cons,basedFrom] at h ⊢
    split at h
    · rename_i hd
      rw [if_pos hd]
      exact based_snoc b l _ k v c h (by simpa using hc) hb
    · cases h
theorem based_bad (b:Nat):∀ (l:Bytes) (acc k:Nat) (c:UInt8),l[k]?=some c→¬ hexVal c.toNat<b→basedFrom b acc l=none
  | [],_,_,_,h,_=>by simp at h
  | d :: l, acc, 0, c, hc, hb => by
    simp only [List.getElem?_cons_zero,Option.some.injEq] at hc
    subst hc
    simp [basedFrom,hb]
  | d :: l, acc, k + 1, c, hc, hb => by
    simp only [basedFrom]
    split
    · exact based_bad b l _ k c (by simpa using hc) hb
    · rfl
theorem based_lt (b:Nat)(hb:0<b):∀ (l:Bytes) (acc v:Nat),basedFrom b acc l=some v→v<(acc+1)*b ^ l.length
  | [],acc,v,h=>by simp only [basedFrom,Option.some.injEq] at h;subst h;simp
  | c :: r, acc, v, h => by
    simp only [basedFrom] at h
    split at h
    · rename_i hd
      have:=based_lt b hb r _ v h
      refine Nat.lt_of_lt_of_le this ?_
      rw [List.length_cons,Nat.pow_succ,Nat.mul_comm (b ^ r.length) b,← Nat.mul_assoc]
      refine Nat.mul_le_mul_right _ ?_
      rw [Nat.add_mul];omega
    · cases h
theorem based_bd {b most:Nat}(hb:0<b)(hm:b ^ most≤4294967296){l:Bytes}{v k:Nat}(h:basedFrom b 0 (l.take k)=some v)(hk:k≤most):v<4294967296:=by
  have:=based_lt b hb _ _ _ h
  have h2:(l.take k).length≤most:=by rw [List.length_take];omega
  have h3:=Nat.pow_le_pow_right hb h2
  omega
def uintT (o:Option Nat):Value:=match o with
  | some v=>.tuple #[.int .u64 v, .nilIface]
  | none=>.tuple #[.int .u64 0, .iface 333 (.int .i64 2)]
theorem or32_lo:∀ n:Nat,97≤n→n≤102→bits .or .u8 (n:Int) 32=(n:Int):=fun n h1 h2=>by
  have:=u8_or_nat n 32 (by omega) (by decide)
  rw [show ((32:Nat):Int)=32 from rfl] at this
  rw [this]
  have:n=97∨n=98∨n=99∨n=100∨n=101∨n=102:=by omega
  rcases this with rfl|rfl|rfl|rfl|rfl|rfl<;>rfl
theorem or32_up:∀ n:Nat,65≤n→n≤70→bits .or .u8 (n:Int) 32=((n+32:Nat):Int):=fun n h1 h2=>by
  have:=u8_or_nat n 32 (by omega) (by decide)
  rw [show ((32:Nat):Int)=32 from rfl] at this
  rw [this]
  have:n=65∨n=66∨n=67∨n=68∨n=69∨n=70:=by omega
  rcases this with rfl|rfl|rfl|rfl|rfl|rfl<;>rfl
theorem ret_uint {o:Option Nat}{v:Value}(h:uintT o=v):Ending.returned v=.returned (uintT o):=by rw [h]
set_option maxHeartbeats 4000000 in
set_option maxRecDepth 100000 in
theorem pu_16 (s : ByteArray) (hne : s.size ≠ 0) (hmost : s.size ≤ 8) (hhex : (bs s).all hexU = true) (w : World) :
    Calls Tryz.prog 258 #[.string s, .int .i64 16, .int .i64 64] w fun e w'=>e=.returned (uintT (basedFrom 16 0 (bs s)))∧Below w.heap.size w w':=by
  have hemp:=emp_false s hne
  have hbd:Hid (∀ k v,basedFrom 16 0 ((bs s).take k)=some v→k≤8→v<4294967296):=Lib.hid fun k v h hk=>based_bd (by decide) (by decide) h hk
  have hcv:=Lib.run_convert_string_bytes (P:=Tryz.prog) w 9 132 5 s (u:=.string) Tryz.underlying9 Tryz.underlying132 Tryz.underlying5
  have hB:=Lib.hid (show ∀ j (hj:j<s.size),(Lib.bytesWorld w 5 s).cell? ⟨w.heap.size,j,none⟩=some (.int .u8 s[j].toNat) from fun j hj=>by
    rw [Lib.bytesWorld_cell w 5 s j hj]
    have e:s.data.toList.getD j 0=s[j]:=by
      have:=bs_at s j hj
      unfold bs at this
      rw [List.getD_eq_getElem?_getD,this];rfl
    rw [e])
  have hbel:=Lib.hid (below_bytes w 5 s)
  have hall:=Lib.hid (show ∀ j (hj:j<s.size),hexU s[j]=true from fun j hj=>by
    rw [List.all_eq_true] at hhex
    exact hhex _ (List.mem_of_getElem? (bs_at s j hj)))
  clear hhex
  obtain ⟨W1,hW1⟩:∃ W1,W1=Lib.bytesWorld w 5 s:=⟨_,rfl⟩
  rw [← hW1] at hcv hB hbel
  clear hW1
  have hmv:IntKind.u64.wrap (IntKind.u64.wrap 18446744073709551616-1)=18446744073709551615:=by
    rw [IntKind.wrap_u64,IntKind.wrap_u64];decide
  go_enter Tryz.func258,Tryz.ntmps258
  go_wp2
  go_loop [12,13,101] (fun vu vn vi=>∃ (k acc:Nat) (a:Int),vu=.bool false∧vn=.int .u64 a∧vi=.int .i64 k∧k≤s.size∧Hid (a=(acc:Int)∧basedFrom 16 0 ((bs s).take k)=some acc))
    (fun _ _ vi=>s.size-(intOf vi).toNat)
  case atStart=>exact ⟨0,0,0,rfl,rfl,rfl,by omega,rfl,rfl⟩
  case round=>
    obtain ⟨k,acc,a,rfl,rfl,rfl,hk,hh⟩:=hrel
    have a1:a<4294967296:=by have h1:=hh.out.1;have h2:=hbd.out k acc hh.out.2 (by omega);omega
    have a0:0≤a:=by have h1:=hh.out.1;omega
    by_cases hkn:k<s.size
    · have hc:=hB.out k hkn
      have hx:=hall.out k hkn
      have hat:=Lib.hid (bs_at s k hkn)
      have hok:=Lib.hid (show hexVal s[k].toNat<16→a*16+(hexVal s[k].toNat:Int)=((acc*16+hexVal s[k].toNat:Nat):Int)∧basedFrom 16 0 ((bs s).take (k+1))=some (acc*16+hexVal s[k].toNat) from fun h=>
        ⟨by have:=hh.out.1;omega,based_snoc 16 _ 0 k acc _ hh.out.2 hat.out h⟩)
      have hno:=Lib.hid (show ¬ hexVal s[k].toNat<16→basedFrom 16 0 (bs s)=none from fun h=>based_bad 16 _ 0 k _ hat.out h)
      clear hh hat hB hall hcv
      simp only [hexU,digitU,digitN,Bool.or_eq_true,Bool.and_eq_true,decide_eq_true_eq] at hx
      generalize s[k].toNat=n at *
      rcases hx with (hx|hx)|hx
      · obtain ⟨x1, x2⟩ := hx
        have hv:=Lib.hid (show hexVal n=n-48 from by unfold hexVal;rw [if_pos ⟨x1,x2⟩])
        rw [hv.out] at hok hno
        clear hv
        by_cases hd:n-48<16
        · have hN:=Lib.hid (hok.out hd)
          clear hok hno
          go_wp2
          refine ⟨⟨k+1,acc*16+(n-48),a*16+((n:Int)-48),rfl,(by first|rfl|(congr 1;omega)),(by first|rfl|(congr 1;omega)),by omega,Lib.hid ⟨by have:=hN.out.1;omega,hN.out.2⟩⟩,by simp [intOf];omega⟩
        · have hN := Lib.hid (hno.out hd)
          clear hok hno
          first
            | (exfalso;omega)
            | (go_wp2
               go_ret2
               exact ⟨ret_uint (by rw [hN.out];rfl),hbel.out⟩)
      · obtain ⟨x1, x2⟩ := hx
        have hv:=Lib.hid (show hexVal n=n-87 from by unfold hexVal;rw [if_neg (by omega),if_pos ⟨x1,x2⟩])
        rw [hv.out] at hok hno
        have hor:=or32_lo n x1 x2
        clear hv
        by_cases hd:n-87<16
        · have hN := Lib.hid (hok.out hd)
          clear hok hno
          first
            | (exfalso;omega)
            | (go_wp2_with (go_at_call 261; refine (Tryz.internal_strconv_lower _ _).mono ?_; rintro e w' ⟨rfl, rfl⟩)
               refine ⟨⟨k+1,acc*16+(n-87),a*16+((n:Int)-87),rfl,(by first|rfl|(congr 1;omega)),(by first|rfl|(congr 1;omega)),by omega,Lib.hid ⟨by have:=hN.out.1;omega,hN.out.2⟩⟩,by simp [intOf];omega⟩)
        · have hN := Lib.hid (hno.out hd)
          clear hok hno
          first
            | (exfalso;omega)
            | (go_wp2_with (go_at_call 261; refine (Tryz.internal_strconv_lower _ _).mono ?_; rintro e w' ⟨rfl, rfl⟩)
               go_ret2
               exact ⟨ret_uint (by rw [hN.out];rfl),hbel.out⟩)
      · obtain ⟨x1, x2⟩ := hx
        have hv:=Lib.hid (show hexVal n=n-55 from by unfold hexVal;rw [if_neg (by omega),if_neg (by omega)])
        rw [hv.out] at hok hno
        have hor:=or32_up n x1 x2
        clear hv
        by_cases hd:n-55<16
        · have hN := Lib.hid (hok.out hd)
          clear hok hno
          first
            | (exfalso;omega)
            | (go_wp2_with (go_at_call 261; refine (Tryz.internal_strconv_lower _ _).mono ?_; rintro e w' ⟨rfl, rfl⟩)
               refine ⟨⟨k+1,acc*16+(n-55),a*16+((n:Int)-55),rfl,(by first|rfl|(congr 1;omega)),(by first|rfl|(congr 1;omega)),by omega,Lib.hid ⟨by have:=hN.out.1;omega,hN.out.2⟩⟩,by simp [intOf];omega⟩)
        · have hN := Lib.hid (hno.out hd)
          clear hok hno
          first
            | (exfalso;omega)
            | (go_wp2_with (go_at_call 261; refine (Tryz.internal_strconv_lower _ _).mono ?_; rintro e w' ⟨rfl, rfl⟩)
               go_ret2
               exact ⟨ret_uint (by rw [hN.out];rfl),hbel.out⟩)
    · have hkk:k=s.size:=by omega
      have H:=Lib.hid (show basedFrom 16 0 (bs s)=some acc from by
        have:=hh.out.2
        rwa [List.take_of_length_le (by rw [bs_length];omega)] at this)
      have ha:=hh.out.1
      clear hh hB hall hcv hbd
      subst ha
      have hkk:=Lib.hid hkk
      go_wp2
      go_ret2
      exact ⟨ret_uint (by rw [H.out];rfl),hbel.out⟩
set_option maxHeartbeats 4000000 in
set_option maxRecDepth 100000 in
theorem pu_2 (s : ByteArray) (hne : s.size ≠ 0) (hmost : s.size ≤ 32) (hhex : (bs s).all hexU = true) (w : World) :
    Calls Tryz.prog 258 #[.string s, .int .i64 2, .int .i64 64] w fun e w'=>e=.returned (uintT (basedFrom 2 0 (bs s)))∧Below w.heap.size w w':=by
  have hemp:=emp_false s hne
  have hbd:Hid (∀ k v,basedFrom 2 0 ((bs s).take k)=some v→k≤32→v<4294967296):=Lib.hid fun k v h hk=>based_bd (by decide) (by decide) h hk
  have hcv:=Lib.run_convert_string_bytes (P:=Tryz.prog) w 9 132 5 s (u:=.string) Tryz.underlying9 Tryz.underlying132 Tryz.underlying5
  have hB:=Lib.hid (show ∀ j (hj:j<s.size),(Lib.bytesWorld w 5 s).cell? ⟨w.heap.size,j,none⟩=some (.int .u8 s[j].toNat) from fun j hj=>by
    rw [Lib.bytesWorld_cell w 5 s j hj]
    have e:s.data.toList.getD j 0=s[j]:=by
      have:=bs_at s j hj
      unfold bs at this
      rw [List.getD_eq_getElem?_getD,this];rfl
    rw [e])
  have hbel:=Lib.hid (below_bytes w 5 s)
  have hall:=Lib.hid (show ∀ j (hj:j<s.size),hexU s[j]=true from fun j hj=>by
    rw [List.all_eq_true] at hhex
    exact hhex _ (List.mem_of_getElem? (bs_at s j hj)))
  clear hhex
  obtain ⟨W1,hW1⟩:∃ W1,W1=Lib.bytesWorld w 5 s:=⟨_,rfl⟩
  rw [← hW1] at hcv hB hbel
  clear hW1
  have hmv:IntKind.u64.wrap (IntKind.u64.wrap 18446744073709551616-1)=18446744073709551615:=by
    rw [IntKind.wrap_u64,IntKind.wrap_u64];decide
  go_enter Tryz.func258,Tryz.ntmps258
  go_wp2
  go_loop [12,13,101] (fun vu vn vi=>∃ (k acc:Nat) (a:Int),vu=.bool false∧vn=.int .u64 a∧vi=.int .i64 k∧k≤s.size∧Hid (a=(acc:Int)∧basedFrom 2 0 ((bs s).take k)=some acc))
    (fun _ _ vi=>s.size-(intOf vi).toNat)
  case atStart=>exact ⟨0,0,0,rfl,rfl,rfl,by omega,rfl,rfl⟩
  case round=>
    obtain ⟨k,acc,a,rfl,rfl,rfl,hk,hh⟩:=hrel
    have a1:a<4294967296:=by have h1:=hh.out.1;have h2:=hbd.out k acc hh.out.2 (by omega);omega
    have a0:0≤a:=by have h1:=hh.out.1;omega
    by_cases hkn:k<s.size
    · have hc:=hB.out k hkn
      have hx:=hall.out k hkn
      have hat:=Lib.hid (bs_at s k hkn)
      have hok:=Lib.hid (show hexVal s[k].toNat<2→a*2+(hexVal s[k].toNat:Int)=((acc*2+hexVal s[k].toNat:Nat):Int)∧basedFrom 2 0 ((bs s).take (k+1))=some (acc*2+hexVal s[k].toNat) from fun h=>
        ⟨by have:=hh.out.1;omega,based_snoc 2 _ 0 k acc _ hh.out.2 hat.out h⟩)
      have hno:=Lib.hid (show ¬ hexVal s[k].toNat<2→basedFrom 2 0 (bs s)=none from fun h=>based_bad 2 _ 0 k _ hat.out h)
      clear hh hat hB hall hcv
      simp only [hexU,digitU,digitN,Bool.or_eq_true,Bool.and_eq_true,decide_eq_true_eq] at hx
      generalize s[k].toNat=n at *
      rcases hx with (hx|hx)|hx
      · obtain ⟨x1, x2⟩ := hx
        have hv:=Lib.hid (show hexVal n=n-48 from by unfold hexVal;rw [if_pos ⟨x1,x2⟩])
        rw [hv.out] at hok hno
        clear hv
        by_cases hd:n-48<2
        · have hN:=Lib.hid (hok.out hd)
          clear hok hno
          go_wp2
          refine ⟨⟨k+1,acc*2+(n-48),a*2+((n:Int)-48),rfl,(by first|rfl|(congr 1;omega)),(by first|rfl|(congr 1;omega)),by omega,Lib.hid ⟨by have:=hN.out.1;omega,hN.out.2⟩⟩,by simp [intOf];omega⟩
        · have hN := Lib.hid (hno.out hd)
          clear hok hno
          first
            | (exfalso;omega)
            | (go_wp2
               go_ret2
               exact ⟨ret_uint (by rw [hN.out];rfl),hbel.out⟩)
      · obtain ⟨x1, x2⟩ := hx
        have hv:=Lib.hid (show hexVal n=n-87 from by unfold hexVal;rw [if_neg (by omega),if_pos ⟨x1,x2⟩])
        rw [hv.out] at hok hno
        have hor:=or32_lo n x1 x2
        clear hv
        by_cases hd:n-87<2
        · have hN := Lib.hid (hok.out hd)
          clear hok hno
          first
            | (exfalso;omega)
            | (go_wp2_with (go_at_call 261; refine (Tryz.internal_strconv_lower _ _).mono ?_; rintro e w' ⟨rfl, rfl⟩)
               refine ⟨⟨k+1,acc*2+(n-87),a*2+((n:Int)-87),rfl,(by first|rfl|(congr 1;omega)),(by first|rfl|(congr 1;omega)),by omega,Lib.hid ⟨by have:=hN.out.1;omega,hN.out.2⟩⟩,by simp [intOf];omega⟩)
        · have hN := Lib.hid (hno.out hd)
          clear hok hno
          first
            | (exfalso;omega)
            | (go_wp2_with (go_at_call 261; refine (Tryz.internal_strconv_lower _ _).mono ?_; rintro e w' ⟨rfl, rfl⟩)
               go_ret2
               exact ⟨ret_uint (by rw [hN.out];rfl),hbel.out⟩)
      · obtain ⟨x1, x2⟩ := hx
        have hv:=Lib.hid (show hexVal n=n-55 from by unfold hexVal;rw [if_neg (by omega),if_neg (by omega)])
        rw [hv.out] at hok hno
        have hor:=or32_up n x1 x2
        clear hv
        by_cases hd:n-55<2
        · have hN := Lib.hid (hok.out hd)
          clear hok hno
          first
            | (exfalso;omega)
            | (go_wp2_with (go_at_call 261; refine (Tryz.internal_strconv_lower _ _).mono ?_; rintro e w' ⟨rfl, rfl⟩)
               refine ⟨⟨k+1,acc*2+(n-55),a*2+((n:Int)-55),rfl,(by first|rfl|(congr 1;omega)),(by first|rfl|(congr 1;omega)),by omega,Lib.hid ⟨by have:=hN.out.1;omega,hN.out.2⟩⟩,by simp [intOf];omega⟩)
        · have hN := Lib.hid (hno.out hd)
          clear hok hno
          first
            | (exfalso;omega)
            | (go_wp2_with (go_at_call 261; refine (Tryz.internal_strconv_lower _ _).mono ?_; rintro e w' ⟨rfl, rfl⟩)
               go_ret2
               exact ⟨ret_uint (by rw [hN.out];rfl),hbel.out⟩)
    · have hkk:k=s.size:=by omega
      have H:=Lib.hid (show basedFrom 2 0 (bs s)=some acc from by
        have:=hh.out.2
        rwa [List.take_of_length_le (by rw [bs_length];omega)] at this)
      have ha:=hh.out.1
      clear hh hB hall hcv hbd
      subst ha
      have hkk:=Lib.hid hkk
      go_wp2
      go_ret2
      exact ⟨ret_uint (by rw [H.out];rfl),hbel.out⟩
def uintR (o:Option Nat)(e:Ending):Prop:=match o with
  | some v=>e=.returned (.tuple #[.int .u64 v, .nilIface])
  | none=>∃ t a,e=.returned (.tuple #[.int .u64 0, .iface t a])
theorem ParseUint_of (b most:Nat)(hb:b=16∧most≤8∨b=2∧most=32)(s:ByteArray)(hne:s.size≠0)(hmost:s.size≤most)(hhex:(bs s).all hexU=true)(w:World)(E:Env w) :
    Calls Tryz.prog 256 #[.string s, .int .i64 b, .int .i64 64] w fun e w'=>uintR (basedFrom b 0 (bs s)) e∧Below w.heap.size w w':=by
  have c1:=Lib.hid (show ∀ w,Calls Tryz.prog 258 #[.string s, .int .i64 b, .int .i64 64] w fun e w'=>e=.returned (uintT (basedFrom b 0 (bs s)))∧Below w.heap.size w w' from fun w=>by
    rcases hb with ⟨rfl,hm8⟩|⟨rfl,rfl⟩
    · exact pu_16 s hne (by omega) hhex w
    · exact pu_2 s hne hmost hhex w)
  have hm:s.size≤32:=by rcases hb with ⟨_,h8⟩|⟨_,h8⟩<;>omega
  obtain ⟨ev,he1,he2⟩:=E.errS
  have hE:=Lib.hid he1;have hE2:=Lib.hid he2
  clear he1 he2 hb hhex
  generalize basedFrom b 0 (bs s)=o at *
  go_enter Tryz.func256,Tryz.ntmps256
  go_wp2_with fail
  refine (c1.out _).mono ?_
  rintro e w1 ⟨rfl,hb1⟩
  cases o with
  | some v =>
    unfold uintT
    dsimp only
    go_wp2
    go_ret2
    exact ⟨rfl,hb1⟩
  | none =>
    unfold uintT
    dsimp only
    have hv1:=Lib.hid (cell_below hb1 hE.out)
    go_wp2_with fail
    refine (Tryz.strconv_toError_syntax _ s _ _ ev _ (by omega) hv1.out hE2.out).mono ?_
    rintro e w2 ⟨N,rfl,_,_,hb2⟩
    go_wp2_with fail
    go_ret2
    exact ⟨⟨_,_,rfl⟩,hb1.trans (hb2.mono hb1.size)⟩
theorem basedS_none {b most:Nat}{l:Bytes}(h:l=[]∨most<l.length∨allOf l hexCs=false):basedS b most l=none:=by
  unfold basedS
  split
  · rfl
  · rename_i h1
    rw [if_pos]
    rcases h with h|h|h
    · exact absurd (.inl h) h1
    · exact absurd (.inr h) h1
    · exact h
set_option maxHeartbeats 800000 in
theorem based_any (b most:Nat)(hb:b=16∧most≤8∨b=2∧most=32)(s:ByteArray)(hs:s.size≤9223372036854775807)(w:World)(E:Env w) :
    Calls Tryz.prog 251 #[.string s, .int .i64 b, .int .i64 most] w fun e w'=>e=.returned (optT (basedS b most (bs s)))∧Below w.heap.size w w':=by
  have hm:most≤32:=by rcases hb with ⟨_,h8⟩|⟨_,h8⟩<;>omega
  by_cases hz:s.size=0
  · have H:=Lib.hid (show optT (basedS b most (bs s))=.tuple #[.int .i64 0, .bool false] by rw [basedS_none (.inl (by rw [str_nil s hz];rfl))];rfl)
    obtain rfl:=str_nil s hz
    go_enter Tryz.func251,Tryz.ntmps251
    go_wp2
    go_ret2
    exact ⟨ret_opt H.out,Below.refl _ _⟩
  have he:=emp_false s hz
  by_cases hl:most<s.size
  · have H:=Lib.hid (show optT (basedS b most (bs s))=.tuple #[.int .i64 0, .bool false] by rw [basedS_none (.inr (.inl (by rw [bs_length];exact hl)))];rfl)
    go_enter Tryz.func251,Tryz.ntmps251
    go_wp2
    go_ret2
    exact ⟨ret_opt H.out,Below.refl _ _⟩
  have c1:=Lib.hid (plain_hex s w hs)
  by_cases hA:allOf (bs s) hexCs=true
  · have hhex:(bs s).all hexU=true:=by
      unfold allOf at hA
      rw [← hA];congr 1;funext c;exact (hexCs_at c).symm
    have c2:=Lib.hid (fun w E=>ParseUint_of b most hb s hz (by omega) hhex w E)
    have HS:=Lib.hid (show basedS b most (bs s)=basedFrom b 0 (bs s) by
      unfold basedS
      rw [if_neg,if_neg (by rw [hA];simp)]
      rintro (h|h)
      · exact hz (by rw [← bs_length,h];rfl)
      · rw [bs_length] at h;omega)
    have hbd:=Lib.hid (show ∀ v,basedFrom b 0 (bs s)=some v→v<4294967296 from fun v h=>by
      have h':basedFrom b 0 ((bs s).take s.size)=some v:=by rwa [List.take_of_length_le (by rw [bs_length];omega)]
      rcases hb with ⟨rfl,h8⟩|⟨rfl,rfl⟩
      · exact based_bd (most:=8) (by decide) (by decide) h' (by omega)
      · exact based_bd (most:=32) (by decide) (by decide) h' (by omega))
    rw [hA] at c1
    clear hA hhex hb
    generalize basedFrom b 0 (bs s)=o at *
    have HE:=Lib.hid E
    clear E
    go_enter Tryz.func251,Tryz.ntmps251
    go_wp2_with fail
    refine c1.out.mono ?_
    rintro e w1 ⟨rfl,hb1⟩
    go_wp2_with fail
    refine (c2.out _ (HE.out.below hb1)).mono ?_
    rintro e w2 ⟨hr,hb2⟩
    cases o with
    | some v =>
      have hv:v<4294967296:=hbd.out v rfl
      have H:=Lib.hid (show optT (basedS b most (bs s))=.tuple #[.int .i64 v, .bool true] by rw [HS.out];rfl)
      obtain rfl:=hr
      clear HS
      go_wp2
      go_quiet (fail)
      go_wp2
      go_ret2
      exact ⟨ret_opt H.out,below_drewN (hb1.trans (hb2.mono hb1.size)) _⟩
    | none =>
      obtain ⟨t,a,rfl⟩:=hr
      have H:=Lib.hid (show optT (basedS b most (bs s))=.tuple #[.int .i64 0, .bool false] by rw [HS.out];rfl)
      clear HS
      go_wp2
      go_quiet (fail)
      go_wp2
      go_ret2
      exact ⟨ret_opt H.out,below_drewN (hb1.trans (hb2.mono hb1.size)) _⟩
  · have hA':allOf (bs s) hexCs=false:=by simpa using hA
    have H:=Lib.hid (show optT (basedS b most (bs s))=.tuple #[.int .i64 0, .bool false] by rw [basedS_none (.inr (.inr hA'))];rfl)
    rw [hA'] at c1
    clear hA hA'
    go_enter Tryz.func251,Tryz.ntmps251
    go_wp2_with fail
    refine c1.out.mono ?_
    rintro e w1 ⟨rfl,hb1⟩
    go_wp2
    go_ret2
    exact ⟨ret_opt H.out,hb1⟩
def partsD (s:ByteArray):List ByteArray:=Lib.splitB ⟨#[46]⟩ 0 (Lib.countB s ⟨#[46]⟩) s
theorem partsD_length (s:ByteArray):(partsD s).length=Lib.countB s ⟨#[46]⟩+1:=Lib.splitB_all _ (by decide) 0 _ s rfl
theorem splitB_le (sep:ByteArray)(save:Nat):∀ (k:Nat) (s p:ByteArray),p∈Lib.splitB sep save k s→p.size≤s.size
  | 0,s,p,h=>by simp only [Lib.splitB_zero,List.mem_singleton] at h;rw [h];exact Nat.le_refl _
  | k + 1, s, p, h => by
    unfold Lib.splitB at h
    split at h
    · simp only [List.mem_singleton] at h;rw [h];exact Nat.le_refl _
    · rcases List.mem_cons.1 h with rfl|h
      · exact size_extract_le _ _ _
      · exact Nat.le_trans (splitB_le sep save k _ p h) (size_extract_le _ _ _)
def quadFold (v : Nat) : List ByteArray → Option Nat
  | []=>some v
  | p :: r => match decS (bs p) 255 with
    | some n=>quadFold (v*256+n) r
    | none=>none
def quadS (s:ByteArray):Option Nat:=if (partsD s).length=4 then quadFold 0 (partsD s) else none
theorem ofInt_i64 (a:Nat)(ha:a<9223372036854775808):(BitVec.ofInt 64 (a:Int)).toNat=a:=by
  rw [BitVec.ofInt_natCast,BitVec.toNat_ofNat];exact Nat.mod_eq_of_lt (by omega)
theorem i64_or (a b:Nat)(ha:a<9223372036854775808)(hb:b<9223372036854775808):bits .or .i64 (a:Int) (b:Int)=((a ||| b:Nat):Int):=by
  have hx:a ||| b<2 ^ 63:=Nat.or_lt_two_pow (by omega) (by omega)
  show IntKind.i64.wrap ((BitVec.ofInt 64 (a:Int) ||| BitVec.ofInt 64 (b:Int)).toNat:Int)=_
  rw [BitVec.toNat_or,ofInt_i64 a ha,ofInt_i64 b hb,IntKind.wrap_i64]
  omega
theorem or_add (a n:Nat)(hn:n<256):(a*256) ||| n=a*256+n:=by
  have:=Nat.two_pow_add_eq_or_of_lt (i:=8) (b:=n) hn a
  rw [Nat.mul_comm a 256]
  exact this.symm
theorem decS_le {l : Bytes} {top n : Nat} (h : decS l top = some n) : n ≤ top := by
  unfold decS at h
  split at h
  · cases h
  · split at h
    · cases h
    · split at h
      · cases h
      · split at h
        · cases h
        · simp only [Option.some.injEq] at h;omega
set_option maxHeartbeats 1000000 in
theorem quad_any (s : ByteArray) (hs : s.size < 4294967281) (w : World) (E : Env w) :
    Calls Tryz.prog 249 #[.string s] w fun e w'=>e=.returned (optT (quadS s))∧Below w.heap.size w w':=by
  obtain ⟨m,hm⟩:=E.maxlen
  have c1:=Lib.hid (Tryz.strings_Split s ⟨#[46]⟩ m w hs hm (by decide))
  have hlen:=Lib.hid (partsD_length s)
  have hcell:=Lib.hid (show ∀ k p,(partsD s)[k]?=some p→(w.alloc (.cells ((Lib.splitB ⟨#[46]⟩ 0 (Lib.countB s ⟨#[46]⟩) s).map Value.string).toArray 9)).cell? ⟨w.heap.size,k,none⟩=some (.string p) from fun k p h=>by
    rw [World.cell?_alloc_new]
    simp only [List.getElem?_toArray,List.getElem?_map]
    unfold partsD at h
    rw [h];rfl)
  have hW:∃ W,W=(w.alloc (.cells ((Lib.splitB ⟨#[46]⟩ 0 (Lib.countB s ⟨#[46]⟩) s).map Value.string).toArray 9)):=⟨_,rfl⟩
  obtain ⟨W,hW⟩:=hW
  have hbW:Below w.heap.size w W:=by rw [hW];exact (Below.refl _ _).alloc (Nat.le_refl _) _
  have hsz:w.heap.size<W.heap.size:=by rw [hW];simp
  rw [← hW] at c1 hcell
  have hle:=Lib.hid (show ∀ p,p∈partsD s→p.size≤s.size from fun p h=>splitB_le _ _ _ _ p h)
  clear hW hm E
  have HQ:=Lib.hid (show quadS s=if (partsD s).length=4 then quadFold 0 (partsD s) else none from rfl)
  generalize Lib.countB s ⟨#[46]⟩=n at *
  go_enter Tryz.func249,Tryz.ntmps249
  go_wp2_with fail
  refine c1.out.mono ?_
  rintro e w1 ⟨rfl,rfl⟩
  clear c1
  by_cases h4:n+1=4
  · obtain rfl:n=3:=by omega
    have HQ2:=Lib.hid (HQ.out.trans (if_pos hlen.out))
    clear HQ h4
    go_wp2_with fail
    go_loopw [5,17] (fun vv vi wr=>∃ (k acc:Nat),k≤4∧vi=.int .i64 k∧vv=.int .i64 acc∧Hid (acc<256 ^ k)∧Hid (quadS s=quadFold acc ((partsD s).drop k))∧Below w1.heap.size w1 wr) (fun _ vi _=>4-(intOf vi).toNat)
    case atStart=>exact ⟨0,0,by omega,rfl,rfl,Lib.hid (by decide),HQ2,Below.refl _ _⟩
    case round=>
      obtain ⟨k,acc,hk,rfl,rfl,ha,HR,hbr⟩:=hrel
      by_cases hlt:k<4
      · obtain ⟨p,hp⟩:∃ p,(partsD s)[k]?=some p:=⟨_,List.getElem?_eq_getElem (by rw [hlen.out];omega)⟩
        have hc:wr.cell? ⟨w.heap.size,k,none⟩=some (.string p):=(hbr.cell (p:=⟨w.heap.size,k,none⟩) hsz).trans (hcell.out k p hp)
        have hps:p.size≤s.size:=hle.out p (List.mem_of_getElem? hp)
        have HS:=Lib.hid (show quadS s=match decS (bs p) 255 with|some n=>quadFold (acc*256+n) ((partsD s).drop (k+1))|none=>none by
          rw [HR.out,drop_at hp];rfl)
        have ha3:acc<16777216:=Nat.lt_of_lt_of_le ha.out (Nat.le_trans (Nat.pow_le_pow_right (by decide) (show k≤3 by omega)) (by decide))
        have ha4:=Lib.hid (show ∀ n,n≤255→acc*256+n<256 ^ (k+1) from fun n hn=>by have:=ha.out;rw [Nat.pow_succ];omega)
        have hdl:=Lib.hid (show ∀ n,decS (bs p) 255=some n→n≤255 from fun n h=>decS_le h)
        have c2:=Lib.hid (fun w=>decimal_any p 255 w (by omega) (by omega) (by omega))
        rw [show (255:Int).toNat=255 from rfl] at c2
        clear HR ha hp hcell
        generalize decS (bs p) 255=o at *
        go_wp2_with fail
        refine (c2.out _).mono ?_
        rintro e w2 ⟨rfl,hb2⟩
        clear c2
        cases o with
        | none =>
          unfold optT
          dsimp only [Option.getD_none,Option.isSome_none]
          have HS:=Lib.hid (show optT (quadS s)=.tuple #[.int .i64 0, .bool false] by rw [HS.out];rfl)
          go_wp2_with fail
          go_ret2
          exact ⟨ret_opt HS.out,hbW.trans ((hbr.trans (hb2.mono hbr.size)).mono (by omega))⟩
        | some n =>
          unfold optT
          dsimp only [Option.getD_some,Option.isSome_some]
          have hn:n≤255:=hdl.out n rfl
          have HS:=Lib.hid (show quadS s=quadFold (acc*256+n) ((partsD s).drop (k+1)) from HS.out)
          have hor:bits .or .i64 ((acc:Int)*256) (n:Int)=((acc*256+n:Nat):Int):=by
            have:=i64_or (acc*256) n (by omega) (by omega)
            rw [or_add acc n (by omega)] at this
            rw [← this];congr 1
          go_wp2_with fail
          go_roundw
          case rel=>exact ⟨k+1,acc*256+n,by omega,by go_num,by go_num,Lib.hid (ha4.out n hn),HS,hbr.trans (hb2.mono hbr.size)⟩
          case measure=>simp [intOf];omega
      · have hk4:k=4:=by omega
        have H:=Lib.hid (show optT (quadS s)=.tuple #[.int .i64 acc, .bool true] by
          rw [HR.out,drop_end (by rw [hlen.out];omega)];rfl)
        clear HR ha hcell hk4
        go_wp2_with fail
        go_ret2
        exact ⟨ret_opt H.out,hbW.trans (hbr.mono (by omega))⟩
  · have H:=Lib.hid (show optT (quadS s)=.tuple #[.int .i64 0, .bool false] by rw [HQ.out,if_neg (by rw [hlen.out];exact h4)];rfl)
    have h4':(((n:Int)+1) != 4)=true:=by simp;omega
    clear HQ h4
    go_wp2_with fail
    go_ret2
    exact ⟨ret_opt H.out,hbW⟩
def zx:Bytes:=[48,120]
def zb:Bytes:=[48,98]
def numS (s:ByteArray):Option Nat:=
  if 0≤Lib.indexByte (bs s) 46 then quadS s else
  if Lib.hasPrefix (bs s) zx then basedS 16 8 ((bs s).drop 2) else
  if Lib.hasPrefix (bs s) zb then basedS 2 32 ((bs s).drop 2) else decS (bs s) 4294967295
theorem size_mk (l:Bytes):(ByteArray.mk l.toArray).size=l.length:=by simp [ByteArray.size]
set_option maxHeartbeats 1000000 in
theorem number_any (s:ByteArray)(hs:s.size<4294967281)(w:World)(E:Env w) :
    Calls Tryz.prog 243 #[.string s] w fun e w'=>e=.returned (optT (numS s))∧Below w.heap.size w w':=by
  have c1:=Lib.hid (Tryz.strings_Contains_one s 46 w)
  have HN:=Lib.hid (show numS s=if 0≤Lib.indexByte (bs s) 46 then quadS s else
    if Lib.hasPrefix (bs s) zx then basedS 16 8 ((bs s).drop 2) else
    if Lib.hasPrefix (bs s) zb then basedS 2 32 ((bs s).drop 2) else decS (bs s) 4294967295 from rfl)
  have HE:=Lib.hid E
  clear E
  by_cases h1:0≤Lib.indexByte (bs s) 46
  · have HN2:=Lib.hid (HN.out.trans (if_pos h1))
    have c2:=Lib.hid (fun w E=>quad_any s hs w E)
    have c1':Hid (Calls Tryz.prog 248 #[.string s, .string ⟨#[46]⟩] w fun e w'=>e=.returned (.bool true)∧w'=w):=by
      have:=c1.out
      rwa [show (decide (0≤Lib.indexByte s.data.toList 46))=true from decide_eq_true h1] at this
    clear HN h1 c1
    rw [HN2.out]
    clear HN2
    generalize quadS s=o at *
    go_enter Tryz.func243,Tryz.ntmps243
    go_wp2_with fail
    refine c1'.out.mono ?_
    rintro e w1 ⟨rfl,rfl⟩
    go_wp2_with fail
    refine (c2.out _ HE.out).mono ?_
    rintro e w2 ⟨rfl,hb2⟩
    unfold optT
    go_wp2_with fail
    go_ret2
    exact ⟨rfl,hb2⟩
  have HN2:=Lib.hid (HN.out.trans (if_neg h1))
  have c1':Hid (Calls Tryz.prog 248 #[.string s, .string ⟨#[46]⟩] w fun e w'=>e=.returned (.bool false)∧w'=w):=by
    have:=c1.out
    rwa [show (decide (0≤Lib.indexByte s.data.toList 46))=false from decide_eq_false h1] at this
  have cp:=Lib.hid (fun p w=>Tryz.strings_CutPrefix s p w)
  have hd2:∀ p:Bytes,p.length=2→Lib.hasPrefix (bs s) p=true→Lib.trimPrefix s.data.toList p=(bs s).drop 2:=fun p hp h=>by
    unfold Lib.trimPrefix
    rw [show Lib.hasPrefix s.data.toList p=true from h,if_pos rfl,hp];rfl
  have hmk:bs (ByteArray.mk ((bs s).drop 2).toArray)=(bs s).drop 2:=by simp [bs]
  have hsz:(ByteArray.mk ((bs s).drop 2).toArray).size≤9223372036854775807:=by
    rw [size_mk,List.length_drop,bs_length];omega
  clear HN h1 c1
  by_cases h2:Lib.hasPrefix (bs s) zx=true
  · have HN3:=Lib.hid (HN2.out.trans (if_pos h2))
    have c2:=Lib.hid (fun w E=>based_any 16 8 (.inl ⟨rfl,by omega⟩) (ByteArray.mk ((bs s).drop 2).toArray) hsz w E)
    rw [hmk] at c2
    have c3:=Lib.hid (show ∀ w,Calls Tryz.prog 250 #[.string s, .string ⟨#[48,120]⟩] w fun e w'=>e=.returned (.tuple #[.string ⟨((bs s).drop 2).toArray⟩, .bool true])∧w'=w from fun w=>by
      have:=cp.out ⟨#[48,120]⟩ w
      rwa [show Lib.trimPrefix s.data.toList ((⟨#[48,120]⟩:ByteArray).data.toList)=(bs s).drop 2 from hd2 zx rfl h2,show Lib.hasPrefix s.data.toList ((⟨#[48,120]⟩:ByteArray).data.toList)=true from h2] at this)
    clear hd2 hmk hsz HN2 cp
    rw [HN3.out]
    clear HN3 h2
    generalize basedS 16 8 ((bs s).drop 2)=o at *
    generalize ((bs s).drop 2).toArray=q at *
    go_enter Tryz.func243,Tryz.ntmps243
    go_wp2_with fail
    refine c1'.out.mono ?_
    rintro e w1 ⟨rfl,rfl⟩
    go_wp2_with fail
    refine (c3.out _).mono ?_
    rintro e w1 ⟨rfl,rfl⟩
    go_wp2_with fail
    refine (c2.out _ HE.out).mono ?_
    rintro e w2 ⟨rfl,hb2⟩
    unfold optT
    go_wp2_with fail
    go_ret2
    exact ⟨rfl,hb2⟩
  have h2':Lib.hasPrefix (bs s) zx=false:=by simpa using h2
  have HN3:=Lib.hid (HN2.out.trans (if_neg h2))
  have c3:=Lib.hid (show ∀ w,∃ q,Calls Tryz.prog 250 #[.string s, .string ⟨#[48,120]⟩] w fun e w'=>e=.returned (.tuple #[.string q, .bool false])∧w'=w from fun w=>by
    have:=cp.out ⟨#[48,120]⟩ w
    rw [show Lib.hasPrefix s.data.toList ((⟨#[48,120]⟩:ByteArray).data.toList)=false from h2'] at this
    exact ⟨_,this⟩)
  obtain ⟨q3,c3⟩:=c3.out w
  have c3:=Lib.hid c3
  clear HN2 h2 h2'
  by_cases h4:Lib.hasPrefix (bs s) zb=true
  · have HN4:=Lib.hid (HN3.out.trans (if_pos h4))
    have c2:=Lib.hid (fun w E=>based_any 2 32 (.inr ⟨rfl,rfl⟩) (ByteArray.mk ((bs s).drop 2).toArray) hsz w E)
    rw [hmk] at c2
    have c4:=Lib.hid (show ∀ w,Calls Tryz.prog 250 #[.string s, .string ⟨#[48,98]⟩] w fun e w'=>e=.returned (.tuple #[.string ⟨((bs s).drop 2).toArray⟩, .bool true])∧w'=w from fun w=>by
      have:=cp.out ⟨#[48,98]⟩ w
      rwa [show Lib.trimPrefix s.data.toList ((⟨#[48,98]⟩:ByteArray).data.toList)=(bs s).drop 2 from hd2 zb rfl h4,show Lib.hasPrefix s.data.toList ((⟨#[48,98]⟩:ByteArray).data.toList)=true from h4] at this)
    clear hd2 hmk hsz HN3 cp
    rw [HN4.out]
    clear HN4 h4
    generalize basedS 2 32 ((bs s).drop 2)=o at *
    generalize ((bs s).drop 2).toArray=q at *
    go_enter Tryz.func243,Tryz.ntmps243
    go_wp2_with fail
    refine c1'.out.mono ?_
    rintro e w1 ⟨rfl,rfl⟩
    go_wp2_with fail
    refine c3.out.mono ?_
    rintro e w1 ⟨rfl,rfl⟩
    go_wp2_with fail
    refine (c4.out _).mono ?_
    rintro e w1 ⟨rfl,rfl⟩
    go_wp2_with fail
    refine (c2.out _ HE.out).mono ?_
    rintro e w2 ⟨rfl,hb2⟩
    unfold optT
    go_wp2_with fail
    go_ret2
    exact ⟨rfl,hb2⟩
  have h4':Lib.hasPrefix (bs s) zb=false:=by simpa using h4
  have HN4:=Lib.hid (HN3.out.trans (if_neg h4))
  have c4:=Lib.hid (show ∀ w,∃ q,Calls Tryz.prog 250 #[.string s, .string ⟨#[48,98]⟩] w fun e w'=>e=.returned (.tuple #[.string q, .bool false])∧w'=w from fun w=>by
    have:=cp.out ⟨#[48,98]⟩ w
    rw [show Lib.hasPrefix s.data.toList ((⟨#[48,98]⟩:ByteArray).data.toList)=false from h4'] at this
    exact ⟨_,this⟩)
  obtain ⟨q4,c4⟩:=c4.out w
  have c4:=Lib.hid c4
  have c5:=Lib.hid (fun w=>decimal_any s 4294967295 w (by omega) (by omega) (by omega))
  rw [show (4294967295:Int).toNat=4294967295 from rfl] at c5
  clear HN3 h4 h4' hd2 hmk hsz cp
  rw [HN4.out]
  clear HN4
  generalize decS (bs s) 4294967295=o at *
  go_enter Tryz.func243,Tryz.ntmps243
  go_wp2_with fail
  refine c1'.out.mono ?_
  rintro e w1 ⟨rfl,rfl⟩
  go_wp2_with fail
  refine c3.out.mono ?_
  rintro e w1 ⟨rfl,rfl⟩
  go_wp2_with fail
  refine c4.out.mono ?_
  rintro e w1 ⟨rfl,rfl⟩
  go_wp2_with fail
  refine (c5.out _).mono ?_
  rintro e w2 ⟨rfl,hb2⟩
  unfold optT
  go_wp2_with fail
  go_ret2
  exact ⟨rfl,hb2⟩
theorem width_pos (s:ByteArray)(pos:Nat)(h:pos<s.size):1≤(Utf8.decode s pos).2:=by
  by_cases ha:(s[pos]'h).toNat<128
  · rw [decode_ascii s pos h ha];exact Nat.le_refl _
  · exact (decode_high s pos h (by omega)).2
def runesFrom (s:ByteArray)(pos:Nat):Nat:=
  if h:pos<s.size then 1+runesFrom s (pos+(Utf8.decode s pos).2) else 0
termination_by s.size-pos
decreasing_by have:=width_pos s pos h;omega
theorem runesFrom_le (s:ByteArray):∀ n pos,s.size-pos≤n→runesFrom s pos≤n
  | 0,pos,h=>by rw [runesFrom,dif_neg (by omega)];exact Nat.le_refl _
  | n + 1, pos, h => by
    rw [runesFrom]
    split
    · rename_i hp
      have:=width_pos s pos hp
      have:=runesFrom_le s n (pos+(Utf8.decode s pos).2) (by omega)
      omega
    · omega
structure Mach where
  text:ByteArray
  pos:Nat
  line:Int
  col:Int
  opn:Bool
  toks:Value
def Mach.cells (m:Mach):Array Value:=#[.string m.text, .int .i64 m.pos, .int .i64 m.line, .int .i64 m.col, .bool m.opn,m.toks]
def MachAt (w:World)(M:Nat)(m:Mach):Prop:=w.heap[M]?=some (.cells m.cells 304 (0,0))
theorem gb_refl (w:World)(r:Option Nat):w.grownBy w r:=⟨rfl,rfl,rfl,Nat.le_refl _,fun _ _ _=>rfl⟩
theorem gb_trans {a b c:World}{r:Option Nat}(h:a.grownBy b r)(k:b.grownBy c r):a.grownBy c r:=
  ⟨k.os.trans h.os,k.tape.trans h.tape,k.output.trans h.output,Nat.le_trans h.size k.size,fun i hi hne=>(k.block i (Nat.lt_of_lt_of_le hi h.size) hne).trans (h.block i hi hne)⟩
theorem gb_drew {a w:World}{r:Option Nat}(h:a.grownBy w r):a.grownBy w.drew r:=⟨h.os,h.tape,h.output,h.size,h.block⟩
theorem gb_below {a b c:World}{r:Option Nat}(h:a.grownBy b r)(k:Below b.heap.size b c):a.grownBy c r:=
  gb_trans h ⟨k.os,k.tape,k.output,k.size,fun i hi _=>k.block i hi⟩
theorem gb_setCell {a w:World}{g:Nat}(h:a.grownBy w (some g))(o:Nat)(u:Value):a.grownBy (w.setCell ⟨g,o,none⟩ u) (some g):=
  ⟨h.os,h.tape,h.output,by simpa [World.setCell] using h.size,fun i hi hne=>(Below.heap_setCell w ⟨g,o,none⟩ u i (fun e=>hne (by rw [e]))).trans (h.block i hi hne)⟩
theorem gb_iterAt {a w:World}{r:Option Nat}(h:a.grownBy w r){k:Nat}(hk:a.heap.size≤k)(s:ByteArray)(q:Nat):a.grownBy (w.iterAt k s q) r:=
  ⟨h.os,h.tape,h.output,by simpa [World.iterAt] using h.size,fun i hi hne=>by
    rw [← h.block i hi hne]
    show (w.heap.setIfInBounds k _)[i]?=_
    rw [Array.getElem?_setIfInBounds,if_neg (by omega)]⟩
theorem MachAt.lt {w:World}{M:Nat}{m:Mach}(h:MachAt w M m):M<w.heap.size:=(Array.getElem?_eq_some_iff.1 h).1
theorem MachAt.free {w:World}{M:Nat}{m:Mach}(h:MachAt w M m)(i:Nat):w.frozen? ⟨M,i,none⟩=false:=by
  unfold MachAt at h
  simp [World.frozen?,h]
theorem MachAt.of_block {w w':World}{M:Nat}{m:Mach}(h:MachAt w M m)(hb:w'.heap[M]?=w.heap[M]?):MachAt w' M m:=hb.trans h
theorem MachAt.c0 {w:World}{M:Nat}{m:Mach}(h:MachAt w M m):w.cell? ⟨M,0,none⟩=some (.string m.text):=by have:=cell_of_row w M 0 _ _ (0,0) h;simpa [Mach.cells] using this
theorem MachAt.c1 {w:World}{M:Nat}{m:Mach}(h:MachAt w M m):w.cell? ⟨M,1,none⟩=some (.int .i64 m.pos):=by have:=cell_of_row w M 1 _ _ (0,0) h;simpa [Mach.cells] using this
theorem MachAt.c2 {w:World}{M:Nat}{m:Mach}(h:MachAt w M m):w.cell? ⟨M,2,none⟩=some (.int .i64 m.line):=by have:=cell_of_row w M 2 _ _ (0,0) h;simpa [Mach.cells] using this
theorem MachAt.c3 {w:World}{M:Nat}{m:Mach}(h:MachAt w M m):w.cell? ⟨M,3,none⟩=some (.int .i64 m.col):=by have:=cell_of_row w M 3 _ _ (0,0) h;simpa [Mach.cells] using this
theorem MachAt.c4 {w:World}{M:Nat}{m:Mach}(h:MachAt w M m):w.cell? ⟨M,4,none⟩=some (.bool m.opn):=by have:=cell_of_row w M 4 _ _ (0,0) h;simpa [Mach.cells] using this
theorem MachAt.c5 {w:World}{M:Nat}{m:Mach}(h:MachAt w M m):w.cell? ⟨M,5,none⟩=some m.toks:=by have:=cell_of_row w M 5 _ _ (0,0) h;simpa [Mach.cells] using this
theorem MachAt.set {w:World}{M:Nat}{m m':Mach}(h:MachAt w M m)(i:Nat)(v:Value)(he:m.cells.setIfInBounds i v=m'.cells):MachAt (w.setCell ⟨M,i,none⟩ v) M m':=by
  unfold MachAt at h ⊢
  rw [← he]
  simp [World.setCell,Array.getElem?_modify,h]
set_option maxHeartbeats 1000000 in
set_option maxRecDepth 100000 in
theorem forward_any (M : Nat) (m : Mach) (size : Nat) (w : World) (hm : MachAt w M m) (hsz : m.pos + size ≤ m.text.size) (ht : m.text.size ≤ 4294967295) (hc0 : 0 ≤ m.col) (hc1 : m.col ≤ 4611686018427387904) :
    Calls Tryz.prog 237 #[.pointer (some ⟨M,0,none⟩), .int .i64 size] w fun e w'=>e=.returned (.tuple #[]) ∧
      MachAt w' M { m with pos:=m.pos+size,col:=m.col+runesFrom (m.text.extract m.pos (m.pos+size)) 0 }∧w.grownBy w' (some M):=by
  obtain ⟨text,pos,line,col,opn,toks⟩:=m
  dsimp only at *
  have q0:=hm.c0
  have q1:=hm.c1
  have hM:=Lib.hid hm
  clear hm
  dsimp only at q0 q1
  have bw:IntKind.i64.wrap ((pos:Int)+(size:Int))=(pos:Int)+(size:Int):=IntWalk.i64_in _ (by omega)
  have b0:(0:Int)≤(pos:Int):=by omega
  have b1:(pos:Int)≤(pos:Int)+(size:Int):=by omega
  have b2:(pos:Int)+(size:Int)≤(text.size:Int):=by omega
  go_enter Tryz.func237,Tryz.ntmps237
  go_wp2_with fail
  go_still_tail 15,(by kernel_rfl)
  go_wp2_with fail
  have hlt:=hM.out.lt
  obtain ⟨q,hq⟩:∃ q,q=text.extract pos (pos+size):=⟨_,rfl⟩
  rw [← hq]
  have hq:=Lib.hid hq
  have hql:q.size≤4294967295:=by rw [hq.out];have:=size_extract_le text pos (pos+size);omega
  have hrl:=Lib.hid (show ∀ p,runesFrom q p≤4294967295 from fun p=>Nat.le_trans (runesFrom_le q q.size p (by omega)) hql)
  clear q0 q1
  go_loopw [] (fun wr=>∃ (p c:Nat),wr.heap[w.heap.size]?=some (.stringIter q p)∧c≤4294967295∧Hid (runesFrom q 0=c+runesFrom q p)∧MachAt wr M ⟨text,pos,line,col+c,opn,toks⟩∧w.grownBy wr (some M)) (fun wr=>q.size-wr.iterPos w.heap.size)
  case atStart=>
    refine ⟨0,0,World.iter_heap _ _ _,by omega,Lib.hid (by simp),?_,gb_below (gb_drew (gb_refl _ _)) ((Below.refl _ _).alloc (Nat.le_refl _) _)⟩
    rw [show col+((0:Nat):Int)=col by simp]
    exact hM.out.of_block (Below.heap_alloc w.drew _ M hlt)
  case round=>
    obtain ⟨p,c,hit,hcl,hr,hma,hg⟩:=hrel
    by_cases hp:p<q.size
    · have hnx:=fun ty=>Lib.run_next_any_at (P:=Tryz.prog) wr w.heap.size q p ty hit hp
      have hw:=width_pos q p hp
      have hr':=Lib.hid (show runesFrom q 0=(c+1)+runesFrom q (p+(Utf8.decode q p).2) from by
        have:=hr.out
        rw [show runesFrom q p=1+runesFrom q (p+(Utf8.decode q p).2) by rw [runesFrom,dif_pos hp]] at this
        omega)
      have hcl':c+1≤4294967295:=by have:=hrl.out 0;have:=hr'.out;omega
      have hit2:=Lib.iterAt_heap wr w.heap.size q p (p+(Utf8.decode q p).2) hit
      have hg2:=gb_iterAt hg (Nat.le_refl _) q (p+(Utf8.decode q p).2)
      have hma2:MachAt (wr.iterAt w.heap.size q (p+(Utf8.decode q p).2)) M ⟨text,pos,line,col+c,opn,toks⟩:=hma.of_block (by
        show (wr.heap.setIfInBounds _ _)[M]?=_
        rw [Array.getElem?_setIfInBounds,if_neg (by omega)])
      have hpos:(wr.iterPos w.heap.size)=p:=by simp [World.iterPos,hit]
      have hpos:=Lib.hid hpos
      obtain ⟨W2,hW2⟩:∃ W2,W2=wr.iterAt w.heap.size q (p+(Utf8.decode q p).2):=⟨_,rfl⟩
      rw [← hW2] at hit2 hg2 hma2 hnx
      clear hW2 hr hit hma hg
      have q3:=hma2.c3
      have qf:=hma2.free 3
      dsimp only at q3
      have hit2:=Lib.hid hit2
      go_wp2_with fail
      go_roundw
      case rel=>
        refine ⟨p+(Utf8.decode q p).2,c+1,?_,hcl',hr',?_,gb_setCell hg2 _ _⟩
        · rw [Below.heap_setCell _ _ _ _ (by show _≠M;omega)];exact hit2.out
        · exact hma2.set 3 _ (by simp [Mach.cells];omega)
      case measure=>
        rw [hpos.out]
        have:(W2.setCell ⟨M,3,none⟩ (.int .i64 (col + ↑c+1))).iterPos w.heap.size=p+(Utf8.decode q p).2:=by
          unfold World.iterPos
          rw [Below.heap_setCell _ _ _ _ (by show _≠M;omega),hit2.out]
        first|(rw [this];omega)|(simp only [this];omega)
    · have hnx:=fun ty=>Lib.run_next_end_at (P:=Tryz.prog) wr w.heap.size q p ty hit hp
      have hr':=Lib.hid (show runesFrom q 0=c from by
        have:=hr.out
        rwa [show runesFrom q p=0 by rw [runesFrom,dif_neg hp]] at this)
      have q1:=hma.c1
      have qf:=hma.free 1
      dsimp only at q1
      clear hit hr
      go_wp2_with fail
      go_end0
      refine ⟨rfl,?_,gb_setCell hg _ _⟩
      rw [← hq.out,hr'.out]
      exact hma.set 1 _ (by simp [Mach.cells])
def trit (c:UInt8):Bool:=c.toNat == 48 || c.toNat == 49 || c.toNat == 120
def patS (l:Bytes):Bool:=l.all trit && (decide (0<l.length) && decide (l.length≤32))
theorem decode_trit (s:ByteArray)(p:Nat)(h:p<s.size):((Utf8.decode s p).1=48∨(Utf8.decode s p).1=49∨(Utf8.decode s p).1=120)↔trit s[p]=true:=by
  by_cases ha:(s[p]'h).toNat<128
  · rw [decode_ascii s p h ha]
    simp [trit];omega
  · have h1:=(decode_high s p h (by omega)).1
    simp only [trit,Bool.or_eq_true,beq_iff_eq]
    omega
theorem decode_trit_w (s:ByteArray)(p:Nat)(h:p<s.size)(ht:trit s[p]=true):(Utf8.decode s p).2=1:=by
  have ha:(s[p]'h).toNat<128:=by simp only [trit,Bool.or_eq_true,beq_iff_eq] at ht;omega
  rw [decode_ascii s p h ha]
set_option maxHeartbeats 800000 in
theorem pattern_any (s : ByteArray) (hs : s.size ≤ 9223372036854775807) (w : World) :
    Calls Tryz.prog 245 #[.string s] w fun e w'=>e=.returned (.bool (patS (bs s)))∧Below w.heap.size w w':=by
  go_enter Tryz.func245,Tryz.ntmps245
  go_wp2_with fail
  go_loopw [] (fun wr=>∃ p:Nat,p≤s.size∧wr=w.iter s p∧Hid ((bs s).all trit=((bs s).drop p).all trit)) (fun wr=>s.size-wr.iterPos w.heap.size)
  case atStart=>exact ⟨0,by omega,rfl,Lib.hid rfl⟩
  case round=>
    obtain ⟨p,hp,rfl,hr⟩:=hrel
    by_cases hlt:p<s.size
    · have hnx:=fun ty=>run_next_any (P:=Tryz.prog) w s p ty hlt
      have hd:=Lib.hid (decode_trit s p hlt)
      have hw:=width_pos s p hlt
      have hpos:=Lib.hid (World.iterPos_iter w s p)
      by_cases ht:trit s[p]=true
      · have hw1:=decode_trit_w s p hlt ht
        rw [hw1] at hnx
        have hr':=Lib.hid (show (bs s).all trit=((bs s).drop (p+1)).all trit by
          rw [hr.out,bs_drop s p hlt,List.all_cons,ht];rfl)
        have hdd:=hd.out.2 ht
        clear hd hr hw hw1 ht
        generalize (Utf8.decode s p).1=c at *
        have hpos2:=Lib.hid (World.iterPos_iter w s (p+1))
        rcases hdd with hdd|hdd|hdd
        all_goals
          subst hdd
          go_wp2_with fail
          go_roundw
          case rel=>exact ⟨p+1,by omega,rfl,hr'⟩
          case measure=>rw [hpos.out,hpos2.out];omega
      · have hdd:¬ ((Utf8.decode s p).1=48∨(Utf8.decode s p).1=49∨(Utf8.decode s p).1=120):=fun h=>ht (hd.out.1 h)
        have H:=Lib.hid (show patS (bs s)=false by
          unfold patS
          rw [hr.out,bs_drop s p hlt,List.all_cons,show trit s[p]=false by simpa using ht];rfl)
        have hwx:=Lib.hid (World.iter_extends w s (p+(Utf8.decode s p).2))
        clear hd hr hw ht
        generalize (Utf8.decode s p).1=c at *
        have d1:((c:Int) != 48)=true:=by rw [bne_iff_ne];intro h;exact hdd (.inl (by omega))
        have d2:((c:Int) != 49)=true:=by rw [bne_iff_ne];intro h;exact hdd (.inr (.inl (by omega)))
        have d3:((c:Int) != 120)=true:=by rw [bne_iff_ne];intro h;exact hdd (.inr (.inr (by omega)))
        clear hdd
        go_wp2_with fail
        go_ret
        exact ⟨ret_bool H.out.symm,(Below.refl _ _).alloc (Nat.le_refl _) _⟩
    · have hnx:=fun ty=>run_next_end (P:=Tryz.prog) w s p ty hlt
      have hr':=Lib.hid (show (bs s).all trit=true by rw [hr.out,bs_drop_end s p hlt];rfl)
      clear hr
      by_cases hz:s.size=0
      · have H:=Lib.hid (show patS (bs s)=false by
          unfold patS;rw [bs_length,decide_eq_false (show ¬ 0<s.size by omega)];simp)
        obtain rfl:=str_nil s hz
        go_wp2_with fail
        go_ret
        exact ⟨ret_bool H.out.symm,(Below.refl _ _).alloc (Nat.le_refl _) _⟩
      · have he:=emp_false s hz
        have H:=Lib.hid (show patS (bs s)=decide ((s.size:Int)≤32) by
          unfold patS
          rw [hr'.out,bs_length,decide_eq_true (show 0<s.size by omega)]
          simp only [Bool.true_and]
          congr 1;exact propext ⟨fun h=>by omega,fun h=>by omega⟩)
        go_wp2_with fail
        go_ret
        exact ⟨ret_bool H.out.symm,(Below.refl _ _).alloc (Nat.le_refl _) _⟩
end Go.Proofs.YtdhehcobnbcmdaaGreatDoor
