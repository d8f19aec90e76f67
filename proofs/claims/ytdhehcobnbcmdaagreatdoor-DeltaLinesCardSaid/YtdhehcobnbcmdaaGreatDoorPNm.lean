/- A part of the proof of DeltaLines: Nam. -/
import Derived.Test.YtdhehcobnbcmdaaGreatDoorPA
set_option linter.all false
namespace Go.Proofs.YtdhehcobnbcmdaaGreatDoor
open Go.RowKit
set_option maxHeartbeats 1600000 in
theorem m_isName (s : ByteArray) (w : World) (hs : s.size ≤ 9223372036854775807) :
    Calls Tryz.prog 57 #[.string s] w fun e w'=>e=.returned (.bool (isName (bs s) && !resB s))∧w=w':=by
  have cr:=Lib.hid (m_isReserved s w)
  by_cases h1:s.size=0
  · have H:=Lib.hid (isName_out s (by omega))
    have he:=emp_true s h1
    clear h1
    go_enter Tryz.func57,Tryz.ntmps57
    go_wp2
    go_ret
    exact ⟨ret_bool (by have e:=H.out;simp [e]),rfl⟩
  have he:=emp_false s h1
  by_cases h2:24<s.size
  · have H:=Lib.hid (isName_out s (by omega))
    have h2':(s.size:Int)>24:=by omega
    clear h2
    go_enter Tryz.func57,Tryz.ntmps57
    go_wp2
    go_ret
    exact ⟨ret_bool (by have e:=H.out;simp [e]),rfl⟩
  have H:=Lib.hid (isName_in s (by omega) h2)
  have h2':¬ (s.size:Int)>24:=by omega
  clear h2
  cases hres:resB s
  case true=>
    rw [hres] at cr
    have F:=Lib.hid hres
    clear hres
    go_enter Tryz.func57,Tryz.ntmps57
    go_wp2_with (go_at_call 55;refine cr.out.mono ?_;rintro e w' ⟨rfl,rfl⟩)
    go_ret
    exact ⟨ret_bool (by simp),rfl⟩
  rw [hres] at cr
  have F:=Lib.hid hres
  clear hres
  go_enter Tryz.func57,Tryz.ntmps57
  go_wp2_with (go_at_call 55;refine cr.out.mono ?_;rintro e w' ⟨rfl,rfl⟩)
  clear cr
  go_loopw [3,4,5,19] (fun _ _ _ i wr=>wr=w∧∃ k:Nat,k≤s.size∧i=.int .i64 k∧Hid (isName (bs s)=nm (k == 0) ((bs s).drop k))) (fun _ _ _ i _=>s.size-(intOf i).toNat)
  case atStart=>exact ⟨rfl,0,Nat.zero_le _,rfl,H⟩
  case round=>
    obtain ⟨rfl,k,hk,rfl,HR⟩:=hrel
    by_cases hlt:k<s.size
    · have HS : Hid (isName (bs s) = if !letterN s[k].toNat && ((k == 0) || !digitN s[k].toNat) then false else nm false ((bs s).drop (k + 1))) := by
        refine Lib.hid ?_
        have:=HR.out
        rw [bs_drop s k hlt] at this
        exact this
      clear H HR
      go_upto_region 7 with fail
      go_cut [4,5] (fun u v wx=>wx=wr∧u=.int .u8 s[k].toNat∧v=.bool (letterN s[k].toNat))
      case first=>
        go_wp2
        all_goals (go_meet)
        all_goals (refine ⟨rfl,by first|rfl|(simp;omega),val_bool ?_⟩;rw [Bool.eq_iff_iff];simp [letterN];omega)
      case rest =>
        obtain ⟨rfl,rfl,rfl⟩:=hcut
        generalize hL:letterN s[k].toNat=L at *
        clear hL
        by_cases h0:k=0
        · have HS':Hid (isName (bs s)=if !L then false else nm false ((bs s).drop 1)):=Lib.hid (by have:=HS.out;subst h0;simpa using this)
          clear HS
          cases L
          · go_wp2
            go_ret
            exact ⟨ret_bool (by have e:=HS'.out;simp [e]),rfl⟩
          · go_wp2
            go_roundw
            case rel=>exact ⟨by trivial,1,by omega,by first|go_num|(simp;omega),HS'⟩
            case measure=>simp [intOf];omega
        · have h0':((k:Int) == 0)=false:=by simp;omega
          have HS':Hid (isName (bs s)=if !L && !digitN s[k].toNat then false else nm false ((bs s).drop (k+1))):=Lib.hid (by have:=HS.out;rw [show (k == 0)=false by simp [h0]] at this;simpa using this)
          clear HS
          cases L
          · by_cases hd:48≤s[k].toNat∧s[k].toNat≤57
            · have HS2:Hid (isName (bs s)=nm false ((bs s).drop (k+1))):=Lib.hid (by have:=HS'.out;rw [show digitN s[k].toNat=true by simp [digitN,hd]] at this;simpa using this)
              obtain ⟨hd1,hd2⟩:=hd
              go_wp2
              go_roundw
              case rel=>exact ⟨by trivial,k+1,by omega,by go_num,HS2⟩
              case measure=>simp [intOf];omega
            · have HS2:Hid (isName (bs s)=false):=Lib.hid (by have:=HS'.out;rw [show digitN s[k].toNat=false by simp [digitN];omega] at this;simpa using this)
              go_wp2
              all_goals first
                | (go_ret;exact ⟨ret_bool (by have e:=HS2.out;simp [e]),rfl⟩)
                | (exfalso;apply hd;omega)
                | (exfalso;simp at *;omega)
          · have HS2:Hid (isName (bs s)=nm false ((bs s).drop (k+1))):=Lib.hid (by simpa using HS'.out)
            go_wp2
            go_roundw
            case rel=>exact ⟨by trivial,k+1,by omega,by go_num,HS2⟩
            case measure=>simp [intOf];omega
    · have HE:Hid (isName (bs s)=true):=Lib.hid (by have:=HR.out;rw [bs_drop_end s k hlt] at this;exact this)
      go_wp2
      go_ret
      exact ⟨ret_bool (by have e:=HE.out;simp [e]),rfl⟩
set_option maxHeartbeats 4000000 in
set_option maxRecDepth 100000 in
theorem c_reserved (s:ByteArray)(w:World):Calls Tryz.prog 144 #[.string s] w fun e w'=>e=.returned (.bool (resB s))∧w=w':=by
  go_enter Tryz.func144,Tryz.ntmps144
  go_wp2
  all_goals go_ret
  all_goals (refine ⟨ret_bool ?_,rfl⟩;first|(simp only [resB,resW,List.any_cons,List.any_nil, *,Bool.or_true,Bool.true_or,Bool.or_false];done)|(simp only [*,Bool.false_eq_true] at *;done))
theorem nm_all:∀ l:Bytes,nm false l=l.all wordU
  | []=>rfl
  | c :: r => by
    unfold nm
    rw [nm_all r,List.all_cons]
    unfold wordU
    cases letterU c<;>cases digitU c<;>simp
theorem nm_first (c:UInt8)(r:Bytes):nm true (c::r)=(!digitU c && (c::r).all wordU):=by
  unfold nm
  rw [nm_all r,List.all_cons]
  have:¬ (letterU c=true∧digitU c=true):=by simp only [letterU,digitU,letterN,digitN,decide_eq_true_eq];omega
  unfold wordU
  cases h1:letterU c<;>cases h2:digitU c<;>simp_all
set_option maxHeartbeats 1600000 in
theorem c_letters (s : ByteArray) (w : World) (hs : s.size ≤ 9223372036854775807) :
    Calls Tryz.prog 143 #[.string s] w fun e w'=>e=.returned (.bool (isName (bs s)))∧w=w':=by
  by_cases h1:s.size=0
  · have H:=Lib.hid (isName_out s (by omega))
    have he:=emp_true s h1
    clear h1
    go_enter Tryz.func143,Tryz.ntmps143
    go_wp2
    go_ret
    exact ⟨ret_bool H.out.symm,rfl⟩
  have he:=emp_false s h1
  by_cases h2:24<s.size
  · have H:=Lib.hid (isName_out s (by omega))
    have h2':(s.size:Int)>24:=by omega
    clear h2
    go_enter Tryz.func143,Tryz.ntmps143
    go_wp2
    go_ret
    exact ⟨ret_bool H.out.symm,rfl⟩
  have H0:=isName_in s (by omega) h2
  have h2':¬ (s.size:Int)>24:=by omega
  clear h2
  have hb:=bs_drop s 0 (by omega)
  rw [List.drop_zero] at hb
  rw [hb,nm_first,← hb] at H0
  cases hd:digitU s[0]
  case true=>
    rw [hd] at H0
    have H:=Lib.hid H0
    have hd':48≤s[0].toNat∧s[0].toNat≤57:=by simpa [digitU,digitN] using hd
    obtain ⟨k1,k2⟩:=hd'
    clear H0 hb hd
    go_enter Tryz.func143,Tryz.ntmps143
    go_wp2
    go_ret
    exact ⟨ret_bool (by have e:=H.out;simp [e]),rfl⟩
  rw [hd] at H0
  have H:=Lib.hid H0
  have hd':¬ (48≤s[0].toNat∧s[0].toNat≤57):=by simpa [digitU,digitN] using hd
  clear H0 hb hd
  go_enter Tryz.func143,Tryz.ntmps143
  go_upto_region 1 with fail
  go_cut [21] (fun v wx=>wx=w∧v=.bool false)
  case first=>
    go_wp2
    all_goals (go_meet)
    all_goals (exact ⟨rfl,val_bool (by first|rfl|(simp;omega))⟩)
  case rest=>
  obtain ⟨rfl,rfl⟩:=hcut
  go_wp2_with fail
  go_loopw [3,4] (fun i _ wr=>wr=wc∧∃ k:Nat,k≤s.size∧i=.int .i64 k∧Hid (isName (bs s)=((bs s).drop k).all wordU)) (fun i _ _=>s.size-(intOf i).toNat)
  case atStart=>exact ⟨rfl,0,Nat.zero_le _,rfl,Lib.hid (by rw [H.out];rfl)⟩
  case round=>
    obtain ⟨rfl,k,hk,rfl,HR⟩:=hrel
    by_cases hlt:k<s.size
    · have HS:Hid (isName (bs s)=(wordU s[k] && ((bs s).drop (k+1)).all wordU)):=Lib.hid (by have:=HR.out;rw [bs_drop s k hlt] at this;exact this)
      clear H HR
      go_upto_region 7 with fail
      go_cut [4,56] (fun x v wx=>wx=wr∧x=.int .u8 s[k].toNat∧v=.bool (!wordU s[k]))
      case first=>
        go_wp2
        all_goals (go_meet)
        all_goals (refine ⟨rfl,by first|rfl|(simp;omega),val_bool ?_⟩;rw [Bool.eq_iff_iff];simp [wordU,letterU,digitU,letterN,digitN];omega)
      case rest=>
        obtain ⟨rfl,rfl,rfl⟩:=hcut
        cases hL:wordU s[k]
        · have HS2:Hid (isName (bs s)=false):=Lib.hid (by rw [HS.out,hL];rfl)
          clear hL HS
          go_wp2
          go_ret
          exact ⟨ret_bool HS2.out.symm,rfl⟩
        · have HS2:Hid (isName (bs s)=((bs s).drop (k+1)).all wordU):=Lib.hid (by rw [HS.out,hL];rfl)
          clear hL HS
          go_wp2
          go_roundw
          case rel=>exact ⟨by trivial,k+1,by omega,by go_num,HS2⟩
          case measure=>simp [intOf];omega
    · have HE:Hid (isName (bs s)=true):=Lib.hid (by rw [HR.out,bs_drop_end s k hlt];rfl)
      go_wp2
      go_ret
      exact ⟨ret_bool HE.out.symm,rfl⟩
theorem c_isName (s:ByteArray)(w:World)(hs:s.size≤9223372036854775807) :
    Calls Tryz.prog 115 #[.string s] w fun e w'=>e=.returned (.bool (isName (bs s) && !resB s))∧w=w':=by
  have c1:=Lib.hid (c_letters s w hs)
  have c2:=Lib.hid (c_reserved s w)
  cases h1:isName (bs s)
  · rw [h1] at c1
    go_enter Tryz.func115,Tryz.ntmps115
    go_wp2_with (go_at_call 143;refine c1.out.mono ?_;rintro e w' ⟨rfl,rfl⟩)
    go_ret
    exact ⟨rfl,rfl⟩
  · rw [h1] at c1
    go_enter Tryz.func115,Tryz.ntmps115
    go_wp2_with (first|(go_at_call 143;refine c1.out.mono ?_;rintro e w' ⟨rfl,rfl⟩)|(go_at_call 144;refine c2.out.mono ?_;rintro e w' ⟨rfl,rfl⟩))
    go_ret
    exact ⟨by simp,rfl⟩
end Go.Proofs.YtdhehcobnbcmdaaGreatDoor
