/- A part of the proof of DeltaLines: Str2 Str3. -/
import Derived.Test.YtdhehcobnbcmdaaGreatDoorPA
set_option linter.all false
namespace Go.Proofs.YtdhehcobnbcmdaaGreatDoor
open Go.RowKit
theorem class_at (s:ByteArray)(k:Nat)(h:k<s.size):classL ((bs s).drop k)=classN s[k].toNat:=by rw [bs_drop s k h];rfl
theorem class_end (s:ByteArray)(k:Nat)(h:¬ k<s.size):classL ((bs s).drop k)=1:=by rw [bs_drop_end s k h];rfl
set_option maxHeartbeats 1600000 in
theorem classOf_nat (s:ByteArray)(k:Nat)(w:World)(_hs:s.size≤9223372036854775807)(_hk:k≤9223372036854775807) :
    Calls Tryz.prog 235 #[.string s, .int .i64 k] w fun e w'=>e=.returned (.int .i64 (classL ((bs s).drop k)))∧w=w':=by
  by_cases hlt:k<s.size
  · have H:=Lib.hid (class_at s k hlt)
    go_enter Tryz.func235,Tryz.ntmps235
    go_wp2
    all_goals (go_ret;refine ⟨ret_int ?_,rfl⟩;rw [H.out];clear H;(try simp only [beq_iff_eq,beq_eq_false_iff_ne,ne_eq] at *);unfold classN;(repeat' split)<;>omega)
  · have H:=Lib.hid (class_end s k hlt)
    go_enter Tryz.func235,Tryz.ntmps235
    go_wp2
    go_ret
    exact ⟨ret_int H.out.symm,rfl⟩
theorem classOf_any (s:ByteArray)(k:Int)(w:World)(hs:s.size≤9223372036854775807)(h0:0≤k)(hk:k≤9223372036854775807) :
    Calls Tryz.prog 235 #[.string s, .int .i64 k] w fun e w'=>e=.returned (.int .i64 (classL ((bs s).drop k.toNat)))∧w=w':=by
  obtain ⟨n,rfl⟩:=Int.eq_ofNat_of_zero_le h0
  rw [Int.toNat_natCast]
  exact classOf_nat s n w hs (by omega)
set_option maxHeartbeats 400000 in
theorem isWord_any (s:ByteArray)(k:Int)(w:World)(hs:s.size≤9223372036854775807)(h0:0≤k)(hk:k≤9223372036854775807) :
    Calls Tryz.prog 247 #[.string s, .int .i64 k] w fun e w'=>e=.returned (.bool (wordL ((bs s).drop k.toNat)))∧w=w':=by
  have hw:Hid (wordL ((bs s).drop k.toNat)=(classL ((bs s).drop k.toNat) == 5 || classL ((bs s).drop k.toNat) == 6)):=Lib.hid rfl
  have c:=Lib.hid (classOf_any s k w hs h0 hk)
  generalize classL ((bs s).drop k.toNat)=q at *
  go_enter Tryz.func247,Tryz.ntmps247
  go_wp2_with fail
  refine c.out.mono ?_
  rintro e w' ⟨rfl,rfl⟩
  go_wp2
  all_goals (go_ret;refine ⟨ret_bool ?_,rfl⟩;rw [hw.out];(try simp [*]))
theorem wordLen_at (s:ByteArray)(k:Nat)(h:k<s.size):wordLen ((bs s).drop k)=if wordL ((bs s).drop k) then wordLen ((bs s).drop (k+1))+1 else 0:=by
  rw [bs_drop s k h,wordL_cons];rfl
theorem wordLen_end (s:ByteArray)(k:Nat)(h:¬ k<s.size):wordLen ((bs s).drop k)=0:=by rw [bs_drop_end s k h];rfl
theorem wordL_end (s:ByteArray)(k:Nat)(h:¬ k<s.size):wordL ((bs s).drop k)=false:=by rw [bs_drop_end s k h];rfl
set_option maxHeartbeats 400000 in
theorem wordRun_any (s : ByteArray) (w : World) (hs : s.size ≤ 9223372036854775807) :
    Calls Tryz.prog 244 #[.string s] w fun e w'=>e=.returned (.int .i64 (wordLen (bs s)))∧w=w':=by
  go_enter Tryz.func244,Tryz.ntmps244
  go_wp2_with fail
  go_loop [3] (fun i=>∃ k:Nat,k≤s.size∧i=.int .i64 k∧Hid (wordLen (bs s)=k+wordLen ((bs s).drop k))) (fun i=>s.size-(intOf i).toNat)
  case atStart=>exact ⟨0,Nat.zero_le _,rfl,Lib.hid (by simp)⟩
  case round=>
    obtain ⟨k,hk,rfl,HR⟩:=hrel
    go_wp2_with fail
    refine (isWord_any s k _ hs (by omega) (by omega)).mono ?_
    rintro e w' ⟨rfl,rfl⟩
    rw [Int.toNat_natCast]
    by_cases hlt:k<s.size
    · have HS:=Lib.hid (wordLen_at s k hlt)
      generalize wordL ((bs s).drop k)=b at *
      cases b
      · have HE:Hid (wordLen (bs s)=k):=by refine Lib.hid ?_;rw [HR.out,HS.out];simp
        clear HS HR
        go_wp2
        go_ret
        exact ⟨ret_int (by rw [HE.out]),rfl⟩
      · have HE:Hid (wordLen (bs s)=(k+1)+wordLen ((bs s).drop (k+1))):=by refine Lib.hid ?_;rw [HR.out,HS.out];simp;omega
        clear HS HR
        go_wp2
        go_round
        case rel=>exact ⟨k+1,by omega,by go_num,HE⟩
        case measure=>simp [intOf];omega
    · have HE:Hid (wordLen (bs s)=k):=by refine Lib.hid ?_;rw [HR.out,wordLen_end s k hlt];rfl
      rw [wordL_end s k hlt]
      clear HR
      go_wp2
      go_ret
      exact ⟨ret_int (by rw [HE.out]),rfl⟩
theorem numLen_at (s:ByteArray)(k:Nat)(h:k<s.size):numLen ((bs s).drop k)=if wordL ((bs s).drop k) || (s[k].toNat == 46 && classL ((bs s).drop (k+1)) == 6) then numLen ((bs s).drop (k+1))+1 else 0:=by
  rw [bs_drop s k h,wordL_cons];rfl
theorem numLen_end (s:ByteArray)(k:Nat)(h:¬ k<s.size):numLen ((bs s).drop k)=0:=by rw [bs_drop_end s k h];rfl
set_option maxHeartbeats 800000 in
theorem numberRun_any (s : ByteArray) (w : World) (hs : s.size ≤ 9223372036854775806) :
    Calls Tryz.prog 242 #[.string s] w fun e w'=>e=.returned (.int .i64 (numLen (bs s)))∧w=w':=by
  go_enter Tryz.func242,Tryz.ntmps242
  go_wp2_with fail
  go_loop [3] (fun i=>∃ k:Nat,k≤s.size∧i=.int .i64 k∧Hid (numLen (bs s)=k+numLen ((bs s).drop k))) (fun i=>s.size-(intOf i).toNat)
  case atStart=>exact ⟨0,Nat.zero_le _,rfl,Lib.hid (by simp)⟩
  case round=>
    obtain ⟨k,hk,rfl,HR⟩:=hrel
    go_wp2_with fail
    refine (isWord_any s k _ (by omega) (by omega) (by omega)).mono ?_
    rintro e w' ⟨rfl,rfl⟩
    rw [Int.toNat_natCast]
    by_cases hlt:k<s.size
    · have HS:=Lib.hid (numLen_at s k hlt)
      have hY:Hid (numLen (bs s)=k+numLen ((bs s).drop k)):=HR
      have HN:(wordL ((bs s).drop k) || (s[k].toNat == 46 && classL ((bs s).drop (k+1)) == 6))=true→Hid (numLen (bs s)=(k+1)+numLen ((bs s).drop (k+1))):=fun h=>by
        refine Lib.hid ?_;rw [HR.out,HS.out,if_pos h];omega
      have HF:(wordL ((bs s).drop k) || (s[k].toNat == 46 && classL ((bs s).drop (k+1)) == 6))=false→Hid (numLen (bs s)=k):=fun h=>by
        refine Lib.hid ?_;rw [HR.out,HS.out,if_neg (by rw [h];simp)];rfl
      have HN:=Lib.hid HN
      have HF:=Lib.hid HF
      clear HS HR hY
      by_cases hb:wordL ((bs s).drop k)=true
      · rw [hb]
        have HE:=HN.out (by rw [hb];rfl)
        clear HN HF hb
        go_wp2_with fail
        go_round
        case rel=>exact ⟨k+1,by omega,by go_num,HE⟩
        case measure=>simp [intOf];omega
      · have hb':wordL ((bs s).drop k)=false:=by simpa using hb
        rw [hb']
        by_cases hd:s[k].toNat=46
        · have hd':((s[k].toNat:Int) == 46)=true:=by simp;omega
          have HN':Hid ((classL ((bs s).drop (k+1)) == 6)=true→Hid (numLen (bs s)=(k+1)+numLen ((bs s).drop (k+1)))):=Lib.hid fun h=>HN.out (by rw [hb',hd,h];rfl)
          have HF':Hid ((classL ((bs s).drop (k+1)) == 6)=false→Hid (numLen (bs s)=k)):=Lib.hid fun h=>HF.out (by rw [hb',hd,h];rfl)
          clear hb hb' HN HF hd
          go_wp2_with fail
          refine (classOf_any s (k+1) _ (by omega) (by omega) (by omega)).mono ?_
          rintro e w' ⟨rfl,rfl⟩
          rw [show ((k:Int)+1).toNat=k+1 from by omega]
          by_cases hq:classL ((bs s).drop (k+1))=6
          · rw [hq]
            have HE:=HN'.out (by rw [hq];rfl)
            clear HN' HF' hq
            go_wp2_with fail
            go_round
            case rel=>exact ⟨k+1,by omega,by go_num,HE⟩
            case measure=>simp [intOf];omega
          · have HE:=HF'.out (by simpa using hq)
            have hq':(classL ((bs s).drop (k+1)) == 6)=false:=by simpa using hq
            clear HN' HF' hq
            generalize classL ((bs s).drop (k+1))=q at *
            go_wp2_with fail
            go_ret
            exact ⟨ret_int (by rw [HE.out]),rfl⟩
        · have hd':((s[k].toNat:Int) == 46)=false:=by simp;omega
          have HE:=HF.out (by rw [hb'];simp [hd])
          clear hb hb' HN HF hd
          go_wp2_with fail
          go_ret
          exact ⟨ret_int (by rw [HE.out]),rfl⟩
    · have HE:Hid (numLen (bs s)=k):=by refine Lib.hid ?_;rw [HR.out,numLen_end s k hlt];rfl
      rw [wordL_end s k hlt]
      clear HR
      go_wp2_with fail
      go_ret
      exact ⟨ret_int (by rw [HE.out]),rfl⟩
abbrev q4 (a b c d:Int):Int×Int×Int×Int:=(a,b,c,d)
def nameP (l : Bytes) : Int × Int × Int × Int :=
  if 24<wordLen l then q4 0 0 0 36 else
  if (l.drop (wordLen l)).head?.map (·.toNat)=some 46∧classL (l.drop (wordLen l+1))=5 then
    (if 24<wordLen (l.drop (wordLen l+1)) then q4 0 0 0 36 else q4 3 (wordLen l+1+wordLen (l.drop (wordLen l+1))) 0 0)
  else q4 2 (wordLen l) 0 0
def V4 (q:Int×Int×Int×Int):Value:=.tuple #[.int .i64 q.1, .int .i64 q.2.1, .int .i64 q.2.2.1, .int .i64 q.2.2.2]
theorem ret_V4 {a b c d:Int}{q:Int×Int×Int×Int}(h:q=(a,b,c,d)) :
    Ending.returned (.tuple #[.int .i64 a, .int .i64 b, .int .i64 c, .int .i64 d])=.returned (V4 q):=by rw [h];rfl
theorem size_extract_le (s:ByteArray)(a b:Nat):(s.extract a b).size≤s.size:=by
  rw [← bs_length,bs_extract,List.length_take,List.length_drop,bs_length];omega
theorem head_at (s:ByteArray)(k:Nat)(h:k<s.size):((bs s).drop k).head?.map (·.toNat)=some s[k].toNat:=by rw [bs_drop s k h];rfl
set_option maxHeartbeats 800000 in
theorem scan_name_any (s : ByteArray) (w : World) (hs : s.size ≤ 9223372036854775806) :
    Calls Tryz.prog 241 #[.string s] w fun e w'=>e=.returned (V4 (nameP (bs s)))∧w=w':=by
  have hle:wordLen (bs s)≤s.size:=wordLen_le (bs s)
  have HP:Hid (nameP (bs s)=if 24<wordLen (bs s) then q4 0 0 0 36 else
    if ((bs s).drop (wordLen (bs s))).head?.map (·.toNat)=some 46∧classL ((bs s).drop (wordLen (bs s)+1))=5 then
      (if 24<wordLen ((bs s).drop (wordLen (bs s)+1)) then q4 0 0 0 36 else q4 3 (wordLen (bs s)+1+wordLen ((bs s).drop (wordLen (bs s)+1))) 0 0)
    else q4 2 (wordLen (bs s)) 0 0):=Lib.hid rfl
  have c1:=Lib.hid (wordRun_any s w (by omega))
  generalize hf:wordLen (bs s)=f at *
  clear hf
  go_enter Tryz.func241,Tryz.ntmps241
  go_wp2_with fail
  refine c1.out.mono ?_
  rintro e w' ⟨rfl,rfl⟩
  clear c1
  by_cases h24:24<f
  · have H:=Lib.hid (HP.out.trans (if_pos h24))
    clear HP
    go_wp2_with fail
    ((try simp only [Exit.inBlock,Exit.then]);refine bodyPost_ret (results4 rfl _ _ _) rfl ?_)
    exact ⟨ret_V4 H.out,rfl⟩
  have HP:=Lib.hid (HP.out.trans (if_neg h24))
  by_cases hend:f=s.size
  · have H:Hid (nameP (bs s)=q4 2 f 0 0):=by
      refine Lib.hid (HP.out.trans (if_neg ?_))
      rw [List.drop_eq_nil_of_le (by rw [bs_length];omega)]
      simp
    have hb:((f:Int) == s.size)=true:=by simp;omega
    have hend:=Lib.hid hend
    clear HP
    go_wp2_with fail
    ((try simp only [Exit.inBlock,Exit.then]);refine bodyPost_ret (results4 rfl _ _ _) rfl ?_)
    exact ⟨ret_V4 (by rw [H.out,hend.out]),rfl⟩
  have hlt:f<s.size:=by omega
  have hb:((f:Int) == s.size)=false:=by simp;omega
  have HH:=Lib.hid (head_at s f hlt)
  by_cases hdot:s[f].toNat=46
  · have hd:((s[f].toNat:Int) != 46)=false:=by simp;omega
    have HP:Hid (nameP (bs s)=if classL ((bs s).drop (f+1))=5 then
        (if 24<wordLen ((bs s).drop (f+1)) then q4 0 0 0 36 else q4 3 (f+1+wordLen ((bs s).drop (f+1))) 0 0)
      else q4 2 f 0 0):=by
      refine Lib.hid (HP.out.trans ?_)
      rw [HH.out,hdot]
      simp
    have hq:=Lib.hid (classOf_any s (f+1) w (by omega) (by omega) (by omega))
    rw [show ((f:Int)+1).toNat=f+1 from by omega] at hq
    clear HH hdot
    by_cases h5:classL ((bs s).drop (f+1))=5
    · have HP:=Lib.hid (HP.out.trans (if_pos h5))
      rw [h5] at hq
      clear h5
      have hle2:wordLen (bs (s.extract (f+1) s.size))≤s.size:=by
        have:=wordLen_le (bs (s.extract (f+1) s.size))
        rw [bs_from,List.length_drop,bs_length] at this
        rw [bs_from];omega
      have hg:Hid ((bs s).drop (f+1)=bs (s.extract (f+1) s.size)):=Lib.hid (bs_from s (f+1)).symm
      rw [hg.out] at HP
      clear hg
      have c2:=Lib.hid (wordRun_any (s.extract (f+1) s.size) w (by have:=size_extract_le s (f+1) s.size;omega))
      generalize wordLen (bs (s.extract (f+1) s.size))=g at *
      go_wp2_with fail
      refine hq.out.mono ?_
      rintro e w' ⟨rfl,rfl⟩
      clear hq
      go_wp2_with fail
      refine c2.out.mono ?_
      rintro e w' ⟨rfl,rfl⟩
      clear c2
      by_cases hg24:24<g
      · have HP:=Lib.hid (HP.out.trans (if_pos hg24))
        go_wp2_with fail
        ((try simp only [Exit.inBlock,Exit.then]);refine bodyPost_ret (results4 rfl _ _ _) rfl ?_)
        exact ⟨ret_V4 HP.out,rfl⟩
      · have HP:=Lib.hid (HP.out.trans (if_neg hg24))
        go_wp2_with fail
        ((try simp only [Exit.inBlock,Exit.then]);refine bodyPost_ret (results4 rfl _ _ _) rfl ?_)
        exact ⟨ret_V4 HP.out,rfl⟩
    · have HQ:=Lib.hid (HP.out.trans (if_neg h5))
      clear HP
      have h5':(classL ((bs s).drop (f+1)) != 5)=true:=by simpa using h5
      generalize classL ((bs s).drop (f+1))=q at *
      clear h5
      go_wp2_with fail
      refine hq.out.mono ?_
      rintro e w' ⟨rfl,rfl⟩
      clear hq
      go_wp2_with fail
      ((try simp only [Exit.inBlock,Exit.then]);refine bodyPost_ret (results4 rfl _ _ _) rfl ?_)
      exact ⟨ret_V4 HQ.out,rfl⟩
  · have hd:((s[f].toNat:Int) != 46)=true:=by simp;omega
    have H:Hid (nameP (bs s)=q4 2 f 0 0):=by
      refine Lib.hid (HP.out.trans (if_neg ?_))
      rw [HH.out]
      simp [hdot]
    clear HP HH hdot
    go_wp2_with fail
    ((try simp only [Exit.inBlock,Exit.then]);refine bodyPost_ret (results4 rfl _ _ _) rfl ?_)
    exact ⟨ret_V4 H.out,rfl⟩
end Go.Proofs.YtdhehcobnbcmdaaGreatDoor
