/- A part of the proof of DeltaLines: Esc SpeakS Speak. -/
import Derived.Test.YtdhehcobnbcmdaaGreatDoorPN2
import Derived.Lib.RuneBytes
import Derived.Deep.AppendLies
set_option linter.all false
namespace Go.Proofs.YtdhehcobnbcmdaaGreatDoor
open Go.RowKit
def looseS (s:ByteArray)(p:Nat)(c:Int):Bool:=c == 65533 && (Lib.decodeGo (s.extract p s.size)).2 == 1
set_option maxHeartbeats 400000 in
theorem loose_any (s:ByteArray)(p:Nat)(c:Int)(hp:p≤s.size)(w:World)(E:Env w) :
    Calls Tryz.prog 138 #[.string s, .int .i64 p, .int .i32 c] w fun e w'=>e=.returned (.bool (looseS s p c))∧Below w.heap.size w w':=by
  by_cases hc:c=65533
  · have H:=Lib.hid (show looseS s p c=((Lib.decodeGo (s.extract p s.size)).2 == 1) by rw [hc];rfl)
    have c1:=Lib.hid (Tryz.utf8_DecodeRuneInString (s.extract p s.size) w E.u8)
    have hc':(c != 65533)=false:=by rw [hc];rfl
    generalize Lib.decodeGo (s.extract p s.size)=q at *
    obtain ⟨q1,q2⟩:=q
    dsimp only at *
    clear hc
    by_cases h1:q2=1
    · have H2:=Lib.hid (H.out.trans (beq_iff_eq.2 h1))
      subst h1
      clear H
      go_enter Tryz.func138,Tryz.ntmps138
      go_wp2_with fail
      refine c1.out.mono ?_
      rintro e w1 ⟨rfl,hb⟩
      go_wp2_with fail
      go_ret
      exact ⟨ret_bool H2.out.symm,hb⟩
    · have H2:=Lib.hid (H.out.trans (beq_eq_false_iff_ne.2 h1))
      have h1':((q2:Int) == 1)=false:=by simp;omega
      clear H h1
      go_enter Tryz.func138,Tryz.ntmps138
      go_wp2_with fail
      refine c1.out.mono ?_
      rintro e w1 ⟨rfl,hb⟩
      go_wp2_with fail
      go_ret
      exact ⟨ret_bool H2.out.symm,hb⟩
  · have H:=Lib.hid (show looseS s p c=false by unfold looseS;rw [beq_eq_false_iff_ne.2 hc];rfl)
    have hc':(c != 65533)=true:=by rw [bne_iff_ne];exact hc
    clear hc
    go_enter Tryz.func138,Tryz.ntmps138
    go_wp2_with fail
    go_ret
    exact ⟨ret_bool H.out.symm,Below.refl _ _⟩
def escU (s:ByteArray):List Int×Nat:=
  if Lib.hasPrefix (bs s) [92,117,123]=false then ([],0) else
  if (Lib.cut (bs (s.extract 3 s.size)) [125]).2.2=false then ([],0) else
  match basedS 16 6 (Lib.cut (bs (s.extract 3 s.size)) [125]).1 with
  | none=>([],0)
  | some v=>if Lib.validRune v=false then ([],0) else (Lib.encodeRuneZ v,(Lib.cut (bs (s.extract 3 s.size)) [125]).1.length+4)
def escS (s:ByteArray):List Int×Nat:=
  if h:s.size<2 then ([],0) else
  if s[1].toNat=34 then ([34],2) else if s[1].toNat=92 then ([92],2) else if s[1].toNat=110 then ([10],2) else
  if s[1].toNat=114 then ([13],2) else if s[1].toNat=116 then ([9],2) else
  match (if s[1].toNat=120∧4≤s.size then basedS 16 2 (bs (s.extract 2 4)) else none) with
  | some v=>([(v:Int)],4)
  | none=>escU s
def u8s (l:List Int):List Value:=l.map (Value.int .u8)
def EscPost (w:World)(q:List Int×Nat)(e:Ending)(w':World):Prop:=
  ∃ sv,e=.returned (.tuple #[sv, .int .i64 q.2])∧w'.ownsRow w.heap.size 5 1 sv q.1.length (u8s q.1)∧Below w.heap.size w w'
theorem esc_nil (w w':World)(hb:Below w.heap.size w w'):EscPost w ([],0) (.returned (.tuple #[.slice none 0 0, .int .i64 0])) w':=
  ⟨_,rfl,World.ownsRow_nil _ _ _ _,hb⟩
theorem esc_one (w w1:World)(v:Int)(k:Nat)(hb:Below w.heap.size w w1) :
    EscPost w ([v],k) (.returned (.tuple #[.slice (some ⟨w1.heap.size,0,none⟩) 1 1, .int .i64 k])) (w1.alloc (.cells #[.int .u8 v] 5)):=
  ⟨_,rfl,⟨rfl, .inr ⟨w1.heap.size,1,#[.int .u8 v],rfl,hb.size,heap_alloc_new _ _,Nat.le_refl 1,by decide,rfl,rfl⟩⟩,hb.alloc hb.size _⟩
theorem basedS_bd {most:Nat}{l:Bytes}{v:Nat}(h:basedS 16 most l=some v):v<16 ^ most:=by
  unfold basedS at h
  split at h
  · cases h
  · rename_i h1
    split at h
    · cases h
    · have:=based_lt 16 (by decide) l 0 v h
      have h2:l.length≤most:=Nat.not_lt.1 (fun e=>h1 (.inr e))
      have h3:=Nat.pow_le_pow_right (n:=16) (by decide) h2
      omega
theorem own_base {w:World}{base base':Nat}{e:TypeId}{size n:Nat}{v:Value}{xs:List Value}(h:w.ownsRow base e size v n xs)(hb:base'≤base):w.ownsRow base' e size v n xs:=by
  obtain ⟨h1,h2⟩:=h
  refine ⟨h1,?_⟩
  rcases h2 with h2|⟨g,cap,cur,hv,hg,r⟩
  · exact .inl h2
  · exact .inr ⟨g,cap,cur,hv,Nat.le_trans hb hg,r⟩
theorem below_grown_none {B:Nat}{a w w':World}{o:Obj}(h:Below B a w)(hB:B≤w.heap.size)(hg:(w.alloc o).grownBy w' none):Below B a w':=
  (h.alloc hB o).grown hg (by simp;omega) (fun k hk=>by cases hk)
theorem cut_length (l sep:Bytes):(Lib.cut l sep).1.length≤l.length:=by
  unfold Lib.cut;split
  · simp;omega
  · exact Nat.le_refl _
set_option maxHeartbeats 1600000 in
set_option maxRecDepth 100000 in
theorem escape_any (s : ByteArray) (hs : s.size < 4294967281) (w : World) (E : Env w) :
    Calls Tryz.prog 253 #[.string s] w fun e w'=>EscPost w (escS s) e w':=by
  by_cases h2:s.size<2
  · have H:=Lib.hid (show escS s=([],0) by unfold escS;rw [dif_pos h2])
    rw [H.out]
    clear H
    go_enter Tryz.func253,Tryz.ntmps253
    go_wp2
    go_ret2
    exact esc_nil _ _ (Below.refl _ _)
  have HS:=Lib.hid (show escS s=if s[1].toNat=34 then ([34],2) else if s[1].toNat=92 then ([92],2) else if s[1].toNat=110 then ([10],2) else
    if s[1].toNat=114 then ([13],2) else if s[1].toNat=116 then ([9],2) else
    match (if s[1].toNat=120∧4≤s.size then basedS 16 2 (bs (s.extract 2 4)) else none) with
    | some v=>([(v:Int)],4)
    | none=>escU s by
    unfold escS;rw [dif_neg h2])
  have c1:=Lib.hid (fun w=>Tryz.strings_IndexByte ⟨#[34,92,110,114,116]⟩ (s[1].toNat:Int) w)
  have hback:((s[1].toNat:Int).toNat.toUInt8)=s[1]:=by simp
  rw [hback] at c1
  clear hback
  have HE:=Lib.hid E
  obtain ⟨m0,hm0⟩:=E.maxlen
  have hm0:=Lib.hid hm0
  clear E
  by_cases hlit:s[1].toNat=34∨s[1].toNat=92∨s[1].toNat=110∨s[1].toNat=114∨s[1].toNat=116
  · have lit:∀ (i v:Nat),Lib.indexByte [34,92,110,114,116] s[1]=i→(⟨#[34,92,10,13,9]⟩:ByteArray).data.toList[i]?=some (UInt8.ofNat v)→i<5→v<256→escS s=([(v:Int)],2) →
        Calls Tryz.prog 253 #[.string s] w fun e w'=>EscPost w (escS s) e w':=fun i v h1 h3 h4 h5 h6=>by
      have H:=Lib.hid h6
      have c1':=Lib.hid (c1.out w)
      rw [show Lib.indexByte (⟨#[34,92,110,114,116]⟩:ByteArray).data.toList s[1]=i from h1] at c1'
      rw [H.out]
      clear h1 h6 HS hlit c1 H
      have hi:i=0∨i=1∨i=2∨i=3∨i=4:=by omega
      have hv:i=0∧v=34∨i=1∧v=92∨i=2∧v=10∨i=3∧v=13∨i=4∧v=9:=by
        rcases hi with rfl|rfl|rfl|rfl|rfl<;>simp at h3<;>have h7:=congrArg UInt8.toNat h3<;>simp at h7<;>omega
      clear h3 h4 h5 hi
      rcases hv with ⟨rfl,rfl⟩|⟨rfl,rfl⟩|⟨rfl,rfl⟩|⟨rfl,rfl⟩|⟨rfl,rfl⟩
      all_goals
        go_enter Tryz.func253,Tryz.ntmps253
        go_wp2_with fail
        refine c1'.out.mono ?_
        rintro e w1 ⟨rfl,rfl⟩
        go_wp2_with fail
        go_ret2
        exact esc_one w1 w1 _ 2 (Below.refl _ _)
    have hu:∀ n:Nat,s[1].toNat=n→s[1]=UInt8.ofNat n:=fun n h=>by rw [← h];simp
    rcases hlit with h|h|h|h|h
    · exact lit 0 34 (by rw [hu _ h];decide) rfl (by decide) (by decide) (by rw [HS.out,if_pos h];rfl)
    · exact lit 1 92 (by rw [hu _ h];decide) rfl (by decide) (by decide) (by rw [HS.out,if_neg (by omega),if_pos h];rfl)
    · exact lit 2 10 (by rw [hu _ h];decide) rfl (by decide) (by decide) (by rw [HS.out,if_neg (by omega),if_neg (by omega),if_pos h];rfl)
    · exact lit 3 13 (by rw [hu _ h];decide) rfl (by decide) (by decide) (by rw [HS.out,if_neg (by omega),if_neg (by omega),if_neg (by omega),if_pos h];rfl)
    · exact lit 4 9 (by rw [hu _ h];decide) rfl (by decide) (by decide) (by rw [HS.out,if_neg (by omega),if_neg (by omega),if_neg (by omega),if_neg (by omega),if_pos h];rfl)
  have c1':=Lib.hid (c1.out w)
  have hm1:Lib.indexByte (⟨#[34,92,110,114,116]⟩:ByteArray).data.toList s[1] = -1:=by
    have hne:∀ c:UInt8,(c.toNat=34∨c.toNat=92∨c.toNat=110∨c.toNat=114∨c.toNat=116)→(c == s[1])=false:=fun c hc=>by
      rw [beq_eq_false_iff_ne];rintro rfl;exact hlit hc
    show Lib.indexByte [34,92,110,114,116] s[1] = -1
    simp only [Lib.indexByte,hne 34 (by decide),hne 92 (by decide),hne 110 (by decide),hne 114 (by decide),hne 116 (by decide)]
    rfl
  rw [hm1] at c1'
  clear hm1 c1
  have HS:=Lib.hid (show escS s=match (if s[1].toNat=120∧4≤s.size then basedS 16 2 (bs (s.extract 2 4)) else none) with
    | some v=>([(v:Int)],4)
    | none=>escU s by
    rw [HS.out,if_neg (by omega),if_neg (by omega),if_neg (by omega),if_neg (by omega),if_neg (by omega)])
  clear hlit
  have cb:=Lib.hid (fun w E=>based_any 16 2 (.inl ⟨rfl,by decide⟩) (s.extract 2 4) (by have:=size_extract_le s 2 4;omega) w E)
  have hbd:=Lib.hid (show ∀ v,basedS 16 2 (bs (s.extract 2 4))=some v→v<256 from fun v h=>basedS_bd h)
  have cp:=Lib.hid (fun w=>Tryz.strings_HasPrefix s ⟨#[92,117,123]⟩ w)
  go_enter Tryz.func253,Tryz.ntmps253
  go_upto_region 6 with (go_at_call 199;refine (c1'.out.mono (R':=fun e w'=>e=.returned (.int .i64 (-1))∧w=w') (fun _ _ h=>⟨h.1,h.2.symm⟩)).mono ?_;rintro e w1 ⟨rfl,rfl⟩)
  go_cut [29] (fun v wx=>wx=w∧v=.bool (decide (s[1].toNat=120∧4≤s.size)))
  case first=>
    go_wp2_with fail
    all_goals go_meet
    all_goals (refine ⟨rfl,val_bool ?_⟩;rw [Bool.eq_iff_iff];simp;omega)
  case rest=>
  obtain ⟨rfl,rfl⟩:=hcut
  obtain ⟨B,hB⟩:∃ B,B=decide (s[1].toNat=120∧4≤s.size):=⟨_,rfl⟩
  rw [← hB]
  have hB':=Lib.hid hB
  clear hB
  go_upto_if 29 with fail
  go_cut [5,6] (fun _ _ wx=>Below wc.heap.size wc wx∧Hid (escS s=escU s))
  case first=>
    cases B with
    | true =>
      have hx:=of_decide_eq_true hB'.out.symm
      have h4:=hx.2
      have HS2:=Lib.hid (show escS s=match basedS 16 2 (bs (s.extract 2 4)) with|some v=>([(v:Int)],4)|none=>escU s by
        rw [HS.out,if_pos hx])
      clear HS hx hB'
      generalize basedS 16 2 (bs (s.extract 2 4))=o at *
      go_wp2_with fail
      refine (cb.out _ HE.out).mono ?_
      rintro e w2 ⟨rfl,hb2⟩
      cases o with
      | none =>
        unfold optT
        dsimp only [Option.getD_none,Option.isSome_none]
        have HS3:=Lib.hid (show escS s=escU s from HS2.out)
        go_wp2_with fail
        go_meet
        exact ⟨hb2,HS3⟩
      | some v =>
        unfold optT
        dsimp only [Option.getD_some,Option.isSome_some]
        have hv:v<256:=hbd.out v rfl
        have HS3:=Lib.hid (show escS s=([(v:Int)],4) from HS2.out)
        go_wp2_with fail
        go_ret2
        rw [HS3.out]
        exact esc_one _ _ _ 4 hb2
    | false =>
      have HS2:=Lib.hid (show escS s=escU s by rw [HS.out,if_neg (of_decide_eq_false hB'.out.symm)])
      clear HS hB'
      go_wp2_with fail
      go_meet
      exact ⟨Below.refl _ _,HS2⟩
  case rest =>
    obtain ⟨hbc,HSc⟩:=hcut
    clear HS cb hbd c1'
    have HEc:=Lib.hid (HE.out.below hbc)
    have hmc:=Lib.hid (cell_below hbc hm0.out)
    clear HE hm0
    by_cases hp:Lib.hasPrefix (bs s) [92,117,123]=true
    · have cp':=Lib.hid (show ∀ w,Calls Tryz.prog 185 #[.string s, .string ⟨#[92,117,123]⟩] w fun e w'=>e=.returned (.bool true)∧w=w' from fun w=>by
        have:=cp.out w
        rw [show Lib.hasPrefix s.data.toList (⟨#[92,117,123]⟩:ByteArray).data.toList=true from hp] at this
        exact this.mono fun _ _ h=>⟨h.1,h.2.symm⟩)
      have h3:3≤s.size:=by
        unfold Lib.hasPrefix at hp
        have:=List.IsPrefix.length_le (List.isPrefixOf_iff_prefix.1 hp)
        rw [bs_length] at this
        exact this
      have HU:=Lib.hid (show escU s=if (Lib.cut (bs (s.extract 3 s.size)) [125]).2.2=false then ([],0) else
          match basedS 16 6 (Lib.cut (bs (s.extract 3 s.size)) [125]).1 with
          | none=>([],0)
          | some v=>if Lib.validRune v=false then ([],0) else (Lib.encodeRuneZ v,(Lib.cut (bs (s.extract 3 s.size)) [125]).1.length+4) by
        unfold escU;rw [if_neg (by rw [hp];simp)])
      have cc:=Lib.hid (fun w (h:w.cell? ⟨5,0,none⟩=some (.int .i64 m0))=>Tryz.strings_Cut (s.extract 3 s.size) ⟨#[125]⟩ m0 w (by have:=size_extract_le s 3 s.size;omega) h)
      have hcl:=Lib.hid (show (Lib.cut (bs (s.extract 3 s.size)) [125]).1.length≤s.size by
        have:=cut_length (bs (s.extract 3 s.size)) [125]
        have h2:=size_extract_le s 3 s.size
        rw [bs_length] at this;omega)
      rw [show (s.extract 3 s.size).data.toList=bs (s.extract 3 s.size) from rfl,show (⟨#[125]⟩:ByteArray).data.toList=[125] from rfl] at cc
      clear hp cp
      generalize Lib.cut (bs (s.extract 3 s.size)) [125]=q at *
      obtain ⟨ds,q2,ok⟩:=q
      dsimp only at cc HU hcl
      cases ok with
      | false =>
        have HU2:=Lib.hid (show escS s=([],0) by rw [HSc.out,HU.out];rfl)
        clear HU HSc
        go_wp2_with fail
        refine (cp'.out _).mono ?_
        rintro e w2 ⟨rfl,rfl⟩
        go_wp2_with fail
        refine (cc.out _ hmc.out).mono ?_
        rintro e w2 ⟨rfl,n2,rfl⟩
        go_wp2_with fail
        go_ret2
        rw [HU2.out]
        exact esc_nil _ _ (below_drewN hbc _)
      | true =>
        have cb:=Lib.hid (fun w E=>based_any 16 6 (.inl ⟨rfl,by decide⟩) (ByteArray.mk ds.toArray) (by rw [size_mk];have:=hcl.out;omega) w E)
        rw [show bs (ByteArray.mk ds.toArray)=ds by simp [bs]] at cb
        have hbd:=Lib.hid (show ∀ v,basedS 16 6 ds=some v→v<16777216 from fun v h=>basedS_bd h)
        have HU2:=Lib.hid (show escS s=match basedS 16 6 ds with
          | none=>([],0)
          | some v=>if Lib.validRune v=false then ([],0) else (Lib.encodeRuneZ v,ds.length+4) by rw [HSc.out,HU.out];rfl)
        clear HU HSc
        have hsz:((ByteArray.mk ds.toArray).size:Int)=(ds.length:Int):=by rw [size_mk]
        generalize basedS 16 6 ds=o at *
        have hcl':=hcl.out
        cases o with
        | none =>
          have HU3:=Lib.hid (show escS s=([],0) from HU2.out)
          clear HU2
          unfold optT at cb
          dsimp only [Option.getD_none,Option.isSome_none] at cb
          go_wp2_with fail
          refine (cp'.out _).mono ?_
          rintro e w2 ⟨rfl,rfl⟩
          go_wp2_with fail
          refine (cc.out _ hmc.out).mono ?_
          rintro e w2 ⟨rfl,n2,rfl⟩
          go_wp2_with fail
          refine (cb.out _ (HEc.out.drewN _)).mono ?_
          rintro e w3 ⟨rfl,hb3⟩
          go_wp2_with fail
          go_ret2
          rw [HU3.out]
          exact esc_nil _ _ ((below_drewN hbc n2).trans (hb3.mono (below_drewN hbc n2).size))
        | some v =>
          have hv:v<16777216:=hbd.out v rfl
          unfold optT at cb
          dsimp only [Option.getD_some,Option.isSome_some] at cb
          have cv:=Lib.hid (fun w=>Tryz.utf8_ValidRune (v:Int) w)
          by_cases hok:Lib.validRune v=true
          · have HU3:=Lib.hid (show escS s=(Lib.encodeRuneZ v,ds.length+4) by
              rw [HU2.out];show (if Lib.validRune v=false then _ else _)=_;rw [hok];rfl)
            rw [hok] at cv
            have ca:=Lib.hid (fun w=>Tryz.utf8_AppendRune_plain w.heap.size (.slice none 0 0) 0 [] (v:Int) (by omega) (by omega) w (World.ownsRow_nil _ _ _ _) (by decide) (Nat.le_refl _))
            clear HU2 hok
            go_wp2_with fail
            refine (cp'.out _).mono ?_
            rintro e w2 ⟨rfl,rfl⟩
            go_wp2_with fail
            refine (cc.out _ hmc.out).mono ?_
            rintro e w2 ⟨rfl,n2,rfl⟩
            go_wp2_with fail
            refine (cb.out _ (HEc.out.drewN _)).mono ?_
            rintro e w3 ⟨rfl,hb3⟩
            go_wp2_with fail
            refine (cv.out _).mono ?_
            rintro e w4 ⟨rfl,rfl⟩
            go_wp2_with fail
            refine (ca.out _).mono ?_
            rintro e w5 ⟨v5,rfl,hown5,o5,hg5⟩
            go_wp2_with fail
            go_ret2
            rw [HU3.out]
            refine ⟨v5,?_,?_,below_grown_none ((below_drewN hbc n2).trans (hb3.mono (below_drewN hbc n2).size)) (Nat.le_trans (below_drewN hbc n2).size hb3.size) hg5⟩
            · first|rfl|(simp [size_mk])
            · have h5:=own_base hown5 (Nat.le_trans (below_drewN hbc n2).size hb3.size)
              rw [Nat.zero_add,List.nil_append,show (Lib.runeCells (v:Int)).length=(Lib.encodeRuneZ v).length by simp [Lib.runeCells]] at h5
              exact h5
          · have hok':Lib.validRune v=false:=by simpa using hok
            have HU3:=Lib.hid (show escS s=([],0) by
              rw [HU2.out];show (if Lib.validRune v=false then _ else _)=_;rw [hok'];rfl)
            rw [hok'] at cv
            clear HU2 hok hok'
            go_wp2_with fail
            refine (cp'.out _).mono ?_
            rintro e w2 ⟨rfl,rfl⟩
            go_wp2_with fail
            refine (cc.out _ hmc.out).mono ?_
            rintro e w2 ⟨rfl,n2,rfl⟩
            go_wp2_with fail
            refine (cb.out _ (HEc.out.drewN _)).mono ?_
            rintro e w3 ⟨rfl,hb3⟩
            go_wp2_with fail
            refine (cv.out _).mono ?_
            rintro e w4 ⟨rfl,rfl⟩
            go_wp2_with fail
            go_ret2
            rw [HU3.out]
            exact esc_nil _ _ ((below_drewN hbc n2).trans (hb3.mono (below_drewN hbc n2).size))
    · have cp':=Lib.hid (show ∀ w,Calls Tryz.prog 185 #[.string s, .string ⟨#[92,117,123]⟩] w fun e w'=>e=.returned (.bool false)∧w=w' from fun w=>by
        have:=cp.out w
        rw [show Lib.hasPrefix s.data.toList (⟨#[92,117,123]⟩:ByteArray).data.toList=false by simpa [bs] using hp] at this
        exact this.mono fun _ _ h=>⟨h.1,h.2.symm⟩)
      have HU2:=Lib.hid (show escS s=([],0) by rw [HSc.out];unfold escU;rw [if_pos (by simpa using hp)])
      clear HSc hp cp
      go_wp2_with fail
      refine (cp'.out _).mono ?_
      rintro e w2 ⟨rfl,rfl⟩
      go_wp2_with fail
      go_ret2
      rw [HU2.out]
      exact esc_nil _ _ hbc
theorem get_extract (s:ByteArray)(a j:Nat)(h:a+j<s.size):(s.extract a s.size).get! j=s.get! (a+j):=by
  have h2:j<(s.extract a s.size).size:=by simp [ByteArray.size_extract];omega
  have e1:=get_at (s.extract a s.size) j h2
  have e2:=get_at s (a+j) h
  rw [Nat.add_zero] at e1 e2
  rw [e1,e2]
  have h3:=bs_at (s.extract a s.size) j h2
  have h4:=bs_at s (a+j) h
  rw [bs_from,List.getElem?_drop] at h3
  rw [h3] at h4
  exact Option.some.inj h4
theorem decode_extract (s:ByteArray)(a p:Nat)(ha:a≤s.size)(h:a+p<s.size):Utf8.decode (s.extract a s.size) p=Utf8.decode s (a+p):=by
  have hs:(s.extract a s.size).size=s.size-a:=by simp [ByteArray.size_extract]
  have g:∀ k,a+p+k<s.size→(s.extract a s.size).get! (p+k)=s.get! (a+p+k):=fun k hk=>by
    rw [get_extract s a (p+k) (by omega)];congr 1;omega
  have c:∀ k,(decide (p+k<(s.extract a s.size).size) && (((s.extract a s.size).get! (p+k)).toNat / 64 == 2))=(decide (a+p+k<s.size) && ((s.get! (a+p+k)).toNat / 64 == 2)):=fun k=>by
    by_cases hk:a+p+k<s.size
    · rw [g k hk,decide_eq_true hk,decide_eq_true (by omega)]
    · rw [decide_eq_false hk,decide_eq_false (by omega)];rfl
  unfold Utf8.decode
  simp only [c 1,c 2,c 3,g 0 (by omega)]
  by_cases h1:a+p+1<s.size
  · simp only [g 1 h1]
    by_cases h2:a+p+2<s.size
    · simp only [g 2 h2]
      by_cases h3:a+p+3<s.size
      · simp only [g 3 h3,Nat.add_zero]
      · simp only [decide_eq_false h3,Bool.false_and,Bool.and_false,Bool.false_eq_true,if_false,Nat.add_zero]
    · have h3:¬ a+p+3<s.size:=by omega
      simp only [decide_eq_false h3,decide_eq_false h2,Bool.false_and,Bool.and_false,Bool.false_eq_true,if_false,Nat.add_zero]
  · have h3:¬ a+p+3<s.size:=by omega
    have h2:¬ a+p+2<s.size:=by omega
    simp only [decide_eq_false h3,decide_eq_false h2,decide_eq_false h1,Bool.false_and,Bool.and_false,Bool.false_eq_true,if_false,Nat.add_zero]
theorem width_le (s:ByteArray)(p:Nat)(h:p<s.size):p+(Utf8.decode s p).2≤s.size:=by
  unfold Utf8.decode
  simp only [Bool.and_eq_true,decide_eq_true_eq]
  (repeat' split)<;>simp only []<;>omega
def speakS (s : ByteArray) (lines : Bool) : Nat → Nat → List Int → List Int × Nat × Int
  | 0,i,_=>([],i,32)
  | n + 1, i, said =>
    if i<s.size then
      if (Utf8.decode s i).1=34 then (said,i+1,0)
      else if (Utf8.decode s i).1=92 then
        if (escS (s.extract i s.size)).2=0 then ([],i,34)
        else speakS s lines n (i+(escS (s.extract i s.size)).2) (said++(escS (s.extract i s.size)).1)
      else if (Utf8.decode s i).1=10∧lines=true then ([],i,32)
      else if (Utf8.decode s i).1<32∨(Utf8.decode s i).1=127∨looseS s i (Utf8.decode s i).1=true then ([],i,33)
      else speakS s lines n (i+(Utf8.decode s i).2) (said++Lib.encodeRuneZ (Utf8.decode s i).1)
    else ([],s.size,32)
def SpkPost (w:World)(R:List Int×Nat×Int)(e:Ending)(w':World):Prop:=
  ∃ sv,e=.returned (.tuple #[sv, .int .i64 R.2.1, .int .i64 R.2.2])∧w'.ownsRow w.heap.size 5 1 sv R.1.length (u8s R.1)∧Below w.heap.size w w'
theorem spk_err (w w':World)(i:Nat)(k:Int)(hb:Below w.heap.size w w')(R:List Int×Nat×Int)(h:R=([],i,k)) :
    SpkPost w R (.returned (.tuple #[.slice none 0 0, .int .i64 i, .int .i64 k])) w':=by subst h;exact ⟨_,rfl,World.ownsRow_nil _ _ _ _,hb⟩
theorem escS_le (s : ByteArray) : (escS s).2 ≤ s.size ∧ ((escS s).2 ≠ 0 → 1 ≤ (escS s).1.length ∧ (escS s).1.length ≤ 4) := by
  have hz:∀ r:Int,1≤(Lib.encodeRuneZ r).length∧(Lib.encodeRuneZ r).length≤4:=fun r=>by
    unfold Lib.encodeRuneZ;(repeat' split)<;>simp
  have hU : (escU s).2 ≤ s.size ∧ ((escU s).2 ≠ 0 → 1 ≤ (escU s).1.length ∧ (escU s).1.length ≤ 4) := by
    unfold escU
    by_cases hp:Lib.hasPrefix (bs s) [92,117,123]=false
    · rw [if_pos hp];simp
    · rw [if_neg hp]
      have h3:3≤s.size:=by
        have hp':Lib.hasPrefix (bs s) [92,117,123]=true:=by simpa using hp
        unfold Lib.hasPrefix at hp'
        have:=List.IsPrefix.length_le (List.isPrefixOf_iff_prefix.1 hp')
        rw [bs_length] at this
        exact this
      unfold Lib.cut
      by_cases hi:0≤Lib.index (bs (s.extract 3 s.size)) [125]
      · rw [if_pos hi]
        dsimp only
        rw [if_neg (by simp)]
        have hil:(Lib.index (bs (s.extract 3 s.size)) [125]).toNat+1≤(bs (s.extract 3 s.size)).length:=by
          rw [Lib.index_one] at hi ⊢
          obtain ⟨o,ho⟩:=Int.eq_ofNat_of_zero_le hi
          rw [ho]
          have h1:=(Lib.indexByte_some ho).1
          have h2:=(List.getElem?_eq_some_iff.1 h1).1
          simp;omega
        rw [bs_length,ByteArray.size_extract] at hil
        split
        · simp
        · split
          · simp
          · dsimp only
            rw [List.length_take]
            refine ⟨by omega,fun _=>hz _⟩
      · rw [if_neg hi]
        simp
  unfold escS
  by_cases h2:s.size<2
  · rw [dif_pos h2];simp
  · rw [dif_neg h2]
    (repeat' split)<;>first|exact hU|(simp;done)|(simp;omega)|(rename_i v h;have h4:4≤s.size:=Classical.byContradiction (fun hc=>by rw [if_neg (fun h'=>hc h'.2)] at h;cases h);simp;omega)
def SpkJ (s : ByteArray) (lines : Bool) (w0 : World) (R : List Int × Nat × Int) : Act → World → Prop := fun a' w' =>
  ∃ (p n : Nat) (pz : Int) (said : List Int) (v : Value) (u8 u9 u10 u11 u12 u13 u14 u15 u16 u17 u18 u19 u20 u21 u22 u23 u24 u25 u26 u27 u28 u29 u30 u31 u32 u33 u34 u35 u36 u37 u38 u39 u40 u41 u42 u43 u44 u45 u46 u47 u48 u49 u50 u51 u52 u53 u54 u55 u56 u57 u58 u59 u60 u61 u62 u63 u64 u65 u66 u67 u68 u69 u70 u71 u72 u73 : Value),
    a'={ tmps:=#[.string s, .bool lines,undef,undef,v, .int .i64 0, .int .i64 0, .int .i64 pz,u8,u9,u10,u11,u12,u13,u14,u15,u16,u17,u18,u19,u20,u21,u22,u23,u24,u25,u26,u27,u28,u29,u30,u31,u32,u33,u34,u35,u36,u37,u38,u39,u40,u41,u42,u43,u44,u45,u46,u47,u48,u49,u50,u51,u52,u53,u54,u55,u56,u57,u58,u59,u60,u61,u62,u63,u64,u65,u66,u67,u68,u69,u70,u71,u72,u73],defers:=[] } ∧
    pz=(p:Int)∧p≤s.size∧s.size-p<n∧said.length≤4*p∧Hid (R=speakS s lines n p said)∧Hid (w'.ownsRow w0.heap.size 5 1 v said.length (u8s said))∧Below w0.heap.size w0 w'
theorem wp_scope_again {P:Program}{a:Act}{w:World}{Q:Exit→Act→World→Prop}{c y:Code}(l:Nat)(J:Act→World→Prop)(μ : Act→World→Nat)(hf:findLabel c l=some (Code.seq .skip y))
    (pass:∀ a w,J a w→y.wp P (Exit.jump l (fun a' w'=>J a' w'∧μ a' w' < μ a w) Q) a w)
    (first:(∀ a w,J a w→y.wp P (Exit.jump l J Q) a w)→c.wp P (Exit.jump l J Q) a w):(Code.scope c).wp P Q a w:=
  wp_scope_jumps l J μ hf (first fun a w hJ=>Code.wp_mono (fun e a' w' h=>by
    cases e<;>first|exact h|exact ⟨h.1,h.2.1⟩) (pass a w hJ)) fun a w hJ=>wp_seq (wp_skip (pass a w hJ))
def Exit.jumps (J:Nat→Act→World→Prop)(Q:Exit→Act→World→Prop):Exit→Act→World→Prop
  | .goto l,a,w=>J l a w
  | e,a,w=>Q e a w
theorem wp_scope_many {P : Program} {a : Act} {w : World} {Q : Exit → Act → World → Prop} {c : Code} (J : Nat → Act → World → Prop) (μ : Nat → Act → World → Nat)
    (pass:∀ l a w,J l a w→∃ rest,findLabel c l=some rest∧rest.wp P (Exit.jumps (fun l' a' w'=>J l' a' w'∧μ l' a' w' < μ l a w) Q) a w)
    (first:c.wp P (Exit.jumps J Q) a w):(Code.scope c).wp P Q a w:=by
  intro b k cs
  have key:∀ n l a w,μ l a w=n→J l a w→∀ rest,findLabel c l=some rest→∃ e a' w',Q e a' w'∧Arrives P (lone (b.at a (.code rest::.inScope c::k)) cs w) b k cs e a' w':=by
    intro n
    induction n using Nat.strongRecOn with
    | _ n ih =>
      intro l a w hn hJ rest hr
      obtain ⟨rest',hr',hp⟩:=pass l a w hJ
      rw [hr] at hr'
      cases hr'
      obtain ⟨e,a₁,w₁,hq,harr⟩:=hp b (.inScope c::k) cs
      cases e with
      | normal=>exact ⟨.normal,a₁,w₁,hq,Steps.trans harr (.one step_inScope)⟩
      | exit id=>exact ⟨.exit id,a₁,w₁,hq,fun k' hk=>harr k' (by simp [exitTo,hk])⟩
      | goto l' =>
        obtain ⟨hJ',hlt⟩:=hq
        obtain ⟨rest₂,hr₂,_⟩:=pass l' a₁ w₁ hJ'
        obtain ⟨e₂,a₂,w₂,hq₂,harr₂⟩:=ih _ (by omega) l' a₁ w₁ rfl hJ' rest₂ hr₂
        exact ⟨e₂,a₂,w₂,hq₂, .of_steps (harr _ (by simp [gotoIn,hr₂])) harr₂⟩
      | ret=>exact ⟨_,a₁,w₁,hq,harr⟩
      | panic ch=>exact ⟨_,a₁,w₁,hq,harr⟩
      | outgrown=>exact ⟨_,a₁,w₁,hq,harr⟩
  obtain ⟨e,a₁,w₁,hq,harr⟩:=first b (.inScope c::k) cs
  cases e with
  | normal=>exact ⟨.normal,a₁,w₁,hq, .head step_scope (Steps.trans harr (.one step_inScope))⟩
  | exit id=>exact ⟨.exit id,a₁,w₁,hq,fun k' hk=>.head step_scope (harr k' (by simp [exitTo,hk]))⟩
  | goto l' =>
    obtain ⟨rest₂,hr₂,_⟩:=pass l' a₁ w₁ hq
    obtain ⟨e₂,a₂,w₂,hq₂,harr₂⟩:=key _ l' a₁ w₁ rfl hq rest₂ hr₂
    exact ⟨e₂,a₂,w₂,hq₂, .of_steps (.head step_scope (harr _ (by simp [gotoIn,hr₂]))) harr₂⟩
  | ret=>exact ⟨_,a₁,w₁,hq, .of_steps (.one step_scope) harr⟩
  | panic ch=>exact ⟨_,a₁,w₁,hq, .of_steps (.one step_scope) harr⟩
  | outgrown=>exact ⟨_,a₁,w₁,hq, .of_steps (.one step_scope) harr⟩
theorem wp_scope_many2 {P:Program}{a:Act}{w:World}{Q:Exit→Act→World→Prop}{c:Code}(J:Nat→Act→World→Prop)(μ : Nat→Act→World→Nat)
    (pass:∀ l a w,J l a w→∃ y,findLabel c l=some (Code.seq .skip y)∧y.wp P (Exit.jumps (fun l' a' w'=>J l' a' w'∧μ l' a' w' < μ l a w) Q) a w)
    (first:(∀ l a w,J l a w→∃ y,findLabel c l=some (Code.seq .skip y)∧y.wp P (Exit.jumps J Q) a w)→c.wp P (Exit.jumps J Q) a w):(Code.scope c).wp P Q a w:=
  wp_scope_many J μ (fun l a w h=>let ⟨y,hy,hw⟩:=pass l a w h;⟨_,hy,wp_seq (wp_skip hw)⟩) (first fun l a w h=>let ⟨y,hy,hw⟩:=pass l a w h;⟨y,hy,Code.wp_mono (fun e a' w' h'=>by
    cases e<;>first|exact h'|exact h'.1) hw⟩)
theorem wp_label_then {P:Program}{a:Act}{w:World}{Q:Exit→Act→World→Prop}{l:Nat}{y:Code}(h:y.wp P Q a w):(Code.seq (.label l) y).wp P Q a w:=
  wp_seq (wp_label h)
theorem heap_iterAt_ne {w:World}{s:ByteArray}{p k:Nat}{g:Nat}(h:g≠k):(w.iterAt k s p).heap[g]?=w.heap[g]?:=by
  show (w.heap.setIfInBounds k _)[g]?=_
  rw [Array.getElem?_setIfInBounds,if_neg (Ne.symm h)]
theorem own_heap {w w':World}{base:Nat}{e:TypeId}{size n:Nat}{v:Value}{xs:List Value}(h:w.ownsRow base e size v n xs)(hk:∀ g,v.ownBlock=some g→w'.heap[g]?=w.heap[g]?):w'.ownsRow base e size v n xs:=by
  obtain ⟨h1,h2⟩:=h
  refine ⟨h1,?_⟩
  rcases h2 with h2|⟨g,cap,cur,rfl,hg,hh,r⟩
  · exact .inl h2
  · exact .inr ⟨g,cap,cur,rfl,hg,(hk g rfl).trans hh,r⟩
theorem u8_info:(Tryz.prog.info? 5).map (fun i=>(i.zero,i.size,i.bytes))=some (some (.int .u8 0),1,1):=by kernel_rfl
theorem u8s_one (l:List Int):∀ u∈u8s l,u.oneCell'=true:=by
  intro u hu
  obtain ⟨x,_,rfl⟩:=List.mem_map.1 hu
  rfl
theorem own_below {w w':World}{base:Nat}{e:TypeId}{size n:Nat}{v:Value}{xs:List Value}(h:w.ownsRow base e size v n xs)(hb:Below w.heap.size w w'):w'.ownsRow base e size v n xs:=
  own_heap h fun g hg=>hb.block g (h.lt g hg).2
theorem own_not_iter {w:World}{base:Nat}{e:TypeId}{size n:Nat}{v:Value}{xs:List Value}(h:w.ownsRow base e size v n xs){k p:Nat}{s:ByteArray}(hi:w.heap[k]?=some (.stringIter s p)):∀ g,v.ownBlock=some g→g≠k:=by
  intro g hg
  rcases h.2 with ⟨rfl,_⟩|⟨g',cap,cur,rfl,_,hh,_⟩
  · simp [Value.ownBlock] at hg
  · simp [Value.ownBlock] at hg
    subst hg
    rintro rfl
    rw [hi] at hh;cases hh
set_option maxHeartbeats 4000000 in
set_option maxRecDepth 100000 in
theorem speak_any (s : ByteArray) (lines : Bool) (h1 : 1 ≤ s.size) (hs : s.size < 4294967281) (w : World) (E : Env w) :
    Calls Tryz.prog 246 #[.string s, .bool lines] w fun e w'=>SpkPost w (speakS s lines (s.size+1) 1 []) e w':=by
  have HE:=Lib.hid E
  clear E
  obtain ⟨R,hR0⟩:∃ R,R=speakS s lines (s.size+1) 1 []:=⟨_,rfl⟩
  rw [← hR0]
  have HR0:=Lib.hid hR0
  clear hR0
  go_enter Tryz.func246,Tryz.ntmps246
  go_wp2_with fail
  refine wp_scope_again 0 (SpkJ s lines w R) (fun a _=>s.size-(intOf (a.tmps.getD 7 undef)).toNat) rfl ?_ ?_
  · rintro a' w' ⟨p, n, _, said, v, u8, u9, u10, u11, u12, u13, u14, u15, u16, u17, u18, u19, u20, u21, u22, u23, u24, u25, u26, u27, u28, u29, u30, u31, u32, u33, u34, u35, u36, u37, u38, u39, u40, u41, u42, u43, u44, u45, u46, u47, u48, u49, u50, u51, u52, u53, u54, u55, u56, u57, u58, u59, u60, u61, u62, u63, u64, u65, u66, u67, u68, u69, u70, u71, u72, u73, rfl, rfl, hp, hn, hl, hR, hO, hb⟩
    have hp1:(p:Int)≤(s.size:Int):=by omega
    go_wp2_with fail
    obtain ⟨q,hq⟩:∃ q,q=s.extract p s.size:=⟨_,rfl⟩
    have hqs:q.size=s.size-p:=by rw [hq,ByteArray.size_extract];omega
    have hdec:=Lib.hid (show ∀ j,j<q.size→Utf8.decode q j=Utf8.decode s (j+p) from fun j hj=>by
      rw [hq,decode_extract s p j hp (by omega),Nat.add_comm])
    rw [← hq]
    clear hq
    obtain ⟨Bi,hBi⟩:∃ Bi,Bi=w'.heap.size:=⟨_,rfl⟩
    have hBw:w.heap.size≤Bi:=by rw [hBi];exact hb.size
    have hit0:=Lib.hid (World.iter_heap w' q 0)
    have hb0:Below w.heap.size w (w'.iter q 0):=hb.alloc hb.size _
    have hO0:Hid ((w'.iter q 0).ownsRow w.heap.size 5 1 v said.length (u8s said)):=Lib.hid (hO.out.alloc _)
    rw [← hBi] at hit0 ⊢
    obtain ⟨wi,hwi⟩:∃ wi,wi=w'.iter q 0:=⟨_,rfl⟩
    rw [← hwi] at hit0 hb0 hO0 ⊢
    clear hwi hBi hO hb
    go_loopw [4,5,6,7] (fun vs v5 v6 v7 wr=>∃ (j m:Nat) (sd:List Int),v5=.int .i64 0∧v6=.int .i64 0∧v7=.int .i64 p∧j≤q.size∧wr.heap[Bi]?=some (.stringIter q j)∧s.size-(j+p)<m∧sd.length≤4*(j+p)∧Hid (R=speakS s lines m (j+p) sd)∧Hid (wr.ownsRow w.heap.size 5 1 vs sd.length (u8s sd))∧Below w.heap.size w wr) (fun _ _ _ _ wr=>q.size-wr.iterPos Bi)
    case atStart=>exact ⟨0,n,said,rfl,rfl,rfl,by omega,hit0.out,by omega,by omega,by rw [Nat.zero_add];exact hR,hO0,hb0⟩
    case round=>
      obtain ⟨j,m,sd,rfl,rfl,rfl,hj,hit,hm,hsl,hr,ho,hbr⟩:=hrel
      obtain ⟨m,rfl⟩:∃ k,m=k+1:=⟨m-1,by omega⟩
      clear hR hO0 hb0 hit0
      by_cases hlt:j<q.size
      · have hnx := fun ty => Lib.run_next_any_at (P := Tryz.prog) wr Bi q j ty hit hlt
        have hwd:=width_pos q j hlt
        have hwl:=width_le q j hlt
        have hcle:=decode_le q j
        have HU:=Lib.hid (hr.out.trans (show speakS s lines (m+1) (j+p) sd=_ by rw [speakS,if_pos (show j+p<s.size by omega)]))
        rw [← hdec.out j hlt] at HU
        have hlo:=Lib.hid (fun c w E=>loose_any s (j+p) c (by omega) w E)
        have hit2:=Lib.hid (Lib.iterAt_heap wr Bi q j (j+(Utf8.decode q j).2) hit)
        have ho2:Hid ((wr.iterAt Bi q (j+(Utf8.decode q j).2)).ownsRow w.heap.size 5 1 u4 sd.length (u8s sd)):=Lib.hid (own_heap ho.out (fun g hg=>heap_iterAt_ne (own_not_iter ho.out hit g hg)))
        have hb2:Below w.heap.size w (wr.iterAt Bi q (j+(Utf8.decode q j).2)):=hbr.trans ⟨rfl,rfl,rfl,by simp [World.iterAt],fun i hi=>heap_iterAt_ne (by omega)⟩
        have hpos:=Lib.hid (show wr.iterPos Bi=j by simp [World.iterPos,hit])
        obtain ⟨W2,hW2⟩:∃ W2,W2=wr.iterAt Bi q (j+(Utf8.decode q j).2):=⟨_,rfl⟩
        rw [← hW2] at hnx hit2 ho2 hb2
        have HE2:=Lib.hid (HE.out.below hb2)
        clear hW2 hr ho hit hbr
        generalize Utf8.decode q j=cw at *
        obtain ⟨c,wd⟩:=cw
        dsimp only at *
        by_cases h34:c=34
        · have H:=Lib.hid (HU.out.trans (if_pos h34))
          subst h34
          clear HU
          go_wp2_with fail
          (try simp only [Exit.jump])
          go_ret3
          exact ⟨u4,by rw [H.out];first|rfl|(simp;done)|(simp;omega),by rw [H.out];exact ho2.out,hb2⟩
        have b34:((c:Int) == 34)=false:=by simp;omega
        have HU:=Lib.hid (HU.out.trans (if_neg h34))
        by_cases h92:c=92
        · have HU:=Lib.hid (HU.out.trans (if_pos h92))
          subst h92
          have ce:=Lib.hid (fun w E=>escape_any (s.extract (j+p) s.size) (by have:=size_extract_le s (j+p) s.size;omega) w E)
          have hel:=Lib.hid (escS_le (s.extract (j+p) s.size))
          have hes:(s.extract (j+p) s.size).size=s.size-(j+p):=by rw [ByteArray.size_extract];omega
          rw [hes] at hel
          generalize escS (s.extract (j+p) s.size)=es at *
          obtain ⟨eb,ek⟩:=es
          dsimp only at HU hel
          clear hes
          go_wp2_with fail
          refine (ce.out _ HE2.out).mono ?_
          rintro e w3 ⟨sv,rfl,hso,hb3⟩
          dsimp only at hso
          by_cases hk0:ek=0
          · have H:=Lib.hid (HU.out.trans (if_pos hk0))
            subst hk0
            clear HU
            go_wp2_with fail
            (try simp only [Exit.jump])
            go_ret3
            exact spk_err _ _ _ _ (hb2.trans (hb3.mono hb2.size)) _ H.out
          · have H:=Lib.hid (HU.out.trans (if_neg hk0))
            have bk0:((ek:Int) == 0)=false:=by simp;omega
            clear HU
            obtain ⟨g,capg,rfl,hgb,hgl⟩:=hso.form (by have:=hel.out.2 hk0;omega)
            have ho3:=Lib.hid (own_below ho2.out hb3)
            have hsoc:=Lib.hid (hso.cells (g:=g) rfl)
            have hb3':=hb2.trans (hb3.mono hb2.size)
            have hbase:=Lib.hid (ho2.out.lt)
            obtain ⟨i0,hi,hz0,hz1,hz2⟩:=info_parts u8_info
            have hi:=Lib.hid hi;have hz0:=Lib.hid hz0;have hz1:=Lib.hid hz1;have hz2:=Lib.hid hz2
            have hso:=Lib.hid hso
            have hle1:=hel.out.1
            have hle2:=hel.out.2 hk0
            go_wp2_with (at_builtin;refine wpList_append_own _ rfl (.tmp 42) (.tmp 43) _ rfl w.heap.size 5 i0 _ 1 1 Tryz.underlying132 hi.out hz0.out hz1.out hz2.out rfl (by decide) u4 sd.length (u8s sd) rfl ho3.out ⟨g,0,none⟩ eb.length capg (u8s eb) rfl (by simp [u8s]) hsoc.out (u8s_one _) (by unfold maxLen;omega) (by omega) hb3'.size ?_;intro v4 w4 hown4 hg4 _)
            go_step3
            refine ⟨rfl,⟨j+p+ek,m,_,sd++eb,v4,_,_,_,_,_,_,_,_,_,_,_,_,_,_,_,_,_,_,_,_,_,_,_,_,_,_,_,_,_,_,_,_,_,_,_,_,_,_,_,_,_,_,_,_,_,_,_,_,_,_,_,_,_,_,_,_,_,_,_,_,_,_,_,_,_,_,rfl,by omega,by omega,by omega,by rw [List.length_append];omega,H,Lib.hid ?_,hb3'.grown hg4 hb3'.size (fun k hk=>(hbase.out k hk).1)⟩,?_⟩
            · rw [List.length_append,show u8s (sd++eb)=u8s sd++u8s eb from List.map_append];exact hown4
            · simp [intOf];omega
        · have b92:((c:Int) == 92)=false:=by simp;omega
          have HU:=Lib.hid (HU.out.trans (if_neg h92))
          have hc2:c≤2147483647:=hcle
          by_cases h10:c=10∧lines=true
          · have H:=Lib.hid (HU.out.trans (if_pos h10))
            obtain ⟨rfl,rfl⟩:=h10
            clear HU
            go_wp2_with fail
            (try simp only [Exit.jump])
            go_ret3
            exact spk_err _ _ _ _ hb2 _ H.out
          · have HU := Lib.hid (HU.out.trans (if_neg h10))
            by_cases hlo1:c<32∨c=127
            · have H:=Lib.hid (HU.out.trans (if_pos (by rcases hlo1 with h|h;exact .inl h;exact .inr (.inl h))))
              clear HU
              by_cases h10':c=10
              · subst h10'
                have hl0:lines=false:=by simpa using h10
                subst hl0
                go_wp2_with fail
                (try simp only [Exit.jump])
                go_ret3
                exact spk_err _ _ _ _ hb2 _ H.out
              · have b10:((c:Int) == 10)=false:=by simp;omega
                rcases hlo1 with h|h
                · go_wp2_with fail
                  (try simp only [Exit.jump])
                  go_ret3
                  exact spk_err _ _ _ _ hb2 _ H.out
                · subst h
                  go_wp2_with fail
                  (try simp only [Exit.jump])
                  go_ret3
                  exact spk_err _ _ _ _ hb2 _ H.out
            · have b10:((c:Int) == 10)=false:=by simp;omega
              have b127:((c:Int) == 127)=false:=by simp;omega
              have b32:(32:Int)≤c:=by omega
              have hl2:=Lib.hid (hlo.out c W2 HE2.out)
              have HU2:=Lib.hid (show R=if looseS s (j+p) c=true then ([],j+p,33) else speakS s lines m (j+p+wd) (sd++Lib.encodeRuneZ c) by
                rw [HU.out]
                by_cases hq:looseS s (j+p) c=true
                · rw [if_pos (.inr (.inr hq)),if_pos hq]
                · rw [if_neg (by rintro (h|h|h);exact hlo1 (.inl h);exact hlo1 (.inr h);exact hq h),if_neg hq])
              clear HU hlo
              generalize looseS s (j+p) c=L at *
              go_wp2_with fail
              refine hl2.out.mono ?_
              rintro e w3 ⟨rfl,hb3⟩
              have hb3':=hb2.trans (hb3.mono hb2.size)
              cases L with
              | true =>
                go_wp2_with fail
                (try simp only [Exit.jump])
                go_ret3
                exact spk_err _ _ _ _ hb3' _ HU2.out
              | false =>
                have H:=Lib.hid (show R=speakS s lines m (j+p+wd) (sd++Lib.encodeRuneZ c) from HU2.out)
                have ho3:=Lib.hid (own_below ho2.out hb3)
                have hit3:=Lib.hid ((hb3.block Bi (Array.getElem?_eq_some_iff.1 hit2.out).1).trans hit2.out)
                have hbase:=Lib.hid (ho2.out.lt)
                have hnit:=Lib.hid (own_not_iter ho3.out hit3.out)
                have ca:=Lib.hid (Tryz.utf8_AppendRune_plain w.heap.size u4 sd.length (u8s sd) (c:Int) (by omega) (by omega) w3 ho3.out (by omega) hb3'.size)
                have hrl:=Lib.hid (show (Lib.encodeRuneZ (c:Int)).length≤4 by unfold Lib.encodeRuneZ;(repeat' split)<;>simp)
                clear HU2 hl2
                go_wp2_with fail
                refine ca.out.mono ?_
                rintro e w4 ⟨v4,rfl,hown4,o4,hg4⟩
                go_wp2_with fail
                have hrl':=hrl.out
                go_roundw
                case rel=>
                  refine ⟨j+wd,m,sd++Lib.encodeRuneZ c,rfl,rfl,rfl,hwl,?_,by omega,by rw [List.length_append];omega,Lib.hid (by rw [H.out];congr 1;omega),Lib.hid ?_,?_⟩
                  · have hlt3:=(Array.getElem?_eq_some_iff.1 hit3.out).1
                    rw [hg4.block Bi (by simp;omega) (fun e=>hnit.out Bi e.symm rfl),Below.heap_alloc _ _ _ hlt3]
                    exact hit3.out
                  · rw [List.length_append,show u8s (sd++Lib.encodeRuneZ (c:Int))=u8s sd++Lib.runeCells (c:Int) from List.map_append]
                    rw [show (Lib.runeCells (c:Int)).length=(Lib.encodeRuneZ (c:Int)).length by simp [Lib.runeCells]] at hown4
                    exact hown4
                  · exact (hb3'.alloc hb3'.size o4).grown hg4 (by simp;have:=hb3'.size;omega) (fun k hk=>(hbase.out k hk).1)
                case measure=>
                  rw [hpos.out]
                  have hlt3:=(Array.getElem?_eq_some_iff.1 hit3.out).1
                  have:w4.iterPos Bi=j+wd:=by
                    unfold World.iterPos
                    rw [hg4.block Bi (by simp;omega) (fun e=>hnit.out Bi e.symm rfl),Below.heap_alloc _ _ _ hlt3,hit3.out]
                  first|(rw [this];omega)|(simp only [this];omega)
      · have hnx:=fun ty=>Lib.run_next_end_at (P:=Tryz.prog) wr Bi q j ty hit hlt
        have H:=Lib.hid (hr.out.trans (show speakS s lines (m+1) (j+p) sd=([],s.size,32) by rw [speakS,if_neg (by omega)]))
        clear hr ho hit
        go_wp2_with fail
        (try simp only [Exit.jump])
        go_ret3
        exact spk_err _ _ _ _ hbr _ H.out
  · intro hp
    refine wp_seq ?_
    go_step
    go_step
    go_step
    go_step
    go_step
    refine wp_label_then (hp _ _ ?_)
    exact ⟨1,s.size+1,_,[],_,_,_,_,_,_,_,_,_,_,_,_,_,_,_,_,_,_,_,_,_,_,_,_,_,_,_,_,_,_,_,_,_,_,_,_,_,_,_,_,_,_,_,_,_,_,_,_,_,_,_,_,_,_,_,_,_,_,_,_,_,_,_,_,_,_,_,rfl,rfl,h1,by omega,by simp,HR0,Lib.hid (World.ownsRow_nil _ _ _ _),Below.refl _ _⟩
end Go.Proofs.YtdhehcobnbcmdaaGreatDoor
