/- A part of the proof of DeltaLines: Exp3. -/
import Derived.Test.YtdhehcobnbcmdaaGreatDoorPE1
import Derived.Test.YtdhehcobnbcmdaaGreatDoorPF5
import Derived.Handy
set_option linter.all false
namespace Go.Proofs.YtdhehcobnbcmdaaGreatDoor
open Go.RowKit
def okNode (f:List FieldS)(n:NodeS):Bool:=!decide (n.kind=3) || okT f n.test
theorem okE_some {f:List FieldS}{l:List NodeS}{t:Tree}(h:buildS l=some t):okE f l=(okF f && decide (l.length≤64) && decide (t.nest≤32) && l.all (okNode f)):=by
  unfold okE;rw [h];rfl
theorem okE_none {f:List FieldS}{l:List NodeS}(h:buildS l=none):okE f l=false:=by unfold okE;rw [h]
theorem okE_noF {f:List FieldS}{l:List NodeS}(h:okF f=false):okE f l=false:=by unfold okE;split<;>simp [h]
theorem okE_long {f:List FieldS}{l:List NodeS}(h:64<l.length):okE f l=false:=by
  unfold okE;split
  · simp;omega
  · rfl
set_option maxHeartbeats 8000000 in
set_option maxRecDepth 100000 in
theorem x_check (f : List FieldS) (l : List NodeS) (vf v : Value) (B : Nat) (w : World) (hf : Fields w B vf f) (hl : Nodes w B v l) (hB : B ≤ w.heap.size) (E : Env w) :
    Calls Tryz.prog 99 #[vf,v] w (CubesPost (okE f l) w):=by
  obtain ⟨A,cap,rfl,hcl,hcap⟩:=SlOf.form hl
  have cF:=Lib.hid (f_Check f vf B w hf hB)
  replace hl:=Lib.hid hl
  replace hf:=Lib.hid hf
  replace E:=Lib.hid E
  cases hof:okF f
  · have hR:=Lib.hid (okE_noF (l:=l) hof)
    go_enter Tryz.func99,Tryz.ntmps99
    go_wp2_with (go_at_call 54;refine cF.out.mono ?_;rintro e w2 ⟨⟨k,a,rfl,hk⟩,hb2⟩;rw [hof,if_neg (by simp)] at hk;obtain ⟨hk,_⟩:=hk;have hk1:(k != 0)=true:=(by simp [hk]);have hb3:=Lib.hid hb2;replace hk:=Lib.hid hk;clear hb2)
    go_ret2
    exact cubes_bad hR.out hk.out hb3.out
  by_cases hlen:64<l.length
  · have hR:=Lib.hid (okE_long (f:=f) hlen)
    go_enter Tryz.func99,Tryz.ntmps99
    go_wp2_with (go_at_call 54;refine cF.out.mono ?_;rintro e w2 ⟨⟨k,a,rfl,hk⟩,hb2⟩;rw [hof,if_pos rfl] at hk;subst hk;have hb3:=Lib.hid hb2;clear hb2)
    go_ret2
    exact cubes_bad hR.out (by decide) hb3.out
  have cB:=Lib.hid fun w' (hb:Below w.heap.size w w')=>x_build l _ w.heap.size w' (Nodes.below hl.out hb hB) hb.size (by omega)
  cases hbt:buildS l with
  | none =>
    have hR:=Lib.hid (okE_none (f:=f) hbt)
    rw [hbt] at cB
    clear hbt
    go_enter Tryz.func99,Tryz.ntmps99
    go_wp2_with (first
      | (go_at_call 54;refine cF.out.mono ?_;rintro e w2 ⟨⟨k,a,rfl,hk⟩,hb2⟩;rw [hof,if_pos rfl] at hk;subst hk;have hb3:=Lib.hid hb2;have cB2:=Lib.hid (cB.out _ hb2);clear hb2)
      | (go_at_call 131;refine cB2.out.mono ?_;rintro e w3 ⟨⟨tv,b,rfl,rfl,_⟩,hb4⟩;simp only [Option.isSome_none];have hb5:=Lib.hid (hb3.out.trans (hb4.mono hb3.out.size));clear hb4))
    go_ret2
    exact cubes_bad hR.out (by decide) hb5.out
  | some t =>
    have hsz:=buildS_sz hbt
    have hns:=t.nest_sz
    have hR:Hid (okE f l=(decide (t.nest≤32) && l.all (okNode f))):=Lib.hid (by rw [okE_some hbt,hof,decide_eq_true (show l.length≤64 by omega)];simp)
    have cN:=Lib.hid (nest_is t (by omega))
    obtain ⟨T,x,hT,hm,hn,hq⟩:=me_nest t
    replace cN:=Lib.hid fun w'=>cN.out x w' ⟨T,hT⟩
    have hnl:t.nest≤1000:=by omega
    rw [hbt] at cB
    replace hT:=Lib.hid hT
    clear hbt hsz hns
    generalize nestF t=F at *
    generalize t.nest=n at *
    generalize hO:okE f l=O at *
    by_cases hn32:32<n
    · have hF:O=false:=by rw [hR.out,decide_eq_false (by omega)];rfl
      clear hR
      go_enter Tryz.func99,Tryz.ntmps99
      go_wp2_with (first
        | (go_at_call 54;refine cF.out.mono ?_;rintro e w2 ⟨⟨k,a,rfl,hk⟩,hb2⟩;rw [hof,if_pos rfl] at hk;subst hk;have hb3:=Lib.hid hb2;have cB2:=Lib.hid (cB.out _ hb2);clear hb2)
        | (go_at_call 131;refine cB2.out.mono ?_;rintro e w3 ⟨⟨tv,b,rfl,rfl,htv⟩,hb4⟩;obtain rfl:tv=.iface T x:=(htv t rfl).trans hT.out;simp only [Option.isSome_some];have hb5:=Lib.hid (hb3.out.trans (hb4.mono hb3.out.size));clear hb4 htv cB2)
        | ((with_reducible refine (cN.out _).mono ?_);rintro e w4 ⟨rfl,hb6⟩;have hb7:=Lib.hid (hb5.out.trans (hb6.mono hb5.out.size));clear hb6))
      go_ret2
      exact cubes_bad hF (by decide) hb7.out
    replace hR:Hid (O=(l.drop 0).all (okNode f)):=Lib.hid (by rw [hR.out,decide_eq_true (by omega)];simp)
    go_enter Tryz.func99,Tryz.ntmps99
    go_wp2_with (first
      | (go_at_call 54;refine cF.out.mono ?_;rintro e w2 ⟨⟨k,a,rfl,hk⟩,hb2⟩;rw [hof,if_pos rfl] at hk;subst hk;have hb3:=Lib.hid hb2;have cB2:=Lib.hid (cB.out _ hb2);clear hb2)
      | (go_at_call 131;refine cB2.out.mono ?_;rintro e w3 ⟨⟨tv,b,rfl,rfl,htv⟩,hb4⟩;obtain rfl:tv=.iface T x:=(htv t rfl).trans hT.out;simp only [Option.isSome_some];have hb5:=Lib.hid (hb3.out.trans (hb4.mono hb3.out.size));clear hb4 htv cB2)
      | ((with_reducible refine (cN.out _).mono ?_);rintro e w4 ⟨rfl,hb6⟩;have hb7:=Lib.hid (hb5.out.trans (hb6.mono hb5.out.size));clear hb6))
    clear hb5 hb3 cF cB cN hm hn hq
    have hb0:=hb7
    clear hb7
    go_loopw [37] (fun i wr=>∃ k:Nat,k≤l.length∧i=.int .i64 k∧Hid (O=(l.drop k).all (okNode f))∧Hid (Below w.heap.size w wr)) (fun i _=>l.length-(intOf i).toNat)
    case atStart=>exact ⟨0,Nat.zero_le _,rfl,hR,hb0⟩
    case round=>
      obtain ⟨k,hk,rfl,hRk,hbw⟩:=hrel
      clear hR hb0
      by_cases hlt:k<l.length
      · have hN:=Nodes.below hl.out hbw.out hB
        obtain ⟨b,off,rfl⟩:=SlOf.addr hN (by omega)
        obtain ⟨hb,y,hy,hy1,hy2,e0,e1,e2,e3,e4,e5,e6,e7⟩:=nodes_el hN hlt
        have HS:Hid (O=(okNode f y && (l.drop (k+1)).all (okNode f))):=Lib.hid (by rw [hRk.out,drop_at hy,List.all_cons])
        have hFw:=Lib.hid (Fields.below hf.out hbw.out hB)
        clear hRk hN hy
        obtain ⟨kd,⟨tf,op,fm,lo,hi,ln,pt⟩⟩:=y
        simp only at hy1 hy2 e0 e1 e2 e3 e4 e5 e6 e7
        have hzw:=hbw.out.size
        have hbA:=Lib.hid fun o=>hbw.out.alloc hzw o
        have hEw:=Lib.hid (E.out.below hbw.out)
        go_upto_region 13 with fail
        go_cut [11] (fun u wx=>u=.pointer (some ⟨wr.heap.size,0,none⟩)∧Hid (wx.heap[wr.heap.size]?=some (.cells #[.int .i64 kd, .string tf, .int .i64 op, .int .i64 fm, .int .i64 lo, .int .i64 hi, .int .i64 ln, .string pt] 47 (0,0)))∧Hid (Below w.heap.size w wx))
        case first=>
          go_wp2_with fail
          go_meet
          exact ⟨rfl,Lib.hid (heap_alloc_new wr _),hbA.out _⟩
        case rest=>
        obtain ⟨rfl,hX,hbW⟩:=hcut
        clear hbA e0 e1 e2 e3 e4 e5 e6 e7 hFw hEw
        have n0:wc.cell? ⟨wr.heap.size,0,none⟩=some (.int .i64 kd):=by rw [cell_of_row wc _ _ _ _ _ hX.out];rfl
        obtain ⟨n1,n2,n3,n4,n5,n6,n7⟩:=cellsT hX.out
        have cC:=Lib.hid (f_Cubes f vf ⟨tf,op,fm,lo,hi,ln,pt⟩ w.heap.size wc (Fields.below hf.out hbW.out hB) hbW.out.size (E.out.below hbW.out) hy2 hy1)
        clear hX
        by_cases h3:kd=3
        · subst h3
          simp only [okNode,decide_true,Bool.not_true,Bool.false_or] at HS
          rw [hof,Bool.true_and] at cC
          cases hot:okT f ⟨tf,op,fm,lo,hi,ln,pt⟩
          · rw [hot] at cC HS
            go_wp2_with (go_at_call 132;refine cC.out.mono ?_;rintro e w5 ⟨⟨vc,kc,rfl,hkc⟩,hb8⟩;have hkc2:kc≠0:=(by simpa using hkc);have hkc1:(kc != 0)=true:=(by simp [hkc2]);have hkc3:=Lib.hid hkc2;have hb9:=Lib.hid (hbW.out.trans (hb8.mono hbW.out.size));clear hb8 hkc hkc2)
            go_ret2
            exact cubes_bad (by rw [HS.out];rfl) hkc3.out hb9.out
          · rw [hot] at cC HS
            go_wp2_with (go_at_call 132;refine cC.out.mono ?_;rintro e w5 ⟨⟨vc,kc,rfl,hkc⟩,hb8⟩;obtain rfl:kc=0:=(by simpa using hkc);have hb9:=Lib.hid (hbW.out.trans (hb8.mono hbW.out.size));clear hb8 hkc)
            go_roundw
            case rel=>exact ⟨k+1,by omega,by go_num,Lib.hid (by rw [HS.out,Bool.true_and]),hb9⟩
            case measure=>simp [intOf];omega
        · have h3':(kd != 3)=true:=by simp [h3]
          have HS2:Hid (O=(l.drop (k+1)).all (okNode f)):=Lib.hid (by rw [HS.out];simp [okNode,h3])
          clear HS cC
          go_wp2_with fail
          go_roundw
          case rel=>exact ⟨k+1,by omega,by go_num,HS2,hbW⟩
          case measure=>simp [intOf];omega
      · have hOt:O=true:=by rw [hRk.out,List.drop_of_length_le (by omega)];rfl
        clear hRk
        go_wp2_with fail
        go_ret2
        exact ⟨⟨_,_,rfl,by rw [hOt];simp⟩,hbw.out⟩
theorem x_Check (f:List FieldS)(l:List NodeS)(vf v:Value)(B:Nat)(w:World)(hf:Fields w B vf f)(hl:Nodes w B v l)(hB:B≤w.heap.size)(E:Env w) :
    Calls Tryz.prog 62 #[vf,v] w (CodePost (okE f l) w):=by
  have c:=Lib.hid (x_check f l vf v B w hf hl hB E)
  clear hf hl
  generalize okE f l=O at *
  go_enter Tryz.func62,Tryz.ntmps62
  go_wp2_with (go_at_call 99;refine c.out.mono ?_;rintro e w2 ⟨⟨tv,k,rfl,hk⟩,hb⟩;replace hk:=Lib.hid hk;replace hb:=Lib.hid hb)
  go_ret
  exact ⟨⟨_,rfl,hk.out⟩,hb.out⟩
end Go.Proofs.YtdhehcobnbcmdaaGreatDoor
