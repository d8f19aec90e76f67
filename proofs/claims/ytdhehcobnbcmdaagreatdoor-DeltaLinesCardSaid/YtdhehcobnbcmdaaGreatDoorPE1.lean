/- A part of the proof of DeltaLines: Exp1 Exp2. -/
import Derived.Test.YtdhehcobnbcmdaaGreatDoorPCf
import Derived.Test.YtdhehcobnbcmdaaGreatDoorPF1
import Derived.Test.YtdhehcobnbcmdaaGreatDoorPMd
import Derived.IntWalk
import Derived.BigQuiet
set_option linter.all false
namespace Go.Proofs.YtdhehcobnbcmdaaGreatDoor
open Go.RowKit
def treeV:Tree→Value
  | .leaf b=>.iface 228 (.agg #[.bool b])
  | .test t=>.iface 202 (.agg (testV t).toArray)
  | .not x=>.iface 230 (.agg #[treeV x])
  | .and l r=>.iface 234 (.agg #[treeV l,treeV r])
  | .or l r=>.iface 235 (.agg #[treeV l,treeV r])
theorem treeV_form (t:Tree):∃ T x,treeV t=.iface T x:=by cases t<;>exact ⟨_,_,rfl⟩
def PileIs (w:World)(B:Nat)(v:Value)(p:List Tree):Prop:=w.ownsRow B 153 1 v p.length (p.map treeV).reverse
theorem nodes_el {w:World}{B len cap b off:Nat}{l:List NodeS}(h:Nodes w B (.slice (some ⟨b,off,none⟩) len cap) l){k:Nat}(hk:k<l.length) :
    b < B ∧ ∃ x, l[k]? = some x ∧ Sm x.test.field ∧ Sm x.test.pat ∧ w.cell? ⟨b, off + k * 8, none⟩ = some (.int .i64 x.kind) ∧ w.cell? ⟨b, off + k * 8 + 1, none⟩ = some (.string x.test.field) ∧ w.cell? ⟨b, off + k * 8 + 2, none⟩ = some (.int .i64 x.test.op) ∧
      w.cell? ⟨b,off+k*8+3,none⟩=some (.int .i64 x.test.form)∧w.cell? ⟨b,off+k*8+4,none⟩=some (.int .i64 x.test.lo)∧w.cell? ⟨b,off+k*8+5,none⟩=some (.int .i64 x.test.hi)∧w.cell? ⟨b,off+k*8+6,none⟩=some (.int .i64 x.test.len)∧w.cell? ⟨b,off+k*8+7,none⟩=some (.string x.test.pat):=by
  obtain ⟨hb,c,x,hx,⟨hc,h1,h2⟩,hj⟩:=SlOf.el h hk
  subst hc
  exact ⟨hb,x,hx,h1,h2,hj 0 _ rfl,hj 1 _ rfl,hj 2 _ rfl,hj 3 _ rfl,hj 4 _ rfl,hj 5 _ rfl,hj 6 _ rfl,hj 7 _ rfl⟩
def BuPost (o:Option Tree)(w:World)(e:Ending)(w':World):Prop:=(∃ v b,e=.returned (.tuple #[v, .bool b])∧b=o.isSome∧∀ t,o=some t→v=treeV t)∧Below w.heap.size w w'
theorem bu_no {w w':World}{o:Option Tree}(h:o=none)(hb:Below w.heap.size w w'):BuPost o w (.returned (.tuple #[.nilIface, .bool false])) w':=⟨⟨_,_,rfl,by rw [h];rfl,fun t e=>by rw [h] at e;cases e⟩,hb⟩
theorem cellsT {w:World}{g:Nat}{x0 x1 x2 x3 x4 x5 x6 x7:Value}{t:TypeId}{fr:Nat×Nat}(h:w.heap[g]?=some (.cells #[x0,x1,x2,x3,x4,x5,x6,x7] t fr)) :
    w.cell? ⟨g,1,none⟩=some x1∧w.cell? ⟨g,2,none⟩=some x2∧w.cell? ⟨g,3,none⟩=some x3∧w.cell? ⟨g,4,none⟩=some x4∧w.cell? ⟨g,5,none⟩=some x5∧w.cell? ⟨g,6,none⟩=some x6∧w.cell? ⟨g,7,none⟩=some x7:=by
  refine ⟨?_,?_,?_,?_,?_,?_,?_⟩<;>rw [cell_of_row w g _ _ t fr h]<;>rfl
theorem by_empty {s:ByteArray}(h:s.data.toList=[]):s=ByteArray.empty:=by
  cases s with|mk d=>cases d;simp at h;subst h;rfl
set_option maxHeartbeats 8000000 in
set_option maxRecDepth 100000 in
theorem x_build (l : List NodeS) (v : Value) (B : Nat) (w : World) (hl : Nodes w B v l) (hB : B ≤ w.heap.size) (hn : l.length ≤ 64) :
    Calls Tryz.prog 131 #[v] w (BuPost (buildS l) w):=by
  obtain ⟨A,cap,rfl,hcl,hcap⟩:=SlOf.form hl
  have HR0:Hid (buildS l=oneT (pileT [] (l.drop 0))):=Lib.hid rfl
  generalize buildS l=R at *
  have hb0:=Lib.hid (Below.refl w.heap.size w)
  have hP0:Hid (PileIs w w.heap.size (.slice none 0 0) []):=Lib.hid (World.ownsRow_nil _ _ _ _)
  replace hl:=Lib.hid hl
  go_enter Tryz.func131,Tryz.ntmps131
  go_wp2_with fail
  go_loopw [2,3,4,6,7,8,11,29,40,49,62] (fun _ _ v _ _ _ i _ _ _ _ wr=>∃ (k:Nat) (p:List Tree),k≤l.length∧i=.int .i64 k∧p.length≤k∧Hid (R=oneT (pileT p (l.drop k)))∧Hid (PileIs wr w.heap.size v p)∧Hid (Below w.heap.size w wr)) (fun _ _ _ _ _ _ i _ _ _ _ _=>l.length-(intOf i).toNat)
  case atStart=>exact ⟨0,[],Nat.zero_le _,rfl,Nat.zero_le _,HR0,hP0,hb0⟩
  case round=>
    obtain ⟨k,p,hk,rfl,hpk,HR,hP,hbw⟩:=hrel
    clear HR0 hP0 hb0
    by_cases hlt:k<l.length
    · have hN := Nodes.below hl.out hbw.out hB
      obtain ⟨b,off,rfl⟩:=SlOf.addr hN (by omega)
      obtain ⟨hb,x,hx,hx1,hx2,e0,e1,e2,e3,e4,e5,e6,e7⟩:=nodes_el hN hlt
      have HS:Hid (R=match stepT p x with|some q=>oneT (pileT q (l.drop (k+1)))|none=>none):=Lib.hid (by rw [HR.out,drop_at hx];simp only [pileT];cases stepT p x<;>rfl)
      clear HR hN hx
      obtain ⟨kd,⟨tf,op,fm,lo,hi,ln,pt⟩⟩:=x
      simp only at hx1 hx2 e0 e1 e2 e3 e4 e5 e6 e7
      have hzw:=hbw.out.size
      have hbA:=Lib.hid fun o=>hbw.out.alloc hzw o
      obtain ⟨A1,c1,rfl,hc1,hc2⟩:=row_form hP.out
      have hnd:=Lib.hid fun o=>World.ownsRow.alloc hP.out o
      clear hP
      go_upto_region 4 with fail
      go_cut [6] (fun u wx=>u=.pointer (some ⟨wr.heap.size,0,none⟩)∧Hid (wx.heap[wr.heap.size]?=some (.cells #[.int .i64 kd, .string tf, .int .i64 op, .int .i64 fm, .int .i64 lo, .int .i64 hi, .int .i64 ln, .string pt] 47 (0,0)))∧Hid (Below w.heap.size w wx)∧Hid (PileIs wx w.heap.size (.slice A1 p.length c1) p))
      case first=>
        go_wp2_with fail
        go_meet
        exact ⟨rfl,Lib.hid (heap_alloc_new wr _),hbA.out _,hnd.out _⟩
      case rest=>
      obtain ⟨rfl,hX,hbW,hP⟩:=hcut
      clear hbA hnd e0 e1 e2 e3 e4 e5 e6 e7
      have n0:wc.cell? ⟨wr.heap.size,0,none⟩=some (.int .i64 kd):=by rw [cell_of_row wc _ _ _ _ _ hX.out];rfl
      obtain ⟨n1,n2,n3,n4,n5,n6,n7⟩:=cellsT hX.out
      have hpl:p.length≤64:=by omega
      have hpm:(p.length+1)*16≤140737488355328∧p.length+1≤maxLen:=by unfold maxLen;omega
      have hzc:=hbW.out.size
      have hzr:wr.heap.size<wc.heap.size:=(Array.getElem?_eq_some_iff.1 hX.out).1
      clear hX
      by_cases h3:kd=3
      · subst h3
        have HF:Hid (R=oneT (pileT (.test ⟨tf,op,fm,lo,hi,ln,pt⟩::p) (l.drop (k+1)))):=HS
        clear HS
        go_wp2_with (at_builtin;refine push_one elTree rfl (.tmp 42) (.tmp 47) rfl w.heap.size p.length (.slice A1 p.length c1) _ rfl hP.out wc.heap.size rfl (treeV (.test ⟨tf,op,fm,lo,hi,ln,pt⟩)) rfl rfl hpm.1 hpm.2 hzc ?_;intro g' cap' w4 ho4 hb4 _;have ho5:=Lib.hid ho4;have hb5:=Lib.hid (hbW.out.trans hb4);clear ho4 hb4)
        go_roundw
        case rel=>exact ⟨k+1,_::p,by omega,by go_num,by simp;omega,HF,Lib.hid (by unfold PileIs;simpa using ho5.out),hb5⟩
        case measure=>simp [intOf];omega
      have h3':(kd != 3)=true:=by simp [h3]
      cases hz:zT ⟨tf,op,fm,lo,hi,ln,pt⟩
      · have HF:=Lib.hid (bu_no (w:=w) (w':=wc) (show R=none by rw [HS.out];simp only [stepT,h3,hz,not_false_eq_true,and_self,if_true,ne_eq]) hbW.out)
        replace hz:Hid (zT ⟨tf,op,fm,lo,hi,ln,pt⟩=false):=Lib.hid hz
        clear HS hP h3
        go_wp2_with fail
        all_goals first
          | (go_ret2;exact HF.out)
          | (exfalso;have:=hz.out;simp only [zT,decide_eq_false_iff_not] at this;apply this;simp only [ByteArray.toList_eq] at *;refine ⟨?_,‹_›,‹_›,‹_›,‹_›,‹_›,?_⟩<;>exact by_empty ‹_›)
      obtain ⟨rfl,rfl,rfl,rfl,rfl,rfl,rfl⟩:tf=⟨#[]⟩∧op=0∧fm=0∧lo=0∧hi=0∧ln=0∧pt=⟨#[]⟩:=by unfold zT at hz;exact of_decide_eq_true hz
      clear hz hx1 hx2
      by_cases k1:kd=1
      · subst k1
        have HF:Hid (R=oneT (pileT (.leaf true::p) (l.drop (k+1)))):=HS
        clear HS
        go_wp2_with (at_builtin;refine push_one elTree rfl (.tmp 32) (.tmp 38) rfl w.heap.size p.length (.slice A1 p.length c1) _ rfl hP.out wc.heap.size rfl (treeV (.leaf true)) rfl rfl hpm.1 hpm.2 hzc ?_;intro g' cap' w4 ho4 hb4 _;have ho5:=Lib.hid ho4;have hb5:=Lib.hid (hbW.out.trans hb4);clear ho4 hb4)
        go_roundw
        case rel=>exact ⟨k+1,_::p,by omega,by go_num,by simp;omega,HF,Lib.hid (by unfold PileIs;simpa using ho5.out),hb5⟩
        case measure=>simp [intOf];omega
      by_cases k2:kd=2
      · subst k2
        have HF:Hid (R=oneT (pileT (.leaf false::p) (l.drop (k+1)))):=HS
        clear HS
        go_wp2_with (at_builtin;refine push_one elTree rfl (.tmp 32) (.tmp 38) rfl w.heap.size p.length (.slice A1 p.length c1) _ rfl hP.out wc.heap.size rfl (treeV (.leaf false)) rfl rfl hpm.1 hpm.2 hzc ?_;intro g' cap' w4 ho4 hb4 _;have ho5:=Lib.hid ho4;have hb5:=Lib.hid (hbW.out.trans hb4);clear ho4 hb4)
        go_roundw
        case rel=>exact ⟨k+1,_::p,by omega,by go_num,by simp;omega,HF,Lib.hid (by unfold PileIs;simpa using ho5.out),hb5⟩
        case measure=>simp [intOf];omega
      by_cases k4:kd=4
      · subst k4
        cases p with
        | nil =>
          have HF:=Lib.hid (bu_no (w:=w) (w':=wc) (show R=none by rw [HS.out];rfl) hbW.out)
          clear HS hP
          go_wp2_with fail
          go_ret2
          exact HF.out
        | cons t r =>
          have HF:Hid (R=oneT (pileT (.not t::r) (l.drop (k+1)))):=HS
          simp only [List.length_cons] at hpk hpl hc1 hpm
          obtain ⟨g,cap2,he,hg1,hg2⟩:=hP.out.form (by simp)
          injection he with hA _ hcc
          subst hA hcc
          obtain ⟨T,x,hT⟩:=treeV_form t
          have c0:wc.cell? ⟨g,r.length,none⟩=some (.iface T x):=row_cell hP.out (by simp [hT])
          have c2:wc.frozen? ⟨g,r.length,none⟩=false:=hP.out.frozenAt r.length
          have hst:=Lib.hid (row_set hP.out r.length (treeV (.not t)))
          have hbS:=Lib.hid (hbW.out.setCell (p:=⟨g,r.length,none⟩) (show w.heap.size≤g from hg1) (treeV (.not t)))
          simp only [treeV,hT] at hst hbS
          clear HS hP hg1 hg2
          replace hT:=Lib.hid hT
          go_wp2_with fail
          go_roundw
          case rel=>exact ⟨k+1, .not t::r,by omega,by go_num,by simp;omega,HF,Lib.hid (by unfold PileIs;simpa [treeV,hT.out] using hst.out),hbS⟩
          case measure=>simp [intOf];omega
      by_cases k5:kd=5∨kd=6
      · rcases p with _|⟨t,_|⟨u,r⟩⟩
        · have HF:=Lib.hid (bu_no (w:=w) (w':=wc) (show R=none by rw [HS.out];rcases k5 with rfl|rfl<;>rfl) hbW.out)
          clear HS hP
          rcases k5 with rfl|rfl
          all_goals (go_wp2_with fail;go_ret2;exact HF.out)
        · have HF:=Lib.hid (bu_no (w:=w) (w':=wc) (show R=none by rw [HS.out];rcases k5 with rfl|rfl<;>rfl) hbW.out)
          clear HS hP
          rcases k5 with rfl|rfl
          all_goals (go_wp2_with fail;go_ret2;exact HF.out)
        · rcases k5 with rfl|rfl
          obtain ⟨C,HF,hC⟩:∃ C,Hid (R=oneT (pileT (C::r) (l.drop (k+1))))∧treeV C=.iface 234 (.agg #[treeV u,treeV t]):=⟨.and u t,HS,rfl⟩
          rotate_left
          obtain ⟨C,HF,hC⟩:∃ C,Hid (R=oneT (pileT (C::r) (l.drop (k+1))))∧treeV C=.iface 235 (.agg #[treeV u,treeV t]):=⟨.or u t,HS,rfl⟩
          all_goals
            simp only [List.length_cons] at hpk hpl hc1 hpm
            obtain ⟨g,cap2,he,hg1,hg2⟩:=hP.out.form (by simp)
            injection he with hA _ hcc
            subst hA hcc
            obtain ⟨T,x,hT⟩:=treeV_form t
            obtain ⟨T2,x2,hT2⟩:=treeV_form u
            have c0:wc.cell? ⟨g,r.length,none⟩=some (.iface T2 x2):=row_cell hP.out (by simp [hT2])
            have c3:wc.cell? ⟨g,r.length+1,none⟩=some (.iface T x):=row_cell hP.out (by simp [hT])
            have hw1:IntKind.i64.wrap ((r.length:Int)+1-1)=(r.length:Int):=by rw [Int.add_sub_cancel];exact IntWalk.i64_in _ (by omega)
            have hlt1:¬ ((r.length:Int)+1<1):=by omega
            have hw2:IntKind.i64.wrap (r.length:Int)=(r.length:Int):=IntWalk.i64_in _ (by omega)
            have hr1:(0:Int)≤(r.length:Int):=by omega
            have hr2:(r.length:Int)<(r.length:Int)+1+1:=by omega
            have hr3:(0:Int)≤(r.length:Int)+1:=by omega
            have hr4:(r.length:Int)+1<(r.length:Int)+1+1:=by omega
            have hr5:((r.length:Int)+1).toNat=r.length+1:=by omega
            obtain ⟨wd,rfl⟩:∃ wd,wd=wc:=⟨_,rfl⟩
            go_upto_region 23 with fail
            go_cut [8] (fun v wx=>v=.pointer (some ⟨wd.heap.size,0,none⟩)∧Hid (wx.heap[wd.heap.size]?=some (.cells #[.iface T2 x2, .iface T x] 232 (0,0)))∧Hid (Below wd.heap.size wd wx))
            case first=>
              go_wp2_with fail
              go_region_held3 (fun W=>W.cell? ⟨g,r.length,none⟩=some (.iface T2 x2)∧W.cell? ⟨g,r.length+1,none⟩=some (.iface T x)) (first|exact hHeld|go_keep) (fail)
              go_wp2_with fail
              go_meet
              exact ⟨rfl,Lib.hid (heap_alloc_new wd _),Lib.hid (((Below.refl _ _).alloc (Nat.le_refl _) _).drew)⟩
            case rest=>
            obtain ⟨rfl,hX2,hbd⟩:=hcut
            have hP2:=Lib.hid (row_short (by have:=row_below hP.out hbd.out (Nat.le_refl _);simpa [hT,hT2] using this:wc.ownsRow w.heap.size 153 1 (.slice (some ⟨g,0,none⟩) (r.length+1+1) c1) (r.length+1+1) (((r.map treeV).reverse++[.iface T2 x2])++[.iface T x])))
            have hbw2:=Lib.hid (hbW.out.trans (hbd.out.mono hzc))
            have d0:wc.cell? ⟨g,r.length,none⟩=some (.iface T2 x2):=row_cell hP2.out (by simp)
            have d1:wc.frozen? ⟨g,r.length,none⟩=false:=hP2.out.frozenAt r.length
            have m0:=(hbd.out.cell (p:=⟨wr.heap.size,0,none⟩) hzr).trans n0
            have p0:wc.cell? ⟨wd.heap.size,0,none⟩=some (.iface T2 x2):=by rw [cell_of_row wc _ _ _ _ _ hX2.out];rfl
            have p1:wc.cell? ⟨wd.heap.size,1,none⟩=some (.iface T x):=by rw [cell_of_row wc _ _ _ _ _ hX2.out];rfl
            have hst:=Lib.hid (row_set hP2.out r.length (treeV C))
            have hbS:=Lib.hid (hbw2.out.setCell (p:=⟨g,r.length,none⟩) (show w.heap.size≤g from hg1) (treeV C))
            rw [hT,hT2] at hC
            rw [hC] at hst hbS
            clear HS hP hg1 hg2 hX2 hbd hP2 c0 c3 n0
            replace hC:=Lib.hid hC
            replace hT:=Lib.hid hT
            replace hT2:=Lib.hid hT2
            go_wp2_with fail
            go_roundw
            case rel=>exact ⟨k+1,C::r,by omega,by go_num,by simp;omega,HF,Lib.hid (by unfold PileIs;simpa [hC.out,hT2.out] using hst.out),hbS⟩
            case measure=>simp [intOf];omega
      have HF:=Lib.hid (bu_no (w:=w) (w':=wc) (show R=none by rw [HS.out];simp only [not_or] at k5;simp [stepT,h3,zT,k1,k2,k4,k5.1,k5.2]) hbW.out)
      have k1':(kd == 1)=false:=by simp [k1]
      have k2':(kd == 2)=false:=by simp [k2]
      have k3':(kd == 3)=false:=by simp [h3]
      have k4':(kd == 4)=false:=by simp [k4]
      have k5':(kd == 5)=false:=by simp only [not_or] at k5;simp [k5.1]
      have k6':(kd == 6)=false:=by simp only [not_or] at k5;simp [k5.2]
      clear HS hP k1 k2 h3 k4 k5
      go_wp2_with fail
      go_ret2
      exact HF.out
    · have HF:Hid (R=oneT (some p)):=Lib.hid (by rw [HR.out,drop_end hlt];rfl)
      clear HR
      obtain ⟨A1,c1,rfl,hc1,hc2⟩:=row_form hP.out
      rcases p with _|⟨t,_|⟨u,r⟩⟩
      · have HE:=Lib.hid (bu_no (w:=w) (w':=wr) (show R=none by rw [HF.out];rfl) hbw.out)
        clear HF hP
        go_wp2_with fail
        go_ret2
        exact HE.out
      · obtain ⟨g,cap2,he,hg1,hg2⟩:=hP.out.form (by simp)
        injection he with hA _ hcc
        subst hA hcc
        have c0:wr.cell? ⟨g,0,none⟩=some (treeV t):=row_cell hP.out (by simp)
        have HE:Hid (BuPost R w (.returned (.tuple #[treeV t, .bool true])) wr):=Lib.hid ⟨⟨_,_,rfl,by rw [HF.out];rfl,fun t' e=>by rw [HF.out] at e;cases e;rfl⟩,hbw.out⟩
        clear HF hP
        go_wp2_with fail
        go_ret2
        exact HE.out
      · have HE:=Lib.hid (bu_no (w:=w) (w':=wr) (show R=none by rw [HF.out];rfl) hbw.out)
        have h1':((r.length:Int)+1+1 != 1)=true:=by simp;omega
        clear HF hP
        go_wp2_with fail
        go_ret2
        exact HE.out
theorem ta_and (w:World)(x:Value):(Instr.typeAssert (.iface 234 x) 153 234 true).run Tryz.prog w=.ok (.tuple #[x, .bool true]) w:=by kernel_rfl
theorem ta_or (w:World)(x:Value):(Instr.typeAssert (.iface 235 x) 153 235 true).run Tryz.prog w=.ok (.tuple #[x, .bool true]) w:=by kernel_rfl
def zP:Value:=.agg #[.nilIface, .nilIface]
theorem ta_leaf_and (w:World)(x:Value):(Instr.typeAssert (.iface 228 x) 153 234 true).run Tryz.prog w=.ok (.tuple #[zP, .bool false]) w:=by kernel_rfl
theorem ta_leaf_or (w:World)(x:Value):(Instr.typeAssert (.iface 228 x) 153 235 true).run Tryz.prog w=.ok (.tuple #[zP, .bool false]) w:=by kernel_rfl
theorem ta_test_and (w:World)(x:Value):(Instr.typeAssert (.iface 202 x) 153 234 true).run Tryz.prog w=.ok (.tuple #[zP, .bool false]) w:=by kernel_rfl
theorem ta_test_or (w:World)(x:Value):(Instr.typeAssert (.iface 202 x) 153 235 true).run Tryz.prog w=.ok (.tuple #[zP, .bool false]) w:=by kernel_rfl
theorem ta_not_and (w:World)(x:Value):(Instr.typeAssert (.iface 230 x) 153 234 true).run Tryz.prog w=.ok (.tuple #[zP, .bool false]) w:=by kernel_rfl
theorem ta_not_or (w:World)(x:Value):(Instr.typeAssert (.iface 230 x) 153 235 true).run Tryz.prog w=.ok (.tuple #[zP, .bool false]) w:=by kernel_rfl
theorem ta_and_or (w:World)(x:Value):(Instr.typeAssert (.iface 234 x) 153 235 true).run Tryz.prog w=.ok (.tuple #[zP, .bool false]) w:=by kernel_rfl
theorem ta_or_and (w:World)(x:Value):(Instr.typeAssert (.iface 235 x) 153 234 true).run Tryz.prog w=.ok (.tuple #[zP, .bool false]) w:=by kernel_rfl
def SameB (b:Bool)(w:World)(e:Ending)(w'':World):Prop:=e=.returned (.bool b)∧w''=w
set_option maxHeartbeats 4000000 in
set_option maxRecDepth 100000 in
theorem x_isOr (t:Tree)(w:World):Calls Tryz.prog 308 #[treeV t] w (SameB t.isOr w):=by
  have ho:=ta_or
  have h1:=ta_leaf_or
  have h2:=ta_test_or
  have h3:=ta_not_or
  have h4:=ta_and_or
  generalize zP=z at *
  cases t<;>(simp only [treeV,Tree.isOr];go_enter Tryz.func308,Tryz.ntmps308;go_wp2_with fail;go_ret;exact ⟨rfl,rfl⟩)
set_option maxHeartbeats 4000000 in
set_option maxRecDepth 100000 in
theorem x_joined (t:Tree)(w:World):Calls Tryz.prog 300 #[treeV t] w (SameB t.joined w):=by
  have ho:=ta_or
  have h1:=ta_leaf_or
  have h2:=ta_test_or
  have h3:=ta_not_or
  have h4:=ta_and_or
  have g0:=ta_and
  have g1:=ta_leaf_and
  have g2:=ta_test_and
  have g3:=ta_not_and
  have g4:=ta_or_and
  generalize zP=z at *
  cases t<;>(simp only [treeV,Tree.joined];go_enter Tryz.func300,Tryz.ntmps300;go_wp2_with fail;go_ret;exact ⟨rfl,rfl⟩)
theorem x_count (b:Bool)(w:World):Calls Tryz.prog 307 #[.bool b] w fun e w''=>e=.returned (.int .i64 b.toNat)∧w''=w:=by
  cases b<;>(go_enter Tryz.func307,Tryz.ntmps307;go_wp2_with fail;go_ret;exact ⟨rfl,rfl⟩)
def nestF:Tree→FuncId
  | .leaf _=>293
  | .test _=>287
  | .not _=>297
  | .and _ _=>304
  | .or _ _=>310
def IntW (n:Nat)(w:World)(e:Ending)(w':World):Prop:=e=.returned (.int .i64 n)∧Below w.heap.size w w'
theorem me_nest (t : Tree) : ∃ T x, treeV t = .iface T x ∧ (∀ w, (method 470 T x "reach/expr.nesting").run Tryz.prog w = .ok (nestF t, x) w) ∧ (∀ w, (nilAhead 470 T x "reach/expr.nesting").run Tryz.prog w = .ok (some false) w) ∧ ∀ w, (callFunc (nestF t) #[x]).run Tryz.prog w = .ok (.enter (nestF t) #[x]) w := by
  cases t<;>exact ⟨_,_,rfl,fun w=>by kernel_rfl,fun w=>by kernel_rfl,fun w=>by kernel_rfl⟩
def NestIs (t:Tree):Prop:=∀ (x:Value) (w:World),(∃ T,treeV t=.iface T x)→Calls Tryz.prog (nestF t) #[x] w (IntW t.nest w)
set_option maxHeartbeats 4000000 in
set_option maxRecDepth 100000 in
theorem x_not (t:Tree)(h:NestIs t)(hb:t.nest≤1000)(w:World):Calls Tryz.prog 297 #[.agg #[treeV t]] w (IntW (Tree.not t).nest w):=by
  have cj:=Lib.hid (x_joined t)
  obtain ⟨T,x,hT,hm,hn,hq⟩:=me_nest t
  have ci:=Lib.hid fun w'=>h x w' ⟨T,hT⟩
  rw [hT] at cj ⊢
  generalize nestF t=F at *
  clear h hT
  have hN:(Tree.not t).nest=t.nest+(if t.joined then 2 else 1):=rfl
  generalize (Tree.not t).nest=N at *
  generalize t.nest=n at *
  obtain ⟨j,hj⟩:∃ j,t.joined=j:=⟨_,rfl⟩
  rw [hj] at hN cj
  clear hj
  cases j
  all_goals
    simp only [if_true,if_false,Bool.false_eq_true] at hN
    subst hN
    go_enter Tryz.func297,Tryz.ntmps297
    go_wp2_with (first
      | (go_at_call 300;refine (cj.out _).mono ?_;rintro e w2 ⟨rfl,rfl⟩)
      | (refine (ci.out _).mono ?_;rintro e w3 ⟨rfl,hb3⟩;have hb4:=Lib.hid (((Below.refl w.heap.size w).alloc (Nat.le_refl _) _).trans (hb3.mono (by simp)));clear hb3))
    go_ret
    exact ⟨by go_num,hb4.out⟩
set_option maxHeartbeats 4000000 in
set_option maxRecDepth 100000 in
theorem x_deeper (l r:Tree)(hl:NestIs l)(hr:NestIs r)(bl br:Bool)(ha:l.nest≤1000)(hb:r.nest≤1000)(w:World) :
    Calls Tryz.prog 302 #[.agg #[treeV l,treeV r], .int .i64 bl.toNat, .int .i64 br.toNat] w (IntW (max (l.nest+bl.toNat) (r.nest+br.toNat)) w):=by
  obtain ⟨T1,x1,hT1,hm1,hn1,hq1⟩:=me_nest l
  obtain ⟨T2,x2,hT2,hm2,hn2,hq2⟩:=me_nest r
  have c1:=Lib.hid fun w'=>hl x1 w' ⟨T1,hT1⟩
  have c2:=Lib.hid fun w'=>hr x2 w' ⟨T2,hT2⟩
  rw [hT1,hT2]
  generalize nestF l=F1 at *
  generalize nestF r=F2 at *
  clear hl hr hT1 hT2
  generalize l.nest=n1 at *
  generalize r.nest=n2 at *
  obtain ⟨W,hW⟩:∃ W,w.alloc (.cells #[.iface T1 x1, .iface T2 x2] 232 (0,0))=W:=⟨_,rfl⟩
  have hbT:=Lib.hid (show Below w.heap.size w W by rw [← hW];exact (Below.refl w.heap.size w).alloc (Nat.le_refl _) _)
  have hX:W.heap[w.heap.size]?=some (.cells #[.iface T1 x1, .iface T2 x2] 232 (0,0)):=by rw [← hW];exact heap_alloc_new w _
  have hl:=(Array.getElem?_eq_some_iff.1 hX).1
  have z1:=cell_of_row W _ 0 _ _ _ hX
  have z2:=cell_of_row W _ 1 _ _ _ hX
  simp only [List.getElem?_toArray,List.getElem?_cons_zero,List.getElem?_cons_succ] at z1 z2
  clear hX
  have hk1:=Bool.toNat_le bl
  have hk2:=Bool.toNat_le br
  generalize bl.toNat=k1 at *
  generalize br.toNat=k2 at *
  go_enter Tryz.func302,Tryz.ntmps302
  go_upto_region 1 with fail
  clear hW
  have w1:IntKind.i64.wrap ((n1:Int)+(k1:Int))=(n1:Int)+(k1:Int):=IntWalk.i64_in _ (by omega)
  have w2:IntKind.i64.wrap ((n2:Int)+(k2:Int))=(n2:Int)+(k2:Int):=IntWalk.i64_in _ (by omega)
  have hd:=Lib.hid fun n=>below_drewN (Below.refl W.heap.size W) n
  go_region_held3 (fun W'=>W'.cell? ⟨w.heap.size,0,none⟩=some (.iface T1 x1)∧W'.cell? ⟨w.heap.size,1,none⟩=some (.iface T2 x2))
    (first|exact hHeld|go_keep|exact ⟨(hbj.cell (p:=⟨w.heap.size,0,none⟩) hl).trans z1,(hbj.cell (p:=⟨w.heap.size,1,none⟩) hl).trans z2⟩|exact ⟨(hbk.cell (p:=⟨w.heap.size,0,none⟩) hl).trans z1,(hbk.cell (p:=⟨w.heap.size,1,none⟩) hl).trans z2⟩)
    ((first
      | (have hbi:=hbk;(with_reducible refine (c1.out _).mono ?_);rintro e wy ⟨rfl,hbB⟩;have hbj:=hbi.trans (hbB.mono hbi.size))
      | (have hbi:=hbk;(with_reducible refine (c2.out _).mono ?_);rintro e wy ⟨rfl,hbB⟩;have hbj:=hbi.trans (hbB.mono hbi.size))
      | ((with_reducible refine (c1.out _).mono ?_);rintro e wz ⟨rfl,hbA⟩;have hbk:=(hd.out 1).trans (hbA.mono (hd.out 1).size))
      | ((with_reducible refine (c2.out _).mono ?_);rintro e wz ⟨rfl,hbA⟩;have hbk:=(hd.out 1).trans (hbA.mono (hd.out 1).size))))
  all_goals
    have hF:=Lib.hid (hbT.out.trans (hbj.mono hbT.out.size))
    go_wp2_with fail
  all_goals
    go_ret
    refine ⟨?_,hF.out⟩
    show Ending.returned (.int .i64 _)=_
    congr 2
    omega
set_option maxHeartbeats 4000000 in
set_option maxRecDepth 100000 in
theorem x_and (l r:Tree)(hl:NestIs l)(hr:NestIs r)(ha:l.nest≤1000)(hb:r.nest≤1000)(w:World) :
    Calls Tryz.prog 304 #[.agg #[treeV l,treeV r]] w (IntW (Tree.and l r).nest w):=by
  have ci:=Lib.hid (x_isOr l)
  have cj:=Lib.hid (x_joined r)
  have cc:=Lib.hid x_count
  have cd:=Lib.hid fun bl br w'=>x_deeper l r hl hr bl br ha hb w'
  obtain ⟨T1,x1,hT1,_⟩:=me_nest l
  obtain ⟨T2,x2,hT2,_⟩:=me_nest r
  have hN:(Tree.and l r).nest=max (l.nest+l.isOr.toNat) (r.nest+r.joined.toNat):=rfl
  rw [hT1,hT2] at cd ⊢
  rw [hT1] at ci
  rw [hT2] at cj
  clear hl hr hT1 hT2 ha hb
  generalize (Tree.and l r).nest=N at *
  generalize l.isOr=b1 at *
  generalize r.joined=b2 at *
  replace hN:=Lib.hid hN
  obtain ⟨W,hW⟩:∃ W,w.alloc (.cells #[.iface T1 x1, .iface T2 x2] 234 (0,0))=W:=⟨_,rfl⟩
  have hbT:=Lib.hid (show Below w.heap.size w W by rw [← hW];exact (Below.refl w.heap.size w).alloc (Nat.le_refl _) _)
  have hX:W.heap[w.heap.size]?=some (.cells #[.iface T1 x1, .iface T2 x2] 234 (0,0)):=by rw [← hW];exact heap_alloc_new w _
  have hl:=(Array.getElem?_eq_some_iff.1 hX).1
  have z1:=cell_of_row W _ 0 _ _ _ hX
  have z2:=cell_of_row W _ 1 _ _ _ hX
  simp only [List.getElem?_toArray,List.getElem?_cons_zero,List.getElem?_cons_succ] at z1 z2
  clear hX
  go_enter Tryz.func304,Tryz.ntmps304
  go_upto_region 1 with fail
  clear hW
  have hd:=Lib.hid fun n=>below_drewN (Below.refl W.heap.size W) n
  go_region_held3 (fun W'=>W'.cell? ⟨w.heap.size,0,none⟩=some (.iface T1 x1)∧W'.cell? ⟨w.heap.size,1,none⟩=some (.iface T2 x2))
    (first|exact hHeld|go_keep|exact ⟨(hbk.cell (p:=⟨w.heap.size,0,none⟩) hl).trans z1,(hbk.cell (p:=⟨w.heap.size,1,none⟩) hl).trans z2⟩)
    ((first
      | (go_at_call 302;(with_reducible refine (cd.out b1 b2 _).mono ?_);rintro e wz ⟨rfl,hbA⟩;have hbk:=(hd.out 1).trans (hbA.mono (hd.out 1).size))
      | (go_at_call 308;(with_reducible refine (ci.out _).mono ?_);rintro e wy ⟨rfl,rfl⟩)
      | (go_at_call 300;(with_reducible refine (cj.out _).mono ?_);rintro e wy ⟨rfl,rfl⟩)
      | (go_at_call 307;(with_reducible refine (cc.out _ _).mono ?_);rintro e wy ⟨rfl,rfl⟩)))
  all_goals
    have hF:=Lib.hid (hbT.out.trans (hbk.mono hbT.out.size))
    go_wp2_with fail
  all_goals
    go_ret
    exact ⟨by rw [hN.out];rfl,hF.out⟩
set_option maxHeartbeats 4000000 in
set_option maxRecDepth 100000 in
theorem x_or (l r:Tree)(hl:NestIs l)(hr:NestIs r)(ha:l.nest≤1000)(hb:r.nest≤1000)(w:World) :
    Calls Tryz.prog 310 #[.agg #[treeV l,treeV r]] w (IntW (Tree.or l r).nest w):=by
  have ci:=Lib.hid (x_isOr r)
  have cc:=Lib.hid x_count
  have cd:=Lib.hid (show ∀ (br:Bool) (w':World),Calls Tryz.prog 302 #[.agg #[treeV l,treeV r], .int .i64 0, .int .i64 br.toNat] w' (IntW (max (l.nest+false.toNat) (r.nest+br.toNat)) w') from fun br w'=>x_deeper l r hl hr false br ha hb w')
  obtain ⟨T1,x1,hT1,_⟩:=me_nest l
  obtain ⟨T2,x2,hT2,_⟩:=me_nest r
  have hN:(Tree.or l r).nest=max (l.nest+false.toNat) (r.nest+r.isOr.toNat):=rfl
  rw [hT1,hT2] at cd ⊢
  rw [hT2] at ci
  clear hl hr hT1 hT2 ha hb
  generalize (Tree.or l r).nest=N at *
  generalize r.isOr=b2 at *
  replace hN:=Lib.hid hN
  obtain ⟨W,hW⟩:∃ W,w.alloc (.cells #[.iface T1 x1, .iface T2 x2] 235 (0,0))=W:=⟨_,rfl⟩
  have hbT:=Lib.hid (show Below w.heap.size w W by rw [← hW];exact (Below.refl w.heap.size w).alloc (Nat.le_refl _) _)
  have hX:W.heap[w.heap.size]?=some (.cells #[.iface T1 x1, .iface T2 x2] 235 (0,0)):=by rw [← hW];exact heap_alloc_new w _
  have hl:=(Array.getElem?_eq_some_iff.1 hX).1
  have z1:=cell_of_row W _ 0 _ _ _ hX
  have z2:=cell_of_row W _ 1 _ _ _ hX
  simp only [List.getElem?_toArray,List.getElem?_cons_zero,List.getElem?_cons_succ] at z1 z2
  clear hX
  go_enter Tryz.func310,Tryz.ntmps310
  go_upto_region 1 with fail
  clear hW
  have hd:=Lib.hid fun n=>below_drewN (Below.refl W.heap.size W) n
  go_region_held3 (fun W'=>W'.cell? ⟨w.heap.size,0,none⟩=some (.iface T1 x1)∧W'.cell? ⟨w.heap.size,1,none⟩=some (.iface T2 x2))
    (first|exact hHeld|go_keep|exact ⟨(hbk.cell (p:=⟨w.heap.size,0,none⟩) hl).trans z1,(hbk.cell (p:=⟨w.heap.size,1,none⟩) hl).trans z2⟩)
    ((first
      | (go_at_call 302;(with_reducible refine (cd.out b2 _).mono ?_);rintro e wz ⟨rfl,hbA⟩;have hbk:=(hd.out 1).trans (hbA.mono (hd.out 1).size))
      | (go_at_call 308;(with_reducible refine (ci.out _).mono ?_);rintro e wy ⟨rfl,rfl⟩)
      | (go_at_call 307;(with_reducible refine (cc.out _ _).mono ?_);rintro e wy ⟨rfl,rfl⟩)))
  all_goals
    have hF:=Lib.hid (hbT.out.trans (hbk.mono hbT.out.size))
    go_wp2_with fail
  all_goals
    go_ret
    exact ⟨by rw [hN.out];rfl,hF.out⟩
set_option maxHeartbeats 4000000 in
set_option maxRecDepth 100000 in
theorem nest_is:∀ t:Tree,t.nest≤1000→NestIs t
  | .leaf b, _ => by
    rintro x w ⟨T,hT⟩
    injection hT with _ hx
    subst hx
    simp only [nestF,Tree.nest]
    go_enter Tryz.func293,Tryz.ntmps293
    go_wp2_with fail
    go_ret
    exact ⟨rfl,(Below.refl w.heap.size w).alloc (Nat.le_refl _) _⟩
  | .test t, _ => by
    rintro x w ⟨T,hT⟩
    injection hT with _ hx
    subst hx
    simp only [nestF,Tree.nest,testV]
    go_enter Tryz.func287,Tryz.ntmps287
    go_wp2_with fail
    go_ret
    exact ⟨rfl,(Below.refl w.heap.size w).alloc (Nat.le_refl _) _⟩
  | .not t, h => by
    have h1:t.nest≤1000:=by simp only [Tree.nest] at h;omega
    rintro x w ⟨T,hT⟩
    injection hT with _ hx
    subst hx
    exact x_not t (nest_is t h1) h1 w
  | .and l r, h => by
    have h1:l.nest≤1000∧r.nest≤1000:=by simp only [Tree.nest] at h;omega
    rintro x w ⟨T,hT⟩
    injection hT with _ hx
    subst hx
    exact x_and l r (nest_is l h1.1) (nest_is r h1.2) h1.1 h1.2 w
  | .or l r, h => by
    have h1:l.nest≤1000∧r.nest≤1000:=by simp only [Tree.nest] at h;omega
    rintro x w ⟨T,hT⟩
    injection hT with _ hx
    subst hx
    exact x_or l r (nest_is l h1.1) (nest_is r h1.2) h1.1 h1.2 w
end Go.Proofs.YtdhehcobnbcmdaaGreatDoor
