/- A part of the proof of DeltaLines: Exp6 Exp7. -/
import Derived.Test.YtdhehcobnbcmdaaGreatDoorPE4
import Derived.Test.YtdhehcobnbcmdaaGreatDoorPM3
set_option linter.all false
namespace Go.Proofs.YtdhehcobnbcmdaaGreatDoor
open Go.RowKit
def YesW (w:World)(e:Ending)(w':World):Prop:=e=.returned (.bool true)∧Below w.heap.size w w'
theorem own_two {w:World}{base g cap:Nat}{k:Int}{s:ByteArray}{l:List Value}(h:w.ownsRow base 272 4 (.slice (some ⟨g,0,none⟩) 2 cap) 2 (tokC k s 1 1++l)) :
    w.cell? ⟨g,0,none⟩=some (.int .i64 k)∧w.cell? ⟨g,1,none⟩=some (.string s):=by
  refine ⟨?_,?_⟩<;>rw [h.cellAt _ (by omega)]<;>rfl
set_option maxHeartbeats 2000000 in
set_option maxRecDepth 100000 in
theorem x_isName (s:ByteArray)(h:isName (bs s)=true)(w:World)(E:Env w):Calls Tryz.prog 176 #[.string s] w (YesW w):=by
  have hz:=isName_le h
  have cs:=Scan_any s w (by omega) E
  obtain ⟨c,hc⟩:=one_name h
  rw [hc] at cs
  replace cs:=Lib.hid cs
  have bA:(s.toList == s.toList)=true:=by simp
  clear E h hc
  go_enter Tryz.func176,Tryz.ntmps176
  go_wp2_with (go_at_call 203;refine cs.out.mono ?_;rintro e w' ⟨v,rfl,ho,hb,_⟩;obtain ⟨g,cp,rfl⟩:=Go.Joins.ownsRow_form ho (by show (0:Nat)<2;decide);obtain ⟨e0,e1⟩:=own_two ho;have hb:=Lib.hid hb;clear ho)
  go_ret
  exact ⟨rfl,hb.out⟩
set_option maxHeartbeats 2000000 in
set_option maxRecDepth 100000 in
theorem x_isPattern (p:ByteArray)(h1:1≤p.size)(h2:p.size≤32)(h:pat01x p=true)(w:World)(E:Env w):Calls Tryz.prog 175 #[.string (⟨#[37]⟩++p)] w (YesW w):=by
  have hz:((⟨#[37]⟩:ByteArray)++p).size=p.size+1:=by rw [ByteArray.size_append];show 1+p.size=_;omega
  have cs:=Scan_any (⟨#[37]⟩++p) w (by omega) E
  obtain ⟨c,hc⟩:=one_pat h1 h2 h
  rw [hc] at cs
  generalize (⟨#[37]⟩:ByteArray)++p=s at *
  replace cs:=Lib.hid cs
  have bA:(s.toList == s.toList)=true:=by simp
  clear E h hc
  go_enter Tryz.func175,Tryz.ntmps175
  go_wp2_with (go_at_call 203;refine cs.out.mono ?_;rintro e w' ⟨v,rfl,ho,hb,_⟩;obtain ⟨g,cp,rfl⟩:=Go.Joins.ownsRow_form ho (by show (0:Nat)<2;decide);obtain ⟨e0,e1⟩:=own_two ho;have hb:=Lib.hid hb;clear ho)
  go_ret
  exact ⟨rfl,hb.out⟩
theorem cells3 {w:World}{g:Nat}{x0 x1 x2:Value}{t:TypeId}{fr:Nat×Nat}(h:w.heap[g]?=some (.cells #[x0,x1,x2] t fr)) :
    w.cell? ⟨g,0,none⟩=some x0∧w.cell? ⟨g,1,none⟩=some x1∧w.cell? ⟨g,2,none⟩=some x2:=by
  refine ⟨?_,?_,?_⟩<;>rw [cell_of_row w g _ _ t fr h]<;>rfl
set_option maxHeartbeats 8000000 in
set_option maxRecDepth 100000 in
theorem x_written (t:TestS)(h:WrT t)(w:World)(E:Env w):Calls Tryz.prog 145 #[.agg (testV t).toArray] w (YesW w):=by
  obtain ⟨W,hW⟩:∃ W,w.alloc (.cells (testV t).toArray 202 (0,0))=W:=⟨_,rfl⟩
  have hbT:=Lib.hid (show Below w.heap.size w W by rw [← hW];exact (Below.refl w.heap.size w).alloc (Nat.le_refl _) _)
  have hX:W.heap[w.heap.size]?=some (.cells (testV t).toArray 202 (0,0)):=by rw [← hW];exact heap_alloc_new w _
  have hl:=(Array.getElem?_eq_some_iff.1 hX).1
  have hE:=Lib.hid fun w' (hb:Below W.heap.size W w')=>(E.below hbT.out).below hb
  have cN:=Lib.hid fun w' hE=>x_isName t.field h.nm w' hE
  have cP:=Lib.hid fun (hf:t.form=4) w' hE=>x_isPattern t.pat (h.pat4 hf).1.1 (h.pat4 hf).1.2 (h.pat4 hf).2 w' hE
  have b3:¬ t.field.toList=[97,110,121]:=fun e=>h.nany (ByteArray.ext (Array.ext' (by rw [ByteArray.toList_eq] at e;exact e)))
  have b4:¬ t.field.toList=[110,111,110,101]:=fun e=>h.nnone (ByteArray.ext (Array.ext' (by rw [ByteArray.toList_eq] at e;exact e)))
  have b1:(t.field.toList == [97,110,121])=false:=by rw [beq_eq_false_iff_ne];exact b3
  have b2:(t.field.toList == [110,111,110,101])=false:=by rw [beq_eq_false_iff_ne];exact b4
  have hop:=h.op
  have hfm:=h.form
  have htw:=h.two
  have hlo:=h.lo
  have hhi:=h.hi
  have hln:=h.len
  have hpt:=h.pat
  have hp4:=fun hf=>(h.pat4 hf).1.2
  clear h E
  obtain ⟨tf,op,fm,lo,hi,ln,pt⟩:=t
  simp only [testV] at *
  obtain ⟨hlo,hlo2⟩:=hlo
  obtain ⟨hhi,hhi2⟩:=hhi
  obtain ⟨hln,hln2⟩:=hln
  have z0:=cell_of_row W _ 0 _ _ _ hX
  have z1:=cell_of_row W _ 1 _ _ _ hX
  have z2:=cell_of_row W _ 2 _ _ _ hX
  have z3:=cell_of_row W _ 3 _ _ _ hX
  have z4:=cell_of_row W _ 4 _ _ _ hX
  have z5:=cell_of_row W _ 5 _ _ _ hX
  have z6:=cell_of_row W _ 6 _ _ _ hX
  simp only [List.getElem?_toArray,List.getElem?_cons_zero,List.getElem?_cons_succ] at z0 z1 z2 z3 z4 z5 z6
  go_enter Tryz.func145,Tryz.ntmps145
  go_upto_region 1 with fail
  clear hW
  have hw1:=Lib.hid fun o=>(Below.refl W.heap.size W).alloc (Nat.le_refl _) o
  go_cut [3] (fun u wx=>u=.pointer (some ⟨W.heap.size,0,none⟩)∧Hid (wx.heap[W.heap.size]?=some (.cells #[.string tf, .int .i64 op, .int .i64 fm, .int .i64 0, .int .i64 0, .int .i64 0, .string ⟨#[]⟩] 45 (0,0)))∧Hid (Below W.heap.size W wx))
  case first=>
    go_wp2_with fail
    go_meet
    exact ⟨rfl,Lib.hid (heap_alloc_new W _),hw1.out _⟩
  case rest=>
  obtain ⟨rfl,hY,hbW⟩:=hcut
  obtain ⟨wd,rfl⟩:∃ wd,wd=wc:=⟨_,rfl⟩
  obtain ⟨M,hM⟩:∃ M,M=W.heap.size:=⟨_,rfl⟩
  rw [← hM] at hY
  have hMl:=(Array.getElem?_eq_some_iff.1 hY.out).1
  have hst:Hid (∀ (i:Nat) (u:Value),Below W.heap.size W (wd.setCell ⟨M,i,none⟩ u)):=Lib.hid fun i u=>hbW.out.setCell (p:=⟨M,i,none⟩) (show W.heap.size≤M by omega) u
  have hst2:Hid (∀ (i j:Nat) (u v:Value),Below W.heap.size W ((wd.setCell ⟨M,i,none⟩ u).setCell ⟨M,j,none⟩ v)):=Lib.hid fun i j u v=>(hst.out i u).setCell (p:=⟨M,j,none⟩) (show W.heap.size≤M by omega) v
  have hs1:=Lib.hid fun i u=>heap_setCell_same wd M i _ _ u hY.out
  have hs2:=Lib.hid fun i j u v=>heap_setCell_same _ M j _ _ v (hs1.out i u)
  have hlt:w.heap.size<W.heap.size:=hl
  have x0:=(hbW.out.cell (p:=⟨w.heap.size,0,none⟩) hl).trans z0
  have x1:=(hbW.out.cell (p:=⟨w.heap.size,1,none⟩) hl).trans z1
  have x2:=(hbW.out.cell (p:=⟨w.heap.size,2,none⟩) hl).trans z2
  have x3:=(hbW.out.cell (p:=⟨w.heap.size,3,none⟩) hl).trans z3
  have x4:=(hbW.out.cell (p:=⟨w.heap.size,4,none⟩) hl).trans z4
  have x5:=(hbW.out.cell (p:=⟨w.heap.size,5,none⟩) hl).trans z5
  have x6:=(hbW.out.cell (p:=⟨w.heap.size,6,none⟩) hl).trans z6
  obtain ⟨y0,y1,y2,y3,y4,y5,y6⟩:=cells7 hY.out
  have f0:∀ i,wd.frozen? ⟨M,i,none⟩=false:=Lib.frozen_of_heap hY.out
  subst hM
  replace z0:=Lib.hid z0
  replace z1:=Lib.hid z1
  replace z2:=Lib.hid z2
  replace z3:=Lib.hid z3
  replace z4:=Lib.hid z4
  replace z5:=Lib.hid z5
  replace z6:=Lib.hid z6
  rcases (show fm=1∨fm=2∨fm=3∨fm=4 by omega) with rfl|rfl|rfl|rfl
  case' inl=>
    obtain rfl:hi=0:=hhi2 (by decide)
    obtain rfl:ln=0:=hln2 (by decide)
    obtain rfl:pt=⟨#[]⟩:=by_empty (List.length_eq_zero_iff.1 (hpt (by decide)))
    go_wp2_with fail
    generalize hXe:World.alloc (wd.setCell ⟨W.heap.size,3,none⟩ (.int .i64 lo)) _=X
    have hXb:Hid (Below W.heap.size W X):=Lib.hid (by rw [← hXe];exact (hst.out _ _).alloc (hst.out _ _).size _)
    have hXr:Hid (X.heap[wd.heap.size]?=some (.cells #[.int .i64 lo, .int .i64 0, .int .i64 0] 3 (0,0))):=Lib.hid (by rw [← hXe,← World.size_setCell wd ⟨W.heap.size,3,none⟩ (.int .i64 lo)];exact heap_alloc_new _ _)
    obtain ⟨v0,v1,v2⟩:=cells3 hXr.out
    clear hXe hXr x0 x1 x2 x3 x4 x5 x6 y0 y1 y2 y3 y4 y5 y6 f0
    have hv0:(0:Int)≤0∧(0:Int)≤4294967295:=by decide
    have hv1:(0:Int)≤0∧(0:Int)≤4294967295:=by decide
  case' inr.inl=>
    obtain rfl:hi=0:=hhi2 (by decide)
    obtain rfl:pt=⟨#[]⟩:=by_empty (List.length_eq_zero_iff.1 (hpt (by decide)))
    go_upto_region 7 with fail
    have hne:¬ w.heap.size=W.heap.size:=by omega
    have hne2:¬ W.heap.size=w.heap.size:=by omega
    have hk1:=fun (i:Nat) (u:Value)=>((hst.out i u).drew.cell (p:=⟨w.heap.size,3,none⟩) hl).trans z3.out
    have hk2:=fun (i:Nat) (u:Value)=>((hst.out i u).drew.cell (p:=⟨w.heap.size,5,none⟩) hl).trans z5.out
    have hk3:=fun (i j:Nat) (u v:Value)=>((hst2.out i j u v).drew.cell (p:=⟨w.heap.size,3,none⟩) hl).trans z3.out
    have hk4:=fun (i j:Nat) (u v:Value)=>((hst2.out i j u v).drew.cell (p:=⟨w.heap.size,5,none⟩) hl).trans z5.out
    go_region_held3 (fun W'=>W'.cell? ⟨w.heap.size,3,none⟩=some (.int .i64 lo)∧W'.cell? ⟨w.heap.size,5,none⟩=some (.int .i64 ln)) (first|exact hHeld|go_keep|exact ⟨hk1 _ _,hk2 _ _⟩|exact ⟨hk3 _ _ _ _,hk4 _ _ _ _⟩) (fail)
    go_wp2_with fail
    generalize hXe:World.drew (World.alloc (World.setCell (World.setCell wd ⟨W.heap.size,3,none⟩ (.int .i64 lo)) ⟨W.heap.size,5,none⟩ (.int .i64 ln)) _)=X
    have hXb:Hid (Below W.heap.size W X):=Lib.hid (by rw [← hXe];exact ((hst2.out _ _ _ _).alloc (hst2.out _ _ _ _).size _).drew)
    have hXr:Hid (X.heap[wd.heap.size]?=some (.cells #[.int .i64 lo, .int .i64 0, .int .i64 ln] 3 (0,0))):=Lib.hid (by rw [← hXe,← World.size_setCell wd ⟨W.heap.size,3,none⟩ (.int .i64 lo),← World.size_setCell (World.setCell wd ⟨W.heap.size,3,none⟩ (.int .i64 lo)) ⟨W.heap.size,5,none⟩ (.int .i64 ln)];exact heap_alloc_new _ _)
    obtain ⟨v0,v1,v2⟩:=cells3 hXr.out
    clear hXe hXr x0 x1 x2 x3 x4 x5 x6 y0 y1 y2 y3 y4 y5 y6 f0
    have hv0:(0:Int)≤ln∧(ln:Int)≤4294967295:=by omega
    clear hne hne2 hk1 hk2 hk3 hk4
  case' inr.inr.inl=>
    obtain rfl:ln=0:=hln2 (by decide)
    obtain rfl:pt=⟨#[]⟩:=by_empty (List.length_eq_zero_iff.1 (hpt (by decide)))
    go_upto_region 9 with fail
    have hne:¬ w.heap.size=W.heap.size:=by omega
    have hne2:¬ W.heap.size=w.heap.size:=by omega
    have hk1:=fun (i:Nat) (u:Value)=>((hst.out i u).drew.cell (p:=⟨w.heap.size,3,none⟩) hl).trans z3.out
    have hk2:=fun (i:Nat) (u:Value)=>((hst.out i u).drew.cell (p:=⟨w.heap.size,4,none⟩) hl).trans z4.out
    have hk3:=fun (i j:Nat) (u v:Value)=>((hst2.out i j u v).drew.cell (p:=⟨w.heap.size,3,none⟩) hl).trans z3.out
    have hk4:=fun (i j:Nat) (u v:Value)=>((hst2.out i j u v).drew.cell (p:=⟨w.heap.size,4,none⟩) hl).trans z4.out
    go_region_held3 (fun W'=>W'.cell? ⟨w.heap.size,3,none⟩=some (.int .i64 lo)∧W'.cell? ⟨w.heap.size,4,none⟩=some (.int .i64 hi)) (first|exact hHeld|go_keep|exact ⟨hk1 _ _,hk2 _ _⟩|exact ⟨hk3 _ _ _ _,hk4 _ _ _ _⟩) (fail)
    go_wp2_with fail
    generalize hXe:World.drew (World.alloc (World.setCell (World.setCell wd ⟨W.heap.size,3,none⟩ (.int .i64 lo)) ⟨W.heap.size,4,none⟩ (.int .i64 hi)) _)=X
    have hXb:Hid (Below W.heap.size W X):=Lib.hid (by rw [← hXe];exact ((hst2.out _ _ _ _).alloc (hst2.out _ _ _ _).size _).drew)
    have hXr:Hid (X.heap[wd.heap.size]?=some (.cells #[.int .i64 lo, .int .i64 hi, .int .i64 0] 3 (0,0))):=Lib.hid (by rw [← hXe,← World.size_setCell wd ⟨W.heap.size,3,none⟩ (.int .i64 lo),← World.size_setCell (World.setCell wd ⟨W.heap.size,3,none⟩ (.int .i64 lo)) ⟨W.heap.size,4,none⟩ (.int .i64 hi)];exact heap_alloc_new _ _)
    obtain ⟨v0,v1,v2⟩:=cells3 hXr.out
    clear hXe hXr x0 x1 x2 x3 x4 x5 x6 y0 y1 y2 y3 y4 y5 y6 f0
    have hv0:(0:Int)≤hi∧(hi:Int)≤4294967295:=by omega
    clear hne hne2 hk1 hk2 hk3 hk4
  case' inr.inr.inr=>
    obtain rfl:hi=0:=hhi2 (by decide)
    obtain rfl:ln=0:=hln2 (by decide)
    obtain rfl:lo=0:=hlo2 rfl
    have cp:=Lib.hid (cP.out rfl (wd.setCell ⟨W.heap.size,6,none⟩ (.string pt)) (hE.out _ (hst.out _ _)))
    have hst6:=Lib.hid (hst.out 6 (.string pt))
    have hs6:(wd.setCell ⟨W.heap.size,6,none⟩ (.string pt)).heap[W.heap.size]?=some (.cells #[.string tf, .int .i64 op, .int .i64 4, .int .i64 0, .int .i64 0, .int .i64 0, .string pt] 45 (0,0)):=by simpa using hs1.out 6 (.string pt)
    have hlt6:=Lib.hid (Array.getElem?_eq_some_iff.1 hs6).1
    replace hs6:=Lib.hid hs6
    have hp5:=hp4 rfl
    have g1:¬ 9223372036854775807<(ByteArray.mk #[37]).size+pt.size:=by rw [show (ByteArray.mk #[37]).size=1 from rfl];omega
    go_wp2_with (go_at_call 175;refine cp.out.mono ?_;rintro e w8 ⟨rfl,hb8⟩;have hB8:=Lib.hid (hst6.out.trans (hb8.mono hst6.out.size));obtain ⟨q0,q1,q2,q3,q4,q5,q6⟩:=cells7 ((hb8.block _ hlt6.out).trans hs6.out);have p0:=(hB8.out.cell (p:=⟨w.heap.size,0,none⟩) hl).trans z0.out;have p1:=(hB8.out.cell (p:=⟨w.heap.size,1,none⟩) hl).trans z1.out;have p2:=(hB8.out.cell (p:=⟨w.heap.size,2,none⟩) hl).trans z2.out;have p3:=(hB8.out.cell (p:=⟨w.heap.size,3,none⟩) hl).trans z3.out;have p4:=(hB8.out.cell (p:=⟨w.heap.size,4,none⟩) hl).trans z4.out;have p5:=(hB8.out.cell (p:=⟨w.heap.size,5,none⟩) hl).trans z5.out;have p6:=(hB8.out.cell (p:=⟨w.heap.size,6,none⟩) hl).trans z6.out;clear hb8 x0 x1 x2 x3 x4 x5 x6 y0 y1 y2 y3 y4 y5 y6)
    generalize hXe:World.alloc w8 _=X
    have hXb:Hid (Below W.heap.size W X):=Lib.hid (by rw [← hXe];exact hB8.out.alloc hB8.out.size _)
    obtain ⟨v0,v1,v2⟩:=cells3 (show X.heap[w8.heap.size]?=some (.cells #[.int .i64 0, .int .i64 0, .int .i64 0] 3 (0,0)) by rw [← hXe];exact heap_alloc_new _ _)
    clear hXe q0 q1 q2 q3 q4 q5 q6 p0 p1 p2 p3 p4 p5 p6
  all_goals
    have u0:=(hXb.out.cell (p:=⟨w.heap.size,0,none⟩) hl).trans z0.out
    have cn:=Lib.hid (cN.out X (hE.out X hXb.out))
    have hbX:=Lib.hid (hbT.out.trans (hXb.out.mono hbT.out.size))
    refine wp_loop_rounds 4 ?_
    rw [rounds_succ]
    go_wp2_with fail
    rw [rounds_succ]
    go_wp2_with fail
    rw [rounds_succ]
    go_wp2_with fail
    rw [rounds_succ]
    go_wp2_with (go_at_call 176;refine cn.out.mono ?_;rintro e w9 ⟨rfl,hb9⟩;have hb10:=Lib.hid (hbX.out.trans (hb9.mono hbX.out.size));have u9:=(hb9.cell (p:=⟨w.heap.size,0,none⟩) (World.block_lt_of_cell? X _ u0)).trans u0;clear hb9)
    go_ret
    exact ⟨rfl,hb10.out⟩
set_option maxHeartbeats 8000000 in
set_option maxRecDepth 100000 in
theorem x_Print (l : List NodeS) (v : Value) (B : Nat) (w : World) (hl : Nodes w B v l) (hB : B ≤ w.heap.size) (h : WrN l) (E : Env w) :
    Calls Tryz.prog 116 #[v] w (NumW (nodesT l) w):=by
  obtain ⟨hlen,t,hbt,hn32,hwr⟩:=h
  obtain ⟨A,cap,rfl,hcl,hcap⟩:=SlOf.form hl
  have cB:=Lib.hid (x_build l _ B w hl hB hlen)
  have hR:Hid (nodesT l=t.text):=Lib.hid (by unfold nodesT;rw [hbt])
  have hall:=buildS_all hbt hwr
  have hsz:=buildS_sz hbt
  have htl:=Tree.text_le hall
  have cN:=Lib.hid (nest_is t (by omega))
  have cT:=Lib.hid (text_is t hall (by omega))
  obtain ⟨T,x,hT,hm,hn,hq⟩:=me_nest t
  obtain ⟨T',x',hT',hm',hn',hq'⟩:=me_text t
  obtain ⟨rfl,rfl⟩:T=T'∧x=x':=by have:=hT.symm.trans hT';injection this with a b;exact ⟨a,b⟩
  replace cN:=Lib.hid fun w'=>cN.out x w' ⟨T,hT⟩
  replace cT:=Lib.hid fun w' hE=>cT.out x w' ⟨T,hT⟩ hE
  rw [hbt] at cB
  replace hT:=Lib.hid hT
  replace hl:=Lib.hid hl
  replace E:=Lib.hid E
  replace hwr:=Lib.hid hwr
  clear hbt hsz hall htl hT'
  generalize nestF t=F at *
  generalize textF t=F2 at *
  generalize t.nest=n at *
  generalize nodesT l=R at *
  generalize t.text=R2 at *
  go_enter Tryz.func116,Tryz.ntmps116
  go_wp2_with (go_at_call 131;refine cB.out.mono ?_;rintro e w3 ⟨⟨tv,b,rfl,rfl,htv⟩,hb4⟩;obtain rfl:tv=.iface T x:=(htv t rfl).trans hT.out;simp only [Option.isSome_some];have hb5:=Lib.hid hb4;clear hb4 htv)
  have hb0:=hb5
  clear hb5 cB
  go_loopw [20] (fun i wr=>∃ k:Nat,k≤l.length∧i=.int .i64 k∧Hid (Below w.heap.size w wr)) (fun i _=>l.length-(intOf i).toNat)
  case atStart=>exact ⟨0,Nat.zero_le _,rfl,hb0⟩
  case round=>
    obtain ⟨k,hk,rfl,hbw⟩:=hrel
    clear hb0
    by_cases hlt:k<l.length
    · have hN:=Nodes.below hl.out hbw.out hB
      obtain ⟨b,off,rfl⟩:=SlOf.addr hN (by omega)
      obtain ⟨hb,y,hy,hy1,hy2,e0,e1,e2,e3,e4,e5,e6,e7⟩:=nodes_el hN hlt
      have hwy:=Lib.hid (hwr.out y (List.mem_of_getElem? hy))
      clear hN hy cN cT hm hn hq hm' hn' hq' hn32
      obtain ⟨kd,⟨tf,op,fm,lo,hi,ln,pt⟩⟩:=y
      simp only at hy1 hy2 e0 e1 e2 e3 e4 e5 e6 e7 hwy
      have hzw:=hbw.out.size
      have hbA:=Lib.hid fun o=>hbw.out.alloc hzw o
      go_upto_region 8 with fail
      go_cut [7] (fun u wx=>u=.pointer (some ⟨wr.heap.size,0,none⟩)∧Hid (wx.heap[wr.heap.size]?=some (.cells #[.int .i64 kd, .string tf, .int .i64 op, .int .i64 fm, .int .i64 lo, .int .i64 hi, .int .i64 ln, .string pt] 47 (0,0)))∧Hid (Below w.heap.size w wx))
      case first=>
        go_wp2_with fail
        go_meet
        exact ⟨rfl,Lib.hid (heap_alloc_new wr _),hbA.out _⟩
      case rest=>
      obtain ⟨rfl,hX,hbW⟩:=hcut
      clear hbA e0 e1 e2 e3 e4 e5 e6 e7
      have n0:wc.cell? ⟨wr.heap.size,0,none⟩=some (.int .i64 kd):=by rw [cell_of_row wc _ _ _ _ _ hX.out];rfl
      obtain ⟨n1,n2,n3,n4,n5,n6,n7⟩:=cellsT hX.out
      clear hX
      by_cases h3:kd=3
      · have cW:=Lib.hid (x_written ⟨tf,op,fm,lo,hi,ln,pt⟩ (hwy.out h3) wc (E.out.below hbW.out))
        subst h3
        go_wp2_with (go_at_call 145;refine cW.out.mono ?_;rintro e w5 ⟨rfl,hb8⟩;have hb9:=Lib.hid (hbW.out.trans (hb8.mono hbW.out.size));clear hb8)
        go_roundw
        case rel=>exact ⟨k+1,by omega,by go_num,hb9⟩
        case measure=>simp [intOf];omega
      · have h3':(kd == 3)=false:=by simp [h3]
        go_wp2_with fail
        go_roundw
        case rel=>exact ⟨k+1,by omega,by go_num,hbW⟩
        case measure=>simp [intOf];omega
    · go_wp2_with (first
        | ((with_reducible refine (cN.out _).mono ?_);rintro e w4 ⟨rfl,hb6⟩;have hb7:=Lib.hid (hbw.out.trans (hb6.mono hbw.out.size));clear hb6)
        | ((with_reducible refine (cT.out _ (E.out.below hb7.out)).mono ?_);rintro e w6 ⟨rfl,hb8⟩;have hb9:=Lib.hid (hb7.out.trans (hb8.mono hb7.out.size));clear hb8))
      go_ret2
      exact ⟨by rw [hR.out];rfl,hb9.out⟩
end Go.Proofs.YtdhehcobnbcmdaaGreatDoor
