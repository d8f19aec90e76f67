/- A part of the proof of RunParses: QrE QrF AskA. -/
import Derived.Test.YtjokciofeicdkaaGreatDoorPY
import Derived.Laws.EntriesVeiled
set_option maxHeartbeats 16000000
set_option maxRecDepth 100000
set_option linter.all false
namespace Go.Proofs.YtjokciofeicdkaaGreatDoor
open Go.RowKit
attribute [local go_sem ↓] Go.wp_at_zero Go.wp_at_succ
theorem set_info:(Tryz.prog.info? 88).map (fun i=>(i.zero,i.size,i.bytes))=some (some (.agg #[.string ByteArray.empty,.int .i64 0]),2,24):=by kernel_rfl
theorem flatS_snoc (q:List (ByteArray×Int))(x:ByteArray×Int):flatS (q++[x])=flatS q++[.string x.1,.int .i64 x.2]:=by simp [flatS,setV]
theorem QrAt.keepB {w w':World}{M g cap i:Nat}{l:List Tk}(h:QrAt w M g cap l i)(hb:Below (M+1) w w'):QrAt w' M g cap l i:=
 ⟨(hb.block M (Nat.lt_succ_self M)).trans h.box,h.gM,h.toks.below (hb.mono (Nat.le_succ M)) h.gM,h.env.next (hb.mono (Nat.le_succ M)),h.wd.keep (hb.block _ (Nat.lt_succ_of_lt h.wM)),h.wM⟩
theorem AkAt.putS {w w4:World}{M K N g' cap':Nat}{a:AskS}{vW vS:Value}{x:ByteArray×Int}(A:AkAt w M K N a vW vS)(hg:(w.alloc (.cells #[.string x.1,.int .i64 x.2] 88)).grownBy w4 vS.ownBlock)
  (hat:vS.ownBlock=some g'∨g'=w.heap.size+1)
  (ho:w4.ownsRow N 88 2 (.slice (some ⟨g',0,none⟩) (a.sets.length+1) cap') (a.sets.length+1) (flatS a.sets++[.string x.1,.int .i64 x.2])) :
  AkAt (w4.setCell ⟨K,5,none⟩ (.slice (some ⟨g',0,none⟩) (a.sets.length+1) cap')) M K N { a with sets:=a.sets++[x] } vW (.slice (some ⟨g',0,none⟩) (a.sets.length+1) cap') ∧
  Bk N M w (w4.setCell ⟨K,5,none⟩ (.slice (some ⟨g',0,none⟩) (a.sets.length+1) cap'))∧Below (M+1) w (w4.setCell ⟨K,5,none⟩ (.slice (some ⟨g',0,none⟩) (a.sets.length+1) cap')):=by
 have hKl:=A.lt
 have hold:∀ b,b<w.heap.size→vS.ownBlock≠some b→w4.heap[b]?=w.heap[b]?:=fun b hb hn=>
  (hg.block b (by simp;omega) (fun e=>hn e.symm)).trans (heap_alloc_old w _ hb)
 have hK4:w4.heap[K]?=some (.cells (akBox a vW vS) 43 (0,0)):=(hold K hKl A.sne).trans A.box
 have hgK:g'≠K:=fun e=>by
  obtain ⟨c,fz,h2⟩:=Lib.ownsRow_kind ho g' rfl;rw [e,hK4] at h2;simp at h2
 have hB:Below N w (w4.setCell ⟨K,5,none⟩ (.slice (some ⟨g',0,none⟩) (a.sets.length+1) cap')):=
  (((Below.refl N w).alloc A.nW _).grown hg (by have:=A.nW;simp;omega) (fun k hk=>(A.sets.lt k hk).1)).setCell (p:=⟨K,5,none⟩) A.nK _
 refine ⟨⟨?_,A.mN,A.nK,?_,?_⟩,⟨hB.os,hB.tape,hB.output,hB.size,fun b hb _=>hB.block b hb⟩,hB.mono A.mN⟩
 ·simp only [World.setCell,Array.getElem?_modify,hK4,if_pos rfl,Option.map_some];rfl
 ·refine ownsRow_setCell_other (own_heap A.nodes fun b hb=>?_) A.wne _
  refine hold b (A.nodes.lt b hb).2 fun e=>?_
  obtain ⟨c,fz,h1⟩:=Lib.ownsRow_kind A.nodes b hb;obtain ⟨c2,fz2,h2⟩:=Lib.ownsRow_kind A.sets b e;rw [h1] at h2;simp at h2
 ·show World.ownsRow _ _ _ _ _ _ _
  simp only [List.length_append,List.length_cons,List.length_nil,flatS_snoc];exact ownsRow_setCell_other ho (fun e=>by simp only [Value.ownBlock,Option.some.injEq] at e;exact hgK e) _
def atOfM (M:Nat)(w:World):Nat:=(intOf ((w.cell? ⟨M,1,none⟩).getD undef)).toNat
theorem QrAt.atOf {w:World}{M g cap i:Nat}{l:List Tk}(h:QrAt w M g cap l i):atOfM M w=i:=by
 unfold atOfM;rw [h.c1];rfl
theorem AkAt.up {w w1:World}{M K N:Nat}{a:AskS}{vW vS:Value}(h:AkAt w M K N a vW vS)(hb:Below w.heap.size w w1):AkAt w1 M K N a vW vS:=h.keep (gb_below (gb_refl _ _) hb)
theorem AkAt.setX {w:World}{M K N X j:Nat}{a:AskS}{vW vS u:Value}(h:AkAt w M K N a vW vS)(hK:X≠K)(hw:vW.ownBlock≠some X)(hs:vS.ownBlock≠some X):AkAt (w.setCell ⟨X,j,none⟩ u) M K N a vW vS:=
 ⟨(Below.heap_setCell w ⟨X,j,none⟩ u K (fun e=>hK e.symm)).trans h.box,h.mN,h.nK,ownsRow_setCell_other h.nodes hw _,ownsRow_setCell_other h.sets hs _⟩
theorem sets_succ (l:List Tk)(f i:Nat)(q:List (ByteArray×Int)):setsS l (f+1) i q =
  if kindIs l (i+1) 2=false then (50,i+1,q)
  else if isT l (i+2) 7 sIs=false then (50,i+2,q)
  else if (numbS l (i+3) 0 4294967295).2≠0 then ((numbS l (i+3) 0 4294967295).2,i+3,q)
  else if isT l (i+4) 7 sComma=false then (0,i+4,q++[(textAt l (i+1),(numbS l (i+3) 0 4294967295).1)])
  else if (q++[(textAt l (i+1),(numbS l (i+3) 0 4294967295).1)]).length=12 then (183,i+4,q++[(textAt l (i+1),(numbS l (i+3) 0 4294967295).1)])
  else setsS l f (i+4) (q++[(textAt l (i+1),(numbS l (i+3) 0 4294967295).1)]):=rfl
theorem numb_cases (l:List Tk)(i:Nat)(lo hi:Int):(numbR l i lo hi=(0,i+1)∧(numbS l i lo hi).2=0∧kindIs l i 4=true)∨((numbS l i lo hi).2≠0∧numbR l i lo hi=((numbS l i lo hi).2,i)):=by
 unfold numbR
 by_cases h:(numbS l i lo hi).2=0
 ·left;refine ⟨if_pos h,h,?_⟩;unfold numbS at h
  split at h
  ·cases h
  ·rename_i hk;simpa using hk
 ·right;exact ⟨h,if_neg h⟩
structure PkRel (w wr:World)(M g cap K N:Nat)(l:List Tk)(a:AskS)(vW vS:Value)(R:Int×Nat×List (ByteArray×Int))(f j:Nat)(q:List (ByteArray×Int)):Prop where
 P:QrAt wr M g cap l j
 A:AkAt wr M K N { a with sets:=q } vW vS
 B:Bk N M w wr
 R:R=setsS l f j q
 fq:q.length+f=12
 f1:1≤f
 k:kindIs l j 2=true∨kindIs l j 7=true
theorem q_packet {w:World}{M g cap i K N:Nat}{l:List Tk}{a:AskS}{vW vS:Value}(P:QrAt w M g cap l i)(A:AkAt w M K N a vW vS)(hi:i<l.length)(hll:l.length≤900000)(hG:∀ t∈l,TokG t)(hL:Lined l)(ha:a.sets=[]) :
  Calls Tryz.prog 90 #[.pointer (some ⟨M,0,none⟩),.pointer (some ⟨K,0,none⟩)] w fun e w'=>MdPost w M g cap l K N (pcsS l [.port,.sets] i true a) e w':=by
 have hMK:M<K:=Nat.lt_of_lt_of_le A.mN A.nK;have cc1:=Hi (q_take P hi hll 3);have P0:=Hi P;have A0:=Hi A;clear P A;rcases take_cases l i 3 with ⟨hw1,hk1⟩|⟨hw1,hk1⟩
 ·have hst1:=Stays.step hL hk1 (by decide)
  have hi1:=hst1.2.1;have hR1:=Hi ((pcs_ok (pc_port_ok hk1):pcsS l [.port,.sets] i true a=_).trans pcs_one);have hw1:=Hi hw1;clear hk1;go_enter Tryz.func90,Tryz.ntmps90;go_upto_region 1 with (go_at_call 123;refine cc1.out.mono ?_;rintro e w1 hx;obtain ⟨rfl,hK1,P1⟩:=hx.of hw1.out;have A1:=A0.out.keep hK1;have y1:=A1.free 1;have x1:=A1.c1;have hK1:=Hi hK1;have P1:=Hi P1;have A1:=Hi A1;clear hx);have P1:=Hi (P1.out.other (p:=⟨K,1,none⟩) hMK (.string (textAt l i)));have B1:=Hi ((Bk.of hK1.out A0.out.nW).set (p:=⟨K,1,none⟩) A1.out.nK (.string (textAt l i)));have A1:Hid (AkAt (w1.setCell ⟨K,1,none⟩ (.string (textAt l i))) M K N { a with src:=textAt l i } vW vS):=Hi (A1.out.set rfl rfl rfl);clear y1 x1 hK1 P0 A0;generalize w1.setCell ⟨K,1,none⟩ (.string (textAt l i))=W1 at *;have ci:=Hi (q_is P1.out hi1 2 wSet)
  cases hS:isT l (i+1) 2 wSet with
  | false=>
    rw [hS] at ci;have hR2:=Hi (hR1.out.trans (show pcS l .sets (i+1) (true && !isName? .port) (a.named (textAt l i) true)=(0,i+1,{ a with src:=textAt l i }) by unfold pcS;dsimp only;rw [if_pos hS];rfl))
    clear hR1 hS;go_wp2_with (go_at_call 27;refine ci.out.mono ?_;rintro e w2 ⟨rfl,hq⟩;have hq:=Hi hq);go_end0;exact MdPost.ok hR2.out (B1.out.trans (Bk.of (Kp.qt hq.out) A1.out.nW)) (P1.out.qt hq.out) (A1.out.keep (Kp.qt hq.out))
  | true=>
    rw [hS] at ci;have hkS:=isT_kind hS;obtain ⟨R,hRR⟩:∃ R,setsS l 12 (i+1) []=R:=⟨_,rfl⟩
    obtain ⟨a1,ha1⟩:∃ a1:AskS,a1={ a with src:=textAt l i }:=⟨_,rfl⟩
    have hR2:=Hi (hR1.out.trans (show pcS l .sets (i+1) (true && !isName? .port) (a.named (textAt l i) true)=(R.1,R.2.1,{ a1 with sets:=R.2.2 }) by rw [ha1];unfold pcS;dsimp only;rw [if_neg (by rw [hS];decide),hRR];rfl))
    have hR0:=Hi hRR.symm;clear hR1 hS hRR;go_upto_region 2 with (go_at_call 27;refine ci.out.mono ?_;rintro e w2 ⟨rfl,hq⟩;have hq:=Hi hq);have P2:=P1.out.qt hq.out;have A2:=A1.out.keep (Kp.qt hq.out);have B2:=B1.out.trans (Bk.of (Kp.qt hq.out) A1.out.nW);have A2:AkAt w2 M K N { { a with src:=textAt l i } with sets:=[] } vW vS:=by rw [← ha];exact A2
    have R0:PkRel w w2 M g cap K N l { a with src:=textAt l i } vW vS R 12 (i+1) []:=⟨P2,A2,B2,hR0.out,rfl,by decide,.inl hkS⟩
    have R0:=Hi R0;rw [← ha1] at R0;clear P1 A1 B1 hq P2 A2 B2 hR0 ci cc1 hkS ha1 hst1 hw1 ha hi hi1
    go_loopw [] (fun wr=>∃ (f j:Nat) (q:List (ByteArray×Int)) (v:Value),Hid (PkRel w wr M g cap K N l a1 vW v R f j q)) (fun wr=>l.length-atOfM M wr)
    case atStart=>exact ⟨12,i+1,[],vS,R0⟩
    case round=>
     obtain ⟨f,j,q,vq,hr⟩:=hrel;obtain ⟨wq,rfl⟩:∃ wq,wq=wr:=⟨_,rfl⟩
     have rf1:=hr.out.f1;have rf:=hr.out.fq;obtain ⟨f,rfl⟩:∃ f',f=f'+1:=⟨f-1,by omega⟩
     have hmu:=Hi (show atOfM M wq=j from hr.out.P.atOf)
     have hRs:=Hi (hr.out.R.trans (sets_succ l f j q));have hst0:Stays l j (j+1):=hr.out.k.elim (fun h=>Stays.step hL h (by decide)) (fun h=>Stays.step hL h (by decide))
     have hj1:=hst0.2.1;have z1:=hr.out.P.c1;have y1:=hr.out.P.free 1;have bwj:=wS j (by omega)
     have P1:QrAt (wq.setCell ⟨M,1,none⟩ (.int .i64 ((j:Int)+1))) M g cap l (j+1):=hr.out.P.setAt (j+1);have A1:=hr.out.A.keep (w1:=wq.setCell ⟨M,1,none⟩ (.int .i64 ((j:Int)+1))) (Kp.setAt _);have B1:=hr.out.B.trans (Bk.of (Kp.setAt (M:=M) (.int .i64 ((j:Int)+1))) hr.out.A.nW);have P1:=Hi P1;have A1:=Hi A1;have B1:=Hi B1;clear hr R0;go_upto_region 3 with fail;generalize wq.setCell ⟨M,1,none⟩ (.int .i64 ((j:Int)+1))=W1 at *;clear z1 y1;have cc1:=Hi (q_take P1.out hj1 hll 2);rcases take_cases l (j+1) 2 with ⟨hw1,hk1⟩|⟨hw1,hk1⟩
     ·have hj2:=(Stays.step hL hk1 (by decide)).2.1
      have hRs2:=Hi (hRs.out.trans (if_neg (by rw [hk1];decide)))
      have hw1:=Hi hw1;clear hRs hk1;go_upto_region 4 with (go_at_call 123;refine cc1.out.mono ?_;rintro e w3 hx;obtain ⟨rfl,hK3,P3⟩:=hx.of hw1.out;have A3:AkAt w3 M K N { a1 with sets:=q } vW vq:=A1.out.keep hK3;have B3:=Hi (B1.out.trans (Bk.of hK3 A1.out.nW));have P3:=Hi P3;have A3:=Hi A3;clear hx hK3);obtain ⟨tx,htx⟩:∃ tx,textAt l (j+1)=tx:=⟨_,rfl⟩
      rw [htx] at hRs2 ⊢;have hbX:Below w3.heap.size w3 (w3.alloc (.cells #[.string tx,.int .i64 0] 88)):=(Below.refl w3.heap.size w3).alloc (Nat.le_refl _) _;have x4:(w3.alloc (.cells #[.string tx,.int .i64 0] 88)).heap[w3.heap.size]?=some (.cells #[.string tx,.int .i64 0] 88 (0,0)):=heap_alloc_new w3 _;have P4:=Hi (P3.out.up hbX);have A4:=Hi (A3.out.up hbX);have B4:=Hi (B3.out.trans (Bk.below hbX A3.out.nW));have hXK:w3.heap.size≠K:=fun e=>by have:=A3.out.lt;omega
      have hXw:vW.ownBlock≠some w3.heap.size:=fun e=>by have:=(A3.out.nodes.lt _ e).2;omega
      have hXs:vq.ownBlock≠some w3.heap.size:=fun e=>by have:=(A3.out.sets.lt _ e).2;omega
      have hXN:N≤w3.heap.size:=A3.out.nW;have hXM:w3.heap.size≠M:=fun e=>by have:=A3.out.mN;omega
      have hXw:=Hi hXw;have hXs:=Hi hXs;have hXK:=Hi hXK;have hXM:=Hi hXM;clear P3 A3 B3 hbX cc1 htx;generalize w3.alloc (.cells #[.string tx,.int .i64 0] 88)=W4 at *;generalize w3.heap.size=X at *;have x4:=Hi x4;have cc4:=Hi (q_want P4.out hj2 hll 7 sIs);rcases want_cases l (j+1+1) 7 sIs with ⟨hw4,hk4⟩|hw4
      ·have hj3:=(Stays.step hL hk4 (by decide)).2.1
       have hRs3:=Hi (hRs2.out.trans (if_neg (show ¬ isT l (j+1+1) 7 sIs=false from fun h=>by
        unfold wantR at hw4;rw [if_neg (by rw [h];decide)] at hw4;cases hw4)))
       have hw4:=Hi hw4;clear hRs2 hk4;go_upto_region 5 with (go_at_call 48;refine cc4.out.mono ?_;rintro e w5 hx;obtain ⟨rfl,hK5,P5⟩:=hx.of hw4.out;have A5:=Hi (A4.out.keep hK5);have B5:=Hi (B4.out.trans (Bk.of hK5 A4.out.nW));have x5:=Hi ((hK5.block X (Array.getElem?_eq_some_iff.1 x4.out).1 (fun e=>hXM.out (by injection e))).trans x4.out);have P5:=Hi P5;clear hx hK5)
       clear P4 A4 B4 x4 cc4;have cc5:=Hi (q_number P5.out hj3 hll hG 0 4294967295);rcases numb_cases l (j+1+1+1) 0 4294967295 with ⟨hw5,hn5,hk5⟩|⟨hn5,hw5⟩
       ·have hj4:=(Stays.step hL hk5 (by decide)).2.1
        have hRs4:=Hi (hRs3.out.trans (if_neg (show ¬ (numbS l (j+1+1+1) 0 4294967295).2≠0 from fun h=>h hn5)))
        have hRs4:Hid (R=if isT l (j+1+1+1+1) 7 sComma=false then (0,j+1+1+1+1,q++[(tx,(numbS l (j+1+1+1) 0 4294967295).1)])
         else if (q++[(tx,(numbS l (j+1+1+1) 0 4294967295).1)]).length=12 then (183,j+1+1+1+1,q++[(tx,(numbS l (j+1+1+1) 0 4294967295).1)])
         else setsS l f (j+1+1+1+1) (q++[(tx,(numbS l (j+1+1+1) 0 4294967295).1)])):=hRs4
        obtain ⟨v,hv⟩:∃ v,(numbS l (j+1+1+1) 0 4294967295).1=v:=⟨_,rfl⟩
        rw [hv] at cc5 hRs4;have hw5:=Hi hw5;clear hRs3 hk5 hn5 hv;go_upto_region 6 with (go_at_call 47;refine cc5.out.mono ?_;rintro e w6 hx;obtain ⟨rfl,hK6,P6⟩:=hx.of hw5.out;have A6:=Hi (A5.out.keep hK6);have B6:=Hi (B5.out.trans (Bk.of hK6 A5.out.nW));have x6:=(hK6.block X (Array.getElem?_eq_some_iff.1 x5.out).1 (fun e=>hXM.out (by injection e))).trans x5.out;have xc1:=cell_of_row w6 X 1 _ _ _ x6;simp only [List.getElem?_toArray,List.getElem?_cons_zero,List.getElem?_cons_succ] at xc1;have xf1:w6.frozen? ⟨X,1,none⟩=false:=(by simp [World.frozen?,x6]);have x6:=Hi x6;have P6:=Hi P6;clear hx hK6)
        have hMX:M<X:=by have:=A6.out.mN;omega
        have A7:=Hi (A6.out.setX (j:=1) (u:=.int .i64 v) hXK.out hXw.out hXs.out);have P7:=Hi (P6.out.other (p:=⟨X,1,none⟩) hMX (.int .i64 v));have B7:=Hi (B6.out.set (p:=⟨X,1,none⟩) hXN (.int .i64 v));have x7:(w6.setCell ⟨X,1,none⟩ (.int .i64 v)).heap[X]?=some (.cells #[.string tx,.int .i64 v] 88 (0,0)):=by rw [setM_box x6.out];rfl
        clear A6 P6 B6 x6 xc1 xf1 P5 A5 B5 x5 cc5;generalize w6.setCell ⟨X,1,none⟩ (.int .i64 v)=W7 at *;have xc0:=cell_of_row W7 X 0 _ _ _ x7;have xc1:=cell_of_row W7 X 1 _ _ _ x7;simp only [List.getElem?_toArray,List.getElem?_cons_zero,List.getElem?_cons_succ] at xc0 xc1;have k5:W7.cell? ⟨K,5,none⟩=some vq:=A7.out.c5;have kf5:=A7.out.free 5;have hKl:=A7.out.lt;have hKs:=Hi A7.out.sne;have hNl:=A7.out.nW;have hO:W7.ownsRow N 88 2 vq q.length (flatS q):=A7.out.sets;have hO:=Hi hO;obtain ⟨i0,hi0,hz0,hz1,hz2⟩:=info_parts set_info;have hi0:=Hi hi0;have hz0:=Hi hz0;have hz1:=Hi hz1;have hz2:=Hi hz2;clear x7
        go_cut [35] (fun y wx=>∃ v2,Hid (AkAt wx M K N { a1 with sets:=q++[(tx,v)] } vW v2)∧Hid (Bk N M w wx)∧Hid (QrAt wx M g cap l (j+1+1+1+1)))
        case first=>
         go_region_law (refine step_append_lies _ (by rfl) (.tmp 32) (.tmp 34) _ (by rfl) N 88 i0 _ 2 24 Tryz.underlying41 hi0.out hz0.out hz1.out hz2.out rfl (by decide) vq q.length (flatS q) (by rfl) ((World.ownsRow.alloc hO.out _).drew) ⟨W7.heap.size,0,none⟩ 1 1 [.string tx,.int .i64 v] (by rfl) (by rfl) (World.news_of_block (heap_alloc_new W7 _)) (oc _ rfl) (by decide) (by unfold maxLen;omega) (by omega) (by simp;omega) (W7.heap.size+1) (by simp) ?_;intro g' cap' w8 hown4 hg4 hat4 hlt4;have k58:=hg4.cell (((Below.refl _ W7).alloc (Nat.le_refl _) (.cells #[.string tx,.int .i64 v] 88)).cell (p:=⟨K,5,none⟩) hKl |>.trans k5) (fun e=>hKs.out e.symm);have f58:=(hg4.frozen_far (a:=⟨K,5,none⟩) (by simp;omega) (fun e=>hKs.out e.symm)).trans ((((Below.refl _ W7).alloc (Nat.le_refl _) (.cells #[.string tx,.int .i64 v] 88)).frozen (p:=⟨K,5,none⟩) hKl).trans kf5);have hown5:=Hi hown4;have hg5:=Hi hg4;have hat5:=Hi hat4;clear hown4 hg4 hat4)
         all_goals (
          obtain ⟨A8,B8,C8⟩:=A7.out.putS (x:=(tx,v)) (grown_undrew hg5.out) hat5.out hown5.out;have A8:=Hi A8;have B8:=Hi (B7.out.trans B8);have P8:=Hi (P7.out.keepB C8);clear k58 f58;go_wp2_with fail;go_meet;exact ⟨_,A8,B8,P8⟩)
        case rest=>
         obtain ⟨v2,A8,B8,P8⟩:=hcut;clear xc0 xc1 k5 kf5 hO A7 B7 P7 hKs;have ci8:=Hi (q_is P8.out hj4 7 sComma)
         cases hS:isT l (j+1+1+1+1) 7 sComma with
         | false=>
           rw [hS] at ci8;have hRs5:=Hi (hRs4.out.trans (if_pos hS));clear hRs4 hS;go_wp2_with (go_at_call 27;refine ci8.out.mono ?_;rintro e w9 ⟨rfl,hq9⟩;have hq9:=Hi hq9);go_end0;refine MdPost.ok (j:=j+1+1+1+1) (a:={ a1 with sets:=q++[(tx,v)] }) ?_ (B8.out.trans (Bk.of (Kp.qt hq9.out) A8.out.nW)) (P8.out.qt hq9.out) (A8.out.keep (Kp.qt hq9.out));rw [hR2.out,hRs5.out]
         | true=>
           rw [hS] at ci8;have hk8:=isT_kind hS;have hRs5:=Hi (hRs4.out.trans (if_neg (by rw [hS];decide)))
           clear hRs4 hS;have hql:(q++[(tx,v)]).length=q.length+1:=by simp
           obtain ⟨A2',c2',rfl⟩:=own_shape A8.out.sets;have hk58:wc.cell? ⟨K,5,none⟩=some (.slice A2' (q.length+1) c2'):=by have:=A8.out.c5;simpa using this
           by_cases h12:q.length+1=12
           ·have hRs6:=Hi (hRs5.out.trans (if_pos (by rw [hql];exact h12)))
            have b12:(((q.length:Int)+1) == 12)=true:=by rw [beq_iff_eq];omega
            have cf9:=Hi (fun W (hq:Qt wc W)=>q_fail (P8.out.qt hq) hj4 183)
            clear hRs5 h12 hql;go_wp2_with (first|(go_at_call 27;refine ci8.out.mono ?_;rintro e w9 ⟨rfl,hq9⟩;have k59:=(hq9.below wc.heap.size).cell (p:=⟨K,5,none⟩) A8.out.lt |>.trans hk58;have hq9:=Hi hq9)|(go_at_call 46;refine (cf9.out _ hq9.out).mono ?_;rintro e w10 ⟨rfl,hq10⟩;have hq10:=Hi (hq9.out.trans hq10)))
            refine ⟨rfl,MdPost.bad (c:=183) (j:=j+1+1+1+1) (a:={ a1 with sets:=q++[(tx,v)] }) ?_ (by decide) (B8.out.trans (Bk.of (Kp.qt hq10.out) A8.out.nW)) (P8.out.qt hq10.out)⟩
            rw [hR2.out,hRs6.out]
           ·have hRs6:=Hi (hRs5.out.trans (if_neg (by rw [hql];exact h12)))
            have b12:(((q.length:Int)+1) == 12)=false:=by rw [beq_eq_false_iff_ne];omega
            have h12:=Hi h12;have hql:=Hi hql;clear hRs5;go_wp2_with (go_at_call 27;refine ci8.out.mono ?_;rintro e w9 ⟨rfl,hq9⟩;have k59:=(hq9.below wc.heap.size).cell (p:=⟨K,5,none⟩) A8.out.lt |>.trans hk58;have hq9:=Hi hq9);refine ⟨⟨f,j+1+1+1+1,q++[(tx,v)],_,Hi ⟨P8.out.qt hq9.out,A8.out.keep (Kp.qt hq9.out),B8.out.trans (Bk.of (Kp.qt hq9.out) A8.out.nW),hRs6.out,by rw [hql.out];omega,by have:=h12.out;omega,.inr hk8⟩⟩,?_⟩
            rw [hmu.out,(P8.out.qt hq9.out).atOf];omega
       ·have hRs4:=Hi (hRs3.out.trans (if_pos hn5));have hw5:=Hi hw5;have hn5:=Hi hn5;clear hRs3;go_wp2_with (go_at_call 47;refine cc5.out.mono ?_;rintro e w6 hx;obtain ⟨rfl,hK6,P6⟩:=hx.off hw5.out hn5.out;have hK6:=Hi hK6;have P6:=Hi P6;clear hx);refine ⟨rfl,MdPost.bad (c:=(numbS l (j+1+1+1) 0 4294967295).2) (j:=j+1+1+1) (a:={ a1 with sets:=q }) ?_ hn5.out (B5.out.trans (Bk.of hK6.out A5.out.nW)) P6.out⟩;rw [hR2.out,hRs4.out]
      ·have hRs3:=Hi (hRs2.out.trans (if_pos (show isT l (j+1+1) 7 sIs=false from by
        unfold wantR at hw4
        cases h:isT l (j+1+1) 7 sIs with
        | false=>rfl
        | true=>rw [if_pos h] at hw4;cases hw4)))
       have hw4:=Hi hw4;clear hRs2;go_wp2_with (go_at_call 48;refine cc4.out.mono ?_;rintro e w5 hx;obtain ⟨rfl,hK5,P5⟩:=hx.off hw4.out (by decide);have hK5:=Hi hK5;have P5:=Hi P5;clear hx)
       refine ⟨rfl,MdPost.bad (c:=50) (j:=j+1+1) (a:={ a1 with sets:=q }) ?_ (by decide) (B4.out.trans (Bk.of hK5.out A4.out.nW)) P5.out⟩
       rw [hR2.out,hRs3.out]
     ·have hRs2:=Hi (hRs.out.trans (if_pos hk1));have hw1:=Hi hw1;clear hRs hk1;go_wp2_with (go_at_call 123;refine cc1.out.mono ?_;rintro e w3 hx;obtain ⟨rfl,hK3,P3⟩:=hx.off hw1.out (by decide);have hK3:=Hi hK3;have P3:=Hi P3;clear hx)
      refine ⟨rfl,MdPost.bad (c:=50) (j:=j+1) (a:={ a1 with sets:=q }) ?_ (by decide) (B1.out.trans (Bk.of hK3.out A1.out.nW)) P3.out⟩
      rw [hR2.out,hRs2.out]
 ·have H:=Hi ((pcs_bad (c:=50) (j:=i) (b:=a) (pc_port_bad hk1) (by decide)):pcsS l [.port,.sets] i true a=_)
  have hw1:=Hi hw1;go_enter Tryz.func90,Tryz.ntmps90;go_wp2_with (go_at_call 123;refine cc1.out.mono ?_;rintro e w1 hx;obtain ⟨rfl,hK1,P1⟩:=hx.off hw1.out (by decide);have hK1:=Hi hK1;have P1:=Hi P1;clear hx)
  exact ⟨rfl,MdPost.bad H.out (by decide) (Bk.of hK1.out A0.out.nW) P1.out⟩
def restF (k:Nat):Nat:=
 if k=1∨k=2∨k=7 then 87 else if k=3∨k=4∨k=6 then 88
 else if k=5 then 89 else if k=9 then 90 else 91
theorem nine {k:Nat}(h1:1≤k)(h9:k≤9):k=1∨k=2∨k=3∨k=4∨k=5∨k=6∨k=7∨k=8∨k=9:=by omega
theorem q_rest (k:Nat)(h1:1≤k)(h9:k≤9)(w:World):Calls Tryz.prog 66 #[.int .i64 k] w fun e w'=>e=.returned (.func (.func (restF k)) #[] #[])∧w=w':=by
 rcases nine h1 h9 with rfl|rfl|rfl|rfl|rfl|rfl|rfl|rfl|rfl
 all_goals (
  clear h1 h9;go_enter Tryz.func66,Tryz.ntmps66;go_wp2_with fail;go_ret;exact ⟨rfl,rfl⟩)
def kF (s:ByteArray):List ByteArray→Nat→Nat
 | [],_=>0
 | g::r,k=>if g=s∧s≠⟨#[]⟩ then k else kF s r (k+1)
theorem kF_all (s:ByteArray):kindOfW s=kF s wordsB 0:=by
 by_cases h0:s=⟨#[]⟩
 ·subst h0;decide
 unfold kindOfW
 by_cases h1:s=wordOf 1
 ·rw [if_pos h1,h1];decide
 rw [if_neg h1]
 by_cases h2:s=wordOf 2
 ·rw [if_pos h2,h2];decide
 rw [if_neg h2]
 by_cases h3:s=wordOf 3
 ·rw [if_pos h3,h3];decide
 rw [if_neg h3]
 by_cases h4:s=wordOf 4
 ·rw [if_pos h4,h4];decide
 rw [if_neg h4]
 by_cases h5:s=wordOf 5
 ·rw [if_pos h5,h5];decide
 rw [if_neg h5]
 by_cases h6:s=wordOf 6
 ·rw [if_pos h6,h6];decide
 rw [if_neg h6]
 by_cases h7:s=wordOf 7
 ·rw [if_pos h7,h7];decide
 rw [if_neg h7]
 by_cases h8:s=wordOf 8
 ·rw [if_pos h8,h8];decide
 rw [if_neg h8]
 by_cases h9:s=wordOf 9
 ·rw [if_pos h9,h9];decide
 rw [if_neg h9];have e:wordsB=[⟨#[]⟩,wordOf 1,wordOf 2,wordOf 3,wordOf 4,wordOf 5,wordOf 6,wordOf 7,wordOf 8,wordOf 9]:=by decide
 rw [e];simp only [kF];rw [if_neg (fun h=>h0 h.1.symm),if_neg (fun h=>h1 h.1.symm),if_neg (fun h=>h2 h.1.symm),if_neg (fun h=>h3 h.1.symm),if_neg (fun h=>h4 h.1.symm),if_neg (fun h=>h5 h.1.symm),if_neg (fun h=>h6 h.1.symm),if_neg (fun h=>h7 h.1.symm),if_neg (fun h=>h8 h.1.symm),if_neg (fun h=>h9 h.1.symm)]
theorem word_index (W:World)(k:Nat)(g:ByteArray)(h:wordsB[k]?=some g):(Instr.index 127 (.agg wordsA) (.int .i64 k)).run Tryz.prog W=.ok (.string g) W:=by
 have hk:k<10:=(List.getElem?_eq_some_iff.1 h).1;have hg:g=wordsB.getD k ByteArray.empty:=by rw [List.getD_eq_getElem?_getD,h];rfl
 subst hg;clear h;have:k=0∨k=1∨k=2∨k=3∨k=4∨k=5∨k=6∨k=7∨k=8∨k=9:=by omega
 rcases this with rfl|rfl|rfl|rfl|rfl|rfl|rfl|rfl|rfl|rfl<;>(show _=_;kernel_rfl)
def FmPost (w:World)(s:ByteArray)(k:Nat)(e:Ending)(w':World):Prop:=Below w.heap.size w w' ∧
 (k=0→e=.returned (.tuple #[.agg #[.string ⟨#[]⟩,.int .i64 0,.nilFunc],.bool false]))∧(k≠0→e=.returned (.tuple #[.agg #[.string s,.int .i64 k,.func (.func (restF k)) #[] #[]],.bool true]))
theorem q_formOf (s:ByteArray)(w:World)(hw:WordsAt w):Calls Tryz.prog 49 #[.string s] w fun e w'=>FmPost w s (kindOfW s) e w':=by
 obtain ⟨tt,fr,hg⟩:=hw;have hgl:=(Array.getElem?_eq_some_iff.1 hg).1;have hall:=Hi (kF_all s);have hidx:=Hi word_index;have cr:=Hi q_rest;obtain ⟨SA,hSA⟩:∃ SA,SA=wordsA:=⟨_,rfl⟩
 have hinfo:(Tryz.prog.info? 127).map (·.size)=some SA.size:=by rw [hSA];kernel_rfl
 rw [← hSA] at hg hidx;have hinfo:=Hi hinfo;obtain ⟨wa,hwa⟩:∃ wa,w.alloc (.cells #[.string ⟨#[]⟩,.int .i64 0,.nilFunc] 106 (0,0))=wa:=⟨_,rfl⟩
 have hba:Below w.heap.size w wa:=by rw [← hwa];exact (Below.refl _ w).alloc (Nat.le_refl _) _
 have hza:wa.heap[w.heap.size]?=some (.cells #[.string ⟨#[]⟩,.int .i64 0,.nilFunc] 106 (0,0)):=by rw [← hwa];exact heap_alloc_new w _
 have hg:wa.heap[0]?=some (.cells SA tt fr):=(hba.block _ hgl).trans hg;have hg:=Hi hg;have hza:=Hi hza;have hba:=Hi hba;clear hSA hgl;go_enter Tryz.func49,Tryz.ntmps49;go_upto_region 1 with fail;clear hwa;have z0:=cell_of_row wa w.heap.size 0 _ _ _ hza.out;have z1:=cell_of_row wa w.heap.size 1 _ _ _ hza.out;have z2:=cell_of_row wa w.heap.size 2 _ _ _ hza.out;simp only [List.getElem?_toArray,List.getElem?_cons_zero,List.getElem?_cons_succ] at z0 z1 z2;have y0:wa.frozen? ⟨w.heap.size,0,none⟩=false:=by simp [World.frozen?,hza.out]
 have y1:wa.frozen? ⟨w.heap.size,1,none⟩=false:=by simp [World.frozen?,hza.out]
 have y2:wa.frozen? ⟨w.heap.size,2,none⟩=false:=by simp [World.frozen?,hza.out]
 go_wp2_with (refine wpList_load_row rfl 127 _ rfl 0 rfl tt SA fr _ hg.out Tryz.underlying127 rfl hinfo.out ?_)
 go_loop [7] (fun x=>∃ k:Nat,k≤10∧x=.int .i64 k∧Hid (kindOfW s=kF s (wordsB.drop k) k)) (fun x=>10-(intOf x).toNat)
 case atStart=>exact ⟨0,by omega,rfl,Hi hall.out⟩
 case round=>
  obtain ⟨k,hk,rfl,hr⟩:=hrel
  by_cases hlt:k<10
  ·obtain ⟨g,hgk⟩:∃ g,wordsB[k]?=some g:=⟨_,List.getElem?_eq_getElem (show k<wordsB.length from hlt)⟩
   have hix:=fun W=>hidx.out W k g hgk
   have hr2:=Hi (hr.out.trans (show kF s (wordsB.drop k) k=if g=s∧s≠⟨#[]⟩ then k else kF s (wordsB.drop (k+1)) (k+1) by rw [drop_at hgk];rfl))
   have hg0:k=0→g=⟨#[]⟩:=fun h=>by subst h;cases hgk;rfl
   clear hr hgk hall
   by_cases heq:g=s
   ·have be:(g.toList == s.toList)=true:=by rw [heq];simp
    by_cases hem:s=⟨#[]⟩
    ·have hr3:=Hi (hr2.out.trans (if_neg (fun h=>h.2 hem)))
     have bs0:s.toList.isEmpty=true:=by rw [hem,ByteArray.toList_eq];rfl
     have heq:=Hi heq;have hem:=Hi hem;have hg0:=Hi hg0;clear hr2;go_wp2_with fail
     go_round
     case rel=>exact ⟨k+1,by omega,by go_num,hr3⟩
     case measure=>simp [intOf];omega
    ·have hr3:=Hi (hr2.out.trans (if_pos ⟨heq,hem⟩))
     have hk0:1≤k:=by
      rcases Nat.eq_zero_or_pos k with h|h
      ·exact absurd (heq.symm.trans (hg0 h)) hem
      ·exact h
     have bs0:s.toList.isEmpty=false:=by
      cases h:s.toList.isEmpty with
      | false=>rfl
      | true=>
        exfalso;apply hem;rw [ByteArray.toList_eq,List.isEmpty_iff] at h;exact WideShapes.bytes_inj h
     have cr2:=Hi (fun W=>cr.out k hk0 (by omega) W)
     subst heq;have hem:=Hi hem;have hg0:=Hi hg0;clear hr2 cr;go_wp2_with (go_at_call 66;refine (cr2.out _).mono ?_;rintro e w1 ⟨rfl,rfl⟩);refine bodyPost_ret (v:=.tuple #[.agg #[.string g,.int .i64 k,.func (.func (restF k)) #[] #[]],.bool true]) (by simp [results,Tryz.results49,go_sem,z0,z1,z2]) rfl ?_
     refine ⟨?_,fun h=>absurd (hr3.out.symm.trans h) (by omega),fun _=>?_⟩
     ·exact ((hba.out.setCell (Nat.le_refl _) _).setCell (Nat.le_refl _) _).setCell (Nat.le_refl _) _
     ·rw [hr3.out]
   ·have hr3:=Hi (hr2.out.trans (if_neg (fun h=>heq h.1)))
    have be:(g.toList == s.toList)=false:=by
     rw [beq_eq_false_iff_ne];intro h;apply heq;rw [ByteArray.toList_eq,ByteArray.toList_eq] at h;exact WideShapes.bytes_inj h
    have hg0:=Hi hg0;clear hr2 heq;go_wp2_with fail
    go_round
    case rel=>exact ⟨k+1,by omega,by go_num,hr3⟩
    case measure=>simp [intOf];omega
  ·obtain rfl:k=10:=by omega
   have H:=Hi (show kindOfW s=0 by rw [hr.out];rfl)
   clear hr;go_wp2_with fail;refine bodyPost_ret (v:=.tuple #[.agg #[.string ⟨#[]⟩,.int .i64 0,.nilFunc],.bool false]) (by simp [results,Tryz.results49,go_sem,z0,z1,z2]) rfl ?_
   refine ⟨?_,fun _=>rfl,fun h=>absurd H.out h⟩
   exact ((hba.out.setCell (Nat.le_refl _) _).setCell (Nat.le_refl _) _).setCell (Nat.le_refl _) _
end Go.Proofs.YtjokciofeicdkaaGreatDoor
namespace Go.Proofs.YtjokciofeicdkaaGreatDoor
open Go.RowKit
abbrev AskX:=AskS×Value×Value
def askC (x:AskX):List Value:=(akBox x.1 x.2.1 x.2.2).toList
def flatA (z:List AskX):List Value:=(z.map askC).flatten
theorem flatA_snoc (z:List AskX)(x:AskX):flatA (z++[x])=flatA z++askC x:=by simp [flatA]
theorem flatA_at (z:List AskX)(k:Nat)(x:AskX)(h:z[k]?=some x)(j:Nat)(u:Value)(hj:(askC x)[j]?=some u):(flatA z)[k*7+j]?=some u:=by
 have hj7:j<7:=(List.getElem?_eq_some_iff.1 hj).1
 induction z generalizing k with
 | nil=>cases h
 | cons y r ih=>
   have e:flatA (y::r)=askC y++flatA r:=rfl;have l7:(askC y).length=7:=rfl;rw [e]
   cases k with
   | zero=>
     rw [List.getElem?_cons_zero] at h;cases h
     rw [List.getElem?_append_left (by omega)];simpa using hj
   | succ k=>
     rw [List.getElem?_cons_succ] at h;rw [List.getElem?_append_right (by omega),← ih k h]
     congr 1;omega
structure AsksAt (w:World)(N:Nat)(v:Value)(z:List AskX):Prop where
 row:w.ownsRow N 43 7 v z.length (flatA z)
 nodes:∀ x∈z,w.ownsRow N 86 8 x.2.1 x.1.cond.length (flatN x.1.cond)
 sets:∀ x∈z,w.ownsRow N 88 2 x.2.2 x.1.sets.length (flatS x.1.sets)
section
variable {w w':World} {N:Nat} {v:Value} {z:List AskX}
theorem AsksAt.nil (w:World)(N:Nat):AsksAt w N (.slice none 0 0) []:=⟨World.ownsRow_nil _ _ _ _,fun _ h=>(List.not_mem_nil h).elim,fun _ h=>(List.not_mem_nil h).elim⟩
theorem AsksAt.heap (h:AsksAt w N v z)(hb:∀ b,N≤b→b<w.heap.size→w'.heap[b]?=w.heap[b]?):AsksAt w' N v z:=
 ⟨own_heap h.row fun g hg=>hb g (h.row.lt g hg).1 (h.row.lt g hg).2,fun x hx=>own_heap (h.nodes x hx) fun g hg=>hb g ((h.nodes x hx).lt g hg).1 ((h.nodes x hx).lt g hg).2,
  fun x hx=>own_heap (h.sets x hx) fun g hg=>hb g ((h.sets x hx).lt g hg).1 ((h.sets x hx).lt g hg).2⟩
theorem AsksAt.kp {M:Nat}(h:AsksAt w N v z)(hk:Kp M w w')(hM:M<N):AsksAt w' N v z:=
 h.heap fun b hb hl=>hk.block b hl (fun e=>by injection e;omega)
theorem AsksAt.le {N':Nat}(h:AsksAt w N v z)(hn:N'≤N):AsksAt w N' v z:=⟨Go.Joins.ownsRow_le h.row hn,fun x hx=>Go.Joins.ownsRow_le (h.nodes x hx) hn,fun x hx=>Go.Joins.ownsRow_le (h.sets x hx) hn⟩
theorem own_apart {T T2:TypeId}{B B2 k k2 n n2:Nat}{v v2:Value}{xs xs2:List Value}(h:w.ownsRow B T k v n xs)(h2:w.ownsRow B2 T2 k2 v2 n2 xs2)(hT:T≠T2):v.ownBlock=none∨v.ownBlock≠v2.ownBlock:=by
 cases e:v.ownBlock with
 | none=>exact .inl rfl
 | some g=>
   refine .inr fun e2=>?_
   obtain ⟨c,fz,h3⟩:=Lib.ownsRow_kind h g e;obtain ⟨c2,fz2,h4⟩:=Lib.ownsRow_kind h2 g e2.symm;rw [h3] at h4;simp only [Option.some.injEq,Obj.cells.injEq] at h4;exact hT h4.2.1
theorem AsksAt.push {v':Value}{x:AskX}(h:AsksAt w N v z)(h1:w.ownsRow N 86 8 x.2.1 x.1.cond.length (flatN x.1.cond))(h2:w.ownsRow N 88 2 x.2.2 x.1.sets.length (flatS x.1.sets))
  (hg:w.grownBy w' v.ownBlock) (ho:w'.ownsRow N 43 7 v' (z.length+1) (flatA z++askC x)):AsksAt w' N v' (z++[x]) where
 row:=by rw [List.length_append,flatA_snoc];exact ho
 nodes:=fun y hy=>by
  rcases List.mem_append.1 hy with hy|hy
  ·exact (h.nodes y hy).kept hg (own_apart (h.nodes y hy) h.row (by decide))
  ·obtain rfl:=List.mem_singleton.1 hy;exact h1.kept hg (own_apart h1 h.row (by decide))
 sets:=fun y hy=>by
  rcases List.mem_append.1 hy with hy|hy
  ·exact (h.sets y hy).kept hg (own_apart (h.sets y hy) h.row (by decide))
  ·obtain rfl:=List.mem_singleton.1 hy;exact h2.kept hg (own_apart h2 h.row (by decide))
end
theorem ask_info:(Tryz.prog.info? 43).map (fun i=>(i.zero,i.size,i.bytes))=some (some (.agg #[.int .i64 0,.string ByteArray.empty,.string ByteArray.empty,.slice none 0 0,.string ByteArray.empty,.slice none 0 0,.int .i64 0]),7,112):=by kernel_rfl
theorem pc_hops_ok {l:List Tk}{i:Nat}{first:Bool}{a:AskS}(h:(numbS l i 0 64).2=0):pcS l .hops i first a=(0,i+1,{ a with hops:=(numbS l i 0 64).1 }):=by unfold pcS;dsimp only;rw [if_neg (fun h2=>h2 h)]
theorem pc_hops_bad {l:List Tk}{i:Nat}{first:Bool}{a:AskS}(h:(numbS l i 0 64).2≠0):pcS l .hops i first a=((numbS l i 0 64).2,i,a):=by unfold pcS;dsimp only;rw [if_pos h]
abbrev qy0:Array Value:=#[.int .i64 0,.string ⟨#[]⟩,.string ⟨#[]⟩,.slice none 0 0,.string ⟨#[]⟩,.slice none 0 0,.int .i64 0]
theorem ask_set {W:World}{R:Nat}{a0 a1 a2 a3 a4 a5 a6 b0 b1 b2 b3 b4 b5 b6:Value}{T:TypeId}{fr:Nat×Nat}(h:W.heap[R]?=some (.cells #[b0,b1,b2,b3,b4,b5,b6] T fr)) :
  (((((((W.setCell ⟨R,0,none⟩ a0).setCell ⟨R,1,none⟩ a1).setCell ⟨R,2,none⟩ a2).setCell ⟨R,3,none⟩ a3).setCell ⟨R,4,none⟩ a4).setCell ⟨R,5,none⟩ a5).setCell ⟨R,6,none⟩ a6).heap[R]?=some (.cells #[a0,a1,a2,a3,a4,a5,a6] T fr):=by
 simp [World.setCell,Array.getElem?_modify,h]
theorem ask_old {W:World}{R b:Nat}{a0 a1 a2 a3 a4 a5 a6:Value}(h:b≠R) :
  (((((((W.setCell ⟨R,0,none⟩ a0).setCell ⟨R,1,none⟩ a1).setCell ⟨R,2,none⟩ a2).setCell ⟨R,3,none⟩ a3).setCell ⟨R,4,none⟩ a4).setCell ⟨R,5,none⟩ a5).setCell ⟨R,6,none⟩ a6).heap[b]?=W.heap[b]?:=by
 simp only [World.setCell,Array.getElem?_modify];have h:R≠b:=fun e=>h e.symm
 simp [h]
theorem ask_cells {W:World}{R:Nat}{a0 a1 a2 a3 a4 a5 a6:Value}{T:TypeId}(h:W.heap[R]?=some (.cells #[a0,a1,a2,a3,a4,a5,a6] T (0,0))) :
  W.cell? ⟨R,0,none⟩=some a0∧W.cell? ⟨R,1,none⟩=some a1∧W.cell? ⟨R,2,none⟩=some a2∧W.cell? ⟨R,3,none⟩=some a3∧W.cell? ⟨R,4,none⟩=some a4∧W.cell? ⟨R,5,none⟩=some a5∧W.cell? ⟨R,6,none⟩=some a6:=by
 have z0:=cell_of_row W R 0 _ _ _ h;have z1:=cell_of_row W R 1 _ _ _ h;have z2:=cell_of_row W R 2 _ _ _ h;have z3:=cell_of_row W R 3 _ _ _ h;have z4:=cell_of_row W R 4 _ _ _ h;have z5:=cell_of_row W R 5 _ _ _ h;have z6:=cell_of_row W R 6 _ _ _ h;exact ⟨z0,z1,z2,z3,z4,z5,z6⟩
theorem ask_free {W:World}{R:Nat}{a:Array Value}{T:TypeId}(h:W.heap[R]?=some (.cells a T (0,0)))(j:Nat):W.frozen? ⟨R,j,none⟩=false:=by simp [World.frozen?,h]
end Go.Proofs.YtjokciofeicdkaaGreatDoor
