/- A part of the proof of DeltaLines: LwF. -/
import Derived.Test.YtdhehcobnbcmdaaGreatDoorPLE
set_option linter.all false
namespace Go.Proofs.YtdhehcobnbcmdaaGreatDoor
open Go.RowKit
set_option maxHeartbeats 16000000 in
set_option maxRecDepth 100000 in
theorem law_lines (a b : ConfS) (va1 va4 va5 va6 vb1 vb4 vb5 vb6 : Value) (w : World) (ha : ConfC w w.heap.size a va1 va4 va5 va6) (hb : ConfC w w.heap.size b vb1 vb4 vb5 vb6) (E : Env w) (wfa : WfC a) (wfb : WfC b) :
    Calls Tryz.prog 3 #[.agg (confV a va1 va4 va5 va6), .agg (confV b vb1 vb4 vb5 vb6)] w (BoolW true w):=by
  obtain ⟨Af,Ag,Ab,Ah,Al,Am,As,At,rfl,rfl,rfl,rfl⟩:=conf_form ha
  obtain ⟨Df,Dg,Db,Dh,Dl,Dm,Ds,Dt,rfl,rfl,rfl,rfl⟩:=conf_form hb
  obtain ⟨W0,hW0⟩:∃ W,w.alloc (.cells #[.string a.title, .slice Af a.fields.length Ag, .string a.routing, .bool a.slim, .slice Ab a.boxes.length Ah, .slice Al a.links.length Am, .slice As a.slices.length At] 27 (0,0))=W:=⟨_,rfl⟩
  obtain ⟨w1,hW1⟩:∃ W,W0.alloc (.cells #[.string b.title, .slice Df b.fields.length Dg, .string b.routing, .bool b.slim, .slice Db b.boxes.length Dh, .slice Dl b.links.length Dm, .slice Ds b.slices.length Dt] 27 (0,0))=W:=⟨_,rfl⟩
  have hz0:W0.heap.size=w.heap.size+1:=by rw [← hW0];simp
  have hz1:w1.heap.size=w.heap.size+2:=by rw [← hW1];simp [hz0]
  have b0:Below w.heap.size w W0:=by rw [← hW0];exact (Below.refl _ _).alloc (Nat.le_refl _) _
  have b1:Below W0.heap.size W0 w1:=by rw [← hW1];exact (Below.refl _ _).alloc (Nat.le_refl _) _
  have b01:Below w.heap.size w w1:=b0.trans (b1.mono (by omega))
  have hXa:w1.heap[w.heap.size]?=some (.cells #[.string a.title, .slice Af a.fields.length Ag, .string a.routing, .bool a.slim, .slice Ab a.boxes.length Ah, .slice Al a.links.length Am, .slice As a.slices.length At] 27 (0,0)):=(b1.block _ (by omega)).trans (by rw [← hW0];exact heap_alloc_new w _)
  have hXb:w1.heap[w.heap.size+1]?=some (.cells #[.string b.title, .slice Df b.fields.length Dg, .string b.routing, .bool b.slim, .slice Db b.boxes.length Dh, .slice Dl b.links.length Dm, .slice Ds b.slices.length Dt] 27 (0,0)):=by rw [← hz0,← hW1];exact heap_alloc_new W0 _
  have hcx:Hid (∀ V,Below w1.heap.size w1 V→V.cell? ⟨w.heap.size,0,none⟩=some (.string a.title)∧V.cell? ⟨w.heap.size,1,none⟩=some (.slice Af a.fields.length Ag)∧V.cell? ⟨w.heap.size,2,none⟩=some (.string a.routing)∧V.cell? ⟨w.heap.size,3,none⟩=some (.bool a.slim)∧V.cell? ⟨w.heap.size,4,none⟩=some (.slice Ab a.boxes.length Ah)∧V.cell? ⟨w.heap.size,5,none⟩=some (.slice Al a.links.length Am)∧V.cell? ⟨w.heap.size,6,none⟩=some (.slice As a.slices.length At)):=Lib.hid fun V hb=>cells7 ((hb.block _ (by omega)).trans hXa)
  have hcy:Hid (∀ V,Below w1.heap.size w1 V→V.cell? ⟨w.heap.size+1,0,none⟩=some (.string b.title)∧V.cell? ⟨w.heap.size+1,1,none⟩=some (.slice Df b.fields.length Dg)∧V.cell? ⟨w.heap.size+1,2,none⟩=some (.string b.routing)∧V.cell? ⟨w.heap.size+1,3,none⟩=some (.bool b.slim)∧V.cell? ⟨w.heap.size+1,4,none⟩=some (.slice Db b.boxes.length Dh)∧V.cell? ⟨w.heap.size+1,5,none⟩=some (.slice Dl b.links.length Dm)∧V.cell? ⟨w.heap.size+1,6,none⟩=some (.slice Ds b.slices.length Dt)):=Lib.hid fun V hb=>cells7 ((hb.block _ (by omega)).trans hXb)
  have hbz:=Lib.hid fun V (hb:Below w1.heap.size w1 V)=>b01.trans (hb.mono (by omega))
  have hE:Hid (∀ V,Below w1.heap.size w1 V→Env V):=Lib.hid fun V hb=>E.below (hbz.out V hb)
  obtain ⟨L1,hL1⟩:∃ L,changesS a b=L:=⟨_,rfl⟩
  obtain ⟨L2,hL2⟩:∃ L,changesS b a=L:=⟨_,rfl⟩
  have l1n:L1.length≤100000:=by rw [← hL1];exact changes_len a b
  have l2n:L2.length≤100000:=by rw [← hL2];exact changes_len b a
  have cP:∀ (p q:ConfS) (W:World) (e:Ending) (w':World),ChPost p q W e w'→∃ A c k,e=.returned (.tuple #[.slice A (changesS p q).length c, .int .i64 k])∧TextsR w' W.heap.size (.slice A (changesS p q).length c) (changesS p q)∧Below W.heap.size W w':=fun p q W e w' h=>by
    obtain ⟨⟨v,k,rfl,_,hr⟩,hb⟩:=h
    obtain ⟨A,c,rfl,_⟩:=row_form hr
    exact ⟨A,c,k,rfl,hr,hb⟩
  have cAB:Hid (∀ V,Below w1.heap.size w1 V→Calls Tryz.prog 5 #[.agg #[.string a.title, .slice Af a.fields.length Ag, .string a.routing, .bool a.slim, .slice Ab a.boxes.length Ah, .slice Al a.links.length Am, .slice As a.slices.length At], .agg #[.string b.title, .slice Df b.fields.length Dg, .string b.routing, .bool b.slim, .slice Db b.boxes.length Dh, .slice Dl b.links.length Dm, .slice Ds b.slices.length Dt]] V fun e w'=>∃ A c k,e=.returned (.tuple #[.slice A L1.length c, .int .i64 k])∧TextsR w' V.heap.size (.slice A L1.length c) L1∧Below V.heap.size V w'):=Lib.hid fun V hbV=>by
    have:=(d_Changes a b _ _ _ _ _ _ _ _ V (ha.keep (hbz.out V hbV).size (keepB (hbz.out V hbV) (Nat.le_refl _))) (hb.keep (hbz.out V hbV).size (keepB (hbz.out V hbV) (Nat.le_refl _))) (hE.out V hbV) wfa wfb).mono (cP a b V)
    rw [hL1] at this
    exact this
  have cBA:Hid (∀ V,Below w1.heap.size w1 V→Calls Tryz.prog 5 #[.agg #[.string b.title, .slice Df b.fields.length Dg, .string b.routing, .bool b.slim, .slice Db b.boxes.length Dh, .slice Dl b.links.length Dm, .slice Ds b.slices.length Dt], .agg #[.string a.title, .slice Af a.fields.length Ag, .string a.routing, .bool a.slim, .slice Ab a.boxes.length Ah, .slice Al a.links.length Am, .slice As a.slices.length At]] V fun e w'=>∃ A c k,e=.returned (.tuple #[.slice A L2.length c, .int .i64 k])∧TextsR w' V.heap.size (.slice A L2.length c) L2∧Below V.heap.size V w'):=Lib.hid fun V hbV=>by
    have:=(d_Changes b a _ _ _ _ _ _ _ _ V (hb.keep (hbz.out V hbV).size (keepB (hbz.out V hbV) (Nat.le_refl _))) (ha.keep (hbz.out V hbV).size (keepB (hbz.out V hbV) (Nat.le_refl _))) (hE.out V hbV) wfb wfa).mono (cP b a V)
    rw [hL2] at this
    exact this
  have h10:=Lib.hid (Below.refl w1.heap.size w1)
  have cS:=Lib.hid (k_small w1 (hE.out _ h10.out))
  obtain ⟨P,hP⟩:∃ P,BoolW true w=P:=⟨_,rfl⟩
  rw [hP]
  replace hP:=Lib.hid hP
  clear ha hb E wfa wfb hL1 hL2 cP b0 b1 b01 hXa hXb
  show Calls Tryz.prog 3 #[.agg #[.string a.title, .slice Af a.fields.length Ag, .string a.routing, .bool a.slim, .slice Ab a.boxes.length Ah, .slice Al a.links.length Am, .slice As a.slices.length At], .agg #[.string b.title, .slice Df b.fields.length Dg, .string b.routing, .bool b.slim, .slice Db b.boxes.length Dh, .slice Dl b.links.length Dm, .slice Ds b.slices.length Dt]] w P
  go_enter Tryz.func3,Tryz.ntmps3
  go_upto_region 4 with (go_at_call 4;(with_reducible refine (cS.out).mono ?_);rintro e W2 ⟨rfl,hbB⟩;have h20:=Lib.hid hbB;clear hbB)
  clear cS hW0 hW1 hz0
  obtain ⟨x0,x1,x2,x3,x4,x5,x6⟩:=hcx.out _ h20.out
  obtain ⟨y0,y1,y2,y3,y4,y5,y6⟩:=hcy.out _ h20.out
  have hup:=Lib.hid fun (V V':World) (h:Below w1.heap.size w1 V) (k:Below V.heap.size V V')=>h.trans (k.mono h.size)
  go_upto_region 7 with (first
    | (go_at_call 5;(with_reducible refine (cAB.out _ h20.out).mono ?_);rintro e W3 ⟨A1,c1,k1,rfl,hr1,hb3⟩;have t1:=Lib.hid hr1;have b3:=Lib.hid hb3;have h30:=Lib.hid (hup.out _ _ h20.out hb3);obtain ⟨x0,x1,x2,x3,x4,x5,x6⟩:=hcx.out _ h30.out;obtain ⟨y0,y1,y2,y3,y4,y5,y6⟩:=hcy.out _ h30.out;clear hr1 hb3)
    | (go_at_call 5;(with_reducible refine (cBA.out _ h30.out).mono ?_);rintro e W4 ⟨A2,c2,k2,rfl,hr2,hb4⟩;have t2:=Lib.hid hr2;have b4:=Lib.hid hb4;have h40:=Lib.hid (hup.out _ _ h30.out hb4);clear hr2 hb4))
  clear x0 x1 x2 x3 x4 x5 x6 y0 y1 y2 y3 y4 y5 y6
  go_upto_if 51 with fail
  go_cut [10] (fun u wx=>W4=wx∧∃ t:Nat,u=.int .i64 t∧1≤t∧t≤60)
  case first=>
    go_wp2_with fail
    · go_meet
      exact ⟨rfl,60,rfl,by decide,by decide⟩
    · go_meet
      exact ⟨rfl,2,rfl,by decide,by decide⟩
  case rest=>
  obtain ⟨rfl,t,rfl,ht1,ht2⟩:=hcut
  have t1x:=Lib.hid (row_below t1.out b4.out (Nat.le_refl _))
  go_upto_region 11 with (first
    | (at_builtin;refine wp_cat elText rfl (.tmp 55) (.tmp 56) rfl W5.heap.size 0 (.slice (some ⟨W5.heap.size,0,none⟩) 0 0) [] rfl (empty_row W5) W3.heap.size L2.length (.slice A2 L2.length c2) (L2.map Value.string) rfl (World.ownsRow.alloc t2y.out _) (one_str L2) (by omega) (by unfold maxLen;omega) (by simp) ?_;intro v6 W6 ho6 hb6;rw [Nat.zero_add] at ho6;obtain ⟨A6,c6,rfl,_⟩:=row_form ho6;have s6:=Lib.hid (show TextsR W6 W5.heap.size (.slice A6 L2.length c6) L2 from ho6);have b6:=Lib.hid (show Below W5.heap.size W5 W6 from ((Below.refl _ _).alloc (Nat.le_refl _) _).trans hb6);have h60:=Lib.hid (hup.out _ _ h50.out b6.out);clear ho6 hb6)
    | (at_builtin;refine wp_cat elText rfl (.tmp 52) (.tmp 53) rfl W4.heap.size 0 (.slice (some ⟨W4.heap.size,0,none⟩) 0 0) [] rfl (empty_row W4) W2.heap.size L1.length (.slice A1 L1.length c1) (L1.map Value.string) rfl (World.ownsRow.alloc t1x.out _) (one_str L1) (by omega) (by unfold maxLen;omega) (by simp) ?_;intro v5 W5 ho5 hb5;rw [Nat.zero_add] at ho5;obtain ⟨A5,c5,rfl,_⟩:=row_form ho5;have s5:=Lib.hid (show TextsR W5 W4.heap.size (.slice A5 L1.length c5) L1 from ho5);have b5:=Lib.hid (show Below W4.heap.size W4 W5 from ((Below.refl _ _).alloc (Nat.le_refl _) _).trans hb5);have h50:=Lib.hid (hup.out _ _ h40.out b5.out);clear ho5 hb5;have t2y:=Lib.hid (row_below t2.out b5.out (Nat.le_refl _))))
  have hP1:=Lib.hid (PhA.begin h60.out (row_below (row_below t1x.out b5.out (Nat.le_refl _)) b6.out (Nat.le_refl _)) (row_below t2y.out b6.out (Nat.le_refl _)) (row_below s5.out b6.out (Nat.le_refl _)) s6.out h20.out.size (b3.out.size) (b4.out.size) (b5.out.size) (fun b hb=>(t1.out.lt b hb).2) (fun b hb=>(t2.out.lt b hb).2) (fun b hb=>(s5.out.lt b hb).2))
  obtain ⟨W7,hW7⟩:∃ W,(W6.alloc (.cells #[.slice A5 L1.length c5, .slice A6 L2.length c6] 29 (0,0))).alloc (.cells #[.slice A1 L1.length c1, .slice A2 L2.length c2] 29 (0,0))=W:=⟨_,rfl⟩
  rw [hW7] at hP1 ⊢
  clear hW7 t1 t1x t2 t2y s5 s6 b3 b4 b5 b6 h20 h30 h40 h50
  obtain ⟨u1,hu1⟩:∃ u,Value.slice A5 L1.length c5=u:=⟨_,rfl⟩
  obtain ⟨u2,hu2⟩:∃ u,Value.slice A6 L2.length c6=u:=⟨_,rfl⟩
  obtain ⟨gw,hgw⟩:∃ g,W6.heap.size=g:=⟨_,rfl⟩
  rw [hu1,hu2,hgw] at hP1
  rw [hu1,hu2,hgw]
  clear hu1 hu2 hgw h60
  go_upto_region 12 with fail
  go_loopw [12,13] (fun vl i wr=>∃ (k:Nat) (vs:List Value),i=.int .i64 k∧k≤t∧Hid (vs.length=2*(k+1))∧Hid (PhA w1 gw u1 u2 L1 L2 vl vs ((List.range (2*(k+1))).map (lawL L1 L2)) wr)) (fun _ i _=>t-(intOf i).toNat)
  case atStart=>exact ⟨0,[.slice A1 L1.length c1, .slice A2 L2.length c2],rfl,Nat.zero_le _,Lib.hid rfl,hP1⟩
  case round=>
  obtain ⟨k,vs,rfl,hk,hvl,hT⟩:=hrel
  obtain ⟨wo,rfl⟩:∃ wo,wo=wr:=⟨_,rfl⟩
  clear hP1
  obtain ⟨A7,c7,rfl,_⟩:=row_form hT.out.o
  have hvn:vs.length≤122:=by have:=hvl.out;omega
  by_cases hlt:k<t
  · as_aux_lemma=>
      have h00:=Lib.hid hT.out.b
      obtain ⟨x0,x1,x2,x3,x4,x5,x6⟩:=hcx.out _ h00.out
      obtain ⟨y0,y1,y2,y3,y4,y5,y6⟩:=hcy.out _ h00.out
      have hop:=Lib.hid fun (A B:Option Addr) (c d:Nat)=>(fun u hu=>by simp only [List.mem_cons,List.not_mem_nil,or_false] at hu;rcases hu with rfl|rfl<;>rfl:∀ u∈[Value.slice A L1.length c,Value.slice B L2.length d],u.oneCell'=true)
      go_wp2_with (first
        | (at_builtin;refine wp_app elSl rfl (.tmp 79) (.tmp 82) rfl w1.heap.size (.slice A7 vs.length c7) vs.length vs rfl (hTb.out.o.alloc _) ⟨Wb.heap.size,0,none⟩ 2 2 [.slice A8 L1.length c8, .slice A9 L2.length c9] rfl rfl (by decide) (World.news_of_block (heap_alloc_new Wb _)) (hop.out _ _ _ _) (by unfold maxLen;omega) (by omega) (by have:=hTb.out.b.size;simp;omega) (Wb.heap.size+1) (by simp) ?_;intro g10 c10 W10 ho hg hor _;have hT10:=Lib.hid (hTb.out.push2 (row_below ta.out bb.out (Nat.le_refl _)) tb.out hT.out.b.size ba.out.size hT.out.lt (fun b hb=>(ta.out.lt b hb).2) hg hor ho);clear ho hg hor)
        | (go_at_call 5;(with_reducible refine (cAB.out _ h00.out).mono ?_);rintro e Wa ⟨A8,c8,k8,rfl,hra,hba⟩;have ta:=Lib.hid hra;have ba:=Lib.hid hba;have hTa:=Lib.hid (hT.out.below hba);obtain ⟨x0,x1,x2,x3,x4,x5,x6⟩:=hcx.out _ hTa.out.b;obtain ⟨y0,y1,y2,y3,y4,y5,y6⟩:=hcy.out _ hTa.out.b;clear hra hba)
        | (go_at_call 5;(with_reducible refine (cBA.out _ hTa.out.b).mono ?_);rintro e Wb ⟨A9,c9,k9,rfl,hrb,hbb⟩;have tb:=Lib.hid hrb;have bb:=Lib.hid hbb;have hTb:=Lib.hid (hTa.out.below hbb);clear hrb hbb))
      go_roundw
      case rel=>exact ⟨k+1,vs++[.slice A8 L1.length c8, .slice A9 L2.length c9],by go_num,by omega,Lib.hid (by rw [List.length_append,hvl.out];rfl),Lib.hid (by rw [law_range L1 L2 (k+1)];exact hT10.out)⟩
      case measure=>simp [intOf];omega
  obtain rfl:t=k:=by omega
  obtain ⟨n,hn⟩:∃ n,2*(t+1)=n:=⟨_,rfl⟩
  rw [hn] at hvl hT
  clear hn
  rw [← hvl.out] at hT
  clear hvl
  go_upto_region 18 with fail
  go_loopw [18] (fun i wr=>∃ k:Nat,k≤vs.length∧i=.int .i64 k∧Hid (PhA w1 gw u1 u2 L1 L2 (.slice A7 vs.length c7) vs ((List.range vs.length).map (lawL L1 L2)) wr)) (fun i _=>vs.length-(intOf i).toNat)
  case atStart=>exact ⟨0,Nat.zero_le _,rfl,hT⟩
  case round=>
  obtain ⟨k,hk,rfl,hT2⟩:=hrel
  obtain ⟨wq,rfl⟩:∃ wq,wq=wr:=⟨_,rfl⟩
  clear hT
  by_cases hlt:k<vs.length
  · as_aux_lemma=>
      obtain ⟨gl,rfl,_,_⟩:=row_addr hT2.out.o (by omega)
      have hv:vs[k]?=some vs[k]:=List.getElem?_eq_getElem hlt
      have hrv:=reads_of (hT2.out.r k _ _ hv (by rw [List.getElem?_map,List.getElem?_range hlt];rfl))
      have hru1:=reads_of hT2.out.r1
      have hru2:=reads_of hT2.out.r2
      have cl:=Lib.hid fun W (h:PhA w1 gw u1 u2 L1 L2 (.slice (some ⟨gl,0,none⟩) vs.length c7) vs ((List.range vs.length).map (lawL L1 L2)) W)=>row_cell h.o hv
      have cw:=Lib.hid fun W (h:PhA w1 gw u1 u2 L1 L2 (.slice (some ⟨gl,0,none⟩) vs.length c7) vs ((List.range vs.length).map (lawL L1 L2)) W)=>was_cells h.was
      have hTb:=Lib.hid fun W hb=>hT2.out.below (W':=W) hb
      generalize vs[k]=v at *
      have hd:=Lib.hid (Below.refl wq.heap.size wq).drew
      have i1:(k:Int)<(vs.length:Int):=by omega
      obtain ⟨u,q,hq,hq2,hu⟩:∃ (u:Value) (q:Nat),(k:Int).tmod 2=(q:Int)∧Hid (q<2∧∀ W,PhA w1 gw u1 u2 L1 L2 (.slice (some ⟨gl,0,none⟩) vs.length c7) vs ((List.range vs.length).map (lawL L1 L2)) W→W.cell? ⟨gw,q,none⟩=some u)∧Hid (Reads wq u (lawL L1 L2 k)):=by
        by_cases he:k % 2=0
        · exact ⟨u1,0,tmod2 k 0 he,Lib.hid ⟨by decide,fun W h=>(cw.out W h).1⟩,Lib.hid (by unfold lawL;rw [if_pos he];exact hru1)⟩
        · exact ⟨u2,1,tmod2 k 1 (by omega),Lib.hid ⟨by decide,fun W h=>(cw.out W h).2⟩,Lib.hid (by unfold lawL;rw [if_neg he];exact hru2)⟩
      have hll:(lawL L1 L2 k).length≤1000000:=by unfold lawL;split<;>omega
      have cT:=Lib.hid fun W (hb:Below wq.heap.size wq W)=>k_texts _ v u W (hrv.below hb) (hu.out.below hb) hll
      have hq3:(q:Int)<2:=by have:=hq2.out.1;omega
      have p1:=cl.out _ hT2.out
      have p2:=hq2.out.2 _ hT2.out
      have hS0:=Lib.hid fun W hb=>(⟨cl.out W (hTb.out W hb),hq2.out.2 W (hTb.out W hb)⟩:W.cell? ⟨gl,k,none⟩=some v∧W.cell? ⟨gw,q,none⟩=some u)
      clear hrv hru1 hru2 hll hv
      go_upto_region 20 with fail
      go_region_held3 (fun W'=>W'.cell? ⟨gl,k,none⟩=some v∧W'.cell? ⟨gw,q,none⟩=some u)
        (first|exact hHeld|go_keep|exact hS0.out _ hbE|exact hS0.out _ hd.out)
        (first|(go_at_call 6;(with_reducible refine (cT.out _ hd.out).mono ?_);rintro e wz ⟨rfl,hbZ⟩;have hbE:=hd.out.trans (hbZ.mono hd.out.size)))
      all_goals
        go_wp2_with fail
        go_roundw
        case rel=>exact ⟨k+1,by omega,by go_num,Lib.hid (hTb.out _ hbE)⟩
        case measure=>simp [intOf];omega
  replace hT2:=Lib.hid (show PhA w1 gw u1 u2 L1 L2 (.slice A7 vs.length c7) vs (lsAt L1 L2 vs.length 0 0) wq by rw [lsAt_zero];exact hT2.out)
  go_upto_region 23 with fail
  go_loopw [19] (fun i wr=>∃ j:Nat,j≤vs.length∧i=.int .i64 j∧Hid (PhA w1 gw u1 u2 L1 L2 (.slice A7 vs.length c7) vs (lsAt L1 L2 vs.length j 0) wr)) (fun i _=>vs.length-(intOf i).toNat)
  case atStart=>exact ⟨0,Nat.zero_le _,rfl,hT2⟩
  case round=>
  obtain ⟨j,hj,rfl,hT3⟩:=hrel
  obtain ⟨wp,rfl⟩:∃ wp,wp=wr:=⟨_,rfl⟩
  clear hT2
  by_cases hlt:j<vs.length
  · obtain ⟨gl,rfl,_,_⟩:=row_addr hT3.out.o (by omega)
    obtain ⟨v,hv⟩:∃ v,vs[j]?=some v:=⟨_,List.getElem?_eq_getElem hlt⟩
    obtain ⟨Av,cv,hve,_⟩:=row_form (hT3.out.r j _ _ hv (lsAt_at hlt))
    rw [partS_len (Nat.zero_le _)] at hve
    subst hve
    have hll:(lawL L1 L2 j).length≤100000:=by unfold lawL;split<;>omega
    obtain ⟨m,hm⟩:∃ m,(lawL L1 L2 j).length=m:=⟨_,rfl⟩
    rw [hm] at hv hll
    have cl:=Lib.hid fun W ls (h:PhA w1 gw u1 u2 L1 L2 (.slice (some ⟨gl,0,none⟩) vs.length c7) vs ls W)=>row_cell h.o hv
    replace hv:=Lib.hid hv
    replace hm:=Lib.hid hm
    have i1:(j:Int)<(vs.length:Int):=by omega
    go_upto_region 26 with fail
    go_loopw [20] (fun i wr=>∃ k:Nat,k≤m∧i=.int .i64 k∧Hid (PhA w1 gw u1 u2 L1 L2 (.slice (some ⟨gl,0,none⟩) vs.length c7) vs (lsAt L1 L2 vs.length j k) wr)) (fun i _=>m-(intOf i).toNat)
    case atStart=>exact ⟨0,Nat.zero_le _,rfl,hT3⟩
    case round=>
    obtain ⟨k,hk,rfl,hT4⟩:=hrel
    obtain ⟨wk,rfl⟩:∃ wk,wk=wr:=⟨_,rfl⟩
    clear hT3
    have p1:=cl.out _ _ hT4.out
    by_cases hkt:k<m
    · as_aux_lemma=>
        have htr:=hT4.out.r j _ _ hv.out (lsAt_at hlt)
        have hlp:(partS L1 L2 j k).length=m:=(partS_len (by rw [hm.out];exact hk)).trans hm.out
        rw [← hlp] at htr
        obtain ⟨gv,rfl,_,_⟩:=row_addr htr (by omega)
        have hne:gl≠gv:=fun e=>rows_ne htr hT4.out.o ty_ne rfl (by rw [e];rfl)
        have cM:Hid (∀ W,Below wk.heap.size wk W→Calls Tryz.prog 7 #[.string ⟨#[97]⟩, .int .i64 (j:Int), .int .i64 (k:Int)] W (StrW (markT (ba [97]) j k) W)):=Lib.hid fun W hb=>k_mark (ba [97]) j k W (by decide) (by omega) (by omega) (hE.out W (hT4.out.below hb).b)
        have hTb:=Lib.hid fun W hb=>hT4.out.below (W':=W) hb
        have hcv:=Lib.hid fun W (h:PhA w1 gw u1 u2 L1 L2 (.slice (some ⟨gl,0,none⟩) vs.length c7) vs (lsAt L1 L2 vs.length j k) W)=>(by
          have h9:=h.r j _ _ hv.out (lsAt_at hlt)
          rw [← hlp] at h9
          exact ⟨text_cell (n:=0) h9 (by omega),row_free h9 k⟩:W.cell? ⟨gv,k,none⟩=some (.string ((partS L1 L2 j k)[k]'(by omega)))∧W.frozen? ⟨gv,k,none⟩=false)
        have hset:=Lib.hid fun W (h:PhA w1 gw u1 u2 L1 L2 (.slice (some ⟨gl,0,none⟩) vs.length c7) vs (lsAt L1 L2 vs.length j k) W)=>(by
          have h9:=h.set (k:=k) (l:=partS L1 L2 j k) (by rw [hlp];exact hv.out) (lsAt_at hlt) (markT (ba [97]) j k)
          rw [lsAt_set hlt (by rw [hm.out];exact hkt)] at h9
          exact h9:PhA w1 gw u1 u2 L1 L2 (.slice (some ⟨gl,0,none⟩) vs.length c7) vs (lsAt L1 L2 vs.length j (k+1)) (W.setCell ⟨gv,k,none⟩ (.string (markT (ba [97]) j k))))
        obtain ⟨so,hso⟩:∃ s,(partS L1 L2 j k)[k]'(by omega)=s:=⟨_,rfl⟩
        rw [hso] at hcv
        generalize markT (ba [97]) j k=M at *
        have hd:=Lib.hid (Below.refl wk.heap.size wk).drew
        have hS0:=Lib.hid fun W hb=>cl.out W _ (hTb.out W hb)
        have i2:(k:Int)<(m:Int):=by omega
        clear htr hlp hso hT4
        go_upto_region 28 with fail
        go_region_held3 (fun W'=>W'.cell? ⟨gl,j,none⟩=some (.slice (some ⟨gv,0,none⟩) m cv))
          (first|exact hHeld|go_keep|exact hSt|exact hS0.out _ hbE|exact hS0.out _ hd.out)
          (first|(go_at_call 7;(with_reducible refine (cM.out _ hd.out).mono ?_);rintro e wz ⟨rfl,hbZ⟩;have hbE:=hd.out.trans (hbZ.mono hd.out.size);have hTz:=Lib.hid (hTb.out _ hbE);obtain ⟨z1,z2⟩:=hcv.out _ hTz.out;have hSt:(wz.setCell ⟨gv,k,none⟩ (.string M)).cell? ⟨gl,j,none⟩=some (.slice (some ⟨gv,0,none⟩) m cv):=(setc_far hne).trans (hS0.out _ hbE)))
        all_goals
          go_wp2_with fail
          go_roundw
          case rel=>exact ⟨k+1,by omega,by go_num,Lib.hid (hset.out _ hTz.out)⟩
          case measure=>simp [intOf];omega
    obtain rfl:m=k:=by omega
    replace hT4:=Lib.hid (show PhA w1 gw u1 u2 L1 L2 (.slice (some ⟨gl,0,none⟩) vs.length c7) vs (lsAt L1 L2 vs.length (j+1) 0) wk by rw [← lsAt_next,hm.out];exact hT4.out)
    go_wp2_with fail
    go_roundw
    case rel=>exact ⟨j+1,by omega,by go_num,hT4⟩
    case measure=>simp [intOf];omega
  obtain rfl:j=vs.length:=by omega
  have hD0:=Lib.hid (PhD.start (by have:=hT3.out;rw [lsAt_all] at this;exact this))
  obtain ⟨S0,hS0⟩:∃ s,wp.heap.size=s:=⟨_,rfl⟩
  rw [hS0] at hD0
  clear hT3 hS0
  go_upto_region 31 with fail
  go_loopw [21,22] (fun vm i wr=>∃ gs:List Value,gs.length≤vs.length∧i=.int .i64 (gs.length:Nat)∧Hid (PhD w1 S0 gw u1 u2 L1 L2 (.slice A7 vs.length c7) vs vm gs wr)) (fun _ i _=>vs.length-(intOf i).toNat)
  case atStart=>exact ⟨[],Nat.zero_le _,rfl,hD0⟩
  case round=>
  obtain ⟨gs,hgs,rfl,hD⟩:=hrel
  obtain ⟨wi,rfl⟩:∃ wi,wi=wr:=⟨_,rfl⟩
  clear hD0
  obtain ⟨Az,cz,rfl,_⟩:=row_form hD.out.m
  by_cases hlt:gs.length<vs.length
  · obtain ⟨gl,rfl,_,_⟩:=row_addr hD.out.o (by omega)
    obtain ⟨v,hv⟩:∃ v,vs[gs.length]?=some v:=⟨_,List.getElem?_eq_getElem hlt⟩
    obtain ⟨Av,cv,hve,_⟩:=hD.out.vR _ _ hv
    have hll:(lawL L1 L2 gs.length).length≤100000:=by unfold lawL;split<;>omega
    obtain ⟨m,hm⟩:∃ m,(mkS L1 L2 gs.length).length=m:=⟨_,rfl⟩
    have hmn:m≤100000:=by rw [← hm,mkS_len];exact hll
    rw [hm] at hve
    subst hve
    have p1:=row_cell hD.out.o hv
    replace hv:=Lib.hid hv
    replace hm:=Lib.hid hm
    have i1:(gs.length:Int)<(vs.length:Int):=by omega
    have hL0:=Lib.hid (Lane.start hD.out hv.out)
    clear hll
    go_upto_region 35 with fail
    go_loopw [23,24] (fun g i wr=>∃ k:Nat,k≤64∧i=.int .i64 k∧Hid (Lane w1 wi L1 L2 gs.length (.slice Av m cv) g k wr)) (fun _ i _=>64-(intOf i).toNat)
    case atStart=>exact ⟨0,Nat.zero_le _,rfl,hL0⟩
    case round=>
    obtain ⟨k,hk,rfl,hL⟩:=hrel
    obtain ⟨wk,rfl⟩:∃ wk,wk=wr:=⟨_,rfl⟩
    clear hL0 p1
    obtain ⟨Ag,cg,rfl,_⟩:=row_form hL.out.t
    by_cases hkt:k<64
    · as_aux_lemma=>
        have cM:Hid (Calls Tryz.prog 7 #[.string ⟨#[109]⟩, .int .i64 (gs.length:Int), .int .i64 0] wk (StrW (moX gs.length) wk)):=Lib.hid (k_mark (ba [109]) gs.length 0 wk (by decide) (by omega) (by omega) (hE.out wk hL.out.b))
        have hTl:(mkS L1 L2 gs.length++List.replicate k (moX gs.length)).length≤200000:=by rw [List.length_append,hm.out,List.length_replicate];omega
        have hLb:=Lib.hid fun W hb=>hL.out.below (W':=W) hb
        have hps:=Lib.hid fun W (h:Lane w1 wi L1 L2 gs.length (.slice Av m cv) (.slice Ag (mkS L1 L2 gs.length++List.replicate k (moX gs.length)).length cg) k W) (tmp:Obj) (W':World) (g' cap:Nat) a1 a2 a3 a4=>(h.push (W':=W') (tmp:=tmp) (g':=g') (cap:=cap) a1 a2 a3 a4)
        have hLt:=Lib.hid fun W (h:Lane w1 wi L1 L2 gs.length (.slice Av m cv) (.slice Ag (mkS L1 L2 gs.length++List.replicate k (moX gs.length)).length cg) k W)=>(⟨h.t,h.b.size⟩:TextsR W w1.heap.size (.slice Ag (mkS L1 L2 gs.length++List.replicate k (moX gs.length)).length cg) (mkS L1 L2 gs.length++List.replicate k (moX gs.length))∧w1.heap.size≤W.heap.size)
        generalize hTT:mkS L1 L2 gs.length++List.replicate k (moX gs.length)=T at *
        replace hTT:=Lib.hid hTT
        generalize moX gs.length=X at *
        clear hL
        go_wp2_with (first
          | (at_builtin;refine wp_app elText rfl (.tmp 139) (.tmp 142) rfl w1.heap.size (.slice Ag T.length cg) T.length (T.map Value.string) rfl (World.ownsRow.alloc (hLt.out _ hLy.out).1 _) ⟨wy.heap.size,0,none⟩ 1 1 [.string X] rfl rfl (by decide) (World.news_of_block (heap_alloc_new wy _)) (by intro u hu;rw [List.mem_singleton.1 hu];rfl) (by unfold maxLen;omega) (by omega) (by have:=(hLt.out _ hLy.out).2;simp;omega) (wy.heap.size+1) (by simp) ?_;intro g9 c9 W9 ho hg hor hc;have hL9:=Lib.hid (hps.out _ hLy.out _ W9 g9 c9 hg hor ho hc);clear ho hg hor hc)
          | (go_at_call 7;(with_reducible refine (cM.out).mono ?_);rintro e wy ⟨rfl,hbY⟩;have hLy:=Lib.hid (hLb.out _ hbY);clear hbY))
        go_roundw
        case rel=>exact ⟨k+1,by omega,by go_num,hL9⟩
        case measure=>simp [intOf];omega
    obtain rfl:k=64:=by omega
    have hmW:=Lib.hid (Lane.m hD.out hv.out hL.out)
    have hbs:=hL.out.b.size
    have hss:=Lib.hid (hL.out.sz)
    have hS0w:=Lib.hid hD.out.sz
    have hnx:=Lib.hid fun (tmp:Obj) (W':World) (g' cap:Nat) a1 a2 a3=>(hD.out.next (tmp:=tmp) (W':=W') (g':=g') (cap:=cap) hv.out hL.out a1 a2 a3)
    generalize (mkS L1 L2 gs.length++List.replicate 64 (moX gs.length)).length=NN at *
    go_wp2_with (at_builtin;refine wp_app elSl rfl (.tmp 144) (.tmp 146) rfl S0 (.slice Az gs.length cz) gs.length gs rfl (World.ownsRow.alloc hmW.out _) ⟨wk.heap.size,0,none⟩ 1 1 [.slice Ag NN cg] rfl rfl (by decide) (World.news_of_block (heap_alloc_new wk _)) (by intro u hu;rw [List.mem_singleton.1 hu];rfl) (by unfold maxLen;omega) (by omega) (by have:=hss.out;have:=hS0w.out.1;simp;omega) (wk.heap.size+1) (by simp) ?_;intro g9 c9 W9 ho hg hor hc;have hD9:=Lib.hid (hnx.out _ W9 g9 c9 hg hor ho);clear ho hg hor hc)
    go_roundw
    case rel=>exact ⟨gs++[.slice Ag NN cg],by rw [List.length_append,List.length_singleton];omega,by rw [List.length_append,List.length_singleton];go_num,hD9⟩
    case measure=>simp [intOf];omega
  obtain ⟨x0,x1,x2,x3,x4,x5,x6⟩:=hcx.out _ hD.out.b
  obtain ⟨y0,y1,y2,y3,y4,y5,y6⟩:=hcy.out _ hD.out.b
  go_upto_region 41 with (first
    | (go_at_call 5;(with_reducible refine (cAB.out _ hD.out.b).mono ?_);rintro e Wa ⟨A8,c8,k8,rfl,hra,hba⟩;have ta:=Lib.hid hra;have ba:=Lib.hid hba;have hDa:=Lib.hid (hD.out.below hba);obtain ⟨x0,x1,x2,x3,x4,x5,x6⟩:=hcx.out _ hDa.out.b;obtain ⟨y0,y1,y2,y3,y4,y5,y6⟩:=hcy.out _ hDa.out.b;clear hra hba)
    | (go_at_call 5;(with_reducible refine (cBA.out _ hDa.out.b).mono ?_);rintro e Wb ⟨A9,c9,k9,rfl,hrb,hbb⟩;have tb:=Lib.hid hrb;have bb:=Lib.hid hbb;have hDb:=Lib.hid (hDa.out.below hbb);clear hrb hbb))
  have hr1:=(reads_of ta.out).below bb.out
  have hr2:=reads_of tb.out
  have hr3:=reads_of hDb.out.r1
  have hr4:=reads_of hDb.out.r2
  have c1:=Lib.hid (k_texts L1 _ u1 Wb hr1 hr3 (by omega))
  have c2:=Lib.hid fun W (hb:Below Wb.heap.size Wb W)=>k_texts L2 _ u2 W (hr2.below hb) (hr4.below hb) (by omega)
  obtain ⟨q1,q2⟩:=was_cells hDb.out.was
  clear hr1 hr2 hr3 hr4 x0 x1 x2 x3 x4 x5 x6 y0 y1 y2 y3 y4 y5 y6 hD hDa ta tb ba bb
  go_upto_region 44 with (first
    | (go_at_call 6;(with_reducible refine (c2.out _ hDc.out.2).mono ?_);rintro e Wd ⟨rfl,hbD⟩;have hDd:=Lib.hid (hDc.out.1.below hbD);clear hbD)
    | (go_at_call 6;(with_reducible refine (c1.out).mono ?_);rintro e Wc ⟨rfl,hbC⟩;have hDc:=Lib.hid (And.intro (hDb.out.below hbC) hbC);obtain ⟨q1,q2⟩:=was_cells hDc.out.1.was;clear hbC))
  generalize (Value.agg #[.string a.title, .slice Af a.fields.length Ag, .string a.routing, .bool a.slim, .slice Ab a.boxes.length Ah, .slice Al a.links.length Am, .slice As a.slices.length At])=GA
  generalize (Value.agg #[.string b.title, .slice Df b.fields.length Dg, .string b.routing, .bool b.slim, .slice Db b.boxes.length Dh, .slice Dl b.links.length Dm, .slice Ds b.slices.length Dt])=GB
  generalize (Value.tuple #[Value.slice A8 L1.length c8,Value.int IntKind.i64 k8])=GT
  generalize (Value.tuple #[Value.slice A9 L2.length c9,Value.int IntKind.i64 k9])=GU
  generalize (Value.slice A8 L1.length c8)=G8
  generalize (Value.slice A9 L2.length c9)=G9
  clear hcx hcy cAB cBA
  go_loopw [29] (fun i wr=>∃ j:Nat,j≤gs.length∧i=.int .i64 j∧Hid (PhD w1 S0 gw u1 u2 L1 L2 (.slice A7 vs.length c7) vs (.slice Az gs.length cz) gs wr)) (fun i _=>gs.length-(intOf i).toNat)
  case atStart=>exact ⟨0,Nat.zero_le _,rfl,hDd⟩
  case round=>
  obtain ⟨j4,hj4,rfl,hD5⟩:=hrel
  obtain ⟨wu,rfl⟩:∃ wu,wu=wr:=⟨_,rfl⟩
  clear hDd hDb hDc c1 c2
  by_cases hlt4:j4<gs.length
  · obtain ⟨gm, rfl, _, _⟩ := row_addr hD5.out.m (by omega)
    obtain ⟨gl,rfl,_,_⟩:=row_addr hD5.out.o (by omega)
    obtain ⟨v,hv⟩:∃ v,vs[j4]?=some v:=⟨_,List.getElem?_eq_getElem (by omega)⟩
    obtain ⟨g,hg⟩:∃ g,gs[j4]?=some g:=⟨_,List.getElem?_eq_getElem hlt4⟩
    obtain ⟨Av,cv,hve,_⟩:=hD5.out.vR _ _ hv
    obtain ⟨Ag,cg,hge,_⟩:=row_form (hD5.out.gT _ _ hg)
    have hll:(lawL L1 L2 j4).length≤100000:=by unfold lawL;split<;>omega
    obtain ⟨m,hm⟩:∃ m,(lawL L1 L2 j4).length=m:=⟨_,rfl⟩
    rw [mkS_len,hm] at hve
    rw [moS_len,hm] at hge
    subst hve hge
    rw [hm] at hll
    replace hm:=Lib.hid hm
    have cl:=Lib.hid fun W (h:PhD w1 S0 gw u1 u2 L1 L2 (.slice (some ⟨gl,0,none⟩) vs.length c7) vs (.slice (some ⟨gm,0,none⟩) gs.length cz) gs W)=>(⟨row_cell h.o hv,row_cell h.m hg⟩:W.cell? ⟨gl,j4,none⟩=some (.slice Av m cv)∧W.cell? ⟨gm,j4,none⟩=some (.slice Ag (m+64) cg))
    replace hv:=Lib.hid hv
    replace hg:=Lib.hid hg
    obtain ⟨N,hN⟩:∃ N,m+64=N:=⟨_,rfl⟩
    rw [hN] at cl hg
    have hNn:N≤200000:=by omega
    replace hN:=Lib.hid hN
    have i1:(j4:Int)<(vs.length:Int):=by omega
    have i2:(j4:Int)<(gs.length:Int):=by omega
    obtain ⟨p1,p2⟩:=cl.out _ hD5.out
    go_upto_region 47 with fail
    go_loopw [30] (fun i wr=>∃ k:Nat,k≤N∧i=.int .i64 k∧Hid (PhD w1 S0 gw u1 u2 L1 L2 (.slice (some ⟨gl,0,none⟩) vs.length c7) vs (.slice (some ⟨gm,0,none⟩) gs.length cz) gs wr)) (fun i _=>N-(intOf i).toNat)
    case atStart=>exact ⟨0,Nat.zero_le _,rfl,hD5⟩
    case round=>
    obtain ⟨k,hk,rfl,hD6⟩:=hrel
    obtain ⟨wk,rfl⟩:∃ wk,wk=wr:=⟨_,rfl⟩
    clear p1 p2 hD5
    obtain ⟨p1,p2⟩:=cl.out _ hD6.out
    by_cases hkN:k<N
    · have hDb:=Lib.hid fun W hb=>hD6.out.below (W':=W) hb
      have hgt:=hD6.out.gT _ _ hg.out
      have hgl:(moS L1 L2 j4).length=N:=by rw [moS_len,hm.out,hN.out]
      rw [← hgl] at hgt
      obtain ⟨gb,rfl,_,_⟩:=row_addr hgt (by omega)
      have cb:=Lib.hid fun W (h:PhD w1 S0 gw u1 u2 L1 L2 (.slice (some ⟨gl,0,none⟩) vs.length c7) vs (.slice (some ⟨gm,0,none⟩) gs.length cz) gs W) (s:ByteArray) (hs:(moS L1 L2 j4)[k]?=some s)=>(by
        have h9:=h.gT _ _ hg.out
        rw [← hgl] at h9
        exact row_cell h9 (by rw [List.getElem?_map,hs];rfl):W.cell? ⟨gb,k,none⟩=some (.string s))
      have hd:=Lib.hid (Below.refl wk.heap.size wk).drew
      have i3:(k:Int)<(N:Int):=by omega
      clear hgt hgl
      by_cases hkm:k<m
      · as_aux_lemma=>
          have hmk:=mkS_at (L1:=L1) (L2:=L2) (i:=j4) (k:=k) (by rw [hm.out];exact hkm)
          have hmo:=moS_lo (L1:=L1) (L2:=L2) (i:=j4) (k:=k) (by rw [hm.out];exact hkm)
          obtain ⟨A',c',he',_,hrv⟩:=hD6.out.vR _ _ hv.out
          rw [mkS_len,hm.out] at he'
          obtain ⟨gv,hgv,_⟩:=hrv k _ hmk
          have hAv:=(Value.slice.inj he').1
          rw [hgv] at hAv
          subst hAv
          clear hrv he' hgv
          have cv2:=Lib.hid fun W (h:PhD w1 S0 gw u1 u2 L1 L2 (.slice (some ⟨gl,0,none⟩) vs.length c7) vs (.slice (some ⟨gm,0,none⟩) gs.length cz) gs W)=>(by
            obtain ⟨A2,c2,e2,_,h2⟩:=h.vR _ _ hv.out
            obtain ⟨b2,e3,h3⟩:=h2 k _ hmk
            have e4:=(Value.slice.inj e2).1
            rw [e3] at e4
            have e5:gv=b2:=by simpa using e4
            rw [e5]
            exact h3:W.cell? ⟨gv,k,none⟩=some (.string (markT (ba [97]) j4 k)))
          have cb2:=Lib.hid fun W (h:PhD w1 S0 gw u1 u2 L1 L2 (.slice (some ⟨gl,0,none⟩) vs.length c7) vs (.slice (some ⟨gm,0,none⟩) gs.length cz) gs W)=>cb.out W h _ hmo
          have cM:Hid (∀ W,Below wk.heap.size wk W→Calls Tryz.prog 7 #[.string ⟨#[97]⟩, .int .i64 (j4:Int), .int .i64 (k:Int)] W (StrW (markT (ba [97]) j4 k) W)):=Lib.hid fun W hb=>k_mark (ba [97]) j4 k W (by decide) (by omega) (by omega) (hE.out W (hD6.out.below hb).b)
          generalize markT (ba [97]) j4 k=M at *
          have hS:=Lib.hid fun W (h:PhD w1 S0 gw u1 u2 L1 L2 (.slice (some ⟨gl,0,none⟩) vs.length c7) vs (.slice (some ⟨gm,0,none⟩) gs.length cz) gs W)=>(⟨(cl.out W h).1,(cl.out W h).2,cv2.out W h,cb2.out W h⟩:W.cell? ⟨gl,j4,none⟩=some (.slice (some ⟨gv,0,none⟩) m cv)∧W.cell? ⟨gm,j4,none⟩=some (.slice (some ⟨gb,0,none⟩) N cg)∧W.cell? ⟨gv,k,none⟩=some (.string M)∧W.cell? ⟨gb,k,none⟩=some (.string M))
          have d1:decide (k<m)=true:=decide_eq_true hkm
          have d2:decide (m≤k)=false:=decide_eq_false (by omega)
          have i4:(k:Int)<(m:Int):=by omega
          obtain ⟨p1,p2,p3,p4⟩:=hS.out _ hD6.out
          clear cb hmk hmo
          go_upto_region 49 with fail
          go_region_held3 (fun W'=>W'.cell? ⟨gl,j4,none⟩=some (.slice (some ⟨gv,0,none⟩) m cv)∧W'.cell? ⟨gm,j4,none⟩=some (.slice (some ⟨gb,0,none⟩) N cg)∧W'.cell? ⟨gv,k,none⟩=some (.string M)∧W'.cell? ⟨gb,k,none⟩=some (.string M))
            (first|exact hHeld|go_keep|exact hS.out _ (hDb.out _ hbF)|exact hS.out _ (hDb.out _ hbE)|exact hS.out _ (hDb.out _ hd.out))
            (first
              | (go_at_call 7;(with_reducible refine (cM.out _ hbE).mono ?_);rintro e wz ⟨rfl,hbZ⟩;have hbF:=hbE.trans (hbZ.mono hbE.size))
              | (go_at_call 7;(with_reducible refine (cM.out _ hd.out).mono ?_);rintro e wy ⟨rfl,hbY⟩;have hbE:=hd.out.trans (hbY.mono hd.out.size)))
          all_goals
            have hD7:=Lib.hid (hDb.out _ hbF)
            obtain ⟨p1,p2,p3,p4⟩:=hS.out _ hD7.out
            have hdr:=Lib.hid fun n=>hD7.out.below (below_drewN (Below.refl _ _) n)
            clear hS cM hDb hbF hbE cl cv2 cb2 hd
            go_upto_region 51 with fail
            go_quiet (fail)
            go_wp2_with fail
            go_roundw
            case rel=>exact ⟨k+1,by omega,by go_num,Lib.hid (hdr.out _)⟩
            case measure=>simp [intOf];omega
      · as_aux_lemma=>
          have hmo:=moS_hi (L1:=L1) (L2:=L2) (i:=j4) (k:=k) (by rw [hm.out];omega) (by rw [hm.out,hN.out];omega)
          have cM:Hid (∀ W,Below wk.heap.size wk W→Calls Tryz.prog 7 #[.string ⟨#[109]⟩, .int .i64 (j4:Int), .int .i64 0] W (StrW (moX j4) W)):=Lib.hid fun W hb=>k_mark (ba [109]) j4 0 W (by decide) (by omega) (by omega) (hE.out W (hD6.out.below hb).b)
          have cb2:=Lib.hid fun W (h:PhD w1 S0 gw u1 u2 L1 L2 (.slice (some ⟨gl,0,none⟩) vs.length c7) vs (.slice (some ⟨gm,0,none⟩) gs.length cz) gs W)=>cb.out W h _ hmo
          generalize moX j4=X at *
          have hS:=Lib.hid fun W (h:PhD w1 S0 gw u1 u2 L1 L2 (.slice (some ⟨gl,0,none⟩) vs.length c7) vs (.slice (some ⟨gm,0,none⟩) gs.length cz) gs W)=>(⟨(cl.out W h).1,(cl.out W h).2,cb2.out W h⟩:W.cell? ⟨gl,j4,none⟩=some (.slice Av m cv)∧W.cell? ⟨gm,j4,none⟩=some (.slice (some ⟨gb,0,none⟩) N cg)∧W.cell? ⟨gb,k,none⟩=some (.string X))
          have d1:decide (k<m)=false:=decide_eq_false hkm
          have d2:decide (m≤k)=true:=decide_eq_true (by omega)
          obtain ⟨p1,p2,p3⟩:=hS.out _ hD6.out
          have hdd:=Lib.hid fun n=>below_drewN (Below.refl wk.heap.size wk) n
          clear cb hmo
          go_upto_region 49 with fail
          go_quiet (fail)
          go_upto_region 51 with fail
          go_region_held3 (fun W'=>W'.cell? ⟨gl,j4,none⟩=some (.slice Av m cv)∧W'.cell? ⟨gm,j4,none⟩=some (.slice (some ⟨gb,0,none⟩) N cg)∧W'.cell? ⟨gb,k,none⟩=some (.string X))
            (first|exact hHeld|go_keep|exact hS.out _ (hDb.out _ hbE)|exact hS.out _ (hDb.out _ (hdd.out _)))
            (first|(go_at_call 7;(with_reducible refine (cM.out _ (hdd.out _)).mono ?_);rintro e wz ⟨rfl,hbZ⟩;have hbE:=(hdd.out _).trans (hbZ.mono (hdd.out _).size)))
          all_goals
            go_wp2_with fail
            go_roundw
            case rel=>exact ⟨k+1,by omega,by go_num,Lib.hid (hDb.out _ hbE)⟩
            case measure=>simp [intOf];omega
    · go_wp2_with fail
      go_roundw
      case rel=>exact ⟨j4+1,by omega,by go_num,hD6⟩
      case measure=>simp [intOf];omega
  · go_wp2_with fail
    rw [← hP.out]
    exact ⟨rfl,hbz.out _ hD5.out.b⟩
end Go.Proofs.YtdhehcobnbcmdaaGreatDoor
