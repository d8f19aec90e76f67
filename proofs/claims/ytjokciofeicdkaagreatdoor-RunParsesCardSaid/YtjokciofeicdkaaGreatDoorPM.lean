/- A part of the proof of RunParses: ParP. -/
import Derived.Test.YtjokciofeicdkaaGreatDoorPL
import Derived.Lib.OwnKind
set_option maxHeartbeats 16000000
set_option maxRecDepth 100000
set_option linter.all false
namespace Go.Proofs.YtjokciofeicdkaaGreatDoor
open Go.RowKit
attribute [local go_sem ↓] Go.wp_at_zero Go.wp_at_succ
def tcells (x:Nd):Array Value:=#[.string x.field,.int .i64 x.op,.int .i64 x.form,.int .i64 x.lo,.int .i64 x.hi,.int .i64 x.len,.string x.pat]
def TstAt (w:World)(B:Nat)(x:Nd):Prop:=w.heap[B]?=some (.cells (tcells x) 84 (0,0))
section
variable {w:World} {B:Nat} {x:Nd}
theorem TstAt.lt (h:TstAt w B x):B<w.heap.size:=(Array.getElem?_eq_some_iff.1 h).1
theorem TstAt.cell (h:TstAt w B x)(i:Nat):w.cell? ⟨B,i,none⟩=(tcells x)[i]?:=cell_of_row w B i _ _ (0,0) h
theorem TstAt.free (h:TstAt w B x)(i:Nat):w.frozen? ⟨B,i,none⟩=false:=by
 have h':=h;unfold TstAt at h'
 simp [World.frozen?,h']
theorem TstAt.set (h:TstAt w B x)(i:Nat)(u:Value)(y:Nd)(hy:(tcells x).setIfInBounds i u=tcells y):TstAt (w.setCell ⟨B,i,none⟩ u) B y:=by
 have h':=h;unfold TstAt at h' ⊢;simp only [World.setCell,Array.getElem?_modify,h',Option.map_some];rw [← hy];rfl
theorem TstAt.sole {w':World}{M:Nat}(h:TstAt w B x)(hs:Sole M w w')(hn:B≠M):TstAt w' B x:=(hs.block B h.lt hn).trans h
theorem TstAt.setM {M i:Nat}{u:Value}(h:TstAt w B x)(hn:B≠M):TstAt (w.setCell ⟨M,i,none⟩ u) B x:=by
 have h':=h;unfold TstAt at h' ⊢;simp only [World.setCell];rw [Array.getElem?_modify,if_neg (fun e=>hn e.symm)];exact h'
theorem TstAt.qt {w':World}(h:TstAt w B x)(hq:Qt w w'):TstAt w' B x:=((hq.below w.heap.size).block B h.lt).trans h
theorem PlAt.side {M g cap:Nat}{l:List Tk}{p:Pl}{vo vn:Value}(P:PlAt w M g cap l p vo vn)(h:TstAt w B x)(hB:M<B)(i:Nat)(u:Value):PlAt (w.setCell ⟨B,i,none⟩ u) M g cap l p vo vn where
 box:=by
  simp only [World.setCell];rw [Array.getElem?_modify,if_neg (fun e:B=M=>by omega)];exact P.box
 gM:=P.gM
 toks:=P.toks.below (Below.setCell (Below.refl M w) (Nat.le_of_lt hB) _) P.gM
 oo:=ownsRow_setCell_other P.oo (fun e=>by
  obtain ⟨c,fz,h2⟩:=Lib.ownsRow_kind P.oo B e;unfold TstAt at h;rw [h] at h2;simp at h2) _
 on:=ownsRow_setCell_other P.on (fun e=>by
  obtain ⟨c,fz,h2⟩:=Lib.ownsRow_kind P.on B e;unfold TstAt at h;rw [h] at h2;simp at h2) _
 ne:=P.ne
end
structure PtAt (w0 w:World)(M g cap:Nat)(l:List Tk)(p:Pl)(vo vn:Value)(B:Nat)(x:Nd):Prop where
 P:PlAt w M g cap l p vo vn
 T:TstAt w B x
 mB:M<B
 b0:Below M w0 w
section
variable {w0 w:World} {M g cap:Nat} {l:List Tk} {p:Pl} {vo vn:Value} {B:Nat} {x:Nd}
theorem PtAt.setT (h:PtAt w0 w M g cap l p vo vn B x)(i:Nat)(u:Value)(y:Nd)(hy:(tcells x).setIfInBounds i u=tcells y):PtAt w0 (w.setCell ⟨B,i,none⟩ u) M g cap l p vo vn B y:=
 ⟨h.P.side h.T h.mB i u,h.T.set i u y hy,h.mB,h.b0.setCell (Nat.le_of_lt h.mB) u⟩
theorem PtAt.setAt (h:PtAt w0 w M g cap l p vo vn B x)(i:Nat):PtAt w0 (w.setCell ⟨M,1,none⟩ (.int .i64 i)) M g cap l { p with at_:=i } vo vn B x:=
 ⟨h.P.setAt i,h.T.setM (by have:=h.mB;omega),h.mB,h.b0.setCell (Nat.le_refl M) _⟩
theorem PtAt.qt {w':World}(h:PtAt w0 w M g cap l p vo vn B x)(hq:Qt w w'):PtAt w0 w' M g cap l p vo vn B x:=
 ⟨h.P.qt hq,h.T.qt hq,h.mB,h.b0.trans (hq.below M)⟩
theorem PtAt.sole {w':World}{q:Pl}(h:PtAt w0 w M g cap l p vo vn B x)(hs:Sole M w w')(hb:Below M w w')(hP:PlAt w' M g cap l q vo vn):PtAt w0 w' M g cap l q vo vn B x:=
 ⟨hP,h.T.sole hs (by have:=h.mB;omega),h.mB,h.b0.trans hb⟩
end
theorem val_out (p:Pl)(l:List Tk):(p.val l).2.out=p.out:=by
 unfold Pl.val
 (repeat' split)<;>first|rfl|exact (fail_out (p:=p)).1
abbrev Nd.name (f:ByteArray):Nd:=⟨3,f,0,0,0,0,0,⟨#[]⟩⟩
theorem p_test_no {w:World}{M g cap:Nat}{l:List Tk}{p:Pl}{vo vn:Value}(P:PlAt w M g cap l p vo vn)(hz:TokSz l)(hl:p.at_<l.length)(hll:l.length≤1000000)(hn:p.out.length≤1000000)
  (h0:opS l (p.at_+1)=0) :
  Calls Tryz.prog 132 #[.pointer (some ⟨M,0,none⟩)] w fun e w'=>PlPost w M g cap l (p.test l) e w':=by
 have Hh0:=Hi h0;clear h0;have q0:=P.c0;have q1:=P.c1;have f1:=P.free 1;have ht:l[p.at_]?=some l[p.at_]:=List.getElem?_eq_getElem hl;have htx:textAt l p.at_=l[p.at_].text:=by unfold textAt;rw [ht]
 have Hx:=Hi htx;generalize l[p.at_]=t at ht Hx;have e1:w.cell? ⟨g,p.at_*4+1,none⟩=some (.string t.text):=P.toks.2 p.at_ t ht 1 _ rfl;have b2:(p.at_:Int)<(l.length:Int):=by omega
 have b3:(0:Int)≤(p.at_:Int):=by omega
 have bw:IntKind.i64.wrap ((p.at_:Int)+1)=(p.at_:Int)+1:=IntWalk.i64_in _ (by omega)
 have hP:=Hi P;clear P ht htx;have hlt:=hP.out.lt;have hgl:=hP.out.toks.1;go_enter Tryz.func132,Tryz.ntmps132;go_upto_region 0 with fail
 go_region_held3 (fun W=>W.cell? ⟨M,0,none⟩=some (tokV g cap l)∧W.cell? ⟨M,1,none⟩=some (.int .i64 p.at_)∧W.cell? ⟨g,p.at_*4+1,none⟩=some (.string t.text)) (first|exact hHeld|go_keep|(refine ⟨?_,?_,?_⟩<;>go_keep)) (fail)
 have T0:PtAt w ((w.alloc (.cells (tcells (Nd.name t.text)) 84 (0,0))).drewN 1) M g cap l p vo vn w.heap.size (Nd.name t.text):=by
  refine ⟨?_,?_,hP.out.lt,?_⟩
  ·exact (hP.out.up ((Below.refl w.heap.size w).alloc (Nat.le_refl _) (.cells (tcells (Nd.name t.text)) 84 (0,0)))).qt (Qt.self _ 1)
  ·exact heap_alloc_new w (.cells (tcells (Nd.name t.text)) 84 (0,0))
  ·exact ((Below.refl M w).alloc (Nat.le_of_lt hP.out.lt) (.cells (tcells (Nd.name t.text)) 84 (0,0))).trans ((Qt.self _ 1).below M)
 have T0:PtAt w (w.alloc (.cells #[.string t.text,.int .i64 0,.int .i64 0,.int .i64 0,.int .i64 0,.int .i64 0,.string { data:=#[] }] 84)).drew M g cap l p vo vn w.heap.size (Nd.name t.text):=T0;generalize (w.alloc (.cells #[.string t.text,.int .i64 0,.int .i64 0,.int .i64 0,.int .i64 0,.int .i64 0,.string { data:=#[] }] 84)).drew=wc at T0 ⊢;obtain ⟨B,hB⟩:∃ B,w.heap.size=B:=⟨_,rfl⟩
 rw [hB] at T0 ⊢;clear q0 q1 f1 e1 hP hB hlt hgl;have q1:=T0.P.c1;have f1:=T0.P.free 1;have cop:=Hi (p_op (T0.setAt (p.at_+1)).P);have T1:=T0.setAt (p.at_+1);have T1:=Hi T1;clear T0;go_wp2_with fail;refine cop.out.mono ?_;rintro e w1 ⟨rfl,hw⟩;have T1:=T1.out;rw [hw] at T1;clear hw cop q1 f1;have z1:w1.cell? ⟨B,1,none⟩=some (.int .i64 0):=T1.T.cell 1;have f1:=T1.T.free 1;go_upto_region 3 with fail;have T2:=T1.setT 1 (.int .i64 (opS l (p.at_+1))) ⟨3,t.text,opS l (p.at_+1),0,0,0,0,⟨#[]⟩⟩ rfl;generalize w1.setCell ⟨B,1,none⟩ (.int .i64 (opS l (p.at_+1)))=W2 at T2 ⊢;clear z1 f1 T1;obtain ⟨op,hop⟩:∃ op,opS l (p.at_+1)=op:=⟨_,rfl⟩
 rw [hop] at T2 ⊢;have h0:=Hh0.out;clear Hh0;rw [hop] at h0;have Hop:=Hi hop;clear hop;have z1:W2.cell? ⟨B,1,none⟩=some (.int .i64 op):=T2.T.cell 1;have q1:W2.cell? ⟨M,1,none⟩=some (.int .i64 (p.at_+1:Nat)):=T2.P.c1;have H:=Hi (show p.test l=Pl.fail { p with at_:=p.at_+1 } 50 (p.at_+1) by
 unfold Pl.test;dsimp only;rw [if_pos (Hop.out.trans h0)]);have cf:=Hi (p_fail T2.P 50 (p.at_+1));have b0:(op == 0)=true:=by rw [h0];rfl
 have hb0:=Hi T2.b0;clear T2 h0;go_wp2_with fail;refine cf.out.mono ?_;rintro e w3 ⟨rfl,hb,v1,v2,P3⟩;have hP3:=Hi P3;clear P3 cf q1 z1;go_wp2_with fail
 first|go_end0|refine bodyPost_ret (results_none rfl _ _ _) rfl ?_
 rw [H.out];exact ⟨rfl,hb0.out.trans hb,v1,v2,hP3.out⟩
theorem p_test_pat {w:World}{M g cap:Nat}{l:List Tk}{p:Pl}{vo vn:Value}(P:PlAt w M g cap l p vo vn)(hz:TokSz l)(hl:p.at_<l.length)(hll:l.length≤1000000)(hn:p.out.length≤1000000)
  (h0:opS l (p.at_+1)≠0) (ho:opS l (p.at_+1)≤2) (hk5:kindIs l (p.at_+1+1) 5=true) :
  Calls Tryz.prog 132 #[.pointer (some ⟨M,0,none⟩)] w fun e w'=>PlPost w M g cap l (p.test l) e w':=by
 have Hh0:=Hi h0;have Hho:=Hi ho;have Hhk5:=Hi hk5;clear h0 ho hk5;have q0:=P.c0;have q1:=P.c1;have f1:=P.free 1;have ht:l[p.at_]?=some l[p.at_]:=List.getElem?_eq_getElem hl;have htx:textAt l p.at_=l[p.at_].text:=by unfold textAt;rw [ht]
 have Hx:=Hi htx;generalize l[p.at_]=t at ht Hx;have e1:w.cell? ⟨g,p.at_*4+1,none⟩=some (.string t.text):=P.toks.2 p.at_ t ht 1 _ rfl;have b2:(p.at_:Int)<(l.length:Int):=by omega
 have b3:(0:Int)≤(p.at_:Int):=by omega
 have bw:IntKind.i64.wrap ((p.at_:Int)+1)=(p.at_:Int)+1:=IntWalk.i64_in _ (by omega)
 have hP:=Hi P;clear P ht htx;have hlt:=hP.out.lt;have hgl:=hP.out.toks.1;go_enter Tryz.func132,Tryz.ntmps132;go_upto_region 0 with fail
 go_region_held3 (fun W=>W.cell? ⟨M,0,none⟩=some (tokV g cap l)∧W.cell? ⟨M,1,none⟩=some (.int .i64 p.at_)∧W.cell? ⟨g,p.at_*4+1,none⟩=some (.string t.text)) (first|exact hHeld|go_keep|(refine ⟨?_,?_,?_⟩<;>go_keep)) (fail)
 have T0:PtAt w ((w.alloc (.cells (tcells (Nd.name t.text)) 84 (0,0))).drewN 1) M g cap l p vo vn w.heap.size (Nd.name t.text):=by
  refine ⟨?_,?_,hP.out.lt,?_⟩
  ·exact (hP.out.up ((Below.refl w.heap.size w).alloc (Nat.le_refl _) (.cells (tcells (Nd.name t.text)) 84 (0,0)))).qt (Qt.self _ 1)
  ·exact heap_alloc_new w (.cells (tcells (Nd.name t.text)) 84 (0,0))
  ·exact ((Below.refl M w).alloc (Nat.le_of_lt hP.out.lt) (.cells (tcells (Nd.name t.text)) 84 (0,0))).trans ((Qt.self _ 1).below M)
 have T0:PtAt w (w.alloc (.cells #[.string t.text,.int .i64 0,.int .i64 0,.int .i64 0,.int .i64 0,.int .i64 0,.string { data:=#[] }] 84)).drew M g cap l p vo vn w.heap.size (Nd.name t.text):=T0;generalize (w.alloc (.cells #[.string t.text,.int .i64 0,.int .i64 0,.int .i64 0,.int .i64 0,.int .i64 0,.string { data:=#[] }] 84)).drew=wc at T0 ⊢;obtain ⟨B,hB⟩:∃ B,w.heap.size=B:=⟨_,rfl⟩
 rw [hB] at T0 ⊢;clear q0 q1 f1 e1 hP hB hlt hgl;have q1:=T0.P.c1;have f1:=T0.P.free 1;have cop:=Hi (p_op (T0.setAt (p.at_+1)).P);have T1:=T0.setAt (p.at_+1);have T1:=Hi T1;clear T0;go_wp2_with fail;refine cop.out.mono ?_;rintro e w1 ⟨rfl,hw⟩;have T1:=T1.out;rw [hw] at T1;clear hw cop q1 f1;have z1:w1.cell? ⟨B,1,none⟩=some (.int .i64 0):=T1.T.cell 1;have f1:=T1.T.free 1;go_upto_region 3 with fail;have T2:=T1.setT 1 (.int .i64 (opS l (p.at_+1))) ⟨3,t.text,opS l (p.at_+1),0,0,0,0,⟨#[]⟩⟩ rfl;generalize w1.setCell ⟨B,1,none⟩ (.int .i64 (opS l (p.at_+1)))=W2 at T2 ⊢;clear z1 f1 T1;obtain ⟨op,hop⟩:∃ op,opS l (p.at_+1)=op:=⟨_,rfl⟩
 rw [hop] at T2 ⊢;have h0:=Hh0.out;have ho:=Hho.out;clear Hh0 Hho;rw [hop] at h0 ho;have hk5:=Hhk5.out;clear Hhk5;have Hop:=Hi hop;clear hop;have z1:W2.cell? ⟨B,1,none⟩=some (.int .i64 op):=T2.T.cell 1;have q1:W2.cell? ⟨M,1,none⟩=some (.int .i64 (p.at_+1:Nat)):=T2.P.c1;have b0:(op == 0)=false:=by rw [beq_eq_false_iff_ne];exact h0
 have f1:=T2.P.free 1;have bw2:IntKind.i64.wrap (((p.at_+1:Nat):Int)+1)=((p.at_+1:Nat):Int)+1:=IntWalk.i64_in _ (by omega)
 go_upto_region 6 with fail;have T3:=T2.setAt (p.at_+1+1);have T3:PtAt w (W2.setCell ⟨M,1,none⟩ (.int .i64 ((p.at_:Int)+1+1))) M g cap l _ vo vn B _:=T3;generalize W2.setCell ⟨M,1,none⟩ (.int .i64 ((p.at_:Int)+1+1))=W3 at T3 ⊢;clear z1 q1 f1 bw2;obtain ⟨i,hi⟩:∃ i,p.at_+1+1=i:=⟨_,rfl⟩
 rw [hi] at T3 hk5;have q0:=T3.P.c0;have q1:W3.cell? ⟨M,1,none⟩=some (.int .i64 i):=T3.P.c1;have z1:W3.cell? ⟨B,1,none⟩=some (.int .i64 op):=T3.T.cell 1;have hT3:=Hi T3;have bo:decide (op≤2)=true:=decide_eq_true ho;have hl2:=kind_lt hk5;have ht3:l[i]?=some l[i]:=List.getElem?_eq_getElem hl2;have bk:(l[i].kind == 5)=true:=by unfold kindIs at hk5;rw [ht3] at hk5;exact hk5
 generalize l[i]=u3 at ht3 bk;have e0:W3.cell? ⟨g,i*4,none⟩=some (.int .i64 u3.kind):=T3.P.toks.2 i u3 ht3 0 _ rfl;have c1:decide (i<l.length)=true:=decide_eq_true hl2;have c2:(i:Int)<(l.length:Int):=by omega
 have c3:(0:Int)≤(i:Int):=by omega
 have ho:=Hi ho;have hk5:=Hi hk5;have hl2:=Hi hl2;clear T3 ht3;go_quiet (fail);go_upto_if 70 with fail;have T4:=hT3.out.qt (Qt.self W3 nq);clear hT3 q0 q1 z1 e0 c1 c2 c3 bo bk;generalize W3.drewN nq=wc at T4 ⊢;have ho:=ho.out;have hk5:=hk5.out;have hl2:=hl2.out;have ht:l[i]?=some l[i]:=List.getElem?_eq_getElem hl2;have htx:textAt l i=l[i].text:=by unfold textAt;rw [ht]
 have hsz:=hz i _ ht;have Hx2:=Hi htx;generalize l[i]=u at ht Hx2 hsz
 have H:=Hi (show p.test l=(if patOK u.text=false then Pl.fail { p with at_:=i } 50 i
  else Pl.put { p with at_:=i+1 } ⟨3,t.text,op,4,0,0,0,u.text.extract 1 u.text.size⟩) by
  unfold Pl.test;dsimp only;rw [Hop.out,if_neg h0,hi,if_pos ⟨ho,hk5⟩,Hx.out,Hx2.out])
 have q0:=T4.P.c0;have q1:wc.cell? ⟨M,1,none⟩=some (.int .i64 i):=T4.P.c1;have e1:wc.cell? ⟨g,i*4+1,none⟩=some (.string u.text):=T4.P.toks.2 i u ht 1 _ rfl;have c2:(i:Int)<(l.length:Int):=by omega
 have c3:(0:Int)≤(i:Int):=by omega
 have hT4:=Hi T4;have cf:=Hi (fun (W:World) (hq:Qt wc W)=>p_fail (T4.qt hq).P 50 i)
 have cd:=Hi (fun (W:World)=>p_digitsFit (u.text.extract 1 u.text.size) W)
 clear T4 ht htx hk5 ho hl2 h0 hi
 by_cases hu:u.text.size<2
 ·have H2:=Hi (H.out.trans (if_pos (show patOK u.text=false by
   unfold patOK isPatR
   cases hb:bs u.text with
   | nil=>rfl
   | cons c r=>
     have:r=[]:=List.length_eq_zero_iff.1 (by have:=bs_length u.text;rw [hb] at this;simp only [List.length_cons] at this;omega)
     subst this
     show (c.toNat == 37 && patS [])=false
     rw [show patS []=false from rfl];simp)))
  have bu:decide (u.text.size<2)=true:=decide_eq_true hu;have bu2:(u.text.size:Int)<2:=by omega
  clear H hu cd;go_wp2_with fail;go_quiet (fail);go_wp2_with fail;refine (cf.out _ (Qt.self wc _)).mono ?_;rintro e w3 ⟨rfl,hb,v1,v2,P3⟩;have hP3:=Hi P3;clear P3 cf q0 q1 e1;go_wp2_with fail
  first|go_end0|refine bodyPost_ret (results_none rfl _ _ _) rfl ?_
  rw [H2.out];exact ⟨rfl,(hT4.out.qt (Qt.self _ _)).b0.trans hb,v1,v2,hP3.out⟩
 have h0u:0<u.text.size:=by omega
 have hd:=bs_drop u.text 0 h0u;rw [List.drop_zero] at hd
 have hpo:patOK u.text=((u.text[0].toNat == 37) && patS (bs (u.text.extract 1 u.text.size))):=by
  unfold patOK;rw [hd,bs_from];rfl
 have Hpo:=Hi hpo;have bu:decide (u.text.size<2)=false:=decide_eq_false hu;have bu2:¬ (u.text.size:Int)<2:=by omega
 have c0:(0:Int)<(u.text.size:Int):=by omega
 have c1:(1:Int)≤(u.text.size:Int):=by omega
 clear hpo hd hu
 by_cases h37:u.text[0].toNat=37
 ·have b37:((u.text[0].toNat:Int) != 37)=false:=by rw [h37];rfl
  have Hpo2:=Hi (Hpo.out.trans (show _=patS (bs (u.text.extract 1 u.text.size)) by rw [h37];rfl))
  clear Hpo h37
  cases hps:patS (bs (u.text.extract 1 u.text.size))
  ·have H2:=Hi (H.out.trans (if_pos (Hpo2.out.trans hps)));rw [hps] at cd;clear H hps Hpo2;go_wp2_with fail;go_quiet (fail);go_wp2_with (go_at_call 166;refine (cd.out _).mono ?_;rintro e w' ⟨rfl,rfl⟩);refine (cf.out _ (Qt.self wc _)).mono ?_;rintro e w3 ⟨rfl,hb,v1,v2,P3⟩;have hP3:=Hi P3;clear P3 cf q0 q1 e1;go_wp2_with fail
   first|go_end0|refine bodyPost_ret (results_none rfl _ _ _) rfl ?_
   rw [H2.out];exact ⟨rfl,(hT4.out.qt (Qt.self _ _)).b0.trans hb,v1,v2,hP3.out⟩
  ·have H2:=Hi (H.out.trans (if_neg (by rw [Hpo2.out,hps];decide)))
   rw [hps] at cd;clear H hps Hpo2 cf;go_wp2_with fail;go_quiet (fail);go_upto_region 10 with (go_at_call 166;refine (cd.out _).mono ?_;rintro e w' ⟨rfl,rfl⟩);have T5:=hT4.out.qt (Qt.self wc nq);clear q0 q1 e1 hT4 cd;generalize wc.drewN nq=W5 at T5 ⊢;have z2:W5.cell? ⟨B,2,none⟩=some (.int .i64 0):=T5.T.cell 2;have f2:=T5.T.free 2;go_upto_region 11 with fail;have T6:=T5.setT 2 (.int .i64 4) ⟨3,t.text,op,4,0,0,0,⟨#[]⟩⟩ rfl;clear T5 z2 f2;generalize W5.setCell ⟨B,2,none⟩ (.int .i64 4)=W6 at T6 ⊢;have z6:W6.cell? ⟨B,6,none⟩=some (.string ⟨#[]⟩):=T6.T.cell 6;have f6:=T6.T.free 6;go_upto_region 12 with fail;have T7:=T6.setT 6 (.string (u.text.extract 1 u.text.size)) ⟨3,t.text,op,4,0,0,0,u.text.extract 1 u.text.size⟩ rfl;clear T6 z6 f6;generalize W6.setCell ⟨B,6,none⟩ (.string (u.text.extract 1 u.text.size))=W7 at T7 ⊢;have q1:W7.cell? ⟨M,1,none⟩=some (.int .i64 i):=T7.P.c1;have f1:=T7.P.free 1;have bwi:=wS i (by omega)
   go_upto_region 23 with fail;have T:=T7.setAt (i+1);clear T7 q1 f1;have T:PtAt w (W7.setCell ⟨M,1,none⟩ (.int .i64 ((i:Int)+1))) M g cap l _ vo vn B _:=T;generalize W7.setCell ⟨M,1,none⟩ (.int .i64 ((i:Int)+1))=wc at T ⊢;have hH:=Hi H2.out.symm;clear bu bu2 c0 c1 c2 c3 b37 bwi H2;obtain ⟨yf,hyf⟩:∃ yf,t.text=yf:=⟨_,rfl⟩
   obtain ⟨yo,hyo⟩:∃ yo,op=yo:=⟨_,rfl⟩
   obtain ⟨yp,hyp⟩:∃ yp,u.text.extract 1 u.text.size=yp:=⟨_,rfl⟩
   rw [hyf,hyo,hyp] at T hH;obtain ⟨ym,hym⟩:∃ ym:Int,4=ym:=⟨_,rfl⟩
   obtain ⟨yl,hyl⟩:∃ yl:Int,0=yl:=⟨_,rfl⟩
   rw [hym,hyl] at T hH;obtain ⟨yh,hyh⟩:∃ yh:Int,yl=yh:=⟨_,rfl⟩
   obtain ⟨yn,hyn⟩:∃ yn:Int,yl=yn:=⟨_,rfl⟩
   have T:PtAt w wc M g cap l { p with at_:=i+1 } vo vn B ⟨3,yf,yo,ym,yl,yh,yn,yp⟩:=by rw [← hyh,← hyn];exact T
   have hH:Hid (Pl.put { p with at_:=i+1 } ⟨3,yf,yo,ym,yl,yh,yn,yp⟩=p.test l):=by rw [← hyh,← hyn];exact hH
   obtain ⟨q,hq⟩:∃ q:Pl,{ p with at_:=i+1 }=q:=⟨_,rfl⟩
   have hqo:q.out=p.out:=by rw [← hq]
   rw [hq] at T hH;clear hq hyf hyo hyp hym hyl hyh hyn;obtain ⟨i0,hi0,hz0,hz1,hz2⟩:=info_parts node_info;have hi0:=Hi hi0;have hz0:=Hi hz0;have hz1:=Hi hz1;have hz2:=Hi hz2;have q3:=T.P.c3;have f3:=T.P.free 3;have z0:wc.cell? ⟨B,0,none⟩=some (.string yf):=T.T.cell 0;have z1:wc.cell? ⟨B,1,none⟩=some (.int .i64 yo):=T.T.cell 1;have z2:wc.cell? ⟨B,2,none⟩=some (.int .i64 ym):=T.T.cell 2;have z3:wc.cell? ⟨B,3,none⟩=some (.int .i64 yl):=T.T.cell 3;have z4:wc.cell? ⟨B,4,none⟩=some (.int .i64 yh):=T.T.cell 4;have z5:wc.cell? ⟨B,5,none⟩=some (.int .i64 yn):=T.T.cell 5;have z6:wc.cell? ⟨B,6,none⟩=some (.string yp):=T.T.cell 6;have Pa:=T.P.up ((Below.refl _ wc).alloc (Nat.le_refl _) (.cells #[.int .i64 3,.string yf,.int .i64 yo,.int .i64 ym,.int .i64 yl,.int .i64 yh,.int .i64 yn,.string yp] 86 (0,0)));have q3a:=Pa.c3;have hon:q.out.length≤1000000:=by rw [hqo];exact hn
   have hO:=Hi T.P.on;have hP:=Hi T.P;have hb0:=Hi T.b0;have hlt:=T.P.lt;clear Pa T hqo Hx Hop;clear b0 hn hz hl b2 b3 bw
   go_region_law (refine step_append_lies _ (by rfl) (.tmp 179) (.tmp 182) _ (by rfl) (M+1) 86 i0 _ 8 80 Tryz.underlying40 hi0.out hz0.out hz1.out hz2.out rfl (by decide) vn q.out.length (flatN q.out) (by rfl) ((hO.out.alloc _).drew) ⟨wc.heap.size,0,none⟩ 1 1 [.int .i64 3,.string yf,.int .i64 yo,.int .i64 ym,.int .i64 yl,.int .i64 yh,.int .i64 yn,.string yp] (by rfl) (by rfl) (World.news_of_block (heap_alloc_new wc _)) (oc _ rfl) (by decide) (by unfold maxLen;omega) (by omega) (by simp;omega) (wc.heap.size+1) (by simp) ?_;intro g' cap' w4 hown4 hg4 hat4 hlt4;have P1:=(hP.out.up ((Below.refl _ wc).alloc (Nat.le_refl _) (.cells #[.int .i64 3,.string yf,.int .i64 yo,.int .i64 ym,.int .i64 yl,.int .i64 yh,.int .i64 yn,.string yp] 86 (0,0)))).qt (Qt.self _ 1);have q34:=hg4.cell P1.c3 (fun e=>P1.ne_box.1 e.symm);have f34:=(hg4.frozen_far (a:=⟨M,3,none⟩) P1.lt (fun e=>P1.ne_box.1 e.symm)).trans (P1.free 3);have hown5:=Hi hown4;have hg5:=Hi hg4;clear P1 hown4 hg4)
   all_goals (
    go_end0;have hb1:Below M wc ((wc.alloc (.cells #[.int .i64 3,.string yf,.int .i64 yo,.int .i64 ym,.int .i64 yl,.int .i64 yh,.int .i64 yn,.string yp] 86 (0,0))).drewN 1):=((Below.refl M wc).alloc (Nat.le_of_lt hlt) _).trans ((Qt.self _ 1).below M);have P1:=(hP.out.up ((Below.refl _ wc).alloc (Nat.le_refl _) (.cells #[.int .i64 3,.string yf,.int .i64 yo,.int .i64 ym,.int .i64 yl,.int .i64 yh,.int .i64 yn,.string yp] 86 (0,0)))).qt (Qt.self _ 1);rw [← hH.out];refine ⟨rfl,hb0.out.trans ((hb1.grown hg5.out (Nat.le_of_lt P1.lt) (fun i hi=>by have:=(hO.out.lt i hi).1;omega)).setCell (Nat.le_refl M) _),vo,.slice (some ⟨g',0,none⟩) (q.out.length+1) cap',?_⟩
    exact P1.setOut (xs:=q.out++[⟨3,yf,yo,ym,yl,yh,yn,yp⟩]) hg5.out (Nat.le_refl _) (hat4.imp_right (fun h=>h.trans (by simp))) rfl (by rw [flatN_snoc,List.length_append];exact hown5.out))
 ·have b37:((u.text[0].toNat:Int) != 37)=true:=by simp;omega
  have H2:=Hi (H.out.trans (if_pos (Hpo.out.trans (by rw [beq_eq_false_iff_ne.2 h37];rfl))))
  clear H Hpo cd h37;go_wp2_with fail;go_quiet (fail);go_wp2_with fail;refine (cf.out _ (Qt.self wc _)).mono ?_;rintro e w3 ⟨rfl,hb,v1,v2,P3⟩;have hP3:=Hi P3;clear P3 cf q0 q1 e1;go_wp2_with fail
  first|go_end0|refine bodyPost_ret (results_none rfl _ _ _) rfl ?_
  rw [H2.out];exact ⟨rfl,(hT4.out.qt (Qt.self _ _)).b0.trans hb,v1,v2,hP3.out⟩
theorem p_test_num {w:World}{M g cap:Nat}{l:List Tk}{p:Pl}{vo vn:Value}(P:PlAt w M g cap l p vo vn)(hz:TokSz l)(hl:p.at_<l.length)(hll:l.length≤1000000)(hn:p.out.length≤1000000)
  (h0:opS l (p.at_+1)≠0) (hCn:¬ (opS l (p.at_+1)≤2∧kindIs l (p.at_+1+1) 5=true)) :
  Calls Tryz.prog 132 #[.pointer (some ⟨M,0,none⟩)] w fun e w'=>PlPost w M g cap l (p.test l) e w':=by
 have Hh0:=Hi h0;have HhCn:=Hi hCn;clear h0 hCn;have q0:=P.c0;have q1:=P.c1;have f1:=P.free 1;have ht:l[p.at_]?=some l[p.at_]:=List.getElem?_eq_getElem hl;have htx:textAt l p.at_=l[p.at_].text:=by unfold textAt;rw [ht]
 have Hx:=Hi htx;generalize l[p.at_]=t at ht Hx;have e1:w.cell? ⟨g,p.at_*4+1,none⟩=some (.string t.text):=P.toks.2 p.at_ t ht 1 _ rfl;have b2:(p.at_:Int)<(l.length:Int):=by omega
 have b3:(0:Int)≤(p.at_:Int):=by omega
 have bw:IntKind.i64.wrap ((p.at_:Int)+1)=(p.at_:Int)+1:=IntWalk.i64_in _ (by omega)
 have hP:=Hi P;clear P ht htx;have hlt:=hP.out.lt;have hgl:=hP.out.toks.1;go_enter Tryz.func132,Tryz.ntmps132;go_upto_region 0 with fail
 go_region_held3 (fun W=>W.cell? ⟨M,0,none⟩=some (tokV g cap l)∧W.cell? ⟨M,1,none⟩=some (.int .i64 p.at_)∧W.cell? ⟨g,p.at_*4+1,none⟩=some (.string t.text)) (first|exact hHeld|go_keep|(refine ⟨?_,?_,?_⟩<;>go_keep)) (fail)
 have T0:PtAt w ((w.alloc (.cells (tcells (Nd.name t.text)) 84 (0,0))).drewN 1) M g cap l p vo vn w.heap.size (Nd.name t.text):=by
  refine ⟨?_,?_,hP.out.lt,?_⟩
  ·exact (hP.out.up ((Below.refl w.heap.size w).alloc (Nat.le_refl _) (.cells (tcells (Nd.name t.text)) 84 (0,0)))).qt (Qt.self _ 1)
  ·exact heap_alloc_new w (.cells (tcells (Nd.name t.text)) 84 (0,0))
  ·exact ((Below.refl M w).alloc (Nat.le_of_lt hP.out.lt) (.cells (tcells (Nd.name t.text)) 84 (0,0))).trans ((Qt.self _ 1).below M)
 have T0:PtAt w (w.alloc (.cells #[.string t.text,.int .i64 0,.int .i64 0,.int .i64 0,.int .i64 0,.int .i64 0,.string { data:=#[] }] 84)).drew M g cap l p vo vn w.heap.size (Nd.name t.text):=T0;generalize (w.alloc (.cells #[.string t.text,.int .i64 0,.int .i64 0,.int .i64 0,.int .i64 0,.int .i64 0,.string { data:=#[] }] 84)).drew=wc at T0 ⊢;obtain ⟨B,hB⟩:∃ B,w.heap.size=B:=⟨_,rfl⟩
 rw [hB] at T0 ⊢;clear q0 q1 f1 e1 hP hB hlt hgl;have q1:=T0.P.c1;have f1:=T0.P.free 1;have cop:=Hi (p_op (T0.setAt (p.at_+1)).P);have T1:=T0.setAt (p.at_+1);have T1:=Hi T1;clear T0;go_wp2_with fail;refine cop.out.mono ?_;rintro e w1 ⟨rfl,hw⟩;have T1:=T1.out;rw [hw] at T1;clear hw cop q1 f1;have z1:w1.cell? ⟨B,1,none⟩=some (.int .i64 0):=T1.T.cell 1;have f1:=T1.T.free 1;go_upto_region 3 with fail;have T2:=T1.setT 1 (.int .i64 (opS l (p.at_+1))) ⟨3,t.text,opS l (p.at_+1),0,0,0,0,⟨#[]⟩⟩ rfl;generalize w1.setCell ⟨B,1,none⟩ (.int .i64 (opS l (p.at_+1)))=W2 at T2 ⊢;clear z1 f1 T1;obtain ⟨op,hop⟩:∃ op,opS l (p.at_+1)=op:=⟨_,rfl⟩
 rw [hop] at T2 ⊢;have h0:=Hh0.out;have hCn:=HhCn.out;clear Hh0 HhCn;rw [hop] at h0 hCn;have Hop:=Hi hop;clear hop;have z1:W2.cell? ⟨B,1,none⟩=some (.int .i64 op):=T2.T.cell 1;have q1:W2.cell? ⟨M,1,none⟩=some (.int .i64 (p.at_+1:Nat)):=T2.P.c1;have b0:(op == 0)=false:=by rw [beq_eq_false_iff_ne];exact h0
 have f1:=T2.P.free 1;have bw2:IntKind.i64.wrap (((p.at_+1:Nat):Int)+1)=((p.at_+1:Nat):Int)+1:=IntWalk.i64_in _ (by omega)
 go_upto_region 6 with fail;have T3:=T2.setAt (p.at_+1+1);have T3:PtAt w (W2.setCell ⟨M,1,none⟩ (.int .i64 ((p.at_:Int)+1+1))) M g cap l _ vo vn B _:=T3;generalize W2.setCell ⟨M,1,none⟩ (.int .i64 ((p.at_:Int)+1+1))=W3 at T3 ⊢;clear z1 q1 f1 bw2;obtain ⟨i,hi⟩:∃ i,p.at_+1+1=i:=⟨_,rfl⟩
 rw [hi] at T3 hCn;have q0:=T3.P.c0;have q1:W3.cell? ⟨M,1,none⟩=some (.int .i64 i):=T3.P.c1;have z1:W3.cell? ⟨B,1,none⟩=some (.int .i64 op):=T3.T.cell 1
 go_cut [70] (fun v wx=>v=.bool false∧PtAt w wx M g cap l { p with at_:=i } vo vn B ⟨3,t.text,op,0,0,0,0,⟨#[]⟩⟩)
 case first=>
  have hT3:=Hi T3
  by_cases ho:op≤2
  ·have bo:decide (op≤2)=true:=decide_eq_true ho
   by_cases hl2:i<l.length
   ·have ht:l[i]?=some l[i]:=List.getElem?_eq_getElem hl2
    have bk:(l[i].kind == 5)=false:=by
     cases hb:(l[i].kind == 5)
     ·rfl
     ·exact absurd ⟨ho,by unfold kindIs;rw [ht];exact hb⟩ hCn
    generalize l[i]=u at ht bk;have e0:W3.cell? ⟨g,i*4,none⟩=some (.int .i64 u.kind):=T3.P.toks.2 i u ht 0 _ rfl;have c1:decide (i<l.length)=true:=decide_eq_true hl2;have c2:(i:Int)<(l.length:Int):=by omega
    have c3:(0:Int)≤(i:Int):=by omega
    clear T3 ht ho hl2 hCn;go_quiet (fail);go_wp2_with fail;go_meet;exact ⟨rfl,hT3.out.qt (Qt.self _ _)⟩
   ·have c1:decide (i<l.length)=false:=decide_eq_false hl2;clear T3 ho hl2 hCn;go_quiet (fail);go_wp2_with fail;go_meet;exact ⟨rfl,hT3.out.qt (Qt.self _ _)⟩
  ·have bo:decide (op≤2)=false:=decide_eq_false ho;clear T3 ho hCn;go_quiet (fail);go_wp2_with fail;go_meet;exact ⟨rfl,hT3.out.qt (Qt.self _ _)⟩
 case rest=>
 obtain ⟨rfl,T4⟩:=hcut;clear T3 q0 q1 z1;go_upto_if 70 with fail
 go_cut [2] (fun v wx=>v=.pointer (some ⟨B,0,none⟩)∧∃ (q:Pl) (y:Nd),PtAt w wx M g cap l q vo vn B y∧Hid (q.put y=p.test l)∧y.kind=3∧q.out=p.out)
 case first=>
  have z2:wc.cell? ⟨B,2,none⟩=some (.int .i64 0):=T4.T.cell 2;have f2:=T4.T.free 2;have hT4:=Hi T4;have hCn:=Hi hCn;clear T4;go_upto_region 14 with fail;have T5:=hT4.out.setT 2 (.int .i64 1) ⟨3,t.text,op,1,0,0,0,⟨#[]⟩⟩ rfl;clear hT4 z2 f2;generalize wc.setCell ⟨B,2,none⟩ (.int .i64 1)=W5 at T5 ⊢;have cv:=Hi (p_value_s T5.P hz hll);have hv:=val_sz { p with at_:=i } l;have hT5:=Hi T5;clear T5;go_wp2_with fail;refine cv.out.mono ?_;rintro e w6 ⟨rfl,hso,hb6,P6⟩;have T6:=hT5.out.sole hso hb6 P6;clear hT5 hso hb6 P6 cv;have z3:w6.cell? ⟨B,3,none⟩=some (.int .i64 0):=T6.T.cell 3;have f3:=T6.T.free 3;obtain ⟨v,hvv⟩:∃ v,Pl.val { p with at_:=i } l=v:=⟨_,rfl⟩
  rw [hvv] at T6 hv ⊢;have Hv:=Hi hvv;clear hvv;obtain ⟨v1,v2⟩:=v;have HvK:=Hv;dsimp only at T6 hv
  have H:=Hi (show p.test l=(if v2.e=0∧op≤2∧sgn l v2.at_ sSlash=true then
    (Pl.val { v2 with at_:=v2.at_+1 } l).2.put ⟨3,t.text,op,2,v1,0,(Pl.val { v2 with at_:=v2.at_+1 } l).1,⟨#[]⟩⟩
   else if v2.e=0∧op≤2∧sgn l v2.at_ sDots=true then
    (Pl.val { v2 with at_:=v2.at_+1 } l).2.put ⟨3,t.text,op,3,v1,(Pl.val { v2 with at_:=v2.at_+1 } l).1,0,⟨#[]⟩⟩
   else v2.put ⟨3,t.text,op,1,v1,0,0,⟨#[]⟩⟩) by
   unfold Pl.test;dsimp only;rw [Hop.out,if_neg h0,hi,if_neg hCn.out,Hx.out,Hv.out])
  clear hCn Hv;go_upto_region 15 with fail;have T7:=T6.setT 3 (.int .i64 v1) ⟨3,t.text,op,1,v1,0,0,⟨#[]⟩⟩ rfl;clear T6 z3 f3;generalize w6.setCell ⟨B,3,none⟩ (.int .i64 v1)=W7 at T7 ⊢;have q5:W7.cell? ⟨M,5,none⟩=some (.int .i64 v2.e):=T7.P.c5;have q1:W7.cell? ⟨M,1,none⟩=some (.int .i64 v2.at_):=T7.P.c1;have z1:W7.cell? ⟨B,1,none⟩=some (.int .i64 op):=T7.T.cell 1;have cs:=Hi (fun (s:ByteArray)=>p_sign T7.P.c0 T7.P.toks v2.at_ s)
  have hT7:=Hi T7;clear T7;have hvo:v2.out=p.out:=by have h:=val_out { p with at_:=i } l;rw [HvK.out] at h;exact h
  by_cases h5:v2.e=0
  ·have b5:(v2.e == 0)=true:=by rw [h5];rfl
   by_cases ho:op≤2
   ·have bo:decide (op≤2)=true:=decide_eq_true ho
    cases hs:sgn l v2.at_ sSlash
    ·have c1:=Hi hs
     cases hs2:sgn l v2.at_ sDots
     ·have c2:=Hi hs2;have H2:=Hi (H.out.trans ((if_neg (by rw [hs];simp)).trans (if_neg (by rw [hs2];simp))))
      clear H hs hs2 h5 ho;go_wp2_with (go_at_call 128;refine (cs.out _).mono ?_;rintro e w' ⟨rfl,rfl⟩;first|rw [c1.out]|rw [c2.out])
      go_meet;exact ⟨rfl,_,_,hT7.out,Hi H2.out.symm,rfl,hvo⟩
     ·have c2:=Hi hs2;have H2:=Hi (H.out.trans ((if_neg (by rw [hs];simp)).trans (if_pos ⟨h5,ho,hs2⟩)))
      have hat:v2.at_<l.length:=kind_lt (sgn_kind hs2);clear H hs hs2 h5 ho;go_upto_region 20 with (go_at_call 128;refine (cs.out _).mono ?_;rintro e w' ⟨rfl,rfl⟩;first|rw [c1.out]|rw [c2.out])
      have f1:=hT7.out.P.free 1;have bwv:IntKind.i64.wrap ((v2.at_:Int)+1)=(v2.at_:Int)+1:=IntWalk.i64_in _ (by omega)
      go_upto_region 21 with fail;have T8:=hT7.out.setAt (v2.at_+1);have T8:PtAt w (W7.setCell ⟨M,1,none⟩ (.int .i64 ((v2.at_:Int)+1))) M g cap l _ vo vn B _:=T8;clear hT7 q5 q1 z1 f1 c1 c2 cs;generalize W7.setCell ⟨M,1,none⟩ (.int .i64 ((v2.at_:Int)+1))=W8 at T8 ⊢;have z2:W8.cell? ⟨B,2,none⟩=some (.int .i64 1):=T8.T.cell 2;have f2:=T8.T.free 2;go_upto_region 22 with fail;have T9:=T8.setT 2 (.int .i64 3) ⟨3,t.text,op,3,v1,0,0,⟨#[]⟩⟩ rfl;clear T8 z2 f2;generalize W8.setCell ⟨B,2,none⟩ (.int .i64 3)=W9 at T9 ⊢;have cv:=Hi (p_value_s T9.P hz hll);have huo:=val_out { v2 with at_:=v2.at_+1 } l;have hT9:=Hi T9;clear T9;go_wp2_with fail;refine cv.out.mono ?_;rintro e w10 ⟨rfl,hso,hb10,P10⟩;have T10:=hT9.out.sole hso hb10 P10;clear hT9 hso hb10 P10 cv;have z3:w10.cell? ⟨B,4,none⟩=some (.int .i64 0):=T10.T.cell 4;have f3:=T10.T.free 4;obtain ⟨u,huu⟩:∃ u,Pl.val { v2 with at_:=v2.at_+1 } l=u:=⟨_,rfl⟩
      rw [huu] at T10 huo H2 ⊢;clear huu;obtain ⟨u1,u2⟩:=u;dsimp only at T10 huo;have T11:=Hi (T10.setT 4 (.int .i64 u1) ⟨3,t.text,op,3,v1,u1,0,⟨#[]⟩⟩ rfl);clear T10;go_wp2_with fail;go_meet;exact ⟨rfl,_,_,T11.out,Hi H2.out.symm,rfl,huo.trans hvo⟩
    ·have c1:=Hi hs;have c2:=c1;have H2:=Hi (H.out.trans (if_pos ⟨h5,ho,hs⟩));have hat:v2.at_<l.length:=kind_lt (sgn_kind hs);clear H hs h5 ho;go_upto_region 16 with (go_at_call 128;refine (cs.out _).mono ?_;rintro e w' ⟨rfl,rfl⟩;first|rw [c1.out]|rw [c2.out])
     have f1:=hT7.out.P.free 1;have bwv:IntKind.i64.wrap ((v2.at_:Int)+1)=(v2.at_:Int)+1:=IntWalk.i64_in _ (by omega)
     go_upto_region 17 with fail;have T8:=hT7.out.setAt (v2.at_+1);have T8:PtAt w (W7.setCell ⟨M,1,none⟩ (.int .i64 ((v2.at_:Int)+1))) M g cap l _ vo vn B _:=T8;clear hT7 q5 q1 z1 f1 c1 c2 cs;generalize W7.setCell ⟨M,1,none⟩ (.int .i64 ((v2.at_:Int)+1))=W8 at T8 ⊢;have z2:W8.cell? ⟨B,2,none⟩=some (.int .i64 1):=T8.T.cell 2;have f2:=T8.T.free 2;go_upto_region 18 with fail;have T9:=T8.setT 2 (.int .i64 2) ⟨3,t.text,op,2,v1,0,0,⟨#[]⟩⟩ rfl;clear T8 z2 f2;generalize W8.setCell ⟨B,2,none⟩ (.int .i64 2)=W9 at T9 ⊢;have cv:=Hi (p_value_s T9.P hz hll);have huo:=val_out { v2 with at_:=v2.at_+1 } l;have hT9:=Hi T9;clear T9;go_wp2_with fail;refine cv.out.mono ?_;rintro e w10 ⟨rfl,hso,hb10,P10⟩;have T10:=hT9.out.sole hso hb10 P10;clear hT9 hso hb10 P10 cv;have z3:w10.cell? ⟨B,5,none⟩=some (.int .i64 0):=T10.T.cell 5;have f3:=T10.T.free 5;obtain ⟨u,huu⟩:∃ u,Pl.val { v2 with at_:=v2.at_+1 } l=u:=⟨_,rfl⟩
     rw [huu] at T10 huo H2 ⊢;clear huu;obtain ⟨u1,u2⟩:=u;dsimp only at T10 huo;have T11:=Hi (T10.setT 5 (.int .i64 u1) ⟨3,t.text,op,2,v1,0,u1,⟨#[]⟩⟩ rfl);clear T10;go_wp2_with fail;go_meet;exact ⟨rfl,_,_,T11.out,Hi H2.out.symm,rfl,huo.trans hvo⟩
   ·have bo:decide (op≤2)=false:=decide_eq_false ho;have H2:=Hi (H.out.trans ((if_neg (fun h=>ho h.2.1)).trans (if_neg (fun h=>ho h.2.1))))
    clear H cs h5 ho;go_wp2_with fail;go_meet;exact ⟨rfl,_,_,hT7.out,Hi H2.out.symm,rfl,hvo⟩
  ·have b5:(v2.e == 0)=false:=by rw [beq_eq_false_iff_ne];exact h5
   have H2:=Hi (H.out.trans ((if_neg (fun h=>h5 h.1)).trans (if_neg (fun h=>h5 h.1))))
   clear H cs h5;go_wp2_with fail;go_meet;exact ⟨rfl,_,_,hT7.out,Hi H2.out.symm,rfl,hvo⟩
 case rest=>
 obtain ⟨rfl,q,⟨k,yf,yo,ym,yl,yh,yn,yp⟩,T,hH,hk,hqo⟩:=hcut;dsimp only at hk;subst hk;obtain ⟨i0,hi0,hz0,hz1,hz2⟩:=info_parts node_info;have hi0:=Hi hi0;have hz0:=Hi hz0;have hz1:=Hi hz1;have hz2:=Hi hz2;have q3:=T.P.c3;have f3:=T.P.free 3;have z0:wc.cell? ⟨B,0,none⟩=some (.string yf):=T.T.cell 0;have z1:wc.cell? ⟨B,1,none⟩=some (.int .i64 yo):=T.T.cell 1;have z2:wc.cell? ⟨B,2,none⟩=some (.int .i64 ym):=T.T.cell 2;have z3:wc.cell? ⟨B,3,none⟩=some (.int .i64 yl):=T.T.cell 3;have z4:wc.cell? ⟨B,4,none⟩=some (.int .i64 yh):=T.T.cell 4;have z5:wc.cell? ⟨B,5,none⟩=some (.int .i64 yn):=T.T.cell 5;have z6:wc.cell? ⟨B,6,none⟩=some (.string yp):=T.T.cell 6;have Pa:=T.P.up ((Below.refl _ wc).alloc (Nat.le_refl _) (.cells #[.int .i64 3,.string yf,.int .i64 yo,.int .i64 ym,.int .i64 yl,.int .i64 yh,.int .i64 yn,.string yp] 86 (0,0)));have q3a:=Pa.c3;have hon:q.out.length≤1000000:=by rw [hqo];exact hn
 have hO:=Hi T.P.on;have hP:=Hi T.P;have hb0:=Hi T.b0;have hlt:=T.P.lt;clear Pa T hqo Hx Hop;clear h0 b0 hi hn hz hl b2 b3 bw hCn;go_upto_region 23 with fail
 go_region_law (refine step_append_lies _ (by rfl) (.tmp 179) (.tmp 182) _ (by rfl) (M+1) 86 i0 _ 8 80 Tryz.underlying40 hi0.out hz0.out hz1.out hz2.out rfl (by decide) vn q.out.length (flatN q.out) (by rfl) ((hO.out.alloc _).drew) ⟨wc.heap.size,0,none⟩ 1 1 [.int .i64 3,.string yf,.int .i64 yo,.int .i64 ym,.int .i64 yl,.int .i64 yh,.int .i64 yn,.string yp] (by rfl) (by rfl) (World.news_of_block (heap_alloc_new wc _)) (oc _ rfl) (by decide) (by unfold maxLen;omega) (by omega) (by simp;omega) (wc.heap.size+1) (by simp) ?_;intro g' cap' w4 hown4 hg4 hat4 hlt4;have P1:=(hP.out.up ((Below.refl _ wc).alloc (Nat.le_refl _) (.cells #[.int .i64 3,.string yf,.int .i64 yo,.int .i64 ym,.int .i64 yl,.int .i64 yh,.int .i64 yn,.string yp] 86 (0,0)))).qt (Qt.self _ 1);have q34:=hg4.cell P1.c3 (fun e=>P1.ne_box.1 e.symm);have f34:=(hg4.frozen_far (a:=⟨M,3,none⟩) P1.lt (fun e=>P1.ne_box.1 e.symm)).trans (P1.free 3);have hown5:=Hi hown4;have hg5:=Hi hg4;clear P1 hown4 hg4)
 all_goals (
  go_end0;have hb1:Below M wc ((wc.alloc (.cells #[.int .i64 3,.string yf,.int .i64 yo,.int .i64 ym,.int .i64 yl,.int .i64 yh,.int .i64 yn,.string yp] 86 (0,0))).drewN 1):=((Below.refl M wc).alloc (Nat.le_of_lt hlt) _).trans ((Qt.self _ 1).below M);have P1:=(hP.out.up ((Below.refl _ wc).alloc (Nat.le_refl _) (.cells #[.int .i64 3,.string yf,.int .i64 yo,.int .i64 ym,.int .i64 yl,.int .i64 yh,.int .i64 yn,.string yp] 86 (0,0)))).qt (Qt.self _ 1);rw [← hH.out];refine ⟨rfl,hb0.out.trans ((hb1.grown hg5.out (Nat.le_of_lt P1.lt) (fun i hi=>by have:=(hO.out.lt i hi).1;omega)).setCell (Nat.le_refl M) _),vo,.slice (some ⟨g',0,none⟩) (q.out.length+1) cap',?_⟩
  exact P1.setOut (xs:=q.out++[⟨3,yf,yo,ym,yl,yh,yn,yp⟩]) hg5.out (Nat.le_refl _) (hat4.imp_right (fun h=>h.trans (by simp))) rfl (by rw [flatN_snoc,List.length_append];exact hown5.out))
theorem p_test {w:World}{M g cap:Nat}{l:List Tk}{p:Pl}{vo vn:Value}(P:PlAt w M g cap l p vo vn)(hz:TokSz l)(hl:p.at_<l.length)(hll:l.length≤1000000)(hn:p.out.length≤1000000) :
  Calls Tryz.prog 132 #[.pointer (some ⟨M,0,none⟩)] w fun e w'=>PlPost w M g cap l (p.test l) e w':=by
 by_cases h0:opS l (p.at_+1)=0
 ·exact p_test_no P hz hl hll hn h0
 by_cases hC:opS l (p.at_+1)≤2∧kindIs l (p.at_+1+1) 5=true
 ·exact p_test_pat P hz hl hll hn h0 hC.1 hC.2
 ·exact p_test_num P hz hl hll hn h0 hC
end Go.Proofs.YtjokciofeicdkaaGreatDoor
