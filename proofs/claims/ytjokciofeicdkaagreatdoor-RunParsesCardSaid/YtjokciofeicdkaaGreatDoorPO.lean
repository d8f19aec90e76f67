/- A part of the proof of RunParses: ParT ParU. -/
import Derived.Test.YtjokciofeicdkaaGreatDoorPM
set_option maxHeartbeats 16000000
set_option maxRecDepth 100000
set_option linter.all false
namespace Go.Proofs.YtjokciofeicdkaaGreatDoor
open Go.RowKit
attribute [local go_sem ↓] Go.wp_at_zero Go.wp_at_succ
theorem p_operand_test {w:World}{M g cap:Nat}{l:List Tk}{p:Pl}{vo vn:Value}(P:PlAt w M g cap l p vo vn)(hz:TokSz l)(hll:l.length≤1000000)(hm:p.made≤1000000)(hn:p.out.length≤1000000)
  (h1:sgn l p.at_ sNot=false) (h2:sgn l p.at_ sOpen=false) (h3:wordAt l p.at_=true) (h0:textAt l p.at_≠tAny) (h4:textAt l p.at_≠tNone) :
  Calls Tryz.prog 104 #[.pointer (some ⟨M,0,none⟩)] w fun e w'=>PbPost w M g cap l (p.operand l) e w':=by
 have q0:=P.c0;have q1:=P.c1
 have H:=Hi (show p.operand l=(true,if p.make1.e=0 then p.make1.test l else p.make1) by
  unfold Pl.operand;rw [if_neg (by rw [h1];decide),if_neg (by rw [h2];decide),if_pos h3,if_neg h0,if_neg h4])
 have cs:=Hi (fun (w':World) (hq:Qt w w') (s:ByteArray)=>p_sign (P.qt hq).c0 (P.toks.qt hq) p.at_ s)
 have cm:=Hi (fun (w':World) (hq:Qt w w')=>p_make1 (P.qt hq) hm)
 obtain ⟨t,ht,hk,hnm,htx,hi⟩:=word_at h3;have e0:w.cell? ⟨g,p.at_*4,none⟩=some (.int .i64 t.kind):=P.toks.2 p.at_ t ht 0 _ rfl;have e1:w.cell? ⟨g,p.at_*4+1,none⟩=some (.string t.text):=P.toks.2 p.at_ t ht 1 _ rfl;have b1:decide (p.at_<l.length)=true:=decide_eq_true hi;have b2:(p.at_:Int)<(l.length:Int):=by omega
 have b3:(0:Int)≤(p.at_:Int):=by omega
 have bk:(t.kind == 2)=true:=by rw [hk];rfl
 have hts:=hz _ _ ht
 have cn:=Hi (show ∀ w',Calls Tryz.prog 57 #[.string t.text] w' fun e w''=>e=.returned (.bool true)∧w''=w' from fun w'=>by
  have:=name_any t.text w' (by omega);rw [hnm] at this;exact this.mono (fun _ _ h=>⟨h.1,h.2.symm⟩))
 rw [htx] at h4 h0;have bA:(t.text.toList == [97,110,121])=false:=by rw [any_eq];exact decide_eq_false h0
 have bN:(t.text.toList == [110,111,110,101])=false:=by rw [none_eq];exact decide_eq_false h4
 have hma:=make_at (p:=p);have hmo:=(make_out (p:=p)).1;have hi2:=Hi hi;clear P h3 h0 h4 hk ht hts hi hnm htx;generalize p.make1=m at *;go_enter Tryz.func104,Tryz.ntmps104;go_wp2_with fail;go_quiet (exact Calls.quiet_of_same (cn.out _));go_wp2_with (go_at_call 128;refine (cs.out _ (Qt.self w _) _).mono ?_;rintro e w' ⟨rfl,rfl⟩);go_quiet (fail);go_wp2_with fail;go_quiet (fail);go_wp2_with fail;refine (cm.out _ (Qt.self w _)).mono ?_;rintro e w1 ⟨rfl,hb,vo1,vn1,P1⟩;have hb1:=Hi (((Qt.self w _).below M).trans hb);have r5:=P1.c5
 by_cases he:m.e=0
 ·have H2:=Hi (H.out.trans (by rw [if_pos he]:_=(true,m.test l)))
  have ct:=Hi (p_test P1 hz (by rw [hma];exact hi2.out) hll (by rw [hmo];exact hn))
  rw [he] at r5;clear P1 cm cs hb H he;go_wp2_with fail;refine ct.out.mono ?_;rintro e w2 ⟨rfl,hb2,vo2,vn2,P2⟩;have hP2:=Hi P2;have hb3:=Hi (hb1.out.trans hb2);clear P2 ct hb2;go_wp2_with fail;go_ret;rw [H2.out];exact ⟨rfl,hb3.out,_,_,hP2.out⟩
 ·have H2:=Hi (H.out.trans (by rw [if_neg he]:_=(true,m)))
  have be:(m.e == 0)=false:=by rw [beq_eq_false_iff_ne];exact he
  have hP1:=Hi P1;clear P1 cm cs hb H he;go_wp2_with fail;go_ret;rw [H2.out];exact ⟨rfl,hb1.out,_,_,hP1.out⟩
theorem p_operand {w:World}{M g cap:Nat}{l:List Tk}{p:Pl}{vo vn:Value}(P:PlAt w M g cap l p vo vn)(hz:TokSz l)(hll:l.length≤900000)(ha:p.at_≤l.length)(he:p.e=0)(hm:p.made≤1000000)(hs:p.sz≤1000000)(hby:∀ c∈p.opn,c<256) :
  Calls Tryz.prog 104 #[.pointer (some ⟨M,0,none⟩)] w fun e w'=>PbPost w M g cap l (p.operand l) e w':=by
 have h1:p.out.length≤1000000:=by unfold Pl.sz at hs;omega
 have h2:p.opn.length≤1000000:=by unfold Pl.sz at hs;omega
 have h3:p.at_≤1000000:=by omega
 cases a:sgn l p.at_ sNot
 rotate_left
 ·exact p_operand_not P h3 hm h2 hby a
 cases b:sgn l p.at_ sOpen
 rotate_left
 ·exact p_operand_open P h3 h2 hby a b
 cases c:wordAt l p.at_
 ·exact p_operand_no P hz he a b c
 by_cases d:textAt l p.at_=tAny
 ·exact p_operand_any P hz h3 hm h1 a b c d
 by_cases f:textAt l p.at_=tNone
 ·exact p_operand_none P hz h3 hm h1 a b c d f
 ·exact p_operand_test P hz (by omega) hm h1 a b c d f
theorem p_chain {w:World}{M g cap:Nat}{l:List Tk}{p:Pl}{vo vn:Value}(P:PlAt w M g cap l p vo vn)(ha:p.at_≤1000000)(hm:p.made≤1000000)(hs:p.sz≤1000000) :
  Calls Tryz.prog 106 #[.pointer (some ⟨M,0,none⟩)] w fun e w'=>PiPost w M g cap l (p.chain l) e w':=by
 cases a:sgn l p.at_ sAnd
 rotate_left
 ·exact p_chain_and P ha hm hs a
 cases b:sgn l p.at_ sOr
 rotate_left
 ·exact p_chain_or P ha hm hs a b
 ·exact p_chain_end P ha hs a b
theorem popW_by (f:Nat→Bool):∀ (S:List Nat) (o:List Nd),(∀ c∈S,c<256)→∀ c∈(popW f S o).1,c<256
 | [],_,_,c,h=>by simp [popW] at h
 | a::r,o,hS,c,h=>by
   unfold popW at h
   split at h
   ·exact popW_by f r _ (fun c hc=>hS c (List.mem_cons_of_mem _ hc)) c h
   ·exact hS c h
theorem test_opn (p:Pl)(l:List Tk):(p.test l).opn=p.opn:=by
 have hv:∀ q:Pl,(q.val l).2.opn=q.opn:=fun q=>by
  unfold Pl.val;(repeat' split)<;>first|rfl|exact (fail_out (p:=q)).2.1
 unfold Pl.test;dsimp only
 split
 ·exact (fail_out (p:={ p with at_:=p.at_+1 })).2.1
 ·split
  ·split
   ·exact (fail_out (p:={ p with at_:=p.at_+1+1 })).2.1
   ·rfl
  ·split
   ·show (Pl.val _ l).2.opn=_
    rw [hv];show (Pl.val _ l).2.opn=_;rw [hv]
   ·split
    ·show (Pl.val _ l).2.opn=_
     rw [hv];show (Pl.val _ l).2.opn=_;rw [hv]
    ·show (Pl.val _ l).2.opn=_
     rw [hv]
theorem operand_by {l:List Tk}{p:Pl}(h:∀ c∈p.opn,c<256):∀ c∈(p.operand l).2.opn,c<256:=by
 have hs:∀ q:Pl,q.step.opn=q.opn:=fun q=>by unfold Pl.step;split<;>rfl
 have hm:p.make1.opn=p.opn:=(make_out (p:=p)).2.1;unfold Pl.operand
 split
 ·dsimp only;rw [hs]
  show ∀ c∈33::p.deep.make1.opn,_
  rw [(make_out (p:=p.deep)).2.1,deep_lens.2.1];intro c hc;rcases List.mem_cons.1 hc with rfl|hc
  ·decide
  ·exact h c hc
 ·split
  ·dsimp only;rw [hs]
   show ∀ c∈40::p.deep.opn,_
   rw [deep_lens.2.1];intro c hc;rcases List.mem_cons.1 hc with rfl|hc
   ·decide
   ·exact h c hc
  ·split
   ·have hpl:∀ k,(p.plain k).opn=p.opn:=fun k=>by
     unfold Pl.plain
     split
     ·rw [hs];exact hm
     ·exact hm
    split
    ·dsimp only;rw [hpl];exact h
    ·split
     ·dsimp only;rw [hpl];exact h
     ·dsimp only
      split
      ·rw [test_opn,hm];exact h
      ·rw [hm];exact h
   ·dsimp only;rw [hs,(fail_out (p:=p)).2.1];exact h
theorem chain_by {l:List Tk}{p:Pl}(h:∀ c∈p.opn,c<256):∀ c∈(p.chain l).2.opn,c<256:=by
 have hs:∀ q:Pl,q.step.opn=q.opn:=fun q=>by unfold Pl.step;split<;>rfl
 have hm:p.make1.opn=p.opn:=(make_out (p:=p)).2.1
 have hc0:∀ c∈(p.closing l).2.opn,c<256:=by
  unfold Pl.closing
  split
  ·exact h
  ·split
   ·dsimp only;rw [(fail_out (p:=p)).2.1];exact h
   ·exact popW_by _ _ _ (fun c hc=>popW_by _ _ _ h c (List.mem_of_mem_tail hc))
 unfold Pl.chain
 split
 ·dsimp only;rw [hs];intro c hc;rcases List.mem_cons.1 hc with rfl|hc
  ·decide
  ·exact popW_by _ _ _ (by rw [hm];exact h) c hc
 ·split
  ·dsimp only;rw [hs];intro c hc;rcases List.mem_cons.1 hc with rfl|hc
   ·decide
   ·exact popW_by _ _ _ (by rw [hm];exact h) c hc
  ·split
   ·exact hc0
   ·exact popW_by _ _ _ hc0
def RdPost (w:World)(r:ReadR)(e:Ending)(w':World):Prop:=Below w.heap.size w w'∧match r.1 with
 | none=>e=.returned (.tuple #[.slice none 0 0,.int .i64 (r.2.1:Nat),.int .i64 r.2.2])
 | some o=>∃ v,e=.returned (.tuple #[v,.int .i64 (r.2.1:Nat),.int .i64 0])∧w'.ownsRow w.heap.size 86 8 v o.length (flatN o)
def muR (M n:Nat)(w:World):Nat:=if intOf ((w.cell? ⟨M,5,none⟩).getD undef)=0 then n+2-(intOf ((w.cell? ⟨M,1,none⟩).getD undef)).toNat else 0
theorem PlAt.muR {w:World}{M g cap:Nat}{l:List Tk}{p:Pl}{vo vn:Value}(P:PlAt w M g cap l p vo vn)(n:Nat):muR M n w=if p.e=0 then n+2-p.at_ else 0:=by
 unfold Go.Proofs.YtjokciofeicdkaaGreatDoor.muR;rw [P.c5,P.c1];rfl
theorem rd_in {l:List Tk}{f:Nat}{p:Pl}(he:p.e=0):rdL l (f+1) true p=(if (p.operand l).1=true∧(p.operand l).2.e=0 then rdL l f false (p.operand l).2.done else rdL l f true (p.operand l).2):=by
 rw [rdL,if_neg (fun h=>h he),if_pos rfl]
theorem rd_ch {l:List Tk}{f:Nat}{p:Pl}(he:p.e=0):rdL l (f+1) false p=(if (p.chain l).1<0 then (some (p.chain l).2.out,(p.chain l).2.at_,0) else rdL l f (decide ((p.chain l).1=1)) (p.chain l).2):=by
 rw [rdL,if_neg (fun h=>h he),if_neg (by decide)]
structure RdRel (w wr:World)(M g cap:Nat)(l:List Tk)(i:Nat)(b:Bool)(f:Nat)(p:Pl)(vo vn:Value):Prop where
 P:PlAt wr M g cap l p vo vn
 R:readR l i=rdL l f b p
 on:p.e=0→l.length<p.at_+f∧p.at_≤l.length
 made:p.made+f≤l.length+1
 sz:p.sz+f≤l.length+1
 by_:∀ c∈p.opn,c<256
 bel:Below M w wr
theorem r_Read {w:World}{g cap:Nat}{l:List Tk}(T:TokIn w g l)(hz:TokSz l)(hll:l.length≤900000){i:Nat}(hi:i≤l.length) :
  Calls Tryz.prog 72 #[tokV g cap l,.int .i64 i] w fun e w'=>RdPost w (readR l i) e w':=by
 have b0:¬ (i:Int)<0:=by omega
 have b1:¬ (i:Int)>(l.length:Int):=by omega
 have P0:PlAt (w.alloc (.cells #[tokV g cap l,.int .i64 i,.slice none 0 0,.slice none 0 0,.int .i64 0,.int .i64 0] 166 (0,0))) w.heap.size g cap l ⟨i,[],[],0,0⟩ (.slice none 0 0) (.slice none 0 0):=
  ⟨heap_alloc_new w _,T.1,T.below ((Below.refl w.heap.size w).alloc (Nat.le_refl _) _) T.1,⟨by simp [flatN,u8n],.inl ⟨rfl,rfl⟩⟩,⟨by simp [flatN],.inl ⟨rfl,rfl⟩⟩,.inl rfl⟩
 have R0:RdRel w (w.alloc (.cells #[tokV g cap l,.int .i64 i,.slice none 0 0,.slice none 0 0,.int .i64 0,.int .i64 0] 166 (0,0))) w.heap.size g cap l i true (l.length+1) ⟨i,[],[],0,0⟩ (.slice none 0 0) (.slice none 0 0):=
  ⟨P0,rfl,fun _=>⟨by show l.length<i+(l.length+1);omega,hi⟩,by show 0+(l.length+1)≤_;omega,by show 0+(l.length+1)≤_;omega,(fun c hc=>by cases hc),(Below.refl w.heap.size w).alloc (Nat.le_refl _) _⟩
 have R0:=Hi R0;clear P0 T hi;go_enter Tryz.func72,Tryz.ntmps72;go_wp2_with fail
 go_loopw [8] (fun a wr=>∃ (b:Bool) (f:Nat) (p:Pl) (vo vn:Value),a=.bool b∧Hid (RdRel w wr w.heap.size g cap l i b f p vo vn)) (fun _ wr=>muR w.heap.size l.length wr)
 case atStart=>exact ⟨true,_,_,_,_,rfl,R0⟩
 case round=>
  obtain ⟨b,f,p,vo,vn,rfl,R⟩:=hrel;obtain ⟨wq,rfl⟩:∃ wq,wq=wr:=⟨_,rfl⟩
  have hR:=R;have R:=R.out;have q5:=R.P.c5;have hmu:=R.P.muR l.length
  by_cases he:p.e=0
  ·rw [if_pos he] at hmu;have hmu:=Hi hmu;rw [he] at q5;obtain ⟨hon,hat⟩:=R.on he;obtain ⟨f,rfl⟩:∃ f',f=f'+1:=⟨f-1,by omega⟩
   have hm:=R.made;have hs:=R.sz
   cases b with
   | true=>
     have co:=Hi (p_operand R.P hz hll hat he (by omega) (by omega) R.by_)
     have H:=Hi (R.R.trans (rd_in he));have hg:=operand_grown (l:=l) p he;have hby:=operand_by (l:=l) R.by_;have hbel:=R.bel;obtain ⟨x,hx⟩:∃ x,p.operand l=x:=⟨_,rfl⟩
     rw [hx] at co H hg hby;obtain ⟨en,p1⟩:=x;dsimp only at hg hby;have hbel:=Hi hbel;have hby:=Hi hby;have g1:=hg.made;have g2:=hg.sz;have g3:=Hi hg.on;clear R hR hx he hg;go_wp2_with fail;refine co.out.mono ?_;rintro e w1 ⟨rfl,hb1,vo1,vn1,P1⟩;have P1:PlAt w1 w.heap.size g cap l p1 vo1 vn1:=P1;have hb2:=Hi (hbel.out.trans hb1);have r5:=P1.c5;have hmu1:=P1.muR l.length;clear co hbel q5 hb1
     by_cases he1:p1.e=0
     ·rw [if_pos he1] at hmu1;have hmu1:=Hi hmu1;obtain ⟨a1,a2⟩:=g3.out he1;rw [he1] at r5
      cases en with
      | true=>
        have H2:=Hi (H.out.trans (if_pos ⟨rfl,he1⟩));have cd:=Hi (p_done P1 (show p1.sz≤1000000 by omega))
        have hds:=pops_sz p1 (fun c=>c == 33)
        clear P1 H he1;go_wp2_with fail;refine cd.out.mono ?_;rintro e w2 ⟨rfl,hb3,vo2,vn2,P2⟩;have hmu2:=P2.muR l.length;have hP2:=Hi P2;have hb4:=Hi (hb2.out.trans hb3);clear P2 cd hb3;go_wp2_with fail;refine ⟨⟨false,f,p1.done,vo2,vn2,rfl,Hi ⟨hP2.out,H2.out,fun _=>⟨?_,a2⟩,?_,?_,?_,hb4.out⟩⟩,?_⟩
        ·show l.length<p1.at_+f;omega
        ·show p1.made+f≤_;omega
        ·show p1.done.sz+f≤_;unfold Pl.done;omega
        ·exact popW_by _ _ _ hby.out
        ·rw [hmu.out,hmu2];split
         ·show l.length+2-p1.at_<_;omega
         ·omega
      | false=>
        have H2:=Hi (H.out.trans (if_neg (fun h=>by cases h.1)))
        have hP1:=Hi P1;clear P1 H he1;go_wp2_with fail;refine ⟨⟨true,f,p1,vo1,vn1,rfl,Hi ⟨hP1.out,H2.out,fun _=>⟨by omega,a2⟩,by omega,by omega,hby.out,hb2.out⟩⟩,?_⟩
        rw [hmu.out,hmu1.out];omega
     ·rw [if_neg he1] at hmu1;have hmu1:=Hi hmu1;have be1:(p1.e == 0)=false:=by rw [beq_eq_false_iff_ne];exact he1
      have H2:=Hi (H.out.trans (if_neg (fun h=>he1 h.2)))
      have hP1:=Hi P1;have he1:=Hi he1;clear P1 H
      cases en
      all_goals (
       go_wp2_with fail;refine ⟨⟨true,f,p1,vo1,vn1,rfl,Hi ⟨hP1.out,H2.out,fun h=>absurd h he1.out,by omega,by omega,hby.out,hb2.out⟩⟩,?_⟩
       rw [hmu.out,hmu1.out];omega)
   | false=>
     have co:=Hi (p_chain R.P (by omega) (by omega) (by omega))
     have H:=Hi (R.R.trans (rd_ch he));have hg:=chain_grown (l:=l) p;have hby:=chain_by (l:=l) R.by_;have hbel:=R.bel;obtain ⟨x,hx⟩:∃ x,p.chain l=x:=⟨_,rfl⟩
     rw [hx] at co H hg hby;obtain ⟨k,p1⟩:=x;dsimp only at hg hby;have hbel:=Hi hbel;have hby:=Hi hby;have hg:=Hi hg;clear R hR hx he;go_wp2_with fail;refine co.out.mono ?_;rintro e w1 ⟨rfl,hb1,vo1,vn1,P1⟩;have P1:PlAt w1 w.heap.size g cap l p1 vo1 vn1:=P1;have hb2:=Hi (hbel.out.trans hb1);have hmu1:=P1.muR l.length;clear co hbel q5 hb1
     by_cases hk:k<0
     ·have H2:=Hi (H.out.trans (if_pos hk));have r1:=P1.c1;have r3:=P1.c3;have hP1:=Hi P1;clear P1 H hg;go_wp2_with fail;go_quiet (fail);go_wp2_with fail
      go_ret3
      rw [H2.out];exact ⟨hb2.out.trans ((Qt.self _ _).below _),vn1,rfl,Go.Joins.ownsRow_le (hP1.out.qt (Qt.self _ _)).on (Nat.le_succ _)⟩
     ·have H2:=Hi (H.out.trans (if_neg hk));have hg:=hg.out (by omega)
      have g1:=hg.made;have g2:=hg.sz;have g3:=Hi hg.on;have hP1:=Hi P1;have hmu1:=Hi hmu1;clear P1 H hg;go_wp2_with fail;refine ⟨⟨decide (k=1),f,p1,vo1,vn1,val_bool (by rw [Bool.eq_iff_iff];simp),Hi ⟨hP1.out,H2.out,fun h=>⟨?_,(g3.out h).2⟩,by omega,by omega,hby.out,hb2.out⟩⟩,?_⟩
      ·have:=(g3.out h).1;omega
      ·rw [hmu.out,hmu1.out]
       by_cases h:p1.e=0
       ·rw [if_pos h];have:=g3.out h;omega
       ·rw [if_neg h];omega
  ·have be:(p.e == 0)=false:=by rw [beq_eq_false_iff_ne];exact he
   have H:=Hi (R.R.trans (rdL_bad l f b p he));have q1:=R.P.c1;have hbel:=Hi R.bel;clear R hR he hmu;go_wp2_with fail;go_quiet (fail);go_wp2_with fail
   go_ret3
   rw [H.out];exact ⟨hbel.out.trans ((Qt.self _ _).below _),rfl⟩
end Go.Proofs.YtjokciofeicdkaaGreatDoor
