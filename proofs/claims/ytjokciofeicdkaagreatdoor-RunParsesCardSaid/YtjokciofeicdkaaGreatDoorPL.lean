/- A part of the proof of RunParses: ParQ ParR. -/
import Derived.Test.YtjokciofeicdkaaGreatDoorPK
import Derived.Test.YtjokciofeicdkaaGreatDoorPJ
set_option maxHeartbeats 16000000
set_option maxRecDepth 100000
set_option linter.all false
namespace Go.Proofs.YtjokciofeicdkaaGreatDoor
open Go.RowKit
def Pl.sz (p:Pl):Nat:=p.out.length+p.opn.length
structure Grown (l:List Tk)(p q:Pl):Prop where
 made:q.made≤p.made+1
 sz:q.sz≤p.sz+1
 on:q.e=0→p.at_<q.at_∧q.at_≤l.length
theorem popW_sz (f:Nat→Bool):∀ (S:List Nat) (o:List Nd),(popW f S o).2.length+(popW f S o).1.length≤o.length+S.length
 | [],o=>by simp [popW]
 | c::r,o=>by
   unfold popW
   split
   ·have h:=popW_sz f r (o++ndOf c);have hc:(ndOf c).length≤1:=by unfold ndOf;(repeat' split)<;>simp
    rw [List.length_append] at h;simp only [List.length_cons];omega
   ·simp
theorem pops_sz (p:Pl)(f:Nat→Bool):(p.pops f).sz≤p.sz:=popW_sz f p.opn p.out
theorem kind_lt {l:List Tk}{i:Nat}{k:Int}(h:kindIs l i k=true):i<l.length:=by
 by_cases hi:i<l.length
 ·exact hi
 ·unfold kindIs at h;rw [List.getElem?_eq_none (by omega)] at h;cases h
theorem fail_sz (p:Pl)(c:Int)(i:Nat)(hc:c≠0):(p.fail c i).made=p.made∧(p.fail c i).sz=p.sz∧(p.fail c i).e≠0:=by
 unfold Pl.fail
 split
 ·exact ⟨rfl,rfl,hc⟩
 ·exact ⟨rfl,rfl,by assumption⟩
theorem make_sz (p:Pl):p.make1.made=p.made+1∧p.make1.sz=p.sz∧p.make1.at_=p.at_∧(p.make1.e=0→p.e=0):=by
 unfold Pl.make1 Pl.fail
 split
 ·split
  ·exact ⟨rfl,rfl,rfl,fun h=>by simp at h⟩
  ·exact ⟨rfl,rfl,rfl,fun h=>h⟩
 ·exact ⟨rfl,rfl,rfl,fun h=>h⟩
theorem deep_sz (p:Pl):p.deep.made=p.made∧p.deep.sz=p.sz∧p.deep.at_=p.at_:=by
 unfold Pl.deep Pl.fail
 (repeat' split)<;>exact ⟨rfl,rfl,rfl⟩
theorem val_sz (p:Pl)(l:List Tk):(p.val l).2.made=p.made∧(p.val l).2.sz=p.sz∧((p.val l).2.e=0→p.e=0∧(p.val l).2.at_=p.at_+1∧p.at_<l.length):=by
 unfold Pl.val
 split
 ·rename_i h;exact ⟨rfl,rfl,fun h2=>absurd h2 h⟩
 ·rename_i h
  split
  ·have:=fail_sz p 50 p.at_ (by decide);exact ⟨this.1,this.2.1,fun h2=>absurd h2 this.2.2⟩
  ·rename_i hk
   split
   ·have:=fail_sz p 50 p.at_ (by decide);exact ⟨this.1,this.2.1,fun h2=>absurd h2 this.2.2⟩
   ·exact ⟨rfl,rfl,fun _=>⟨by simpa using h,rfl,kind_lt (by simpa using hk)⟩⟩
theorem put_sz (p:Pl)(x:Nd):(p.put x).made=p.made∧(p.put x).sz=p.sz+1∧(p.put x).at_=p.at_∧(p.put x).e=p.e:=by
 refine ⟨rfl,?_,rfl,rfl⟩;unfold Pl.put Pl.sz;simp only [List.length_append,List.length_singleton];omega
theorem test_sz (p:Pl)(l:List Tk)(hl:p.at_<l.length):(p.test l).made=p.made∧(p.test l).sz≤p.sz+1∧((p.test l).e=0→p.at_<(p.test l).at_∧(p.test l).at_≤l.length):=by
 unfold Pl.test;dsimp only
 split
 ·have:=fail_sz { p with at_:=p.at_+1 } 50 (p.at_+1) (by decide)
  exact ⟨this.1,by rw [this.2.1];exact Nat.le_succ _,fun h=>absurd h this.2.2⟩
 ·split
  ·rename_i hop hk
   split
   ·have:=fail_sz { p with at_:=p.at_+1+1 } 50 (p.at_+1+1) (by decide)
    exact ⟨this.1,by rw [this.2.1];exact Nat.le_succ _,fun h=>absurd h this.2.2⟩
   ·have:=kind_lt hk.2;exact ⟨rfl,Nat.le_of_eq (put_sz { p with at_:=p.at_+1+1+1 } _).2.1,fun _=>⟨by show p.at_<p.at_+1+1+1;omega,by show p.at_+1+1+1≤_;omega⟩⟩
  ·have hv:=val_sz { p with at_:=p.at_+1+1 } l
   split
   ·rename_i hs;have hu:=val_sz { (Pl.val { p with at_:=p.at_+1+1 } l).2 with at_:=(Pl.val { p with at_:=p.at_+1+1 } l).2.at_+1 } l;refine ⟨hu.1.trans hv.1,Nat.le_of_eq ((put_sz _ _).2.1.trans (by rw [hu.2.1];show (Pl.val { p with at_:=p.at_+1+1 } l).2.sz+1=_;rw [hv.2.1];rfl)),fun h=>?_⟩
    have h2:=hu.2.2 h;have h3:=hv.2.2 hs.1;have e2:(Pl.val { (Pl.val { p with at_:=p.at_+1+1 } l).2 with at_:=(Pl.val { p with at_:=p.at_+1+1 } l).2.at_+1 } l).2.at_=(Pl.val { p with at_:=p.at_+1+1 } l).2.at_+1+1:=h2.2.1;have e3:(Pl.val { p with at_:=p.at_+1+1 } l).2.at_=p.at_+1+1+1:=h3.2.1;have l2:(Pl.val { p with at_:=p.at_+1+1 } l).2.at_+1<l.length:=h2.2.2;exact ⟨by show p.at_<(Pl.val { (Pl.val { p with at_:=p.at_+1+1 } l).2 with at_:=(Pl.val { p with at_:=p.at_+1+1 } l).2.at_+1 } l).2.at_;omega,by show (Pl.val { (Pl.val { p with at_:=p.at_+1+1 } l).2 with at_:=(Pl.val { p with at_:=p.at_+1+1 } l).2.at_+1 } l).2.at_≤_;omega⟩
   ·split
    ·rename_i hs;have hu:=val_sz { (Pl.val { p with at_:=p.at_+1+1 } l).2 with at_:=(Pl.val { p with at_:=p.at_+1+1 } l).2.at_+1 } l;refine ⟨hu.1.trans hv.1,Nat.le_of_eq ((put_sz _ _).2.1.trans (by rw [hu.2.1];show (Pl.val { p with at_:=p.at_+1+1 } l).2.sz+1=_;rw [hv.2.1];rfl)),fun h=>?_⟩
     have h2:=hu.2.2 h;have h3:=hv.2.2 hs.1;have e2:(Pl.val { (Pl.val { p with at_:=p.at_+1+1 } l).2 with at_:=(Pl.val { p with at_:=p.at_+1+1 } l).2.at_+1 } l).2.at_=(Pl.val { p with at_:=p.at_+1+1 } l).2.at_+1+1:=h2.2.1;have e3:(Pl.val { p with at_:=p.at_+1+1 } l).2.at_=p.at_+1+1+1:=h3.2.1;have l2:(Pl.val { p with at_:=p.at_+1+1 } l).2.at_+1<l.length:=h2.2.2;exact ⟨by show p.at_<(Pl.val { (Pl.val { p with at_:=p.at_+1+1 } l).2 with at_:=(Pl.val { p with at_:=p.at_+1+1 } l).2.at_+1 } l).2.at_;omega,by show (Pl.val { (Pl.val { p with at_:=p.at_+1+1 } l).2 with at_:=(Pl.val { p with at_:=p.at_+1+1 } l).2.at_+1 } l).2.at_≤_;omega⟩
    ·refine ⟨hv.1,Nat.le_of_eq ((put_sz _ _).2.1.trans (by rw [hv.2.1];rfl)),fun h=>?_⟩
     have h3:=hv.2.2 h;have e3:(Pl.val { p with at_:=p.at_+1+1 } l).2.at_=p.at_+1+1+1:=h3.2.1;have l3:p.at_+1+1<l.length:=h3.2.2;exact ⟨by show p.at_<(Pl.val { p with at_:=p.at_+1+1 } l).2.at_;omega,by show (Pl.val { p with at_:=p.at_+1+1 } l).2.at_≤_;omega⟩
theorem step_e (p:Pl):p.step.e=p.e∧p.step.made=p.made∧p.step.sz=p.sz∧(p.e=0→p.step.at_=p.at_+1):=by
 unfold Pl.step
 split
 ·exact ⟨rfl,rfl,rfl,fun _=>rfl⟩
 ·rename_i h;exact ⟨rfl,rfl,rfl,fun h2=>absurd h2 h⟩
theorem plain_grown {l:List Tk}(p:Pl)(k:Int)(hl:p.at_<l.length):Grown l p (p.plain k):=by
 have hm:=make_sz p;unfold Pl.plain
 split
 ·rename_i he;have hp:=put_sz p.make1 (Nd.of k);have hs:=step_e (p.make1.put (Nd.of k));exact ⟨by rw [hs.2.1,hp.1,hm.1];exact Nat.le_refl _,by rw [hs.2.2.1,hp.2.1,hm.2.1];exact Nat.le_refl _,fun _=>by rw [hs.2.2.2 (hp.2.2.2.trans he),hp.2.2.1,hm.2.2.1];omega⟩
 ·rename_i he;exact ⟨by rw [hm.1];exact Nat.le_refl _,by rw [hm.2.1];exact Nat.le_succ _,fun h=>absurd h he⟩
theorem operand_grown {l:List Tk}(p:Pl)(_:p.e=0):Grown l p (p.operand l).2:=by
 unfold Pl.operand
 split
 ·rename_i hs;have hl:=kind_lt (sgn_kind hs);have hd:=deep_sz p;have hm:=make_sz p.deep;have hs:=step_e (p.deep.make1.push 33)
  exact ⟨by rw [hs.2.1];show p.deep.make1.made≤_;rw [hm.1,hd.1];exact Nat.le_refl _,by rw [hs.2.2.1];show p.deep.make1.out.length+(p.deep.make1.opn.length+1)≤_;have h1:=hm.2.1;have h2:=hd.2.1;unfold Pl.sz at h1 h2 ⊢;omega,
   fun h=>by rw [hs.1] at h;rw [hs.2.2.2 h];show p.at_<p.deep.make1.at_+1∧p.deep.make1.at_+1≤_;rw [hm.2.2.1,hd.2.2];omega⟩
 ·split
  ·rename_i hs;have hl:=kind_lt (sgn_kind hs);have hd:=deep_sz p;have hs:=step_e (p.deep.push 40)
   exact ⟨by rw [hs.2.1];show p.deep.made≤_;rw [hd.1];exact Nat.le_succ _,by rw [hs.2.2.1];show p.deep.out.length+(p.deep.opn.length+1)≤_;have h2:=hd.2.1;unfold Pl.sz at h2 ⊢;omega,
    fun h=>by rw [hs.1] at h;rw [hs.2.2.2 h];show p.at_<p.deep.at_+1∧p.deep.at_+1≤_;rw [hd.2.2];omega⟩
  ·split
   ·rename_i hw;have hl:=kind_lt (word_kind hw)
    split
    ·exact plain_grown p 1 hl
    ·split
     ·exact plain_grown p 2 hl
     ·have hm:=make_sz p;dsimp only
      split
      ·rename_i he;have ht:=test_sz p.make1 l (by rw [hm.2.2.1];exact hl)
       exact ⟨by rw [ht.1,hm.1];exact Nat.le_refl _,by rw [← hm.2.1];exact ht.2.1,fun h=>by rw [← hm.2.2.1];exact ht.2.2 h⟩
      ·rename_i he;exact ⟨by rw [hm.1];exact Nat.le_refl _,by rw [hm.2.1];exact Nat.le_succ _,fun h=>absurd h he⟩
   ·have hf:=fail_sz p 50 p.at_ (by decide)
    have hs:=step_e (p.fail 50 p.at_);exact ⟨by rw [hs.2.1,hf.1];exact Nat.le_succ _,by rw [hs.2.2.1,hf.2.1];exact Nat.le_succ _,fun h=>absurd (hs.1.symm.trans h) hf.2.2⟩
theorem closing_grown {l:List Tk}(p:Pl):(p.closing l).2.made≤p.made+1∧(p.closing l).2.sz≤p.sz+1∧((p.closing l).1=true→(p.closing l).2.e=0→p.at_<(p.closing l).2.at_∧(p.closing l).2.at_≤l.length):=by
 unfold Pl.closing
 split
 ·exact ⟨Nat.le_succ _,Nat.le_succ _,fun h=>by cases h⟩
 ·split
  ·have hf:=fail_sz p 50 p.at_ (by decide)
   exact ⟨by rw [hf.1];exact Nat.le_succ _,by rw [hf.2.1];exact Nat.le_succ _,fun _ h=>absurd h hf.2.2⟩
  ·rename_i hc;have hl:=kind_lt (sgn_kind (show sgn l p.at_ sClose=true by simpa using hc))
   refine ⟨Nat.le_succ _,?_,fun _ _=>⟨Nat.lt_succ_self _,hl⟩⟩
   refine Nat.le_trans (pops_sz _ _) (Nat.le_trans ?_ (Nat.le_succ _));refine Nat.le_trans ?_ (pops_sz p (fun c=>c != 40))
   show (p.pops (fun c=>c != 40)).out.length+(p.pops (fun c=>c != 40)).opn.tail.length≤_
   rw [List.length_tail];unfold Pl.sz;omega
theorem chain_grown {l:List Tk}(p:Pl)(hk:¬ (p.chain l).1<0):Grown l p (p.chain l).2:=by
 unfold Pl.chain at hk ⊢
 split at hk
 ·rename_i hs;rw [if_pos hs];have hl:=kind_lt (sgn_kind hs);have hm:=make_sz p;have hp:=pops_sz p.make1 (fun c=>c == 38)
  have hs:=step_e ((p.make1.pops (fun c=>c == 38)).push 38)
  exact ⟨by rw [hs.2.1];show p.make1.made≤_;rw [hm.1];exact Nat.le_refl _,by rw [hs.2.2.1];show (p.make1.pops (fun c=>c == 38)).out.length+((p.make1.pops (fun c=>c == 38)).opn.length+1)≤_;have h1:=hm.2.1;unfold Pl.sz at h1 hp ⊢;omega,
   fun h=>by rw [hs.1] at h;rw [hs.2.2.2 h];show p.at_<p.make1.at_+1∧p.make1.at_+1≤_;rw [hm.2.2.1];omega⟩
 ·rename_i hs1;rw [if_neg hs1]
  split at hk
  ·rename_i hs;rw [if_pos hs];have hl:=kind_lt (sgn_kind hs);have hm:=make_sz p;have hp:=pops_sz p.make1 (fun c=>c == 38 || c == 124)
   have hs:=step_e ((p.make1.pops (fun c=>c == 38 || c == 124)).push 124)
   exact ⟨by rw [hs.2.1];show p.make1.made≤_;rw [hm.1];exact Nat.le_refl _,by rw [hs.2.2.1];show (p.make1.pops (fun c=>c == 38 || c == 124)).out.length+((p.make1.pops (fun c=>c == 38 || c == 124)).opn.length+1)≤_;have h1:=hm.2.1;unfold Pl.sz at h1 hp ⊢;omega,
    fun h=>by rw [hs.1] at h;rw [hs.2.2.2 h];show p.at_<p.make1.at_+1∧p.make1.at_+1≤_;rw [hm.2.2.1];omega⟩
  ·rename_i hs;rw [if_neg hs]
   split at hk
   ·rename_i hc;rw [if_pos hc];have h:=closing_grown (l:=l) p;exact ⟨h.1,h.2.1,h.2.2 hc⟩
   ·exact absurd (show (-1:Int)<0 by decide) hk
structure Sole (M:Nat)(w w':World):Prop where
 size:w.heap.size≤w'.heap.size
 block:∀ b,b<w.heap.size→b≠M→w'.heap[b]?=w.heap[b]?
theorem Sole.refl (M:Nat)(w:World):Sole M w w:=⟨Nat.le_refl _,fun _ _ _=>rfl⟩
theorem Sole.trans {M:Nat}{w w1 w2:World}(h:Sole M w w1)(k:Sole M w1 w2):Sole M w w2:=
 ⟨Nat.le_trans h.size k.size,fun b hb hn=>(k.block b (Nat.lt_of_lt_of_le hb h.size) hn).trans (h.block b hb hn)⟩
theorem Sole.of_below {M:Nat}{w w':World}(h:Below w.heap.size w w'):Sole M w w':=⟨h.size,fun b hb _=>h.block b hb⟩
theorem Sole.qt {M:Nat}{w w':World}(h:Qt w w'):Sole M w w':=Sole.of_below (h.below _)
theorem Sole.setCell {M:Nat}{w w':World}(h:Sole M w w')(i:Nat)(v:Value):Sole M w (w'.setCell ⟨M,i,none⟩ v):=
 ⟨by rw [show (w'.setCell ⟨M,i,none⟩ v).heap.size=w'.heap.size by simp [World.setCell]];exact h.size,fun b hb hn=>by
  rw [← h.block b hb hn];simp only [World.setCell];rw [Array.getElem?_modify,if_neg (fun e=>hn e.symm)]⟩
def PvPostS (w:World)(M g cap:Nat)(l:List Tk)(vo vn:Value)(q:Int×Pl)(e:Ending)(w':World):Prop:=e=.returned (.int .i64 q.1)∧Sole M w w'∧Below M w w'∧PlAt w' M g cap l q.2 vo vn
def PlPostS (w:World)(M g cap:Nat)(l:List Tk)(vo vn:Value)(p:Pl)(e:Ending)(w':World):Prop:=e=.returned (.tuple #[])∧Sole M w w'∧Below M w w'∧PlAt w' M g cap l p vo vn
attribute [local go_sem ↓] Go.wp_at_zero Go.wp_at_succ
theorem p_fail_s {w:World}{M g cap:Nat}{l:List Tk}{p:Pl}{vo vn:Value}(P:PlAt w M g cap l p vo vn)(c:Int)(i:Nat) :
  Calls Tryz.prog 133 #[.pointer (some ⟨M,0,none⟩),.int .i64 c,.int .i64 i] w fun e w'=>PlPostS w M g cap l vo vn (p.fail c i) e w':=by
 have q5:=P.c5;have q1:=P.c1;have f5:=P.free 5;have f1:=P.free 1
 by_cases he:p.e=0
 ·have H:=Hi (show p.fail c i={ p with e:=c,at_:=i } by unfold Pl.fail;rw [if_pos he])
  rw [he] at q5;have hP:=Hi P;clear P he;go_enter Tryz.func133,Tryz.ntmps133;go_wp2_with fail;go_end0;rw [H.out];exact ⟨rfl,((Sole.refl M w).setCell _ _).setCell _ _,((Below.refl M w).setCell (Nat.le_refl M) _).setCell (Nat.le_refl M) _,(hP.out.setE c).setAt i⟩
 ·have H:=Hi (show p.fail c i=p by unfold Pl.fail;rw [if_neg he])
  have be:(p.e == 0)=false:=by rw [beq_eq_false_iff_ne];exact he
  have hP:=Hi P;clear P he;go_enter Tryz.func133,Tryz.ntmps133;go_wp2_with fail;go_end0;rw [H.out];exact ⟨rfl,Sole.refl M w,Below.refl M w,hP.out⟩
theorem p_value_s {w:World}{M g cap:Nat}{l:List Tk}{p:Pl}{vo vn:Value}(P:PlAt w M g cap l p vo vn)(hz:TokSz l)(hl:l.length≤1000000) :
  Calls Tryz.prog 167 #[.pointer (some ⟨M,0,none⟩)] w fun e w'=>PvPostS w M g cap l vo vn (p.val l) e w':=by
 have q0:=P.c0;have q1:=P.c1;have q5:=P.c5;have hP:=Hi P
 by_cases he:p.e=0
 rotate_left
 ·have H:=Hi (show p.val l=(0,p) by unfold Pl.val;rw [if_pos he])
  have be:(p.e != 0)=true:=by simpa using he
  clear P he;go_enter Tryz.func167,Tryz.ntmps167;go_wp2_with fail;go_ret;rw [H.out];exact ⟨rfl,Sole.refl _ _,Below.refl _ _,hP.out⟩
 have H:Hid (p.val l=_):=Hi (show p.val l=(if kindIs l p.at_ 4=false then (0,p.fail 50 p.at_)
  else if (valOf (textAt l p.at_) (numS (textAt l p.at_))).2≠0 then (0,p.fail 50 p.at_)
  else ((valOf (textAt l p.at_) (numS (textAt l p.at_))).1,{ p with at_:=p.at_+1 })) by unfold Pl.val;rw [if_neg (fun h=>h he)])
 rw [he] at q5
 by_cases hi:p.at_<l.length
 rotate_left
 ·have H2:=Hi (H.out.trans (if_pos (show kindIs l p.at_ 4=false by unfold kindIs;rw [List.getElem?_eq_none (by omega)])))
  have b1:(p.at_:Int)≥(l.length:Int):=by omega
  have hf:=Hi (fun (w':World) (hq:Qt w w')=>p_fail_s (P.qt hq) 50 p.at_)
  clear P H he hi;go_enter Tryz.func167,Tryz.ntmps167;go_wp2_with fail;go_quiet (fail);go_wp2_with fail;refine (hf.out _ (Qt.self w _)).mono ?_;rintro e w1 ⟨rfl,hso,hb,P1⟩;have hP1:=Hi P1;clear P1 hf;go_wp2_with fail;go_ret;rw [H2.out];exact ⟨rfl,(Sole.qt (Qt.self w _)).trans hso,((Qt.self w _).below M).trans hb,hP1.out⟩
 have ht:l[p.at_]?=some l[p.at_]:=List.getElem?_eq_getElem hi;generalize l[p.at_]=t at ht;have e0:w.cell? ⟨g,p.at_*4,none⟩=some (.int .i64 t.kind):=P.toks.2 p.at_ t ht 0 _ rfl;have e1:w.cell? ⟨g,p.at_*4+1,none⟩=some (.string t.text):=P.toks.2 p.at_ t ht 1 _ rfl;have hki:kindIs l p.at_ 4=(t.kind == 4):=by unfold kindIs;rw [ht]
 have hti:textAt l p.at_=t.text:=by unfold textAt;rw [ht]
 have hts:=hz _ _ ht;rw [hki,hti] at H;have b1:decide (l.length≤p.at_)=false:=by rw [decide_eq_false_iff_not];omega
 have b2:(p.at_:Int)<(l.length:Int):=by omega
 have b3:(0:Int)≤(p.at_:Int):=by omega
 by_cases hk:t.kind=4
 rotate_left
 ·have H2:=Hi (H.out.trans (if_pos (by rw [beq_eq_false_iff_ne];exact hk)))
  have bk:(t.kind != 4)=true:=by simpa using hk
  have hf:=Hi (fun (w':World) (hq:Qt w w')=>p_fail_s (P.qt hq) 50 p.at_)
  clear P H he hi hki hti hts ht e1 hk;go_enter Tryz.func167,Tryz.ntmps167;go_wp2_with fail;go_quiet (fail);go_wp2_with fail;refine (hf.out _ (Qt.self w _)).mono ?_;rintro e w1 ⟨rfl,hso,hb,P1⟩;have hP1:=Hi P1;clear P1 hf;go_wp2_with fail;go_ret;rw [H2.out];exact ⟨rfl,(Sole.qt (Qt.self w _)).trans hso,((Qt.self w _).below M).trans hb,hP1.out⟩
 have H2:=Hi (H.out.trans (if_neg (by rw [hk];decide)))
 have bk:(t.kind != 4)=false:=by rw [hk];rfl
 have cv:=Hi (fun (w':World)=>by have:=r_Value t.text (by omega) w';rw [numR_same] at this;exact this)
 generalize valOf t.text (numS t.text)=v at *;obtain ⟨v1,v2⟩:=v;dsimp only at H2 cv;clear P H he hi hki hti hts ht hk
 by_cases hv:v2=0
 ·have H3:=Hi (H2.out.trans (if_neg (fun h=>h hv)))
  subst hv;clear H2;go_enter Tryz.func167,Tryz.ntmps167;go_wp2_with fail;go_quiet (fail);go_wp2_with fail
  go_region_law (go_simp;go_at_call 51;refine (cv.out _).mono ?_;rintro e wz ⟨rfl,hqz⟩;go_wp2_with fail)
  all_goals (
   have hq2:=Hi ((Qt.self w (nq+1)).trans hqz);have P2:=hP.out.qt hq2.out;have s1:=P2.c1;have f1:=P2.free 1;have hP2:=Hi P2;have bw:IntKind.i64.wrap ((p.at_:Int)+1)=(p.at_:Int)+1:=IntWalk.i64_in _ (by omega)
   clear P2 hqz q0 q1 q5 e0 e1;go_wp2_with fail;go_ret;rw [H3.out];exact ⟨rfl,(Sole.qt hq2.out).setCell _ _,(hq2.out.below M).setCell (Nat.le_refl M) _,hP2.out.setAt (p.at_+1)⟩)
 ·have H3:=Hi (H2.out.trans (if_pos hv));have bv:(v2 != 0)=true:=by simpa using hv
  have hf:=Hi (fun (w':World) (hq:Qt w w')=>p_fail_s (hP.out.qt hq) 50 p.at_)
  clear H2 hv;go_enter Tryz.func167,Tryz.ntmps167;go_wp2_with fail;go_quiet (fail);go_wp2_with fail
  go_region_law (go_simp;go_at_call 51;refine (cv.out _).mono ?_;rintro e wz ⟨rfl,hqz⟩;go_wp2_with fail)
  all_goals (
   have hq2:=Hi ((Qt.self w (nq+1)).trans hqz);have P2:=hP.out.qt hq2.out;have s1:=P2.c1;have hP2:=Hi P2;clear P2 hqz q0 q1 q5 e0 e1;go_wp2_with fail;refine (hf.out _ hq2.out).mono ?_;rintro e w1 ⟨rfl,hso,hb,P1⟩;have hP1:=Hi P1;clear P1 hf;go_wp2_with fail;go_ret;rw [H3.out];exact ⟨rfl,(Sole.qt hq2.out).trans hso,(hq2.out.below M).trans hb,hP1.out⟩)
end Go.Proofs.YtjokciofeicdkaaGreatDoor
