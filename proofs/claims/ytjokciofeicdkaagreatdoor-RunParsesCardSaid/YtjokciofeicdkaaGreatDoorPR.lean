/- A part of the proof of RunParses: ExD. -/
import Derived.Test.YtjokciofeicdkaaGreatDoorPQ
set_option maxHeartbeats 16000000
set_option maxRecDepth 100000
set_option linter.all false
namespace Go.Proofs.YtjokciofeicdkaaGreatDoor
open Go.RowKit
attribute [local go_sem ↓] Go.wp_at_zero Go.wp_at_succ
theorem cell_side {w:World}{b c i j:Nat}{v u:Value}(h:w.cell? ⟨b,i,none⟩=some u)(hn:b≠c):(w.setCell ⟨c,j,none⟩ v).cell? ⟨b,i,none⟩=some u:=by
 rw [World.cell?_setCell_other]
 ·exact h
 ·intro e;exact hn (congrArg Addr.block e).symm
theorem cell_side_d {w:World}{b c i j:Nat}{v u:Value}(h:w.drew.cell? ⟨b,i,none⟩=some u)(hn:b≠c):(w.setCell ⟨c,j,none⟩ v).drew.cell? ⟨b,i,none⟩=some u:=cell_side (w:=w) h hn
def opTo (l:List Tk)(i k:Nat):Int:=if opS l i<(k:Int) then opS l i else 0
theorem opS_rng (l:List Tk)(i:Nat):0≤opS l i∧opS l i≤6:=by
 unfold opS;(repeat' split)<;>exact ⟨by decide,by decide⟩
theorem sgn_eq {l:List Tk}{i:Nat}{a b:ByteArray}(ha:sgn l i a=true)(hb:sgn l i b=true):a=b:=by
 unfold sgn at ha hb
 cases h:l[i]? with
 | none=>rw [h] at ha;cases ha
 | some t=>
   rw [h] at ha hb;simp only [Bool.and_eq_true,decide_eq_true_eq] at ha hb;exact ha.2.symm.trans hb.2
theorem sgn_op {l:List Tk}{i k:Nat}(h1:1≤k)(h6:k≤6):sgn l i (signS (k:Int))=decide (opS l i=(k:Int)):=by
 have hne:∀ {a b:ByteArray},a≠b→sgn l i a=true→sgn l i b=false:=fun {a b} hab ha=>by
  cases hb:sgn l i b
  ·rfl
  ·exact absurd (sgn_eq ha hb) hab
 rw [Bool.eq_iff_iff,decide_eq_true_iff];have hk:k=1∨k=2∨k=3∨k=4∨k=5∨k=6:=by omega
 constructor
 ·rcases hk with rfl|rfl|rfl|rfl|rfl|rfl
  ·intro h;have h:sgn l i ⟨#[61]⟩=true:=h;unfold opS;rw [if_pos h];rfl
  ·intro h;have h:sgn l i ⟨#[33,61]⟩=true:=h;have n0:sgn l i ⟨#[61]⟩=false:=hne (by decide) h
   unfold opS;rw [if_neg (by rw [n0];decide),if_pos h];rfl
  ·intro h;have h:sgn l i ⟨#[60]⟩=true:=h;have n0:sgn l i ⟨#[61]⟩=false:=hne (by decide) h
   have n1:sgn l i ⟨#[33,61]⟩=false:=hne (by decide) h
   unfold opS;rw [if_neg (by rw [n0];decide),if_neg (by rw [n1];decide),if_pos h];rfl
  ·intro h;have h:sgn l i ⟨#[60,61]⟩=true:=h;have n0:sgn l i ⟨#[61]⟩=false:=hne (by decide) h
   have n1:sgn l i ⟨#[33,61]⟩=false:=hne (by decide) h
   have n2:sgn l i ⟨#[60]⟩=false:=hne (by decide) h
   unfold opS;rw [if_neg (by rw [n0];decide),if_neg (by rw [n1];decide),if_neg (by rw [n2];decide),if_pos h];rfl
  ·intro h;have h:sgn l i ⟨#[62]⟩=true:=h;have n0:sgn l i ⟨#[61]⟩=false:=hne (by decide) h
   have n1:sgn l i ⟨#[33,61]⟩=false:=hne (by decide) h
   have n2:sgn l i ⟨#[60]⟩=false:=hne (by decide) h
   have n3:sgn l i ⟨#[60,61]⟩=false:=hne (by decide) h
   unfold opS;rw [if_neg (by rw [n0];decide),if_neg (by rw [n1];decide),if_neg (by rw [n2];decide),if_neg (by rw [n3];decide),if_pos h];rfl
  ·intro h;have h:sgn l i ⟨#[62,61]⟩=true:=h;have n0:sgn l i ⟨#[61]⟩=false:=hne (by decide) h
   have n1:sgn l i ⟨#[33,61]⟩=false:=hne (by decide) h
   have n2:sgn l i ⟨#[60]⟩=false:=hne (by decide) h
   have n3:sgn l i ⟨#[60,61]⟩=false:=hne (by decide) h
   have n4:sgn l i ⟨#[62]⟩=false:=hne (by decide) h
   unfold opS;rw [if_neg (by rw [n0];decide),if_neg (by rw [n1];decide),if_neg (by rw [n2];decide),if_neg (by rw [n3];decide),if_neg (by rw [n4];decide),if_pos h];rfl
 ·intro h;unfold opS at h
  split at h
  ·rename_i hs;have e:k=1:=by omega
   subst e;exact hs
  split at h
  ·rename_i hs;have e:k=2:=by omega
   subst e;exact hs
  split at h
  ·rename_i hs;have e:k=3:=by omega
   subst e;exact hs
  split at h
  ·rename_i hs;have e:k=4:=by omega
   subst e;exact hs
  split at h
  ·rename_i hs;have e:k=5:=by omega
   subst e;exact hs
  split at h
  ·rename_i hs;have e:k=6:=by omega
   subst e;exact hs
  ·omega
theorem x_test_no {w:World}{M g cap:Nat}{l:List Tk}{d:Ds}{vn:Value}(P:DsAt w M g cap l d vn)(hE:EnvOn M w)(hG:∀ t∈l,TokG t)(hL:Lined l)(hl:d.at_<l.length)(hll:l.length≤1000000)(hn:d.out.length≤1000000)(name:ByteArray)
  (h0:opS l d.at_=0) :
  Calls Tryz.prog 230 #[.pointer (some ⟨M,0,none⟩),.string name] w fun e w'=>DbPost w M g cap l (d.test l name) e w':=by
 have hlt:=P.lt
 have T0:DtAt w (w.alloc (.cells (tcells (Nd.name name)) 84 (0,0))) M g cap l d vn w.heap.size (Nd.name name):=
  ⟨P.up ((Below.refl w.heap.size w).alloc (Nat.le_refl _) _),heap_alloc_new w _,hlt,(Below.refl M w).alloc (Nat.le_of_lt hlt) _⟩
 have T0:=Hi T0;have hGG:=Hi hG;have hLL:=Hi hL;have Hh0:=Hi h0;clear h0;clear P hG hL;go_enter Tryz.func230,Tryz.ntmps230;go_upto_region 2 with fail;have T0:DtAt w (w.alloc (.cells #[.string name,.int .i64 0,.int .i64 0,.int .i64 0,.int .i64 0,.int .i64 0,.string { data:=#[] }] 84)) M g cap l d vn w.heap.size (Nd.name name):=T0.out;generalize w.alloc (.cells #[.string name,.int .i64 0,.int .i64 0,.int .i64 0,.int .i64 0,.int .i64 0,.string { data:=#[] }] 84)=wc at T0 ⊢;obtain ⟨B,hB⟩:∃ B,w.heap.size=B:=⟨_,rfl⟩
 rw [hB] at T0 ⊢;clear hB;have hob:=opS_rng l d.at_
 have T0:=Hi (show DtAt w wc M g cap l d vn B ⟨3,name,opTo l d.at_ 1,0,0,0,0,⟨#[]⟩⟩ by
  rw [show opTo l d.at_ 1=0 by unfold opTo;split<;>omega];exact T0)
 clear hlt;go_wp2_with fail
 go_loopw [6] (fun a wr=>∃ k:Nat,a=.int .i64 k∧1≤k∧k≤7∧Hid (DtAt w wr M g cap l d vn B ⟨3,name,opTo l d.at_ k,0,0,0,0,⟨#[]⟩⟩)) (fun a _=>7-(intOf a).toNat)
 case atStart=>exact ⟨1,rfl,by omega,by omega,T0⟩
 case round=>
  obtain ⟨k,rfl,hk1,hk7,T⟩:=hrel;obtain ⟨wq,rfl⟩:∃ wq,wq=wr:=⟨_,rfl⟩
  have z1:wq.cell? ⟨B,1,none⟩=some (.int .i64 (opTo l d.at_ k)):=T.out.T.cell 1
  by_cases hk:k≤6
  ·have bk:(k:Int)≤6:=by omega
   have bwk:=wS k (by omega)
   have co:=Hi (fun (W:World)=>x_signOf (k:Int) W)
   have cs:=Hi (x_sign T.out.P (signS (k:Int)));have hsg:=sgn_op (l:=l) (i:=d.at_) (k:=k) hk1 hk;rw [hsg] at cs
   by_cases hop:opS l d.at_=(k:Int)
   ·rw [decide_eq_true hop] at cs;have ho2:opTo l d.at_ (k+1)=(k:Int):=by unfold opTo;rw [hop];split<;>omega
    have ho2:=Hi ho2;clear hop hsg T0 hob;go_upto_region 6 with (first|(go_at_call 205;refine cs.out.mono ?_;rintro e w' ⟨rfl,hq⟩)|(go_at_call 233;refine (co.out _).mono ?_;rintro e w' ⟨rfl,rfl⟩))
    have T1:=T.out.qt hq;have z2:w'.cell? ⟨B,1,none⟩=some (.int .i64 (opTo l d.at_ k)):=T1.T.cell 1;have f2:=T1.T.free 1;have T2:=T1.setT 1 (.int .i64 (k:Int)) ⟨3,name,(k:Int),0,0,0,0,⟨#[]⟩⟩ rfl;have T2:=Hi T2;clear T T1 hq z1 co cs;go_wp2_with fail
    go_roundw
    case rel=>exact ⟨k+1,by first|rfl|go_num,by omega,by omega,Hi (by rw [ho2.out];exact T2.out)⟩
    case measure=>simp [intOf];omega
   ·rw [decide_eq_false hop] at cs;have ho2:opTo l d.at_ (k+1)=opTo l d.at_ k:=by unfold opTo;split<;>split<;>omega
    have ho2:=Hi ho2;clear hop hsg T0 hob;go_wp2_with (first|(go_at_call 205;refine cs.out.mono ?_;rintro e w' ⟨rfl,hq⟩;have hq:=Hi hq)|(go_at_call 233;refine (co.out _).mono ?_;rintro e w' ⟨rfl,rfl⟩))
    go_roundw
    case rel=>exact ⟨k+1,by first|rfl|go_num,by omega,by omega,Hi (by rw [ho2.out];exact T.out.qt hq.out)⟩
    case measure=>simp [intOf];omega
  ·have bk:¬ (k:Int)≤6:=by omega
   have hk8:k=7:=by omega
   subst hk8;have ho7:opTo l d.at_ 7=opS l d.at_:=by unfold opTo;split<;>omega
   rw [ho7] at T z1;obtain ⟨op,hop⟩:∃ op,opS l d.at_=op:=⟨_,rfl⟩
   rw [hop] at T z1;have h0:=Hh0.out;clear Hh0;rw [hop] at h0;have Hop:=Hi hop;clear hop hk hk1 hk7 T0 ho7 hob;go_upto_region 7 with fail;have H:=Hi (show d.test l name=d.fail 50 by unfold Ds.test;rw [if_pos (Hop.out.trans h0)])
   rw [h0] at z1;have cf:=Hi (x_fail T.out.P 50);clear h0;go_wp2_with fail;refine cf.out.mono ?_;rintro e w1 ⟨rfl,hs,hb,P1⟩;have hP1:=Hi P1;clear P1 cf;go_wp2_with fail;go_ret;rw [H.out];exact ⟨rfl,T.out.b0.trans hb,vn,hP1.out⟩
theorem x_test_pat {w:World}{M g cap:Nat}{l:List Tk}{d:Ds}{vn:Value}(P:DsAt w M g cap l d vn)(hE:EnvOn M w)(hG:∀ t∈l,TokG t)(hL:Lined l)(hl:d.at_<l.length)(hll:l.length≤1000000)(hn:d.out.length≤1000000)(name:ByteArray)
  (h0:opS l d.at_≠0) (ho:opS l d.at_≤2) (hk5:kindIs l (d.at_+1) 5=true) :
  Calls Tryz.prog 230 #[.pointer (some ⟨M,0,none⟩),.string name] w fun e w'=>DbPost w M g cap l (d.test l name) e w':=by
 have hlt:=P.lt
 have T0:DtAt w (w.alloc (.cells (tcells (Nd.name name)) 84 (0,0))) M g cap l d vn w.heap.size (Nd.name name):=
  ⟨P.up ((Below.refl w.heap.size w).alloc (Nat.le_refl _) _),heap_alloc_new w _,hlt,(Below.refl M w).alloc (Nat.le_of_lt hlt) _⟩
 have T0:=Hi T0;have hGG:=Hi hG;have hLL:=Hi hL;have Hh0:=Hi h0;have Hho:=Hi ho;have Hhk5:=Hi hk5;clear h0 ho hk5;clear P hG hL;go_enter Tryz.func230,Tryz.ntmps230;go_upto_region 2 with fail;have T0:DtAt w (w.alloc (.cells #[.string name,.int .i64 0,.int .i64 0,.int .i64 0,.int .i64 0,.int .i64 0,.string { data:=#[] }] 84)) M g cap l d vn w.heap.size (Nd.name name):=T0.out;generalize w.alloc (.cells #[.string name,.int .i64 0,.int .i64 0,.int .i64 0,.int .i64 0,.int .i64 0,.string { data:=#[] }] 84)=wc at T0 ⊢;obtain ⟨B,hB⟩:∃ B,w.heap.size=B:=⟨_,rfl⟩
 rw [hB] at T0 ⊢;clear hB;have hob:=opS_rng l d.at_
 have T0:=Hi (show DtAt w wc M g cap l d vn B ⟨3,name,opTo l d.at_ 1,0,0,0,0,⟨#[]⟩⟩ by
  rw [show opTo l d.at_ 1=0 by unfold opTo;split<;>omega];exact T0)
 clear hlt;go_wp2_with fail
 go_loopw [6] (fun a wr=>∃ k:Nat,a=.int .i64 k∧1≤k∧k≤7∧Hid (DtAt w wr M g cap l d vn B ⟨3,name,opTo l d.at_ k,0,0,0,0,⟨#[]⟩⟩)) (fun a _=>7-(intOf a).toNat)
 case atStart=>exact ⟨1,rfl,by omega,by omega,T0⟩
 case round=>
  obtain ⟨k,rfl,hk1,hk7,T⟩:=hrel;obtain ⟨wq,rfl⟩:∃ wq,wq=wr:=⟨_,rfl⟩
  have z1:wq.cell? ⟨B,1,none⟩=some (.int .i64 (opTo l d.at_ k)):=T.out.T.cell 1
  by_cases hk:k≤6
  ·have bk:(k:Int)≤6:=by omega
   have bwk:=wS k (by omega)
   have co:=Hi (fun (W:World)=>x_signOf (k:Int) W)
   have cs:=Hi (x_sign T.out.P (signS (k:Int)));have hsg:=sgn_op (l:=l) (i:=d.at_) (k:=k) hk1 hk;rw [hsg] at cs
   by_cases hop:opS l d.at_=(k:Int)
   ·rw [decide_eq_true hop] at cs;have ho2:opTo l d.at_ (k+1)=(k:Int):=by unfold opTo;rw [hop];split<;>omega
    have ho2:=Hi ho2;clear hop hsg T0 hob;go_upto_region 6 with (first|(go_at_call 205;refine cs.out.mono ?_;rintro e w' ⟨rfl,hq⟩)|(go_at_call 233;refine (co.out _).mono ?_;rintro e w' ⟨rfl,rfl⟩))
    have T1:=T.out.qt hq;have z2:w'.cell? ⟨B,1,none⟩=some (.int .i64 (opTo l d.at_ k)):=T1.T.cell 1;have f2:=T1.T.free 1;have T2:=T1.setT 1 (.int .i64 (k:Int)) ⟨3,name,(k:Int),0,0,0,0,⟨#[]⟩⟩ rfl;have T2:=Hi T2;clear T T1 hq z1 co cs;go_wp2_with fail
    go_roundw
    case rel=>exact ⟨k+1,by first|rfl|go_num,by omega,by omega,Hi (by rw [ho2.out];exact T2.out)⟩
    case measure=>simp [intOf];omega
   ·rw [decide_eq_false hop] at cs;have ho2:opTo l d.at_ (k+1)=opTo l d.at_ k:=by unfold opTo;split<;>split<;>omega
    have ho2:=Hi ho2;clear hop hsg T0 hob;go_wp2_with (first|(go_at_call 205;refine cs.out.mono ?_;rintro e w' ⟨rfl,hq⟩;have hq:=Hi hq)|(go_at_call 233;refine (co.out _).mono ?_;rintro e w' ⟨rfl,rfl⟩))
    go_roundw
    case rel=>exact ⟨k+1,by first|rfl|go_num,by omega,by omega,Hi (by rw [ho2.out];exact T.out.qt hq.out)⟩
    case measure=>simp [intOf];omega
  ·have bk:¬ (k:Int)≤6:=by omega
   have hk8:k=7:=by omega
   subst hk8;have ho7:opTo l d.at_ 7=opS l d.at_:=by unfold opTo;split<;>omega
   rw [ho7] at T z1;obtain ⟨op,hop⟩:∃ op,opS l d.at_=op:=⟨_,rfl⟩
   rw [hop] at T z1;have h0:=Hh0.out;have ho:=Hho.out;have hk5:=Hhk5.out;clear Hh0 Hho Hhk5;rw [hop] at h0 ho;have Hop:=Hi hop;clear hop hk hk1 hk7 T0 ho7 hob;go_upto_region 7 with fail;have b0:(op == 0)=false:=by rw [beq_eq_false_iff_ne];exact h0
   have q1:=T.out.P.c1;have f1:=T.out.P.free 1;have bw:IntKind.i64.wrap ((d.at_:Int)+1)=(d.at_:Int)+1:=IntWalk.i64_in _ (by omega)
   go_upto_region 10 with fail;have T2:=T.out.setAt (d.at_+1);have T2:DtAt w (wq.setCell ⟨M,1,none⟩ (.int .i64 ((d.at_:Int)+1))) M g cap l _ vn B _:=T2;clear T z1 q1 f1 bk;generalize wq.setCell ⟨M,1,none⟩ (.int .i64 ((d.at_:Int)+1))=W2 at T2 ⊢;have Hs:=Hi (Stays.step hLL.out (op_kind (by rw [Hop.out];exact h0)) (by decide))
   obtain ⟨i,hi⟩:∃ i,d.at_+1=i:=⟨_,rfl⟩
   rw [hi] at T2 Hs hk5;have q0:=T2.P.c0;have q1:W2.cell? ⟨M,1,none⟩=some (.int .i64 i):=T2.P.c1;have z1:W2.cell? ⟨B,1,none⟩=some (.int .i64 op):=T2.T.cell 1;have hil:i<l.length:=Hs.out.2.1;have hE2:=hE.next T2.b0
   have ho12:op=1∨op=2:=by have:=opS_rng l d.at_;rw [Hop.out] at this;omega
   have ht:l[i]?=some l[i]:=List.getElem?_eq_getElem hil;have hgt:=hGG.out _ (List.getElem_mem hil);have htx:textAt l i=l[i].text:=by unfold textAt;rw [ht]
   have hkk:l[i].kind=5:=by unfold kindIs at hk5;rw [ht] at hk5;simpa using hk5
   have Hx2:=Hi htx;generalize l[i]=u at ht Hx2 hgt hkk;have hpo:isPatR (bs u.text)=true:=hgt.2.2.1 hkk;have hsz:=hgt.2.2.2.2.1
   have h1u:1≤u.text.size:=by
    rw [← bs_length]
    cases hb:bs u.text with
    | nil=>rw [hb] at hpo;cases hpo
    | cons c r=>simp
   have e0:W2.cell? ⟨g,i*4,none⟩=some (.int .i64 u.kind):=T2.P.toks.2 i u ht 0 _ rfl;have e1:W2.cell? ⟨g,i*4+1,none⟩=some (.string u.text):=T2.P.toks.2 i u ht 1 _ rfl
   have H:=Hi (show d.test l name=(true,Ds.put { d with at_:=i+1 } ⟨3,name,op,4,0,0,0,u.text.extract 1 u.text.size⟩) by
    unfold Ds.test;rw [if_neg (by rw [Hop.out];exact h0)]
    dsimp only;rw [Hop.out,hi,if_pos ⟨ho,hk5,by unfold patOK;rw [Hx2.out];exact hpo⟩,Hx2.out])
   have cp:=Hi (fun (W:World) (hb:Below M W2 W)=>show Calls Tryz.prog 234 #[.string u.text] W fun e w'=>e=.returned (.bool true)∧Below W.heap.size W w' from hpo▸x_isPattern u.text (by omega) W (hE2 W hb))
   have c1:decide (i<l.length)=true:=decide_eq_true hil;have c2:(i:Int)<(l.length:Int):=by omega
   have c3:(0:Int)≤(i:Int):=by omega
   have c4:(1:Int)≤(u.text.size:Int):=by omega
   have bk5:(u.kind == 5)=true:=by rw [hkk];rfl
   have hT2:=Hi T2;have hMl:=T2.P.lt;have hgl:=T2.P.toks.1;have hil2:=Hi hil;clear T2 ht hgt htx hkk hpo hsz hk5 ho h0 hi hil Hs Hop
   go_cut [7] (fun v wx=>wx=W2∧v=.bool true)
   case first=>
    rcases ho12 with rfl|rfl
    all_goals (
     go_wp2_with fail;go_meet;exact ⟨rfl,rfl⟩)
   case rest=>
   obtain ⟨rfl,rfl⟩:=hcut;clear b0 ho12 T0;go_upto_region 11 with fail
   go_region_held3 (fun W=>W.cell? ⟨M,0,none⟩=some (tokV g cap l)∧W.cell? ⟨M,1,none⟩=some (.int .i64 i)∧W.cell? ⟨g,i*4,none⟩=some (.int .i64 u.kind)∧W.cell? ⟨g,i*4+1,none⟩=some (.string u.text)) (first|exact hHeld|exact ⟨q0,q1,e0,e1⟩|exact ⟨(hbz.cell (p:=⟨M,0,none⟩) hMl).trans q0,(hbz.cell (p:=⟨M,1,none⟩) hMl).trans q1,(hbz.cell (p:=⟨g,i*4,none⟩) hgl).trans e0,(hbz.cell (p:=⟨g,i*4+1,none⟩) hgl).trans e1⟩|fail) ((go_simp;go_at_call 234;refine (cp.out _ ((Qt.self wc 1).below M)).mono ?_;rintro e wz ⟨rfl,hbz⟩;go_wp2_with fail))
   have T3:=(hT2.out.qt (Qt.self wc 1)).up hbz;have hT3:=Hi T3;have k0:=T3.P.c0;have k1:wz.cell? ⟨M,1,none⟩=some (.int .i64 i):=T3.P.c1;have k2:wz.cell? ⟨g,i*4+1,none⟩=some (.string u.text):=(hbz.cell (p:=⟨g,i*4+1,none⟩) hgl).trans e1;have z2:wz.cell? ⟨B,2,none⟩=some (.int .i64 0):=T3.T.cell 2;have f2:=T3.T.free 2;have z6:wz.cell? ⟨B,6,none⟩=some (.string ⟨#[]⟩):=T3.T.cell 6;have f6:=T3.T.free 6;have n1:M≠B:=by have:=T3.mB;omega
   have n2:g≠B:=by have:=T3.mB;have:=T3.P.gM;omega
   clear T3 hbz q0 q1 e0 e1 z1 hT2 hMl hgl hE2 cp
   (try clear hHeld)
   go_upto_region 12 with fail
   go_region_held3 (fun W=>W.cell? ⟨M,0,none⟩=some (tokV g cap l)∧W.cell? ⟨M,1,none⟩=some (.int .i64 i)∧W.cell? ⟨g,i*4+1,none⟩=some (.string u.text)) (first|exact hHeld|exact ⟨k0,k1,k2⟩|exact ⟨cell_side_d (cell_side k0 n1) n1,cell_side_d (cell_side k1 n1) n1,cell_side_d (cell_side k2 n2) n2⟩|exact ⟨cell_side_d k0 n1,cell_side_d k1 n1,cell_side_d k2 n2⟩|fail) (fail)
   have T4:=((hT3.out.setT 2 (.int .i64 4) ⟨3,name,op,4,0,0,0,⟨#[]⟩⟩ rfl).setT 6 (.string (u.text.extract 1 u.text.size)) ⟨3,name,op,4,0,0,0,u.text.extract 1 u.text.size⟩ rfl).qt (Qt.self _ 1);have T4:DtAt w ((wz.setCell ⟨B,2,none⟩ (.int .i64 4)).setCell ⟨B,6,none⟩ (.string (u.text.extract 1 u.text.size))).drew M g cap l _ vn B _:=T4
   (try clear hHeld)
   clear hT3 k0 k1 k2 z2 f2 z6 f6;generalize ((wz.setCell ⟨B,2,none⟩ (.int .i64 4)).setCell ⟨B,6,none⟩ (.string (u.text.extract 1 u.text.size))).drew=W4 at T4 ⊢;have q1:W4.cell? ⟨M,1,none⟩=some (.int .i64 i):=T4.P.c1;have f1:=T4.P.free 1;have bwi:IntKind.i64.wrap ((i:Int)+1)=(i:Int)+1:=IntWalk.i64_in _ (by have:=hil2.out;omega)
   go_upto_region 14 with fail;have T5:=T4.setAt (i+1);have T5:DtAt w (W4.setCell ⟨M,1,none⟩ (.int .i64 ((i:Int)+1))) M g cap l _ vn B _:=T5;clear T4 q1 f1;generalize W4.setCell ⟨M,1,none⟩ (.int .i64 ((i:Int)+1))=W5 at T5 ⊢;have z0:W5.cell? ⟨B,0,none⟩=some (.string name):=T5.T.cell 0;have z1:W5.cell? ⟨B,1,none⟩=some (.int .i64 op):=T5.T.cell 1;have z2:W5.cell? ⟨B,2,none⟩=some (.int .i64 4):=T5.T.cell 2;have z3:W5.cell? ⟨B,3,none⟩=some (.int .i64 0):=T5.T.cell 3;have z4:W5.cell? ⟨B,4,none⟩=some (.int .i64 0):=T5.T.cell 4;have z5:W5.cell? ⟨B,5,none⟩=some (.int .i64 0):=T5.T.cell 5;have z6:W5.cell? ⟨B,6,none⟩=some (.string (u.text.extract 1 u.text.size)):=T5.T.cell 6;have cput:=Hi (x_put T5.P 3 name op 4 0 0 0 (u.text.extract 1 u.text.size) hn);have hb5:=Hi T5.b0;clear T5;go_wp2_with fail;refine cput.out.mono ?_;rintro e w6 ⟨rfl,hb6,vn6,P6⟩;have hP6:=Hi P6;clear P6 cput z0 z1 z2 z3 z4 z5 z6;go_wp2_with fail;go_ret;rw [H.out];exact ⟨rfl,hb5.out.trans hb6,vn6,hP6.out⟩
theorem x_test_num {w:World}{M g cap:Nat}{l:List Tk}{d:Ds}{vn:Value}(P:DsAt w M g cap l d vn)(hE:EnvOn M w)(hG:∀ t∈l,TokG t)(hL:Lined l)(hl:d.at_<l.length)(hll:l.length≤1000000)(hn:d.out.length≤1000000)(name:ByteArray)
  (h0:opS l d.at_≠0) (hCn:¬ (opS l d.at_≤2∧kindIs l (d.at_+1) 5=true)) :
  Calls Tryz.prog 230 #[.pointer (some ⟨M,0,none⟩),.string name] w fun e w'=>DbPost w M g cap l (d.test l name) e w':=by
 have hlt:=P.lt
 have T0:DtAt w (w.alloc (.cells (tcells (Nd.name name)) 84 (0,0))) M g cap l d vn w.heap.size (Nd.name name):=
  ⟨P.up ((Below.refl w.heap.size w).alloc (Nat.le_refl _) _),heap_alloc_new w _,hlt,(Below.refl M w).alloc (Nat.le_of_lt hlt) _⟩
 have T0:=Hi T0;have hGG:=Hi hG;have hLL:=Hi hL;have Hh0:=Hi h0;have HhCn:=Hi hCn;clear h0 hCn;clear P hG hL;go_enter Tryz.func230,Tryz.ntmps230;go_upto_region 2 with fail;have T0:DtAt w (w.alloc (.cells #[.string name,.int .i64 0,.int .i64 0,.int .i64 0,.int .i64 0,.int .i64 0,.string { data:=#[] }] 84)) M g cap l d vn w.heap.size (Nd.name name):=T0.out;generalize w.alloc (.cells #[.string name,.int .i64 0,.int .i64 0,.int .i64 0,.int .i64 0,.int .i64 0,.string { data:=#[] }] 84)=wc at T0 ⊢;obtain ⟨B,hB⟩:∃ B,w.heap.size=B:=⟨_,rfl⟩
 rw [hB] at T0 ⊢;clear hB;have hob:=opS_rng l d.at_
 have T0:=Hi (show DtAt w wc M g cap l d vn B ⟨3,name,opTo l d.at_ 1,0,0,0,0,⟨#[]⟩⟩ by
  rw [show opTo l d.at_ 1=0 by unfold opTo;split<;>omega];exact T0)
 clear hlt;go_wp2_with fail
 go_loopw [6] (fun a wr=>∃ k:Nat,a=.int .i64 k∧1≤k∧k≤7∧Hid (DtAt w wr M g cap l d vn B ⟨3,name,opTo l d.at_ k,0,0,0,0,⟨#[]⟩⟩)) (fun a _=>7-(intOf a).toNat)
 case atStart=>exact ⟨1,rfl,by omega,by omega,T0⟩
 case round=>
  obtain ⟨k,rfl,hk1,hk7,T⟩:=hrel;obtain ⟨wq,rfl⟩:∃ wq,wq=wr:=⟨_,rfl⟩
  have z1:wq.cell? ⟨B,1,none⟩=some (.int .i64 (opTo l d.at_ k)):=T.out.T.cell 1
  by_cases hk:k≤6
  ·have bk:(k:Int)≤6:=by omega
   have bwk:=wS k (by omega)
   have co:=Hi (fun (W:World)=>x_signOf (k:Int) W)
   have cs:=Hi (x_sign T.out.P (signS (k:Int)));have hsg:=sgn_op (l:=l) (i:=d.at_) (k:=k) hk1 hk;rw [hsg] at cs
   by_cases hop:opS l d.at_=(k:Int)
   ·rw [decide_eq_true hop] at cs;have ho2:opTo l d.at_ (k+1)=(k:Int):=by unfold opTo;rw [hop];split<;>omega
    have ho2:=Hi ho2;clear hop hsg T0 hob;go_upto_region 6 with (first|(go_at_call 205;refine cs.out.mono ?_;rintro e w' ⟨rfl,hq⟩)|(go_at_call 233;refine (co.out _).mono ?_;rintro e w' ⟨rfl,rfl⟩))
    have T1:=T.out.qt hq;have z2:w'.cell? ⟨B,1,none⟩=some (.int .i64 (opTo l d.at_ k)):=T1.T.cell 1;have f2:=T1.T.free 1;have T2:=T1.setT 1 (.int .i64 (k:Int)) ⟨3,name,(k:Int),0,0,0,0,⟨#[]⟩⟩ rfl;have T2:=Hi T2;clear T T1 hq z1 co cs;go_wp2_with fail
    go_roundw
    case rel=>exact ⟨k+1,by first|rfl|go_num,by omega,by omega,Hi (by rw [ho2.out];exact T2.out)⟩
    case measure=>simp [intOf];omega
   ·rw [decide_eq_false hop] at cs;have ho2:opTo l d.at_ (k+1)=opTo l d.at_ k:=by unfold opTo;split<;>split<;>omega
    have ho2:=Hi ho2;clear hop hsg T0 hob;go_wp2_with (first|(go_at_call 205;refine cs.out.mono ?_;rintro e w' ⟨rfl,hq⟩;have hq:=Hi hq)|(go_at_call 233;refine (co.out _).mono ?_;rintro e w' ⟨rfl,rfl⟩))
    go_roundw
    case rel=>exact ⟨k+1,by first|rfl|go_num,by omega,by omega,Hi (by rw [ho2.out];exact T.out.qt hq.out)⟩
    case measure=>simp [intOf];omega
  ·have bk:¬ (k:Int)≤6:=by omega
   have hk8:k=7:=by omega
   subst hk8;have ho7:opTo l d.at_ 7=opS l d.at_:=by unfold opTo;split<;>omega
   rw [ho7] at T z1;obtain ⟨op,hop⟩:∃ op,opS l d.at_=op:=⟨_,rfl⟩
   rw [hop] at T z1;have h0:=Hh0.out;have hCn:=HhCn.out;clear Hh0 HhCn;rw [hop] at h0 hCn;have Hop:=Hi hop;clear hop hk hk1 hk7 T0 ho7 hob;go_upto_region 7 with fail;have b0:(op == 0)=false:=by rw [beq_eq_false_iff_ne];exact h0
   have q1:=T.out.P.c1;have f1:=T.out.P.free 1;have bw:IntKind.i64.wrap ((d.at_:Int)+1)=(d.at_:Int)+1:=IntWalk.i64_in _ (by omega)
   go_upto_region 10 with fail;have T2:=T.out.setAt (d.at_+1);have T2:DtAt w (wq.setCell ⟨M,1,none⟩ (.int .i64 ((d.at_:Int)+1))) M g cap l _ vn B _:=T2;clear T z1 q1 f1 bk;generalize wq.setCell ⟨M,1,none⟩ (.int .i64 ((d.at_:Int)+1))=W2 at T2 ⊢;have Hs:=Hi (Stays.step hLL.out (op_kind (by rw [Hop.out];exact h0)) (by decide))
   obtain ⟨i,hi⟩:∃ i,d.at_+1=i:=⟨_,rfl⟩
   rw [hi] at T2 Hs hCn;have q0:=T2.P.c0;have q1:W2.cell? ⟨M,1,none⟩=some (.int .i64 i):=T2.P.c1;have z1:W2.cell? ⟨B,1,none⟩=some (.int .i64 op):=T2.T.cell 1;have hil:i<l.length:=Hs.out.2.1;have hE2:=hE.next T2.b0
   have hCh:=Hi hCn;have hT2:=Hi T2;clear T2 hCn;have hCn:=hCh
   go_cut [7] (fun v wx=>wx=W2∧v=.bool (decide (op≤2)))
   case first=>
    have hr:=opS_rng l d.at_;rw [Hop.out] at hr
    by_cases o1:op=1
    ·subst o1;clear hr;go_wp2_with fail;go_meet;exact ⟨rfl,rfl⟩
    by_cases o2:op=2
    ·subst o2;clear hr;go_wp2_with fail;go_meet;exact ⟨rfl,rfl⟩
    have d1:(op == 1)=false:=by rw [beq_eq_false_iff_ne];exact o1
    have d2:(op == 2)=false:=by rw [beq_eq_false_iff_ne];exact o2
    have d3:=Hi (show decide (op≤2)=false by rw [decide_eq_false_iff_not];omega)
    clear hr o1 o2;go_wp2_with fail;go_meet;exact ⟨rfl,by rw [d3.out]⟩
   case rest=>
   obtain ⟨rfl,rfl⟩:=hcut;obtain ⟨B7,hB0⟩:∃ B7,decide (op≤2)=B7:=⟨_,rfl⟩
   rw [hB0];have hB7:=Hi hB0;clear hB0;have hE3:=hE2;clear b0 T0 z1;go_upto_region 11 with fail
   go_cut [80] (fun v wx=>v=.bool false∧DtAt w wx M g cap l { d with at_:=i } vn B ⟨3,name,op,0,0,0,0,⟨#[]⟩⟩)
   case first=>
    cases B7 with
    | false=>
      go_quiet (fail);go_wp2_with fail;go_meet;exact ⟨rfl,hT2.out.qt (Qt.self _ _)⟩
    | true=>
      have ht:l[i]?=some l[i]:=List.getElem?_eq_getElem hil
      have bk:(l[i].kind == 5)=false:=by
       cases hb:(l[i].kind == 5)
       ·rfl
       ·exact absurd ⟨by simpa using hB7.out,by unfold kindIs;rw [ht];exact hb⟩ hCn.out
      generalize l[i]=u at ht bk;have e0:wc.cell? ⟨g,i*4,none⟩=some (.int .i64 u.kind):=hT2.out.P.toks.2 i u ht 0 _ rfl;have c1:decide (i<l.length)=true:=decide_eq_true hil;have c2:(i:Int)<(l.length:Int):=by omega
      have c3:(0:Int)≤(i:Int):=by omega
      clear ht hil;go_quiet (fail);go_wp2_with fail;go_meet;exact ⟨rfl,hT2.out.qt (Qt.self _ _)⟩
   case rest=>
   obtain ⟨rfl,T3⟩:=hcut;clear q0 q1 hT2;have cn:=Hi (x_number (k:=3) (fy:=fun v=>⟨3,name,op,0,v,0,0,⟨#[]⟩⟩) T3 (hE.next T3.b0) hGG.out hll ⟨0,rfl⟩ (fun v=>rfl))
   have hGk:=hGG;clear T3
   cases hnum:Ds.num { d with at_:=i } l with
   | none=>
     have H:=Hi (show d.test l name=Ds.fail { d with at_:=i } 50 by
      unfold Ds.test;rw [if_neg (by rw [Hop.out];exact h0)]
      dsimp only;rw [Hop.out,hi,if_neg (fun h=>hCn.out ⟨h.1,h.2.1⟩),hnum])
     have hnum2:=Hi hnum;clear h0 hnum;have hnum:=hnum2;go_wp2_with fail;refine cn.out.mono ?_;intro e w1 hp;rw [numPost_none hnum.out] at hp;obtain ⟨rfl,T4⟩:=hp;have T4:=Hi T4;clear cn;go_wp2_with fail;go_ret;rw [H.out];exact ⟨rfl,T4.out.b0,vn,T4.out.P⟩
   | some v=>
     obtain ⟨hk4,hva⟩:=num_at hnum;have Hs2:=Stays.step hLL.out hk4 (by decide)
     have hv3:v.2.at_=i+1:=hva;have hv2l:v.2.at_<l.length:=by rw [hv3];exact Hs2.2.1
     have hvo:v.2.out=d.out:=(dnum_same hnum).2.1;have hnv:v.2.out.length≤1000000:=by rw [hvo];exact hn
     have H0:=Hi (show d.test l name=(if op≤2∧sgn l v.2.at_ sSlash=true then
       (match Ds.num { v.2 with at_:=v.2.at_+1 } l with
        | none=>Ds.fail { v.2 with at_:=v.2.at_+1 } 50
        | some u=>(true,u.2.put ⟨3,name,op,2,v.1,0,u.1,⟨#[]⟩⟩))
      else if op≤2∧sgn l v.2.at_ sDots=true then
       (match Ds.num { v.2 with at_:=v.2.at_+1 } l with
        | none=>Ds.fail { v.2 with at_:=v.2.at_+1 } 50
        | some u=>(true,u.2.put ⟨3,name,op,3,v.1,u.1,0,⟨#[]⟩⟩))
      else (true,v.2.put ⟨3,name,op,1,v.1,0,0,⟨#[]⟩⟩)) by
      unfold Ds.test;rw [if_neg (by rw [Hop.out];exact h0)]
      dsimp only;rw [Hop.out,hi,if_neg (fun h=>hCn.out ⟨h.1,h.2.1⟩),hnum]
      rfl)
     have hnum2:=Hi hnum;clear hnum;have hnum:=hnum2;obtain ⟨v1,v2⟩:=v;dsimp only at H0 hv2l hnv;have hv2l:=Hi hv2l;clear h0 hk4 hva Hs2 hv3 hvo Hs hil;go_wp2_with fail;refine cn.out.mono ?_;intro e w1 hp;rw [numPost_some hnum.out] at hp;obtain ⟨rfl,T4⟩:=hp;have T4:DtAt w w1 M g cap l v2 vn B ⟨3,name,op,0,v1,0,0,⟨#[]⟩⟩:=T4;have z2:w1.cell? ⟨B,2,none⟩=some (.int .i64 0):=T4.T.cell 2;have f2:=T4.T.free 2;have T4:=Hi T4;clear cn hnum;go_upto_region 18 with fail;have T5:=T4.out.setT 2 (.int .i64 1) ⟨3,name,op,1,v1,0,0,⟨#[]⟩⟩ rfl;clear T4 z2 f2;generalize w1.setCell ⟨B,2,none⟩ (.int .i64 1)=W5 at T5 ⊢;have cs:=Hi (x_sign T5.P);have hT5:=Hi T5;clear T5;have Hcn:=hCn
     by_cases ho:op≤2
     ·have hb7:B7=true:=by rw [← hB7.out];exact decide_eq_true ho
      subst hb7;have hat:=hv2l;have bwv:IntKind.i64.wrap ((v2.at_:Int)+1)=(v2.at_:Int)+1:=IntWalk.i64_in _ (by have:=hv2l.out;omega)
      cases hs1:sgn l v2.at_ sSlash
      ·have c1:=Hi hs1;have H1:=Hi (H0.out.trans (if_neg (by rw [hs1];simp)))
       clear hs1 H0;go_upto_region 23 with (go_at_call 205;refine (cs.out _).mono ?_;rintro e w' ⟨rfl,hq⟩;rw [c1.out]);have T6:=hT5.out.qt hq;clear hT5 cs hq;have cs:=Hi (x_sign T6.P);have hT5:=Hi T6;clear T6
       cases hs2:sgn l v2.at_ sDots
       ·have c2:=Hi hs2;have H:=Hi (H1.out.trans (if_neg (by rw [hs2];simp)))
        clear hs2 H1;go_upto_region 28 with (go_at_call 205;refine (cs.out _).mono ?_;rintro e w' ⟨rfl,hq⟩;rw [c2.out]);have T7:=hT5.out.qt hq;clear hT5 cs hq;have z0:w'.cell? ⟨B,0,none⟩=some (.string name):=T7.T.cell 0;have z1:w'.cell? ⟨B,1,none⟩=some (.int .i64 op):=T7.T.cell 1;have z2:w'.cell? ⟨B,2,none⟩=some (.int .i64 1):=T7.T.cell 2;have z3:w'.cell? ⟨B,3,none⟩=some (.int .i64 v1):=T7.T.cell 3;have z4:w'.cell? ⟨B,4,none⟩=some (.int .i64 0):=T7.T.cell 4;have z5:w'.cell? ⟨B,5,none⟩=some (.int .i64 0):=T7.T.cell 5;have z6:w'.cell? ⟨B,6,none⟩=some (.string ⟨#[]⟩):=T7.T.cell 6;have cput:=Hi (x_put T7.P 3 name op 1 v1 0 0 ⟨#[]⟩ hnv);have hb5:=Hi T7.b0;clear T7;go_wp2_with fail;refine cput.out.mono ?_;rintro e w6 ⟨rfl,hb6,vn6,P6⟩;have hP6:=Hi P6;clear P6 cput z0 z1 z2 z3 z4 z5 z6;go_wp2_with fail;go_ret;rw [H.out];exact ⟨rfl,hb5.out.trans hb6,vn6,hP6.out⟩
       ·have c2:=Hi hs2;have H1:=Hi (H1.out.trans (if_pos ⟨ho,hs2⟩));clear hs2;go_upto_region 24 with (go_at_call 205;refine (cs.out _).mono ?_;rintro e w' ⟨rfl,hq⟩;rw [c2.out]);have T7:=hT5.out.qt hq;clear hT5 cs hq;have z2:w'.cell? ⟨B,2,none⟩=some (.int .i64 1):=T7.T.cell 2;have f2:=T7.T.free 2;go_upto_region 25 with fail;have T8:=T7.setT 2 (.int .i64 3) ⟨3,name,op,3,v1,0,0,⟨#[]⟩⟩ rfl;clear T7 z2 f2;generalize w'.setCell ⟨B,2,none⟩ (.int .i64 3)=W8 at T8 ⊢;have q1:=T8.P.c1;have f1:=T8.P.free 1;go_upto_region 26 with fail;have T9:=T8.setAt (v2.at_+1);have T9:DtAt w (W8.setCell ⟨M,1,none⟩ (.int .i64 ((v2.at_:Int)+1))) M g cap l _ vn B _:=T9;clear T8 q1 f1;generalize W8.setCell ⟨M,1,none⟩ (.int .i64 ((v2.at_:Int)+1))=W9 at T9 ⊢;have cn:=Hi (x_number (k:=4) (fy:=fun v=>⟨3,name,op,3,v1,v,0,⟨#[]⟩⟩) T9 (hE.next T9.b0) hGG.out hll ⟨0,rfl⟩ (fun v=>rfl))
        clear T9
        cases hnum:Ds.num { v2 with at_:=v2.at_+1 } l with
        | none=>
          have H:=Hi (H1.out.trans (show _=Ds.fail { v2 with at_:=v2.at_+1 } 50 by rw [hnum]))
          have hnum2:=Hi hnum;clear H1 hnum;have hnum:=hnum2;go_wp2_with fail;refine cn.out.mono ?_;intro e w10 hp;rw [numPost_none hnum.out] at hp;obtain ⟨rfl,T4⟩:=hp;have T4:=Hi T4;clear cn;go_wp2_with fail;go_ret;rw [H.out];exact ⟨rfl,T4.out.b0,vn,T4.out.P⟩
        | some u=>
          obtain ⟨u1,u2⟩:=u;have huo:u2.out=v2.out:=(dnum_same hnum).2.1;have hnu:u2.out.length≤1000000:=by rw [huo];exact hnv
          have H:=Hi (H1.out.trans (show _=(true,u2.put ⟨3,name,op,3,v1,u1,0,⟨#[]⟩⟩) by rw [hnum]))
          have hnum2:=Hi hnum;clear H1 huo hnum;have hnum:=hnum2;go_wp2_with fail;refine cn.out.mono ?_;intro e w10 hp;rw [numPost_some hnum.out] at hp;obtain ⟨rfl,T10⟩:=hp;have T10:=Hi T10;go_upto_region 28 with fail;have T11:DtAt w w10 M g cap l u2 vn B ⟨3,name,op,3,v1,u1,0,⟨#[]⟩⟩:=T10.out;clear T10 cn hnum;have z0:w10.cell? ⟨B,0,none⟩=some (.string name):=T11.T.cell 0;have z1:w10.cell? ⟨B,1,none⟩=some (.int .i64 op):=T11.T.cell 1;have z2:w10.cell? ⟨B,2,none⟩=some (.int .i64 3):=T11.T.cell 2;have z3:w10.cell? ⟨B,3,none⟩=some (.int .i64 v1):=T11.T.cell 3;have z4:w10.cell? ⟨B,4,none⟩=some (.int .i64 u1):=T11.T.cell 4;have z5:w10.cell? ⟨B,5,none⟩=some (.int .i64 0):=T11.T.cell 5;have z6:w10.cell? ⟨B,6,none⟩=some (.string ⟨#[]⟩):=T11.T.cell 6;have cput:=Hi (x_put T11.P 3 name op 3 v1 u1 0 ⟨#[]⟩ hnu);have hb5:=Hi T11.b0;clear T11;go_wp2_with fail;refine cput.out.mono ?_;rintro e w6 ⟨rfl,hb6,vn6,P6⟩;have hP6:=Hi P6;clear P6 cput z0 z1 z2 z3 z4 z5 z6;go_wp2_with fail;go_ret;rw [H.out];exact ⟨rfl,hb5.out.trans hb6,vn6,hP6.out⟩
      ·have c1:=Hi hs1;have H1:=Hi (H0.out.trans (if_pos ⟨ho,hs1⟩));clear hs1 H0;go_upto_region 19 with (go_at_call 205;refine (cs.out _).mono ?_;rintro e w' ⟨rfl,hq⟩;rw [c1.out]);have T7:=hT5.out.qt hq;clear hT5 cs hq;have z2:w'.cell? ⟨B,2,none⟩=some (.int .i64 1):=T7.T.cell 2;have f2:=T7.T.free 2;go_upto_region 20 with fail;have T8:=T7.setT 2 (.int .i64 2) ⟨3,name,op,2,v1,0,0,⟨#[]⟩⟩ rfl;clear T7 z2 f2;generalize w'.setCell ⟨B,2,none⟩ (.int .i64 2)=W8 at T8 ⊢;have q1:=T8.P.c1;have f1:=T8.P.free 1;go_upto_region 21 with fail;have T9:=T8.setAt (v2.at_+1);have T9:DtAt w (W8.setCell ⟨M,1,none⟩ (.int .i64 ((v2.at_:Int)+1))) M g cap l _ vn B _:=T9;clear T8 q1 f1;generalize W8.setCell ⟨M,1,none⟩ (.int .i64 ((v2.at_:Int)+1))=W9 at T9 ⊢;have cn:=Hi (x_number (k:=5) (fy:=fun v=>⟨3,name,op,2,v1,0,v,⟨#[]⟩⟩) T9 (hE.next T9.b0) hGG.out hll ⟨0,rfl⟩ (fun v=>rfl))
       clear T9
       cases hnum:Ds.num { v2 with at_:=v2.at_+1 } l with
       | none=>
         have H:=Hi (H1.out.trans (show _=Ds.fail { v2 with at_:=v2.at_+1 } 50 by rw [hnum]))
         have hnum2:=Hi hnum;clear H1 hnum;have hnum:=hnum2;go_wp2_with fail;refine cn.out.mono ?_;intro e w10 hp;rw [numPost_none hnum.out] at hp;obtain ⟨rfl,T4⟩:=hp;have T4:=Hi T4;clear cn;go_wp2_with fail;go_ret;rw [H.out];exact ⟨rfl,T4.out.b0,vn,T4.out.P⟩
       | some u=>
         obtain ⟨u1,u2⟩:=u;have huo:u2.out=v2.out:=(dnum_same hnum).2.1;have hnu:u2.out.length≤1000000:=by rw [huo];exact hnv
         have H:=Hi (H1.out.trans (show _=(true,u2.put ⟨3,name,op,2,v1,0,u1,⟨#[]⟩⟩) by rw [hnum]))
         have hnum2:=Hi hnum;clear H1 huo hnum;have hnum:=hnum2;go_wp2_with fail;refine cn.out.mono ?_;intro e w10 hp;rw [numPost_some hnum.out] at hp;obtain ⟨rfl,T10⟩:=hp;have T10:=Hi T10;go_upto_region 28 with fail;have T11:DtAt w w10 M g cap l u2 vn B ⟨3,name,op,2,v1,0,u1,⟨#[]⟩⟩:=T10.out;clear T10 cn hnum;have z0:w10.cell? ⟨B,0,none⟩=some (.string name):=T11.T.cell 0;have z1:w10.cell? ⟨B,1,none⟩=some (.int .i64 op):=T11.T.cell 1;have z2:w10.cell? ⟨B,2,none⟩=some (.int .i64 2):=T11.T.cell 2;have z3:w10.cell? ⟨B,3,none⟩=some (.int .i64 v1):=T11.T.cell 3;have z4:w10.cell? ⟨B,4,none⟩=some (.int .i64 0):=T11.T.cell 4;have z5:w10.cell? ⟨B,5,none⟩=some (.int .i64 u1):=T11.T.cell 5;have z6:w10.cell? ⟨B,6,none⟩=some (.string ⟨#[]⟩):=T11.T.cell 6;have cput:=Hi (x_put T11.P 3 name op 2 v1 0 u1 ⟨#[]⟩ hnu);have hb5:=Hi T11.b0;clear T11;go_wp2_with fail;refine cput.out.mono ?_;rintro e w6 ⟨rfl,hb6,vn6,P6⟩;have hP6:=Hi P6;clear P6 cput z0 z1 z2 z3 z4 z5 z6;go_wp2_with fail;go_ret;rw [H.out];exact ⟨rfl,hb5.out.trans hb6,vn6,hP6.out⟩
     ·have hb7:B7=false:=by rw [← hB7.out];exact decide_eq_false ho
      subst hb7;have H:=Hi (H0.out.trans ((if_neg (fun h=>ho h.1)).trans (if_neg (fun h=>ho h.1))))
      clear H0 cs;go_upto_region 28 with fail;have T7:=hT5.out;clear hT5;have z0:W5.cell? ⟨B,0,none⟩=some (.string name):=T7.T.cell 0;have z1:W5.cell? ⟨B,1,none⟩=some (.int .i64 op):=T7.T.cell 1;have z2:W5.cell? ⟨B,2,none⟩=some (.int .i64 1):=T7.T.cell 2;have z3:W5.cell? ⟨B,3,none⟩=some (.int .i64 v1):=T7.T.cell 3;have z4:W5.cell? ⟨B,4,none⟩=some (.int .i64 0):=T7.T.cell 4;have z5:W5.cell? ⟨B,5,none⟩=some (.int .i64 0):=T7.T.cell 5;have z6:W5.cell? ⟨B,6,none⟩=some (.string ⟨#[]⟩):=T7.T.cell 6;have cput:=Hi (x_put T7.P 3 name op 1 v1 0 0 ⟨#[]⟩ hnv);have hb5:=Hi T7.b0;clear T7;go_wp2_with fail;refine cput.out.mono ?_;rintro e w6 ⟨rfl,hb6,vn6,P6⟩;have hP6:=Hi P6;clear P6 cput z0 z1 z2 z3 z4 z5 z6;go_wp2_with fail;go_ret;rw [H.out];exact ⟨rfl,hb5.out.trans hb6,vn6,hP6.out⟩
theorem x_test {w:World}{M g cap:Nat}{l:List Tk}{d:Ds}{vn:Value}(P:DsAt w M g cap l d vn)(hE:EnvOn M w)(hG:∀ t∈l,TokG t)(hL:Lined l)(hl:d.at_<l.length)(hll:l.length≤1000000)(hn:d.out.length≤1000000)(name:ByteArray) :
  Calls Tryz.prog 230 #[.pointer (some ⟨M,0,none⟩),.string name] w fun e w'=>DbPost w M g cap l (d.test l name) e w':=by
 by_cases h0:opS l d.at_=0
 ·exact x_test_no P hE hG hL hl hll hn name h0
 by_cases hC:opS l d.at_≤2∧kindIs l (d.at_+1) 5=true
 ·exact x_test_pat P hE hG hL hl hll hn name h0 hC.1 hC.2
 ·exact x_test_num P hE hG hL hl hll hn name h0 hC
end Go.Proofs.YtjokciofeicdkaaGreatDoor
