/- A part of the proof of RunParses: ExE ExF ExG ExH ExI. -/
import Derived.Test.YtjokciofeicdkaaGreatDoorPR
import Derived.Test.YtjokciofeicdkaaGreatDoorPT
set_option maxHeartbeats 16000000
set_option maxRecDepth 100000
set_option linter.all false
namespace Go.Proofs.YtjokciofeicdkaaGreatDoor
open Go.RowKit
attribute [local go_sem ↓] Go.wp_at_zero Go.wp_at_succ
def FacIH (M g cap:Nat)(l:List Tk)(n:Nat):Prop:=∀ (w:World) (d:Ds) (vn:Value),DsAt w M g cap l d vn→EnvOn M w→needD l .fac d≤n→d.at_<l.length→Wt 0 d →
 Calls Tryz.prog 218 #[.pointer (some ⟨M,0,none⟩)] w fun e w'=>DbPost w M g cap l (dsc l n .fac d) e w'
def AndIH (M g cap:Nat)(l:List Tk)(n:Nat):Prop:=∀ (w:World) (d:Ds) (vn:Value),DsAt w M g cap l d vn→EnvOn M w→needD l .and d≤n→d.at_<l.length→Wt 0 d →
 Calls Tryz.prog 204 #[.pointer (some ⟨M,0,none⟩)] w fun e w'=>DbPost w M g cap l (dsc l n .and d) e w'
def OrIH (M g cap:Nat)(l:List Tk)(n:Nat):Prop:=∀ (w:World) (d:Ds) (vn:Value),DsAt w M g cap l d vn→EnvOn M w→needD l .or d≤n→d.at_<l.length→Wt 0 d →
 Calls Tryz.prog 182 #[.pointer (some ⟨M,0,none⟩)] w fun e w'=>DbPost w M g cap l (dsc l n .or d) e w'
theorem makes_bad {d:Ds}(h:64≤d.made):d.makes=d.fail 51:=if_pos h
theorem makes_ok {d:Ds}(h:¬ 64≤d.made):d.makes=(true,{ d with made:=d.made+1 }):=if_neg h
theorem dfac_not {l:List Tk}{n:Nat}{d:Ds}(h1:sgn l d.at_ sNot=true)(h32:¬ 32≤d.opn)(h64:¬ 64≤d.made){x:Bool×Ds}(hx:dsc l n .fac { d with at_:=d.at_+1,made:=d.made+1,opn:=d.opn+1 }=x) :
  dsc l (n+1) .fac d=if x.1=true then (true,Ds.put { x.2 with opn:=x.2.opn-1 } (Nd.of 4)) else x:=by
 rw [dsc,if_pos h1,if_neg h32,if_neg h64];dsimp only;rw [hx]
theorem dfac_open {l:List Tk}{n:Nat}{d:Ds}(h0:sgn l d.at_ sNot=false)(h1:sgn l d.at_ sOpen=true)(h32:¬ 32≤d.opn){x:Bool×Ds}(hx:dsc l n .or { d with at_:=d.at_+1,opn:=d.opn+1 }=x) :
  dsc l (n+1) .fac d=if x.1=true then (if sgn l x.2.at_ sClose=false then x.2.fail 50 else (true,{ x.2 with at_:=x.2.at_+1,opn:=x.2.opn-1 })) else x:=by
 rw [dsc,if_neg (by rw [h0];decide),if_pos h1,if_neg h32];dsimp only;rw [hx]
theorem x_fac_not {M g cap:Nat}{l:List Tk}{n:Nat}(IH:FacIH M g cap l n)(hL:Lined l)(hll:l.length≤1000000){w:World}{d:Ds}{vn:Value}(P:DsAt w M g cap l d vn)(hE:EnvOn M w)(hN:needD l .fac d≤n+1)(hW:Wt 0 d)(h1:sgn l d.at_ sNot=true) :
  Calls Tryz.prog 218 #[.pointer (some ⟨M,0,none⟩)] w fun e w'=>DbPost w M g cap l (dsc l (n+1) .fac d) e w':=by
 have hs:=Stays.step hL (sgn_kind h1) (by decide)
 have hs1:=hs.1;have hs2:=hs.2.1;have cs:=Hi (x_sign P sNot);have c1:=Hi h1;have hP:=Hi P;have hNd:4*(l.length-d.at_)+1≤n+1:=hN;clear P h1 hs hN
 by_cases h32:32≤d.opn
 ·have H:=Hi (show dsc l (n+1) .fac d=d.fail 53 by rw [dsc,if_pos c1.out,if_pos h32])
  have b32:(d.opn:Int)≥32:=by omega
  clear h32;go_enter Tryz.func218,Tryz.ntmps218;go_upto_region 2 with (go_at_call 205;refine cs.out.mono ?_;rintro e w' ⟨rfl,hq⟩;rw [c1.out]);have P1:=hP.out.qt hq;have q4:=P1.c4;have cf:=Hi (x_fail P1 53);have hb1:=Hi (hq.below M);clear hq P1 cs;go_wp2_with fail;refine cf.out.mono ?_;rintro e w2 ⟨rfl,_,hb2,P2⟩;have hP2:=Hi P2;clear P2 cf;go_wp2_with fail;go_ret;rw [H.out];exact ⟨rfl,hb1.out.trans hb2,vn,hP2.out⟩
 have b32:¬ (d.opn:Int)≥32:=by omega
 by_cases h64:64≤d.made
 ·have H:=Hi (show dsc l (n+1) .fac d=d.fail 51 by rw [dsc,if_pos c1.out,if_neg h32,if_pos h64])
  have hmk:=Hi (makes_bad h64);clear h32 h64;go_enter Tryz.func218,Tryz.ntmps218;go_upto_region 2 with (go_at_call 205;refine cs.out.mono ?_;rintro e w' ⟨rfl,hq⟩;rw [c1.out]);have P1:=hP.out.qt hq;have q4:=P1.c4;have cf:=x_makes P1;rw [hmk.out] at cf;have cf:=Hi cf;have hb1:=Hi (hq.below M);clear hq P1 cs;go_wp2_with fail;refine cf.out.mono ?_;rintro e w2 ⟨rfl,hb2,vn2,P2⟩;have hP2:=Hi P2;clear P2 cf;go_wp2_with fail;go_ret;rw [H.out];exact ⟨rfl,hb1.out.trans hb2,vn2,hP2.out⟩
 have hmk:=Hi (makes_ok h64);obtain ⟨x,hx⟩:∃ x,dsc l n .fac { d with at_:=d.at_+1,made:=d.made+1,opn:=d.opn+1 }=x:=⟨_,rfl⟩
 have H:=Hi (dfac_not c1.out h32 h64 hx);have hsm:=dsc_same l n .fac { d with at_:=d.at_+1,made:=d.made+1,opn:=d.opn+1 };have hWx:=hsm.2 1 (by unfold Wt at hW ⊢;dsimp only;omega)
 have hox:=hsm.1;have hW1:Wt 0 ({ d with at_:=d.at_+1,made:=d.made+1,opn:=d.opn+1 }:Ds):=by unfold Wt at hW ⊢;dsimp only;omega
 have cI:=Hi (fun (w:World) (vn:Value) (P:DsAt w M g cap l { d with at_:=d.at_+1,made:=d.made+1,opn:=d.opn+1 } vn) (hE:EnvOn M w)=>hx▸IH w _ vn P hE (show 4*(l.length-(d.at_+1))+1≤n by omega) hs2 hW1)
 rw [hx] at hWx hox;have hox:=Hi hox;have hWx:=Hi hWx;have h32:=Hi h32;clear hx hsm hW hW1 h64 IH;have bw1:IntKind.i64.wrap ((d.at_:Int)+1)=(d.at_:Int)+1:=IntWalk.i64_in _ (by omega)
 have bw4:IntKind.i64.wrap ((d.opn:Int)+1)=(d.opn:Int)+1:=IntWalk.i64_in _ (by omega)
 go_enter Tryz.func218,Tryz.ntmps218;go_upto_region 2 with (go_at_call 205;refine cs.out.mono ?_;rintro e w' ⟨rfl,hq⟩;rw [c1.out]);have P1:=hP.out.qt hq;have q4:=P1.c4;have cf:=x_makes P1;rw [hmk.out] at cf;have cf:=Hi cf;have hb1:=Hi (hq.below M);clear hq P1 cs hP;go_wp2_with fail;refine cf.out.mono ?_;rintro e w2 ⟨rfl,hb2,vn2,P2⟩;have P2:DsAt w2 M g cap l { d with made:=d.made+1 } vn2:=P2;have hb2:=Hi (hb1.out.trans hb2);have s1:w2.cell? ⟨M,1,none⟩=some (.int .i64 d.at_):=P2.c1;have f1:=P2.free 1;have hP2:=Hi P2;clear P2 cf q4 hb1;go_upto_region 7 with fail;have P3:DsAt (w2.setCell ⟨M,1,none⟩ (.int .i64 ((d.at_:Int)+1))) M g cap l { d with at_:=d.at_+1,made:=d.made+1 } vn2:=hP2.out.setAt (d.at_+1);have hb3:=Hi (hb2.out.setCell (p:=⟨M,1,none⟩) (Nat.le_refl M) (.int .i64 ((d.at_:Int)+1)));clear hP2 s1 f1 hb2;generalize w2.setCell ⟨M,1,none⟩ (.int .i64 ((d.at_:Int)+1))=w3 at P3 hb3 ⊢;have s4:w3.cell? ⟨M,4,none⟩=some (.int .i64 d.opn):=P3.c4;have f4:=P3.free 4;have hP3:=Hi P3;clear P3;go_upto_region 8 with fail;have P4:DsAt (w3.setCell ⟨M,4,none⟩ (.int .i64 ((d.opn:Int)+1))) M g cap l { d with at_:=d.at_+1,made:=d.made+1,opn:=d.opn+1 } vn2:=hP3.out.setOpn (d.opn+1);have hb4:=hb3.out.setCell (p:=⟨M,4,none⟩) (Nat.le_refl M) (.int .i64 ((d.opn:Int)+1));clear hP3 s4 f4 hb3;generalize w3.setCell ⟨M,4,none⟩ (.int .i64 ((d.opn:Int)+1))=w4 at P4 hb4 ⊢;have cR:=Hi (cI.out w4 vn2 P4 (hE.next hb4))
 have hb4:=Hi hb4;obtain ⟨b,d5⟩:=x;clear P4 cI;go_wp2_with fail;refine cR.out.mono ?_;rintro e w5 ⟨rfl,hb5,vn5,P5⟩;have P5:DsAt w5 M g cap l d5 vn5:=P5;have hb5:=Hi (hb4.out.trans hb5);clear cR hb4
 cases b with
 | false=>
   have hP5:=Hi P5;clear P5;go_wp2_with fail;go_ret;rw [H.out];exact ⟨rfl,hb5.out,vn5,hP5.out⟩
 | true=>
   have ho5:d5.opn=d.opn+1:=hox.out rfl;have s4:w5.cell? ⟨M,4,none⟩=some (.int .i64 ((d.opn:Int)+1)):=by have:=P5.c4;rw [ho5] at this;exact this
   have f4:=P5.free 4;have hP5:=Hi P5;have bw5:IntKind.i64.wrap ((d.opn:Int)+1-1)=(d.opn:Int):=(congrArg _ (by omega)).trans (IntWalk.i64_in _ (by have:=h32.out;omega))
   have bw6:IntKind.i64.wrap (d.opn:Int)=(d.opn:Int):=IntWalk.i64_in _ (by have:=h32.out;omega)
   have ho5:=Hi ho5;clear P5;go_upto_region 11 with fail
   have P6:DsAt (w5.setCell ⟨M,4,none⟩ (.int .i64 (d.opn:Int))) M g cap l { d5 with opn:=d5.opn-1 } vn5:=by
    have:=hP5.out.setOpn d.opn;rw [show d5.opn-1=d.opn by rw [ho5.out];rfl];exact this
   have hb6:=hb5.out.setCell (p:=⟨M,4,none⟩) (Nat.le_refl M) (.int .i64 (d.opn:Int));clear hP5 s4 f4 hb5;generalize w5.setCell ⟨M,4,none⟩ (.int .i64 (d.opn:Int))=w6 at P6 hb6 ⊢;have hWo:=hWx.out.out;have cp:=Hi (x_put P6 4 ⟨#[]⟩ 0 0 0 0 0 ⟨#[]⟩ (by show d5.out.length≤_;have:d5.out.length≤64:=hWo;omega))
   have hb6:=Hi hb6;clear P6 hWo;go_wp2_with fail;refine cp.out.mono ?_;rintro e w7 ⟨rfl,hb7,vn7,P7⟩;have hP7:=Hi P7;clear P7 cp;go_wp2_with fail;go_ret;rw [H.out];exact ⟨rfl,hb6.out.trans hb7,vn7,hP7.out⟩
theorem x_fac_open {M g cap:Nat}{l:List Tk}{n:Nat}(IH:OrIH M g cap l n)(hL:Lined l)(hll:l.length≤1000000){w:World}{d:Ds}{vn:Value}(P:DsAt w M g cap l d vn)(hE:EnvOn M w)(hN:needD l .fac d≤n+1)(hW:Wt 0 d)(h0:sgn l d.at_ sNot=false)(h1:sgn l d.at_ sOpen=true) :
  Calls Tryz.prog 218 #[.pointer (some ⟨M,0,none⟩)] w fun e w'=>DbPost w M g cap l (dsc l (n+1) .fac d) e w':=by
 have hs:=Stays.step hL (sgn_kind h1) (by decide)
 have hs1:=hs.1;have hs2:=hs.2.1;have cs:=Hi (fun (w:World) (P:DsAt w M g cap l d vn)=>x_sign P)
 have c0:=Hi h0;have c1:=Hi h1;have hP:=Hi P;have hNd:4*(l.length-d.at_)+1≤n+1:=hN;clear P h1 h0 hs hN
 by_cases h32:32≤d.opn
 ·have H:=Hi (show dsc l (n+1) .fac d=d.fail 53 by rw [dsc,if_neg (by rw [c0.out];decide),if_pos c1.out,if_pos h32])
  have b32:(d.opn:Int)≥32:=by omega
  clear h32;go_enter Tryz.func218,Tryz.ntmps218;go_upto_region 12 with (go_at_call 205;refine (cs.out _ hP.out _).mono ?_;rintro e w' ⟨rfl,hq⟩;rw [c0.out]);have P1:=hP.out.qt hq;have hP1:=Hi P1;have hb1:=Hi (hq.below M);clear hq P1;go_upto_region 13 with (go_at_call 205;refine (cs.out _ hP1.out _).mono ?_;rintro e w2 ⟨rfl,hq⟩;rw [c1.out]);have P1:=hP1.out.qt hq;have q4:=P1.c4;have cf:=Hi (x_fail P1 53);have hb1:=Hi (hb1.out.trans (hq.below M));clear hq P1 cs hP1;go_wp2_with fail;refine cf.out.mono ?_;rintro e w2 ⟨rfl,_,hb2,P2⟩;have hP2:=Hi P2;clear P2 cf;go_wp2_with fail;go_ret;rw [H.out];exact ⟨rfl,hb1.out.trans hb2,vn,hP2.out⟩
 have b32:¬ (d.opn:Int)≥32:=by omega
 obtain ⟨x,hx⟩:∃ x,dsc l n .or { d with at_:=d.at_+1,opn:=d.opn+1 }=x:=⟨_,rfl⟩
 have H:=Hi (dfac_open c0.out c1.out h32 hx);have hsm:=dsc_same l n .or { d with at_:=d.at_+1,opn:=d.opn+1 };have hox:=hsm.1;have hW1:Wt 0 ({ d with at_:=d.at_+1,opn:=d.opn+1 }:Ds):=hW;have hst:=dsc_in hL n .or { d with at_:=d.at_+1,opn:=d.opn+1 } hs2;have cI:=Hi (fun (w:World) (vn:Value) (P:DsAt w M g cap l { d with at_:=d.at_+1,opn:=d.opn+1 } vn) (hE:EnvOn M w)=>hx▸IH w _ vn P hE (show 4*(l.length-(d.at_+1))+3≤n by omega) hs2 hW1)
 rw [hx] at hox hst;have hxl:x.2.at_<l.length:=hst.2.1;have hox:=Hi hox;have h32:=Hi h32;clear hx hsm hW hW1 hst IH;have bw1:IntKind.i64.wrap ((d.at_:Int)+1)=(d.at_:Int)+1:=IntWalk.i64_in _ (by omega)
 have bw4:IntKind.i64.wrap ((d.opn:Int)+1)=(d.opn:Int)+1:=IntWalk.i64_in _ (by have:=h32.out;omega)
 go_enter Tryz.func218,Tryz.ntmps218;go_upto_region 12 with (go_at_call 205;refine (cs.out _ hP.out _).mono ?_;rintro e w' ⟨rfl,hq⟩;rw [c0.out]);have P1:=hP.out.qt hq;have hP1:=Hi P1;have hb1:=Hi (hq.below M);clear hq P1 hP;go_upto_region 13 with (go_at_call 205;refine (cs.out _ hP1.out _).mono ?_;rintro e w2 ⟨rfl,hq⟩;rw [c1.out]);have P2:=hP1.out.qt hq;have q4:=P2.c4;have hb2:=Hi (hb1.out.trans (hq.below M));have s1:w2.cell? ⟨M,1,none⟩=some (.int .i64 d.at_):=P2.c1;have f1:=P2.free 1;have hP2:=Hi P2;clear hq P2 cs hP1 hb1;go_upto_region 16 with fail;have P3:DsAt (w2.setCell ⟨M,1,none⟩ (.int .i64 ((d.at_:Int)+1))) M g cap l { d with at_:=d.at_+1 } vn:=hP2.out.setAt (d.at_+1);have hb3:=Hi (hb2.out.setCell (p:=⟨M,1,none⟩) (Nat.le_refl M) (.int .i64 ((d.at_:Int)+1)));clear hP2 s1 f1 hb2 q4;generalize w2.setCell ⟨M,1,none⟩ (.int .i64 ((d.at_:Int)+1))=w3 at P3 hb3 ⊢;have s4:w3.cell? ⟨M,4,none⟩=some (.int .i64 d.opn):=P3.c4;have f4:=P3.free 4;have hP3:=Hi P3;clear P3;go_upto_region 17 with fail;have P4:DsAt (w3.setCell ⟨M,4,none⟩ (.int .i64 ((d.opn:Int)+1))) M g cap l { d with at_:=d.at_+1,opn:=d.opn+1 } vn:=hP3.out.setOpn (d.opn+1);have hb4:=hb3.out.setCell (p:=⟨M,4,none⟩) (Nat.le_refl M) (.int .i64 ((d.opn:Int)+1));clear hP3 s4 f4 hb3;generalize w3.setCell ⟨M,4,none⟩ (.int .i64 ((d.opn:Int)+1))=w4 at P4 hb4 ⊢;have cR:=Hi (cI.out w4 vn P4 (hE.next hb4))
 have hb4:=Hi hb4;obtain ⟨b,d5⟩:=x;clear P4 cI;go_wp2_with fail;refine cR.out.mono ?_;rintro e w5 ⟨rfl,hb5,vn5,P5⟩;have P5:DsAt w5 M g cap l d5 vn5:=P5;have hb5:=Hi (hb4.out.trans hb5);clear cR hb4
 cases b with
 | false=>
   have hP5:=Hi P5;clear P5;go_wp2_with fail;go_ret;rw [H.out];exact ⟨rfl,hb5.out,vn5,hP5.out⟩
 | true=>
   have ho5:d5.opn=d.opn+1:=hox.out rfl;have H1:=Hi (H.out.trans (if_pos rfl));have cs:=Hi (x_sign P5 sClose);have hP5:=Hi P5;have hxl:d5.at_<l.length:=hxl;have ho5:=Hi ho5;clear P5 H
   cases hc:sgn l d5.at_ sClose with
   | false=>
     have H2:=Hi (H1.out.trans (if_pos hc));have hc2:=Hi hc;clear hc H1;go_upto_region 20 with (go_at_call 205;refine cs.out.mono ?_;rintro e w6 ⟨rfl,hq⟩;rw [hc2.out]);have P6:=hP5.out.qt hq;have cf:=Hi (x_fail P6 50);have hb6:=Hi (hb5.out.trans (hq.below M));clear hq P6 cs hP5;go_wp2_with fail;refine cf.out.mono ?_;rintro e w7 ⟨rfl,_,hb7,P7⟩;have hP7:=Hi P7;clear P7 cf;go_wp2_with fail;go_ret;rw [H2.out];exact ⟨rfl,hb6.out.trans hb7,vn5,hP7.out⟩
   | true=>
     have H2:=Hi (H1.out.trans (if_neg (by rw [hc];decide)))
     have hc2:=Hi hc;have bw5:IntKind.i64.wrap ((d5.at_:Int)+1)=(d5.at_:Int)+1:=IntWalk.i64_in _ (by omega)
     clear hc H1;go_upto_region 21 with (go_at_call 205;refine cs.out.mono ?_;rintro e w6 ⟨rfl,hq⟩;rw [hc2.out]);have P6:=hP5.out.qt hq;have hb6:=Hi (hb5.out.trans (hq.below M));have s1:w6.cell? ⟨M,1,none⟩=some (.int .i64 d5.at_):=P6.c1;have f1:=P6.free 1;have hP6:=Hi P6;clear hq P6 cs hP5 hb5;go_upto_region 22 with fail;have P7:DsAt (w6.setCell ⟨M,1,none⟩ (.int .i64 ((d5.at_:Int)+1))) M g cap l { d5 with at_:=d5.at_+1 } vn5:=hP6.out.setAt (d5.at_+1);have hb7:=Hi (hb6.out.setCell (p:=⟨M,1,none⟩) (Nat.le_refl M) (.int .i64 ((d5.at_:Int)+1)));clear hP6 s1 f1 hb6;generalize w6.setCell ⟨M,1,none⟩ (.int .i64 ((d5.at_:Int)+1))=w7 at P7 hb7 ⊢;have s4:w7.cell? ⟨M,4,none⟩=some (.int .i64 ((d.opn:Int)+1)):=by have:=P7.c4;rw [show ({ d5 with at_:=d5.at_+1 }:Ds).opn=d.opn+1 from ho5.out] at this;exact this
     have f4:=P7.free 4;have hP7:=Hi P7;have bw8:IntKind.i64.wrap ((d.opn:Int)+1-1)=(d.opn:Int):=(congrArg _ (by omega)).trans (IntWalk.i64_in _ (by have:=h32.out;omega))
     have bw6:IntKind.i64.wrap (d.opn:Int)=(d.opn:Int):=IntWalk.i64_in _ (by have:=h32.out;omega)
     clear P7;go_wp2_with fail;go_ret;rw [H2.out];refine ⟨rfl,hb7.out.setCell (p:=⟨M,4,none⟩) (Nat.le_refl M) _,vn5,?_⟩;have:=hP7.out.setOpn d.opn;rw [show d5.opn-1=d.opn by rw [ho5.out];rfl];exact this
theorem fac_nosign {l:List Tk}{n:Nat}{d:Ds}(h0:sgn l d.at_ sNot=false)(h1:sgn l d.at_ sOpen=false) :
  dsc l (n+1) .fac d=(if wordAt l d.at_=false then d.fail 50
  else if 64≤d.made then d.fail 51
  else if textAt l d.at_=tAny then (true,Ds.put { d with at_:=d.at_+1,made:=d.made+1 } (Nd.of 1))
  else if textAt l d.at_=tNone then (true,Ds.put { d with at_:=d.at_+1,made:=d.made+1 } (Nd.of 2))
  else Ds.test { d with at_:=d.at_+1,made:=d.made+1 } l (textAt l d.at_)):=by
 rw [dsc,if_neg (by rw [h0];decide),if_neg (by rw [h1];decide)]
theorem x_fac_none {M g cap:Nat}{l:List Tk}{n:Nat}(hG:∀ t∈l,TokG t)(hll:l.length≤1000000){w:World}{d:Ds}{vn:Value}(P:DsAt w M g cap l d vn)(hl:d.at_<l.length)(h0:sgn l d.at_ sNot=false)(h1:sgn l d.at_ sOpen=false)(h2:wordAt l d.at_=false) :
  Calls Tryz.prog 218 #[.pointer (some ⟨M,0,none⟩)] w fun e w'=>DbPost w M g cap l (dsc l (n+1) .fac d) e w':=by
 have H:=Hi ((fac_nosign (n:=n) h0 h1).trans (if_pos h2));have cs:=Hi (fun (w:World) (P:DsAt w M g cap l d vn)=>x_sign P)
 have ht:l[d.at_]?=some l[d.at_]:=List.getElem?_eq_getElem hl;have hgt:=hG _ (List.getElem_mem hl)
 have hk:l[d.at_].kind≠2:=by
  intro hk;unfold wordAt kindIs textAt at h2;rw [ht] at h2;simp only [hk,hgt.2.1 hk] at h2
  cases h2
 generalize l[d.at_]=t at ht hgt hk;have bk:(t.kind != 2)=true:=by simpa using hk
 have c1:decide (l.length≤d.at_)=false:=by rw [decide_eq_false_iff_not];omega
 have c2:(d.at_:Int)<(l.length:Int):=by omega
 have c3:(0:Int)≤(d.at_:Int):=by omega
 have c0:=Hi h0;have d1:=Hi h1;have hP:=Hi P;have ht:=Hi ht;clear P h1 h0 h2 hgt hk;go_enter Tryz.func218,Tryz.ntmps218;go_upto_region 12 with (go_at_call 205;refine (cs.out _ hP.out _).mono ?_;rintro e w' ⟨rfl,hq⟩;rw [c0.out]);have P1:=hP.out.qt hq;have hP1:=Hi P1;have hb1:=Hi (hq.below M);clear hq P1;go_upto_region 24 with (go_at_call 205;refine (cs.out _ hP1.out _).mono ?_;rintro e w2 ⟨rfl,hq⟩;rw [d1.out]);have P1:=hP1.out.qt hq;have q0:=P1.c0;have q1:=P1.c1;have e0:w2.cell? ⟨g,d.at_*4,none⟩=some (.int .i64 t.kind):=P1.toks.2 d.at_ t ht.out 0 _ rfl;have cf:=Hi (fun (W:World) (hq:Qt w2 W)=>x_fail (P1.qt hq) 50)
 have hb1:=Hi (hb1.out.trans (hq.below M));clear hq P1 cs hP1;go_quiet (fail);go_wp2_with fail;refine (cf.out _ (Qt.self w2 _)).mono ?_;rintro e w3 ⟨rfl,_,hb2,P2⟩;have hP2:=Hi P2;clear P2 cf;go_wp2_with fail;go_ret;rw [H.out];exact ⟨rfl,hb1.out.trans (((Qt.self w2 _).below M).trans hb2),vn,hP2.out⟩
theorem x_fac_word {M g cap:Nat}{l:List Tk}{n:Nat}(hG:∀ t∈l,TokG t)(hL:Lined l)(hll:l.length≤1000000){w:World}{d:Ds}{vn:Value}(P:DsAt w M g cap l d vn)(hE:EnvOn M w)(hW:Wt 0 d)(h0:sgn l d.at_ sNot=false)(h1:sgn l d.at_ sOpen=false)(h2:wordAt l d.at_=true) :
  Calls Tryz.prog 218 #[.pointer (some ⟨M,0,none⟩)] w fun e w'=>DbPost w M g cap l (dsc l (n+1) .fac d) e w':=by
 have H0:=Hi ((fac_nosign (n:=n) h0 h1).trans (if_neg (by rw [h2];decide)))
 have hs:=Stays.step hL (word_kind h2) (by decide)
 have cs:=Hi (fun (w:World) (P:DsAt w M g cap l d vn)=>x_sign P)
 obtain ⟨t,ht,hk,hnm,htx,hi⟩:=word_at h2;have hsz:=(hG t (List.mem_of_getElem? ht)).2.2.2.2.1;have bk:(t.kind != 2)=false:=by rw [hk];rfl
 have c1:decide (l.length≤d.at_)=false:=by rw [decide_eq_false_iff_not];omega
 have c2:(d.at_:Int)<(l.length:Int):=by omega
 have c3:(0:Int)≤(d.at_:Int):=by omega
 have c0:=Hi h0;have d1:=Hi h1;have hP:=Hi P;have ht:=Hi ht;have hs2:=hs.2.1;have hEn:=hE;have cn:=Hi (fun (W:World) (E:Env W)=>show Calls Tryz.prog 229 #[.string t.text] W fun e w'=>e=.returned (.bool true)∧Below W.heap.size W w' from hnm▸x_isName t.text (by omega) W E)
 rw [htx] at H0;have hGG:=Hi hG;have hLL:=Hi hL;have hWW:=Hi hW;rename_i ht9;clear P h1 h0 h2 hk hnm htx hs hsz hi hG hL hW;clear ht9;go_enter Tryz.func218,Tryz.ntmps218;go_upto_region 12 with (go_at_call 205;refine (cs.out _ hP.out _).mono ?_;rintro e w' ⟨rfl,hq⟩;rw [c0.out]);have P1:=hP.out.qt hq;have hP1:=Hi P1;have hb1:=Hi (hq.below M);clear hq P1;go_upto_region 24 with (go_at_call 205;refine (cs.out _ hP1.out _).mono ?_;rintro e w2 ⟨rfl,hq⟩;rw [d1.out]);have P1:=hP1.out.qt hq;have q0:=P1.c0;have q1:=P1.c1;have e0:w2.cell? ⟨g,d.at_*4,none⟩=some (.int .i64 t.kind):=P1.toks.2 d.at_ t ht.out 0 _ rfl;have e1:w2.cell? ⟨g,d.at_*4+1,none⟩=some (.string t.text):=P1.toks.2 d.at_ t ht.out 1 _ rfl;have hb2:=Hi (hb1.out.trans (hq.below M));have hMl:=P1.lt;have hgl:=P1.toks.1;have hP2:=Hi P1;have hE2:=hE.next hb2.out
 clear hq P1 cs hP1 hb1
 go_region_held3 (fun W=>W.cell? ⟨M,0,none⟩=some (tokV g cap l)∧W.cell? ⟨M,1,none⟩=some (.int .i64 d.at_)∧W.cell? ⟨g,d.at_*4,none⟩=some (.int .i64 t.kind)∧W.cell? ⟨g,d.at_*4+1,none⟩=some (.string t.text)) (first|exact hHeld|exact ⟨q0,q1,e0,e1⟩|exact ⟨(hbz.cell (p:=⟨M,0,none⟩) hMl).trans q0,(hbz.cell (p:=⟨M,1,none⟩) hMl).trans q1,(hbz.cell (p:=⟨g,d.at_*4,none⟩) hgl).trans e0,(hbz.cell (p:=⟨g,d.at_*4+1,none⟩) hgl).trans e1⟩|fail) ((go_simp;go_at_call 229;refine (cn.out _ (hE2.next ((Qt.self w2 1).below M)).env).mono ?_;rintro e wz ⟨rfl,hbz⟩;go_wp2_with fail))
 (try clear hHeld)
 have P3:=(hP2.out.qt (Qt.self w2 1)).up hbz;have hb3:=hb2.out.trans (((Qt.self w2 1).below M).trans (hbz.mono (Nat.le_of_lt hMl)));have hE3:=hE.next hb3
 have cm:=Hi (x_makes P3);have hb3:=Hi hb3;clear hbz q0 q1 e0 e1 hMl hgl hP2 hb2 hE2 cn P3
 by_cases h64:64≤d.made
 ·have H:=Hi (H0.out.trans (if_pos h64));have cm:=cm.out;rw [makes_bad h64] at cm;have cm:=Hi cm;clear h64 H0;go_wp2_with fail;refine cm.out.mono ?_;rintro e w4 ⟨rfl,hb4,vn4,P4⟩;have hP4:=Hi P4;clear P4 cm;go_wp2_with fail;go_ret;rw [H.out];exact ⟨rfl,hb3.out.trans hb4,vn4,hP4.out⟩
 have H1:=Hi (H0.out.trans (if_neg h64));have cm:=cm.out;rw [makes_ok h64] at cm;have cm:=Hi cm;clear h64 H0;go_wp2_with fail;refine cm.out.mono ?_;rintro e w4 ⟨rfl,hb4,vn4,P4⟩;have P4:DsAt w4 M g cap l { d with made:=d.made+1 } vn4:=P4;have hb4:=Hi (hb3.out.trans hb4);have q0:=P4.c0;have q1:w4.cell? ⟨M,1,none⟩=some (.int .i64 d.at_):=P4.c1;have e1:w4.cell? ⟨g,d.at_*4+1,none⟩=some (.string t.text):=P4.toks.2 d.at_ t ht.out 1 _ rfl;have hP4:=Hi P4;clear P4 cm hb3;go_wp2_with fail;go_quiet (fail);have P5:=hP4.out.qt (Qt.self w4 nq);have hb5:=Hi (hb4.out.trans ((Qt.self w4 nq).below M));have f1:=P5.free 1;have q1:(w4.drewN nq).cell? ⟨M,1,none⟩=some (.int .i64 d.at_):=P5.c1;have hP5:=Hi P5;have bw1:IntKind.i64.wrap ((d.at_:Int)+1)=(d.at_:Int)+1:=IntWalk.i64_in _ (by omega)
 clear P5 q0 e1 hP4 hb4;generalize w4.drewN nq=w5 at hP5 hb5 f1 q1 ⊢;go_upto_region 30 with fail;have P6:DsAt (w5.setCell ⟨M,1,none⟩ (.int .i64 ((d.at_:Int)+1))) M g cap l { d with at_:=d.at_+1,made:=d.made+1 } vn4:=hP5.out.setAt (d.at_+1);have hb6:=hb5.out.setCell (p:=⟨M,1,none⟩) (Nat.le_refl M) (.int .i64 ((d.at_:Int)+1));clear hP5 f1 q1 hb5;generalize w5.setCell ⟨M,1,none⟩ (.int .i64 ((d.at_:Int)+1))=w6 at P6 hb6 ⊢;have hE6:=hE.next hb6
 have hb6:=Hi hb6;have hon:d.out.length≤1000000:=by have:=hWW.out.out;omega
 by_cases hA:t.text=tAny
 ·have H:=Hi (H1.out.trans (if_pos hA));have bA:(t.text.toList == [97,110,121])=true:=by rw [any_eq,hA];rfl
  have cp:=Hi (x_put P6 1 ⟨#[]⟩ 0 0 0 0 0 ⟨#[]⟩ hon);have Hx:=Hi hA;clear P6 hA H1;go_wp2_with fail;refine cp.out.mono ?_;rintro e w7 ⟨rfl,hb7,vn7,P7⟩;have hP7:=Hi P7;clear P7 cp;go_wp2_with fail;go_ret;rw [H.out];exact ⟨rfl,hb6.out.trans hb7,vn7,hP7.out⟩
 have H2:=Hi (H1.out.trans (if_neg hA));have bA:(t.text.toList == [97,110,121])=false:=by rw [any_eq];exact decide_eq_false hA
 by_cases hN:t.text=tNone
 ·have H:=Hi (H2.out.trans (if_pos hN));have bN:(t.text.toList == [110,111,110,101])=true:=by rw [none_eq,hN];rfl
  have cp:=Hi (x_put P6 2 ⟨#[]⟩ 0 0 0 0 0 ⟨#[]⟩ hon);clear P6 hA hN H1 H2;go_wp2_with fail;refine cp.out.mono ?_;rintro e w7 ⟨rfl,hb7,vn7,P7⟩;have hP7:=Hi P7;clear P7 cp;go_wp2_with fail;go_ret;rw [H.out];exact ⟨rfl,hb6.out.trans hb7,vn7,hP7.out⟩
 ·have H:=Hi (H2.out.trans (if_neg hN));have bN:(t.text.toList == [110,111,110,101])=false:=by rw [none_eq];exact decide_eq_false hN
  have cp:=Hi (x_test P6 hE6 hGG.out hLL.out hs2 hll hon t.text);clear P6 hA hN H1 H2;go_wp2_with fail;refine cp.out.mono ?_;rintro e w7 ⟨rfl,hb7,vn7,P7⟩;have hP7:=Hi P7;clear P7 cp;go_wp2_with fail;go_ret;rw [H.out];exact ⟨rfl,hb6.out.trans hb7,vn7,hP7.out⟩
theorem fac_step {M g cap:Nat}{l:List Tk}{n:Nat}(hF:FacIH M g cap l n)(hO:OrIH M g cap l n)(hG:∀ t∈l,TokG t)(hL:Lined l)(hll:l.length≤1000000):FacIH M g cap l (n+1):=by
 intro w d vn P hE hN hl hW
 cases a:sgn l d.at_ sNot
 rotate_left
 ·exact x_fac_not hF hL hll P hE hN hW a
 cases b:sgn l d.at_ sOpen
 rotate_left
 ·exact x_fac_open hO hL hll P hE hN hW a b
 cases c:wordAt l d.at_
 ·exact x_fac_none hG hll P hl a b c
 ·exact x_fac_word hG hL hll P hE hW a b c
theorem and_tail {l:List Tk}{f:Nat}{d:Ds}(h:sgn l d.at_ sAnd=false):dsc l (f+1) .andT d=(true,d):=by rw [dsc,if_neg (by rw [h];decide)]
theorem and_bad {l:List Tk}{f:Nat}{d:Ds}(h:sgn l d.at_ sAnd=true)(h64:64≤d.made):dsc l (f+1) .andT d=d.fail 51:=by rw [dsc,if_pos h,if_pos h64]
theorem and_go {l:List Tk}{f:Nat}{d:Ds}(h:sgn l d.at_ sAnd=true)(h64:¬ 64≤d.made){x:Bool×Ds}(hx:dsc l f .fac { d with at_:=d.at_+1,made:=d.made+1 }=x) :
  dsc l (f+1) .andT d=if x.1=true then dsc l f .andT (x.2.put (Nd.of 5)) else x:=by
 rw [dsc,if_pos h,if_neg h64];dsimp only;rw [hx]
theorem and_step {M g cap:Nat}{l:List Tk}{n:Nat}(hI:∀ k,k≤n→FacIH M g cap l k)(hL:Lined l)(hll:l.length≤1000000):AndIH M g cap l (n+1):=by
 intro w d vn P hE hN hl hW;obtain ⟨x,hx⟩:∃ x,dsc l n .fac d=x:=⟨_,rfl⟩
 have hNd:4*(l.length-d.at_)+2≤n+1:=hN;have cI:=Hi (hx▸hI n (Nat.le_refl n) w d vn P hE (show 4*(l.length-d.at_)+1≤n by omega) hl hW)
 have hst:=dsc_in hL n .fac d hl;have hsm:=(dsc_same l n .fac d).2 0 hW;rw [hx] at hst hsm;have H0:=Hi (show dsc l (n+1) .and d=if x.1=true then dsc l n .andT x.2 else x by rw [dsc,hx])
 have hst1:=hst.1;have hst2:=hst.2.1;have hsm:=Hi hsm;have hII:=Hi hI;have hLL:=Hi hL;clear hx P hst hN hI hL;obtain ⟨b,d1⟩:=x;dsimp only at hst1 hst2;go_enter Tryz.func204,Tryz.ntmps204;go_wp2_with fail;refine cI.out.mono ?_;rintro e w1 ⟨rfl,hb1,vn1,P1⟩;have P1:DsAt w1 M g cap l d1 vn1:=P1
 cases b with
 | false=>
   have hP1:=Hi P1;clear P1 cI;go_wp2_with fail;go_ret;rw [H0.out];exact ⟨rfl,hb1,vn1,hP1.out⟩
 | true=>
   have H:=Hi (H0.out.trans (if_pos rfl));have hP1:=Hi P1;have hb1:=Hi hb1;clear P1 cI H0;go_wp2_with fail
   go_loopw [] (fun wr=>∃ (f:Nat) (d':Ds) (vn':Value),Hid (DsAt wr M g cap l d' vn')∧Hid (dsc l (n+1) .and d=dsc l f .andT d')∧4*(l.length-d'.at_)+1≤f∧d'.at_<l.length∧f≤n∧Hid (Wt 0 d')∧Hid (Below M w wr)) (fun wr=>l.length-atOf14 M wr)
   case atStart=>exact ⟨n,d1,vn1,hP1,H,by omega,hst2,Nat.le_refl n,hsm,hb1⟩
   case round=>
    obtain ⟨f,d',vn',P,R,hf,hlt,hfn,hW',hb⟩:=hrel;obtain ⟨wq,rfl⟩:∃ wq,wq=wr:=⟨_,rfl⟩
    obtain ⟨f,rfl⟩:∃ f',f=f'+1:=⟨f-1,by omega⟩
    have hmu:=Hi (show atOf14 M wq=d'.at_ by unfold atOf14;rw [P.out.c1];rfl)
    have cs:=Hi (x_sign P.out sAnd);clear hP1 H hb1 hsm
    cases hs:sgn l d'.at_ sAnd with
    | false=>
      have H:=Hi (R.out.trans (and_tail hs));have hs2:=Hi hs;clear hs R;go_wp2_with (go_at_call 205;refine cs.out.mono ?_;rintro e w2 ⟨rfl,hq⟩;rw [hs2.out];have hq:=Hi hq);go_ret;rw [H.out];exact ⟨rfl,hb.out.trans (hq.out.below M),vn',P.out.qt hq.out⟩
    | true=>
      have hs2:=Hi hs;have hsp:=Stays.step hLL.out (sgn_kind hs) (by decide)
      have hs3:=hsp.2.1;clear hs hsp;go_upto_region 4 with (go_at_call 205;refine cs.out.mono ?_;rintro e w2 ⟨rfl,hq⟩;rw [hs2.out]);have P2:=P.out.qt hq;have hb2:=Hi (hb.out.trans (hq.below M));have cm:=x_makes P2;clear hq P2 cs P hb
      by_cases h64:64≤d'.made
      ·have H:=Hi (R.out.trans (and_bad hs2.out h64));rw [makes_bad h64] at cm;have cm:=Hi cm;clear R h64;go_wp2_with fail;refine cm.out.mono ?_;rintro e w3 ⟨rfl,hb3,vn3,P3⟩;have hP3:=Hi P3;clear P3 cm;go_wp2_with fail;go_ret;rw [H.out];exact ⟨rfl,hb2.out.trans hb3,vn3,hP3.out⟩
      ·rw [makes_ok h64] at cm;have cm:=Hi cm;obtain ⟨x,hx⟩:∃ x,dsc l f .fac { d' with at_:=d'.at_+1,made:=d'.made+1 }=x:=⟨_,rfl⟩
       have H:=Hi (R.out.trans (and_go hs2.out h64 hx));have hW2:Wt 1 ({ d' with at_:=d'.at_+1,made:=d'.made+1 }:Ds):=by have:=hW'.out;unfold Wt at this ⊢;dsimp only;omega
       have hW3:Wt 0 ({ d' with at_:=d'.at_+1,made:=d'.made+1 }:Ds):=by unfold Wt at hW2 ⊢;omega
       have hst:=dsc_in hLL.out f .fac { d' with at_:=d'.at_+1,made:=d'.made+1 } hs3;have hsm:=(dsc_same l f .fac { d' with at_:=d'.at_+1,made:=d'.made+1 }).2 1 hW2;rw [hx] at hst hsm;have hst1:d'.at_+1≤x.2.at_:=hst.1;have hst2:=hst.2.1;have hsm:=Hi hsm;have cJ:=Hi (fun (W:World) (vn:Value) (P:DsAt W M g cap l { d' with at_:=d'.at_+1,made:=d'.made+1 } vn) (hE:EnvOn M W)=>hx▸hII.out f (by omega) W _ vn P hE (show 4*(l.length-(d'.at_+1))+1≤f by omega) hs3 hW3)
       have bw1:IntKind.i64.wrap ((d'.at_:Int)+1)=(d'.at_:Int)+1:=IntWalk.i64_in _ (by omega)
       clear R h64 hx hW2 hW3 hst hW';obtain ⟨b,d5⟩:=x;dsimp only at hst1 hst2;go_wp2_with fail;refine cm.out.mono ?_;rintro e w3 ⟨rfl,hb3,vn3,P3⟩;have P3:DsAt w3 M g cap l { d' with made:=d'.made+1 } vn3:=P3;have hb3:=Hi (hb2.out.trans hb3);have s1:w3.cell? ⟨M,1,none⟩=some (.int .i64 d'.at_):=P3.c1;have f1:=P3.free 1;have hP3:=Hi P3;clear P3 cm hb2;go_upto_region 7 with fail;have P4:DsAt (w3.setCell ⟨M,1,none⟩ (.int .i64 ((d'.at_:Int)+1))) M g cap l { d' with at_:=d'.at_+1,made:=d'.made+1 } vn3:=hP3.out.setAt (d'.at_+1);have hb4:=hb3.out.setCell (p:=⟨M,1,none⟩) (Nat.le_refl M) (.int .i64 ((d'.at_:Int)+1));clear hP3 s1 f1 hb3;generalize w3.setCell ⟨M,1,none⟩ (.int .i64 ((d'.at_:Int)+1))=w4 at P4 hb4 ⊢;have cR:=Hi (cJ.out w4 vn3 P4 (hE.next hb4))
       have hb4:=Hi hb4;clear P4 cJ;go_wp2_with fail;refine cR.out.mono ?_;rintro e w5 ⟨rfl,hb5,vn5,P5⟩;have P5:DsAt w5 M g cap l d5 vn5:=P5;have hb5:=Hi (hb4.out.trans hb5);clear cR hb4
       cases b with
       | false=>
         have hP5:=Hi P5;clear P5;go_wp2_with fail;go_ret;rw [H.out];exact ⟨rfl,hb5.out,vn5,hP5.out⟩
       | true=>
         have H2:=Hi (H.out.trans (if_pos rfl));have hWo:=hsm.out.out;have cp:=Hi (x_put P5 5 ⟨#[]⟩ 0 0 0 0 0 ⟨#[]⟩ (show d5.out.length≤1000000 from Nat.le_trans hWo (by decide)))
         have hWp:=Hi (Wt.put (d:=d5) hsm.out (Nd.of 5));clear P5 H hWo hsm;go_wp2_with fail;refine cp.out.mono ?_;rintro e w6 ⟨rfl,hb6,vn6,P6⟩;have P6:DsAt w6 M g cap l (d5.put (Nd.of 5)) vn6:=P6;have hmu6:=Hi (show atOf14 M w6=d5.at_ by unfold atOf14;rw [P6.c1];rfl)
         have hP6:=Hi P6;have hb6:=Hi (hb5.out.trans hb6);clear P6 cp hb5;go_wp2_with fail;exact ⟨⟨f,_,vn6,hP6,H2,(show 4*(l.length-d5.at_)+1≤f by omega),hst2,by omega,hWp,hb6⟩,by rw [hmu.out,hmu6.out];omega⟩
theorem or_tail {l:List Tk}{f:Nat}{d:Ds}(h:sgn l d.at_ sOr=false):dsc l (f+1) .orT d=(true,d):=by rw [dsc,if_neg (by rw [h];decide)]
theorem or_bad {l:List Tk}{f:Nat}{d:Ds}(h:sgn l d.at_ sOr=true)(h64:64≤d.made):dsc l (f+1) .orT d=d.fail 51:=by rw [dsc,if_pos h,if_pos h64]
theorem or_go {l:List Tk}{f:Nat}{d:Ds}(h:sgn l d.at_ sOr=true)(h64:¬ 64≤d.made){x:Bool×Ds}(hx:dsc l f .and { d with at_:=d.at_+1,made:=d.made+1 }=x) :
  dsc l (f+1) .orT d=if x.1=true then dsc l f .orT (x.2.put (Nd.of 6)) else x:=by
 rw [dsc,if_pos h,if_neg h64];dsimp only;rw [hx]
theorem or_step {M g cap:Nat}{l:List Tk}{n:Nat}(hI:∀ k,k≤n→AndIH M g cap l k)(hL:Lined l)(hll:l.length≤1000000):OrIH M g cap l (n+1):=by
 intro w d vn P hE hN hl hW;obtain ⟨x,hx⟩:∃ x,dsc l n .and d=x:=⟨_,rfl⟩
 have hNd:4*(l.length-d.at_)+3≤n+1:=hN;have cI:=Hi (hx▸hI n (Nat.le_refl n) w d vn P hE (show 4*(l.length-d.at_)+2≤n by omega) hl hW)
 have hst:=dsc_in hL n .and d hl;have hsm:=(dsc_same l n .and d).2 0 hW;rw [hx] at hst hsm;have H0:=Hi (show dsc l (n+1) .or d=if x.1=true then dsc l n .orT x.2 else x by rw [dsc,hx])
 have hst1:=hst.1;have hst2:=hst.2.1;have hsm:=Hi hsm;have hII:=Hi hI;have hLL:=Hi hL;clear hx P hst hN hI hL;obtain ⟨b,d1⟩:=x;dsimp only at hst1 hst2;go_enter Tryz.func182,Tryz.ntmps182;go_wp2_with fail;refine cI.out.mono ?_;rintro e w1 ⟨rfl,hb1,vn1,P1⟩;have P1:DsAt w1 M g cap l d1 vn1:=P1
 cases b with
 | false=>
   have hP1:=Hi P1;clear P1 cI;go_wp2_with fail;go_ret;rw [H0.out];exact ⟨rfl,hb1,vn1,hP1.out⟩
 | true=>
   have H:=Hi (H0.out.trans (if_pos rfl));have hP1:=Hi P1;have hb1:=Hi hb1;clear P1 cI H0;go_wp2_with fail
   go_loopw [] (fun wr=>∃ (f:Nat) (d':Ds) (vn':Value),Hid (DsAt wr M g cap l d' vn')∧Hid (dsc l (n+1) .or d=dsc l f .orT d')∧4*(l.length-d'.at_)+1≤f∧d'.at_<l.length∧f≤n∧Hid (Wt 0 d')∧Hid (Below M w wr)) (fun wr=>l.length-atOf14 M wr)
   case atStart=>exact ⟨n,d1,vn1,hP1,H,by omega,hst2,Nat.le_refl n,hsm,hb1⟩
   case round=>
    obtain ⟨f,d',vn',P,R,hf,hlt,hfn,hW',hb⟩:=hrel;obtain ⟨wq,rfl⟩:∃ wq,wq=wr:=⟨_,rfl⟩
    obtain ⟨f,rfl⟩:∃ f',f=f'+1:=⟨f-1,by omega⟩
    have hmu:=Hi (show atOf14 M wq=d'.at_ by unfold atOf14;rw [P.out.c1];rfl)
    have cs:=Hi (x_sign P.out sOr);clear hP1 H hb1 hsm
    cases hs:sgn l d'.at_ sOr with
    | false=>
      have H:=Hi (R.out.trans (or_tail hs));have hs2:=Hi hs;clear hs R;go_wp2_with (go_at_call 205;refine cs.out.mono ?_;rintro e w2 ⟨rfl,hq⟩;rw [hs2.out];have hq:=Hi hq);go_ret;rw [H.out];exact ⟨rfl,hb.out.trans (hq.out.below M),vn',P.out.qt hq.out⟩
    | true=>
      have hs2:=Hi hs;have hsp:=Stays.step hLL.out (sgn_kind hs) (by decide)
      have hs3:=hsp.2.1;clear hs hsp;go_upto_region 4 with (go_at_call 205;refine cs.out.mono ?_;rintro e w2 ⟨rfl,hq⟩;rw [hs2.out]);have P2:=P.out.qt hq;have hb2:=Hi (hb.out.trans (hq.below M));have cm:=x_makes P2;clear hq P2 cs P hb
      by_cases h64:64≤d'.made
      ·have H:=Hi (R.out.trans (or_bad hs2.out h64));rw [makes_bad h64] at cm;have cm:=Hi cm;clear R h64;go_wp2_with fail;refine cm.out.mono ?_;rintro e w3 ⟨rfl,hb3,vn3,P3⟩;have hP3:=Hi P3;clear P3 cm;go_wp2_with fail;go_ret;rw [H.out];exact ⟨rfl,hb2.out.trans hb3,vn3,hP3.out⟩
      ·rw [makes_ok h64] at cm;have cm:=Hi cm;obtain ⟨x,hx⟩:∃ x,dsc l f .and { d' with at_:=d'.at_+1,made:=d'.made+1 }=x:=⟨_,rfl⟩
       have H:=Hi (R.out.trans (or_go hs2.out h64 hx));have hW2:Wt 1 ({ d' with at_:=d'.at_+1,made:=d'.made+1 }:Ds):=by have:=hW'.out;unfold Wt at this ⊢;dsimp only;omega
       have hW3:Wt 0 ({ d' with at_:=d'.at_+1,made:=d'.made+1 }:Ds):=by unfold Wt at hW2 ⊢;omega
       have hst:=dsc_in hLL.out f .and { d' with at_:=d'.at_+1,made:=d'.made+1 } hs3;have hsm:=(dsc_same l f .and { d' with at_:=d'.at_+1,made:=d'.made+1 }).2 1 hW2;rw [hx] at hst hsm;have hst1:d'.at_+1≤x.2.at_:=hst.1;have hst2:=hst.2.1;have hsm:=Hi hsm;have cJ:=Hi (fun (W:World) (vn:Value) (P:DsAt W M g cap l { d' with at_:=d'.at_+1,made:=d'.made+1 } vn) (hE:EnvOn M W)=>hx▸hII.out f (by omega) W _ vn P hE (show 4*(l.length-(d'.at_+1))+2≤f by omega) hs3 hW3)
       have bw1:IntKind.i64.wrap ((d'.at_:Int)+1)=(d'.at_:Int)+1:=IntWalk.i64_in _ (by omega)
       clear R h64 hx hW2 hW3 hst hW';obtain ⟨b,d5⟩:=x;dsimp only at hst1 hst2;go_wp2_with fail;refine cm.out.mono ?_;rintro e w3 ⟨rfl,hb3,vn3,P3⟩;have P3:DsAt w3 M g cap l { d' with made:=d'.made+1 } vn3:=P3;have hb3:=Hi (hb2.out.trans hb3);have s1:w3.cell? ⟨M,1,none⟩=some (.int .i64 d'.at_):=P3.c1;have f1:=P3.free 1;have hP3:=Hi P3;clear P3 cm hb2;go_upto_region 7 with fail;have P4:DsAt (w3.setCell ⟨M,1,none⟩ (.int .i64 ((d'.at_:Int)+1))) M g cap l { d' with at_:=d'.at_+1,made:=d'.made+1 } vn3:=hP3.out.setAt (d'.at_+1);have hb4:=hb3.out.setCell (p:=⟨M,1,none⟩) (Nat.le_refl M) (.int .i64 ((d'.at_:Int)+1));clear hP3 s1 f1 hb3;generalize w3.setCell ⟨M,1,none⟩ (.int .i64 ((d'.at_:Int)+1))=w4 at P4 hb4 ⊢;have cR:=Hi (cJ.out w4 vn3 P4 (hE.next hb4))
       have hb4:=Hi hb4;clear P4 cJ;go_wp2_with fail;refine cR.out.mono ?_;rintro e w5 ⟨rfl,hb5,vn5,P5⟩;have P5:DsAt w5 M g cap l d5 vn5:=P5;have hb5:=Hi (hb4.out.trans hb5);clear cR hb4
       cases b with
       | false=>
         have hP5:=Hi P5;clear P5;go_wp2_with fail;go_ret;rw [H.out];exact ⟨rfl,hb5.out,vn5,hP5.out⟩
       | true=>
         have H2:=Hi (H.out.trans (if_pos rfl));have hWo:=hsm.out.out;have cp:=Hi (x_put P5 6 ⟨#[]⟩ 0 0 0 0 0 ⟨#[]⟩ (show d5.out.length≤1000000 from Nat.le_trans hWo (by decide)))
         have hWp:=Hi (Wt.put (d:=d5) hsm.out (Nd.of 6));clear P5 H hWo hsm;go_wp2_with fail;refine cp.out.mono ?_;rintro e w6 ⟨rfl,hb6,vn6,P6⟩;have P6:DsAt w6 M g cap l (d5.put (Nd.of 6)) vn6:=P6;have hmu6:=Hi (show atOf14 M w6=d5.at_ by unfold atOf14;rw [P6.c1];rfl)
         have hP6:=Hi P6;have hb6:=Hi (hb5.out.trans hb6);clear P6 cp hb5;go_wp2_with fail;exact ⟨⟨f,_,vn6,hP6,H2,(show 4*(l.length-d5.at_)+1≤f by omega),hst2,by omega,hWp,hb6⟩,by rw [hmu.out,hmu6.out];omega⟩
theorem fac_zero {M g cap:Nat}{l:List Tk}:FacIH M g cap l 0:=fun w d vn P hE hN hl hW=>absurd hN (by show ¬ 4*(l.length-d.at_)+1≤0;omega)
theorem and_zero {M g cap:Nat}{l:List Tk}:AndIH M g cap l 0:=fun w d vn P hE hN hl hW=>absurd hN (by show ¬ 4*(l.length-d.at_)+2≤0;omega)
theorem or_zero {M g cap:Nat}{l:List Tk}:OrIH M g cap l 0:=fun w d vn P hE hN hl hW=>absurd hN (by show ¬ 4*(l.length-d.at_)+3≤0;omega)
theorem all_upto {M g cap:Nat}{l:List Tk}(hG:∀ t∈l,TokG t)(hL:Lined l)(hll:l.length≤1000000):∀ n k,k≤n→FacIH M g cap l k∧AndIH M g cap l k∧OrIH M g cap l k:=by
 intro n
 induction n with
 | zero=>
   intro k hk;obtain rfl:k=0:=by omega
   exact ⟨fac_zero,and_zero,or_zero⟩
 | succ n ih=>
   intro k hk
   by_cases hkn:k≤n
   ·exact ih k hkn
   ·obtain rfl:k=n+1:=by omega
    exact ⟨fac_step (ih n (Nat.le_refl n)).1 (ih n (Nat.le_refl n)).2.2 hG hL hll,and_step (fun k hk=>(ih k hk).1) hL hll,or_step (fun k hk=>(ih k hk).2.1) hL hll⟩
theorem x_Read {w:World}{g cap:Nat}{l:List Tk}(T:TokIn w g l)(E:Env w)(hG:∀ t∈l,TokG t)(hL:Lined l)(hll:l.length≤900000){i:Nat}(hi:i<l.length) :
  Calls Tryz.prog 160 #[tokV g cap l,.int .i64 i] w fun e w'=>RdPost w (readD l i) e w':=by
 have b0:¬ (i:Int)<0:=by omega
 have b1:¬ (i:Int)>(l.length:Int):=by omega
 have P0:DsAt (w.alloc (.cells #[tokV g cap l,.int .i64 i,.slice none 0 0,.int .i64 0,.int .i64 0,.int .i64 0] 235 (0,0))) w.heap.size g cap l ⟨i,[],0,0,0⟩ (.slice none 0 0):=
  ⟨heap_alloc_new w _,T.1,T.below ((Below.refl w.heap.size w).alloc (Nat.le_refl _) _) T.1,⟨by simp [flatN],.inl ⟨rfl,rfl⟩⟩⟩
 have hb0:Below w.heap.size w (w.alloc (.cells #[tokV g cap l,.int .i64 i,.slice none 0 0,.int .i64 0,.int .i64 0,.int .i64 0] 235 (0,0))):=(Below.refl w.heap.size w).alloc (Nat.le_refl _) _;obtain ⟨x,hx⟩:∃ x,dsc l (dscFuel l) .or ⟨i,[],0,0,0⟩=x:=⟨_,rfl⟩
 have hI:=(all_upto (M:=w.heap.size) (g:=g) (cap:=cap) hG hL (by omega) (dscFuel l) (dscFuel l) (Nat.le_refl _)).2.2
 have cO:=Hi (hx▸hI _ _ _ P0 ((EnvOn.of E).next hb0) (show 4*(l.length-i)+3≤5*l.length+10 by omega) hi (show Wt 0 (⟨i,[],0,0,0⟩:Ds) from ⟨Nat.le_refl _,by show 0≤64;omega⟩))
 have H:=Hi (show readD l i=if x.1=true then (some x.2.out,x.2.at_,0) else (none,x.2.at_,x.2.code) by unfold readD;rw [hx])
 have hb0:=Hi hb0;clear hI hx P0 T E hG hL hi;obtain ⟨b,d⟩:=x;go_enter Tryz.func160,Tryz.ntmps160;go_wp2_with fail;refine cO.out.mono ?_;rintro e w1 ⟨rfl,hb1,vn,P1⟩;have P1:DsAt w1 w.heap.size g cap l d vn:=P1;have hb1:=Hi (hb0.out.trans hb1);have q1:=P1.c1;have q2:=P1.c2;have q5:=P1.c5;have hP1:=Hi P1;clear P1 cO hb0
 cases b with
 | false=>
   have H2:=Hi (H.out.trans (if_neg (by simp)))
   clear H;go_wp2_with fail;go_quiet (fail);go_wp2_with fail
   go_ret3
   rw [H2.out];exact ⟨hb1.out.trans ((Qt.self _ _).below _),rfl⟩
 | true=>
   have H2:=Hi (H.out.trans (if_pos rfl));clear H;go_wp2_with fail;go_quiet (fail);go_wp2_with fail
   go_ret3
   rw [H2.out];exact ⟨hb1.out.trans ((Qt.self _ _).below _),vn,rfl,Go.Joins.ownsRow_le (hP1.out.qt (Qt.self _ _)).on (Nat.le_succ _)⟩
end Go.Proofs.YtjokciofeicdkaaGreatDoor
