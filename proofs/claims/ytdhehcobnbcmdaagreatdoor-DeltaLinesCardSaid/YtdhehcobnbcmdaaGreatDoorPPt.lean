/- A part of the proof of DeltaLines: Pts. -/
import Derived.Test.YtdhehcobnbcmdaaGreatDoorPG1
set_option linter.all false
namespace Go.Proofs.YtdhehcobnbcmdaaGreatDoor
open Go.RowKit
def noIn (x:BoxS)(q:ByteArray):ByteArray:=((ba [110,111,32,97,116,32]++x.name)++ba [32,105,110,32])++q
def noOut (x:BoxS)(q:ByteArray):ByteArray:=((ba [110,111,32,97,116,32]++x.name)++ba [32,111,117,116,32])++q
def atIn (x:BoxS)(l:List ByteArray):ByteArray:=((ba [97,116,32]++x.name)++ba [32,105,110,32])++joinT l (ba [32])
def atOut (x:BoxS)(l:List ByteArray):ByteArray:=((ba [97,116,32]++x.name)++ba [32,111,117,116,32])++joinT l (ba [32])
def portsS (x y:BoxS):List ByteArray:=
  ((if eqL eqText x.ins y.ins=true then [] else x.ins.map (noIn x))++(if eqL eqText x.outs y.outs=true then [] else x.outs.map (noOut x))) ++
  ((if eqL eqText x.ins y.ins=true∨y.ins.length=0 then [] else [atIn x y.ins])++(if eqL eqText x.outs y.outs=true∨y.outs.length=0 then [] else [atOut x y.outs]))
theorem j_text (l:List ByteArray)(v:Value)(sep:ByteArray)(B:Nat)(w:World)(hl:Texts w B v l)(hB:B≤w.heap.size)(h0:0<l.length)(hs:Names l)(h2:sep.size≤1000)(h1:l.length≤1000):Calls Tryz.prog 63 #[v, .string sep] w (StrW (joinT l sep) w):=by
  obtain ⟨A,cap,rfl,hc1,hc2⟩:=SlOf.form hl
  obtain ⟨b,off,rfl⟩:=SlOf.addr hl h0
  have hjl:=joinT_le hs sep
  have hjl2:(Lib.join (l.map (·.data.toList)) sep.data.toList).length≤140737488355328:=by
    have e:(joinT l sep).size=(Lib.join (l.map (·.data.toList)) sep.data.toList).length:=by unfold joinT;rfl
    rw [← e]
    have:(24+sep.size)*l.length≤1024*1000:=Nat.mul_le_mul (by omega) h1
    omega
  have hbB:b<B:=(texts_el hl h0).1
  refine (Tryz.strings_Join b off cap l sep w (fun j x hx=>by
    obtain ⟨_,y,hy,_,e0⟩:=texts_el hl (List.getElem?_eq_some_iff.1 hx).1
    rw [hx] at hy
    injection hy with hy
    rw [e0,hy]) (by omega) hc2.2 hc1 hjl2).mono ?_
  rintro e w2 ⟨rfl,hb⟩
  exact ⟨rfl,hb⟩
set_option maxHeartbeats 8000000 in
set_option maxRecDepth 100000 in
theorem s_ports (x y : BoxS) (cx cy : List Value) (B : Nat) (w0 w : World) (Sb : Nat) (l : List ByteArray) (hx : BoxC w B cx x) (hy : BoxC w B cy y) (hB : B ≤ Sb) (h : ScA w0 Sb l w) (hnm : goodN x.name = true) (n1 : Names y.ins ∧ y.ins.length ≤ 1000) (n2 : Names y.outs ∧ y.outs.length ≤ 1000)
    (hll:l.length+x.ins.length+x.outs.length+2≤1000000):Calls Tryz.prog 28 #[.pointer (some ⟨Sb,0,none⟩), .agg cx.toArray, .agg cy.toArray] w (SayPost w0 Sb (l++portsS x y) w):=by
  obtain ⟨Ai,Aci,Ao,Aco,Ag,Acg,Ar,Acr,Aw,Acw,Au,Acu,rfl,_,hxn,tins,touts,_⟩:=box_form hx
  obtain ⟨Di,Dci,Do,Dco,Dg,Dcg,Dr,Dcr,Dw,Dcw,Du,Dcu,rfl,_,hyn,uins,uouts,_⟩:=box_form hy
  obtain ⟨W1,hW1⟩:∃ W1,w.alloc (boxO (.string x.name) (.slice Ai x.ins.length Aci) (.slice Ao x.outs.length Aco) (.slice Ag x.guards.length Acg) (.slice Ar x.rules.length Acr) (.slice Aw x.owns.length Acw) (.slice Au x.routes.length Acu))=W1:=⟨_,rfl⟩
  obtain ⟨W2,hW2⟩:∃ W2,W1.alloc (boxO (.string y.name) (.slice Di y.ins.length Dci) (.slice Do y.outs.length Dco) (.slice Dg y.guards.length Dcg) (.slice Dr y.rules.length Dcr) (.slice Dw y.owns.length Dcw) (.slice Du y.routes.length Dcu))=W2:=⟨_,rfl⟩
  have hz1:W1.heap.size=w.heap.size+1:=by rw [← hW1];simp
  have hz2:W2.heap.size=w.heap.size+2:=by rw [← hW2];simp [hz1]
  have hb1:Below w.heap.size w W1:=by rw [← hW1];exact (Below.refl _ _).alloc (Nat.le_refl _) _
  have hb2:Below W1.heap.size W1 W2:=by rw [← hW2];exact (Below.refl _ _).alloc (Nat.le_refl _) _
  have hb12:Below w.heap.size w W2:=hb1.trans (hb2.mono (by omega))
  have hSz:=h.lt
  have mX:Mine Sb w.heap.size (boxO (.string x.name) (.slice Ai x.ins.length Aci) (.slice Ao x.outs.length Aco) (.slice Ag x.guards.length Acg) (.slice Ar x.rules.length Acr) (.slice Aw x.owns.length Acw) (.slice Au x.routes.length Acu)) W2:=(h.mine (by rw [hW1];exact Below.refl _ _)).keep (KeepX.of_below (by omega) hb2)
  have mY:Mine Sb (w.heap.size+1) (boxO (.string y.name) (.slice Di y.ins.length Dci) (.slice Do y.outs.length Dco) (.slice Dg y.guards.length Dcg) (.slice Dr y.rules.length Dcr) (.slice Dw y.owns.length Dcw) (.slice Du y.routes.length Dcu)) W2:=by
    have:=(h.below hb1).mine (o:=(boxO (.string y.name) (.slice Di y.ins.length Dci) (.slice Do y.outs.length Dco) (.slice Dg y.guards.length Dcg) (.slice Dr y.rules.length Dcr) (.slice Dw y.owns.length Dcw) (.slice Du y.routes.length Dcu))) (W':=W2) (by rw [hW2];exact Below.refl _ _)
    rw [hz1] at this
    exact this
  have hK:Hid (Steady Sb (Mine Sb (w.heap.size+1) (boxO (.string y.name) (.slice Di y.ins.length Dci) (.slice Do y.outs.length Dco) (.slice Dg y.guards.length Dcg) (.slice Dr y.rules.length Dcr) (.slice Dw y.owns.length Dcw) (.slice Du y.routes.length Dcu)))):=Lib.hid fun _ _ h k=>h.keep k
  have hT0:TnAt w0 w Sb w.heap.size (boxO (.string x.name) (.slice Ai x.ins.length Aci) (.slice Ao x.outs.length Aco) (.slice Ag x.guards.length Acg) (.slice Ar x.rules.length Acr) (.slice Aw x.owns.length Acw) (.slice Au x.routes.length Acu)) (Mine Sb (w.heap.size+1) (boxO (.string y.name) (.slice Di y.ins.length Dci) (.slice Do y.outs.length Dco) (.slice Dg y.guards.length Dcg) (.slice Dr y.rules.length Dcr) (.slice Dw y.owns.length Dcw) (.slice Du y.routes.length Dcu))) (l) W2:=⟨h.below hb12,mY,KeepX.of_below hSz hb12,mX,hb12.size⟩
  have hTW:Hid (∀ W,Below W2.heap.size W2 W→TnAt w0 w Sb w.heap.size (boxO (.string x.name) (.slice Ai x.ins.length Aci) (.slice Ao x.outs.length Aco) (.slice Ag x.guards.length Acg) (.slice Ar x.rules.length Acr) (.slice Aw x.owns.length Acw) (.slice Au x.routes.length Acu)) (Mine Sb (w.heap.size+1) (boxO (.string y.name) (.slice Di y.ins.length Dci) (.slice Do y.outs.length Dco) (.slice Dg y.guards.length Dcg) (.slice Dr y.rules.length Dcr) (.slice Dw y.owns.length Dcw) (.slice Du y.routes.length Dcu))) (l) W):=Lib.hid fun W hb=>hT0.below hK.out hb
  have hKp:=Lib.hid fun W (hb:Below W2.heap.size W2 W)=>(⟨(cells7 (hTW.out W hb).m.1).2.1,(cells7 (hTW.out W hb).m.1).2.2.1,(cells7 (hTW.out W hb).k.1).2.1,(cells7 (hTW.out W hb).k.1).2.2.1⟩:W.cell? ⟨w.heap.size,1,none⟩=some (.slice Ai x.ins.length Aci)∧W.cell? ⟨w.heap.size,2,none⟩=some (.slice Ao x.outs.length Aco)∧W.cell? ⟨w.heap.size+1,1,none⟩=some (.slice Di y.ins.length Dci)∧W.cell? ⟨w.heap.size+1,2,none⟩=some (.slice Do y.outs.length Dco))
  have hbo:=Lib.hid fun W (hb:Below W2.heap.size W2 W)=>hb12.trans (hb.mono hb12.size)
  have hBw:B≤w.heap.size:=by omega
  have c1:=Lib.hid fun W hb=>q_Text x.ins y.ins _ _ _ W (tins.below (hbo.out W hb) hBw) (uins.below (hbo.out W hb) hBw) (hbo.out W hb).size
  have c2:=Lib.hid fun W hb=>q_Text x.outs y.outs _ _ _ W (touts.below (hbo.out W hb) hBw) (uouts.below (hbo.out W hb) hBw) (hbo.out W hb).size
  obtain ⟨x0,x1,x2,x3,x4,x5,x6⟩:=cells7 mX.1
  obtain ⟨y0,y1,y2,y3,y4,y5,y6⟩:=cells7 mY.1
  have hd:=Lib.hid (Below.refl W2.heap.size W2).drew
  have hfin:Hid (∀ L W,TnAt w0 w Sb w.heap.size (boxO (.string x.name) (.slice Ai x.ins.length Aci) (.slice Ao x.outs.length Aco) (.slice Ag x.guards.length Acg) (.slice Ar x.rules.length Acr) (.slice Aw x.owns.length Acw) (.slice Au x.routes.length Acu)) (Mine Sb (w.heap.size+1) (boxO (.string y.name) (.slice Di y.ins.length Dci) (.slice Do y.outs.length Dco) (.slice Dg y.guards.length Dcg) (.slice Dr y.rules.length Dcr) (.slice Dw y.owns.length Dcw) (.slice Du y.routes.length Dcu))) (L) W→L=l++portsS x y→∀ v,SayPost w0 Sb (l++portsS x y) w (.returned v) W):=Lib.hid fun L W hT hL v=>hL▸⟨⟨v,rfl⟩,hT.s,hT.x,hT.z⟩
  replace hnm:=Lib.hid (goodN_le hnm).2
  replace hll:=Lib.hid hll
  replace h:=Lib.hid h
  replace n1:=Lib.hid n1
  replace n2:=Lib.hid n2
  have hli:x.ins.length≤140737488355328:=by obtain ⟨_,_,_,_,h9⟩:=SlOf.form tins;exact h9.2
  have hlo:x.outs.length≤140737488355328:=by obtain ⟨_,_,_,_,h9⟩:=SlOf.form touts;exact h9.2
  replace tins:=Lib.hid tins
  replace touts:=Lib.hid touts
  replace uins:=Lib.hid uins
  replace uouts:=Lib.hid uouts
  have hF:Hid (portsS x y=((if eqL eqText x.ins y.ins=true then [] else x.ins.map (noIn x))++(if eqL eqText x.outs y.outs=true then [] else x.outs.map (noOut x))) ++
  ((if eqL eqText x.ins y.ins=true∨y.ins.length=0 then [] else [atIn x y.ins])++(if eqL eqText x.outs y.outs=true∨y.outs.length=0 then [] else [atOut x y.outs]))):=Lib.hid rfl
  generalize portsS x y=PP at *
  generalize eqL eqText x.ins y.ins=p1 at *
  generalize eqL eqText x.outs y.outs=p2 at *
  clear hx hy hb1 hb2 hb12 mX mY hT0 hBw
  cases p1<;>cases p2
  · skip
    go_enter Tryz.func28,Tryz.ntmps28
    go_upto_region 1 with fail
    clear hW1 hW2
    go_region_held3 (fun W'=>W'.cell? ⟨w.heap.size,1,none⟩=some (.slice Ai x.ins.length Aci)∧W'.cell? ⟨w.heap.size,2,none⟩=some (.slice Ao x.outs.length Aco)∧W'.cell? ⟨w.heap.size+1,1,none⟩=some (.slice Di y.ins.length Dci)∧W'.cell? ⟨w.heap.size+1,2,none⟩=some (.slice Do y.outs.length Dco))
      (first|exact hHeld|go_keep|exact hKp.out _ hbk2|exact hKp.out _ hbk)
      (first
        | (go_at_call 51;(with_reducible refine (c2.out _ hbk).mono ?_);rintro e wz ⟨rfl,hbC⟩;have hbk2:=hbk.trans (hbC.mono hbk.size);have hT:=Lib.hid (hTW.out _ hbk2))
        | (go_at_call 51;(with_reducible refine (c1.out _ hd.out).mono ?_);rintro e wy ⟨rfl,hbB⟩;have hbk:=hd.out.trans (hbB.mono hd.out.size)))
    all_goals
      clear c1 c2 hKp hTW hz1 hz2
      go_wp2_with fail
      go_loopw [8] (fun i wr=>∃ k:Nat,k≤x.ins.length∧i=.int .i64 k∧Hid (TnAt w0 w Sb w.heap.size (boxO (.string x.name) (.slice Ai x.ins.length Aci) (.slice Ao x.outs.length Aco) (.slice Ag x.guards.length Acg) (.slice Ar x.rules.length Acr) (.slice Aw x.owns.length Acw) (.slice Au x.routes.length Acu)) (Mine Sb (w.heap.size+1) (boxO (.string y.name) (.slice Di y.ins.length Dci) (.slice Do y.outs.length Dco) (.slice Dg y.guards.length Dcg) (.slice Dr y.rules.length Dcr) (.slice Dw y.owns.length Dcw) (.slice Du y.routes.length Dcu))) ((l)++(x.ins.take k).map (noIn x)) wr)) (fun i _=>x.ins.length-(intOf i).toNat)
      case atStart=>exact ⟨0,Nat.zero_le _,rfl,Lib.hid (by rw [List.take_zero,List.map_nil,List.append_nil];exact hT.out)⟩
      case round=>
        obtain ⟨k,hk,rfl,HT⟩:=hrel
        obtain ⟨wo,rfl⟩:∃ wo,wo=wr:=⟨_,rfl⟩
        clear hT
        by_cases hlt:k<x.ins.length
        · have tk:=tins.out.keep (w':=wo) (Nat.le_refl _) (HT.out.keeps h.out hB)
          obtain ⟨b,off,rfl⟩:=SlOf.addr tk (by omega)
          obtain ⟨hbB,q,hq,hqs,e1⟩:=texts_el tk hlt
          have hq1:w.cell? ⟨b,off+k,none⟩=some (.string q):=(HT.out.keeps h.out hB b _ hbB).symm.trans e1
          have hS:Hid (∀ L W,TnAt w0 w Sb w.heap.size (boxO (.string x.name) (.slice (some ⟨b,off,none⟩) x.ins.length Aci) (.slice Ao x.outs.length Aco) (.slice Ag x.guards.length Acg) (.slice Ar x.rules.length Acr) (.slice Aw x.owns.length Acw) (.slice Au x.routes.length Acu)) (Mine Sb (w.heap.size+1) (boxO (.string y.name) (.slice Di y.ins.length Dci) (.slice Do y.outs.length Dco) (.slice Dg y.guards.length Dcg) (.slice Dr y.rules.length Dcr) (.slice Dw y.owns.length Dcw) (.slice Du y.routes.length Dcu))) (L) W→(W.cell? ⟨w.heap.size,0,none⟩=some (.string x.name)∧W.cell? ⟨w.heap.size,1,none⟩=some (.slice (some ⟨b,off,none⟩) x.ins.length Aci)∧W.cell? ⟨b,off+k,none⟩=some (.string q))):=Lib.hid fun L W hT=>⟨(cells7 hT.m.1).1,(cells7 hT.m.1).2.1,(hT.keeps h.out hB b _ hbB).trans hq1⟩
          have hlen:((l)++(x.ins.take k).map (noIn x)).length≤1000000:=by have:=hll.out;have h3:=List.length_take_le k x.ins;simp only [List.length_append,List.length_map] at *;omega
          have cS:=Lib.hid fun W (hb:Below wo.heap.size wo W)=>fun s=>d_say s (HT.out.s.below hb) hlen
          have hM:=Lib.hid fun W (hb:Below wo.heap.size wo W)=>fun z L' (h1:ScA w0 Sb L' z) (h2:KeepX Sb W z) h3=>(HT.out.below hK.out hb).moved hK.out h1 h2 h3
          have hd:=Lib.hid (Below.refl wo.heap.size wo).drew
          obtain ⟨x0,x1,x2,x3,x4,x5,x6⟩:=cells7 HT.out.m.1
          have hnz:=hnm.out
          have hts:Hid ((x.ins.take (k+1)).map (noIn x)=(x.ins.take k).map (noIn x)++[noIn x q]):=Lib.hid (by rw [List.take_add_one,hq];simp)
          have g1:¬ 9223372036854775807<6+x.name.size:=by omega
          have g2:¬ 9223372036854775807<6+x.name.size+4:=by omega
          have g3:¬ 9223372036854775807<6+x.name.size+4+q.size:=by omega
          have i1:(k:Int)<(x.ins.length:Int):=by omega
          clear hnz hq tk HT hlen hq1
          go_upto_region 5 with fail
          go_region_held3 (fun W'=>W'.cell? ⟨w.heap.size,0,none⟩=some (.string x.name)∧W'.cell? ⟨w.heap.size,1,none⟩=some (.slice (some ⟨b,off,none⟩) x.ins.length Aci)∧W'.cell? ⟨b,off+k,none⟩=some (.string q))
            (first|exact hHeld|go_keep|exact hS9)
            ((go_at_call 10;(with_reducible refine (cS.out _ hd.out _).mono ?_);rintro e wz hZ;obtain ⟨⟨vz,rfl⟩,hSc⟩:=hZ;have hTz:=Lib.hid (hM.out _ hd.out _ _ hSc.1 hSc.2.1 hSc.2.2);have hS9:=hS.out _ _ hTz.out;clear hSc))
          all_goals
            go_wp2_with fail
            go_roundw
            case rel=>exact ⟨k+1,by omega,by go_num,Lib.hid (by rw [hts.out,← List.append_assoc];exact hTz.out)⟩
            case measure=>simp [intOf];omega
        · have hT : Hid (TnAt w0 w Sb w.heap.size (boxO (.string x.name) (.slice Ai x.ins.length Aci) (.slice Ao x.outs.length Aco) (.slice Ag x.guards.length Acg) (.slice Ar x.rules.length Acr) (.slice Aw x.owns.length Acw) (.slice Au x.routes.length Acu)) (Mine Sb (w.heap.size + 1) (boxO (.string y.name) (.slice Di y.ins.length Dci) (.slice Do y.outs.length Dco) (.slice Dg y.guards.length Dcg) (.slice Dr y.rules.length Dcr) (.slice Dw y.owns.length Dcw) (.slice Du y.routes.length Dcu))) ((l) ++ x.ins.map (noIn x)) wo) := Lib.hid (by rw [List.take_of_length_le (by omega)] at HT; exact HT.out)
          clear HT
          obtain ⟨x0,x1,x2,x3,x4,x5,x6⟩:=cells7 hT.out.m.1
          obtain ⟨y0,y1,y2,y3,y4,y5,y6⟩:=cells7 hT.out.k.1
          go_wp2_with fail
          go_loopw [9] (fun i wr=>∃ k:Nat,k≤x.outs.length∧i=.int .i64 k∧Hid (TnAt w0 w Sb w.heap.size (boxO (.string x.name) (.slice Ai x.ins.length Aci) (.slice Ao x.outs.length Aco) (.slice Ag x.guards.length Acg) (.slice Ar x.rules.length Acr) (.slice Aw x.owns.length Acw) (.slice Au x.routes.length Acu)) (Mine Sb (w.heap.size+1) (boxO (.string y.name) (.slice Di y.ins.length Dci) (.slice Do y.outs.length Dco) (.slice Dg y.guards.length Dcg) (.slice Dr y.rules.length Dcr) (.slice Dw y.owns.length Dcw) (.slice Du y.routes.length Dcu))) (((l)++x.ins.map (noIn x))++(x.outs.take k).map (noOut x)) wr)) (fun i _=>x.outs.length-(intOf i).toNat)
          case atStart=>exact ⟨0,Nat.zero_le _,rfl,Lib.hid (by rw [List.take_zero,List.map_nil,List.append_nil];exact hT.out)⟩
          case round=>
            obtain ⟨k,hk,rfl,HT⟩:=hrel
            obtain ⟨wo,rfl⟩:∃ wo,wo=wr:=⟨_,rfl⟩
            clear hT
            by_cases hlt:k<x.outs.length
            · have tk:=touts.out.keep (w':=wo) (Nat.le_refl _) (HT.out.keeps h.out hB)
              obtain ⟨b,off,rfl⟩:=SlOf.addr tk (by omega)
              obtain ⟨hbB,q,hq,hqs,e1⟩:=texts_el tk hlt
              have hq1:w.cell? ⟨b,off+k,none⟩=some (.string q):=(HT.out.keeps h.out hB b _ hbB).symm.trans e1
              have hS:Hid (∀ L W,TnAt w0 w Sb w.heap.size (boxO (.string x.name) (.slice Ai x.ins.length Aci) (.slice (some ⟨b,off,none⟩) x.outs.length Aco) (.slice Ag x.guards.length Acg) (.slice Ar x.rules.length Acr) (.slice Aw x.owns.length Acw) (.slice Au x.routes.length Acu)) (Mine Sb (w.heap.size+1) (boxO (.string y.name) (.slice Di y.ins.length Dci) (.slice Do y.outs.length Dco) (.slice Dg y.guards.length Dcg) (.slice Dr y.rules.length Dcr) (.slice Dw y.owns.length Dcw) (.slice Du y.routes.length Dcu))) (L) W→(W.cell? ⟨w.heap.size,0,none⟩=some (.string x.name)∧W.cell? ⟨w.heap.size,2,none⟩=some (.slice (some ⟨b,off,none⟩) x.outs.length Aco)∧W.cell? ⟨b,off+k,none⟩=some (.string q))):=Lib.hid fun L W hT=>⟨(cells7 hT.m.1).1,(cells7 hT.m.1).2.2.1,(hT.keeps h.out hB b _ hbB).trans hq1⟩
              have hlen:(((l)++x.ins.map (noIn x))++(x.outs.take k).map (noOut x)).length≤1000000:=by have:=hll.out;have h3:=List.length_take_le k x.outs;simp only [List.length_append,List.length_map] at *;omega
              have cS:=Lib.hid fun W (hb:Below wo.heap.size wo W)=>fun s=>d_say s (HT.out.s.below hb) hlen
              have hM:=Lib.hid fun W (hb:Below wo.heap.size wo W)=>fun z L' (h1:ScA w0 Sb L' z) (h2:KeepX Sb W z) h3=>(HT.out.below hK.out hb).moved hK.out h1 h2 h3
              have hd:=Lib.hid (Below.refl wo.heap.size wo).drew
              obtain ⟨x0,x1,x2,x3,x4,x5,x6⟩:=cells7 HT.out.m.1
              have hnz:=hnm.out
              have hts:Hid ((x.outs.take (k+1)).map (noOut x)=(x.outs.take k).map (noOut x)++[noOut x q]):=Lib.hid (by rw [List.take_add_one,hq];simp)
              have g1:¬ 9223372036854775807<6+x.name.size:=by omega
              have g2:¬ 9223372036854775807<6+x.name.size+5:=by omega
              have g3:¬ 9223372036854775807<6+x.name.size+5+q.size:=by omega
              have i1:(k:Int)<(x.outs.length:Int):=by omega
              clear hnz hq tk HT hlen hq1
              go_upto_region 9 with fail
              go_region_held3 (fun W'=>W'.cell? ⟨w.heap.size,0,none⟩=some (.string x.name)∧W'.cell? ⟨w.heap.size,2,none⟩=some (.slice (some ⟨b,off,none⟩) x.outs.length Aco)∧W'.cell? ⟨b,off+k,none⟩=some (.string q))
                (first|exact hHeld|go_keep|exact hS9)
                ((go_at_call 10;(with_reducible refine (cS.out _ hd.out _).mono ?_);rintro e wz hZ;obtain ⟨⟨vz,rfl⟩,hSc⟩:=hZ;have hTz:=Lib.hid (hM.out _ hd.out _ _ hSc.1 hSc.2.1 hSc.2.2);have hS9:=hS.out _ _ hTz.out;clear hSc))
              all_goals
                go_wp2_with fail
                go_roundw
                case rel=>exact ⟨k+1,by omega,by go_num,Lib.hid (by rw [hts.out,← List.append_assoc];exact hTz.out)⟩
                case measure=>simp [intOf];omega
            · have hT : Hid (TnAt w0 w Sb w.heap.size (boxO (.string x.name) (.slice Ai x.ins.length Aci) (.slice Ao x.outs.length Aco) (.slice Ag x.guards.length Acg) (.slice Ar x.rules.length Acr) (.slice Aw x.owns.length Acw) (.slice Au x.routes.length Acu)) (Mine Sb (w.heap.size + 1) (boxO (.string y.name) (.slice Di y.ins.length Dci) (.slice Do y.outs.length Dco) (.slice Dg y.guards.length Dcg) (.slice Dr y.rules.length Dcr) (.slice Dw y.owns.length Dcw) (.slice Du y.routes.length Dcu))) (((l) ++ x.ins.map (noIn x)) ++ x.outs.map (noOut x)) wo) := Lib.hid (by rw [List.take_of_length_le (by omega)] at HT; exact HT.out)
              clear HT
              obtain ⟨x0,x1,x2,x3,x4,x5,x6⟩:=cells7 hT.out.m.1
              obtain ⟨y0,y1,y2,y3,y4,y5,y6⟩:=cells7 hT.out.k.1
              by_cases hy0:0<y.ins.length
              · have hI : Hid (¬ y.ins.length = 0) := Lib.hid (by omega)
                have uk:=uins.out.keep (w':=wo) (Nat.le_refl _) (hT.out.keeps h.out hB)
                have hBo:B≤wo.heap.size:=by have:=hT.out.s.lt;omega
                have cJ:=Lib.hid fun W (hb:Below wo.heap.size wo W)=>j_text y.ins _ ⟨#[32]⟩ B W (uk.keep (Nat.le_refl _) (keepB hb hBo)) (Nat.le_trans hBo hb.size) hy0 n1.out.1 (by decide) n1.out.2
                have hS:Hid (∀ L W,TnAt w0 w Sb w.heap.size (boxO (.string x.name) (.slice Ai x.ins.length Aci) (.slice Ao x.outs.length Aco) (.slice Ag x.guards.length Acg) (.slice Ar x.rules.length Acr) (.slice Aw x.owns.length Acw) (.slice Au x.routes.length Acu)) (Mine Sb (w.heap.size+1) (boxO (.string y.name) (.slice Di y.ins.length Dci) (.slice Do y.outs.length Dco) (.slice Dg y.guards.length Dcg) (.slice Dr y.rules.length Dcr) (.slice Dw y.owns.length Dcw) (.slice Du y.routes.length Dcu))) (L) W→(W.cell? ⟨w.heap.size,0,none⟩=some (.string x.name)∧W.cell? ⟨w.heap.size+1,1,none⟩=some (.slice Di y.ins.length Dci))):=Lib.hid fun L W hT=>⟨(cells7 hT.m.1).1,(cells7 hT.k.1).2.1⟩
                have hlen:(((l)++x.ins.map (noIn x))++x.outs.map (noOut x)).length≤1000000:=by have:=hll.out;simp only [List.length_append,List.length_map,List.length_cons,List.length_nil] at *;omega
                have cS:=Lib.hid fun W (hb:Below wo.heap.size wo W)=>fun s=>d_say s (hT.out.s.below hb) hlen
                have hM:=Lib.hid fun W (hb:Below wo.heap.size wo W)=>fun z L' (h1:ScA w0 Sb L' z) (h2:KeepX Sb W z) h3=>(hT.out.below hK.out hb).moved hK.out h1 h2 h3
                have hbT:=Lib.hid fun W (hb:Below wo.heap.size wo W)=>hT.out.below hK.out hb
                have hd:=Lib.hid (Below.refl wo.heap.size wo).drew
                have hJ:(joinT y.ins ⟨#[32]⟩).size≤100000:=by
                  have h9:=joinT_le n1.out.1 ⟨#[32]⟩
                  have h8:=n1.out.2
                  have h7:(ByteArray.mk #[32]).size=1:=rfl
                  rw [h7] at h9
                  omega
                have hA:Hid (atIn x y.ins=((ba [97,116,32]++x.name)++ba [32,105,110,32])++joinT y.ins ⟨#[32]⟩):=Lib.hid rfl
                generalize joinT y.ins ⟨#[32]⟩=TJ at *
                generalize atIn x y.ins=PAi at *
                have hnz:=hnm.out
                have g1:¬ 9223372036854775807<3+x.name.size:=by omega
                have g2:¬ 9223372036854775807<3+x.name.size+4:=by omega
                have g3:¬ 9223372036854775807<3+x.name.size+4+TJ.size:=by omega
                have i2:(y.ins.length:Int)>0:=by omega
                clear hnz uk hlen hJ hT hBo
                go_upto_region 11 with fail
                go_region_held3 (fun W'=>W'.cell? ⟨w.heap.size,0,none⟩=some (.string x.name)∧W'.cell? ⟨w.heap.size+1,1,none⟩=some (.slice Di y.ins.length Dci))
                  (first|exact hHeld|go_keep|exact hS9|exact hS8)
                  (first
                    | (go_at_call 10;(with_reducible refine (cS.out _ hbk _).mono ?_);rintro e wz hZ;obtain ⟨⟨vz,rfl⟩,hSc⟩:=hZ;have hTz:=Lib.hid (hM.out _ hbk _ _ hSc.1 hSc.2.1 hSc.2.2);have hS9:=hS.out _ _ hTz.out;clear hSc)
                    | (go_at_call 63;(with_reducible refine (cJ.out _ hd.out).mono ?_);rintro e wy ⟨rfl,hbB⟩;have hbk:=hd.out.trans (hbB.mono hd.out.size);have hS8:=hS.out _ _ (hbT.out _ hbk)))
                all_goals
                  clear g1 g2 g3 i2
                  have hT:Hid (TnAt w0 w Sb w.heap.size (boxO (.string x.name) (.slice Ai x.ins.length Aci) (.slice Ao x.outs.length Aco) (.slice Ag x.guards.length Acg) (.slice Ar x.rules.length Acr) (.slice Aw x.owns.length Acw) (.slice Au x.routes.length Acu)) (Mine Sb (w.heap.size+1) (boxO (.string y.name) (.slice Di y.ins.length Dci) (.slice Do y.outs.length Dco) (.slice Dg y.guards.length Dcg) (.slice Dr y.rules.length Dcr) (.slice Dw y.owns.length Dcw) (.slice Du y.routes.length Dcu))) ((((l)++x.ins.map (noIn x))++x.outs.map (noOut x))++[PAi]) wz):=Lib.hid (by rw [hA.out];exact hTz.out)
                  clear hTz
                  obtain ⟨wo,rfl⟩:∃ wo,wo=wz:=⟨_,rfl⟩
                  obtain ⟨x0,x1,x2,x3,x4,x5,x6⟩:=cells7 hT.out.m.1
                  obtain ⟨y0,y1,y2,y3,y4,y5,y6⟩:=cells7 hT.out.k.1
                  by_cases hy0:0<y.outs.length
                  · have hO:Hid (¬ y.outs.length=0):=Lib.hid (by omega)
                    have uk:=uouts.out.keep (w':=wo) (Nat.le_refl _) (hT.out.keeps h.out hB)
                    have hBo:B≤wo.heap.size:=by have:=hT.out.s.lt;omega
                    have cJ:=Lib.hid fun W (hb:Below wo.heap.size wo W)=>j_text y.outs _ ⟨#[32]⟩ B W (uk.keep (Nat.le_refl _) (keepB hb hBo)) (Nat.le_trans hBo hb.size) hy0 n2.out.1 (by decide) n2.out.2
                    have hS:Hid (∀ L W,TnAt w0 w Sb w.heap.size (boxO (.string x.name) (.slice Ai x.ins.length Aci) (.slice Ao x.outs.length Aco) (.slice Ag x.guards.length Acg) (.slice Ar x.rules.length Acr) (.slice Aw x.owns.length Acw) (.slice Au x.routes.length Acu)) (Mine Sb (w.heap.size+1) (boxO (.string y.name) (.slice Di y.ins.length Dci) (.slice Do y.outs.length Dco) (.slice Dg y.guards.length Dcg) (.slice Dr y.rules.length Dcr) (.slice Dw y.owns.length Dcw) (.slice Du y.routes.length Dcu))) (L) W→(W.cell? ⟨w.heap.size,0,none⟩=some (.string x.name)∧W.cell? ⟨w.heap.size+1,2,none⟩=some (.slice Do y.outs.length Dco))):=Lib.hid fun L W hT=>⟨(cells7 hT.m.1).1,(cells7 hT.k.1).2.2.1⟩
                    have hlen:((((l)++x.ins.map (noIn x))++x.outs.map (noOut x))++[PAi]).length≤1000000:=by have:=hll.out;simp only [List.length_append,List.length_map,List.length_cons,List.length_nil] at *;omega
                    have cS:=Lib.hid fun W (hb:Below wo.heap.size wo W)=>fun s=>d_say s (hT.out.s.below hb) hlen
                    have hM:=Lib.hid fun W (hb:Below wo.heap.size wo W)=>fun z L' (h1:ScA w0 Sb L' z) (h2:KeepX Sb W z) h3=>(hT.out.below hK.out hb).moved hK.out h1 h2 h3
                    have hbT:=Lib.hid fun W (hb:Below wo.heap.size wo W)=>hT.out.below hK.out hb
                    have hd:=Lib.hid (Below.refl wo.heap.size wo).drew
                    have hJ:(joinT y.outs ⟨#[32]⟩).size≤100000:=by
                      have h9:=joinT_le n2.out.1 ⟨#[32]⟩
                      have h8:=n2.out.2
                      have h7:(ByteArray.mk #[32]).size=1:=rfl
                      rw [h7] at h9
                      omega
                    have hA:Hid (atOut x y.outs=((ba [97,116,32]++x.name)++ba [32,111,117,116,32])++joinT y.outs ⟨#[32]⟩):=Lib.hid rfl
                    generalize joinT y.outs ⟨#[32]⟩=TJ at *
                    generalize atOut x y.outs=PAo at *
                    have hnz:=hnm.out
                    have g1:¬ 9223372036854775807<3+x.name.size:=by omega
                    have g2:¬ 9223372036854775807<3+x.name.size+5:=by omega
                    have g3:¬ 9223372036854775807<3+x.name.size+5+TJ.size:=by omega
                    have i2:(y.outs.length:Int)>0:=by omega
                    clear hnz uk hlen hJ hT hBo
                    go_upto_region 13 with fail
                    go_region_held3 (fun W'=>W'.cell? ⟨w.heap.size,0,none⟩=some (.string x.name)∧W'.cell? ⟨w.heap.size+1,2,none⟩=some (.slice Do y.outs.length Dco))
                      (first|exact hHeld|go_keep|exact hS9|exact hS8)
                      (first
                        | (go_at_call 10;(with_reducible refine (cS.out _ hbk _).mono ?_);rintro e wz hZ;obtain ⟨⟨vz,rfl⟩,hSc⟩:=hZ;have hTz:=Lib.hid (hM.out _ hbk _ _ hSc.1 hSc.2.1 hSc.2.2);have hS9:=hS.out _ _ hTz.out;clear hSc)
                        | (go_at_call 63;(with_reducible refine (cJ.out _ hd.out).mono ?_);rintro e wy ⟨rfl,hbB⟩;have hbk:=hd.out.trans (hbB.mono hd.out.size);have hS8:=hS.out _ _ (hbT.out _ hbk)))
                    all_goals
                      clear g1 g2 g3 i2
                      have hT:Hid (TnAt w0 w Sb w.heap.size (boxO (.string x.name) (.slice Ai x.ins.length Aci) (.slice Ao x.outs.length Aco) (.slice Ag x.guards.length Acg) (.slice Ar x.rules.length Acr) (.slice Aw x.owns.length Acw) (.slice Au x.routes.length Acu)) (Mine Sb (w.heap.size+1) (boxO (.string y.name) (.slice Di y.ins.length Dci) (.slice Do y.outs.length Dco) (.slice Dg y.guards.length Dcg) (.slice Dr y.rules.length Dcr) (.slice Dw y.owns.length Dcw) (.slice Du y.routes.length Dcu))) (((((l)++x.ins.map (noIn x))++x.outs.map (noOut x))++[PAi])++[PAo]) wz):=Lib.hid (by rw [hA.out];exact hTz.out)
                      clear hTz
                      obtain ⟨wo,rfl⟩:∃ wo,wo=wz:=⟨_,rfl⟩
                      obtain ⟨x0,x1,x2,x3,x4,x5,x6⟩:=cells7 hT.out.m.1
                      obtain ⟨y0,y1,y2,y3,y4,y5,y6⟩:=cells7 hT.out.k.1
                      go_wp2_with fail
                      go_end0
                      exact hfin.out _ _ hT.out (by rw [hF.out];simp [hI.out,hO.out]) _
                  · have hO:Hid (y.outs.length=0):=Lib.hid (by omega)
                    have i2:¬ (y.outs.length:Int)>0:=by omega
                    go_wp2_with fail
                    go_end0
                    exact hfin.out _ _ hT.out (by rw [hF.out];simp [hI.out,hO.out]) _
              · have hI:Hid (y.ins.length=0):=Lib.hid (by omega)
                have i2:¬ (y.ins.length:Int)>0:=by omega
                by_cases hy0:0<y.outs.length
                · have hO:Hid (¬ y.outs.length=0):=Lib.hid (by omega)
                  have uk:=uouts.out.keep (w':=wo) (Nat.le_refl _) (hT.out.keeps h.out hB)
                  have hBo:B≤wo.heap.size:=by have:=hT.out.s.lt;omega
                  have cJ:=Lib.hid fun W (hb:Below wo.heap.size wo W)=>j_text y.outs _ ⟨#[32]⟩ B W (uk.keep (Nat.le_refl _) (keepB hb hBo)) (Nat.le_trans hBo hb.size) hy0 n2.out.1 (by decide) n2.out.2
                  have hS:Hid (∀ L W,TnAt w0 w Sb w.heap.size (boxO (.string x.name) (.slice Ai x.ins.length Aci) (.slice Ao x.outs.length Aco) (.slice Ag x.guards.length Acg) (.slice Ar x.rules.length Acr) (.slice Aw x.owns.length Acw) (.slice Au x.routes.length Acu)) (Mine Sb (w.heap.size+1) (boxO (.string y.name) (.slice Di y.ins.length Dci) (.slice Do y.outs.length Dco) (.slice Dg y.guards.length Dcg) (.slice Dr y.rules.length Dcr) (.slice Dw y.owns.length Dcw) (.slice Du y.routes.length Dcu))) (L) W→(W.cell? ⟨w.heap.size,0,none⟩=some (.string x.name)∧W.cell? ⟨w.heap.size+1,2,none⟩=some (.slice Do y.outs.length Dco))):=Lib.hid fun L W hT=>⟨(cells7 hT.m.1).1,(cells7 hT.k.1).2.2.1⟩
                  have hlen:(((l)++x.ins.map (noIn x))++x.outs.map (noOut x)).length≤1000000:=by have:=hll.out;simp only [List.length_append,List.length_map,List.length_cons,List.length_nil] at *;omega
                  have cS:=Lib.hid fun W (hb:Below wo.heap.size wo W)=>fun s=>d_say s (hT.out.s.below hb) hlen
                  have hM:=Lib.hid fun W (hb:Below wo.heap.size wo W)=>fun z L' (h1:ScA w0 Sb L' z) (h2:KeepX Sb W z) h3=>(hT.out.below hK.out hb).moved hK.out h1 h2 h3
                  have hbT:=Lib.hid fun W (hb:Below wo.heap.size wo W)=>hT.out.below hK.out hb
                  have hd:=Lib.hid (Below.refl wo.heap.size wo).drew
                  have hJ:(joinT y.outs ⟨#[32]⟩).size≤100000:=by
                    have h9:=joinT_le n2.out.1 ⟨#[32]⟩
                    have h8:=n2.out.2
                    have h7:(ByteArray.mk #[32]).size=1:=rfl
                    rw [h7] at h9
                    omega
                  have hA:Hid (atOut x y.outs=((ba [97,116,32]++x.name)++ba [32,111,117,116,32])++joinT y.outs ⟨#[32]⟩):=Lib.hid rfl
                  generalize joinT y.outs ⟨#[32]⟩=TJ at *
                  generalize atOut x y.outs=PAo at *
                  have hnz:=hnm.out
                  have g1:¬ 9223372036854775807<3+x.name.size:=by omega
                  have g2:¬ 9223372036854775807<3+x.name.size+5:=by omega
                  have g3:¬ 9223372036854775807<3+x.name.size+5+TJ.size:=by omega
                  have i2:(y.outs.length:Int)>0:=by omega
                  clear hnz uk hlen hJ hT hBo
                  go_upto_region 13 with fail
                  go_region_held3 (fun W'=>W'.cell? ⟨w.heap.size,0,none⟩=some (.string x.name)∧W'.cell? ⟨w.heap.size+1,2,none⟩=some (.slice Do y.outs.length Dco))
                    (first|exact hHeld|go_keep|exact hS9|exact hS8)
                    (first
                      | (go_at_call 10;(with_reducible refine (cS.out _ hbk _).mono ?_);rintro e wz hZ;obtain ⟨⟨vz,rfl⟩,hSc⟩:=hZ;have hTz:=Lib.hid (hM.out _ hbk _ _ hSc.1 hSc.2.1 hSc.2.2);have hS9:=hS.out _ _ hTz.out;clear hSc)
                      | (go_at_call 63;(with_reducible refine (cJ.out _ hd.out).mono ?_);rintro e wy ⟨rfl,hbB⟩;have hbk:=hd.out.trans (hbB.mono hd.out.size);have hS8:=hS.out _ _ (hbT.out _ hbk)))
                  all_goals
                    clear g1 g2 g3 i2
                    have hT:Hid (TnAt w0 w Sb w.heap.size (boxO (.string x.name) (.slice Ai x.ins.length Aci) (.slice Ao x.outs.length Aco) (.slice Ag x.guards.length Acg) (.slice Ar x.rules.length Acr) (.slice Aw x.owns.length Acw) (.slice Au x.routes.length Acu)) (Mine Sb (w.heap.size+1) (boxO (.string y.name) (.slice Di y.ins.length Dci) (.slice Do y.outs.length Dco) (.slice Dg y.guards.length Dcg) (.slice Dr y.rules.length Dcr) (.slice Dw y.owns.length Dcw) (.slice Du y.routes.length Dcu))) ((((l)++x.ins.map (noIn x))++x.outs.map (noOut x))++[PAo]) wz):=Lib.hid (by rw [hA.out];exact hTz.out)
                    clear hTz
                    obtain ⟨wo,rfl⟩:∃ wo,wo=wz:=⟨_,rfl⟩
                    obtain ⟨x0,x1,x2,x3,x4,x5,x6⟩:=cells7 hT.out.m.1
                    obtain ⟨y0,y1,y2,y3,y4,y5,y6⟩:=cells7 hT.out.k.1
                    go_wp2_with fail
                    go_end0
                    exact hfin.out _ _ hT.out (by rw [hF.out];simp [hI.out,hO.out]) _
                · have hO:Hid (y.outs.length=0):=Lib.hid (by omega)
                  have i2:¬ (y.outs.length:Int)>0:=by omega
                  go_wp2_with fail
                  go_end0
                  exact hfin.out _ _ hT.out (by rw [hF.out];simp [hI.out,hO.out]) _
  · skip
    go_enter Tryz.func28,Tryz.ntmps28
    go_upto_region 1 with fail
    clear hW1 hW2
    go_region_held3 (fun W'=>W'.cell? ⟨w.heap.size,1,none⟩=some (.slice Ai x.ins.length Aci)∧W'.cell? ⟨w.heap.size,2,none⟩=some (.slice Ao x.outs.length Aco)∧W'.cell? ⟨w.heap.size+1,1,none⟩=some (.slice Di y.ins.length Dci)∧W'.cell? ⟨w.heap.size+1,2,none⟩=some (.slice Do y.outs.length Dco))
      (first|exact hHeld|go_keep|exact hKp.out _ hbk2|exact hKp.out _ hbk)
      (first
        | (go_at_call 51;(with_reducible refine (c2.out _ hbk).mono ?_);rintro e wz ⟨rfl,hbC⟩;have hbk2:=hbk.trans (hbC.mono hbk.size);have hT:=Lib.hid (hTW.out _ hbk2))
        | (go_at_call 51;(with_reducible refine (c1.out _ hd.out).mono ?_);rintro e wy ⟨rfl,hbB⟩;have hbk:=hd.out.trans (hbB.mono hd.out.size)))
    all_goals
      clear c1 c2 hKp hTW hz1 hz2
      go_wp2_with fail
      go_loopw [8] (fun i wr=>∃ k:Nat,k≤x.ins.length∧i=.int .i64 k∧Hid (TnAt w0 w Sb w.heap.size (boxO (.string x.name) (.slice Ai x.ins.length Aci) (.slice Ao x.outs.length Aco) (.slice Ag x.guards.length Acg) (.slice Ar x.rules.length Acr) (.slice Aw x.owns.length Acw) (.slice Au x.routes.length Acu)) (Mine Sb (w.heap.size+1) (boxO (.string y.name) (.slice Di y.ins.length Dci) (.slice Do y.outs.length Dco) (.slice Dg y.guards.length Dcg) (.slice Dr y.rules.length Dcr) (.slice Dw y.owns.length Dcw) (.slice Du y.routes.length Dcu))) ((l)++(x.ins.take k).map (noIn x)) wr)) (fun i _=>x.ins.length-(intOf i).toNat)
      case atStart=>exact ⟨0,Nat.zero_le _,rfl,Lib.hid (by rw [List.take_zero,List.map_nil,List.append_nil];exact hT.out)⟩
      case round=>
        obtain ⟨k,hk,rfl,HT⟩:=hrel
        obtain ⟨wo,rfl⟩:∃ wo,wo=wr:=⟨_,rfl⟩
        clear hT
        by_cases hlt:k<x.ins.length
        · have tk:=tins.out.keep (w':=wo) (Nat.le_refl _) (HT.out.keeps h.out hB)
          obtain ⟨b,off,rfl⟩:=SlOf.addr tk (by omega)
          obtain ⟨hbB,q,hq,hqs,e1⟩:=texts_el tk hlt
          have hq1:w.cell? ⟨b,off+k,none⟩=some (.string q):=(HT.out.keeps h.out hB b _ hbB).symm.trans e1
          have hS:Hid (∀ L W,TnAt w0 w Sb w.heap.size (boxO (.string x.name) (.slice (some ⟨b,off,none⟩) x.ins.length Aci) (.slice Ao x.outs.length Aco) (.slice Ag x.guards.length Acg) (.slice Ar x.rules.length Acr) (.slice Aw x.owns.length Acw) (.slice Au x.routes.length Acu)) (Mine Sb (w.heap.size+1) (boxO (.string y.name) (.slice Di y.ins.length Dci) (.slice Do y.outs.length Dco) (.slice Dg y.guards.length Dcg) (.slice Dr y.rules.length Dcr) (.slice Dw y.owns.length Dcw) (.slice Du y.routes.length Dcu))) (L) W→(W.cell? ⟨w.heap.size,0,none⟩=some (.string x.name)∧W.cell? ⟨w.heap.size,1,none⟩=some (.slice (some ⟨b,off,none⟩) x.ins.length Aci)∧W.cell? ⟨b,off+k,none⟩=some (.string q))):=Lib.hid fun L W hT=>⟨(cells7 hT.m.1).1,(cells7 hT.m.1).2.1,(hT.keeps h.out hB b _ hbB).trans hq1⟩
          have hlen:((l)++(x.ins.take k).map (noIn x)).length≤1000000:=by have:=hll.out;have h3:=List.length_take_le k x.ins;simp only [List.length_append,List.length_map] at *;omega
          have cS:=Lib.hid fun W (hb:Below wo.heap.size wo W)=>fun s=>d_say s (HT.out.s.below hb) hlen
          have hM:=Lib.hid fun W (hb:Below wo.heap.size wo W)=>fun z L' (h1:ScA w0 Sb L' z) (h2:KeepX Sb W z) h3=>(HT.out.below hK.out hb).moved hK.out h1 h2 h3
          have hd:=Lib.hid (Below.refl wo.heap.size wo).drew
          obtain ⟨x0,x1,x2,x3,x4,x5,x6⟩:=cells7 HT.out.m.1
          have hnz:=hnm.out
          have hts:Hid ((x.ins.take (k+1)).map (noIn x)=(x.ins.take k).map (noIn x)++[noIn x q]):=Lib.hid (by rw [List.take_add_one,hq];simp)
          have g1:¬ 9223372036854775807<6+x.name.size:=by omega
          have g2:¬ 9223372036854775807<6+x.name.size+4:=by omega
          have g3:¬ 9223372036854775807<6+x.name.size+4+q.size:=by omega
          have i1:(k:Int)<(x.ins.length:Int):=by omega
          clear hnz hq tk HT hlen hq1
          go_upto_region 5 with fail
          go_region_held3 (fun W'=>W'.cell? ⟨w.heap.size,0,none⟩=some (.string x.name)∧W'.cell? ⟨w.heap.size,1,none⟩=some (.slice (some ⟨b,off,none⟩) x.ins.length Aci)∧W'.cell? ⟨b,off+k,none⟩=some (.string q))
            (first|exact hHeld|go_keep|exact hS9)
            ((go_at_call 10;(with_reducible refine (cS.out _ hd.out _).mono ?_);rintro e wz hZ;obtain ⟨⟨vz,rfl⟩,hSc⟩:=hZ;have hTz:=Lib.hid (hM.out _ hd.out _ _ hSc.1 hSc.2.1 hSc.2.2);have hS9:=hS.out _ _ hTz.out;clear hSc))
          all_goals
            go_wp2_with fail
            go_roundw
            case rel=>exact ⟨k+1,by omega,by go_num,Lib.hid (by rw [hts.out,← List.append_assoc];exact hTz.out)⟩
            case measure=>simp [intOf];omega
        · have hT : Hid (TnAt w0 w Sb w.heap.size (boxO (.string x.name) (.slice Ai x.ins.length Aci) (.slice Ao x.outs.length Aco) (.slice Ag x.guards.length Acg) (.slice Ar x.rules.length Acr) (.slice Aw x.owns.length Acw) (.slice Au x.routes.length Acu)) (Mine Sb (w.heap.size + 1) (boxO (.string y.name) (.slice Di y.ins.length Dci) (.slice Do y.outs.length Dco) (.slice Dg y.guards.length Dcg) (.slice Dr y.rules.length Dcr) (.slice Dw y.owns.length Dcw) (.slice Du y.routes.length Dcu))) ((l) ++ x.ins.map (noIn x)) wo) := Lib.hid (by rw [List.take_of_length_le (by omega)] at HT; exact HT.out)
          clear HT
          obtain ⟨x0,x1,x2,x3,x4,x5,x6⟩:=cells7 hT.out.m.1
          obtain ⟨y0,y1,y2,y3,y4,y5,y6⟩:=cells7 hT.out.k.1
          go_wp2_with fail
          go_loopw [9] (fun i wr=>i=.int .i64 0∧Hid (TnAt w0 w Sb w.heap.size (boxO (.string x.name) (.slice Ai x.ins.length Aci) (.slice Ao x.outs.length Aco) (.slice Ag x.guards.length Acg) (.slice Ar x.rules.length Acr) (.slice Aw x.owns.length Acw) (.slice Au x.routes.length Acu)) (Mine Sb (w.heap.size+1) (boxO (.string y.name) (.slice Di y.ins.length Dci) (.slice Do y.outs.length Dco) (.slice Dg y.guards.length Dcg) (.slice Dr y.rules.length Dcr) (.slice Dw y.owns.length Dcw) (.slice Du y.routes.length Dcu))) ((l)++x.ins.map (noIn x)) wr)) (fun _ _=>0)
          case atStart=>exact ⟨rfl,hT⟩
          case round=>
            obtain ⟨rfl,HT⟩:=hrel
            obtain ⟨wo,rfl⟩:∃ wo,wo=wr:=⟨_,rfl⟩
            clear hT
            obtain ⟨x0,x1,x2,x3,x4,x5,x6⟩:=cells7 HT.out.m.1
            obtain ⟨y0,y1,y2,y3,y4,y5,y6⟩:=cells7 HT.out.k.1
            have hT:=HT
            clear HT
            by_cases hy0:0<y.ins.length
            · have hI:Hid (¬ y.ins.length=0):=Lib.hid (by omega)
              have uk:=uins.out.keep (w':=wo) (Nat.le_refl _) (hT.out.keeps h.out hB)
              have hBo:B≤wo.heap.size:=by have:=hT.out.s.lt;omega
              have cJ:=Lib.hid fun W (hb:Below wo.heap.size wo W)=>j_text y.ins _ ⟨#[32]⟩ B W (uk.keep (Nat.le_refl _) (keepB hb hBo)) (Nat.le_trans hBo hb.size) hy0 n1.out.1 (by decide) n1.out.2
              have hS:Hid (∀ L W,TnAt w0 w Sb w.heap.size (boxO (.string x.name) (.slice Ai x.ins.length Aci) (.slice Ao x.outs.length Aco) (.slice Ag x.guards.length Acg) (.slice Ar x.rules.length Acr) (.slice Aw x.owns.length Acw) (.slice Au x.routes.length Acu)) (Mine Sb (w.heap.size+1) (boxO (.string y.name) (.slice Di y.ins.length Dci) (.slice Do y.outs.length Dco) (.slice Dg y.guards.length Dcg) (.slice Dr y.rules.length Dcr) (.slice Dw y.owns.length Dcw) (.slice Du y.routes.length Dcu))) (L) W→(W.cell? ⟨w.heap.size,0,none⟩=some (.string x.name)∧W.cell? ⟨w.heap.size+1,1,none⟩=some (.slice Di y.ins.length Dci))):=Lib.hid fun L W hT=>⟨(cells7 hT.m.1).1,(cells7 hT.k.1).2.1⟩
              have hlen:((l)++x.ins.map (noIn x)).length≤1000000:=by have:=hll.out;simp only [List.length_append,List.length_map,List.length_cons,List.length_nil] at *;omega
              have cS:=Lib.hid fun W (hb:Below wo.heap.size wo W)=>fun s=>d_say s (hT.out.s.below hb) hlen
              have hM:=Lib.hid fun W (hb:Below wo.heap.size wo W)=>fun z L' (h1:ScA w0 Sb L' z) (h2:KeepX Sb W z) h3=>(hT.out.below hK.out hb).moved hK.out h1 h2 h3
              have hbT:=Lib.hid fun W (hb:Below wo.heap.size wo W)=>hT.out.below hK.out hb
              have hd:=Lib.hid (Below.refl wo.heap.size wo).drew
              have hJ:(joinT y.ins ⟨#[32]⟩).size≤100000:=by
                have h9:=joinT_le n1.out.1 ⟨#[32]⟩
                have h8:=n1.out.2
                have h7:(ByteArray.mk #[32]).size=1:=rfl
                rw [h7] at h9
                omega
              have hA:Hid (atIn x y.ins=((ba [97,116,32]++x.name)++ba [32,105,110,32])++joinT y.ins ⟨#[32]⟩):=Lib.hid rfl
              generalize joinT y.ins ⟨#[32]⟩=TJ at *
              generalize atIn x y.ins=PAi at *
              have hnz:=hnm.out
              have g1:¬ 9223372036854775807<3+x.name.size:=by omega
              have g2:¬ 9223372036854775807<3+x.name.size+4:=by omega
              have g3:¬ 9223372036854775807<3+x.name.size+4+TJ.size:=by omega
              have i2:(y.ins.length:Int)>0:=by omega
              clear hnz uk hlen hJ hT hBo
              go_upto_region 11 with fail
              go_region_held3 (fun W'=>W'.cell? ⟨w.heap.size,0,none⟩=some (.string x.name)∧W'.cell? ⟨w.heap.size+1,1,none⟩=some (.slice Di y.ins.length Dci))
                (first|exact hHeld|go_keep|exact hS9|exact hS8)
                (first
                  | (go_at_call 10;(with_reducible refine (cS.out _ hbk _).mono ?_);rintro e wz hZ;obtain ⟨⟨vz,rfl⟩,hSc⟩:=hZ;have hTz:=Lib.hid (hM.out _ hbk _ _ hSc.1 hSc.2.1 hSc.2.2);have hS9:=hS.out _ _ hTz.out;clear hSc)
                  | (go_at_call 63;(with_reducible refine (cJ.out _ hd.out).mono ?_);rintro e wy ⟨rfl,hbB⟩;have hbk:=hd.out.trans (hbB.mono hd.out.size);have hS8:=hS.out _ _ (hbT.out _ hbk)))
              all_goals
                clear g1 g2 g3 i2
                have hT:Hid (TnAt w0 w Sb w.heap.size (boxO (.string x.name) (.slice Ai x.ins.length Aci) (.slice Ao x.outs.length Aco) (.slice Ag x.guards.length Acg) (.slice Ar x.rules.length Acr) (.slice Aw x.owns.length Acw) (.slice Au x.routes.length Acu)) (Mine Sb (w.heap.size+1) (boxO (.string y.name) (.slice Di y.ins.length Dci) (.slice Do y.outs.length Dco) (.slice Dg y.guards.length Dcg) (.slice Dr y.rules.length Dcr) (.slice Dw y.owns.length Dcw) (.slice Du y.routes.length Dcu))) (((l)++x.ins.map (noIn x))++[PAi]) wz):=Lib.hid (by rw [hA.out];exact hTz.out)
                clear hTz
                obtain ⟨wo,rfl⟩:∃ wo,wo=wz:=⟨_,rfl⟩
                obtain ⟨x0,x1,x2,x3,x4,x5,x6⟩:=cells7 hT.out.m.1
                obtain ⟨y0,y1,y2,y3,y4,y5,y6⟩:=cells7 hT.out.k.1
                go_wp2_with fail
                go_end0
                exact hfin.out _ _ hT.out (by rw [hF.out];simp [hI.out]) _
            · have hI:Hid (y.ins.length=0):=Lib.hid (by omega)
              have i2:¬ (y.ins.length:Int)>0:=by omega
              go_wp2_with fail
              go_end0
              exact hfin.out _ _ hT.out (by rw [hF.out];simp [hI.out]) _
  · skip
    go_enter Tryz.func28,Tryz.ntmps28
    go_upto_region 1 with fail
    clear hW1 hW2
    go_region_held3 (fun W'=>W'.cell? ⟨w.heap.size,1,none⟩=some (.slice Ai x.ins.length Aci)∧W'.cell? ⟨w.heap.size,2,none⟩=some (.slice Ao x.outs.length Aco)∧W'.cell? ⟨w.heap.size+1,1,none⟩=some (.slice Di y.ins.length Dci)∧W'.cell? ⟨w.heap.size+1,2,none⟩=some (.slice Do y.outs.length Dco))
      (first|exact hHeld|go_keep|exact hKp.out _ hbk2|exact hKp.out _ hbk)
      (first
        | (go_at_call 51;(with_reducible refine (c2.out _ hbk).mono ?_);rintro e wz ⟨rfl,hbC⟩;have hbk2:=hbk.trans (hbC.mono hbk.size);have hT:=Lib.hid (hTW.out _ hbk2))
        | (go_at_call 51;(with_reducible refine (c1.out _ hd.out).mono ?_);rintro e wy ⟨rfl,hbB⟩;have hbk:=hd.out.trans (hbB.mono hd.out.size)))
    all_goals
      clear c1 c2 hKp hTW hz1 hz2
      go_wp2_with fail
      go_loopw [8] (fun i wr=>i=.int .i64 0∧Hid (TnAt w0 w Sb w.heap.size (boxO (.string x.name) (.slice Ai x.ins.length Aci) (.slice Ao x.outs.length Aco) (.slice Ag x.guards.length Acg) (.slice Ar x.rules.length Acr) (.slice Aw x.owns.length Acw) (.slice Au x.routes.length Acu)) (Mine Sb (w.heap.size+1) (boxO (.string y.name) (.slice Di y.ins.length Dci) (.slice Do y.outs.length Dco) (.slice Dg y.guards.length Dcg) (.slice Dr y.rules.length Dcr) (.slice Dw y.owns.length Dcw) (.slice Du y.routes.length Dcu))) (l) wr)) (fun _ _=>0)
      case atStart=>exact ⟨rfl,hT⟩
      case round=>
        obtain ⟨rfl,HT⟩:=hrel
        obtain ⟨wo,rfl⟩:∃ wo,wo=wr:=⟨_,rfl⟩
        clear hT
        obtain ⟨x0,x1,x2,x3,x4,x5,x6⟩:=cells7 HT.out.m.1
        obtain ⟨y0,y1,y2,y3,y4,y5,y6⟩:=cells7 HT.out.k.1
        have hT:=HT
        clear HT
        go_wp2_with fail
        go_loopw [9] (fun i wr=>∃ k:Nat,k≤x.outs.length∧i=.int .i64 k∧Hid (TnAt w0 w Sb w.heap.size (boxO (.string x.name) (.slice Ai x.ins.length Aci) (.slice Ao x.outs.length Aco) (.slice Ag x.guards.length Acg) (.slice Ar x.rules.length Acr) (.slice Aw x.owns.length Acw) (.slice Au x.routes.length Acu)) (Mine Sb (w.heap.size+1) (boxO (.string y.name) (.slice Di y.ins.length Dci) (.slice Do y.outs.length Dco) (.slice Dg y.guards.length Dcg) (.slice Dr y.rules.length Dcr) (.slice Dw y.owns.length Dcw) (.slice Du y.routes.length Dcu))) ((l)++(x.outs.take k).map (noOut x)) wr)) (fun i _=>x.outs.length-(intOf i).toNat)
        case atStart=>exact ⟨0,Nat.zero_le _,rfl,Lib.hid (by rw [List.take_zero,List.map_nil,List.append_nil];exact hT.out)⟩
        case round=>
          obtain ⟨k,hk,rfl,HT⟩:=hrel
          obtain ⟨wo,rfl⟩:∃ wo,wo=wr:=⟨_,rfl⟩
          clear hT
          by_cases hlt:k<x.outs.length
          · have tk:=touts.out.keep (w':=wo) (Nat.le_refl _) (HT.out.keeps h.out hB)
            obtain ⟨b,off,rfl⟩:=SlOf.addr tk (by omega)
            obtain ⟨hbB,q,hq,hqs,e1⟩:=texts_el tk hlt
            have hq1:w.cell? ⟨b,off+k,none⟩=some (.string q):=(HT.out.keeps h.out hB b _ hbB).symm.trans e1
            have hS:Hid (∀ L W,TnAt w0 w Sb w.heap.size (boxO (.string x.name) (.slice Ai x.ins.length Aci) (.slice (some ⟨b,off,none⟩) x.outs.length Aco) (.slice Ag x.guards.length Acg) (.slice Ar x.rules.length Acr) (.slice Aw x.owns.length Acw) (.slice Au x.routes.length Acu)) (Mine Sb (w.heap.size+1) (boxO (.string y.name) (.slice Di y.ins.length Dci) (.slice Do y.outs.length Dco) (.slice Dg y.guards.length Dcg) (.slice Dr y.rules.length Dcr) (.slice Dw y.owns.length Dcw) (.slice Du y.routes.length Dcu))) (L) W→(W.cell? ⟨w.heap.size,0,none⟩=some (.string x.name)∧W.cell? ⟨w.heap.size,2,none⟩=some (.slice (some ⟨b,off,none⟩) x.outs.length Aco)∧W.cell? ⟨b,off+k,none⟩=some (.string q))):=Lib.hid fun L W hT=>⟨(cells7 hT.m.1).1,(cells7 hT.m.1).2.2.1,(hT.keeps h.out hB b _ hbB).trans hq1⟩
            have hlen:((l)++(x.outs.take k).map (noOut x)).length≤1000000:=by have:=hll.out;have h3:=List.length_take_le k x.outs;simp only [List.length_append,List.length_map] at *;omega
            have cS:=Lib.hid fun W (hb:Below wo.heap.size wo W)=>fun s=>d_say s (HT.out.s.below hb) hlen
            have hM:=Lib.hid fun W (hb:Below wo.heap.size wo W)=>fun z L' (h1:ScA w0 Sb L' z) (h2:KeepX Sb W z) h3=>(HT.out.below hK.out hb).moved hK.out h1 h2 h3
            have hd:=Lib.hid (Below.refl wo.heap.size wo).drew
            obtain ⟨x0,x1,x2,x3,x4,x5,x6⟩:=cells7 HT.out.m.1
            have hnz:=hnm.out
            have hts:Hid ((x.outs.take (k+1)).map (noOut x)=(x.outs.take k).map (noOut x)++[noOut x q]):=Lib.hid (by rw [List.take_add_one,hq];simp)
            have g1:¬ 9223372036854775807<6+x.name.size:=by omega
            have g2:¬ 9223372036854775807<6+x.name.size+5:=by omega
            have g3:¬ 9223372036854775807<6+x.name.size+5+q.size:=by omega
            have i1:(k:Int)<(x.outs.length:Int):=by omega
            clear hnz hq tk HT hlen hq1
            go_upto_region 9 with fail
            go_region_held3 (fun W'=>W'.cell? ⟨w.heap.size,0,none⟩=some (.string x.name)∧W'.cell? ⟨w.heap.size,2,none⟩=some (.slice (some ⟨b,off,none⟩) x.outs.length Aco)∧W'.cell? ⟨b,off+k,none⟩=some (.string q))
              (first|exact hHeld|go_keep|exact hS9)
              ((go_at_call 10;(with_reducible refine (cS.out _ hd.out _).mono ?_);rintro e wz hZ;obtain ⟨⟨vz,rfl⟩,hSc⟩:=hZ;have hTz:=Lib.hid (hM.out _ hd.out _ _ hSc.1 hSc.2.1 hSc.2.2);have hS9:=hS.out _ _ hTz.out;clear hSc))
            all_goals
              go_wp2_with fail
              go_roundw
              case rel=>exact ⟨k+1,by omega,by go_num,Lib.hid (by rw [hts.out,← List.append_assoc];exact hTz.out)⟩
              case measure=>simp [intOf];omega
          · have hT:Hid (TnAt w0 w Sb w.heap.size (boxO (.string x.name) (.slice Ai x.ins.length Aci) (.slice Ao x.outs.length Aco) (.slice Ag x.guards.length Acg) (.slice Ar x.rules.length Acr) (.slice Aw x.owns.length Acw) (.slice Au x.routes.length Acu)) (Mine Sb (w.heap.size+1) (boxO (.string y.name) (.slice Di y.ins.length Dci) (.slice Do y.outs.length Dco) (.slice Dg y.guards.length Dcg) (.slice Dr y.rules.length Dcr) (.slice Dw y.owns.length Dcw) (.slice Du y.routes.length Dcu))) ((l)++x.outs.map (noOut x)) wo):=Lib.hid (by rw [List.take_of_length_le (by omega)] at HT;exact HT.out)
            clear HT
            obtain ⟨x0,x1,x2,x3,x4,x5,x6⟩:=cells7 hT.out.m.1
            obtain ⟨y0,y1,y2,y3,y4,y5,y6⟩:=cells7 hT.out.k.1
            by_cases hy0:0<y.outs.length
            · have hO:Hid (¬ y.outs.length=0):=Lib.hid (by omega)
              have uk:=uouts.out.keep (w':=wo) (Nat.le_refl _) (hT.out.keeps h.out hB)
              have hBo:B≤wo.heap.size:=by have:=hT.out.s.lt;omega
              have cJ:=Lib.hid fun W (hb:Below wo.heap.size wo W)=>j_text y.outs _ ⟨#[32]⟩ B W (uk.keep (Nat.le_refl _) (keepB hb hBo)) (Nat.le_trans hBo hb.size) hy0 n2.out.1 (by decide) n2.out.2
              have hS:Hid (∀ L W,TnAt w0 w Sb w.heap.size (boxO (.string x.name) (.slice Ai x.ins.length Aci) (.slice Ao x.outs.length Aco) (.slice Ag x.guards.length Acg) (.slice Ar x.rules.length Acr) (.slice Aw x.owns.length Acw) (.slice Au x.routes.length Acu)) (Mine Sb (w.heap.size+1) (boxO (.string y.name) (.slice Di y.ins.length Dci) (.slice Do y.outs.length Dco) (.slice Dg y.guards.length Dcg) (.slice Dr y.rules.length Dcr) (.slice Dw y.owns.length Dcw) (.slice Du y.routes.length Dcu))) (L) W→(W.cell? ⟨w.heap.size,0,none⟩=some (.string x.name)∧W.cell? ⟨w.heap.size+1,2,none⟩=some (.slice Do y.outs.length Dco))):=Lib.hid fun L W hT=>⟨(cells7 hT.m.1).1,(cells7 hT.k.1).2.2.1⟩
              have hlen:((l)++x.outs.map (noOut x)).length≤1000000:=by have:=hll.out;simp only [List.length_append,List.length_map,List.length_cons,List.length_nil] at *;omega
              have cS:=Lib.hid fun W (hb:Below wo.heap.size wo W)=>fun s=>d_say s (hT.out.s.below hb) hlen
              have hM:=Lib.hid fun W (hb:Below wo.heap.size wo W)=>fun z L' (h1:ScA w0 Sb L' z) (h2:KeepX Sb W z) h3=>(hT.out.below hK.out hb).moved hK.out h1 h2 h3
              have hbT:=Lib.hid fun W (hb:Below wo.heap.size wo W)=>hT.out.below hK.out hb
              have hd:=Lib.hid (Below.refl wo.heap.size wo).drew
              have hJ:(joinT y.outs ⟨#[32]⟩).size≤100000:=by
                have h9:=joinT_le n2.out.1 ⟨#[32]⟩
                have h8:=n2.out.2
                have h7:(ByteArray.mk #[32]).size=1:=rfl
                rw [h7] at h9
                omega
              have hA:Hid (atOut x y.outs=((ba [97,116,32]++x.name)++ba [32,111,117,116,32])++joinT y.outs ⟨#[32]⟩):=Lib.hid rfl
              generalize joinT y.outs ⟨#[32]⟩=TJ at *
              generalize atOut x y.outs=PAo at *
              have hnz:=hnm.out
              have g1:¬ 9223372036854775807<3+x.name.size:=by omega
              have g2:¬ 9223372036854775807<3+x.name.size+5:=by omega
              have g3:¬ 9223372036854775807<3+x.name.size+5+TJ.size:=by omega
              have i2:(y.outs.length:Int)>0:=by omega
              clear hnz uk hlen hJ hT hBo
              go_upto_region 13 with fail
              go_region_held3 (fun W'=>W'.cell? ⟨w.heap.size,0,none⟩=some (.string x.name)∧W'.cell? ⟨w.heap.size+1,2,none⟩=some (.slice Do y.outs.length Dco))
                (first|exact hHeld|go_keep|exact hS9|exact hS8)
                (first
                  | (go_at_call 10;(with_reducible refine (cS.out _ hbk _).mono ?_);rintro e wz hZ;obtain ⟨⟨vz,rfl⟩,hSc⟩:=hZ;have hTz:=Lib.hid (hM.out _ hbk _ _ hSc.1 hSc.2.1 hSc.2.2);have hS9:=hS.out _ _ hTz.out;clear hSc)
                  | (go_at_call 63;(with_reducible refine (cJ.out _ hd.out).mono ?_);rintro e wy ⟨rfl,hbB⟩;have hbk:=hd.out.trans (hbB.mono hd.out.size);have hS8:=hS.out _ _ (hbT.out _ hbk)))
              all_goals
                clear g1 g2 g3 i2
                have hT:Hid (TnAt w0 w Sb w.heap.size (boxO (.string x.name) (.slice Ai x.ins.length Aci) (.slice Ao x.outs.length Aco) (.slice Ag x.guards.length Acg) (.slice Ar x.rules.length Acr) (.slice Aw x.owns.length Acw) (.slice Au x.routes.length Acu)) (Mine Sb (w.heap.size+1) (boxO (.string y.name) (.slice Di y.ins.length Dci) (.slice Do y.outs.length Dco) (.slice Dg y.guards.length Dcg) (.slice Dr y.rules.length Dcr) (.slice Dw y.owns.length Dcw) (.slice Du y.routes.length Dcu))) (((l)++x.outs.map (noOut x))++[PAo]) wz):=Lib.hid (by rw [hA.out];exact hTz.out)
                clear hTz
                obtain ⟨wo,rfl⟩:∃ wo,wo=wz:=⟨_,rfl⟩
                obtain ⟨x0,x1,x2,x3,x4,x5,x6⟩:=cells7 hT.out.m.1
                obtain ⟨y0,y1,y2,y3,y4,y5,y6⟩:=cells7 hT.out.k.1
                go_wp2_with fail
                go_end0
                exact hfin.out _ _ hT.out (by rw [hF.out];simp [hO.out]) _
            · have hO:Hid (y.outs.length=0):=Lib.hid (by omega)
              have i2:¬ (y.outs.length:Int)>0:=by omega
              go_wp2_with fail
              go_end0
              exact hfin.out _ _ hT.out (by rw [hF.out];simp [hO.out]) _
  · skip
    go_enter Tryz.func28,Tryz.ntmps28
    go_upto_region 1 with fail
    clear hW1 hW2
    go_region_held3 (fun W'=>W'.cell? ⟨w.heap.size,1,none⟩=some (.slice Ai x.ins.length Aci)∧W'.cell? ⟨w.heap.size,2,none⟩=some (.slice Ao x.outs.length Aco)∧W'.cell? ⟨w.heap.size+1,1,none⟩=some (.slice Di y.ins.length Dci)∧W'.cell? ⟨w.heap.size+1,2,none⟩=some (.slice Do y.outs.length Dco))
      (first|exact hHeld|go_keep|exact hKp.out _ hbk2|exact hKp.out _ hbk)
      (first
        | (go_at_call 51;(with_reducible refine (c2.out _ hbk).mono ?_);rintro e wz ⟨rfl,hbC⟩;have hbk2:=hbk.trans (hbC.mono hbk.size);have hT:=Lib.hid (hTW.out _ hbk2))
        | (go_at_call 51;(with_reducible refine (c1.out _ hd.out).mono ?_);rintro e wy ⟨rfl,hbB⟩;have hbk:=hd.out.trans (hbB.mono hd.out.size)))
    all_goals
      clear c1 c2 hKp hTW hz1 hz2
      go_wp2_with fail
      go_loopw [8] (fun i wr=>i=.int .i64 0∧Hid (TnAt w0 w Sb w.heap.size (boxO (.string x.name) (.slice Ai x.ins.length Aci) (.slice Ao x.outs.length Aco) (.slice Ag x.guards.length Acg) (.slice Ar x.rules.length Acr) (.slice Aw x.owns.length Acw) (.slice Au x.routes.length Acu)) (Mine Sb (w.heap.size+1) (boxO (.string y.name) (.slice Di y.ins.length Dci) (.slice Do y.outs.length Dco) (.slice Dg y.guards.length Dcg) (.slice Dr y.rules.length Dcr) (.slice Dw y.owns.length Dcw) (.slice Du y.routes.length Dcu))) (l) wr)) (fun _ _=>0)
      case atStart=>exact ⟨rfl,hT⟩
      case round=>
        obtain ⟨rfl,HT⟩:=hrel
        obtain ⟨wo,rfl⟩:∃ wo,wo=wr:=⟨_,rfl⟩
        clear hT
        obtain ⟨x0,x1,x2,x3,x4,x5,x6⟩:=cells7 HT.out.m.1
        obtain ⟨y0,y1,y2,y3,y4,y5,y6⟩:=cells7 HT.out.k.1
        have hT:=HT
        clear HT
        go_wp2_with fail
        go_loopw [9] (fun i wr=>i=.int .i64 0∧Hid (TnAt w0 w Sb w.heap.size (boxO (.string x.name) (.slice Ai x.ins.length Aci) (.slice Ao x.outs.length Aco) (.slice Ag x.guards.length Acg) (.slice Ar x.rules.length Acr) (.slice Aw x.owns.length Acw) (.slice Au x.routes.length Acu)) (Mine Sb (w.heap.size+1) (boxO (.string y.name) (.slice Di y.ins.length Dci) (.slice Do y.outs.length Dco) (.slice Dg y.guards.length Dcg) (.slice Dr y.rules.length Dcr) (.slice Dw y.owns.length Dcw) (.slice Du y.routes.length Dcu))) (l) wr)) (fun _ _=>0)
        case atStart=>exact ⟨rfl,hT⟩
        case round=>
          obtain ⟨rfl,HT⟩:=hrel
          obtain ⟨wo,rfl⟩:∃ wo,wo=wr:=⟨_,rfl⟩
          clear hT
          obtain ⟨x0,x1,x2,x3,x4,x5,x6⟩:=cells7 HT.out.m.1
          obtain ⟨y0,y1,y2,y3,y4,y5,y6⟩:=cells7 HT.out.k.1
          have hT:=HT
          clear HT
          go_wp2_with fail
          go_end0
          exact hfin.out _ _ hT.out (by rw [hF.out];simp []) _
end Go.Proofs.YtdhehcobnbcmdaaGreatDoor
