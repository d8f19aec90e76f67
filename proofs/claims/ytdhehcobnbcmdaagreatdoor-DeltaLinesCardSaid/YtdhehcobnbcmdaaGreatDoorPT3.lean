/- A part of the proof of DeltaLines: Trn3 Trn4. -/
import Derived.Test.YtdhehcobnbcmdaaGreatDoorPT1
set_option linter.all false
namespace Go.Proofs.YtdhehcobnbcmdaaGreatDoor
open Go.RowKit
def Ent (fn:Nat):Prop:=∀ a w,(callFunc fn a).run Tryz.prog w=.ok (.enter fn a) w
def ixL {α : Type}(p : α→Bool):List α→Nat→Int
  | [],_=>-1
  | x::r,k=>if p x=true then (k:Int) else ixL p r (k+1)
theorem ixL_drop {α : Type}{p : α→Bool}{l:List α}{k:Nat}{x : α}(hx:l[k]?=some x):ixL p (l.drop k) k=if p x=true then (k:Int) else ixL p (l.drop (k+1)) (k+1):=by rw [drop_at hx];rfl
theorem ixL_any {α : Type}(p : α→Bool):∀ (l:List α) (k:Nat),decide (ixL p l k≥0)=l.any p
  | [],_=>rfl
  | x :: r, k => by
    unfold ixL
    rw [List.any_cons]
    cases h:p x
    · simpa using ixL_any p r (k+1)
    · simp
set_option maxHeartbeats 2000000 in
set_option maxRecDepth 100000 in
theorem ix_Link (l : List LinkS) (v : Value) (fn : Nat) (cap : Array Value) (p : LinkS → Bool) (B : Nat) (w : World) (hl : SlOf 3 LinkC w B v l) (hB : B ≤ w.heap.size) (hcf : Ent fn)
    (hp:∀ W c x,Below w.heap.size w W→LinkC W B c x→Calls Tryz.prog fn (#[.agg c.toArray]++cap) W (BoolW (p x) W)) :
    Calls Tryz.prog 75 #[v, .func (.func fn) #[] cap] w fun e w'=>e=.returned (.int .i64 (ixL p l 0))∧Below w.heap.size w w':=by
  obtain ⟨A,ca,rfl,ha1,ha2⟩:=SlOf.form hl
  have hb0:=Lib.hid (Below.refl w.heap.size w)
  have hR0:Hid (ixL p l 0=ixL p (l.drop 0) 0):=Lib.hid rfl
  generalize ixL p l 0=R at *
  replace hl:=Lib.hid hl
  replace hp:=Lib.hid hp
  have hcf':∀ a w,(callFunc fn a).run Tryz.prog w=.ok (.enter fn a) w:=hcf
  clear hcf
  go_enter Tryz.func75,Tryz.ntmps75
  go_wp2_with fail
  go_loopw [8] (fun i wr=>∃ k:Nat,k≤l.length∧i=.int .i64 k∧Hid (R=ixL p (l.drop k) k)∧Hid (Below w.heap.size w wr)) (fun i _=>l.length-(intOf i).toNat)
  case atStart=>exact ⟨0,Nat.zero_le _,rfl,hR0,hb0⟩
  case round=>
    obtain ⟨k,hk,rfl,HR,hbw⟩:=hrel
    obtain ⟨wo,rfl⟩:∃ wo,wo=wr:=⟨_,rfl⟩
    clear hR0 hb0
    by_cases hlt:k<l.length
    · have h1:=hl.out.keep (w':=wo) (Nat.le_refl _) (keepB hbw.out hB) fun _ _ h=>h
      obtain ⟨b,off,rfl⟩:=SlOf.addr h1 (by omega)
      obtain ⟨_,c,x,hx,hc,hj⟩:=SlOf.el h1 hlt
      have cP:=Lib.hid (hp.out wo c x hbw.out hc)
      obtain rfl:=hc.1
      have e0:wo.cell? ⟨b,off+k*3,none⟩=some (.string x.frm):=hj 0 _ rfl
      have e1:wo.cell? ⟨b,off+k*3+1,none⟩=some (.string x.dst):=hj 1 _ rfl
      have e2:wo.cell? ⟨b,off+k*3+2,none⟩=some (I6 x.cost):=hj 2 _ rfl
      have HS:=Lib.hid (HR.out.trans (ixL_drop hx))
      clear HR hx h1 hj
      replace cP:Hid (Calls Tryz.prog fn (#[.agg #[.string x.frm, .string x.dst,I6 x.cost]]++cap) wo (BoolW (p x) wo)):=cP
      cases hpx:p x
      · rw [hpx] at cP HS
        replace HS:=Lib.hid (show R=ixL p (l.drop (k+1)) (k+1) from HS.out)
        go_wp2_with ((with_reducible refine (cP.out).mono ?_);rintro e wy ⟨rfl,hbB⟩)
        go_roundw
        case rel=>exact ⟨k+1,by omega,by go_num,HS,Lib.hid (hbw.out.trans (hbB.mono hbw.out.size))⟩
        case measure=>simp [intOf];omega
      · rw [hpx] at cP HS
        replace HS:=Lib.hid (show R=(k:Int) from HS.out)
        go_wp2_with ((with_reducible refine (cP.out).mono ?_);rintro e wy ⟨rfl,hbB⟩)
        go_ret
        exact ⟨by rw [HS.out];rfl,hbw.out.trans (hbB.mono hbw.out.size)⟩
    · have HF:Hid (R = -1):=Lib.hid (by rw [HR.out,List.drop_of_length_le (by omega)];rfl)
      clear HR
      go_wp2_with fail
      go_ret
      exact ⟨by rw [HF.out];rfl,hbw.out⟩
theorem cf_Link (l:List LinkS)(v:Value)(fn:Nat)(cap:Array Value)(p:LinkS→Bool)(B:Nat)(w:World)(hl:SlOf 3 LinkC w B v l)(hB:B≤w.heap.size)(hcf:Ent fn)
    (hp:∀ W c x,Below w.heap.size w W→LinkC W B c x→Calls Tryz.prog fn (#[.agg c.toArray]++cap) W (BoolW (p x) W)) :
    Calls Tryz.prog 42 #[v, .func (.func fn) #[] cap] w (BoolW (l.any p) w):=by
  have c:=Lib.hid (ix_Link l v fn cap p B w hl hB hcf hp)
  have hR:=Lib.hid (ixL_any p l 0)
  generalize l.any p=R at *
  generalize ixL p l 0=I at *
  obtain ⟨A,ca,rfl,ha1,ha2⟩:=SlOf.form hl
  clear hl hp
  go_enter Tryz.func42,Tryz.ntmps42
  go_wp2_with (go_at_call 75;(with_reducible refine (c.out).mono ?_);rintro e wy ⟨rfl,hbB⟩)
  go_ret
  exact ⟨by rw [← hR.out];rfl,hbB⟩
set_option maxHeartbeats 2000000 in
set_option maxRecDepth 100000 in
theorem ix_Pref (l : List PrefS) (v : Value) (fn : Nat) (cap : Array Value) (p : PrefS → Bool) (B : Nat) (w : World) (hl : SlOf 3 PrefC w B v l) (hB : B ≤ w.heap.size) (hcf : Ent fn)
    (hp:∀ W c x,Below w.heap.size w W→PrefC W B c x→Calls Tryz.prog fn (#[.agg c.toArray]++cap) W (BoolW (p x) W)) :
    Calls Tryz.prog 106 #[v, .func (.func fn) #[] cap] w fun e w'=>e=.returned (.int .i64 (ixL p l 0))∧Below w.heap.size w w':=by
  obtain ⟨A,ca,rfl,ha1,ha2⟩:=SlOf.form hl
  have hb0:=Lib.hid (Below.refl w.heap.size w)
  have hR0:Hid (ixL p l 0=ixL p (l.drop 0) 0):=Lib.hid rfl
  generalize ixL p l 0=R at *
  replace hl:=Lib.hid hl
  replace hp:=Lib.hid hp
  have hcf':∀ a w,(callFunc fn a).run Tryz.prog w=.ok (.enter fn a) w:=hcf
  clear hcf
  go_enter Tryz.func106,Tryz.ntmps106
  go_wp2_with fail
  go_loopw [8] (fun i wr=>∃ k:Nat,k≤l.length∧i=.int .i64 k∧Hid (R=ixL p (l.drop k) k)∧Hid (Below w.heap.size w wr)) (fun i _=>l.length-(intOf i).toNat)
  case atStart=>exact ⟨0,Nat.zero_le _,rfl,hR0,hb0⟩
  case round=>
    obtain ⟨k,hk,rfl,HR,hbw⟩:=hrel
    obtain ⟨wo,rfl⟩:∃ wo,wo=wr:=⟨_,rfl⟩
    clear hR0 hb0
    by_cases hlt:k<l.length
    · have h1:=hl.out.keep (w':=wo) (Nat.le_refl _) (keepB hbw.out hB) fun _ _ h=>h
      obtain ⟨b,off,rfl⟩:=SlOf.addr h1 (by omega)
      obtain ⟨_,c,x,hx,hc,hj⟩:=SlOf.el h1 hlt
      have cP:=Lib.hid (hp.out wo c x hbw.out hc)
      obtain rfl:=hc.1
      have e0:wo.cell? ⟨b,off+k*3,none⟩=some (I6 x.value):=hj 0 _ rfl
      have e1:wo.cell? ⟨b,off+k*3+1,none⟩=some (I6 x.len):=hj 1 _ rfl
      have e2:wo.cell? ⟨b,off+k*3+2,none⟩=some (.string x.dst):=hj 2 _ rfl
      have HS:=Lib.hid (HR.out.trans (ixL_drop hx))
      clear HR hx h1 hj
      replace cP:Hid (Calls Tryz.prog fn (#[.agg #[I6 x.value,I6 x.len, .string x.dst]]++cap) wo (BoolW (p x) wo)):=cP
      cases hpx:p x
      · rw [hpx] at cP HS
        replace HS:=Lib.hid (show R=ixL p (l.drop (k+1)) (k+1) from HS.out)
        go_wp2_with ((with_reducible refine (cP.out).mono ?_);rintro e wy ⟨rfl,hbB⟩)
        go_roundw
        case rel=>exact ⟨k+1,by omega,by go_num,HS,Lib.hid (hbw.out.trans (hbB.mono hbw.out.size))⟩
        case measure=>simp [intOf];omega
      · rw [hpx] at cP HS
        replace HS:=Lib.hid (show R=(k:Int) from HS.out)
        go_wp2_with ((with_reducible refine (cP.out).mono ?_);rintro e wy ⟨rfl,hbB⟩)
        go_ret
        exact ⟨by rw [HS.out];rfl,hbw.out.trans (hbB.mono hbw.out.size)⟩
    · have HF:Hid (R = -1):=Lib.hid (by rw [HR.out,List.drop_of_length_le (by omega)];rfl)
      clear HR
      go_wp2_with fail
      go_ret
      exact ⟨by rw [HF.out];rfl,hbw.out⟩
theorem cf_Pref (l:List PrefS)(v:Value)(fn:Nat)(cap:Array Value)(p:PrefS→Bool)(B:Nat)(w:World)(hl:SlOf 3 PrefC w B v l)(hB:B≤w.heap.size)(hcf:Ent fn)
    (hp:∀ W c x,Below w.heap.size w W→PrefC W B c x→Calls Tryz.prog fn (#[.agg c.toArray]++cap) W (BoolW (p x) W)) :
    Calls Tryz.prog 72 #[v, .func (.func fn) #[] cap] w (BoolW (l.any p) w):=by
  have c:=Lib.hid (ix_Pref l v fn cap p B w hl hB hcf hp)
  have hR:=Lib.hid (ixL_any p l 0)
  generalize l.any p=R at *
  generalize ixL p l 0=I at *
  obtain ⟨A,ca,rfl,ha1,ha2⟩:=SlOf.form hl
  clear hl hp
  go_enter Tryz.func72,Tryz.ntmps72
  go_wp2_with (go_at_call 106;(with_reducible refine (c.out).mono ?_);rintro e wy ⟨rfl,hbB⟩)
  go_ret
  exact ⟨by rw [← hR.out];rfl,hbB⟩
set_option maxHeartbeats 2000000 in
set_option maxRecDepth 100000 in
theorem ix_Slice (l : List SliceS) (v : Value) (fn : Nat) (cap : Array Value) (p : SliceS → Bool) (B : Nat) (w : World) (hl : SlOf 3 SliceC w B v l) (hB : B ≤ w.heap.size) (hcf : Ent fn)
    (hp:∀ W c x,Below w.heap.size w W→SliceC W B c x→Calls Tryz.prog fn (#[.agg c.toArray]++cap) W (BoolW (p x) W)) :
    Calls Tryz.prog 91 #[v, .func (.func fn) #[] cap] w fun e w'=>e=.returned (.int .i64 (ixL p l 0))∧Below w.heap.size w w':=by
  obtain ⟨A,ca,rfl,ha1,ha2⟩:=SlOf.form hl
  have hb0:=Lib.hid (Below.refl w.heap.size w)
  have hR0:Hid (ixL p l 0=ixL p (l.drop 0) 0):=Lib.hid rfl
  generalize ixL p l 0=R at *
  replace hl:=Lib.hid hl
  replace hp:=Lib.hid hp
  have hcf':∀ a w,(callFunc fn a).run Tryz.prog w=.ok (.enter fn a) w:=hcf
  clear hcf
  go_enter Tryz.func91,Tryz.ntmps91
  go_wp2_with fail
  go_loopw [8] (fun i wr=>∃ k:Nat,k≤l.length∧i=.int .i64 k∧Hid (R=ixL p (l.drop k) k)∧Hid (Below w.heap.size w wr)) (fun i _=>l.length-(intOf i).toNat)
  case atStart=>exact ⟨0,Nat.zero_le _,rfl,hR0,hb0⟩
  case round=>
    obtain ⟨k,hk,rfl,HR,hbw⟩:=hrel
    obtain ⟨wo,rfl⟩:∃ wo,wo=wr:=⟨_,rfl⟩
    clear hR0 hb0
    by_cases hlt:k<l.length
    · have h1:=hl.out.keep (w':=wo) (Nat.le_refl _) (keepB hbw.out hB) fun _ _ h=>h.keep (Nat.le_refl _) (keepB hbw.out hB)
      obtain ⟨b,off,rfl⟩:=SlOf.addr h1 (by omega)
      obtain ⟨_,c,x,hx,hc,hj⟩:=SlOf.el h1 hlt
      have cP:=Lib.hid (hp.out wo c x hbw.out hc)
      obtain ⟨Ap,cp,Aw,cw,rfl,_⟩:=slice_form hc
      have e0:wo.cell? ⟨b,off+k*3,none⟩=some (.string x.name):=hj 0 _ rfl
      have e1:wo.cell? ⟨b,off+k*3+1,none⟩=some (.slice Ap x.ports.length cp):=hj 1 _ rfl
      have e2:wo.cell? ⟨b,off+k*3+2,none⟩=some (.slice Aw x.whr.length cw):=hj 2 _ rfl
      have HS:=Lib.hid (HR.out.trans (ixL_drop hx))
      clear HR hx h1 hj
      replace cP:Hid (Calls Tryz.prog fn (#[.agg #[.string x.name, .slice Ap x.ports.length cp, .slice Aw x.whr.length cw]]++cap) wo (BoolW (p x) wo)):=cP
      cases hpx:p x
      · rw [hpx] at cP HS
        replace HS:=Lib.hid (show R=ixL p (l.drop (k+1)) (k+1) from HS.out)
        go_wp2_with ((with_reducible refine (cP.out).mono ?_);rintro e wy ⟨rfl,hbB⟩)
        go_roundw
        case rel=>exact ⟨k+1,by omega,by go_num,HS,Lib.hid (hbw.out.trans (hbB.mono hbw.out.size))⟩
        case measure=>simp [intOf];omega
      · rw [hpx] at cP HS
        replace HS:=Lib.hid (show R=(k:Int) from HS.out)
        go_wp2_with ((with_reducible refine (cP.out).mono ?_);rintro e wy ⟨rfl,hbB⟩)
        go_ret
        exact ⟨by rw [HS.out];rfl,hbw.out.trans (hbB.mono hbw.out.size)⟩
    · have HF:Hid (R = -1):=Lib.hid (by rw [HR.out,List.drop_of_length_le (by omega)];rfl)
      clear HR
      go_wp2_with fail
      go_ret
      exact ⟨by rw [HF.out];rfl,hbw.out⟩
theorem cf_Slice (l:List SliceS)(v:Value)(fn:Nat)(cap:Array Value)(p:SliceS→Bool)(B:Nat)(w:World)(hl:SlOf 3 SliceC w B v l)(hB:B≤w.heap.size)(hcf:Ent fn)
    (hp:∀ W c x,Below w.heap.size w W→SliceC W B c x→Calls Tryz.prog fn (#[.agg c.toArray]++cap) W (BoolW (p x) W)) :
    Calls Tryz.prog 48 #[v, .func (.func fn) #[] cap] w (BoolW (l.any p) w):=by
  have c:=Lib.hid (ix_Slice l v fn cap p B w hl hB hcf hp)
  have hR:=Lib.hid (ixL_any p l 0)
  generalize l.any p=R at *
  generalize ixL p l 0=I at *
  obtain ⟨A,ca,rfl,ha1,ha2⟩:=SlOf.form hl
  clear hl hp
  go_enter Tryz.func48,Tryz.ntmps48
  go_wp2_with (go_at_call 91;(with_reducible refine (c.out).mono ?_);rintro e wy ⟨rfl,hbB⟩)
  go_ret
  exact ⟨by rw [← hR.out];rfl,hbB⟩
set_option maxHeartbeats 2000000 in
set_option maxRecDepth 100000 in
theorem ix_Rule (l : List RuleS) (v : Value) (fn : Nat) (cap : Array Value) (p : RuleS → Bool) (B : Nat) (w : World) (hl : SlOf 5 RuleD w B v l) (hB : B ≤ w.heap.size) (hcf : Ent fn)
    (hp:∀ W c x,Below w.heap.size w W→RuleD W B c x→Calls Tryz.prog fn (#[.agg c.toArray]++cap) W (BoolW (p x) W)) :
    Calls Tryz.prog 103 #[v, .func (.func fn) #[] cap] w fun e w'=>e=.returned (.int .i64 (ixL p l 0))∧Below w.heap.size w w':=by
  obtain ⟨A,ca,rfl,ha1,ha2⟩:=SlOf.form hl
  have hb0:=Lib.hid (Below.refl w.heap.size w)
  have hR0:Hid (ixL p l 0=ixL p (l.drop 0) 0):=Lib.hid rfl
  generalize ixL p l 0=R at *
  replace hl:=Lib.hid hl
  replace hp:=Lib.hid hp
  have hcf':∀ a w,(callFunc fn a).run Tryz.prog w=.ok (.enter fn a) w:=hcf
  clear hcf
  go_enter Tryz.func103,Tryz.ntmps103
  go_wp2_with fail
  go_loopw [8] (fun i wr=>∃ k:Nat,k≤l.length∧i=.int .i64 k∧Hid (R=ixL p (l.drop k) k)∧Hid (Below w.heap.size w wr)) (fun i _=>l.length-(intOf i).toNat)
  case atStart=>exact ⟨0,Nat.zero_le _,rfl,hR0,hb0⟩
  case round=>
    obtain ⟨k,hk,rfl,HR,hbw⟩:=hrel
    obtain ⟨wo,rfl⟩:∃ wo,wo=wr:=⟨_,rfl⟩
    clear hR0 hb0
    by_cases hlt:k<l.length
    · have h1:=hl.out.keep (w':=wo) (Nat.le_refl _) (keepB hbw.out hB) fun _ _ h=>h.keep (Nat.le_refl _) (keepB hbw.out hB)
      obtain ⟨b,off,rfl⟩:=SlOf.addr h1 (by omega)
      obtain ⟨_,c,x,hx,hc,hj⟩:=SlOf.el h1 hlt
      have cP:=Lib.hid (hp.out wo c x hbw.out hc)
      obtain ⟨Af,cf,Am,cm,As,cq,At,ct,rfl,_⟩:=rule_form hc.1
      have e0:wo.cell? ⟨b,off+k*5,none⟩=some (I6 x.prio):=hj 0 _ rfl
      have e1:wo.cell? ⟨b,off+k*5+1,none⟩=some (.slice Af x.frm.length cf):=hj 1 _ rfl
      have e2:wo.cell? ⟨b,off+k*5+2,none⟩=some (.slice Am x.mat.length cm):=hj 2 _ rfl
      have e3:wo.cell? ⟨b,off+k*5+3,none⟩=some (.slice As x.sets.length cq):=hj 3 _ rfl
      have e4:wo.cell? ⟨b,off+k*5+4,none⟩=some (.slice At x.dst.length ct):=hj 4 _ rfl
      have HS:=Lib.hid (HR.out.trans (ixL_drop hx))
      clear HR hx h1 hj
      replace cP:Hid (Calls Tryz.prog fn (#[.agg #[I6 x.prio, .slice Af x.frm.length cf, .slice Am x.mat.length cm, .slice As x.sets.length cq, .slice At x.dst.length ct]]++cap) wo (BoolW (p x) wo)):=cP
      cases hpx:p x
      · rw [hpx] at cP HS
        replace HS:=Lib.hid (show R=ixL p (l.drop (k+1)) (k+1) from HS.out)
        go_wp2_with ((with_reducible refine (cP.out).mono ?_);rintro e wy ⟨rfl,hbB⟩)
        go_roundw
        case rel=>exact ⟨k+1,by omega,by go_num,HS,Lib.hid (hbw.out.trans (hbB.mono hbw.out.size))⟩
        case measure=>simp [intOf];omega
      · rw [hpx] at cP HS
        replace HS:=Lib.hid (show R=(k:Int) from HS.out)
        go_wp2_with ((with_reducible refine (cP.out).mono ?_);rintro e wy ⟨rfl,hbB⟩)
        go_ret
        exact ⟨by rw [HS.out];rfl,hbw.out.trans (hbB.mono hbw.out.size)⟩
    · have HF:Hid (R = -1):=Lib.hid (by rw [HR.out,List.drop_of_length_le (by omega)];rfl)
      clear HR
      go_wp2_with fail
      go_ret
      exact ⟨by rw [HF.out];rfl,hbw.out⟩
theorem cf_Rule (l:List RuleS)(v:Value)(fn:Nat)(cap:Array Value)(p:RuleS→Bool)(B:Nat)(w:World)(hl:SlOf 5 RuleD w B v l)(hB:B≤w.heap.size)(hcf:Ent fn)
    (hp:∀ W c x,Below w.heap.size w W→RuleD W B c x→Calls Tryz.prog fn (#[.agg c.toArray]++cap) W (BoolW (p x) W)) :
    Calls Tryz.prog 67 #[v, .func (.func fn) #[] cap] w (BoolW (l.any p) w):=by
  have c:=Lib.hid (ix_Rule l v fn cap p B w hl hB hcf hp)
  have hR:=Lib.hid (ixL_any p l 0)
  generalize l.any p=R at *
  generalize ixL p l 0=I at *
  obtain ⟨A,ca,rfl,ha1,ha2⟩:=SlOf.form hl
  clear hl hp
  go_enter Tryz.func67,Tryz.ntmps67
  go_wp2_with (go_at_call 103;(with_reducible refine (c.out).mono ?_);rintro e wy ⟨rfl,hbB⟩)
  go_ret
  exact ⟨by rw [← hR.out];rfl,hbB⟩
def SameLink (fs:Nat)(cs:Array Value)(same:LinkS→LinkS→Bool)(B:Nat):Prop:=∀ W x y c d,LinkC W B c x→LinkC W B d y→B≤W.heap.size→Calls Tryz.prog fs (#[.agg c.toArray, .agg d.toArray]++cs) W (BoolW (same x y) W)
set_option maxHeartbeats 2000000 in
set_option maxRecDepth 100000 in
theorem tc1_Link (fs:Nat)(cs:Array Value)(same:LinkS→LinkS→Bool)(B:Nat)(hcf:Ent fs)(hS:SameLink fs cs same B)(x y:LinkS)(c d:List Value)(W:World)(g7 g11:Nat)(T7:TypeId)
    (h7:W.heap[g7]?=some (.cells #[.func (.func fs) #[] cs] T7 (0,0))) (h11:W.heap[g11]?=some (.cells c.toArray 63 (0,0))) (hx:LinkC W B c x) (hy:LinkC W B d y) (hB:B≤W.heap.size) :
    Calls Tryz.prog 43 #[.agg d.toArray, .pointer (some ⟨g7,0,none⟩), .pointer (some ⟨g11,0,none⟩)] W (BoolW (same x y) W):=by
  obtain ⟨W1,hW1⟩:∃ W1,W.alloc (.cells d.toArray 63 (0,0))=W1:=⟨_,rfl⟩
  have hb1:Below W.heap.size W W1:=by rw [← hW1];exact (Below.refl _ _).alloc (Nat.le_refl _) _
  have hn:W1.heap[W.heap.size]?=some (.cells d.toArray 63 (0,0)):=by rw [← hW1];exact heap_alloc_new W _
  have h7':=(hb1.block _ (Array.getElem?_eq_some_iff.1 h7).1).trans h7
  have h11':=(hb1.block _ (Array.getElem?_eq_some_iff.1 h11).1).trans h11
  have cS:=Lib.hid (hS W1 x y c d (hx) (hy) (Nat.le_trans hB hb1.size))
  obtain rfl:=hx.1
  obtain rfl:=hy.1
  replace cS:Hid (Calls Tryz.prog fs (#[.agg #[.string x.frm, .string x.dst,I6 x.cost], .agg #[.string y.frm, .string y.dst,I6 y.cost]]++cs) W1 (BoolW (same x y) W1)):=cS
  have hcf':∀ a w,(callFunc fs a).run Tryz.prog w=.ok (.enter fs a) w:=hcf
  have f7:=cell_of_one h7'
  obtain ⟨n0,n1,n2⟩:=cellsAt3 hn
  obtain ⟨k0,k1,k2⟩:=cellsAt3 h11'
  have hb1:=Lib.hid hb1
  clear hx hy hn h7 h11 h7' h11' hS hcf
  go_enter Tryz.func43,Tryz.ntmps43
  go_wp2_with ((with_reducible refine (cS.out).mono ?_);rintro e wy ⟨rfl,hbB⟩)
  go_ret
  exact ⟨rfl,hb1.out.trans (hbB.mono hb1.out.size)⟩
set_option maxHeartbeats 2000000 in
set_option maxRecDepth 100000 in
theorem tc2_Link (fs:Nat)(cs:Array Value)(same:LinkS→LinkS→Bool)(B:Nat)(hcf:Ent fs)(hS:SameLink fs cs same B)(x y:LinkS)(c d:List Value)(W:World)(g7 g11:Nat)(T7:TypeId)
    (h7:W.heap[g7]?=some (.cells #[.func (.func fs) #[] cs] T7 (0,0))) (h11:W.heap[g11]?=some (.cells d.toArray 63 (0,0))) (hx:LinkC W B c x) (hy:LinkC W B d y) (hB:B≤W.heap.size) :
    Calls Tryz.prog 44 #[.agg c.toArray, .pointer (some ⟨g7,0,none⟩), .pointer (some ⟨g11,0,none⟩)] W (BoolW (same x y) W):=by
  obtain ⟨W1,hW1⟩:∃ W1,W.alloc (.cells c.toArray 63 (0,0))=W1:=⟨_,rfl⟩
  have hb1:Below W.heap.size W W1:=by rw [← hW1];exact (Below.refl _ _).alloc (Nat.le_refl _) _
  have hn:W1.heap[W.heap.size]?=some (.cells c.toArray 63 (0,0)):=by rw [← hW1];exact heap_alloc_new W _
  have h7':=(hb1.block _ (Array.getElem?_eq_some_iff.1 h7).1).trans h7
  have h11':=(hb1.block _ (Array.getElem?_eq_some_iff.1 h11).1).trans h11
  have cS:=Lib.hid (hS W1 x y c d (hx) (hy) (Nat.le_trans hB hb1.size))
  obtain rfl:=hx.1
  obtain rfl:=hy.1
  replace cS:Hid (Calls Tryz.prog fs (#[.agg #[.string x.frm, .string x.dst,I6 x.cost], .agg #[.string y.frm, .string y.dst,I6 y.cost]]++cs) W1 (BoolW (same x y) W1)):=cS
  have hcf':∀ a w,(callFunc fs a).run Tryz.prog w=.ok (.enter fs a) w:=hcf
  have f7:=cell_of_one h7'
  obtain ⟨n0,n1,n2⟩:=cellsAt3 hn
  obtain ⟨k0,k1,k2⟩:=cellsAt3 h11'
  have hb1:=Lib.hid hb1
  clear hx hy hn h7 h11 h7' h11' hS hcf
  go_enter Tryz.func44,Tryz.ntmps44
  go_wp2_with ((with_reducible refine (cS.out).mono ?_);rintro e wy ⟨rfl,hbB⟩)
  go_ret
  exact ⟨rfl,hb1.out.trans (hbB.mono hb1.out.size)⟩
def SamePref (fs:Nat)(cs:Array Value)(same:PrefS→PrefS→Bool)(B:Nat):Prop:=∀ W x y c d,PrefC W B c x→PrefC W B d y→B≤W.heap.size→Calls Tryz.prog fs (#[.agg c.toArray, .agg d.toArray]++cs) W (BoolW (same x y) W)
set_option maxHeartbeats 2000000 in
set_option maxRecDepth 100000 in
theorem tc1_Pref (fs:Nat)(cs:Array Value)(same:PrefS→PrefS→Bool)(B:Nat)(hcf:Ent fs)(hS:SamePref fs cs same B)(x y:PrefS)(c d:List Value)(W:World)(g7 g11:Nat)(T7:TypeId)
    (h7:W.heap[g7]?=some (.cells #[.func (.func fs) #[] cs] T7 (0,0))) (h11:W.heap[g11]?=some (.cells c.toArray 79 (0,0))) (hx:PrefC W B c x) (hy:PrefC W B d y) (hB:B≤W.heap.size) :
    Calls Tryz.prog 73 #[.agg d.toArray, .pointer (some ⟨g7,0,none⟩), .pointer (some ⟨g11,0,none⟩)] W (BoolW (same x y) W):=by
  obtain ⟨W1,hW1⟩:∃ W1,W.alloc (.cells d.toArray 79 (0,0))=W1:=⟨_,rfl⟩
  have hb1:Below W.heap.size W W1:=by rw [← hW1];exact (Below.refl _ _).alloc (Nat.le_refl _) _
  have hn:W1.heap[W.heap.size]?=some (.cells d.toArray 79 (0,0)):=by rw [← hW1];exact heap_alloc_new W _
  have h7':=(hb1.block _ (Array.getElem?_eq_some_iff.1 h7).1).trans h7
  have h11':=(hb1.block _ (Array.getElem?_eq_some_iff.1 h11).1).trans h11
  have cS:=Lib.hid (hS W1 x y c d (hx) (hy) (Nat.le_trans hB hb1.size))
  obtain rfl:=hx.1
  obtain rfl:=hy.1
  replace cS:Hid (Calls Tryz.prog fs (#[.agg #[I6 x.value,I6 x.len, .string x.dst], .agg #[I6 y.value,I6 y.len, .string y.dst]]++cs) W1 (BoolW (same x y) W1)):=cS
  have hcf':∀ a w,(callFunc fs a).run Tryz.prog w=.ok (.enter fs a) w:=hcf
  have f7:=cell_of_one h7'
  obtain ⟨n0,n1,n2⟩:=cellsAt3 hn
  obtain ⟨k0,k1,k2⟩:=cellsAt3 h11'
  have hb1:=Lib.hid hb1
  clear hx hy hn h7 h11 h7' h11' hS hcf
  go_enter Tryz.func73,Tryz.ntmps73
  go_wp2_with ((with_reducible refine (cS.out).mono ?_);rintro e wy ⟨rfl,hbB⟩)
  go_ret
  exact ⟨rfl,hb1.out.trans (hbB.mono hb1.out.size)⟩
set_option maxHeartbeats 2000000 in
set_option maxRecDepth 100000 in
theorem tc2_Pref (fs:Nat)(cs:Array Value)(same:PrefS→PrefS→Bool)(B:Nat)(hcf:Ent fs)(hS:SamePref fs cs same B)(x y:PrefS)(c d:List Value)(W:World)(g7 g11:Nat)(T7:TypeId)
    (h7:W.heap[g7]?=some (.cells #[.func (.func fs) #[] cs] T7 (0,0))) (h11:W.heap[g11]?=some (.cells d.toArray 79 (0,0))) (hx:PrefC W B c x) (hy:PrefC W B d y) (hB:B≤W.heap.size) :
    Calls Tryz.prog 74 #[.agg c.toArray, .pointer (some ⟨g7,0,none⟩), .pointer (some ⟨g11,0,none⟩)] W (BoolW (same x y) W):=by
  obtain ⟨W1,hW1⟩:∃ W1,W.alloc (.cells c.toArray 79 (0,0))=W1:=⟨_,rfl⟩
  have hb1:Below W.heap.size W W1:=by rw [← hW1];exact (Below.refl _ _).alloc (Nat.le_refl _) _
  have hn:W1.heap[W.heap.size]?=some (.cells c.toArray 79 (0,0)):=by rw [← hW1];exact heap_alloc_new W _
  have h7':=(hb1.block _ (Array.getElem?_eq_some_iff.1 h7).1).trans h7
  have h11':=(hb1.block _ (Array.getElem?_eq_some_iff.1 h11).1).trans h11
  have cS:=Lib.hid (hS W1 x y c d (hx) (hy) (Nat.le_trans hB hb1.size))
  obtain rfl:=hx.1
  obtain rfl:=hy.1
  replace cS:Hid (Calls Tryz.prog fs (#[.agg #[I6 x.value,I6 x.len, .string x.dst], .agg #[I6 y.value,I6 y.len, .string y.dst]]++cs) W1 (BoolW (same x y) W1)):=cS
  have hcf':∀ a w,(callFunc fs a).run Tryz.prog w=.ok (.enter fs a) w:=hcf
  have f7:=cell_of_one h7'
  obtain ⟨n0,n1,n2⟩:=cellsAt3 hn
  obtain ⟨k0,k1,k2⟩:=cellsAt3 h11'
  have hb1:=Lib.hid hb1
  clear hx hy hn h7 h11 h7' h11' hS hcf
  go_enter Tryz.func74,Tryz.ntmps74
  go_wp2_with ((with_reducible refine (cS.out).mono ?_);rintro e wy ⟨rfl,hbB⟩)
  go_ret
  exact ⟨rfl,hb1.out.trans (hbB.mono hb1.out.size)⟩
def SameSlice (fs:Nat)(cs:Array Value)(same:SliceS→SliceS→Bool)(B:Nat):Prop:=∀ W x y c d,SliceC W B c x→SliceC W B d y→B≤W.heap.size→Calls Tryz.prog fs (#[.agg c.toArray, .agg d.toArray]++cs) W (BoolW (same x y) W)
set_option maxHeartbeats 2000000 in
set_option maxRecDepth 100000 in
theorem tc1_Slice (fs:Nat)(cs:Array Value)(same:SliceS→SliceS→Bool)(B:Nat)(hcf:Ent fs)(hS:SameSlice fs cs same B)(x y:SliceS)(c d:List Value)(W:World)(g7 g11:Nat)(T7:TypeId)
    (h7:W.heap[g7]?=some (.cells #[.func (.func fs) #[] cs] T7 (0,0))) (h11:W.heap[g11]?=some (.cells c.toArray 69 (0,0))) (hx:SliceC W B c x) (hy:SliceC W B d y) (hB:B≤W.heap.size) :
    Calls Tryz.prog 49 #[.agg d.toArray, .pointer (some ⟨g7,0,none⟩), .pointer (some ⟨g11,0,none⟩)] W (BoolW (same x y) W):=by
  obtain ⟨W1,hW1⟩:∃ W1,W.alloc (.cells d.toArray 69 (0,0))=W1:=⟨_,rfl⟩
  have hb1:Below W.heap.size W W1:=by rw [← hW1];exact (Below.refl _ _).alloc (Nat.le_refl _) _
  have hn:W1.heap[W.heap.size]?=some (.cells d.toArray 69 (0,0)):=by rw [← hW1];exact heap_alloc_new W _
  have h7':=(hb1.block _ (Array.getElem?_eq_some_iff.1 h7).1).trans h7
  have h11':=(hb1.block _ (Array.getElem?_eq_some_iff.1 h11).1).trans h11
  have cS:=Lib.hid (hS W1 x y c d (hx.keep (Nat.le_refl _) (keepB hb1 hB)) (hy.keep (Nat.le_refl _) (keepB hb1 hB)) (Nat.le_trans hB hb1.size))
  obtain ⟨Ap,cp,Aw,cw,rfl,_⟩:=slice_form hx
  obtain ⟨Dp,dp,Dw,dw,rfl,_⟩:=slice_form hy
  replace cS:Hid (Calls Tryz.prog fs (#[.agg #[.string x.name, .slice Ap x.ports.length cp, .slice Aw x.whr.length cw], .agg #[.string y.name, .slice Dp y.ports.length dp, .slice Dw y.whr.length dw]]++cs) W1 (BoolW (same x y) W1)):=cS
  have hcf':∀ a w,(callFunc fs a).run Tryz.prog w=.ok (.enter fs a) w:=hcf
  have f7:=cell_of_one h7'
  obtain ⟨n0,n1,n2⟩:=cellsAt3 hn
  obtain ⟨k0,k1,k2⟩:=cellsAt3 h11'
  have hb1:=Lib.hid hb1
  clear hx hy hn h7 h11 h7' h11' hS hcf
  go_enter Tryz.func49,Tryz.ntmps49
  go_wp2_with ((with_reducible refine (cS.out).mono ?_);rintro e wy ⟨rfl,hbB⟩)
  go_ret
  exact ⟨rfl,hb1.out.trans (hbB.mono hb1.out.size)⟩
set_option maxHeartbeats 2000000 in
set_option maxRecDepth 100000 in
theorem tc2_Slice (fs:Nat)(cs:Array Value)(same:SliceS→SliceS→Bool)(B:Nat)(hcf:Ent fs)(hS:SameSlice fs cs same B)(x y:SliceS)(c d:List Value)(W:World)(g7 g11:Nat)(T7:TypeId)
    (h7:W.heap[g7]?=some (.cells #[.func (.func fs) #[] cs] T7 (0,0))) (h11:W.heap[g11]?=some (.cells d.toArray 69 (0,0))) (hx:SliceC W B c x) (hy:SliceC W B d y) (hB:B≤W.heap.size) :
    Calls Tryz.prog 50 #[.agg c.toArray, .pointer (some ⟨g7,0,none⟩), .pointer (some ⟨g11,0,none⟩)] W (BoolW (same x y) W):=by
  obtain ⟨W1,hW1⟩:∃ W1,W.alloc (.cells c.toArray 69 (0,0))=W1:=⟨_,rfl⟩
  have hb1:Below W.heap.size W W1:=by rw [← hW1];exact (Below.refl _ _).alloc (Nat.le_refl _) _
  have hn:W1.heap[W.heap.size]?=some (.cells c.toArray 69 (0,0)):=by rw [← hW1];exact heap_alloc_new W _
  have h7':=(hb1.block _ (Array.getElem?_eq_some_iff.1 h7).1).trans h7
  have h11':=(hb1.block _ (Array.getElem?_eq_some_iff.1 h11).1).trans h11
  have cS:=Lib.hid (hS W1 x y c d (hx.keep (Nat.le_refl _) (keepB hb1 hB)) (hy.keep (Nat.le_refl _) (keepB hb1 hB)) (Nat.le_trans hB hb1.size))
  obtain ⟨Ap,cp,Aw,cw,rfl,_⟩:=slice_form hx
  obtain ⟨Dp,dp,Dw,dw,rfl,_⟩:=slice_form hy
  replace cS:Hid (Calls Tryz.prog fs (#[.agg #[.string x.name, .slice Ap x.ports.length cp, .slice Aw x.whr.length cw], .agg #[.string y.name, .slice Dp y.ports.length dp, .slice Dw y.whr.length dw]]++cs) W1 (BoolW (same x y) W1)):=cS
  have hcf':∀ a w,(callFunc fs a).run Tryz.prog w=.ok (.enter fs a) w:=hcf
  have f7:=cell_of_one h7'
  obtain ⟨n0,n1,n2⟩:=cellsAt3 hn
  obtain ⟨k0,k1,k2⟩:=cellsAt3 h11'
  have hb1:=Lib.hid hb1
  clear hx hy hn h7 h11 h7' h11' hS hcf
  go_enter Tryz.func50,Tryz.ntmps50
  go_wp2_with ((with_reducible refine (cS.out).mono ?_);rintro e wy ⟨rfl,hbB⟩)
  go_ret
  exact ⟨rfl,hb1.out.trans (hbB.mono hb1.out.size)⟩
def SameRule (fs:Nat)(cs:Array Value)(same:RuleS→RuleS→Bool)(B:Nat):Prop:=∀ W x y c d,RuleD W B c x→RuleD W B d y→B≤W.heap.size→Calls Tryz.prog fs (#[.agg c.toArray, .agg d.toArray]++cs) W (BoolW (same x y) W)
set_option maxHeartbeats 2000000 in
set_option maxRecDepth 100000 in
theorem tc1_Rule (fs:Nat)(cs:Array Value)(same:RuleS→RuleS→Bool)(B:Nat)(hcf:Ent fs)(hS:SameRule fs cs same B)(x y:RuleS)(c d:List Value)(W:World)(g7 g11:Nat)(T7:TypeId)
    (h7:W.heap[g7]?=some (.cells #[.func (.func fs) #[] cs] T7 (0,0))) (h11:W.heap[g11]?=some (.cells c.toArray 51 (0,0))) (hx:RuleD W B c x) (hy:RuleD W B d y) (hB:B≤W.heap.size) :
    Calls Tryz.prog 68 #[.agg d.toArray, .pointer (some ⟨g7,0,none⟩), .pointer (some ⟨g11,0,none⟩)] W (BoolW (same x y) W):=by
  obtain ⟨W1,hW1⟩:∃ W1,W.alloc (.cells d.toArray 51 (0,0))=W1:=⟨_,rfl⟩
  have hb1:Below W.heap.size W W1:=by rw [← hW1];exact (Below.refl _ _).alloc (Nat.le_refl _) _
  have hn:W1.heap[W.heap.size]?=some (.cells d.toArray 51 (0,0)):=by rw [← hW1];exact heap_alloc_new W _
  have h7':=(hb1.block _ (Array.getElem?_eq_some_iff.1 h7).1).trans h7
  have h11':=(hb1.block _ (Array.getElem?_eq_some_iff.1 h11).1).trans h11
  have cS:=Lib.hid (hS W1 x y c d (hx.keep (Nat.le_refl _) (keepB hb1 hB)) (hy.keep (Nat.le_refl _) (keepB hb1 hB)) (Nat.le_trans hB hb1.size))
  obtain ⟨Af,cf,Am,cm,As,cq,At,ct,rfl,_⟩:=rule_form hx.1
  obtain ⟨Df,df,Dm,dm,Ds,dq,Dt,dt,rfl,_⟩:=rule_form hy.1
  replace cS:Hid (Calls Tryz.prog fs (#[.agg #[I6 x.prio, .slice Af x.frm.length cf, .slice Am x.mat.length cm, .slice As x.sets.length cq, .slice At x.dst.length ct], .agg #[I6 y.prio, .slice Df y.frm.length df, .slice Dm y.mat.length dm, .slice Ds y.sets.length dq, .slice Dt y.dst.length dt]]++cs) W1 (BoolW (same x y) W1)):=cS
  have hcf':∀ a w,(callFunc fs a).run Tryz.prog w=.ok (.enter fs a) w:=hcf
  have f7:=cell_of_one h7'
  obtain ⟨n0,n1,n2,n3,n4⟩:=cells5 hn
  obtain ⟨k0,k1,k2,k3,k4⟩:=cells5 h11'
  have hb1:=Lib.hid hb1
  clear hx hy hn h7 h11 h7' h11' hS hcf
  go_enter Tryz.func68,Tryz.ntmps68
  go_wp2_with ((with_reducible refine (cS.out).mono ?_);rintro e wy ⟨rfl,hbB⟩)
  go_ret
  exact ⟨rfl,hb1.out.trans (hbB.mono hb1.out.size)⟩
set_option maxHeartbeats 2000000 in
set_option maxRecDepth 100000 in
theorem tc2_Rule (fs:Nat)(cs:Array Value)(same:RuleS→RuleS→Bool)(B:Nat)(hcf:Ent fs)(hS:SameRule fs cs same B)(x y:RuleS)(c d:List Value)(W:World)(g7 g11:Nat)(T7:TypeId)
    (h7:W.heap[g7]?=some (.cells #[.func (.func fs) #[] cs] T7 (0,0))) (h11:W.heap[g11]?=some (.cells d.toArray 51 (0,0))) (hx:RuleD W B c x) (hy:RuleD W B d y) (hB:B≤W.heap.size) :
    Calls Tryz.prog 69 #[.agg c.toArray, .pointer (some ⟨g7,0,none⟩), .pointer (some ⟨g11,0,none⟩)] W (BoolW (same x y) W):=by
  obtain ⟨W1,hW1⟩:∃ W1,W.alloc (.cells c.toArray 51 (0,0))=W1:=⟨_,rfl⟩
  have hb1:Below W.heap.size W W1:=by rw [← hW1];exact (Below.refl _ _).alloc (Nat.le_refl _) _
  have hn:W1.heap[W.heap.size]?=some (.cells c.toArray 51 (0,0)):=by rw [← hW1];exact heap_alloc_new W _
  have h7':=(hb1.block _ (Array.getElem?_eq_some_iff.1 h7).1).trans h7
  have h11':=(hb1.block _ (Array.getElem?_eq_some_iff.1 h11).1).trans h11
  have cS:=Lib.hid (hS W1 x y c d (hx.keep (Nat.le_refl _) (keepB hb1 hB)) (hy.keep (Nat.le_refl _) (keepB hb1 hB)) (Nat.le_trans hB hb1.size))
  obtain ⟨Af,cf,Am,cm,As,cq,At,ct,rfl,_⟩:=rule_form hx.1
  obtain ⟨Df,df,Dm,dm,Ds,dq,Dt,dt,rfl,_⟩:=rule_form hy.1
  replace cS:Hid (Calls Tryz.prog fs (#[.agg #[I6 x.prio, .slice Af x.frm.length cf, .slice Am x.mat.length cm, .slice As x.sets.length cq, .slice At x.dst.length ct], .agg #[I6 y.prio, .slice Df y.frm.length df, .slice Dm y.mat.length dm, .slice Ds y.sets.length dq, .slice Dt y.dst.length dt]]++cs) W1 (BoolW (same x y) W1)):=cS
  have hcf':∀ a w,(callFunc fs a).run Tryz.prog w=.ok (.enter fs a) w:=hcf
  have f7:=cell_of_one h7'
  obtain ⟨n0,n1,n2,n3,n4⟩:=cells5 hn
  obtain ⟨k0,k1,k2,k3,k4⟩:=cells5 h11'
  have hb1:=Lib.hid hb1
  clear hx hy hn h7 h11 h7' h11' hS hcf
  go_enter Tryz.func69,Tryz.ntmps69
  go_wp2_with ((with_reducible refine (cS.out).mono ?_);rintro e wy ⟨rfl,hbB⟩)
  go_ret
  exact ⟨rfl,hb1.out.trans (hbB.mono hb1.out.size)⟩
end Go.Proofs.YtdhehcobnbcmdaaGreatDoor
