import Derived.Test.YtcjmpafkcmlhbaaGreatDoorQBQ
import Derived.Test.YtcjmpafkcmlhbaaGreatDoorQAV
namespace Go.Proofs.YtcjmpafkcmlhbaaGreatDoor
open _root_.Go.Lib(hid)
set_option linter.all false
set_option maxHeartbeats 40000000
set_option maxRecDepth 100000
namespace Shp
open Go.RowKit
open Grd (Pt)
variable {w w':World}{l:List Pt}{K:Nat→List Nat}{U:Nat→Option Nat}{T nb:Nat→Nat}
theorem RY {v:Value}{k:Option UInt8} (hv:KV w v k) (x:UInt8) {xi:Int} (hx:xi=(x.toNat:Int)) (ty:TypeId) {W:World} (hW:Below (w.alloc (.cells #[.int .u8 xi] ty (0,0))).heap.size (w.alloc (.cells #[.int .u8 xi] ty (0,0))) W) :
  Calls Tryz.prog 39 #[v,.slice (some ⟨w.heap.size,0,none⟩) 1 1] W fun e w'=>e=.returned (.bool (isB k [x]))∧Below w.heap.size w w':=by
 have hb:=(Below.refl w.heap.size w).alloc (Nat.le_refl _) (.cells #[.int .u8 xi] ty (0,0));have hb2:=dA hb hW;have h1:=(hW.block w.heap.size (by simp)).trans (heap_alloc_new w (.cells #[.int .u8 xi] ty (0,0)));refine (BO v k w.heap.size 1 [x] (hv.below hb2) (Nat.le_of_ble_eq_true rfl) (fun j y hj=>?_)).mono fun e w' ⟨he,hw⟩=>⟨he,by rw [hw];exact hb2⟩
 rcases j with _|j
 ·simp only [List.getElem?_cons_zero,Option.some.injEq] at hj;subst hj;unfold World.cell?;rw [h1,hx];rfl
 ·simp at hj
def b4 (l:List Pt) (K:Nat→List Nat) (U:Nat→Option Nat) (T:Nat→Nat) (i:Nat):Bool :=
 kd l i==some 15&&(match U i with
  | none=>false
  | some j=>kd l j==some 14&&(wd l i != []&&T i != (K j).length - 1))
theorem mX (hG:Gr l K U T nb w) (hW:Wf l K U T) (i:Nat) (hi:i < l.length):Calls Tryz.prog 42 #[.pointer (some ⟨nb i,0,none⟩)] w fun e w'=>e=.returned (.bool (b4 l K U T i))∧Below w.heap.size w w':=by
 obtain⟨p,hp⟩:=CC hi;obtain⟨R,hR⟩:∃ R,R=b4 l K U T i:=⟨_,rfl⟩;rw [← hR];unfold b4 at hR;rw [zB hp,QJ hp,yA] at hR;have HI:=hid (fun w2 (hb2:Below w.heap.size w w2)=>@RY w2 _ _ ((hG.below hb2).kv hp) 15 15 rfl 5);rw [qE] at HI;have HR:=hid hR;have HG:=hid hG;have HP0:=hid hp;clear hR hG;go_enter Tryz.func42,Tryz.ntmps42;cases hk:(p.k==15) with
 | false =>
  have hr:false=R:=by rw [HR.out,hk];rfl
  subst hr;rw [hk] at HI;clear hk HR hp;have HS:Hid (∀ w',Below w.heap.size w w'→Below w.heap.size w w'):=hid (fun _ h=>h);go_wp2_with fail;have hb1:=(Below.refl w.heap.size w).drew;refine wp_region_held_drew (S:=fun w'=>Below w.heap.size w w') (by kernel_rfl) ?_ (fun hHeld=>?_)
  ·exact HS.out _ hb1
  refine tk 0 ?_;try simp only [Act.put,ls]
  refine wpAnyH_ready (rs:=[1]) (by kernel_rfl) (by simp) (AllReadyH.cons (o:=?_) ?_ (fun K hK=>?_) AllReadyH.nil)
  rotate_left
  ·(first|(simp only [List.getElem?_toArray,List.getElem?_cons_succ,List.getElem?_cons_zero];done)|(simp only [List.getElem?_toArray,List.getElem?_cons_succ,List.getElem?_cons_zero];exact rfl))
  go_simp;go_wp2_with fail;have hb2:=hb1.alloc hb1.size (Obj.cells #[.int .u8 15] 5);refine hK.out _ _ ?_ (fun hHeld1=>?_)
  ·(first|exact HS.out _ hb1|exact HS.out _ hb2|exact HS.out _ hb3|exact HS.out _ hb4|exact HS.out _ hb5)
  clear hK K
  try simp only [Act.put,ls]
  refine wpAnyH_ready (rs:=[2]) (by kernel_rfl) (by simp) (AllReadyH.cons (o:=?_) ?_ (fun K hK=>?_) AllReadyH.nil)
  rotate_left
  ·(first|(simp only [List.getElem?_toArray,List.getElem?_cons_succ,List.getElem?_cons_zero];done)|(simp only [List.getElem?_toArray,List.getElem?_cons_succ,List.getElem?_cons_zero];exact rfl))
  go_simp;go_at_call 39;refine (HI.out _ hb1 (Below.refl _ _)).mono ?_;rintro e w3 ⟨rfl,hb9⟩;have hb3:=dA hb1 hb9;clear hb9;go_wp2_with fail;refine hK.out _ _ ?_ (fun hHeld2=>?_)
  ·(first|exact HS.out _ hb1|exact HS.out _ hb2|exact HS.out _ hb3|exact HS.out _ hb4|exact HS.out _ hb5)
  clear hK K
  try simp only [Act.put,ls]
  refine tk 3 ?_;try simp only [Act.put,ls]
  refine ts 4 ?_;try simp only [Act.put,ls]
  refine ts 5 ?_;try simp only [Act.put,ls]
  refine ts 6 ?_;try simp only [Act.put,ls]
  refine ts 7 ?_;try simp only [Act.put,ls]
  refine ts 8 ?_;try simp only [Act.put,ls]
  refine ts 9 ?_;try simp only [Act.put,ls]
  refine tk 10 ?_;try simp only [Act.put,ls]
  refine tk 11 ?_;try simp only [Act.put,ls]
  refine ts 12 ?_;try simp only [Act.put,ls]
  refine ts 13 ?_;try simp only [Act.put,ls]
  refine ts 14 ?_;try simp only [Act.put,ls]
  refine ts 15 ?_;try simp only [Act.put,ls]
  refine ts 16 ?_;try simp only [Act.put,ls]
  refine ts 17 ?_;try simp only [Act.put,ls]
  refine tk 18 ?_;try simp only [Act.put,ls]
  refine tk 19 ?_;try simp only [Act.put,ls]
  refine ts 20 ?_;try simp only [Act.put,ls]
  refine ts 21 ?_;try simp only [Act.put,ls]
  refine ts 22 ?_;try simp only [Act.put,ls]
  refine ts 23 ?_;try simp only [Act.put,ls]
  refine ts 24 ?_;try simp only [Act.put,ls]
  refine ts 25 ?_;try simp only [Act.put,ls]
  refine ts 26 ?_;try simp only [Act.put,ls]
  refine ts 27 ?_;try simp only [Act.put,ls]
  refine ts 28 ?_;try simp only [Act.put,ls]
  refine ts 29 ?_;try simp only [Act.put,ls]
  refine ts 30 ?_;try simp only [Act.put,ls]
  refine ts 31 ?_;try simp only [Act.put,ls]
  refine ts 32 ?_;try simp only [Act.put,ls]
  refine ts 33 ?_;try simp only [Act.put,ls]
  refine tk 34 ?_;try simp only [Act.put,ls]
  refine tk 35 ?_;try simp only [Act.put,ls]
  refine wpAnyH_done (by kernel_rfl) ?_ _;go_wp2_with fail;go_ret;exact⟨rfl,hb3⟩
 | true =>
  rw [hk] at HI;rw [hk,Bool.true_and] at HR;clear hk;have HJ:=hid (fun w2 (hb2:Below w.heap.size w w2)=>@RY w2 _ _ ((HG.out.below hb2).kvU hW hi) 14 14 rfl 5);cases hU:U i with
  | none =>
   unfold uk at HJ;rw [hU] at HR HJ;have hr:false=R:=HR.out.symm;subst hr;rw [show isB ((none:Option Nat).bind (kd l)) [14]=false from rfl] at HJ;have HS:Hid (∀ w',Below w.heap.size w w'→w'.cell? ⟨nb i,4,none⟩=some (.pointer none)):=hid (fun w' h=>by
    have c4:=(HG.out.below h).upc hp;rw [hU] at c4;exact c4)
   have HJ:Hid (∀ w2,Below w.heap.size w w2→∀ (W:World),Below (w2.alloc (.cells #[.int .u8 14] 5 (0,0))).heap.size (w2.alloc (.cells #[.int .u8 14] 5 (0,0))) W→Calls Tryz.prog 39 #[.pointer none,.slice (some ⟨w2.heap.size,0,none⟩) 1 1] W fun e w'=>e=.returned (.bool false)∧Below w2.heap.size w2 w'):=hid (fun w2 h W hW=>HJ.out w2 h hW);clear HR hU hp;go_wp2_with fail;have hb1:=(Below.refl w.heap.size w).drew;refine wp_region_held_drew (S:=fun w'=>w'.cell? ⟨nb i,4,none⟩=some (.pointer none)) (by kernel_rfl) ?_ (fun hHeld=>?_)
   ·exact HS.out _ hb1
   refine tk 0 ?_;try simp only [Act.put,ls]
   refine wpAnyH_ready (rs:=[1]) (by kernel_rfl) (by simp) (AllReadyH.cons (o:=?_) ?_ (fun K hK=>?_) AllReadyH.nil)
   rotate_left
   ·(first|(simp only [List.getElem?_toArray,List.getElem?_cons_succ,List.getElem?_cons_zero];done)|(simp only [List.getElem?_toArray,List.getElem?_cons_succ,List.getElem?_cons_zero];exact rfl))
   go_simp;go_wp2_with fail;have hb2:=hb1.alloc hb1.size (Obj.cells #[.int .u8 15] 5);refine hK.out _ _ ?_ (fun hHeld1=>?_)
   ·(first|exact HS.out _ hb1|exact HS.out _ hb2|exact HS.out _ hb3|exact HS.out _ hb4|exact HS.out _ hb5)
   clear hK K
   try simp only [Act.put,ls]
   refine wpAnyH_ready (rs:=[2]) (by kernel_rfl) (by simp) (AllReadyH.cons (o:=?_) ?_ (fun K hK=>?_) AllReadyH.nil)
   rotate_left
   ·(first|(simp only [List.getElem?_toArray,List.getElem?_cons_succ,List.getElem?_cons_zero];done)|(simp only [List.getElem?_toArray,List.getElem?_cons_succ,List.getElem?_cons_zero];exact rfl))
   go_simp;go_at_call 39;refine (HI.out _ hb1 (Below.refl _ _)).mono ?_;rintro e w3 ⟨rfl,hb9⟩;have hb3:=dA hb1 hb9;clear hb9;go_wp2_with fail;refine hK.out _ _ ?_ (fun hHeld2=>?_)
   ·(first|exact HS.out _ hb1|exact HS.out _ hb2|exact HS.out _ hb3|exact HS.out _ hb4|exact HS.out _ hb5)
   clear hK K
   try simp only [Act.put,ls]
   refine tk 3 ?_;try simp only [Act.put,ls]
   refine tk 4 ?_;try simp only [Act.put,ls]
   refine tk 5 ?_;try simp only [Act.put,ls]
   refine tk 6 ?_;try simp only [Act.put,ls]
   refine tk 7 ?_;try simp only [Act.put,ls]
   refine wpAnyH_ready (rs:=[8]) (by kernel_rfl) (by simp) (AllReadyH.cons (o:=?_) ?_ (fun K hK=>?_) AllReadyH.nil)
   rotate_left
   ·(first|(simp only [List.getElem?_toArray,List.getElem?_cons_succ,List.getElem?_cons_zero];done)|(simp only [List.getElem?_toArray,List.getElem?_cons_succ,List.getElem?_cons_zero];exact rfl))
   go_simp;go_wp2_with fail;have hb4:=hb3.alloc hb3.size (Obj.cells #[.int .u8 14] 5);refine hK.out _ _ ?_ (fun hHeld8=>?_)
   ·(first|exact HS.out _ hb1|exact HS.out _ hb2|exact HS.out _ hb3|exact HS.out _ hb4|exact HS.out _ hb5)
   clear hK K
   try simp only [Act.put,ls]
   refine wpAnyH_ready (rs:=[9]) (by kernel_rfl) (by simp) (AllReadyH.cons (o:=?_) ?_ (fun K hK=>?_) AllReadyH.nil)
   rotate_left
   ·(first|(simp only [List.getElem?_toArray,List.getElem?_cons_succ,List.getElem?_cons_zero];done)|(simp only [List.getElem?_toArray,List.getElem?_cons_succ,List.getElem?_cons_zero];exact rfl))
   go_simp;go_at_call 39;refine (HJ.out _ hb3 _ (Below.refl _ _)).mono ?_;rintro e w5 ⟨rfl,hb9⟩;have hb5:=dA hb3 hb9;clear hb9;go_wp2_with fail;refine hK.out _ _ ?_ (fun hHeld9=>?_)
   ·(first|exact HS.out _ hb1|exact HS.out _ hb2|exact HS.out _ hb3|exact HS.out _ hb4|exact HS.out _ hb5)
   clear hK K
   try simp only [Act.put,ls]
   refine tk 10 ?_;try simp only [Act.put,ls]
   refine tk 11 ?_;try simp only [Act.put,ls]
   refine ts 12 ?_;try simp only [Act.put,ls]
   refine ts 13 ?_;try simp only [Act.put,ls]
   refine ts 14 ?_;try simp only [Act.put,ls]
   refine ts 15 ?_;try simp only [Act.put,ls]
   refine ts 16 ?_;try simp only [Act.put,ls]
   refine ts 17 ?_;try simp only [Act.put,ls]
   refine tk 18 ?_;try simp only [Act.put,ls]
   refine tk 19 ?_;try simp only [Act.put,ls]
   refine ts 20 ?_;try simp only [Act.put,ls]
   refine ts 21 ?_;try simp only [Act.put,ls]
   refine ts 22 ?_;try simp only [Act.put,ls]
   refine ts 23 ?_;try simp only [Act.put,ls]
   refine ts 24 ?_;try simp only [Act.put,ls]
   refine ts 25 ?_;try simp only [Act.put,ls]
   refine ts 26 ?_;try simp only [Act.put,ls]
   refine ts 27 ?_;try simp only [Act.put,ls]
   refine ts 28 ?_;try simp only [Act.put,ls]
   refine ts 29 ?_;try simp only [Act.put,ls]
   refine ts 30 ?_;try simp only [Act.put,ls]
   refine ts 31 ?_;try simp only [Act.put,ls]
   refine ts 32 ?_;try simp only [Act.put,ls]
   refine ts 33 ?_;try simp only [Act.put,ls]
   refine tk 34 ?_;try simp only [Act.put,ls]
   refine tk 35 ?_;try simp only [Act.put,ls]
   refine wpAnyH_done (by kernel_rfl) ?_ _;go_wp2_with fail;go_ret;exact⟨rfl,hb5⟩
  | some j =>
   obtain⟨hji,hKT⟩:=hW.up i j hU;obtain⟨q,hq⟩:=CC (show j < l.length by omega);unfold uk at HJ;rw [hU] at HR HJ;rw [show (some j).bind (kd l)=some q.k from zB hq,qE] at HJ;have HJ:Hid (∀ w2,Below w.heap.size w w2→∀ (W:World),Below (w2.alloc (.cells #[.int .u8 14] 5 (0,0))).heap.size (w2.alloc (.cells #[.int .u8 14] 5 (0,0))) W→Calls Tryz.prog 39 #[.pointer (some ⟨nb j,0,none⟩),.slice (some ⟨w2.heap.size,0,none⟩) 1 1] W fun e w'=>e=.returned (.bool (q.k==14))∧Below w2.heap.size w2 w'):=hid (fun w2 h W hW=>HJ.out w2 h hW);simp only [zB hq,yA] at HR;obtain⟨kbj,capj,hkj⟩:∃ kbj capj,∀ w',Below w.heap.size w w'→w'.cell? ⟨nb j,6,none⟩=some (.slice kbj (K j).length capj):=by
    obtain⟨kbj,capj,c⟩:=HG.out.lenc hq;exact⟨kbj,capj,fun w' h=>aA h c⟩
   have hKl:=(List.getElem?_eq_some_iff.1 hKT).1;have hfew:=hW.few j;have hlen:=hW.len;obtain⟨n,hn⟩:∃ n,n=(K j).length:=⟨_,rfl⟩;obtain⟨tn,htn⟩:∃ tn,tn=T i:=⟨_,rfl⟩;rw [← hn] at hkj hKl hfew HR;rw [← htn] at hKl HR;have HS:Hid (∀ w',Below w.heap.size w w'→w'.cell? ⟨nb i,4,none⟩=some (.pointer (some ⟨nb j,0,none⟩))∧w'.cell? ⟨nb i,2,none⟩=some (.string ⟨p.w.toArray⟩)∧w'.cell? ⟨nb i,5,none⟩=some (.int .i64 (tn:Int))∧w'.cell? ⟨nb j,6,none⟩=some (.slice kbj n capj)):=hid (fun w' h=>by
    have c4:=(HG.out.below h).upc hp;rw [hU] at c4;have c5:=(HG.out.below h).nthc hp;rw [← htn] at c5;exact⟨c4,(HG.out.below h).wordc hp,c5,hkj w' h⟩)
   have z1:IntKind.i64.wrap ((n:Int) - 1)=(n:Int) - 1:=by simp [IntKind.wrap,IntKind.bits,IntKind.signed];omega
   have z2:((tn:Int) != (n:Int) - 1)=(tn != n - 1):=by rw [Bool.eq_iff_iff];simp only [bne_iff_ne,ne_eq];omega
   have z3:((tn:Int)==(n:Int) - 1)=(tn==n - 1):=by rw [Bool.eq_iff_iff];simp only [beq_iff_eq];omega
   clear hU hq hKT hkj hn htn hp hlen hfew hKl;generalize hXX:(tn != n - 1)=XX at *;cases hk3:(q.k==14) with
   | false =>
    rw [hk3] at HR HJ;have hr:false=R:=HR.out.symm;subst hr;clear HR hk3;go_wp2_with fail;have hb1:=(Below.refl w.heap.size w).drew;refine wp_region_held_drew (S:=fun w'=>w'.cell? ⟨nb i,4,none⟩=some (.pointer (some ⟨nb j,0,none⟩))∧w'.cell? ⟨nb i,2,none⟩=some (.string ⟨p.w.toArray⟩)∧w'.cell? ⟨nb i,5,none⟩=some (.int .i64 (tn:Int))∧w'.cell? ⟨nb j,6,none⟩=some (.slice kbj n capj)) (by kernel_rfl) ?_ (fun hHeld=>?_)
    ·exact HS.out _ hb1
    refine tk 0 ?_;try simp only [Act.put,ls]
    refine wpAnyH_ready (rs:=[1]) (by kernel_rfl) (by simp) (AllReadyH.cons (o:=?_) ?_ (fun K hK=>?_) AllReadyH.nil)
    rotate_left
    ·(first|(simp only [List.getElem?_toArray,List.getElem?_cons_succ,List.getElem?_cons_zero];done)|(simp only [List.getElem?_toArray,List.getElem?_cons_succ,List.getElem?_cons_zero];exact rfl))
    go_simp;go_wp2_with fail;have hb2:=hb1.alloc hb1.size (Obj.cells #[.int .u8 15] 5);refine hK.out _ _ ?_ (fun hHeld1=>?_)
    ·(first|exact HS.out _ hb1|exact HS.out _ hb2|exact HS.out _ hb3|exact HS.out _ hb4|exact HS.out _ hb5)
    clear hK K
    try simp only [Act.put,ls]
    refine wpAnyH_ready (rs:=[2]) (by kernel_rfl) (by simp) (AllReadyH.cons (o:=?_) ?_ (fun K hK=>?_) AllReadyH.nil)
    rotate_left
    ·(first|(simp only [List.getElem?_toArray,List.getElem?_cons_succ,List.getElem?_cons_zero];done)|(simp only [List.getElem?_toArray,List.getElem?_cons_succ,List.getElem?_cons_zero];exact rfl))
    go_simp;go_at_call 39;refine (HI.out _ hb1 (Below.refl _ _)).mono ?_;rintro e w3 ⟨rfl,hb9⟩;have hb3:=dA hb1 hb9;clear hb9;go_wp2_with fail;refine hK.out _ _ ?_ (fun hHeld2=>?_)
    ·(first|exact HS.out _ hb1|exact HS.out _ hb2|exact HS.out _ hb3|exact HS.out _ hb4|exact HS.out _ hb5)
    clear hK K
    try simp only [Act.put,ls]
    refine tk 3 ?_;try simp only [Act.put,ls]
    refine tk 4 ?_;try simp only [Act.put,ls]
    refine tk 5 ?_;try simp only [Act.put,ls]
    refine tk 6 ?_;try simp only [Act.put,ls]
    refine tk 7 ?_;try simp only [Act.put,ls]
    refine wpAnyH_ready (rs:=[8]) (by kernel_rfl) (by simp) (AllReadyH.cons (o:=?_) ?_ (fun K hK=>?_) AllReadyH.nil)
    rotate_left
    ·(first|(simp only [List.getElem?_toArray,List.getElem?_cons_succ,List.getElem?_cons_zero];done)|(simp only [List.getElem?_toArray,List.getElem?_cons_succ,List.getElem?_cons_zero];exact rfl))
    go_simp;go_wp2_with fail;have hb4:=hb3.alloc hb3.size (Obj.cells #[.int .u8 14] 5);refine hK.out _ _ ?_ (fun hHeld8=>?_)
    ·(first|exact HS.out _ hb1|exact HS.out _ hb2|exact HS.out _ hb3|exact HS.out _ hb4|exact HS.out _ hb5)
    clear hK K
    try simp only [Act.put,ls]
    refine wpAnyH_ready (rs:=[9]) (by kernel_rfl) (by simp) (AllReadyH.cons (o:=?_) ?_ (fun K hK=>?_) AllReadyH.nil)
    rotate_left
    ·(first|(simp only [List.getElem?_toArray,List.getElem?_cons_succ,List.getElem?_cons_zero];done)|(simp only [List.getElem?_toArray,List.getElem?_cons_succ,List.getElem?_cons_zero];exact rfl))
    go_simp;go_at_call 39;refine (HJ.out _ hb3 _ (Below.refl _ _)).mono ?_;rintro e w5 ⟨rfl,hb9⟩;have hb5:=dA hb3 hb9;clear hb9;go_wp2_with fail;refine hK.out _ _ ?_ (fun hHeld9=>?_)
    ·(first|exact HS.out _ hb1|exact HS.out _ hb2|exact HS.out _ hb3|exact HS.out _ hb4|exact HS.out _ hb5)
    clear hK K
    try simp only [Act.put,ls]
    refine tk 10 ?_;try simp only [Act.put,ls]
    refine tk 11 ?_;try simp only [Act.put,ls]
    refine ts 12 ?_;try simp only [Act.put,ls]
    refine ts 13 ?_;try simp only [Act.put,ls]
    refine ts 14 ?_;try simp only [Act.put,ls]
    refine ts 15 ?_;try simp only [Act.put,ls]
    refine ts 16 ?_;try simp only [Act.put,ls]
    refine ts 17 ?_;try simp only [Act.put,ls]
    refine tk 18 ?_;try simp only [Act.put,ls]
    refine tk 19 ?_;try simp only [Act.put,ls]
    refine ts 20 ?_;try simp only [Act.put,ls]
    refine ts 21 ?_;try simp only [Act.put,ls]
    refine ts 22 ?_;try simp only [Act.put,ls]
    refine ts 23 ?_;try simp only [Act.put,ls]
    refine ts 24 ?_;try simp only [Act.put,ls]
    refine ts 25 ?_;try simp only [Act.put,ls]
    refine ts 26 ?_;try simp only [Act.put,ls]
    refine ts 27 ?_;try simp only [Act.put,ls]
    refine ts 28 ?_;try simp only [Act.put,ls]
    refine ts 29 ?_;try simp only [Act.put,ls]
    refine ts 30 ?_;try simp only [Act.put,ls]
    refine ts 31 ?_;try simp only [Act.put,ls]
    refine ts 32 ?_;try simp only [Act.put,ls]
    refine ts 33 ?_;try simp only [Act.put,ls]
    refine tk 34 ?_;try simp only [Act.put,ls]
    refine tk 35 ?_;try simp only [Act.put,ls]
    refine wpAnyH_done (by kernel_rfl) ?_ _;go_wp2_with fail;go_ret;exact⟨rfl,hb5⟩
   | true =>
    rw [hk3,Bool.true_and] at HR;rw [hk3] at HJ;clear hk3;cases hpw:p.w with
    | nil =>
     rw [hpw] at HR HS;have hr:false=R:=HR.out.symm;subst hr;clear HR;go_wp2_with fail;have hb1:=(Below.refl w.heap.size w).drew;refine wp_region_held_drew (S:=fun w'=>w'.cell? ⟨nb i,4,none⟩=some (.pointer (some ⟨nb j,0,none⟩))∧w'.cell? ⟨nb i,2,none⟩=some (.string ⟨#[]⟩)∧w'.cell? ⟨nb i,5,none⟩=some (.int .i64 (tn:Int))∧w'.cell? ⟨nb j,6,none⟩=some (.slice kbj n capj)) (by kernel_rfl) ?_ (fun hHeld=>?_)
     ·exact HS.out _ hb1
     refine tk 0 ?_;try simp only [Act.put,ls]
     refine wpAnyH_ready (rs:=[1]) (by kernel_rfl) (by simp) (AllReadyH.cons (o:=?_) ?_ (fun K hK=>?_) AllReadyH.nil)
     rotate_left
     ·(first|(simp only [List.getElem?_toArray,List.getElem?_cons_succ,List.getElem?_cons_zero];done)|(simp only [List.getElem?_toArray,List.getElem?_cons_succ,List.getElem?_cons_zero];exact rfl))
     go_simp;go_wp2_with fail;have hb2:=hb1.alloc hb1.size (Obj.cells #[.int .u8 15] 5);refine hK.out _ _ ?_ (fun hHeld1=>?_)
     ·(first|exact HS.out _ hb1|exact HS.out _ hb2|exact HS.out _ hb3|exact HS.out _ hb4|exact HS.out _ hb5)
     clear hK K
     try simp only [Act.put,ls]
     refine wpAnyH_ready (rs:=[2]) (by kernel_rfl) (by simp) (AllReadyH.cons (o:=?_) ?_ (fun K hK=>?_) AllReadyH.nil)
     rotate_left
     ·(first|(simp only [List.getElem?_toArray,List.getElem?_cons_succ,List.getElem?_cons_zero];done)|(simp only [List.getElem?_toArray,List.getElem?_cons_succ,List.getElem?_cons_zero];exact rfl))
     go_simp;go_at_call 39;refine (HI.out _ hb1 (Below.refl _ _)).mono ?_;rintro e w3 ⟨rfl,hb9⟩;have hb3:=dA hb1 hb9;clear hb9;go_wp2_with fail;refine hK.out _ _ ?_ (fun hHeld2=>?_)
     ·(first|exact HS.out _ hb1|exact HS.out _ hb2|exact HS.out _ hb3|exact HS.out _ hb4|exact HS.out _ hb5)
     clear hK K
     try simp only [Act.put,ls]
     refine tk 3 ?_;try simp only [Act.put,ls]
     refine tk 4 ?_;try simp only [Act.put,ls]
     refine tk 5 ?_;try simp only [Act.put,ls]
     refine tk 6 ?_;try simp only [Act.put,ls]
     refine tk 7 ?_;try simp only [Act.put,ls]
     refine wpAnyH_ready (rs:=[8]) (by kernel_rfl) (by simp) (AllReadyH.cons (o:=?_) ?_ (fun K hK=>?_) AllReadyH.nil)
     rotate_left
     ·(first|(simp only [List.getElem?_toArray,List.getElem?_cons_succ,List.getElem?_cons_zero];done)|(simp only [List.getElem?_toArray,List.getElem?_cons_succ,List.getElem?_cons_zero];exact rfl))
     go_simp;go_wp2_with fail;have hb4:=hb3.alloc hb3.size (Obj.cells #[.int .u8 14] 5);refine hK.out _ _ ?_ (fun hHeld8=>?_)
     ·(first|exact HS.out _ hb1|exact HS.out _ hb2|exact HS.out _ hb3|exact HS.out _ hb4|exact HS.out _ hb5)
     clear hK K
     try simp only [Act.put,ls]
     refine wpAnyH_ready (rs:=[9]) (by kernel_rfl) (by simp) (AllReadyH.cons (o:=?_) ?_ (fun K hK=>?_) AllReadyH.nil)
     rotate_left
     ·(first|(simp only [List.getElem?_toArray,List.getElem?_cons_succ,List.getElem?_cons_zero];done)|(simp only [List.getElem?_toArray,List.getElem?_cons_succ,List.getElem?_cons_zero];exact rfl))
     go_simp;go_at_call 39;refine (HJ.out _ hb3 _ (Below.refl _ _)).mono ?_;rintro e w5 ⟨rfl,hb9⟩;have hb5:=dA hb3 hb9;clear hb9;go_wp2_with fail;refine hK.out _ _ ?_ (fun hHeld9=>?_)
     ·(first|exact HS.out _ hb1|exact HS.out _ hb2|exact HS.out _ hb3|exact HS.out _ hb4|exact HS.out _ hb5)
     clear hK K
     try simp only [Act.put,ls]
     refine tk 10 ?_;try simp only [Act.put,ls]
     refine tk 11 ?_;try simp only [Act.put,ls]
     refine tk 12 ?_;try simp only [Act.put,ls]
     refine tk 13 ?_;try simp only [Act.put,ls]
     refine tk 14 ?_;try simp only [Act.put,ls]
     refine tk 15 ?_;try simp only [Act.put,ls]
     refine tk 16 ?_;try simp only [Act.put,ls]
     refine tk 17 ?_;try simp only [Act.put,ls]
     refine tk 18 ?_;try simp only [Act.put,ls]
     refine tk 19 ?_;try simp only [Act.put,ls]
     refine ts 20 ?_;try simp only [Act.put,ls]
     refine ts 21 ?_;try simp only [Act.put,ls]
     refine ts 22 ?_;try simp only [Act.put,ls]
     refine ts 23 ?_;try simp only [Act.put,ls]
     refine ts 24 ?_;try simp only [Act.put,ls]
     refine ts 25 ?_;try simp only [Act.put,ls]
     refine ts 26 ?_;try simp only [Act.put,ls]
     refine ts 27 ?_;try simp only [Act.put,ls]
     refine ts 28 ?_;try simp only [Act.put,ls]
     refine ts 29 ?_;try simp only [Act.put,ls]
     refine ts 30 ?_;try simp only [Act.put,ls]
     refine ts 31 ?_;try simp only [Act.put,ls]
     refine ts 32 ?_;try simp only [Act.put,ls]
     refine ts 33 ?_;try simp only [Act.put,ls]
     refine tk 34 ?_;try simp only [Act.put,ls]
     refine tk 35 ?_;try simp only [Act.put,ls]
     refine wpAnyH_done (by kernel_rfl) ?_ _;go_wp2_with fail;go_ret;exact⟨rfl,hb5⟩
    | cons ch rr =>
     rw [hpw] at HR HS;have hr:XX=R:=by rw [HR.out];rfl
     subst hr;clear HR;go_wp2_with fail;have hb1:=(Below.refl w.heap.size w).drew;refine wp_region_held_drew (S:=fun w'=>w'.cell? ⟨nb i,4,none⟩=some (.pointer (some ⟨nb j,0,none⟩))∧w'.cell? ⟨nb i,2,none⟩=some (.string ⟨(ch::rr).toArray⟩)∧w'.cell? ⟨nb i,5,none⟩=some (.int .i64 (tn:Int))∧w'.cell? ⟨nb j,6,none⟩=some (.slice kbj n capj)) (by kernel_rfl) ?_ (fun hHeld=>?_)
     ·exact HS.out _ hb1
     refine tk 0 ?_;try simp only [Act.put,ls]
     refine wpAnyH_ready (rs:=[1]) (by kernel_rfl) (by simp) (AllReadyH.cons (o:=?_) ?_ (fun K hK=>?_) AllReadyH.nil)
     rotate_left
     ·(first|(simp only [List.getElem?_toArray,List.getElem?_cons_succ,List.getElem?_cons_zero];done)|(simp only [List.getElem?_toArray,List.getElem?_cons_succ,List.getElem?_cons_zero];exact rfl))
     go_simp;go_wp2_with fail;have hb2:=hb1.alloc hb1.size (Obj.cells #[.int .u8 15] 5);refine hK.out _ _ ?_ (fun hHeld1=>?_)
     ·(first|exact HS.out _ hb1|exact HS.out _ hb2|exact HS.out _ hb3|exact HS.out _ hb4|exact HS.out _ hb5)
     clear hK K
     try simp only [Act.put,ls]
     refine wpAnyH_ready (rs:=[2]) (by kernel_rfl) (by simp) (AllReadyH.cons (o:=?_) ?_ (fun K hK=>?_) AllReadyH.nil)
     rotate_left
     ·(first|(simp only [List.getElem?_toArray,List.getElem?_cons_succ,List.getElem?_cons_zero];done)|(simp only [List.getElem?_toArray,List.getElem?_cons_succ,List.getElem?_cons_zero];exact rfl))
     go_simp;go_at_call 39;refine (HI.out _ hb1 (Below.refl _ _)).mono ?_;rintro e w3 ⟨rfl,hb9⟩;have hb3:=dA hb1 hb9;clear hb9;go_wp2_with fail;refine hK.out _ _ ?_ (fun hHeld2=>?_)
     ·(first|exact HS.out _ hb1|exact HS.out _ hb2|exact HS.out _ hb3|exact HS.out _ hb4|exact HS.out _ hb5)
     clear hK K
     try simp only [Act.put,ls]
     refine tk 3 ?_;try simp only [Act.put,ls]
     refine tk 4 ?_;try simp only [Act.put,ls]
     refine tk 5 ?_;try simp only [Act.put,ls]
     refine tk 6 ?_;try simp only [Act.put,ls]
     refine tk 7 ?_;try simp only [Act.put,ls]
     refine wpAnyH_ready (rs:=[8]) (by kernel_rfl) (by simp) (AllReadyH.cons (o:=?_) ?_ (fun K hK=>?_) AllReadyH.nil)
     rotate_left
     ·(first|(simp only [List.getElem?_toArray,List.getElem?_cons_succ,List.getElem?_cons_zero];done)|(simp only [List.getElem?_toArray,List.getElem?_cons_succ,List.getElem?_cons_zero];exact rfl))
     go_simp;go_wp2_with fail;have hb4:=hb3.alloc hb3.size (Obj.cells #[.int .u8 14] 5);refine hK.out _ _ ?_ (fun hHeld8=>?_)
     ·(first|exact HS.out _ hb1|exact HS.out _ hb2|exact HS.out _ hb3|exact HS.out _ hb4|exact HS.out _ hb5)
     clear hK K
     try simp only [Act.put,ls]
     refine wpAnyH_ready (rs:=[9]) (by kernel_rfl) (by simp) (AllReadyH.cons (o:=?_) ?_ (fun K hK=>?_) AllReadyH.nil)
     rotate_left
     ·(first|(simp only [List.getElem?_toArray,List.getElem?_cons_succ,List.getElem?_cons_zero];done)|(simp only [List.getElem?_toArray,List.getElem?_cons_succ,List.getElem?_cons_zero];exact rfl))
     go_simp;go_at_call 39;refine (HJ.out _ hb3 _ (Below.refl _ _)).mono ?_;rintro e w5 ⟨rfl,hb9⟩;have hb5:=dA hb3 hb9;clear hb9;go_wp2_with fail;refine hK.out _ _ ?_ (fun hHeld9=>?_)
     ·(first|exact HS.out _ hb1|exact HS.out _ hb2|exact HS.out _ hb3|exact HS.out _ hb4|exact HS.out _ hb5)
     clear hK K
     try simp only [Act.put,ls]
     refine tk 10 ?_;try simp only [Act.put,ls]
     refine tk 11 ?_;try simp only [Act.put,ls]
     refine tk 12 ?_;try simp only [Act.put,ls]
     refine tk 13 ?_;try simp only [Act.put,ls]
     refine tk 14 ?_;try simp only [Act.put,ls]
     refine tk 15 ?_;try simp only [Act.put,ls]
     refine tk 16 ?_;try simp only [Act.put,ls]
     refine tk 17 ?_;try simp only [Act.put,ls]
     refine tk 18 ?_;try simp only [Act.put,ls]
     refine tk 19 ?_;try simp only [Act.put,ls]
     refine tk 20 ?_;try simp only [Act.put,ls]
     refine tk 21 ?_;try simp only [Act.put,ls]
     refine tk 22 ?_;try simp only [Act.put,ls]
     refine tk 23 ?_;try simp only [Act.put,ls]
     refine tk 24 ?_;try simp only [Act.put,ls]
     refine tk 25 ?_;try simp only [Act.put,ls]
     refine tk 26 ?_;try simp only [Act.put,ls]
     refine tk 27 ?_;try simp only [Act.put,ls]
     refine tk 28 ?_;try simp only [Act.put,ls]
     refine tk 29 ?_;try simp only [Act.put,ls]
     refine tk 30 ?_;try simp only [Act.put,ls]
     refine tk 31 ?_;try simp only [Act.put,ls]
     refine tk 32 ?_;try simp only [Act.put,ls]
     refine tk 33 ?_;try simp only [Act.put,ls]
     refine tk 34 ?_;try simp only [Act.put,ls]
     refine tk 35 ?_;try simp only [Act.put,ls]
     refine wpAnyH_done (by kernel_rfl) ?_ _;go_wp2_with fail;go_ret;exact⟨rfl,hb5⟩
end Shp
end Go.Proofs.YtcjmpafkcmlhbaaGreatDoor
