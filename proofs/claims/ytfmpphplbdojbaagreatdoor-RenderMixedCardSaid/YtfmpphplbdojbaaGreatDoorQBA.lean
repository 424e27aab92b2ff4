import Derived.Shelf.Strings.SlTrimAscii
import Derived.Test.YtfmpphplbdojbaaGreatDoorQAZ
import Derived.Test.YtfmpphplbdojbaaGreatDoorQAX
namespace Go.Proofs.YtfmpphplbdojbaaGreatDoor
set_option linter.all false
set_option maxHeartbeats 40000000
set_option maxRecDepth 100000
section
open Go.RowKit
variable {w:World}
theorem oT (l:List UInt8) (w:World):Calls Tryz.prog 237 #[.string ⟨l.toArray⟩,.string ⟨#[32,9,13,10]⟩] w fun e w'=>e=.returned (.string ⟨(Lib.trimLeftS l [32,9,13,10]).toArray⟩)/\Below w.heap.size w w' :=
 Any.strings_TrimLeft_laid Tryz.lays161 Ci ⟨l.toArray⟩ ⟨#[32,9,13,10]⟩ w Ch (ascii_of_all Ch)
theorem mI (l cs:List UInt8):(Lib.trimLeftS l cs).length<=l.length:=by
 unfold Lib.trimLeftS;exact (List.dropWhile_sublist _).length_le
theorem AL {l p:List UInt8} (h:Lib.hasPrefix l p=true):p.length<=l.length:=(List.isPrefixOf_iff_prefix.1 h).length_le
theorem WJ (sub:List UInt8):∀ l,Lib.index l sub < 0∨Lib.index l sub+sub.length<=l.length
 | []=>by
  unfold Lib.index;split
  ·rename_i h
   right
   rw [List.isEmpty_iff.1 h];simp
  ·left;decide
 | b::l=>by
  unfold Lib.index;have ih:=WJ sub l;split
  ·rename_i h
   right
   have:=AL (p:=sub) (l:=b::l) h;omega
  ·split
   ·left;decide
   ·rename_i h;simp only [beq_iff_eq] at h;simp only [Ab];omega
def cB (l:List UInt8) (k:Nat):Int × Int :=
 if ((vB l k).1==65279)=true then (10,k+(vB l k).2)
 else if RI (vB l k).1=true then (10,(l.length:Int) - ((Lib.trimLeftS (l.drop k) [32,9,13,10]).length:Int))
 else if Lib.hasPrefix (l.drop k) [47,47]=true then (if decide (0<=Lib.indexByte (l.drop k) 10)=true then (11,k+Lib.indexByte (l.drop k) 10) else (11,(l.length:Int)))
 else if Lib.hasPrefix (l.drop k) [47,42]=true then (if decide (0<=Lib.index (l.drop (k+2)) [42,47])=true then (12,k+Lib.index (l.drop (k+2)) [42,47]+4) else (0,0))
 else if oB (vB l k).1=true then (uI l k,((k+tF (l.drop k):Nat):Int))
 else if ((vB l k).1==59)=true then (9,(k:Int)+1)
 else if ((Num.YE l k).2.2 != 15)=true then ((Num.YE l k).1,(Num.YE l k).2.1)
 else if ((YA l k).e != 15)=true then ((YA l k).k,(YA l k).tx)
 else if decide (0 < CG (l.drop k))=true then (8,(k:Int)+(CG (l.drop k):Int))
 else (0,0)
theorem zT (l:List UInt8) (k:Nat) (hs:l.length<=65536) (hk:k < l.length) (hT:NC w):Calls Tryz.prog 207 #[.string ⟨l.toArray⟩,.int .i64 k] w (fun e w'=>e=.returned (.tuple #[.int .u8 (cB l k).1,.int .i64 (cB l k).2])/\Below w.heap.size w w'):=by
 have hr2:=oI l k hk;have hW:=YK l k hs Cf (w:=w);have hwn:=uL (l.drop k);have hsn:CG (l.drop k)<=l.length - k:=by have:=LH (l.drop k) (min 3 (l.drop k).length);simp only [V'] at this;unfold CG;simp only [V'];omega
 have htl:=mI (l.drop k) [32,9,13,10];have hib:=cW (l.drop k) 10;have hxl:=WJ [42,47] (l.drop (k+2));have hpl:Lib.hasPrefix (l.drop k) [47,42]=true->2<=l.length - k:=fun h=>by have:=AL h;simpa using this
 simp only [V',Ab,Aj] at hwn htl hib hxl;have hRd:=QI (w:=w) l k Cf hT;have hWd:=fun w=>YK l k hs Cf (w:=w)
 have hSc:=fun w=>Num.yU l (k:Int) w Cf
 have hQs:=fun w hT=>rR l (k:Int) Cf hT (w:=w)
 have hTr:=fun w=>oT (l.drop k) w
 have hSg:=fun w=>cU (l.drop k) Jk (w:=w)
 have hP1:=fun w=>Num.gN (l.drop k) [47,47] w
 have hP2:=fun w=>Num.gN (l.drop k) [47,42] w
 have hIb:=fun w=>Tryz.strings_IndexByte ⟨(l.drop k).toArray⟩ 10 w
 have hc9:((10:Int).toNat.toUInt8)=10:=Ch
 simp only [hc9] at hIb;obtain⟨mx,hmx⟩:=hT.2;have hIx:=fun w hm=>Tryz.strings_Index ⟨(l.drop (k+2)).toArray⟩ ⟨#[42,47]⟩ mx w (by simp only [ByteArray.size,List.size_toArray,V'];omega) hm
 have hMX:=Lib.hid hmx;have hTT:=Lib.hid hT;have e:cB l k=cB l k:=rfl
 conv at e=>rhs;unfold cB
 rw [e];clear e hmx hT hW;simp only [] at hIb hIx hSc hQs;generalize vB l k=r at *;generalize Num.YE l k=sc at *;generalize YA l k=bq at *;generalize uI l k=wk at *;generalize tF (l.drop k)=wn at *;generalize CG (l.drop k)=sn at *;generalize Lib.indexByte (l.drop k) 10=ib at *;generalize Lib.index (l.drop (k+2)) [42,47]=xl at *;generalize Lib.hasPrefix (l.drop k) [47,47]=p1 at *;generalize Lib.hasPrefix (l.drop k) [47,42]=p2 at *;generalize Lib.trimLeftS (l.drop k) [32,9,13,10]=tr at *;have hdt2:(l.drop (k+2)).take (l.length - k - 2)=l.drop (k+2):=Ar Cn;have hdt:(l.drop k).take (l.length - k)=l.drop k:=Ar Cm;cases d0:r.1==65279 with
 | true =>
  rw [if_pos rfl];have hw0:IntKind.i64.wrap ((k:Int)+r.2)=(k:Int)+r.2:=IntWalk.i64_in _ Cf;go_enter Tryz.func207,Tryz.ntmps207;go_wp2_with (first
  | (go_at_call 116;refine hRd.mono ?_;rintro e w1 ⟨rfl,hB⟩)
  | (go_at_call 236;refine (uC _).mono ?_;rintro e w2 ⟨rfl,rfl⟩)
  | (go_at_call 237;refine (hTr _).mono ?_;rintro e w3 ⟨rfl,hb3⟩;replace hB:=dA hB hb3)
  | (go_at_call 173;refine (hP1 _).mono ?_;rintro e w4 ⟨rfl,rfl⟩)
  | (go_at_call 173;refine (hP2 _).mono ?_;rintro e w5 ⟨rfl,rfl⟩)
  | (go_at_call 118;refine (hIb _).mono ?_;rintro e w6 ⟨rfl,rfl⟩)
  | (go_at_call 73;refine (hIx _ (aA hB hMX.out)).mono ?_;rintro e w7 ⟨rfl,rfl⟩)
  | (go_at_call 77;refine (XA _).mono ?_;rintro e w8 ⟨rfl,hb8⟩;replace hB:=dA hB hb8)
  | (go_at_call 238;refine (hWd _).mono ?_;rintro e w9 ⟨rfl,hb9⟩;replace hB:=dA hB hb9)
  | (go_at_call 239;refine (hSc _).mono ?_;rintro e wa ⟨rfl,hba⟩;replace hB:=dA hB hba)
  | (go_at_call 240;refine (hQs _ (hTT.out.below hB)).mono ?_;rintro e wb ⟨rfl,hbb⟩;replace hB:=dA hB hbb)
  | (go_at_call 241;refine (hSg _).mono ?_;rintro e wc ⟨rfl,rfl⟩))
  go_ret2;exact⟨rfl,hB⟩
 | false =>
 rw [if_neg Cm];cases d1:RI r.1 with
 | true =>
  rw [if_pos rfl];have hw0:IntKind.i64.wrap ((l.length:Int) - (tr.length:Int))=(l.length:Int) - (tr.length:Int):=IntWalk.i64_in _ Cf;go_enter Tryz.func207,Tryz.ntmps207;go_wp2_with (first
  | (go_at_call 116;refine hRd.mono ?_;rintro e w1 ⟨rfl,hB⟩)
  | (go_at_call 236;refine (uC _).mono ?_;rintro e w2 ⟨rfl,rfl⟩)
  | (go_at_call 237;refine (hTr _).mono ?_;rintro e w3 ⟨rfl,hb3⟩;replace hB:=dA hB hb3)
  | (go_at_call 173;refine (hP1 _).mono ?_;rintro e w4 ⟨rfl,rfl⟩)
  | (go_at_call 173;refine (hP2 _).mono ?_;rintro e w5 ⟨rfl,rfl⟩)
  | (go_at_call 118;refine (hIb _).mono ?_;rintro e w6 ⟨rfl,rfl⟩)
  | (go_at_call 73;refine (hIx _ (aA hB hMX.out)).mono ?_;rintro e w7 ⟨rfl,rfl⟩)
  | (go_at_call 77;refine (XA _).mono ?_;rintro e w8 ⟨rfl,hb8⟩;replace hB:=dA hB hb8)
  | (go_at_call 238;refine (hWd _).mono ?_;rintro e w9 ⟨rfl,hb9⟩;replace hB:=dA hB hb9)
  | (go_at_call 239;refine (hSc _).mono ?_;rintro e wa ⟨rfl,hba⟩;replace hB:=dA hB hba)
  | (go_at_call 240;refine (hQs _ (hTT.out.below hB)).mono ?_;rintro e wb ⟨rfl,hbb⟩;replace hB:=dA hB hbb)
  | (go_at_call 241;refine (hSg _).mono ?_;rintro e wc ⟨rfl,rfl⟩))
  go_ret2;exact⟨rfl,hB⟩
 | false =>
 rw [if_neg Cm];cases d2:p1 with
 | true =>
  rw [if_pos rfl];cases e1:decide (0<=ib) with
  | true =>
   rw [if_pos rfl];have hib0:0<=ib:=of_decide_eq_true e1;have hw0:IntKind.i64.wrap ((k:Int)+ib)=(k:Int)+ib:=IntWalk.i64_in _ Cf;go_enter Tryz.func207,Tryz.ntmps207;go_wp2_with (first
  | (go_at_call 116;refine hRd.mono ?_;rintro e w1 ⟨rfl,hB⟩)
  | (go_at_call 236;refine (uC _).mono ?_;rintro e w2 ⟨rfl,rfl⟩)
  | (go_at_call 237;refine (hTr _).mono ?_;rintro e w3 ⟨rfl,hb3⟩;replace hB:=dA hB hb3)
  | (go_at_call 173;refine (hP1 _).mono ?_;rintro e w4 ⟨rfl,rfl⟩)
  | (go_at_call 173;refine (hP2 _).mono ?_;rintro e w5 ⟨rfl,rfl⟩)
  | (go_at_call 118;refine (hIb _).mono ?_;rintro e w6 ⟨rfl,rfl⟩)
  | (go_at_call 73;refine (hIx _ (aA hB hMX.out)).mono ?_;rintro e w7 ⟨rfl,rfl⟩)
  | (go_at_call 77;refine (XA _).mono ?_;rintro e w8 ⟨rfl,hb8⟩;replace hB:=dA hB hb8)
  | (go_at_call 238;refine (hWd _).mono ?_;rintro e w9 ⟨rfl,hb9⟩;replace hB:=dA hB hb9)
  | (go_at_call 239;refine (hSc _).mono ?_;rintro e wa ⟨rfl,hba⟩;replace hB:=dA hB hba)
  | (go_at_call 240;refine (hQs _ (hTT.out.below hB)).mono ?_;rintro e wb ⟨rfl,hbb⟩;replace hB:=dA hB hbb)
  | (go_at_call 241;refine (hSg _).mono ?_;rintro e wc ⟨rfl,rfl⟩))
   go_ret2;exact⟨rfl,hB⟩
  | false =>
   rw [if_neg Cm];go_enter Tryz.func207,Tryz.ntmps207;go_wp2_with (first
  | (go_at_call 116;refine hRd.mono ?_;rintro e w1 ⟨rfl,hB⟩)
  | (go_at_call 236;refine (uC _).mono ?_;rintro e w2 ⟨rfl,rfl⟩)
  | (go_at_call 237;refine (hTr _).mono ?_;rintro e w3 ⟨rfl,hb3⟩;replace hB:=dA hB hb3)
  | (go_at_call 173;refine (hP1 _).mono ?_;rintro e w4 ⟨rfl,rfl⟩)
  | (go_at_call 173;refine (hP2 _).mono ?_;rintro e w5 ⟨rfl,rfl⟩)
  | (go_at_call 118;refine (hIb _).mono ?_;rintro e w6 ⟨rfl,rfl⟩)
  | (go_at_call 73;refine (hIx _ (aA hB hMX.out)).mono ?_;rintro e w7 ⟨rfl,rfl⟩)
  | (go_at_call 77;refine (XA _).mono ?_;rintro e w8 ⟨rfl,hb8⟩;replace hB:=dA hB hb8)
  | (go_at_call 238;refine (hWd _).mono ?_;rintro e w9 ⟨rfl,hb9⟩;replace hB:=dA hB hb9)
  | (go_at_call 239;refine (hSc _).mono ?_;rintro e wa ⟨rfl,hba⟩;replace hB:=dA hB hba)
  | (go_at_call 240;refine (hQs _ (hTT.out.below hB)).mono ?_;rintro e wb ⟨rfl,hbb⟩;replace hB:=dA hB hbb)
  | (go_at_call 241;refine (hSg _).mono ?_;rintro e wc ⟨rfl,rfl⟩))
   go_ret2;exact⟨rfl,hB⟩
 | false =>
 rw [if_neg Cm];cases d3:p2 with
 | true =>
  rw [if_pos rfl];have h2k:=hpl d3;cases e1:decide (0<=xl) with
  | true =>
   rw [if_pos rfl];have hxl0:0<=xl:=of_decide_eq_true e1;have hw0:IntKind.i64.wrap ((k:Int)+xl)=(k:Int)+xl:=IntWalk.i64_in _ Cf;have hw1:IntKind.i64.wrap ((k:Int)+xl+4)=(k:Int)+xl+4:=IntWalk.i64_in _ Cf;go_enter Tryz.func207,Tryz.ntmps207;go_wp2_with (first
  | (go_at_call 116;refine hRd.mono ?_;rintro e w1 ⟨rfl,hB⟩)
  | (go_at_call 236;refine (uC _).mono ?_;rintro e w2 ⟨rfl,rfl⟩)
  | (go_at_call 237;refine (hTr _).mono ?_;rintro e w3 ⟨rfl,hb3⟩;replace hB:=dA hB hb3)
  | (go_at_call 173;refine (hP1 _).mono ?_;rintro e w4 ⟨rfl,rfl⟩)
  | (go_at_call 173;refine (hP2 _).mono ?_;rintro e w5 ⟨rfl,rfl⟩)
  | (go_at_call 118;refine (hIb _).mono ?_;rintro e w6 ⟨rfl,rfl⟩)
  | (go_at_call 73;refine (hIx _ (aA hB hMX.out)).mono ?_;rintro e w7 ⟨rfl,rfl⟩)
  | (go_at_call 77;refine (XA _).mono ?_;rintro e w8 ⟨rfl,hb8⟩;replace hB:=dA hB hb8)
  | (go_at_call 238;refine (hWd _).mono ?_;rintro e w9 ⟨rfl,hb9⟩;replace hB:=dA hB hb9)
  | (go_at_call 239;refine (hSc _).mono ?_;rintro e wa ⟨rfl,hba⟩;replace hB:=dA hB hba)
  | (go_at_call 240;refine (hQs _ (hTT.out.below hB)).mono ?_;rintro e wb ⟨rfl,hbb⟩;replace hB:=dA hB hbb)
  | (go_at_call 241;refine (hSg _).mono ?_;rintro e wc ⟨rfl,rfl⟩))
   go_ret2;exact⟨rfl,hB⟩
  | false =>
   rw [if_neg Cm];go_enter Tryz.func207,Tryz.ntmps207;go_wp2_with (first
  | (go_at_call 116;refine hRd.mono ?_;rintro e w1 ⟨rfl,hB⟩)
  | (go_at_call 236;refine (uC _).mono ?_;rintro e w2 ⟨rfl,rfl⟩)
  | (go_at_call 237;refine (hTr _).mono ?_;rintro e w3 ⟨rfl,hb3⟩;replace hB:=dA hB hb3)
  | (go_at_call 173;refine (hP1 _).mono ?_;rintro e w4 ⟨rfl,rfl⟩)
  | (go_at_call 173;refine (hP2 _).mono ?_;rintro e w5 ⟨rfl,rfl⟩)
  | (go_at_call 118;refine (hIb _).mono ?_;rintro e w6 ⟨rfl,rfl⟩)
  | (go_at_call 73;refine (hIx _ (aA hB hMX.out)).mono ?_;rintro e w7 ⟨rfl,rfl⟩)
  | (go_at_call 77;refine (XA _).mono ?_;rintro e w8 ⟨rfl,hb8⟩;replace hB:=dA hB hb8)
  | (go_at_call 238;refine (hWd _).mono ?_;rintro e w9 ⟨rfl,hb9⟩;replace hB:=dA hB hb9)
  | (go_at_call 239;refine (hSc _).mono ?_;rintro e wa ⟨rfl,hba⟩;replace hB:=dA hB hba)
  | (go_at_call 240;refine (hQs _ (hTT.out.below hB)).mono ?_;rintro e wb ⟨rfl,hbb⟩;replace hB:=dA hB hbb)
  | (go_at_call 241;refine (hSg _).mono ?_;rintro e wc ⟨rfl,rfl⟩))
   go_ret2;exact⟨rfl,hB⟩
 | false =>
 rw [if_neg Cm];cases d4:oB r.1 with
 | true =>
  rw [if_pos rfl];go_enter Tryz.func207,Tryz.ntmps207;go_wp2_with (first
  | (go_at_call 116;refine hRd.mono ?_;rintro e w1 ⟨rfl,hB⟩)
  | (go_at_call 236;refine (uC _).mono ?_;rintro e w2 ⟨rfl,rfl⟩)
  | (go_at_call 237;refine (hTr _).mono ?_;rintro e w3 ⟨rfl,hb3⟩;replace hB:=dA hB hb3)
  | (go_at_call 173;refine (hP1 _).mono ?_;rintro e w4 ⟨rfl,rfl⟩)
  | (go_at_call 173;refine (hP2 _).mono ?_;rintro e w5 ⟨rfl,rfl⟩)
  | (go_at_call 118;refine (hIb _).mono ?_;rintro e w6 ⟨rfl,rfl⟩)
  | (go_at_call 73;refine (hIx _ (aA hB hMX.out)).mono ?_;rintro e w7 ⟨rfl,rfl⟩)
  | (go_at_call 77;refine (XA _).mono ?_;rintro e w8 ⟨rfl,hb8⟩;replace hB:=dA hB hb8)
  | (go_at_call 238;refine (hWd _).mono ?_;rintro e w9 ⟨rfl,hb9⟩;replace hB:=dA hB hb9)
  | (go_at_call 239;refine (hSc _).mono ?_;rintro e wa ⟨rfl,hba⟩;replace hB:=dA hB hba)
  | (go_at_call 240;refine (hQs _ (hTT.out.below hB)).mono ?_;rintro e wb ⟨rfl,hbb⟩;replace hB:=dA hB hbb)
  | (go_at_call 241;refine (hSg _).mono ?_;rintro e wc ⟨rfl,rfl⟩))
  go_ret2;exact⟨rfl,hB⟩
 | false =>
 rw [if_neg Cm];cases d5:r.1==59 with
 | true =>
  rw [if_pos rfl];have hw0:IntKind.i64.wrap ((k:Int)+1)=(k:Int)+1:=IntWalk.i64_in _ Cf;go_enter Tryz.func207,Tryz.ntmps207;go_wp2_with (first
  | (go_at_call 116;refine hRd.mono ?_;rintro e w1 ⟨rfl,hB⟩)
  | (go_at_call 236;refine (uC _).mono ?_;rintro e w2 ⟨rfl,rfl⟩)
  | (go_at_call 237;refine (hTr _).mono ?_;rintro e w3 ⟨rfl,hb3⟩;replace hB:=dA hB hb3)
  | (go_at_call 173;refine (hP1 _).mono ?_;rintro e w4 ⟨rfl,rfl⟩)
  | (go_at_call 173;refine (hP2 _).mono ?_;rintro e w5 ⟨rfl,rfl⟩)
  | (go_at_call 118;refine (hIb _).mono ?_;rintro e w6 ⟨rfl,rfl⟩)
  | (go_at_call 73;refine (hIx _ (aA hB hMX.out)).mono ?_;rintro e w7 ⟨rfl,rfl⟩)
  | (go_at_call 77;refine (XA _).mono ?_;rintro e w8 ⟨rfl,hb8⟩;replace hB:=dA hB hb8)
  | (go_at_call 238;refine (hWd _).mono ?_;rintro e w9 ⟨rfl,hb9⟩;replace hB:=dA hB hb9)
  | (go_at_call 239;refine (hSc _).mono ?_;rintro e wa ⟨rfl,hba⟩;replace hB:=dA hB hba)
  | (go_at_call 240;refine (hQs _ (hTT.out.below hB)).mono ?_;rintro e wb ⟨rfl,hbb⟩;replace hB:=dA hB hbb)
  | (go_at_call 241;refine (hSg _).mono ?_;rintro e wc ⟨rfl,rfl⟩))
  go_ret2;exact⟨rfl,hB⟩
 | false =>
 rw [if_neg Cm];cases d6:sc.2.2 != 15 with
 | true =>
  rw [if_pos rfl];go_enter Tryz.func207,Tryz.ntmps207;go_wp2_with (first
  | (go_at_call 116;refine hRd.mono ?_;rintro e w1 ⟨rfl,hB⟩)
  | (go_at_call 236;refine (uC _).mono ?_;rintro e w2 ⟨rfl,rfl⟩)
  | (go_at_call 237;refine (hTr _).mono ?_;rintro e w3 ⟨rfl,hb3⟩;replace hB:=dA hB hb3)
  | (go_at_call 173;refine (hP1 _).mono ?_;rintro e w4 ⟨rfl,rfl⟩)
  | (go_at_call 173;refine (hP2 _).mono ?_;rintro e w5 ⟨rfl,rfl⟩)
  | (go_at_call 118;refine (hIb _).mono ?_;rintro e w6 ⟨rfl,rfl⟩)
  | (go_at_call 73;refine (hIx _ (aA hB hMX.out)).mono ?_;rintro e w7 ⟨rfl,rfl⟩)
  | (go_at_call 77;refine (XA _).mono ?_;rintro e w8 ⟨rfl,hb8⟩;replace hB:=dA hB hb8)
  | (go_at_call 238;refine (hWd _).mono ?_;rintro e w9 ⟨rfl,hb9⟩;replace hB:=dA hB hb9)
  | (go_at_call 239;refine (hSc _).mono ?_;rintro e wa ⟨rfl,hba⟩;replace hB:=dA hB hba)
  | (go_at_call 240;refine (hQs _ (hTT.out.below hB)).mono ?_;rintro e wb ⟨rfl,hbb⟩;replace hB:=dA hB hbb)
  | (go_at_call 241;refine (hSg _).mono ?_;rintro e wc ⟨rfl,rfl⟩))
  go_ret2;exact⟨rfl,hB⟩
 | false =>
 rw [if_neg Cm];cases d7:bq.e != 15 with
 | true =>
  rw [if_pos rfl];go_enter Tryz.func207,Tryz.ntmps207;go_wp2_with (first
  | (go_at_call 116;refine hRd.mono ?_;rintro e w1 ⟨rfl,hB⟩)
  | (go_at_call 236;refine (uC _).mono ?_;rintro e w2 ⟨rfl,rfl⟩)
  | (go_at_call 237;refine (hTr _).mono ?_;rintro e w3 ⟨rfl,hb3⟩;replace hB:=dA hB hb3)
  | (go_at_call 173;refine (hP1 _).mono ?_;rintro e w4 ⟨rfl,rfl⟩)
  | (go_at_call 173;refine (hP2 _).mono ?_;rintro e w5 ⟨rfl,rfl⟩)
  | (go_at_call 118;refine (hIb _).mono ?_;rintro e w6 ⟨rfl,rfl⟩)
  | (go_at_call 73;refine (hIx _ (aA hB hMX.out)).mono ?_;rintro e w7 ⟨rfl,rfl⟩)
  | (go_at_call 77;refine (XA _).mono ?_;rintro e w8 ⟨rfl,hb8⟩;replace hB:=dA hB hb8)
  | (go_at_call 238;refine (hWd _).mono ?_;rintro e w9 ⟨rfl,hb9⟩;replace hB:=dA hB hb9)
  | (go_at_call 239;refine (hSc _).mono ?_;rintro e wa ⟨rfl,hba⟩;replace hB:=dA hB hba)
  | (go_at_call 240;refine (hQs _ (hTT.out.below hB)).mono ?_;rintro e wb ⟨rfl,hbb⟩;replace hB:=dA hB hbb)
  | (go_at_call 241;refine (hSg _).mono ?_;rintro e wc ⟨rfl,rfl⟩))
  go_ret2;exact⟨rfl,hB⟩
 | false =>
 rw [if_neg Cm];cases d8:decide (0 < sn) with
 | true =>
  rw [if_pos rfl];have hw0:IntKind.i64.wrap ((k:Int)+(sn:Int))=(k:Int)+(sn:Int):=IntWalk.i64_in _ Cf;go_enter Tryz.func207,Tryz.ntmps207;go_wp2_with (first
  | (go_at_call 116;refine hRd.mono ?_;rintro e w1 ⟨rfl,hB⟩)
  | (go_at_call 236;refine (uC _).mono ?_;rintro e w2 ⟨rfl,rfl⟩)
  | (go_at_call 237;refine (hTr _).mono ?_;rintro e w3 ⟨rfl,hb3⟩;replace hB:=dA hB hb3)
  | (go_at_call 173;refine (hP1 _).mono ?_;rintro e w4 ⟨rfl,rfl⟩)
  | (go_at_call 173;refine (hP2 _).mono ?_;rintro e w5 ⟨rfl,rfl⟩)
  | (go_at_call 118;refine (hIb _).mono ?_;rintro e w6 ⟨rfl,rfl⟩)
  | (go_at_call 73;refine (hIx _ (aA hB hMX.out)).mono ?_;rintro e w7 ⟨rfl,rfl⟩)
  | (go_at_call 77;refine (XA _).mono ?_;rintro e w8 ⟨rfl,hb8⟩;replace hB:=dA hB hb8)
  | (go_at_call 238;refine (hWd _).mono ?_;rintro e w9 ⟨rfl,hb9⟩;replace hB:=dA hB hb9)
  | (go_at_call 239;refine (hSc _).mono ?_;rintro e wa ⟨rfl,hba⟩;replace hB:=dA hB hba)
  | (go_at_call 240;refine (hQs _ (hTT.out.below hB)).mono ?_;rintro e wb ⟨rfl,hbb⟩;replace hB:=dA hB hbb)
  | (go_at_call 241;refine (hSg _).mono ?_;rintro e wc ⟨rfl,rfl⟩))
  go_ret2;exact⟨rfl,hB⟩
 | false =>
 rw [if_neg Cm];go_enter Tryz.func207,Tryz.ntmps207;go_wp2_with (first
  | (go_at_call 116;refine hRd.mono ?_;rintro e w1 ⟨rfl,hB⟩)
  | (go_at_call 236;refine (uC _).mono ?_;rintro e w2 ⟨rfl,rfl⟩)
  | (go_at_call 237;refine (hTr _).mono ?_;rintro e w3 ⟨rfl,hb3⟩;replace hB:=dA hB hb3)
  | (go_at_call 173;refine (hP1 _).mono ?_;rintro e w4 ⟨rfl,rfl⟩)
  | (go_at_call 173;refine (hP2 _).mono ?_;rintro e w5 ⟨rfl,rfl⟩)
  | (go_at_call 118;refine (hIb _).mono ?_;rintro e w6 ⟨rfl,rfl⟩)
  | (go_at_call 73;refine (hIx _ (aA hB hMX.out)).mono ?_;rintro e w7 ⟨rfl,rfl⟩)
  | (go_at_call 77;refine (XA _).mono ?_;rintro e w8 ⟨rfl,hb8⟩;replace hB:=dA hB hb8)
  | (go_at_call 238;refine (hWd _).mono ?_;rintro e w9 ⟨rfl,hb9⟩;replace hB:=dA hB hb9)
  | (go_at_call 239;refine (hSc _).mono ?_;rintro e wa ⟨rfl,hba⟩;replace hB:=dA hB hba)
  | (go_at_call 240;refine (hQs _ (hTT.out.below hB)).mono ?_;rintro e wb ⟨rfl,hbb⟩;replace hB:=dA hB hbb)
  | (go_at_call 241;refine (hSg _).mono ?_;rintro e wc ⟨rfl,rfl⟩))
 go_ret2;exact⟨rfl,hB⟩
end
