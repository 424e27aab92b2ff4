import Derived.Test.YtjdllofmhglmiaaGreatDoorQAG
namespace Go.Proofs.YtjdllofmhglmiaaGreatDoor
open Lib(hid)
set_option linter.all false
set_option maxHeartbeats 40000000
set_option maxRecDepth 100000
section
open Go.RowKit
variable {w:World}
theorem aV:∀ j < 512,bits BinOp.and IntKind.i64 ((j:Nat):Int) 255=((j:Nat):Int) % 256:=Ef
theorem lW (n:Int) (h0:0<=n) (h1:n < 512):bits BinOp.and IntKind.i64 n 255=n % 256:=by
 obtain⟨j,rfl⟩:=Ad h0;exact aV j Cs
theorem AP {c:Nat}{w0:World}{l:List UInt8}{m:UInt8}{k:Nat}{out:List UInt8}{bad:Bool} (H:Rq c w0 l m ⟨k,out,bad⟩ w) (hl:l.length<=1048576) (hkl:k < l.length) (ho:out.length<=4*k) (h1:¬ 0<=Lib.indexByte ([97,98,102,110,114,116,118,92]:List UInt8) l[k]) (h2:l[k]=m) :
  Calls Tryz.prog 291 #[p8 c] w (fun e w'=>e=.returned (.tuple #[])/\Rq c w0 l m (⟨k+1,out++[l[k]],bad⟩) w'):=by
 obtain⟨iU,hiU,hz0,hz1,hz2⟩:=info_parts Tryz.infoU8;obtain⟨ov,hblk,hown⟩:=H.blk;obtain⟨c0,c1,c2,c3,c4,f1,f2,f3,f4⟩:=CA hblk;simp only [] at hblk hown c1 c4;have hclt:=lt_of_block hblk;have d1:decide ((l.length:Int)<=(k:Int))=false:=Cv
 have hI:=fun w=>Tryz.strings_IndexByte ⟨([97,98,102,110,114,116,118,92]:List UInt8).toArray⟩ (l[k].toNat:Int) w
 have hc8:((l[k].toNat:Int).toNat.toUInt8)=l[k]:=Cu
 simp only [hc8] at hI;obtain⟨ix,hix⟩:∃ ix,ix=Lib.indexByte ([97,98,102,110,114,116,118,92]:List UInt8) l[k]:=⟨_,rfl⟩;rw [<- hix] at hI h1;have HK:=hid (Az hix (Az hown (Az hblk hkl)));clear hix hown hblk;subst h2;have d2:decide (0<=ix)=false:=Ea
 have hbo:=HK.out.2;have hcell:Lib.byteCells [l[k]]=[.int .u8 (l[k].toNat:Int)]:=by simp [Lib.byteCells]
 clear h1
 go_in
 go_wp2_with fail;go_quiet (fail);go_wp2_with fail;generalize nq=na at *;go_quiet (fail);obtain⟨hblk1,hown1⟩:=WX (w:=w.drewN (na+nq)) hbo.2.1 hbo.1 (i8 ((k:Int)+1));have hclt1:=lt_of_block hblk1;have hnew:∀ o,(((w.drewN (na+nq)).setCell (y8 c 1) (i8 ((k:Int)+1))).alloc o).heap[w.heap.size]?=some o:=fun o=>by have:=B8 ((w.drewN (na+nq)).setCell (y8 c 1) (i8 ((k:Int)+1))) o;simpa using this
 go_wp2_with (first|(go_at_call 221;refine (hI _).mono ?_;rintro e w1 ⟨rfl,rfl⟩)|(at_builtin;refine wpList_append_lies _ rfl _ _ 32 rfl (c+1) 5 iU _ 1 1 Tryz.underBs hiU hz0 hz1 hz2 rfl Ct ov out.length (Lib.byteCells out) rfl (hown1.alloc _) ⟨_,0,none⟩ 1 1 [.int .u8 (l[k].toNat:Int)] rfl rfl (At (hnew _)) Dq Ct Da Cs Cv _ rfl ?_;intro g cap w2 hown2 hgrow2 hat2 hlt2;have hb2:=uE (by exact (Af _ _ _ hclt1).trans hblk1) (hown1.alloc _) hgrow2;obtain⟨_,_,_,k3,_,_,_,z3,_⟩:=CA hb2));go_end0;exact⟨rfl,Rq.push (q:=⟨k+1,out,bad⟩) (bs:=[l[k]]) (Below.alloc (Rq.at_ (Rq.drewN H (na+nq)) (k+1)).bel (Nat.le_of_lt hclt1) _) ((Af _ _ _ hclt1).trans hblk1) (hown1.alloc _) hgrow2 hown2 rfl (by rw [hcell])⟩
theorem GV {c:Nat}{w0:World}{l:List UInt8}{m:UInt8}{k:Nat}{out:List UInt8}{bad:Bool} (H:Rq c w0 l m ⟨k,out,bad⟩ w) (hl:l.length<=1048576) (hkl:k < l.length) (ho:out.length<=4*k) (h1:¬ 0<=Lib.indexByte ([97,98,102,110,114,116,118,92]:List UInt8) l[k]) (h2:¬ l[k]=m) (h3:l[k]=120) :
  Calls Tryz.prog 291 #[p8 c] w (fun e w'=>e=.returned (.tuple #[])/\Rq c w0 l m (ED m (TA l 16 2 ⟨k+1,out,bad⟩ 0).1 false (TA l 16 2 ⟨k+1,out,bad⟩ 0).2) w'):=by
 obtain⟨iU,hiU,hz0,hz1,hz2⟩:=info_parts Tryz.infoU8;obtain⟨ov,hblk,hown⟩:=H.blk;obtain⟨c0,c1,c2,c3,c4,f1,f2,f3,f4⟩:=CA hblk;simp only [] at hblk hown c1 c4;have hclt:=lt_of_block hblk;have d1:decide ((l.length:Int)<=(k:Int))=false:=Cv
 have hI:=fun w=>Tryz.strings_IndexByte ⟨([97,98,102,110,114,116,118,92]:List UInt8).toArray⟩ (l[k].toNat:Int) w
 have hc8:((l[k].toNat:Int).toNat.toUInt8)=l[k]:=Cu
 simp only [hc8] at hI;obtain⟨ix,hix⟩:∃ ix,ix=Lib.indexByte ([97,98,102,110,114,116,118,92]:List UInt8) l[k]:=⟨_,rfl⟩;rw [<- hix] at hI h1;have HK:=hid (Az hix (Az hown (Az hblk hkl)));clear hix hown hblk;have d2:decide (0<=ix)=false:=Ea
 have d4:l[k].toNat=120:=by rw [h3];rfl
 have d3:((120:Int)==(m.toNat:Int))=false:=by
  exact zcq
 have hI0:=hI;replace hI:∀ w,Calls Tryz.prog 221 #[.string ⟨([97,98,102,110,114,116,118,92]:List UInt8).toArray⟩,.int .u8 120] w fun e w'=>e=.returned (i8 ix)/\w'=w:=by
  exact zds
 clear hI0;have HF:=hid (rE l 16 (.inr rfl) 2 ⟨k+1,out,bad⟩ 0 0 Ct Ct En);clear h1 h2 h3
 go_in
 go_wp2_with fail;go_quiet (fail);go_wp2_with fail;generalize nq=na at *;go_quiet (fail);have HRn:=hid (Rq.at_ (Rq.drewN H (na+nq)) (k+1));go_wp2_with (first|(go_at_call 221;refine (hI _).mono ?_;rintro e w1 ⟨rfl,rfl⟩)|(go_at_call 302;refine (VF 2 16 HRn.out hl En Ct (.inr rfl)).mono ?_;rintro e w2 ⟨rfl,hR2⟩;have HR2:=hid hR2;clear hR2)|(go_at_call 301;refine (cI _ false HR2.out HF.out.1 (Int.lt_of_lt_of_le HF.out.2.1 Ct) (fun _=>HF.out.2.1) Fp).mono ?_;rintro e w3 ⟨rfl,hR3⟩));go_end0;exact⟨rfl,hR3⟩
theorem dW {c:Nat}{w0:World}{l:List UInt8}{m:UInt8}{k:Nat}{out:List UInt8}{bad:Bool} (H:Rq c w0 l m ⟨k,out,bad⟩ w) (hl:l.length<=1048576) (hkl:k < l.length) (ho:out.length<=4*k) (h1:¬ 0<=Lib.indexByte ([97,98,102,110,114,116,118,92]:List UInt8) l[k]) (h2:¬ l[k]=m) (h3:l[k]=85) :
  Calls Tryz.prog 291 #[p8 c] w (fun e w'=>e=.returned (.tuple #[])/\Rq c w0 l m (ED m (TA l 16 8 ⟨k+1,out,bad⟩ 0).1 true (TA l 16 8 ⟨k+1,out,bad⟩ 0).2) w'):=by
 obtain⟨iU,hiU,hz0,hz1,hz2⟩:=info_parts Tryz.infoU8;obtain⟨ov,hblk,hown⟩:=H.blk;obtain⟨c0,c1,c2,c3,c4,f1,f2,f3,f4⟩:=CA hblk;simp only [] at hblk hown c1 c4;have hclt:=lt_of_block hblk;have d1:decide ((l.length:Int)<=(k:Int))=false:=Cv
 have hI:=fun w=>Tryz.strings_IndexByte ⟨([97,98,102,110,114,116,118,92]:List UInt8).toArray⟩ (l[k].toNat:Int) w
 have hc8:((l[k].toNat:Int).toNat.toUInt8)=l[k]:=Cu
 simp only [hc8] at hI;obtain⟨ix,hix⟩:∃ ix,ix=Lib.indexByte ([97,98,102,110,114,116,118,92]:List UInt8) l[k]:=⟨_,rfl⟩;rw [<- hix] at hI h1;have HK:=hid (Az hix (Az hown (Az hblk hkl)));clear hix hown hblk;have d2:decide (0<=ix)=false:=Ea
 have d4:l[k].toNat=85:=by rw [h3];rfl
 have d3:((85:Int)==(m.toNat:Int))=false:=by
  exact zcq
 have hI0:=hI;replace hI:∀ w,Calls Tryz.prog 221 #[.string ⟨([97,98,102,110,114,116,118,92]:List UInt8).toArray⟩,.int .u8 85] w fun e w'=>e=.returned (i8 ix)/\w'=w:=by
  exact zds
 clear hI0;have HF:=hid (rE l 16 (.inr rfl) 8 ⟨k+1,out,bad⟩ 0 0 Ct Ct En);clear h1 h2 h3
 go_in
 go_wp2_with fail;go_quiet (fail);go_wp2_with fail;generalize nq=na at *;go_quiet (fail);have HRn:=hid (Rq.at_ (Rq.drewN H (na+nq)) (k+1));go_wp2_with (first|(go_at_call 221;refine (hI _).mono ?_;rintro e w1 ⟨rfl,rfl⟩)|(go_at_call 302;refine (VF 8 16 HRn.out hl En Ct (.inr rfl)).mono ?_;rintro e w2 ⟨rfl,hR2⟩;have HR2:=hid hR2;clear hR2)|(go_at_call 301;refine (cI _ true HR2.out HF.out.1 (Int.lt_of_lt_of_le HF.out.2.1 Ct) (fun h=>Do) Fp).mono ?_;rintro e w3 ⟨rfl,hR3⟩));go_end0;exact⟨rfl,hR3⟩
theorem UV {c:Nat}{w0:World}{l:List UInt8}{m:UInt8}{k:Nat}{out:List UInt8}{bad:Bool} (H:Rq c w0 l m ⟨k,out,bad⟩ w) (hl:l.length<=1048576) (hkl:k < l.length) (ho:out.length<=4*k) (h1:¬ 0<=Lib.indexByte ([97,98,102,110,114,116,118,92]:List UInt8) l[k]) (h2:¬ l[k]=m) (h3:l[k]=117) :
  Calls Tryz.prog 291 #[p8 c] w (fun e w'=>e=.returned (.tuple #[])/\Rq c w0 l m (ED m (TA l 16 4 ⟨k+1,out,bad⟩ 0).1 true (TA l 16 4 ⟨k+1,out,bad⟩ 0).2) w'):=by
 obtain⟨iU,hiU,hz0,hz1,hz2⟩:=info_parts Tryz.infoU8;obtain⟨ov,hblk,hown⟩:=H.blk;obtain⟨c0,c1,c2,c3,c4,f1,f2,f3,f4⟩:=CA hblk;simp only [] at hblk hown c1 c4;have hclt:=lt_of_block hblk;have d1:decide ((l.length:Int)<=(k:Int))=false:=Cv
 have hI:=fun w=>Tryz.strings_IndexByte ⟨([97,98,102,110,114,116,118,92]:List UInt8).toArray⟩ (l[k].toNat:Int) w
 have hc8:((l[k].toNat:Int).toNat.toUInt8)=l[k]:=Cu
 simp only [hc8] at hI;obtain⟨ix,hix⟩:∃ ix,ix=Lib.indexByte ([97,98,102,110,114,116,118,92]:List UInt8) l[k]:=⟨_,rfl⟩;rw [<- hix] at hI h1;have HK:=hid (Az hix (Az hown (Az hblk hkl)));clear hix hown hblk;have d2:decide (0<=ix)=false:=Ea
 have d4:l[k].toNat=117:=by rw [h3];rfl
 have d3:((117:Int)==(m.toNat:Int))=false:=by
  exact zcq
 have hI0:=hI;replace hI:∀ w,Calls Tryz.prog 221 #[.string ⟨([97,98,102,110,114,116,118,92]:List UInt8).toArray⟩,.int .u8 117] w fun e w'=>e=.returned (i8 ix)/\w'=w:=by
  exact zds
 clear hI0;have HF:=hid (rE l 16 (.inr rfl) 4 ⟨k+1,out,bad⟩ 0 0 Ct Ct En);clear h1 h2 h3
 go_in
 go_wp2_with fail;go_quiet (fail);go_wp2_with fail;generalize nq=na at *;go_quiet (fail);have HRn:=hid (Rq.at_ (Rq.drewN H (na+nq)) (k+1));go_wp2_with (first|(go_at_call 221;refine (hI _).mono ?_;rintro e w1 ⟨rfl,rfl⟩)|(go_at_call 302;refine (VF 4 16 HRn.out hl En Ct (.inr rfl)).mono ?_;rintro e w2 ⟨rfl,hR2⟩;have HR2:=hid hR2;clear hR2)|(go_at_call 301;refine (cI _ true HR2.out HF.out.1 (Int.lt_of_lt_of_le HF.out.2.1 Ct) (fun h=>Do) Fp).mono ?_;rintro e w3 ⟨rfl,hR3⟩));go_end0;exact⟨rfl,hR3⟩
theorem EQ {c:Nat}{w0:World}{l:List UInt8}{m:UInt8}{k:Nat}{out:List UInt8}{bad:Bool} (H:Rq c w0 l m ⟨k,out,bad⟩ w) (hl:l.length<=1048576) (hkl:k < l.length) (ho:out.length<=4*k) (h1:¬ 0<=Lib.indexByte ([97,98,102,110,114,116,118,92]:List UInt8) l[k]) (h2:¬ l[k]=m) (h3:¬ l[k]=120) (h4:¬ l[k]=85) (h5:¬ l[k]=117) :
  Calls Tryz.prog 291 #[p8 c] w (fun e w'=>e=.returned (.tuple #[])/\Rq c w0 l m (ED m ((TA l 8 3 ⟨k,out,bad⟩ 0).1 % 256) false ⟨(TA l 8 3 ⟨k,out,bad⟩ 0).2.k,(TA l 8 3 ⟨k,out,bad⟩ 0).2.out,(TA l 8 3 ⟨k,out,bad⟩ 0).2.bad||decide (255 < (TA l 8 3 ⟨k,out,bad⟩ 0).1)⟩) w'):=by
 obtain⟨iU,hiU,hz0,hz1,hz2⟩:=info_parts Tryz.infoU8;obtain⟨ov,hblk,hown⟩:=H.blk;obtain⟨c0,c1,c2,c3,c4,f1,f2,f3,f4⟩:=CA hblk;simp only [] at hblk hown c1 c4;have hclt:=lt_of_block hblk;have d1:decide ((l.length:Int)<=(k:Int))=false:=Cv
 have hI:=fun w=>Tryz.strings_IndexByte ⟨([97,98,102,110,114,116,118,92]:List UInt8).toArray⟩ (l[k].toNat:Int) w
 have hc8:((l[k].toNat:Int).toNat.toUInt8)=l[k]:=Cu
 simp only [hc8] at hI;obtain⟨ix,hix⟩:∃ ix,ix=Lib.indexByte ([97,98,102,110,114,116,118,92]:List UInt8) l[k]:=⟨_,rfl⟩;rw [<- hix] at hI h1;have HK:=hid (Az hix (Az hown (Az hblk hkl)));clear hix hown hblk;have d2:decide (0<=ix)=false:=Ea
 have hne:∀ (x y:UInt8),¬ x=y->((x.toNat:Int)==(y.toNat:Int))=false:=fun x y h=>by
  exact zcs
 have d3:=hne _ _ h2;have d4:((l[k].toNat:Int)==120)=false:=hne _ _ h3;have d5:((l[k].toNat:Int)==85)=false:=hne _ _ h4;have d6:((l[k].toNat:Int)==117)=false:=hne _ _ h5;have HF:=hid (rE l 8 (.inl rfl) 3 ⟨k,out,bad⟩ 0 0 Ct Ct Kz);obtain⟨n,k2,out2,b2,hR⟩:∃ n k2 out2 b2,TA l 8 3 ⟨k,out,bad⟩ 0=(n,⟨k2,out2,b2⟩):=⟨_,_,_,_,rfl⟩;have hNW:∀ w',Rq c w0 l m ⟨k,out,bad⟩ w'->Calls Tryz.prog 302 #[p8 c,i8 3,i8 8] w' (fun e w''=>e=.returned (i8 n)/\Rq c w0 l m ⟨k2,out2,b2⟩ w''):=by
  intro w' h;have:=VF 3 8 h hl Kz Ct (.inl rfl);rw [hR] at this;exact this
 have HF:=rE l 8 (.inl rfl) 3 ⟨k,out,bad⟩ 0 0 Ct Ct Kz;rw [hR] at HF ⊢;simp only [] at HF ⊢;obtain⟨hn0,hn1,hk2,hk3,ho2⟩:=HF;have HO:=hid ho2;have hn1:n < 512:=hn1;have hwn:IntKind.i64.wrap (n % 256)=n % 256:=IntWalk.i64_in _ Cs;have HN:=hid (Az hn0 hn1);clear h1 h2 h3 h4 h5 hne hR ho2;have hcs:(b2=true)∨(b2=false/\decide (255 < n)=true)∨(b2=false/\decide (255 < n)=false):=by cases b2 <;> cases decide (255 < n) <;> simp
 have hbits:=lW n hn0 hn1;rcases hcs with rfl|⟨rfl,d7⟩|⟨rfl,d7⟩
 all_goals
  (try simp only [d7,Bool.true_or,Bool.false_or])
  go_in
  go_wp2_with fail;go_quiet (fail);go_wp2_with fail;generalize nq=na at *;go_quiet (fail);have HRn:=hid (Rq.drewN H (na+nq));clear H;go_wp2_with (first|(go_at_call 221;refine (hI _).mono ?_;rintro e w1 ⟨rfl,rfl⟩)|(go_at_call 302;refine (hNW _ HRn.out).mono ?_;rintro e w2 ⟨rfl,hR2⟩;clear c0 c1 c2 c3 c4 f1 f2 f3 f4;obtain⟨ov2,hblk2,hown2⟩:=hR2.blk;obtain⟨c0,c1,c2,c3,c4,f1,f2,f3,f4⟩:=CA hblk2;simp only [] at c0 c1 c2 c3 c4;have HR2:=hid hR2;clear hR2 hblk2 hown2)|(go_at_call 301;refine (cI (n % 256) false (Rq.bad_ HR2.out _) Dz Dz (fun _=>Dz) (by show out2.length<=_;rw [HO.out];show out.length<=_;omega)).mono ?_;rintro e w3 ⟨rfl,hR3⟩));go_end0;exact⟨rfl,hR3⟩
theorem PP {c:Nat}{w0:World}{l:List UInt8}{m:UInt8}{q:Qs} (H:Rq c w0 l m q w) (hl:l.length<=1048576) (ho:q.out.length<=4*q.k) :
  Calls Tryz.prog 291 #[p8 c] w (fun e w'=>e=.returned (.tuple #[])/\Rq c w0 l m (zC l m q) w'):=by
 obtain⟨k,out,bad⟩:=q;by_cases hkl:k < l.length
 ·have e:zC l m ⟨k,out,bad⟩=zC l m ⟨k,out,bad⟩:=rfl
  conv at e=>rhs;unfold zC
  rw [dif_pos hkl] at e;simp only [] at e;rw [e];by_cases h1:0<=Lib.indexByte ([97,98,102,110,114,116,118,92]:List UInt8) l[k]
  ·rw [Bb h1];exact CR H hl hkl ho h1
  rw [Bc h1];by_cases h2:l[k]=m
  ·rw [Bb h2];exact AP H hl hkl ho h1 h2
  rw [Bc h2];by_cases h3:l[k]=120
  ·rw [Bb h3];exact GV H hl hkl ho h1 h2 h3
  rw [Bc h3];by_cases h4:l[k]=85
  ·rw [Bb h4];exact dW H hl hkl ho h1 h2 h4
  rw [Bc h4];by_cases h5:l[k]=117
  ·rw [Bb h5];exact UV H hl hkl ho h1 h2 h5
  rw [Bc h5];exact EQ H hl hkl ho h1 h2 h3 h4 h5
 ·have e:zC l m ⟨k,out,bad⟩=⟨k,out,true⟩:=by unfold zC;rw [dif_neg hkl]
  rw [e];have d1:decide ((l.length:Int)<=(k:Int))=true:=Cv
  obtain⟨ov,hblk,hown⟩:=H.blk;obtain⟨c0,c1,c2,c3,c4,f1,f2,f3,f4⟩:=CA hblk;simp only [] at c0 c1 c2 c3 c4;have HB:=hid H;clear hown hblk H
  go_in
  go_wp2_with fail;go_quiet (fail);go_wp2_with fail
  (try simp only [Exit.inBlock,Exit.then]);refine Ca (results_none rfl _ _ _) rfl ?_
  exact⟨rfl,(HB.out.drewN _).bad_ true⟩
end
section
open Go.RowKit
theorem uS {P:Program}{md:Region.Mode}{ops:Array Oper}{Q:Exit->Act->World->Prop}{Z:World->Prop}{fuel:Nat}{listed:Array Bool}{a:Act}{w:World} (i:Nat) {oi:Oper} (hi:ops[i]?=some oi)
  (h:∃ v,Region.noSelect ops=true/\Region.free md ops listed i=true/\(Region.ready md ops listed).contains i=true/\(∀ c a w,Q (.panic c) (a.put oi.dst v) w->Q (.panic c) a w)/\YieldsIf P ops Z oi v a/\Z w/\wpAnyH P md ops Q Z fuel (listed.setIfInBounds i true) (a.put oi.dst v) w) :
  wpAnyH P md ops Q Z (fuel+1) listed a w:=by
 obtain⟨v,h1,h2,h3,h4,h5,h6,h7⟩:=h;exact wpAnyH_take hi h1 h2 h3 h4 h5 h6 h7
theorem tk {P:Program}{md:Region.Mode}{ops:Array Oper}{Q:Exit->Act->World->Prop}{Z:World->Prop}{fuel:Nat}{listed:Array Bool}{a:Act}{w:World} (i:Nat) {oi:Oper}{v:Value}
  (k:wpAnyH P md ops Q Z fuel (listed.setIfInBounds i true) (a.put oi.dst v) w)
  (hi:ops[i]?=some oi:=by first|(simp only [M',I',J'];done)|(simp only [M',I',J'];exact rfl))
  (h1:Region.noSelect ops=true:=by kernel_rfl) (h2:Region.free md ops listed i=true:=by kernel_rfl) (h3:(Region.ready md ops listed).contains i=true:=by kernel_rfl)
  (h4:∀ c a w,Q (.panic c) (a.put oi.dst v) w->Q (.panic c) a w:=by exact fun _ _ _ h=>h) (h5:Region.wanted oi (yielded ops a.tmps)=true:=by rfl)
  (h6:∀ w,Z w->(execOp a.eval oi).run P w=.ok (.value v) w:=by intro w hSw;(try dsimp only at hSw);go_simp;all_goals (with_reducible rfl)) (h7:Z w:=by assumption) :
  wpAnyH P md ops Q Z (fuel+1) listed a w:=uS i hi ⟨v,h1,h2,h3,h4,.inl ⟨h5,h6⟩,h7,k⟩
theorem ts {P:Program}{md:Region.Mode}{ops:Array Oper}{Q:Exit->Act->World->Prop}{Z:World->Prop}{fuel:Nat}{listed:Array Bool}{a:Act}{w:World} (i:Nat) {oi:Oper}
  (k:wpAnyH P md ops Q Z fuel (listed.setIfInBounds i true) (a.put oi.dst undef) w)
  (hi:ops[i]?=some oi:=by first|(simp only [M',I',J'];done)|(simp only [M',I',J'];exact rfl))
  (h1:Region.noSelect ops=true:=by kernel_rfl) (h2:Region.free md ops listed i=true:=by kernel_rfl) (h3:(Region.ready md ops listed).contains i=true:=by kernel_rfl)
  (h4:∀ c a w,Q (.panic c) (a.put oi.dst undef) w->Q (.panic c) a w:=by exact fun _ _ _ h=>h) (h5:Region.wanted oi (yielded ops a.tmps)=false:=by rfl) (h7:Z w:=by assumption) :
  wpAnyH P md ops Q Z (fuel+1) listed a w:=uS i hi ⟨undef,h1,h2,h3,h4,.inr ⟨h5,rfl⟩,h7,k⟩
theorem ls:(∀ (α:Type) (l:List α) (i:Nat) (a:α),l.toArray.setIfInBounds i a=(l.set i a).toArray)/\(∀ (α:Type) (x a:α) (l:List α),(x::l).set 0 a=a::l)/\(∀ (α:Type) (x a:α) (l:List α) (i:Nat),(x::l).set (i+1) a=x::l.set i a) :=
 ⟨fun _ _ _ _=>Cu,fun _ _ _ _=>rfl,fun _ _ _ _ _=>rfl⟩
theorem lt_ {P:Prop} (hh:P:=by first|(simp only [M',I',J'];done)|(simp only [M',I',J'];exact rfl)):P:=hh
theorem kp_ {P:Prop} (hh:P:=by
 (try dsimp only)
 (try go_split_ands)
 (repeat' apply Az)
 all_goals first|assumption|exact aA ((N' _ _).alloc (C' _) _) ‹_›):P:=hh
section
variable {P:Program}{md:Region.Mode}{ops:Array Oper}{Q:Exit->Act->World->Prop}{Z:World->Prop}{fuel:Nat}{listed:Array Bool}{a:Act}{w:World}
theorem tn_ (i:Nat) {oi:Oper}{v:Value}{l':Array Bool}{a':Act} (k:wpAnyH P md ops Q Z fuel l' a' w)
  (h0:listed[i]?=some false:=by rfl) (h3:(Region.ready md ops listed).contains i=true:=by decide +kernel) (hi:ops[i]?=some oi:=by exact lt_)
  (h5:Region.wanted oi (yielded ops a.tmps)=true:=by rfl) (h6:∀ w,Z w->(execOp a.eval oi).run P w=.ok (.value v) w:=by intro w hSw;(try dsimp only at hSw);go_simp;all_goals (with_reducible rfl))
  (hl:listed.setIfInBounds i true=l':=by (try simp only [ls]);exact rfl) (ha:a.put oi.dst v=a':=by (try simp only [Act.put,ls]);exact rfl)
  (h1:Region.noSelect ops=true:=by kernel_rfl) (h2:Region.free md ops listed i=true:=by kernel_rfl)
  (h4:∀ c a w,Q (.panic c) (a.put oi.dst v) w->Q (.panic c) a w:=by exact fun _ _ _ h=>h) (h7:Z w:=by assumption) :
  wpAnyH P md ops Q Z (fuel+1) listed a w:=tk i (by rw [hl,ha];exact k) hi h1 h2 h3 h4 h5 h6 h7
theorem tm_ (i:Nat) {oi:Oper}{l':Array Bool}{a':Act} (k:wpAnyH P md ops Q Z fuel l' a' w)
  (h0:listed[i]?=some false:=by rfl) (h3:(Region.ready md ops listed).contains i=true:=by decide +kernel) (hi:ops[i]?=some oi:=by exact lt_)
  (h5:Region.wanted oi (yielded ops a.tmps)=false:=by rfl)
  (hl:listed.setIfInBounds i true=l':=by (try simp only [ls]);exact rfl) (ha:a.put oi.dst undef=a':=by (try simp only [Act.put,ls]);exact rfl)
  (h1:Region.noSelect ops=true:=by kernel_rfl) (h2:Region.free md ops listed i=true:=by kernel_rfl)
  (h4:∀ c a w,Q (.panic c) (a.put oi.dst undef) w->Q (.panic c) a w:=by exact fun _ _ _ h=>h) (h7:Z w:=by assumption) :
  wpAnyH P md ops Q Z (fuel+1) listed a w:=ts i (by rw [hl,ha];exact k) hi h1 h2 h3 h4 h5 h7
theorem YZ0 (i:Nat) {o:Oper} (h:∀ K':Act->World->Prop,Shut (∀ a w,Z w->(Z w->wpAnyH P md ops Q Z fuel (listed.setIfInBounds i true) a w)->K' a w)->if Region.wanted o (yielded ops a.tmps)=true then Oper.wp P o a w K' Q else K' (a.put o.dst undef) w)
  (hr:Region.ready md ops listed=[i]:=by decide +kernel) (ho:ops[i]?=some o:=by exact lt_):wpAnyH P md ops Q Z (fuel+1) listed a w :=
 Cb hr Cu (Cc ho h Cd)
theorem rs_ {id:Nat} (Z:World->Prop) (h:Z w.drew->wpAnyH P .any ops Q Z ops.size (Array.replicate ops.size false) a w.drew) (hS:Z w.drew:=by exact kp_) (hm:P.follows .mixedOrders=true:=by kernel_rfl):(Code.region id ops true).wp P Q a w :=
 Ce hm hS h
end
theorem rk_ {P:Prop} (hh:P:=by
 go_wp2_with fail;refine hK.out _ _ (by exact kp_) (fun hHeld=>?_);clear hK K
 try simp only [Act.put,ls]
 exact rr_):P:=hh
theorem rr_ {P:Prop} (hh:P:=by
 first
 | (refine wpAnyH_done Ef ?_ _;exact re_)
 | ((first|refine tn_ 0 ?_|refine tm_ 0 ?_|refine tn_ 1 ?_|refine tm_ 1 ?_|refine tn_ 2 ?_|refine tm_ 2 ?_|refine tn_ 3 ?_|refine tm_ 3 ?_|refine tn_ 4 ?_|refine tm_ 4 ?_|refine tn_ 5 ?_|refine tm_ 5 ?_|refine tn_ 6 ?_|refine tm_ 6 ?_|refine tn_ 7 ?_|refine tm_ 7 ?_|refine tn_ 8 ?_|refine tm_ 8 ?_|refine tn_ 9 ?_|refine tm_ 9 ?_|refine tn_ 10 ?_|refine tm_ 10 ?_|refine tn_ 11 ?_|refine tm_ 11 ?_|refine tn_ 12 ?_|refine tm_ 12 ?_|refine tn_ 13 ?_|refine tm_ 13 ?_|refine tn_ 14 ?_|refine tm_ 14 ?_|refine tn_ 15 ?_|refine tm_ 15 ?_|refine tn_ 16 ?_|refine tm_ 16 ?_|refine tn_ 17 ?_|refine tm_ 17 ?_|refine tn_ 18 ?_|refine tm_ 18 ?_|refine tn_ 19 ?_|refine tm_ 19 ?_|refine tn_ 20 ?_|refine tm_ 20 ?_|refine tn_ 21 ?_|refine tm_ 21 ?_|refine tn_ 22 ?_|refine tm_ 22 ?_|refine tn_ 23 ?_|refine tm_ 23 ?_|refine tn_ 24 ?_|refine tm_ 24 ?_|refine tn_ 25 ?_|refine tm_ 25 ?_|refine tn_ 26 ?_|refine tm_ 26 ?_|refine tn_ 27 ?_|refine tm_ 27 ?_|refine tn_ 28 ?_|refine tm_ 28 ?_|refine tn_ 29 ?_|refine tm_ 29 ?_|refine tn_ 30 ?_|refine tm_ 30 ?_|refine tn_ 31 ?_|refine tm_ 31 ?_|refine tn_ 32 ?_|refine tm_ 32 ?_|refine tn_ 33 ?_|refine tm_ 33 ?_|refine tn_ 34 ?_|refine tm_ 34 ?_|refine tn_ 35 ?_|refine tm_ 35 ?_|refine tn_ 36 ?_|refine tm_ 36 ?_|refine tn_ 37 ?_|refine tm_ 37 ?_|refine tn_ 38 ?_|refine tm_ 38 ?_|refine tn_ 39 ?_|refine tm_ 39 ?_|refine tn_ 40 ?_|refine tm_ 40 ?_|refine tn_ 41 ?_|refine tm_ 41 ?_|refine tn_ 42 ?_|refine tm_ 42 ?_|refine tn_ 43 ?_|refine tm_ 43 ?_|refine tn_ 44 ?_|refine tm_ 44 ?_|refine tn_ 45 ?_|refine tm_ 45 ?_);exact rr_)
 | ((first|refine YZ0 0 ?_|refine YZ0 1 ?_|refine YZ0 2 ?_|refine YZ0 3 ?_|refine YZ0 4 ?_|refine YZ0 5 ?_|refine YZ0 6 ?_|refine YZ0 7 ?_|refine YZ0 8 ?_|refine YZ0 9 ?_|refine YZ0 10 ?_|refine YZ0 11 ?_|refine YZ0 12 ?_|refine YZ0 13 ?_|refine YZ0 14 ?_|refine YZ0 15 ?_|refine YZ0 16 ?_|refine YZ0 17 ?_|refine YZ0 18 ?_|refine YZ0 19 ?_|refine YZ0 20 ?_|refine YZ0 21 ?_|refine YZ0 22 ?_|refine YZ0 23 ?_|refine YZ0 24 ?_|refine YZ0 25 ?_|refine YZ0 26 ?_|refine YZ0 27 ?_|refine YZ0 28 ?_|refine YZ0 29 ?_|refine YZ0 30 ?_|refine YZ0 31 ?_|refine YZ0 32 ?_|refine YZ0 33 ?_|refine YZ0 34 ?_|refine YZ0 35 ?_|refine YZ0 36 ?_|refine YZ0 37 ?_|refine YZ0 38 ?_|refine YZ0 39 ?_|refine YZ0 40 ?_|refine YZ0 41 ?_|refine YZ0 42 ?_|refine YZ0 43 ?_|refine YZ0 44 ?_|refine YZ0 45 ?_);intro K hK;go_simp;exact ra_)):P:=hh
end
