import Derived.Test.YtjdllofmhglmiaaGreatDoorProg
namespace Go.Proofs.YtjdllofmhglmiaaGreatDoor
set_option linter.all false
set_option maxHeartbeats 40000000
section
variable{P:Prop}
theorem zb1(h:P:=by
 have ha:=ht.arity;rw [h] at ha;rcases hk:t.kids with _|⟨y,_|⟨z,r⟩⟩
 ·exact ze8
 ·exact⟨y,rfl⟩
 ·rw [hk] at ha;simp only [okN,arT] at ha;simp at ha):P:=h
theorem zb4(h:P:=by
 by_cases h:c
 ·rw [Bb h];exact h1 h
 ·rw [Bc h];exact h2 h):P:=h
theorem zb9(h:P:=by
 refine (hR _ (C' _)).call .expr trivial trivial (fun x m hx=>?_) (fun x m q hx=>?_)
 ·exact aX2 hR hB hK hP hN
 ·exact lX2 hR hB hK hP hN):P:=h
theorem zch(h:P:=by
 apply Ap;intro hn;rw [pI Cs] at h;cases h):P:=h
theorem zcj(h:P:=by
 refine pX1 ?_;rw [cX0 XX2 Cs];exact mn):P:=h
theorem zcv(h:P:=by
 rw [cX0 uX2 Cs];exact Bd.some gg):P:=h
theorem zc4(h:P:=by
 intro r f hr hf p m e;cases r with
 | ok a m1=>exact hf a m1 (hr a m1 rfl) p m e
 | bad k=>cases e
 | out=>cases e):P:=h
theorem zc7(h:P:=by
 exact Bd.some (fX4 Ct Ct Ct)):P:=h
theorem zdc(h:P:=by
 unfold Go.Proofs.YtjdllofmhglmiaaGreatDoor.want;split
 ·exact hf _ rfl
 ·exact fun _ _ h=>Do):P:=h
theorem zdi(h:P:=by
 apply Ap;intro hn;rw [Env.literal,FG Cs] at h;cases h):P:=h
theorem zdk(h:P:=by
 apply Ap;intro hn;rw [Env.quoted,FG Cs] at h;cases h):P:=h
theorem zdn(h:P:=by
 simp only [VX0,Ba,Bf,jX3 hR hB hK hP hN,ZQ9];exact mn):P:=h
theorem zdz(h:P:=by
 apply Ap;intro hn;rw [AG Cs] at h;cases h):P:=h
theorem zd2(h:P:=by
 rw [Bc Cs];simp only [Ai,As h]):P:=h
theorem zd6(h:P:=by
 exact KX2 (s:=some x) hR hB hK hP hN (fun _ e=>by cases e;exact hx)):P:=h
theorem ze8(h:P:=by
 rw [hk] at ha;exact absurd ha Ct):P:=h
end
set_option maxRecDepth 100000
section
variable{P:Prop}
abbrev C':=@Nat.le_refl
abbrev I':=@List.getElem?_cons_succ
abbrev J':=@List.getElem?_cons_zero
abbrev M':=@List.getElem?_toArray
abbrev O':=@List.getElem?_eq_getElem
abbrev Q':=@List.setIfInBounds_toArray
abbrev V':=@List.length_append
abbrev Z':=@List.set_cons_zero
abbrev Aa:=@List.set_cons_succ
abbrev Ab:=@List.length_drop
abbrev Ac:=@List.eq_nil_of_length_eq_zero
abbrev Ad:=@Int.eq_ofNat_of_zero_le
abbrev Ae:=@List.length_cons
abbrev Ai:=@Int.toNat_natCast
abbrev Aj:=@Nat.lt_of_lt_of_le
abbrev Ak:=@Array.getElem?_eq_some_iff
abbrev Al:=@List.getElem?_eq_some_iff
abbrev Am:=@List.length_nil
abbrev An:=@Nat.le_trans
abbrev Ao:=@List.cons_append
abbrev Ap:=@Decidable.byContradiction
abbrev Aq:=@List.drop_eq_getElem_cons
abbrev Ar:=@List.nil_append
abbrev As:=@List.getElem?_eq_none
abbrev Au:=@List.take_of_length_le
abbrev Aw:=@List.flatten_cons
abbrev Ax:=@List.getElem?_append_right
abbrev Ay:=@UInt8.toNat_inj
abbrev Az:=@And.intro
abbrev Ba:=@Bool.false_eq_true
abbrev Bb:=@if_pos
abbrev Bc:=@if_neg
abbrev Be:=@if_true
abbrev Bf:=@if_false
abbrev Bg:=@Bool.eq_iff_iff
abbrev Bh:=@beq_iff_eq
abbrev Bi:=@beq_eq_false_iff_ne
abbrev Bj:=@List.mem_cons_self
abbrev Bm:=@List.mem_cons_of_mem
abbrev Bq:=@decide_eq_true_eq
abbrev Bu:=@Bool.not_false
abbrev Bv:=@Bool.or_eq_true
abbrev Bz:=@Bool.and_eq_true
abbrev B7:=@eq_of_beq
theorem Cf(h:P:=by (first|(simp only [M',I',J'];done)|(simp only [M',I',J'];exact rfl))):P:=h
theorem Cg(h:P:=by ((try dsimp only);(first|exact⟨q0,q1,q2,q3,q4⟩|exact⟨(hal 0 _).trans q0,(hal 1 _).trans q1,(hal 2 _).trans q2,(hal 3 _).trans q3,(hal 4 _).trans q4⟩|exact⟨(hap 0).trans q0,(hap 1).trans q1,(hap 2).trans q2,(hap 3).trans q3,(hap 4).trans q4⟩|exact⟨(hst 0).trans q0,(hst 1).trans q1,(hst 2).trans q2,(hst 3).trans q3,(hst 4).trans q4⟩))):P:=h
theorem Ci(h:P:=by ((try dsimp only);(first|exact⟨q0,q4⟩|exact⟨(hal 0 _).trans q0,(hal 4 _).trans q4⟩|exact⟨(hap 0).trans q0,(hap 4).trans q4⟩|exact⟨(hst 0).trans q0,(hst 4).trans q4⟩))):P:=h
theorem Cj(h:P:=by ((try dsimp only);(first|exact⟨c0,c1⟩|exact⟨k0,k1⟩|exact⟨s0,s1⟩))):P:=h
theorem Cm(h:P:=by intro e;apply UInt8.toNat.inj;rw [UInt8.toNat_ofNat_of_lt' h];omega):P:=h
theorem Cn(h:P:=by ((try dsimp only);(first|exact⟨n0,yt⟩|exact⟨s0,s1⟩))):P:=h
theorem Co(h:P:=by exact KX2 (s:=none) hR hB hK hP hN (fun _ e=>Ld)):P:=h
theorem Cp(h:P:=by rename_i v;rw [Bc v] at hr;simp at hr):P:=h
theorem Cq(h:P:=by exact absurd H3.out.eq H3.out.ne):P:=h
theorem Cs(h:P:=by omega):P:=h
theorem Ct(h:P:=by decide):P:=h
theorem Cu(h:P:=by simp):P:=h
theorem Cv(h:P:=by simp;omega):P:=h
theorem Cx(h:P:=by have:=HX.out.2;simp;omega):P:=h
theorem Cy(h:P:=by simp [IntKind.wrap,IntKind.bits,IntKind.signed];omega):P:=h
theorem Cz(h:P:=by (try simp);omega):P:=h
theorem C9(h:P:=by simp;have:=HB.out.2.2.2.2;omega):P:=h
theorem Da(h:P:=by unfold maxLen;omega):P:=h
theorem Db(h:P:=by rfl):P:=h
theorem Dc(h:P:=by have:=HLN.out;(try simp only [Ae] at this);simp;omega):P:=h
theorem Dd(h:P:=by simp at h):P:=h
theorem De(h:P:=by simp only [rk] at hk ⊢;omega):P:=h
theorem Df(h:P:=by first|rfl|trivial):P:=h
theorem Dg(h:P:=by first|exact DA rfl (Cs)|exact SF Cs):P:=h
theorem Dh(h:P:=by rw [<- MX1] at e;unfold St.ok at ho;rw [e] at ho;cases ho):P:=h
theorem Di(h:P:=by first|with_reducible rfl|decide):P:=h
theorem Dj(h:P:=by simp at hk;omega):P:=h
theorem Dk(h:P:=by simp only [rk];omega):P:=h
theorem Dl(h:P:=by simp [Value.ownBlock]):P:=h
theorem Do(h:P:=by cases h):P:=h
theorem Dp(h:P:=by simpa using h):P:=h
theorem Dq(h:P:=by simp [Value.oneCell']):P:=h
theorem Ds(h:P:=by have:=HB.out.2.2.2.2;omega):P:=h
theorem Dt(h:P:=by assumption):P:=h
theorem Du(h:P:=by have:=HZ.out;omega):P:=h
theorem Dv(h:P:=by simp at hk;simp [hk]):P:=h
theorem Dw(h:P:=by unfold St.ok at ho;simpa using ho):P:=h
theorem Dx(h:P:=by intro e;have:=congrArg List.length e;simp only [Ab,Am] at this;omega):P:=h
theorem Dy(h:P:=by have:=HLN.out;omega):P:=h
theorem Dz(h:P:=by have:=HN.out;omega):P:=h
theorem Ea(h:P:=by simpa using h1):P:=h
theorem Eb(h:P:=by rw [show ((m8:Int)+1)=((m8+1:Nat):Int) from Cs];exact h3):P:=h
theorem Ec(h:P:=by first|(simp;done)|(simp;omega)):P:=h
theorem Ed(h:P:=by intro e;have:=congrArg List.length e;simp at this;omega):P:=h
theorem Ee(h:P:=by rw [<- Htr.out,show l.length - tx=0 from Cs];rfl):P:=h
theorem Ef(h:P:=by decide +kernel):P:=h
theorem Eg(h:P:=by rw [hgrow.block b Cs (fun e=>hne e.symm)];exact hB.block b hb):P:=h
theorem Ei(h:P:=by simp <;> omega):P:=h
theorem Ej(h:P:=by rw [hx];simp):P:=h
theorem Ek(h:P:=by have:=HLN.out;simp;omega):P:=h
theorem Em(h:P:=by have:=h.at_;have:=h.lie.small;omega):P:=h
theorem En(h:P:=by show k+1<=_;omega):P:=h
theorem Eo(h:P:=by rw [h.out.eq,e];rfl):P:=h
theorem Ep(h:P:=by have:=HJ.out.1;omega):P:=h
theorem Er(h:P:=by have:=HFT.out.small;unfold bX1 OC;omega):P:=h
theorem Es(h:P:=by cases a <;> simp_all):P:=h
theorem Et(h:P:=by have:=(hown.lt _ e.symm).1;omega):P:=h
theorem Eu(h:P:=by rw [e];rfl):P:=h
theorem Ew(h:P:=by rw [hk];simp):P:=h
theorem Ex(h:P:=by simpa using hne):P:=h
theorem Ey(h:P:=by simpa [ByteArray.size] using h):P:=h
theorem Ez(h:P:=by rw [hsz];exact hp):P:=h
theorem Fa(h:P:=by simpa using e):P:=h
theorem Fb(h:P:=by rw [Ab];omega):P:=h
theorem Fc(h:P:=by have:=hb.2.1;omega):P:=h
theorem Fd(h:P:=by rcases h.2 with ⟨h,e⟩|⟨g,cap,cur,h,_⟩ <;> cases h;exact e.symm;rfl):P:=h
theorem Fe(h:P:=by simp [ByteArray.size]):P:=h
theorem Ff(h:P:=by first|assumption|rfl):P:=h
theorem Fg(h:P:=by first|exact HB.out|exact (N' _ _).alloc (C' _) _):P:=h
theorem Fh(h:P:=by rw [hw6];exact HS5.out):P:=h
theorem Fi(h:P:=by rw [hw6];exact HK5.out):P:=h
theorem Fj(h:P:=by simp only [gF] at hc;simp only [cnt,EB];omega):P:=h
theorem Fk(h:P:=by first|(simp_all [mE,alB,bat,GL];done)|(simp_all [mE,alB,bat,GL];omega)):P:=h
theorem Fl(h:P:=by have:=HL.out;omega):P:=h
theorem Fp(h:P:=by rw [HF.out.2.2.2.2];show out.length<=_;omega):P:=h
theorem Fq(h:P:=by rw [<- HE.out,hie,List.drop_of_length_le (by rw [HLn.out];omega)];rfl):P:=h
theorem Fs(h:P:=by simpa using congrArg Prod.fst h2):P:=h
theorem Ft(h:P:=by simpa using congrArg Prod.snd h2):P:=h
theorem Fu(h:P:=by simp at m;omega):P:=h
theorem Fv(h:P:=by first|(simp_all [nX0,alR,bat];done)|(simp_all [nX0,alR,bat];omega)):P:=h
theorem Fw(h:P:=by rw [HP.out] at hb;exact HC.out.2.2.trans (hb.mono HC.out.2.2.size)):P:=h
theorem Fx(h:P:=by simp at h;subst h;exact hx):P:=h
theorem Fy(h:P:=by simp only [gF] at hx;simp only [gF];omega):P:=h
theorem F4(h:P:=by simp at hi;omega):P:=h
theorem F5(h:P:=by have:=hXm i hi;omega):P:=h
theorem F6(h:P:=by simp at hi;subst hi;have:=HR.out.lt;omega):P:=h
theorem F7(h:P:=by rw [hh.eq];exact⟨rfl,⟨g',q1.unguard HRB.out q2⟩,q2⟩):P:=h
theorem F8(h:P:=by rw [HP.out] at hb;exact (hb.block _ HWF.out).trans HC.out.2.1):P:=h
theorem F9(h:P:=by simp only [gF];omega):P:=h
theorem Gb(h:P:=by rw [((N' w.heap.size w).alloc (C' _) o).cell hlt];exact p1):P:=h
theorem Ge(h:P:=by rw [<- Htr.out,cL _ _ _ hct]):P:=h
theorem Gf(h:P:=by rw [<- HE.out,HD.out,h1];rfl):P:=h
theorem Gg(h:P:=by simpa using h2):P:=h
theorem Gh(h:P:=by simp [ByteArray.size];omega):P:=h
theorem Gk(h:P:=by simp [UX0]):P:=h
theorem Gl(h:P:=by simp [YD,hk]):P:=h
theorem Gm(h:P:=by have:=(H.out.blk p _ (Bj ..)).1;have:=H.out.cw;omega):P:=h
theorem Gn(h:P:=by have:=H10.out.rd.at_;have:=H10.out.rd.lie.small;omega):P:=h
theorem Gp(h:P:=by have:=H28.out.rd.at_;have:=H28.out.rd.lie.small;omega):P:=h
theorem Gq(h:P:=by simpa using m):P:=h
theorem Gs(h:P:=by rw [Af _ _ _ Du];exact HR.out):P:=h
theorem Gt(h:P:=by rw [HPH.out];exact H11.out):P:=h
theorem Gu(h:P:=by rw [HM.out];rfl):P:=h
theorem Gv(h:P:=by rw [Int.pow_succ];rcases hb with rfl|rfl <;> omega):P:=h
theorem Gw(h:P:=by have:=H2.out.rd.at_;have:=H2.out.rd.lie.small;omega):P:=h
theorem Gy(h:P:=by simp at hi;simp [hi]):P:=h
theorem Gz(h:P:=by have:=HN.out;simp;omega):P:=h
theorem G4(h:P:=by rw [hy];simp):P:=h
theorem G5(h:P:=by unfold am;rw [List.any_cons];rfl):P:=h
theorem G6(h:P:=by simp only [];omega):P:=h
theorem G7(h:P:=by rw [h0];decide):P:=h
theorem G8(h:P:=by rw [h3];decide):P:=h
theorem G9(h:P:=by unfold FD;rw [hg,hs];rfl):P:=h
theorem Ha(h:P:=by simp at hb;have e2:gg=b:=Option.some.inj e;omega):P:=h
theorem Hb(h:P:=by rw [<- HR.out];exact (FX0 HB.out.1 (C' _)).drew):P:=h
theorem Hc(h:P:=by have:=HM.out;have:=HG.out;omega):P:=h
theorem He(h:P:=by simp only [gF] at hx;simp only [gF,EB];omega):P:=h
theorem Hf(h:P:=by have:=hb.1;simp;omega):P:=h
theorem Hj(h:P:=by have:=HT.out.ne.2.2.2.2.1;show b9≠Bo;omega):P:=h
theorem Hm(h:P:=by simpa using hx):P:=h
theorem Ho(h:P:=by rw [rowR,<- Hv.out,SQ4 _ _ _ hlt,hok];simp):P:=h
theorem Hq(h:P:=by have:=HN.out;rw [V'];simp only [Ae,Am];omega):P:=h
theorem Ht(h:P:=by intro e;cases e):P:=h
theorem Hu(h:P:=by rw [List.length_take];omega):P:=h
theorem Hx(h:P:=by intro h;cases h):P:=h
theorem Hy(h:P:=by rw [hd];simp):P:=h
theorem Ia(h:P:=by have:=hB.size;omega):P:=h
theorem Ig(h:P:=by have:=HLn.out;omega):P:=h
theorem Ih(h:P:=by show w.heap.size<=w.heap.size+1+1;omega):P:=h
theorem Ij(h:P:=by split <;> assumption):P:=h
theorem Ik(h:P:=by rw [Array.length_toList,e6];exact C' _):P:=h
theorem Il(h:P:=by simp only [Nat.add_zero];rw [e4];omega):P:=h
theorem Im(h:P:=by simp [lX0,cel]):P:=h
theorem Io(h:P:=by rw [e] at h1;exact absurd h1 Ct):P:=h
theorem Ip(h:P:=by have:=HWF.out;have:=HP.out;simp;omega):P:=h
theorem Iq(h:P:=by unfold Oper.wp;rw [hx];exact hK _ _ hk):P:=h
theorem Ir(h:P:=by simp at hb';subst hb';exact HO.out.sep):P:=h
theorem Iu(h:P:=by rw [hw6];exact (N' _ _).alloc (C' _) _):P:=h
theorem Iv(h:P:=by cases e;exact h):P:=h
theorem Iw(h:P:=by rw [HP.out];rfl):P:=h
theorem Ix(h:P:=by simpa using hpl):P:=h
theorem Iy(h:P:=by first|assumption|exact fB Ct):P:=h
theorem Iz(h:P:=by simpa using h3):P:=h
theorem I0(h:P:=by have:=hf.small;show l.length<=_;omega):P:=h
theorem Ja(h:P:=by rw [hk];decide):P:=h
theorem Jb(h:P:=by simp at e):P:=h
theorem Jc(h:P:=by simp at h;subst h;exact⟨rfl,rfl⟩):P:=h
theorem Jd(h:P:=by rw [tC hit2,hpos0];omega):P:=h
theorem Je(h:P:=by rw [tC hit3,hpos0];omega):P:=h
theorem Jf(h:P:=by simpa using hlt0):P:=h
theorem Jg(h:P:=by simpa using h4):P:=h
theorem Jh(h:P:=by have:=HL.out;simp;omega):P:=h
theorem Ji(h:P:=by rw [HE5.out];simp [hn]):P:=h
theorem Jj(h:P:=by rcases hb with rfl|rfl <;> omega):P:=h
theorem Jk(h:P:=by simpa using Fr.set (a:=(y8 c 3))):P:=h
theorem Jl(h:P:=by simp at hy;subst hy;exact .inl rfl):P:=h
theorem Jm(h:P:=by have:=hb'.2;omega):P:=h
theorem Jn(h:P:=by rw [e,UInt8.toNat_ofNat_of_lt' h]):P:=h
theorem Jo(h:P:=by simp [nG,HI.out.2.2.2]):P:=h
theorem Jp(h:P:=by simp only [vF];omega):P:=h
theorem Jq(h:P:=by have:=(hown3.lt _ h.symm).1;omega):P:=h
theorem Jr(h:P:=by have:=(hownr.lt _ e.symm).2;omega):P:=h
theorem Js(h:P:=by have:=lt_of_block h.pairB;omega):P:=h
theorem Jt(h:P:=by have:=fA.len h;simpa using this):P:=h
theorem Ju(h:P:=by have:=hb.2.2.1;simpa using this):P:=h
theorem Jw(h:P:=by cases h;exact hs):P:=h
theorem Jx(h:P:=by rw [V'];simp only [Ae,Am];omega):P:=h
theorem Jy(h:P:=by simpa using hF.cell Cu c0):P:=h
theorem Jz(h:P:=by rw [HZ.out,Bb Cs,h1];rfl):P:=h
theorem Ka(h:P:=by have:=HQ.out;have:=HL0.out;omega):P:=h
theorem Kb(h:P:=by rw [hg];exact hs):P:=h
theorem Ke(h:P:=by simpa using hi):P:=h
theorem Kg(h:P:=by show q.k+1<=_;omega):P:=h
theorem Ki(h:P:=by have:=HB.out.2.2.2;simp;omega):P:=h
theorem Kj(h:P:=by have:=HL0.out;omega):P:=h
theorem Kl(h:P:=by rw [HT.out];rfl):P:=h
theorem Km(h:P:=by cases hq):P:=h
theorem Kn(h:P:=by rw [hsz];unfold maxLen;omega):P:=h
theorem Ko(h:P:=by have:=HX.out.2;omega):P:=h
theorem Kq(h:P:=by rw [e];simp):P:=h
theorem Kr(h:P:=by have:=HJ.out;omega):P:=h
theorem Ks(h:P:=by rw [hk];rfl):P:=h
theorem Kt(h:P:=by simp_all [okR,bat]):P:=h
theorem Ku(h:P:=by have:=hX b m;omega):P:=h
theorem Kv(h:P:=by have:=HQ.out;omega):P:=h
theorem Kw(h:P:=by rw [<- HD.out];rfl):P:=h
theorem Kx(h:P:=by rw [hi];rfl):P:=h
theorem Ky(h:P:=by simp [hm]):P:=h
theorem Kz(h:P:=by show k<=_;omega):P:=h
theorem K7(h:P:=by simp [dg];omega):P:=h
theorem K9(h:P:=by rw [h.out.eq,e]):P:=h
theorem La(h:P:=by have:=hκ t;omega):P:=h
theorem Lb(h:P:=by simp [rbk]):P:=h
theorem Lc(h:P:=by simp_all):P:=h
theorem Ld(h:P:=by cases e):P:=h
theorem Le(h:P:=by cases he):P:=h
theorem Lf(h:P:=by simp at hx;omega):P:=h
theorem Lg(h:P:=by rw [hLw];rfl):P:=h
theorem Lh(h:P:=by unfold OH;omega):P:=h
theorem Li(h:P:=by simpa using hp):P:=h
theorem Lj(h:P:=by rw [O' h0,hc]):P:=h
theorem Lk(h:P:=by simp [h0]):P:=h
end
section
structure Tk where
 kind:UInt8
 fr:Nat
 to:Nat
structure Env where
 s:List UInt8
 l:List Tk
 pair:List Int
inductive Tr where
 | mk (kind:UInt8) (word:Int) (fr to:Nat) (kids:List Tr):Tr
def Tr.kind:Tr->UInt8|.mk k _ _ _ _=>k
def Tr.word:Tr->Int|.mk _ w _ _ _=>w
def Tr.fr:Tr->Nat|.mk _ _ f _ _=>f
def Tr.to:Tr->Nat|.mk _ _ _ t _=>t
def Tr.kids:Tr->List Tr|.mk _ _ _ _ ks=>ks
inductive R (α:Type) where
 | ok (a:α) (at':Nat):R α
 | bad (k:Nat):R α
 | out:R α
def R.andThen {α β:Type}:R α->(α->Nat->R β)->R β
 | .ok a n,f=>f a n
 | .bad k,_=>.bad k
 | .out,_=>.out
def Env.word (E:Env) (i:Int):List UInt8 :=
 if i < 0 then [] else match E.l[i.toNat]? with
  | none=>[]
  | some t=>if t.kind=9 then [59] else if t.kind=8∨t.kind=2 then (E.s.take t.to).drop t.fr else []
def Env.kind (E:Env) (i:Int):UInt8:=if i < 0 then 0 else match E.l[i.toNat]? with|none=>0|some t=>t.kind
def Env.named (E:Env) (i:Int):Bool:=E.kind i==1
def Env.quoted (E:Env) (i:Int):Bool:=E.kind i==7
def Env.literal (E:Env) (i:Int):Bool:=decide (3<=(E.kind i).toNat)&&decide ((E.kind i).toNat<=7)
def Env.ended (E:Env) (n:Nat):Bool:=n==E.l.length
def Env.is (E:Env) (i:Nat) (w:List UInt8):Bool:=E.word i==w
inductive One where
 | expr|param|tparam|typ|field|elem|element|importSpec|constSpec|typeSpec|valueSpec|call
inductive F where
 | file|fileImports (name:Tr) (acc:List Tr)|fileDecls (name imports:Tr) (acc:List Tr)
 | group|one (o:One)|fn|signature|params|tparams|names|namesMore (acc:List Tr)|union|unionMore (acc:List Tr)
 | typ|row (fr:Nat)|members (kind:UInt8) (o:One)|typeName
 | exprs|exprsMore (acc:List Tr)|types|typesMore (acc:List Tr)|expr|binary (least:Nat)|binMore (least fr:Nat) (x:Tr)|unary|operand|primary|primMore (fr:Nat) (x:Tr)
 | dot (fr:Nat) (x:Tr)|call (fr:Nat) (x:Tr)|index (fr:Nat) (x:Tr)|indexMore (fr:Nat) (x:Tr) (acc:List Tr)|slice (fr:Nat) (x lo:Tr)|elements|value
 | stmts|stmtsMore (acc:List Tr)|block|stmt|declared|started|returned|branch|simple|rest (fr:Nat) (left:Tr)
 | ifs|switches|clauses (kind:UInt8) (sort:Nat)|clausesMore (kind:UInt8) (sort:Nat) (acc:List Tr)|cased (sort:Nat)|selects|fors|overall (fr:Nat) (word:Int) (left:Tr)
structure AB where
 t:F->Nat->Bool->R Tr
 l:List UInt8->List UInt8->One->List Tr->Int->Nat->Bool->R (List Tr × Int)
def vA (kind:UInt8) (at':Nat):Tr:=.mk kind (-1) at' at' []
def xC (kind:UInt8) (ks:List Tr) (at':Nat):Tr :=
 match ks with
 | []=>vA kind at'
 | k::r=>.mk kind (-1) k.fr ((k::r).getLast Cu).to (k::r)
def want (E:Env) (w:List UInt8) (n:Nat):R Unit:=if E.is n w then .ok () (n+1) else .bad n
def leaf (kind:UInt8) (ok:Bool) (n:Nat):R Tr:=if ok then .ok (.mk kind n n (n+1) []) (n+1) else .bad n
def LC (E:Env) (n:Nat):R Tr:=leaf 26 (E.named n) n
def TH (E:Env) (n:Nat):R Tr:=leaf 27 (E.quoted n) n
def after (E:Env) (w:List UInt8) (n:Nat):Nat:=if E.is n w then n+1 else n
def LF (E:Env) (S:AB) (mark shut:List UInt8) (o:One) (acc:List Tr) (word:Int) (n:Nat) (tight:Bool):R (List Tr × Int) :=
 if E.is n shut then .ok (acc,word) n
 else
  let first:R (Tr × Int):=match o with
   | .call=>if 0<=word then .bad n else (S.t .expr n tight).andThen fun x n1=>if E.is n1 [46,46,46] then .ok (x,(n1:Int)) (n1+1) else .ok (x,word) n1
   | o=>(S.t (.one o) n tight).andThen fun x n1=>.ok (x,word) n1
  first.andThen fun p n1 =>
   if E.is n1 shut then S.l mark shut o (acc++[p.1]) p.2 n1 tight
   else (want E mark n1).andThen fun _ n2=>S.l mark shut o (acc++[p.1]) p.2 n2 tight
def rows (E:Env) (S:AB) (open' mark shut:List UInt8) (o:One) (n:Nat) (tight:Bool):R (List Tr × Int) :=
 (want E open' n).andThen fun _ n1=>S.l mark shut o [] (-1) n1 tight
def DD (w:List UInt8):Nat :=
 if w=[124,124] then 1 else if w=[38,38] then 2
 else if w=[61,61]∨w=[33,61]∨w=[60]∨w=[60,61]∨w=[62]∨w=[62,61] then 3
 else if w=[43]∨w=[45]∨w=[124]∨w=[94] then 4
 else if w=[42]∨w=[47]∨w=[37]∨w=[60,60]∨w=[62,62]∨w=[38]∨w=[38,94] then 5 else 0
def across (E:Env) (i:Int):Int × Bool :=
 if E.word i=[91]/\E.pair.getD i.toNat 0≠i+1 then (E.pair.getD i.toNat 0+1,true) else (0,false)
def bare (E:Env) (n:Nat):Bool :=
 if E.named n=false then true
 else if E.is (n+1) [44]||E.is (n+1) [41]||E.is (n+1) [46] then true
 else (across E (n+1)).2&&(E.word (across E (n+1)).1==[44]||E.word (across E (n+1)).1==[41])
def rK (E:Env) (i:Int):Bool:=E.quoted i||E.word i==[59]||E.word i==[125]
def embedded (E:Env) (n:Nat):Bool :=
 if E.named n=false then false else rK E (n+1)||E.is (n+1) [46]||((across E (n+1)).2&&rK E (across E (n+1)).1)
def generic (E:Env) (n:Nat):Bool :=
 if E.is n [91]=false||E.named (n+1)=false then false
 else if E.is (n+2) [44]||E.is (n+2) [126]||E.is (n+2) [105,110,116,101,114,102,97,99,101]||E.is (n+2) [102,117,110,99]||E.is (n+2) [109,97,112]||E.is (n+2) [99,104,97,110]||E.is (n+2) [115,116,114,117,99,116] then true
 else E.named (n+2)
def zH (E:Env) (n:Nat):R Tr:=if E.quoted n then TH E n else .ok (vA 0 n) n
def quiet (E:Env) (n:Nat):Bool:=E.is n [59]||E.is n [125]||E.ended n
def plain (x:Tr):Bool:=x.kind==26||(x.kind==29&&match x.kids with|k::_=>k.kind==26|[]=>false)
def filled (tight:Bool) (x:Tr):Bool :=
 if x.kind=41∨x.kind=42∨x.kind=43∨x.kind=44∨x.kind=47 then true
 else
  let y:=if x.kind=30 then (match x.kids with|k::_=>k|[]=>x) else x
  !tight&&plain y
def assigns (w:List UInt8):Bool:=[[61],[58,61],[43,61],[45,61],[42,61],[47,61],[37,61],[38,61],[124,61],[94,61],[60,60,61],[62,62,61],[38,94,61]].contains w
section
variable (E:Env) (S:AB)
def EF (n:Nat) (g:Bool):R Tr :=
 (want E [112,97,99,107,97,103,101] n).andThen fun _ n1=>(LC E n1).andThen fun name n2=>(want E [59] n2).andThen fun _ n3=>S.t (.fileImports name []) n3 g
def lB (name:Tr) (acc:List Tr) (n:Nat) (g:Bool):R Tr :=
 if E.is n [105,109,112,111,114,116] then (S.t .group n g).andThen fun x n1=>(want E [59] n1).andThen fun _ n2=>S.t (.fileImports name (acc++[x])) n2 g
 else S.t (.fileDecls name (xC 2 acc n) []) n g
def eC (name imports:Tr) (acc:List Tr) (n:Nat) (g:Bool):R Tr :=
 if E.is n [99,111,110,115,116]||E.is n [118,97,114]||E.is n [116,121,112,101] then (S.t .group n g).andThen fun x n1=>(want E [59] n1).andThen fun _ n2=>S.t (.fileDecls name imports (acc++[x])) n2 g
 else if E.is n [102,117,110,99] then (S.t .fn n g).andThen fun x n1=>(want E [59] n1).andThen fun _ n2=>S.t (.fileDecls name imports (acc++[x])) n2 g
 else .ok (.mk 1 (-1) 0 n [name,imports,xC 2 acc n]) n
def EN (n:Nat):One:=if E.is n [105,109,112,111,114,116] then .importSpec else if E.is n [99,111,110,115,116] then .constSpec else if E.is n [116,121,112,101] then .typeSpec else .valueSpec
def CE (n:Nat) (g:Bool):R Tr :=
 if E.is (n+1) [40] then
  (rows E S [40] [59] [41] (EN E n) (n+1) g).andThen fun p n1=>(want E [41] n1).andThen fun _ n2=>.ok (.mk 4 n n n2 p.1) n2
 else (S.t (.one (EN E n)) (n+1) g).andThen fun x n1=>.ok (.mk 3 n n n1 [x]) n1
def uB (n:Nat):R Tr :=
 if E.is n [46] then (TH E (n+1)).andThen fun p n1=>.ok (.mk 5 n n n1 [vA 0 n,p]) n1
 else if E.named n then (LC E n).andThen fun x n1=>(TH E n1).andThen fun p n2=>.ok (.mk 5 (-1) n n2 [x,p]) n2
 else (TH E n).andThen fun p n1=>.ok (.mk 5 (-1) n n1 [vA 0 n,p]) n1
def mC (must:Bool) (n:Nat) (g:Bool):R Tr :=
 if !must&&!(E.is n [61]) then .ok (vA 0 n) n else (want E [61] n).andThen fun _ n1=>S.t .exprs n1 g
def LB (n:Nat) (g:Bool):R Tr :=
 (S.t .names n g).andThen fun names n1 =>
  if E.is n1 [59]||E.is n1 [41]||E.ended n1 then .ok (.mk 6 (-1) n n1 [names,vA 0 n1,vA 0 n1]) n1
  else if E.is n1 [61] then (mC E S true n1 g).andThen fun v n2=>.ok (.mk 6 (-1) n n2 [names,vA 0 n1,v]) n2
  else (S.t .typ n1 g).andThen fun t n2=>(mC E S true n2 g).andThen fun v n3=>.ok (.mk 6 (-1) n n3 [names,t,v]) n3
def IB (n:Nat) (g:Bool):R Tr :=
 (S.t .names n g).andThen fun names n1 =>
  if E.is n1 [61] then (mC E S false n1 g).andThen fun v n2=>.ok (.mk 6 (-1) n n2 [names,vA 0 n1,v]) n2
  else (S.t .typ n1 g).andThen fun t n2=>(mC E S false n2 g).andThen fun v n3=>.ok (.mk 6 (-1) n n3 [names,t,v]) n3
def rC (n:Nat) (g:Bool):R Tr :=
 (LC E n).andThen fun name n1 =>
  (if generic E n1 then S.t .tparams n1 g else .ok (vA 0 n1) n1).andThen fun params n2 =>
   (S.t .typ (after E [61] n2) g).andThen fun t n3=>.ok (.mk 7 (if E.is n2 [61] then (n2:Int) else -1) n n3 [name,params,t]) n3
def fnB (n:Nat) (g:Bool):R Tr :=
 (want E [102,117,110,99] n).andThen fun _ n1 =>
  (if E.is n1 [40] then S.t .params n1 g else .ok (vA 0 n1) n1).andThen fun recv n2 =>
   (LC E n2).andThen fun name n3 =>
    (if E.is n3 [91] then S.t .tparams n3 g else .ok (vA 0 n3) n3).andThen fun tp n4 =>
     (S.t .signature n4 g).andThen fun sig n5 =>
      (if E.is n5 [123] then S.t .block n5 g else .ok (vA 0 n5) n5).andThen fun body n6=>.ok (.mk 8 (-1) n n6 [recv,name,tp,sig,body]) n6
def typeNext (n:Nat):Bool:=E.is n [91]||E.is n [42]||E.is n [115,116,114,117,99,116]||E.is n [109,97,112]||E.is n [99,104,97,110]||E.is n [105,110,116,101,114,102,97,99,101]||E.is n [102,117,110,99]||E.is n [60,45]
def NB (n:Nat) (g:Bool):R Tr :=
 (S.t .params n g).andThen fun a n1 =>
  (if E.is n1 [40] then S.t .params n1 g else if typeNext E n1||E.named n1 then S.t .typ n1 g else .ok (vA 0 n1) n1).andThen fun b n2=>.ok (.mk 9 (-1) n n2 [a,b]) n2
def XD (n:Nat) (g:Bool):R Tr :=
 (rows E S [40] [44] [41] .param n g).andThen fun p n1=>(want E [41] n1).andThen fun _ n2=>.ok (.mk 14 (-1) n n2 p.1) n2
def NE (n:Nat) (g:Bool):R Tr :=
 (if bare E n then .ok (vA 0 n) n else LC E n).andThen fun name n1 =>
  (S.t .typ (after E [46,46,46] n1) g).andThen fun t n2=>.ok (.mk 15 (if E.is n1 [46,46,46] then (n1:Int) else -1) n n2 [name,t]) n2
def XC (n:Nat) (g:Bool):R Tr :=
 if E.is (n+1) [93] then .bad (n+1)
 else (rows E S [91] [44] [93] .tparam n g).andThen fun p n1=>(want E [93] n1).andThen fun _ n2=>.ok (.mk 16 (-1) n n2 p.1) n2
def RD (n:Nat) (g:Bool):R Tr :=
 (S.t .names n g).andThen fun names n1=>(S.t .union n1 g).andThen fun u n2=>.ok (.mk 17 (-1) n n2 [names,u]) n2
def OD (n:Nat) (g:Bool):R Tr:=(LC E n).andThen fun x n1=>S.t (.namesMore [x]) n1 g
def XB (acc:List Tr) (n:Nat) (g:Bool):R Tr :=
 if E.is n [44] then (LC E (n+1)).andThen fun x n1=>S.t (.namesMore (acc++[x])) n1 g else .ok (xC 10 acc n) n
def nH (n:Nat) (g:Bool):R Tr :=
 if E.is n [126] then (S.t .typ (n+1) g).andThen fun t n1=>.ok (.mk 19 (-1) n n1 [t]) n1 else S.t .typ n g
def jB (acc:List Tr) (n:Nat) (g:Bool):R Tr :=
 (nH E S n g).andThen fun x n1=>if E.is n1 [124] then S.t (.unionMore (acc++[x])) (n1+1) g else .ok (xC 18 (acc++[x]) n1) n1
def wrapT (kind:UInt8) (word:Int) (fr:Nat) (pre:List Tr) (n:Nat):R Tr :=
 (S.t .typ n false).andThen fun t n1=>.ok (.mk kind word fr n1 (pre++[t])) n1
def tI (n:Nat):R Tr :=
 if E.named n then S.t .typeName n false
 else if E.is n [42] then wrapT S 35 (-1) n [] (n+1)
 else if E.is n [40] then (S.t .typ (n+1) false).andThen fun t n1=>(want E [41] n1).andThen fun _ n2=>.ok (.mk 28 (-1) n n2 [t]) n2
 else if E.is n [91] then S.t (.row n) (n+1) false
 else if E.is n [109,97,112] then (want E [91] (n+1)).andThen fun _ n1=>(S.t .typ n1 false).andThen fun k n2=>(want E [93] n2).andThen fun _ n3=>wrapT S 44 (-1) n [k] n3
 else if E.is n [99,104,97,110] then wrapT S 45 n n [] (after E [60,45] (n+1))
 else if E.is n [60,45] then (want E [99,104,97,110] (n+1)).andThen fun _ n1=>wrapT S 45 n n [] n1
 else if E.is n [102,117,110,99] then (S.t .signature (n+1) false).andThen fun s n1=>.ok (.mk 46 (-1) n n1 [s]) n1
 else if E.is n [115,116,114,117,99,116] then (S.t (.members 20 .field) (n+1) false).andThen fun m n1=>.ok (.mk 47 (-1) n n1 [m]) n1
 else if E.is n [105,110,116,101,114,102,97,99,101] then (S.t (.members 23 .elem) (n+1) false).andThen fun m n1=>.ok (.mk 48 (-1) n n1 [m]) n1
 else .bad n
def NJ (fr n:Nat):R Tr :=
 if E.is n [93] then wrapT S 43 (-1) fr [] (n+1)
 else if E.is n [46,46,46] then (want E [93] (n+1)).andThen fun _ n1=>wrapT S 42 (-1) fr [] n1
 else (S.t .expr n false).andThen fun x n1=>(want E [93] n1).andThen fun _ n2=>wrapT S 41 (-1) fr [x] n2
def CB (kind:UInt8) (o:One) (n:Nat) (g:Bool):R Tr :=
 (rows E S [123] [59] [125] o n g).andThen fun p n1=>(want E [125] n1).andThen fun _ n2=>.ok (xC kind p.1 n1) n2
def nC (n:Nat) (g:Bool):R Tr :=
 (LC E n).andThen fun x n1 =>
  (if E.is n1 [46] then (LC E (n1+1)).andThen fun y n2=>.ok (.mk 29 (-1) n n2 [x,y]) n2 else .ok x n1).andThen fun x n2 =>
   if E.is n2 [91] then
    if E.is (n2+1) [93] then .bad (n2+1)
    else (rows E S [91] [44] [93] .typ n2 g).andThen fun p n3=>(want E [93] n3).andThen fun _ n4=>.ok (.mk 30 (-1) n n4 [x,xC 11 p.1 n3]) n4
   else .ok x n2
def WE (n:Nat) (g:Bool):R Tr :=
 if E.is n [42] then
  if E.named (n+1) then (S.t .typeName (n+1) g).andThen fun t n1=>(zH E n1).andThen fun q n2=>.ok (.mk 22 (-1) n n2 [.mk 35 (-1) n n1 [t],q]) n2
  else .bad (n+1)
 else if embedded E n then (S.t .typeName n g).andThen fun t n1=>(zH E n1).andThen fun q n2=>.ok (.mk 22 (-1) n n2 [t,q]) n2
 else (S.t .names n g).andThen fun names n1=>(S.t .typ n1 g).andThen fun t n2=>(zH E n2).andThen fun q n3=>.ok (.mk 21 (-1) n n3 [names,t,q]) n3
def kG (n:Nat) (g:Bool):R Tr :=
 if E.named n&&E.is (n+1) [40] then (LC E n).andThen fun x n1=>(S.t .signature n1 g).andThen fun s n2=>.ok (.mk 24 (-1) n n2 [x,s]) n2
 else S.t .union n g
def ZB (acc:List Tr) (n:Nat) (g:Bool):R Tr :=
 if E.is n [44] then (S.t .expr (n+1) g).andThen fun x n1=>S.t (.exprsMore (acc++[x])) n1 g else .ok (xC 11 acc n) n
def cC (acc:List Tr) (n:Nat) (g:Bool):R Tr :=
 if E.is n [44] then (S.t .typ (n+1) g).andThen fun x n1=>S.t (.typesMore (acc++[x])) n1 g else .ok (xC 11 acc n) n
def uD (least fr:Nat) (x:Tr) (n:Nat) (g:Bool):R Tr :=
 if DD (E.word n) < least then .ok x n
 else (S.t (.binary (DD (E.word n)+1)) (n+1) g).andThen fun y n1=>S.t (.binMore least fr (.mk 37 n fr n1 [x,y])) n1 g
def FE (n:Nat) (g:Bool):R Tr :=
 if E.is n [60,45] then
  if E.is (n+1) [99,104,97,110] then S.t .primary n g else (S.t .unary (n+1) g).andThen fun x n1=>.ok (.mk 36 n n n1 [x]) n1
 else if E.is n [43]||E.is n [45]||E.is n [33]||E.is n [94]||E.is n [38] then (S.t .unary (n+1) g).andThen fun x n1=>.ok (.mk 36 n n n1 [x]) n1
 else if E.is n [42] then (S.t .unary (n+1) g).andThen fun x n1=>.ok (.mk 35 (-1) n n1 [x]) n1
 else S.t .primary n g
def PC (n:Nat) (g:Bool):R Tr :=
 if E.literal n then leaf 27 true n
 else if E.is n [40] then (S.t .expr (n+1) false).andThen fun x n1=>(want E [41] n1).andThen fun _ n2=>.ok (.mk 28 (-1) n n2 [x]) n2
 else if E.is n [102,117,110,99] then (S.t .signature (n+1) false).andThen fun s n1 =>
  if E.is n1 [123] then (S.t .block n1 false).andThen fun b n2=>.ok (.mk 40 (-1) n n2 [s,b]) n2 else .ok (.mk 46 (-1) n n1 [s]) n1
 else if E.is n [91]||E.is n [115,116,114,117,99,116]||E.is n [109,97,112]||E.is n [99,104,97,110]||E.is n [105,110,116,101,114,102,97,99,101] then S.t .typ n g
 else if E.is n [60,45] then (if E.is (n+1) [99,104,97,110] then S.t .typ n g else .bad n)
 else LC E n
def DC (fr:Nat) (x:Tr) (n:Nat) (g:Bool):R Tr :=
 if E.is n [46] then (S.t (.dot fr x) n g).andThen fun y n1=>S.t (.primMore fr y) n1 g
 else if E.is n [40] then (S.t (.call fr x) n false).andThen fun y n1=>S.t (.primMore fr y) n1 g
 else if E.is n [91] then (S.t (.index fr x) n false).andThen fun y n1=>S.t (.primMore fr y) n1 g
 else if E.is n [123]&&filled g x then (S.t .elements n g).andThen fun e n1=>S.t (.primMore fr (.mk 39 (-1) fr n1 [x,e])) n1 g
 else .ok x n
def SJ (fr:Nat) (x:Tr) (n:Nat) (g:Bool):R Tr :=
 if E.is (n+1) [40] then
  if E.is (n+2) [116,121,112,101] then (want E [41] (n+3)).andThen fun _ n1=>.ok (.mk 33 (-1) fr n1 [x]) n1
  else (S.t .typ (n+2) g).andThen fun t n1=>(want E [41] n1).andThen fun _ n2=>.ok (.mk 32 (-1) fr n2 [x,t]) n2
 else (LC E (n+1)).andThen fun y n1=>.ok (.mk 29 (-1) fr n1 [x,y]) n1
def bG (fr:Nat) (x:Tr) (n:Nat) (g:Bool):R Tr :=
 (rows E S [40] [44] [41] .call n g).andThen fun p n1=>(want E [41] n1).andThen fun _ n2=>.ok (.mk 34 p.2 fr n2 [x,xC 11 p.1 n1]) n2
def sE (fr:Nat) (x:Tr) (n:Nat) (g:Bool):R Tr :=
 (if E.is (n+1) [58] then .ok (vA 0 (n+1)) (n+1) else S.t .expr (n+1) g).andThen fun lo n1 =>
  if E.is n1 [58] then S.t (.slice fr x lo) (n1+1) g else S.t (.indexMore fr x [lo]) n1 g
def fC (fr:Nat) (x:Tr) (acc:List Tr) (n:Nat) (g:Bool):R Tr :=
 if E.is n [44]&&!(E.is (n+1) [93]) then (S.t .expr (n+1) g).andThen fun y n1=>S.t (.indexMore fr x (acc++[y])) n1 g
 else (want E [93] (after E [44] n)).andThen fun _ n1=>.ok (.mk 30 (-1) fr n1 [x,xC 11 acc n]) n1
def UE (fr:Nat) (x lo:Tr) (n:Nat) (g:Bool):R Tr :=
 if E.is n [93] then .ok (.mk 31 (-1) fr (n+1) [x,lo,vA 0 n,vA 0 n]) (n+1)
 else (S.t .expr n g).andThen fun hi n1 =>
  (if E.is n1 [58] then S.t .expr (n1+1) g else .ok (vA 0 n1) n1).andThen fun most n2 =>
   (want E [93] n2).andThen fun _ n3=>.ok (.mk 31 (-1) fr n3 [x,lo,hi,most]) n3
def OB (n:Nat):R Tr :=
 (rows E S [123] [44] [125] .element n false).andThen fun p n1=>(want E [125] n1).andThen fun _ n2=>.ok (xC 12 p.1 n1) n2
def QC (n:Nat) (g:Bool):R Tr :=
 (S.t .value n g).andThen fun x n1=>if E.is n1 [58] then (S.t .value (n1+1) g).andThen fun y n2=>.ok (.mk 38 (-1) n n2 [x,y]) n2 else .ok x n1
def QE (n:Nat) (g:Bool):R Tr :=
 if E.is n [123] then (S.t .elements n g).andThen fun e n1=>.ok (.mk 39 (-1) n n1 [vA 0 n,e]) n1 else S.t .expr n g
def dC (acc:List Tr) (n:Nat) (g:Bool):R Tr :=
 if E.is n [125]||E.is n [99,97,115,101]||E.is n [100,101,102,97,117,108,116]||E.ended n then .ok (xC 13 acc n) n
 else if E.is n [59] then S.t (.stmtsMore (acc++[vA 49 n])) (n+1) g
 else (S.t .stmt n g).andThen fun x n1 =>
  if E.is n1 [125]||E.ended n1 then S.t (.stmtsMore (acc++[x])) n1 g
  else (want E [59] n1).andThen fun _ n2=>S.t (.stmtsMore (acc++[x])) n2 g
def EE (n:Nat) (g:Bool):R Tr :=
 (want E [123] n).andThen fun _ n1=>(S.t .stmts n1 g).andThen fun s n2=>(want E [125] n2).andThen fun _ n3=>.ok (.mk 58 (-1) n n3 [s]) n3
def ZC (n:Nat) (g:Bool):R Tr :=
 if E.is n [99,111,110,115,116]||E.is n [118,97,114]||E.is n [116,121,112,101] then S.t .declared n g
 else if E.is n [103,111]||E.is n [100,101,102,101,114] then S.t .started n g
 else if E.is n [114,101,116,117,114,110] then S.t .returned n g
 else if E.is n [98,114,101,97,107]||E.is n [99,111,110,116,105,110,117,101]||E.is n [103,111,116,111]||E.is n [102,97,108,108,116,104,114,111,117,103,104] then S.t .branch n g
 else if E.is n [123] then S.t .block n g
 else if E.is n [105,102] then S.t .ifs n g
 else if E.is n [115,119,105,116,99,104] then S.t .switches n g
 else if E.is n [115,101,108,101,99,116] then S.t .selects n g
 else if E.is n [102,111,114] then S.t .fors n g
 else if E.named n&&E.is (n+1) [58] then
  (LC E n).andThen fun label n1 =>
   (if quiet E (n1+1) then .ok (vA 49 (n1+1)) (n1+1) else S.t .stmt (n1+1) g).andThen fun s n2=>.ok (.mk 67 (-1) n n2 [label,s]) n2
 else S.t .simple n g
def lC (n:Nat) (g:Bool):R Tr:=(S.t .group n g).andThen fun x n1=>.ok (.mk 68 (-1) n n1 [x]) n1
def aD (n:Nat) (g:Bool):R Tr:=(S.t .expr (n+1) g).andThen fun x n1=>.ok (.mk (if E.is n [100,101,102,101,114] then 55 else 54) (-1) n n1 [x]) n1
def oC (n:Nat) (g:Bool):R Tr :=
 (if quiet E (n+1) then .ok (vA 11 (n+1)) (n+1) else S.t .exprs (n+1) g).andThen fun x n1=>.ok (.mk 56 (-1) n n1 [x]) n1
def UD (n:Nat):R Tr :=
 (if E.is n [103,111,116,111]||(!(E.is n [102,97,108,108,116,104,114,111,117,103,104])&&E.named (n+1)) then LC E (n+1) else .ok (vA 0 (n+1)) (n+1)).andThen fun x n1=>.ok (.mk 57 n n n1 [x]) n1
def WF (fr:Nat) (left:Tr) (n:Nat) (g:Bool):R Tr :=
 if assigns (E.word n) then (S.t .exprs (n+1) g).andThen fun r n1=>.ok (.mk 53 n fr n1 [left,r]) n1
 else match left.kids with
  | [x] =>
   if E.is n [43,43]||E.is n [45,45] then .ok (.mk 52 n fr (n+1) [x]) (n+1)
   else if E.is n [60,45] then (S.t .expr (n+1) g).andThen fun y n1=>.ok (.mk 51 (-1) fr n1 [x,y]) n1
   else .ok (.mk 50 (-1) fr n [x]) n
  | _=>.bad n
def only (s:Tr) (n:Nat):R Tr :=
 if s.kind=50 then (match s.kids with|x::_=>.ok x n|[]=>.bad n) else .bad n
def SD (fr:Nat) (first cond:Tr) (n:Nat) (g:Bool):R Tr :=
 (S.t .block n g).andThen fun body n1 =>
  (if E.is n1 [101,108,115,101] then (if E.is (n1+1) [105,102] then S.t .ifs (n1+1) g else S.t .block (n1+1) g) else .ok (vA 0 n1) n1).andThen fun other n2 =>
   .ok (.mk 59 (-1) fr n2 [first,cond,body,other]) n2
def XI (n:Nat) (g:Bool):R Tr :=
 if E.is (n+1) [59] then (S.t .expr (n+2) true).andThen fun c n1=>SD E S n (vA 0 (n+1)) c n1 g
 else (S.t .simple (n+1) true).andThen fun s n1 =>
  if E.is n1 [59] then (S.t .expr (n1+1) true).andThen fun c n2=>SD E S n s c n2 g
  else (only s n1).andThen fun c n2=>SD E S n (vA 0 (n+1)) c n2 g
def asked (s:Tr):Option (Tr × Tr) :=
 match s.kind,s.kids with
 | 50,[x]=>(match x.kind,x.kids with|33,[y]=>some (.mk 0 (-1) s.fr s.fr [],y)|_,_=>none)
 | 53,[l,r] =>
  if E.word s.word=[58,61] then
   (match l.kids,r.kids with
    | [a],[b]=>if a.kind=26/\b.kind=33 then (match b.kids with|[y]=>some (a,y)|_=>none) else none
    | _,_=>none)
  else none
 | _,_=>none
def qB (fr:Nat) (first:Tr) (s:Option Tr) (tag:Tr) (n:Nat) (g:Bool):R Tr :=
 match s with
 | none=>(S.t (.clauses 62 1) n g).andThen fun c n1=>.ok (.mk 60 (-1) fr n1 [first,tag,c]) n1
 | some s =>
  match asked E s with
  | some (name,x)=>(S.t (.clauses 62 2) n g).andThen fun c n1=>.ok (.mk 61 (-1) fr n1 [first,name,x,c]) n1
  | none=>(only s n).andThen fun t n1=>(S.t (.clauses 62 1) n1 g).andThen fun c n2=>.ok (.mk 60 (-1) fr n2 [first,t,c]) n2
def nB (fr:Nat) (first:Tr) (n:Nat) (g:Bool):R Tr :=
 if E.is n [123] then qB E S fr first none (vA 0 n) n g
 else (S.t .simple n true).andThen fun s n1=>qB E S fr first (some s) (vA 0 n) n1 g
def qC (n:Nat) (g:Bool):R Tr :=
 if E.is (n+1) [123] then qB E S n (vA 0 (n+1)) none (vA 0 (n+1)) (n+1) g
 else if E.is (n+1) [59] then nB E S n (vA 0 (n+1)) (n+2) g
 else (S.t .simple (n+1) true).andThen fun s n1 =>
  if E.is n1 [59] then nB E S n s (n1+1) g else qB E S n (vA 0 (n+1)) (some s) (vA 0 (n+1)) n1 g
def rD (kind:UInt8) (sort:Nat) (n:Nat):R Tr:=(want E [123] n).andThen fun _ n1=>S.t (.clausesMore kind sort []) n1 false
def mB (kind:UInt8) (sort:Nat) (acc:List Tr) (n:Nat) (g:Bool):R Tr :=
 if E.is n [125] then .ok (xC 25 acc n) (n+1)
 else
  (if E.is n [100,101,102,97,117,108,116] then .ok (vA 0 (n+1)) (n+1) else (want E [99,97,115,101] n).andThen fun _ n1=>S.t (.cased sort) n1 g).andThen fun x n1 =>
   (want E [58] n1).andThen fun _ n2=>(S.t .stmts n2 g).andThen fun s n3=>S.t (.clausesMore kind sort (acc++[.mk kind (-1) n n3 [x,s]])) n3 g
def PE (sort:Nat) (n:Nat) (g:Bool):R Tr:=if sort=1 then S.t .exprs n g else if sort=2 then S.t .types n g else S.t .simple n g
def dD (n:Nat) (g:Bool):R Tr:=(S.t (.clauses 64 3) (n+1) g).andThen fun c n1=>.ok (.mk 63 (-1) n n1 [c]) n1
def cD (fr:Nat) (word:Int) (left:Tr) (n:Nat) (g:Bool):R Tr :=
 (want E [114,97,110,103,101] n).andThen fun _ n1=>(S.t .expr n1 true).andThen fun x n2=>(S.t .block n2 g).andThen fun b n3=>.ok (.mk 66 word fr n3 [left,x,b]) n3
def kD (fr:Nat) (first:Tr) (n:Nat) (g:Bool):R Tr :=
 (want E [59] n).andThen fun _ n1 =>
  (if E.is n1 [59] then .ok (vA 0 n1) n1 else S.t .expr n1 true).andThen fun cond n2 =>
   (want E [59] n2).andThen fun _ n3 =>
    (if E.is n3 [123] then .ok (vA 0 n3) n3 else S.t .simple n3 true).andThen fun last n4 =>
     (S.t .block n4 g).andThen fun b n5=>.ok (.mk 65 (-1) fr n5 [first,cond,last,b]) n5
def fG (n:Nat) (g:Bool):R Tr :=
 if E.is (n+1) [123] then (S.t .block (n+1) g).andThen fun b n1=>.ok (.mk 65 (-1) n n1 [vA 0 (n+1),vA 0 (n+1),vA 0 (n+1),b]) n1
 else if E.is (n+1) [114,97,110,103,101] then S.t (.overall n (-1) (vA 0 (n+1))) (n+1) g
 else if E.is (n+1) [59] then kD E S n (vA 0 (n+1)) (n+1) g
 else (S.t .exprs (n+1) true).andThen fun left n1 =>
  if (E.is n1 [61]||E.is n1 [58,61])&&E.is (n1+1) [114,97,110,103,101] then S.t (.overall n n1 left) (n1+1) g
  else (S.t (.rest (n+1) left) n1 true).andThen fun s n2 =>
   if E.is n2 [59] then kD E S n s n2 g
   else (only s n2).andThen fun x n3=>(S.t .block n3 g).andThen fun b n4=>.ok (.mk 65 (-1) n n4 [vA 0 (n+1),x,vA 0 n3,b]) n4
def DF:F->Nat->Bool->R Tr
 | .file,n,g=>EF E S n g
 | .fileImports name acc,n,g=>lB E S name acc n g
 | .fileDecls name imports acc,n,g=>eC E S name imports acc n g
 | .group,n,g=>CE E S n g
 | .one .expr,n,g=>S.t .expr n g
 | .one .param,n,g=>NE E S n g
 | .one .tparam,n,g=>RD S n g
 | .one .typ,n,g=>S.t .typ n g
 | .one .field,n,g=>WE E S n g
 | .one .elem,n,g=>kG E S n g
 | .one .element,n,g=>QC E S n g
 | .one .importSpec,n,_=>uB E n
 | .one .constSpec,n,g=>LB E S n g
 | .one .typeSpec,n,g=>rC E S n g
 | .one .valueSpec,n,g=>IB E S n g
 | .one .call,n,_=>.bad n
 | .fn,n,g=>fnB E S n g
 | .signature,n,g=>NB E S n g
 | .params,n,g=>XD E S n g
 | .tparams,n,g=>XC E S n g
 | .names,n,g=>OD E S n g
 | .namesMore acc,n,g=>XB E S acc n g
 | .union,n,g=>jB E S [] n g
 | .unionMore acc,n,g=>jB E S acc n g
 | .typ,n,_=>tI E S n
 | .row fr,n,_=>NJ E S fr n
 | .members kind o,n,g=>CB E S kind o n g
 | .typeName,n,g=>nC E S n g
 | .exprs,n,g=>(S.t .expr n g).andThen fun x n1=>S.t (.exprsMore [x]) n1 g
 | .exprsMore acc,n,g=>ZB E S acc n g
 | .types,n,g=>(S.t .typ n g).andThen fun x n1=>S.t (.typesMore [x]) n1 g
 | .typesMore acc,n,g=>cC E S acc n g
 | .expr,n,g=>S.t (.binary 1) n g
 | .binary least,n,g=>(S.t .unary n g).andThen fun x n1=>S.t (.binMore least n x) n1 g
 | .binMore least fr x,n,g=>uD E S least fr x n g
 | .unary,n,g=>FE E S n g
 | .operand,n,g=>PC E S n g
 | .primary,n,g=>(S.t .operand n g).andThen fun x n1=>S.t (.primMore n x) n1 g
 | .primMore fr x,n,g=>DC E S fr x n g
 | .dot fr x,n,g=>SJ E S fr x n g
 | .call fr x,n,g=>bG E S fr x n g
 | .index fr x,n,g=>sE E S fr x n g
 | .indexMore fr x acc,n,g=>fC E S fr x acc n g
 | .slice fr x lo,n,g=>UE E S fr x lo n g
 | .elements,n,_=>OB E S n
 | .value,n,g=>QE E S n g
 | .stmts,n,_=>S.t (.stmtsMore []) n false
 | .stmtsMore acc,n,g=>dC E S acc n g
 | .block,n,g=>EE E S n g
 | .stmt,n,g=>ZC E S n g
 | .declared,n,g=>lC S n g
 | .started,n,g=>aD E S n g
 | .returned,n,g=>oC E S n g
 | .branch,n,_=>UD E n
 | .simple,n,g=>(S.t .exprs n g).andThen fun left n1=>S.t (.rest n left) n1 g
 | .rest fr left,n,g=>WF E S fr left n g
 | .ifs,n,g=>XI E S n g
 | .switches,n,g=>qC E S n g
 | .clauses kind sort,n,_=>rD E S kind sort n
 | .clausesMore kind sort acc,n,g=>mB E S kind sort acc n g
 | .cased sort,n,g=>PE S sort n g
 | .selects,n,g=>dD S n g
 | .fors,n,g=>fG E S n g
 | .overall fr word left,n,g=>cD E S fr word left n g
def step:AB:=⟨DF E S,fun mark shut o acc word n g=>LF E S mark shut o acc word n g⟩
end
def spec (E:Env):Nat->AB
 | 0=>⟨fun _ _ _=>.out,fun _ _ _ _ _ _ _=>.out⟩
 | k+1=>step E (spec E k)
end
section
def xA {α:Type} (N lo:Nat) (r:R α):Prop:=r≠.out/\∀ a m,r=.ok a m->lo<=m/\m<=N
theorem xA.bad {α:Type}{N lo k:Nat}:xA N lo (R.bad k:R α):=⟨Cu,fun _ _ h=>Do⟩
theorem xA.ok {α:Type}{N lo m:Nat}{a:α} (h:lo<=m) (k:m<=N):xA N lo (R.ok a m):=⟨Cu,fun _ _ e=>by cases e;exact⟨h,k⟩⟩
theorem xA.andThen {α β:Type}{N lo lo':Nat}{r:R α}{f:α->Nat->R β} (h:xA N lo r) (hf:∀ a m,lo<=m->m<=N->xA N lo' (f a m)):xA N lo' (r.andThen f):=by
 cases r with
 | ok a m=>obtain⟨h1,h2⟩:=h.2 a m rfl;exact hf a m h1 h2
 | bad k=>exact xA.bad
 | out=>exact absurd rfl h.1
theorem xA.ite {α:Type}{N lo:Nat}{c:Prop} [Decidable c] {a b:R α} (h1:c->xA N lo a) (h2:¬ c->xA N lo b):xA N lo (if c then a else b):=by
 exact zb4
theorem xA.low {α:Type}{N lo lo':Nat}{r:R α} (h:xA N lo r) (k:lo'<=lo):xA N lo' r:=⟨h.1,fun a m e=>⟨An k (h.2 a m e).1,(h.2 a m e).2⟩⟩
variable {E:Env}
theorem AG {n:Nat} (h:E.l.length<=n):E.word (n:Int)=[]:=by
 unfold Env.word;exact zd2
theorem FG {n:Nat} (h:E.l.length<=n):E.kind (n:Int)=0:=by
 unfold Env.kind;exact zd2
theorem xY {n:Nat} (h:E.l.length<=n) (x:UInt8) (w:List UInt8):E.is n (x::w)=false:=by
 unfold Env.is;rw [AG h];rfl
theorem pI {n:Nat} (h:E.l.length<=n):E.named (n:Int)=false:=by
 unfold Env.named;rw [FG h];rfl
theorem gA {n:Nat}{x:UInt8}{w:List UInt8} (h:E.is n (x::w)=true):n < E.l.length:=by
 apply Ap;intro hn;rw [xY Cs] at h;cases h
theorem aF (x:UInt8) (w:List UInt8) (n:Nat):xA E.l.length (n+1) (want E (x::w) n):=by
 unfold want;exact xA.ite (fun h=>xA.ok (C' _) (gA h)) (fun _=>xA.bad)
theorem gI (n:Nat):xA E.l.length (n+1) (LC E n):=by
 unfold LC leaf;refine xA.ite (fun h=>xA.ok (C' _) ?_) (fun _=>xA.bad);exact zch
theorem TE (n:Nat):xA E.l.length (n+1) (TH E n):=by
 unfold TH leaf;refine xA.ite (fun h=>xA.ok (C' _) ?_) (fun _=>xA.bad);exact zdk
theorem YI {n:Nat} (h:n<=E.l.length):xA E.l.length n (zH E n):=by
 unfold zH;exact xA.ite (fun _=>(TE n).low Cs) (fun _=>xA.ok (C' _) h)
def rk:F->Nat
 | .file=>4|.fileImports _ _=>3|.fileDecls _ _ _=>2|.group=>1|.one _=>10|.fn=>1|.signature=>2|.params=>1|.tparams=>1|.names=>1|.namesMore _=>1|.union=>3|.unionMore _=>3
 | .typ=>2|.row _=>8|.members _ _=>1|.typeName=>1|.exprs=>8|.exprsMore _=>1|.types=>3|.typesMore _=>1|.expr=>7|.binary _=>6|.binMore _ _ _=>1|.unary=>5|.operand=>3|.primary=>4|.primMore _ _=>2
 | .dot _ _=>1|.call _ _=>1|.index _ _=>1|.indexMore _ _ _=>1|.slice _ _ _=>8|.elements=>1|.value=>8|.stmts=>12|.stmtsMore _=>11|.block=>1|.stmt=>10|.declared=>2|.started=>1|.returned=>1|.branch=>1
 | .simple=>9|.rest _ _=>1|.ifs=>1|.switches=>1|.clauses _ _=>1|.clausesMore _ _ _=>1|.cased _=>10|.selects=>1|.fors=>1|.overall _ _ _=>1
def NF:F->Bool
 | .group|.dot _ _|.call _ _|.index _ _|.declared|.started|.returned|.branch|.ifs|.switches|.selects|.fors=>true
 | _=>false
def iQ:F->Bool
 | .fileImports _ _|.fileDecls _ _ _|.namesMore _|.exprsMore _|.typesMore _|.binMore _ _ _|.primMore _ _|.stmts|.stmtsMore _|.rest _ _=>true
 | _=>false
def okF:F->Bool
 | .binary l=>decide (1<=l)
 | .binMore l _ _=>decide (1<=l)
 | _=>true
def pre (E:Env) (f:F) (n:Nat):Prop:=okF f=true/\if NF f then n < E.l.length else n<=E.l.length
def low (f:F) (n:Nat):Nat:=if iQ f then n else n+1
structure vG (E:Env) (S:AB) (k:Nat):Prop where
 t:∀ f n g,pre E f n->20*(E.l.length - n)+rk f < k->xA E.l.length (low f n) (S.t f n g)
 l:∀ a m b s o acc word n g,n<=E.l.length->20*(E.l.length - n)+11 < k->xA E.l.length n (S.l (a::m) (b::s) o acc word n g)
variable {S:AB}{k:Nat}
theorem eI (h:vG E S k) (c:UInt8) (p:List UInt8) (a:UInt8) (m:List UInt8) (b:UInt8) (s:List UInt8) (o:One) (n:Nat) (g:Bool) (hk:20*(E.l.length - n) < k+8) :
  xA E.l.length (n+1) (rows E S (c::p) (a::m) (b::s) o n g):=by
 unfold rows;refine xA.andThen (aF c p n) (fun _ m1 h1 h2=>?_);exact (h.l a m b s o [] (-1) m1 g h2 Cs).low h1
end
section
variable {E:Env}{S:AB}{k:Nat}
theorem oA {α β:Type}{c:Prop} [Decidable c] {a b:R α}{f:α->Nat->R β}:(if c then a else b).andThen f=if c then a.andThen f else b.andThen f:=by
 by_cases h:c
 ·rw [Bb h,Bb h]
 ·rw [Bc h,Bc h]
theorem mA {α β:Type}{a:α}{n:Nat}{f:α->Nat->R β}:(R.ok a n).andThen f=f a n:=rfl
theorem PA {α β:Type}{n:Nat}{f:α->Nat->R β}:(R.bad n).andThen f=R.bad n:=rfl
theorem zA {α β γ:Type}{r:R α}{f:α->Nat->R β}{g:β->Nat->R γ}:(r.andThen f).andThen g=r.andThen fun a n=>(f a n).andThen g:=by
 cases r <;> rfl
theorem bl:(∀ b:Bool,(b||false)=b)/\(∀ b:Bool,(false||b)=b)/\(∀ b:Bool,(b||true)=true)/\(∀ b:Bool,(true||b)=true)/\(∀ b:Bool,(b&&true)=b)/\(∀ b:Bool,(true&&b)=b)/\(∀ b:Bool,(b&&false)=false)/\(∀ b:Bool,(false&&b)=false)/\(!true)=false/\(!false)=true/\(false=true)=False:=by
 and_intros <;> simp
theorem bs:((∀ b:Bool,(b||false)=b)/\(∀ b:Bool,(false||b)=b)/\(∀ b:Bool,(b||true)=true)/\(∀ b:Bool,(true||b)=true)/\(∀ b:Bool,(b&&true)=b)/\(∀ b:Bool,(true&&b)=b)/\(∀ b:Bool,(b&&false)=false)/\(∀ b:Bool,(false&&b)=false)/\(!true)=false/\(!false)=true/\(false=true)=False) /\
  (∀ (α:Type) (_:Decidable True) (a b:α),(if True then a else b)=a)/\(∀ (α:Type) (_:Decidable False) (a b:α),(if False then a else b)=b)/\(∀ (α β:Type) (a:α) (n:Nat) (f:α->Nat->R β),(R.ok a n).andThen f=f a n)/\(∀ (α β:Type) (n:Nat) (f:α->Nat->R β),(R.bad n).andThen f=R.bad n) /\
  (∀ (α β:Type) (c:Prop) (_:Decidable c) (a b:R α) (f:α->Nat->R β),(if c then a else b).andThen f=if c then a.andThen f else b.andThen f)/\(∀ (α β γ:Type) (r:R α) (f:α->Nat->R β) (g:β->Nat->R γ),(r.andThen f).andThen g=r.andThen fun a n=>(f a n).andThen g) :=
 ⟨bl,fun _ _ _ _=>Bb trivial,fun _ _ _ _=>Bc id,fun _ _ _ _ _=>rfl,fun _ _ _ _=>rfl,fun _ _ _ _ _ _ _=>oA,fun _ _ _ _ _ _=>zA⟩
theorem jI {β:Type}{n N lo:Nat}{f:Tr->Nat->R β} (h:∀ t,E.named n=true->xA N lo (f t (n+1))):xA N lo ((LC E n).andThen f):=by
 unfold LC leaf;rw [oA];exact xA.ite (fun hc=>h _ hc) (fun _=>xA.bad)
theorem DA {f:F}{n:Nat} (hs:NF f=false) (h:n<=E.l.length) (ho:okF f=true:=by rfl):pre E f n:=by
 unfold pre;rw [hs,Bc Ct];exact⟨ho,h⟩
theorem SF {f:F}{n:Nat} (h:n < E.l.length) (ho:okF f=true:=by rfl):pre E f n:=by
 refine⟨ho,?_⟩;split
 ·exact h
 ·omega
theorem UC {f:F}{n m:Nat} (hs:iQ f=false) (h:low f n<=m):n+1<=m:=by
 unfold low at h;rw [hs,Bc Ct] at h;exact h
theorem aJ {f:F}{n m:Nat} (h:low f n<=m):n<=m:=by
 unfold low at h;split at h <;> omega
theorem UF {f:F}{n lo:Nat} (h:lo<=n):lo<=low f n:=by
 unfold low;split <;> omega
theorem bI {f:F}{n:Nat} (hs:iQ f=false):low f n=n+1:=by
 unfold low;rw [hs,Bc Ct]
theorem CS {n:Nat}{x:UInt8}{w:List UInt8}{b:Bool} (hb:b=true->n < E.l.length) (h:(b||E.is n (x::w))=true):n < E.l.length:=by
 rcases Bv _ _ ▸ h with h|h
 ·exact hb h
 ·exact gA h
theorem vL {n:Nat}{x y:UInt8}{v w:List UInt8} (h:(E.is n (x::v)||E.is n (y::w))=true):n < E.l.length:=CS gA h
theorem EL {n:Nat}{x y z:UInt8}{u v w:List UInt8} (h:(E.is n (x::u)||E.is n (y::v)||E.is n (z::w))=true):n < E.l.length:=CS vL h
theorem zL {n:Nat}{x y z a:UInt8}{u v w p:List UInt8} (h:(E.is n (x::u)||E.is n (y::v)||E.is n (z::w)||E.is n (a::p))=true):n < E.l.length:=CS EL h
theorem vO {n:Nat}{x y z a b:UInt8}{u v w p q:List UInt8} (h:(E.is n (x::u)||E.is n (y::v)||E.is n (z::w)||E.is n (a::p)||E.is n (b::q))=true):n < E.l.length:=CS zL h
theorem lO {n:Nat}{x:UInt8}{w:List UInt8}{b:Bool} (h:(b&&E.is n (x::w))=true):n < E.l.length:=gA ((Bz _ _ ▸ h).2)
theorem OJ {n:Nat}{x:UInt8}{w:List UInt8}{b:Bool} (h:(E.is n (x::w)&&b)=true):n < E.l.length:=gA ((Bz _ _ ▸ h).1)
theorem cH {n:Nat} (h:E.literal n=true):n < E.l.length:=by
 exact zdi
theorem YG {n:Nat} (h:assigns (E.word n)=true):n < E.l.length:=by
 exact zdz
theorem zV {n least:Nat} (hl:1<=least) (h:¬ DD (E.word n) < least):n < E.l.length:=by
 apply Ap;intro hn;rw [AG Cs] at h;have:DD []=0:=rfl;omega
theorem vR (x:UInt8) (w:List UInt8) (y:UInt8) (v:List UInt8) (n:Nat):xA E.l.length (n+1) (want E (x::w) (after E (y::v) n)):=by
 refine (aF x w _).low ?_;unfold after;split <;> omega
theorem dG {n:Nat} (h:E.named n=true):n < E.l.length:=by
 exact zch
theorem gL (h:vG E S k) (n:Nat) (fr:Nat) (x:Tr) (acc:List Tr) (g:Bool) (hn:n<=E.l.length) (hk:20*(E.l.length - n)+1 < k+1):xA E.l.length (n+1) (fC E S fr x acc n g):=by
 unfold fC;refine xA.ite (fun hc=>?_) (fun _=>?_)
 ·have hx:=OJ hc;refine xA.andThen (h.t .expr (n+1) g (DA rfl Cs) Dk) (fun y m h1 h2=>?_);replace h1:=UC rfl h1;exact (h.t (.indexMore fr x (acc++[y])) m g (DA rfl Cs) Dk).low (UF Cs)
 ·refine xA.andThen (vR _ _ _ _ _) (fun _ m h1 h2=>xA.ok h1 h2)
theorem tH (h:vG E S k) (n:Nat) (fr:Nat) (first:Tr) (s:Option Tr) (tag:Tr) (g:Bool) (hn:n<=E.l.length) (hk:20*(E.l.length - n)+10 < k+1):xA E.l.length (n+1) (qB E S fr first s tag n g):=by
 unfold qB only
 try simp only [oA,mA,PA,zA]
 repeat' first
  | exact xA.bad
  | (refine xA.ok ?_ ?_ <;> omega)
  | rw [mA]
  | rw [PA]
  | exact (gI _).low Cs
  | exact (TE _).low Cs
  | (refine xA.ite (fun hc=>?_) (fun hc=>?_) <;> first|(have hx:=gA hc)|(have hx:=vL hc)|(have hx:=EL hc)|(have hx:=zL hc)|(have hx:=vO hc)|(have hx:=lO hc)|(have hx:=OJ hc)|(have hx:=cH hc)|(have hx:=YG hc)|skip)
  | (refine xA.andThen (aF _ _ _) (fun _ m h1 h2=>?_))
  | (refine jI (fun _ hc=>?_);have hx:=dG hc)
  | (refine xA.andThen (TE _) (fun _ m h1 h2=>?_))
  | (refine xA.andThen (YI Cs) (fun _ m h1 h2=>?_))
  | (refine xA.andThen (eI h _ _ _ _ _ _ _ _ _ Cs) (fun _ m h1 h2=>?_))
  | (refine xA.andThen (h.t _ _ _ Dg Dk) (fun _ m h1 h2=>?_);(first|replace h1:=UC rfl h1|replace h1:=aJ h1))
  | (refine xA.low (h.t _ _ _ Dg Dk) ?_;first|exact UF (Cs)|(rw [bI rfl];omega))
  | (split <;> first|(rename_i hc;have hx:=gA hc)|skip)
theorem aG (h:vG E S k) (n:Nat) (fr:Nat) (first:Tr) (g:Bool) (hn:n<=E.l.length) (hk:20*(E.l.length - n)+10 < k+1):xA E.l.length (n+1) (nB E S fr first n g):=by
 unfold nB qB only
 try simp only [oA,mA,PA,zA]
 repeat' first
  | exact xA.bad
  | (refine xA.ok ?_ ?_ <;> omega)
  | rw [mA]
  | rw [PA]
  | exact (gI _).low Cs
  | exact (TE _).low Cs
  | (refine xA.ite (fun hc=>?_) (fun hc=>?_) <;> first|(have hx:=gA hc)|(have hx:=vL hc)|(have hx:=EL hc)|(have hx:=zL hc)|(have hx:=vO hc)|(have hx:=lO hc)|(have hx:=OJ hc)|(have hx:=cH hc)|(have hx:=YG hc)|skip)
  | (refine xA.andThen (aF _ _ _) (fun _ m h1 h2=>?_))
  | (refine jI (fun _ hc=>?_);have hx:=dG hc)
  | (refine xA.andThen (TE _) (fun _ m h1 h2=>?_))
  | (refine xA.andThen (YI Cs) (fun _ m h1 h2=>?_))
  | (refine xA.andThen (eI h _ _ _ _ _ _ _ _ _ Cs) (fun _ m h1 h2=>?_))
  | (refine xA.andThen (h.t _ _ _ Dg Dk) (fun _ m h1 h2=>?_);(first|replace h1:=UC rfl h1|replace h1:=aJ h1))
  | (refine xA.low (h.t _ _ _ Dg Dk) ?_;first|exact UF (Cs)|(rw [bI rfl];omega))
  | (split <;> first|(rename_i hc;have hx:=gA hc)|skip)
theorem BM (h:vG E S k) (n:Nat) (g:Bool) (hn:n < E.l.length) (hk:20*(E.l.length - n)+1 < k+1):xA E.l.length (n+1) (qC E S n g):=by
 unfold qC;refine xA.ite (fun hc=>?_) (fun _=>xA.ite (fun hc=>?_) (fun _=>?_))
 ·have hx:=gA hc;exact (tH h (n+1) _ _ _ _ g Cs Cs).low Cs
 ·have hx:=gA hc;exact (aG h (n+2) _ _ g Cs Cs).low Cs
 ·refine xA.andThen (h.t _ _ _ (DA rfl Cs) Dk) (fun s m h1 h2=>?_);replace h1:=UC rfl h1;refine xA.ite (fun hc=>?_) (fun _=>?_)
  ·have hx:=gA hc;exact (aG h (m+1) _ _ g Cs Cs).low Cs
  ·exact (tH h m _ _ _ _ g Cs Cs).low Cs
theorem oO (h:vG E S k) (n:Nat) (least fr:Nat) (x:Tr) (g:Bool) (hl:1<=least) (hn:n<=E.l.length) (hk:20*(E.l.length - n)+1 < k+1):xA E.l.length n (uD E S least fr x n g):=by
 unfold uD;refine xA.ite (fun _=>xA.ok (C' _) hn) (fun hc=>?_);have hx:=zV hl hc;refine xA.andThen (h.t (.binary (DD (E.word n)+1)) (n+1) g (DA rfl Cs (show decide (1<=DD (E.word n)+1)=true from decide_eq_true Cs)) Dk) (fun y m h1 h2=>?_);replace h1:=UC rfl h1;exact (h.t (.binMore least fr _) m g (DA rfl Cs (show decide (1<=least)=true from decide_eq_true hl)) Dk).low (UF Cs)
theorem OR (h:vG E S k) (a:UInt8) (mk:List UInt8) (b:UInt8) (s:List UInt8) (o:One) (acc:List Tr) (word:Int) (n:Nat) (g:Bool) (hn:n<=E.l.length) (hk:20*(E.l.length - n)+11 < k+1):xA E.l.length n (LF E S (a::mk) (b::s) o acc word n g):=by
 unfold LF;refine xA.ite (fun _=>xA.ok (C' _) hn) (fun _=>?_);have tail:∀ (p:Tr × Int) (m:Nat),n+1<=m->m<=E.l.length->xA E.l.length n (if E.is m (b::s) then S.l (a::mk) (b::s) o (acc++[p.1]) p.2 m g else (want E (a::mk) m).andThen fun _ n2=>S.l (a::mk) (b::s) o (acc++[p.1]) p.2 n2 g):=by
  intro p m h1 h2;refine xA.ite (fun _=>(h.l _ _ _ _ _ _ _ _ _ h2 Cs).low Cs) (fun _=>?_);refine xA.andThen (aF _ _ _) (fun _ m2 h3 h4=>?_);exact (h.l _ _ _ _ _ _ _ _ _ h4 Cs).low Cs
 by_cases ho:o=.call
 ·subst ho;simp only [];refine xA.andThen (lo:=n+1) ?_ (fun p m h1 h2=>tail p m h1 h2);refine xA.ite (fun _=>xA.bad) (fun _=>?_);refine xA.andThen (h.t .expr n g (DA rfl hn) Dk) (fun x m h1 h2=>?_);replace h1:=UC rfl h1;exact xA.ite (fun hc=>xA.ok Cs (by have:=gA hc;omega)) (fun _=>xA.ok h1 h2)
 ·have e:∀ r1 r2:R (Tr × Int),(match o with|.call=>r1|_=>r2)=r2:=by intro r1 r2;cases o <;> first|rfl|exact absurd rfl ho
  have hone:xA E.l.length (n+1) ((S.t (.one o) n g).andThen fun x n1=>(R.ok (x,word) n1:R (Tr × Int))):=by
   refine xA.andThen (h.t (.one o) n g (DA rfl hn) Dk) (fun x m h1 h2=>?_);exact xA.ok (UC rfl h1) h2
  refine xA.andThen (lo:=n+1) ?_ (fun p m h1 h2=>tail p m h1 h2);cases o <;> first|exact hone|exact absurd rfl ho
end
section
def arT (k:UInt8):Nat × Bool :=
 if k.toNat < 69 then [(0,false),(3,false),(0,true),(1,false),(0,true),(2,false),(3,false),(3,false),(5,false),(2,false),(1,true),(0,true),(0,true),(0,true),(0,true),(2,false),(1,true),(2,false),(1,true),(1,false),(0,true),(3,false),(2,false),(0,true),(2,false),(0,true),(0,false),(0,false),(1,false),(2,false),(2,false),(4,false),(2,false),(1,false),(2,false),(1,false),(1,false),(2,false),(2,false),(2,false),(2,false),(2,false),(1,false),(1,false),(2,false),(1,false),(1,false),(1,false),(1,false),(0,false),(1,false),(2,false),(1,false),(2,false),(1,false),(1,false),(1,false),(1,false),(1,false),(4,false),(3,false),(4,false),(2,false),(1,false),(2,false),(4,false),(3,false),(2,false),(1,false)].getD k.toNat (0,false) else (0,false)
def okN (k:UInt8) (n:Nat):Bool:=n==(arT k).1||((arT k).2&&decide ((arT k).1<=n))
mutual
def Sh:Tr->Prop
 | .mk k _ _ _ ks=>okN k ks.length=true/\Shs ks
def Shs:List Tr->Prop
 | []=>True
 | t::ts=>Sh t/\Shs ts
end
theorem Shs.append:∀ {a b:List Tr},Shs a->Shs b->Shs (a++b)
 | [],_,_,h=>h
 | _::_,_,⟨h1,h2⟩,h=>⟨h1,Shs.append h2 h⟩
theorem Shs.snoc {a:List Tr}{t:Tr} (h:Shs a) (ht:Sh t):Shs (a++[t]):=Shs.append h ⟨ht,trivial⟩
theorem Shs.mem:∀ {a:List Tr}{t:Tr},Shs a->t∈a->Sh t
 | _::_,_,⟨h1,h2⟩,h=>by
  rcases List.mem_cons.1 h with rfl|h
  ·exact h1
  ·exact Shs.mem h2 h
theorem Sh.kids {t:Tr} (h:Sh t):Shs t.kids:=by obtain⟨k,w,f,n,ks⟩:=t;exact h.2
theorem Sh.arity {t:Tr} (h:Sh t):okN t.kind t.kids.length=true:=by obtain⟨k,w,f,n,ks⟩:=t;exact h.1
theorem Sh.list {k:UInt8}{ks:List Tr}{n:Nat} (h:Shs ks) (hk:okN k ks.length=true):Sh (xC k ks n):=by
 cases ks with
 | nil=>exact⟨hk,trivial⟩
 | cons a b=>exact⟨hk,h⟩
theorem SK {k:UInt8} (h:arT k=(0,true)) (n:Nat):okN k n=true:=by unfold okN;rw [h];simp
theorem IF {k:UInt8} (h:arT k=(1,true)) {n:Nat} (hn:1<=n):okN k n=true:=by unfold okN;rw [h];simp;omega
def OkT (r:R Tr):Prop:=∀ a m,r=.ok a m->Sh a
def OkP (k:Nat) (r:R (List Tr × Int)):Prop:=∀ a m,r=.ok a m->Shs a.1/\k<=a.1.length
theorem OkT.bad {k:Nat}:OkT (.bad k):=fun _ _ h=>Do
theorem OkT.ok {a:Tr}{m:Nat} (h:Sh a):OkT (.ok a m):=fun _ _ e=>Iv
theorem OkP.bad {k j:Nat}:OkP j (.bad k):=fun _ _ h=>Do
theorem OkP.ok {a:List Tr × Int}{m j:Nat} (h:Shs a.1) (hl:j<=a.1.length):OkP j (.ok a m):=fun _ _ e=>by cases e;exact⟨h,hl⟩
theorem OkT.ite {c:Prop} [Decidable c] {a b:R Tr} (h1:OkT a) (h2:OkT b):OkT (if c then a else b):=Ij
theorem OkP.ite {c:Prop} [Decidable c] {j:Nat}{a b:R (List Tr × Int)} (h1:OkP j a) (h2:OkP j b):OkP j (if c then a else b):=Ij
theorem OkP.low {j i:Nat}{r:R (List Tr × Int)} (h:OkP j r) (hi:i<=j):OkP i r:=fun a m e=>⟨(h a m e).1,An hi (h a m e).2⟩
theorem OkT.sub {r:R Tr}{f:Tr->Nat->R Tr} (h:OkT r) (hf:∀ a m,Sh a->OkT (f a m)):OkT (r.andThen f):=by
 cases r with
 | ok a m=>exact hf a m (h a m rfl)
 | bad k=>exact OkT.bad
 | out=>exact fun _ _ h=>Do
theorem OkT.subP {r:R (List Tr × Int)}{j:Nat}{f:List Tr × Int->Nat->R Tr} (h:OkP j r) (hf:∀ a m,Shs a.1->j<=a.1.length->OkT (f a m)):OkT (r.andThen f):=by
 cases r with
 | ok a m=>exact hf a m (h a m rfl).1 (h a m rfl).2
 | bad k=>exact OkT.bad
 | out=>exact fun _ _ h=>Do
theorem OkT.want {E:Env}{w:List UInt8}{n:Nat}{f:Unit->Nat->R Tr} (hf:∀ m,OkT (f () m)):OkT ((want E w n).andThen f):=by
 unfold Go.Proofs.YtjdllofmhglmiaaGreatDoor.want;split
 ·exact hf _
 ·exact OkT.bad
theorem OkP.want {E:Env}{w:List UInt8}{n j:Nat}{f:Unit->Nat->R (List Tr × Int)} (hf:∀ m,m=n+1->OkP j (f () m)):OkP j ((want E w n).andThen f):=by
 unfold Go.Proofs.YtjdllofmhglmiaaGreatDoor.want;split
 ·exact hf _ rfl
 ·exact OkP.bad
theorem UK {k:UInt8}{ok:Bool}{n:Nat} (h:okN k 0=true):OkT (leaf k ok n):=by
 unfold leaf;exact OkT.ite (OkT.ok ⟨h,trivial⟩) OkT.bad
theorem FK {E:Env}{n:Nat}:OkT (LC E n):=UK Ct
theorem ML {E:Env}{n:Nat}:OkT (TH E n):=UK Ct
theorem RU {E:Env}{n:Nat}:OkT (zH E n):=by unfold zH;exact OkT.ite ML (OkT.ok ⟨Db,trivial⟩)
def shF:F->Prop
 | .fileImports a b=>Sh a/\Shs b|.fileDecls a b c=>Sh a/\Sh b/\Shs c
 | .namesMore a=>Shs a/\a≠[]|.unionMore a=>Shs a|.members k _=>arT k=(0,true)
 | .exprsMore a=>Shs a|.typesMore a=>Shs a|.binMore _ _ x=>Sh x|.primMore _ x=>Sh x|.dot _ x=>Sh x|.call _ x=>Sh x|.index _ x=>Sh x
 | .indexMore _ x a=>Sh x/\Shs a|.slice _ x lo=>Sh x/\Sh lo|.stmtsMore a=>Shs a|.rest _ l=>Sh l|.clauses k _=>okN k 2=true|.clausesMore k _ a=>okN k 2=true/\Shs a|.overall _ _ l=>Sh l
 | _=>True
def more (E:Env) (n:Nat) (shut:List UInt8):Nat:=if E.is n shut then 0 else 1
structure SOk (E:Env) (S:AB):Prop where
 t:∀ f n g,shF f->OkT (S.t f n g)
 l:∀ mark shut o acc word n g,Shs acc->OkP (acc.length+more E n shut) (S.l mark shut o acc word n g)
variable {E:Env}{S:AB}
theorem TN (H:SOk E S) (a b c:List UInt8) (o:One) (n:Nat) (g:Bool):OkP (more E (n+1) c) (rows E S a b c o n g):=by
 unfold rows;exact OkP.want fun m hm=>(by subst hm;exact (H.l b c o [] (-1) _ g trivial).low Cu)
theorem fB {k:UInt8}{n:Nat} (h:okN k 0=true):Sh (vA k n):=⟨h,trivial⟩
theorem AW (H:SOk E S) {fr:Nat}{left:Tr} (h1:Sh left) (n:Nat) (g:Bool):OkT (WF E S fr left n g):=by
 unfold WF;refine OkT.ite (OkT.sub (H.t .exprs _ _ trivial) (fun a m ha=>OkT.ok ⟨Db,h1,ha,trivial⟩)) ?_;split
 ·rename_i x hx;have hs:Sh x:=Shs.mem h1.kids Ej;refine OkT.ite (OkT.ok ⟨Db,hs,trivial⟩) (OkT.ite (OkT.sub (H.t .expr _ _ trivial) (fun a m ha=>OkT.ok ⟨Db,hs,ha,trivial⟩)) (OkT.ok ⟨Db,hs,trivial⟩))
 ·exact OkT.bad
theorem RN {s:Tr} (h:Sh s) (n:Nat):OkT (only s n):=by
 unfold only;refine OkT.ite ?_ OkT.bad;split
 ·rename_i x r hx;exact OkT.ok (Shs.mem h.kids Ej)
 ·exact OkT.bad
theorem II (H:SOk E S) {fr:Nat}{a b:Tr} (h1:Sh a) (h2:Sh b) (n:Nat) (g:Bool):OkT (SD E S fr a b n g):=by
 unfold SD;simp only [oA,mA];refine OkT.sub (H.t .block _ _ trivial) (fun c m hc=>?_);refine OkT.ite (OkT.ite (OkT.sub (H.t .ifs _ _ trivial) (fun d m hd=>OkT.ok ⟨Db,h1,h2,hc,hd,trivial⟩)) (OkT.sub (H.t .block _ _ trivial) (fun d m hd=>OkT.ok ⟨Db,h1,h2,hc,hd,trivial⟩))) (OkT.ok ⟨Db,h1,h2,hc,fB Ct,trivial⟩)
theorem oY (H:SOk E S) (n:Nat) (g:Bool):OkT (XI E S n g):=by
 unfold XI;refine OkT.ite (OkT.sub (H.t .expr _ _ trivial) (fun a m ha=>II H (fB Ct) ha _ _)) (OkT.sub (H.t .simple _ _ trivial) (fun s m hs=>OkT.ite (OkT.sub (H.t .expr _ _ trivial) (fun a m ha=>II H hs ha _ _)) (OkT.sub (RN hs _) (fun a m ha=>II H (fB Ct) ha _ _))))
theorem DV {s a b:Tr} (h:Sh s) (he:asked E s=some (a,b)):Sh a/\Sh b:=by
 unfold asked at he;split at he
 ·rename_i x hk hx;have hs:Sh x:=Shs.mem h.kids Ej;split at he
  ·rename_i y h33 hy;cases he;exact⟨fB (k:=0) (n:=s.fr) Ct,Shs.mem hs.kids G4⟩
  ·cases he
 ·rename_i l r hk hx;have hl:Sh l:=Shs.mem h.kids Ej;have hr:Sh r:=Shs.mem h.kids Ej;split at he
  ·split at he
   ·rename_i c d hc hd;have h1:Sh c:=Shs.mem hl.kids (by rw [hc];simp);have h2:Sh d:=Shs.mem hr.kids Hy;split at he
    ·split at he
     ·rename_i y hy;cases he;exact⟨h1,Shs.mem h2.kids G4⟩
     ·cases he
    ·cases he
   ·cases he
  ·cases he
 ·cases he
theorem jF (H:SOk E S) {fr:Nat}{a t:Tr}{s:Option Tr} (h1:Sh a) (h2:Sh t) (h3:∀ x,s=some x->Sh x) (n:Nat) (g:Bool):OkT (qB E S fr a s t n g):=by
 unfold qB;cases s with
 | none=>exact OkT.sub (H.t (.clauses 62 1) _ _ (show okN 62 2=true from Ct)) (fun c m hc=>OkT.ok ⟨Db,h1,h2,hc,trivial⟩)
 | some s =>
  have hs:=h3 s rfl
  show OkT (match asked E s with|some (name,x)=>_|none=>_)
  cases he:asked E s with
  | none=>exact OkT.sub (RN hs _) (fun t2 m ht=>OkT.sub (H.t (.clauses 62 1) _ _ (show okN 62 2=true from Ct)) (fun c m hc=>OkT.ok ⟨Db,h1,ht,hc,trivial⟩))
  | some p =>
   obtain⟨x,y⟩:=p;obtain⟨hx,hy⟩:=DV hs he;exact OkT.sub (H.t (.clauses 62 2) _ _ (show okN 62 2=true from Ct)) (fun c m hc=>OkT.ok ⟨Db,h1,hx,hy,hc,trivial⟩)
theorem pH (H:SOk E S) {fr:Nat}{a:Tr} (h1:Sh a) (n:Nat) (g:Bool):OkT (nB E S fr a n g):=by
 unfold nB;exact OkT.ite (jF H h1 (fB Ct) (fun _ h=>Do) _ _) (OkT.sub (H.t .simple _ _ trivial) (fun s m hs=>jF H h1 (fB Ct) (fun _ h=>Jw) _ _))
theorem aQ (H:SOk E S) (n:Nat) (g:Bool):OkT (qC E S n g):=by
 unfold qC;refine OkT.ite (jF H (fB Ct) (fB Ct) (fun _ h=>Do) _ _) (OkT.ite (pH H (fB Ct) _ _) (OkT.sub (H.t .simple _ _ trivial) (fun s m hs=>OkT.ite (pH H hs _ _) (jF H (fB Ct) (fB Ct) (fun _ h=>Jw) _ _))))
theorem AK (H:SOk E S) {fr:Nat}{a:Tr} (h1:Sh a) (n:Nat) (g:Bool):OkT (kD E S fr a n g):=by
 unfold kD;simp only [oA,mA];refine OkT.want (fun m=>?_);refine OkT.ite (OkT.want (fun m=>?_)) (OkT.sub (H.t .expr _ _ trivial) (fun c m hc=>OkT.want (fun m=>?_)))
 ·exact OkT.ite (OkT.sub (H.t .block _ _ trivial) (fun b m hb=>OkT.ok ⟨Db,h1,fB Ct,fB Ct,hb,trivial⟩)) (OkT.sub (H.t .simple _ _ trivial) (fun d m hd=>OkT.sub (H.t .block _ _ trivial) (fun b m hb=>OkT.ok ⟨Db,h1,fB Ct,hd,hb,trivial⟩)))
 ·exact OkT.ite (OkT.sub (H.t .block _ _ trivial) (fun b m hb=>OkT.ok ⟨Db,h1,hc,fB Ct,hb,trivial⟩)) (OkT.sub (H.t .simple _ _ trivial) (fun d m hd=>OkT.sub (H.t .block _ _ trivial) (fun b m hb=>OkT.ok ⟨Db,h1,hc,hd,hb,trivial⟩)))
theorem sX (H:SOk E S) (n:Nat) (g:Bool):OkT (fG E S n g):=by
 unfold fG;refine OkT.ite (OkT.sub (H.t .block _ _ trivial) (fun b m hb=>OkT.ok ⟨Db,fB Ct,fB Ct,fB Ct,hb,trivial⟩)) ?_;refine OkT.ite (H.t (.overall _ _ _) _ _ (show Sh _ from fB Ct)) (OkT.ite (AK H (fB Ct) _ _) ?_);refine OkT.sub (H.t .exprs _ _ trivial) (fun l m hl=>?_);refine OkT.ite (H.t (.overall _ _ l) _ _ hl) (OkT.sub (H.t (.rest _ l) _ _ hl) (fun s m hs=>?_));exact OkT.ite (AK H hs _ _) (OkT.sub (RN hs _) (fun x m hx=>OkT.sub (H.t .block _ _ trivial) (fun b m hb=>OkT.ok ⟨Db,fB Ct,hx,fB Ct,hb,trivial⟩)))
theorem QR (H:SOk E S) (n:Nat) (g:Bool):OkT (XC E S n g):=by
 unfold XC;split
 ·exact OkT.bad
 ·rename_i c;refine OkT.subP (TN H _ _ _ _ _ _) (fun a m ha hl=>?_);unfold more at hl;rw [Bc c] at hl;exact OkT.want (fun m=>OkT.ok ⟨IF Db hl,ha⟩)
theorem lV (H:SOk E S) (mark shut:List UInt8) (o:One) (acc:List Tr) (word:Int) (n:Nat) (g:Bool) (h:Shs acc):OkP (acc.length+more E n shut) (LF E S mark shut o acc word n g):=by
 unfold LF more;split
 ·exact OkP.ok h (C' _)
 have key:∀ r:R (Tr × Int),(∀ p m,r=.ok p m->Sh p.1)->OkP (acc.length+1) (r.andThen fun p n1=>if E.is n1 shut then S.l mark shut o (acc++[p.1]) p.2 n1 g else (want E mark n1).andThen fun _ n2=>S.l mark shut o (acc++[p.1]) p.2 n2 g):=by
  intro r hr;cases r with
  | ok p m =>
   have hp:=Shs.snoc h (hr p m rfl);have hl:∀ m,OkP (acc.length+1) (S.l mark shut o (acc++[p.1]) p.2 m g):=fun m=>(H.l _ _ _ _ _ _ _ hp).low Cu
   exact OkP.ite (hl _) (OkP.want fun m _=>hl m)
  | bad k=>exact OkP.bad
  | out=>exact fun _ _ h=>Do
 refine key _ ?_;have sub:∀ (r:R Tr) (f:Tr->Nat->R (Tr × Int)),OkT r->(∀ a m,Sh a->∀ p m',f a m=.ok p m'->Sh p.1)->∀ p m,r.andThen f=.ok p m->Sh p.1:=by
  exact zc4
 have plain:∀ o':One,∀ p m,((S.t (.one o') n g).andThen fun x n1=>(.ok (x,word) n1:R (Tr × Int)))=.ok p m->Sh p.1 :=
  fun o'=>sub _ _ (H.t _ _ _ trivial) (fun a m ha p m' e=>by cases e;exact ha)
 cases o
 case call =>
  intro p m e;have e':(if 0<=word then (R.bad n:R (Tr × Int)) else (S.t .expr n g).andThen fun x n1=>if E.is n1 [46,46,46] then .ok (x,(n1:Int)) (n1+1) else .ok (x,word) n1)=.ok p m:=e;split at e'
  ·cases e'
  ·refine sub _ _ (H.t .expr n g trivial) (fun a m ha p m' e=>?_) p m e';split at e <;> (cases e;exact ha)
 all_goals exact plain _
theorem CX (H:SOk E S):SOk E (step E S):=by
 refine⟨fun f n g hf=>?_,fun mark shut o acc word n g h=>lV H mark shut o acc word n g h⟩
 show OkT (DF E S f n g)
 cases f
 case rest=>exact AW H hf n g
 case ifs=>exact oY H n g
 case switches=>exact aQ H n g
 case fors=>exact sX H n g
 case tparams=>exact QR H n g
 case exprs=>exact OkT.sub (H.t .expr n g trivial) (fun x m hx=>H.t (.exprsMore [x]) _ _ ⟨hx,trivial⟩)
 case types=>exact OkT.sub (H.t .typ n g trivial) (fun x m hx=>H.t (.typesMore [x]) _ _ ⟨hx,trivial⟩)
 case binary=>exact OkT.sub (H.t .unary n g trivial) (fun x m hx=>H.t (.binMore _ n x) _ _ hx)
 case primary=>exact OkT.sub (H.t .operand n g trivial) (fun x m hx=>H.t (.primMore n x) _ _ hx)
 case simple=>exact OkT.sub (H.t .exprs n g trivial) (fun x m hx=>H.t (.rest n x) _ _ hx)
 case stmts=>exact H.t (.stmtsMore []) n false trivial
 case one o =>
  cases o
  all_goals (
   (try simp only [shF] at hf)
   (first|obtain⟨h1,h2,h3⟩:=hf|obtain⟨h1,h2⟩:=hf|skip)
   simp only [DF,EF,lB,eC,CE,uB,LB,IB,rC,fnB,NB,XD,NE,RD,OD,XB,jB,tI,NJ,CB,nC,WE,kG,ZB,cC,uD,FE,PC,DC,SJ,bG,sE,fC,UE,OB,QC,QE,dC,EE,ZC,lC,aD,oC,UD,dD,cD,rD,mB,PE,wrapT,mC,nH,oA,mA,PA,zA]
   repeat' (first|exact OkT.bad|refine OkT.ite ?_ ?_|refine OkT.want (fun m=>?_)|refine OkT.sub FK (fun a m ha=>?_)|refine OkT.sub ML (fun a m ha=>?_)|refine OkT.sub RU (fun a m ha=>?_)|refine OkT.subP (TN H _ _ _ _ _ _) (fun a m ha _=>?_)|refine OkT.sub (H.t _ _ _ ?_) (fun a m ha=>?_)|exact FK|exact ML|exact UK (Ct)|refine H.t _ _ _ ?_|refine OkT.ok ?_)
   all_goals (try simp only [shF])
   all_goals first|trivial|assumption|exact⟨Dt,Dt⟩|exact⟨Dt,Dt,Dt⟩|skip
   all_goals (repeat' (first|assumption|exact trivial|exact Shs.snoc ‹_› ‹_›|exact Shs.snoc ‹_› (fB Ct)|exact fB (Ct)|exact Sh.list ‹_› (SK Ff _)|exact Sh.list ‹_› (IF Db (List.length_pos_iff.2 ‹_›))|exact Sh.list (Shs.snoc ‹_› ‹_›) (IF Db Cu)|exact SK Db _|(show okN _ _=true;first|assumption|rfl|decide)|(show _++_≠[];simp)|exact List.cons_ne_nil _ _|exact Shs.snoc ‹_› ⟨Ff,Dt,trivial⟩|exact Shs.snoc ‹_› ⟨Ff,Iy,Dt,trivial⟩|exact Sh.list (Shs.snoc ‹_› ⟨Db,Dt,trivial⟩) (IF Db Cu)|(split <;> rfl)|refine⟨?_,?_⟩)))
 all_goals (
  (try simp only [shF] at hf)
  (first|obtain⟨h1,h2,h3⟩:=hf|obtain⟨h1,h2⟩:=hf|skip)
  simp only [DF,EF,lB,eC,CE,uB,LB,IB,rC,fnB,NB,XD,NE,RD,OD,XB,jB,tI,NJ,CB,nC,WE,kG,ZB,cC,uD,FE,PC,DC,SJ,bG,sE,fC,UE,OB,QC,QE,dC,EE,ZC,lC,aD,oC,UD,dD,cD,rD,mB,PE,wrapT,mC,nH,oA,mA,PA,zA]
  repeat' (first|exact OkT.bad|refine OkT.ite ?_ ?_|refine OkT.want (fun m=>?_)|refine OkT.sub FK (fun a m ha=>?_)|refine OkT.sub ML (fun a m ha=>?_)|refine OkT.sub RU (fun a m ha=>?_)|refine OkT.subP (TN H _ _ _ _ _ _) (fun a m ha _=>?_)|refine OkT.sub (H.t _ _ _ ?_) (fun a m ha=>?_)|exact FK|exact ML|exact UK (Ct)|refine H.t _ _ _ ?_|refine OkT.ok ?_)
  all_goals (try simp only [shF])
  all_goals first|trivial|assumption|exact⟨Dt,Dt⟩|exact⟨Dt,Dt,Dt⟩|skip
  all_goals (repeat' (first|assumption|exact trivial|exact Shs.snoc ‹_› ‹_›|exact Shs.snoc ‹_› (fB Ct)|exact fB (Ct)|exact Sh.list ‹_› (SK Ff _)|exact Sh.list ‹_› (IF Db (List.length_pos_iff.2 ‹_›))|exact Sh.list (Shs.snoc ‹_› ‹_›) (IF Db Cu)|exact SK Db _|(show okN _ _=true;first|assumption|rfl|decide)|(show _++_≠[];simp)|exact List.cons_ne_nil _ _|exact Shs.snoc ‹_› ⟨Ff,Dt,trivial⟩|exact Shs.snoc ‹_› ⟨Ff,Iy,Dt,trivial⟩|exact Sh.list (Shs.snoc ‹_› ⟨Db,Dt,trivial⟩) (IF Db Cu)|(split <;> rfl)|refine⟨?_,?_⟩)))
theorem ZF (E:Env):∀ k,SOk E (spec E k)
 | 0=>⟨fun _ _ _ _=>fun _ _ h=>Do,fun _ _ _ _ _ _ _ _=>fun _ _ h=>Do⟩
 | k+1=>CX (ZF E k)
end
