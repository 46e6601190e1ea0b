/-
  inspect.index, Concerned.
-/
import Derived.Maps.OwnSet
import Derived.Test.YtggejcekmehocaaGreatDoorGbd
import Derived.Test.YtggejcekmehocaaGreatDoorGbb
import Derived.Test.YtggejcekmehocaaGreatDoorGac
namespace Go.Proofs.YtggejcekmehocaaGreatDoor
set_option maxHeartbeats 8000000
set_option maxRecDepth 100000
open Go.RowKit Go.Maps
set_option linter.unusedSimpArgs false
set_option linter.unusedVariables false
theorem index29_any (w:World)(A:Option Addr)(n c:Nat)(cols:List Col)(hx:In w A n c cols)(A2:Option Addr)(n2 c2:Nat)(names:List ByteArray)(hy:In w A2 n2 c2 names)(A3:Option Addr)(n3 c3:Nat)(rows:List Ent)(hz:In w A3 n3 c3 rows)(hn:n<=1048576)(hn2:n2<=4096)(hn3:n3<=4096):
  Calls Tryz.prog 53 #[.slice A n c,.slice A2 n2 c2,.slice A3 n3 c3] w
   λe w'=>(∃b,e=.returned (.map (some b))/\w.heap.size<=b/\StrM Tryz.prog 9 w' b n3 (.bool false) (λs=>.bool (hasT cols names rows s)))/\Below w.heap.size w w':=by
 have h63:=hz.le
 have hmm:=@run_makeMap Tryz.prog
 have HRL:=hide hz.len
 have HM0:=hide (StrM.made Tryz.prog 9 w (.bool false))
 have HB0:Hid (Below w.heap.size w (w.alloc (.map #[] 0))):=hide below_alloc
 go_enter Tryz.func53,Tryz.ntmps53
 have HX:=hide hx
 clear hx
 have HY:=hide hy
 clear hy
 have HZ:=hide hz
 clear hz
 go_wp2
 go_loopg [13] n3 (λleft i wr=> ∃k:Nat,k+left=n3/\i=.int .i64 k/\StrM Tryz.prog 9 wr w.heap.size k (.bool false) (λs=>.bool (hasT cols names (rows.take k) s))/\Below w.heap.size w wr)
 case atStart=>exact ⟨0,by omega,rfl,HM0.out,HB0.out⟩
 case round=>
  obtain ⟨k,hk,rfl,hm,hb⟩:=hrel
  have HM:=hide hm
  clear hm
  have SG1:=hide hb
  clear hb
  by_cases hlt:k<n3
  ·obtain ⟨b,off,x,rfl,hBb0,HXX,Ax,An,Ac,e0,e1,e2,e3⟩:=(HZ.out.below SG1.out).ent hlt
   have k0:(0:Int)<=(k:Int):=by omega
   have k1:(k:Int)<(n3:Int):=by omega
   obtain ⟨T,hT⟩: ∃T,textS (pickN cols names x.row)=T:=⟨_,rfl⟩
   have HTS:=hide (textS_size (pickN cols names x.row))
   rw[hT]at HTS
   have HT:=hide hT
   have HTX:=hide λW h1 h2 h3=>text29_any W A n c cols h1 A2 n2 c2 names h2 Ax An Ac x.row h3 hn hn2
   rw[hT]at HTX
   have HMB:Hid (w.heap.size<wr.heap.size):=hide HM.out.lt
   have HUP:Hid (∀V,V.heap[w.heap.size]?=wr.heap[w.heap.size]?-> ∃w2,(Instr.mapUpdate 95 (.map (some w.heap.size)) (.string T) (.bool true)).run Tryz.prog V=.ok () w2/\StrM Tryz.prog 9 w2 w.heap.size (k+1) (.bool false) (λs=>.bool (hasT cols names (rows.take (k+1)) s))/\V.grownBy w2 (some w.heap.size)):=hide λV hV=>by
    obtain ⟨w2,h1,h2,h3⟩:=(HM.out.same hV).update Tryz.underlying95 Tryz.underlying9 HTS.out (by simp only[maxLen];omega) (.bool true)
    refine ⟨w2,h1,h2.congr λs=>?_,h3⟩
    rw[take_snoc HXX.out,hasT_snoc,HT.out]
    by_cases hs:s=T
    ·subst hs;simp
    ·have hq:decide (T=s)=false:=by simpa using λq:T=s=>hs q.symm
     rw[if_neg hs,hq,Bool.or_false]
   clear hT
   have HE2:=hide e2
   clear e2
   go_upto_region 5 with (fail)
   obtain ⟨W2,hW2⟩: ∃W,W=wr.alloc (.cells #[.slice Ax An Ac,.int .i64 x.count] 61):=⟨_,rfl⟩
   obtain ⟨hbW2,SZW2,x0,x1⟩:=boxed2 hW2 rfl
   rw[<-hW2]
   clear hW2
   have SG2:=hide hbW2
   clear hbW2
   have LX:=lt_of_cell x0
   go_wp2_with fail
   have BC4:=hide (below_trans SG1.out SG2.out)
   refine (HTX.out _ (HX.out.below BC4.out) (HY.out.below BC4.out) (HE2.out.below SG2.out)).mono ?_
   rintro e w3 ⟨rfl,hb3⟩
   have o5:=bun2 x0 x1
   have SG6:=hide hb3
   clear hb3
   have hVb:w3.heap[w.heap.size]?=wr.heap[w.heap.size]?:=(below_trans SG2.out SG6.out).block _ HMB.out
   obtain ⟨w9,hup,hm9,hg9⟩:=HUP.out _ hVb
   have HM9:=hide hm9
   have HB9:=hide (Below.grown (below_trans (below_trans SG1.out SG2.out) SG6.out) hg9 (below_trans (below_trans SG1.out SG2.out) SG6.out).size (λk e=>by injection e with e;omega))
   clear hm9 hg9 hVb
   obtain ⟨LX,x0,x1⟩:=o5.out _ SG6.out
   go_wp2
   go_roundg (gk-1)
   case measure=>omega
   case rel=>exact ⟨k+1,by omega,by go_num,HM9.out,HB9.out⟩
  ·have HF:Hid (rows.take k=rows):=hide (List.take_of_length_le (by have:=HRL.out;omega))
   have HM2:=HM.out
   rw[HF.out]at HM2
   obtain rfl:k=n3:=by omega
   have HM2:=hide HM2
   have HBW:=hide SG1.out
   go_wp2
   go_ret
   exact ⟨⟨_,rfl,Nat.le_refl _,HM2.out⟩,HBW.out⟩
theorem StrM.len {P:Program}{t K e:TypeId}{w:World}{b n:Nat}{z:Value}{f:ByteArray->Value}(h:StrM P K w b n z f)(ht:P.underlying t=some (.map K e))(ty:TypeId):
  ∃L:Nat,(L=0-> ∀s,f s=z)/\ ∀V:World,V.heap[b]?=w.heap[b]?->(Builtin.len_ #[t] ty #[.map (some b)]).run P V=.ok (.int .i64 L) V:=by
 obtain ⟨D,h1,h2,h3⟩:=h
 refine ⟨Maps.size D,λh0 s=>?_,λV hV=>?_⟩
 ·obtain ⟨es,clock,_,_,_,rfl⟩:=h1
  have h4:=h3 s
  rw[Maps.size_eq]at h0
  rw[List.eq_nil_of_length_eq_zero h0]at h4
  exact (DataW.held.inj h4).symm
 ·obtain ⟨es,clock,k1,k2⟩:=h1
  exact World.ownsMap.len (w:=V) ⟨es,clock,hV.trans k1,k2⟩ ht ty
def concV (c:Chk)(rc oc:List Col)(rr orr:List Ent)(s:ByteArray):Bool:=if c.kind=0 then hasT rc c.cols rr s else if c.kind=3 then hasT oc c.ocols orr s else false
def concB (c:Chk)(rc oc:List Col)(rr orr:List Ent)(row:List Val):Bool:=cntF rr row != 0 || concV c rc oc rr orr (textS (pickN rc c.cols row))
def concS (c:Chk)(i:Insp)(rc oc:List Col)(rr orr:List Ent)(zs:List Zone):Int×List Ent:=
 if (applyS c i rc oc rr orr zs).1≠0 then ((applyS c i rc oc rr orr zs).1,[]) else (0,(applyS c i rc oc rr orr zs).2.1.rows.filter λy=>concB c rc oc rr orr y.row)
theorem add_bag0 {xs ys:List Ent}(h:(addS xs ys).1=0):ys.length<=4096:=by
 rw[addS]at h
 split at h
 ·exact absurd h (by assumption)
 ·split at h
  ·exact absurd h (by assumption)
  ·next h2=>exact bag_le (by simpa using h2)
theorem apply_lens {c:Chk}{i:Insp}{rc oc:List Col}{rr orr:List Ent}{zs:List Zone}(h:(applyS c i rc oc rr orr zs).1=0):rr.length<=4096/\(usesO c.kind=true->orr.length<=4096):=by
 have h1:(sumsS c i rr orr).1=0:=by
  rw[applyS]at h
  split at h
  ·exact absurd h (by assumption)
  ·next h1=>simpa using h1
 rw[sumsS]at h1
 split at h1
 ·exact absurd h1 (by assumption)
 ·next h2=>
  refine ⟨add_bag0 (by simpa using h2),λhu=>?_⟩
  rw[if_pos hu]at h1
  exact add_bag0 h1
theorem apply_len {c:Chk}{i:Insp}{rc oc:List Col}{rr orr:List Ent}{zs:List Zone}(h:(applyS c i rc oc rr orr zs).1=0):(applyS c i rc oc rr orr zs).2.1.rows.length<=4096:=by
 rw[applyS]at h⊢
 split at h
 ·exact absurd h (by assumption)
 ·next h1=>
  rw[if_neg h1]
  rw[applyT]at h⊢
  split at h
  ·exact absurd h (by assumption)
  ·next h2=>
   rw[if_neg h2]
   split at h
   ·exact absurd h (by assumption)
   ·next h3=>
    rw[if_neg h3]
    rw[buildS]at h2⊢
    split
    ·exact Nat.zero_le _
    ·next h4=>exact bag_le (tabErr_zero (all_zero (by simpa using h4)).2.1).1
theorem conc_any (w:World)(x:Chk)(A:Option Addr)(n c:Nat)(hn:In w A n c x.cols)(A':Option Addr)(n' c':Nat)(hn':In w A' n' c' x.ocols)(A'':Option Addr)(n'' c'':Nat)(hq:In w A'' n'' c'' x.cond)(hw:Words w)(i:Insp)(B7:Option Addr)(m7 d7:Nat)(hi7:In w B7 m7 d7 i.rows)(B8:Option Addr)(m8 d8:Nat)(hi8:In w B8 m8 d8 i.other)(B9:Option Addr)(m9 d9:Nat)(hi9:In w B9 m9 d9 i.viol)(rn:ByteArray)(A1:Option Addr)(n1 c1:Nat)(cols:List Col)(hc:In w A1 n1 c1 cols)(Ak:Option Addr)(nk ck:Nat)(A3:Option Addr)(n3 c3:Nat)(rows:List Ent)(hr:In w A3 n3 c3 rows)(on:ByteArray)(A2:Option Addr)(n2 c2:Nat)(ocols:List Col)(ho:In w A2 n2 c2 ocols)(Al:Option Addr)(nl cl:Nat)(A4:Option Addr)(n4 c4:Nat)(orows:List Ent)(hor:In w A4 n4 c4 orows)(A5:Option Addr)(n5 c5:Nat)(zs:List Zone)(hz:In w A5 n5 c5 zs)(hb0:n<=4096)(hb1:n'<=4096)(hb2:n1<=4096)(hb3:n2<=4096):
  Calls Tryz.prog 24 #[.agg (chkCells x A n c A' n' c' A'' n'' c'').toArray,.agg #[.slice B7 m7 d7,.slice B8 m8 d8,.slice B9 m9 d9],.agg #[.string rn,.slice A1 n1 c1,.slice Ak nk ck,.slice A3 n3 c3],.agg #[.string on,.slice A2 n2 c2,.slice Al nl cl,.slice A4 n4 c4],.slice A5 n5 c5] w
   λe w'=>(∃B m d,e=.returned (.tuple #[.slice B m d,.int .i64 (concS x i cols ocols rows orows zs).1])/\In w' B m d (concS x i cols ocols rows orows zs).2)/\Below w.heap.size w w':=by
 have HAP:=hide λW hn hn' hq hw hi7 hi8 hi9 hc hr ho hor hz=>applyI_any W x A n c hn A' n' c' hn' A'' n'' c'' hq hw i B7 m7 d7 hi7 B8 m8 d8 hi8 B9 m9 d9 hi9 rn A1 n1 c1 cols hc Ak nk ck A3 n3 c3 rows hr on A2 n2 c2 ocols ho Al nl cl A4 n4 c4 orows hor A5 n5 c5 zs hz hb0 hb1 hb2 hb3
 have HLE:=hide (apply_len (c:=x) (i:=i) (rc:=cols) (oc:=ocols) (rr:=rows) (orr:=orows) (zs:=zs))
 have HLS:=hide (apply_lens (c:=x) (i:=i) (rc:=cols) (oc:=ocols) (rr:=rows) (orr:=orows) (zs:=zs))
 have HLR:=hide hr.len
 have HLO:=hide hor.len
 have HD:=hide (show concS x i cols ocols rows orows zs=if (applyS x i cols ocols rows orows zs).1≠0 then ((applyS x i cols ocols rows orows zs).1,[]) else (0,(applyS x i cols ocols rows orows zs).2.1.rows.filter λy=>concB x cols ocols rows orows y.row) from rfl)
 obtain ⟨⟨E,IN,CH⟩,hJ⟩: ∃q,applyS x i cols ocols rows orows zs=q:=⟨_,rfl⟩
 rw[hJ]at HAP HD HLE HLS
 obtain ⟨R,hR⟩: ∃q,concS x i cols ocols rows orows zs=q:=⟨_,rfl⟩
 rw[hR]at HD⊢
 clear hJ hR
 have hmm:=@run_makeMap Tryz.prog
 simp only[chkCells]at HAP⊢
 go_enter Tryz.func24,Tryz.ntmps24
 have HN:=hide hn
 clear hn
 have HN2:=hide hn'
 clear hn'
 have HQ:=hide hq
 clear hq
 have HW:=hide hw
 clear hw
 have HC:=hide hc
 clear hc
 have HO:=hide ho
 clear ho
 have HZ:=hide hz
 clear hz
 have HR:=hide hr
 clear hr
 have HOR:=hide hor
 clear hor
 have HI7:=hide hi7
 clear hi7
 have HI8:=hide hi8
 clear hi8
 have HI9:=hide hi9
 clear hi9
 go_wp2_with fail
 obtain ⟨W1,hW1⟩: ∃W,W=w.alloc (.cells #[.string x.name,.string x.table,.int .i64 x.kind,.slice A n c,.string x.other,.slice A' n' c',.int .i64 x.low,.int .i64 x.high,.slice A'' n'' c'',.int .i64 x.ln,.int .i64 x.ld,.int .i64 x.mn,.int .i64 x.md,.int .i64 x.policy] 27):=⟨_,rfl⟩
 obtain ⟨hbW1,SZW1,g0,g1,g2,g3,g4,g5,g6,g7,g8,g9,g10,g11,g12,g13⟩:=boxed14 hW1 rfl
 rw[<-hW1]
 clear hW1
 have SG7:=hide hbW1
 clear hbW1
 have LR:=lt_of_cell g0
 obtain ⟨W2,hW2⟩: ∃W,W=W1.alloc (.cells #[.slice B7 m7 d7,.slice B8 m8 d8,.slice B9 m9 d9] 36):=⟨_,rfl⟩
 obtain ⟨hbW2,SZW2,i0,i1,i2⟩:=boxed3 (b:=w.heap.size+1) hW2 (by rw[SZW1.out])
 rw[<-hW2]
 clear hW2
 have o8:=bun14 g0 g1 g2 g3 g4 g5 g6 g7 g8 g9 g10 g11 g12 g13
 have SG9:=hide hbW2
 clear hbW2
 have L2:=lt_of_cell i0
 obtain ⟨W3,hW3⟩: ∃W,W=W2.alloc (.cells #[.string rn,.slice A1 n1 c1,.slice Ak nk ck,.slice A3 n3 c3] 32):=⟨_,rfl⟩
 obtain ⟨hbW3,SZW3,r0,r1,r2,r3⟩:=boxed4 (b:=w.heap.size+1+1) hW3 (by rw[SZW2.out,SZW1.out])
 rw[<-hW3]
 clear hW3
 have o10:=bun3 i0 i1 i2
 have SG11:=hide hbW3
 clear hbW3
 have L3:=lt_of_cell r0
 obtain ⟨W4,hW4⟩: ∃W,W=W3.alloc (.cells #[.string on,.slice A2 n2 c2,.slice Al nl cl,.slice A4 n4 c4] 32):=⟨_,rfl⟩
 obtain ⟨hbW4,SZW4,s0,s1,s2,s3⟩:=boxed4 (b:=w.heap.size+1+1+1) hW4 (by rw[SZW3.out,SZW2.out,SZW1.out])
 rw[<-hW4]
 clear hW4
 have o12:=bun4 r0 r1 r2 r3
 have SG13:=hide hbW4
 clear hbW4
 have L4:=lt_of_cell s0
 have BC15:=hide (below_trans (below_trans SG9.out SG11.out) SG13.out)
 obtain ⟨LR,g0,g1,g2,g3,g4,g5,g6,g7,g8,g9,g10,g11,g12,g13⟩:=o8.out _ BC15.out
 have BC16:=hide (below_trans SG11.out SG13.out)
 obtain ⟨L2,i0,i1,i2⟩:=o10.out _ BC16.out
 obtain ⟨L3,r0,r1,r2,r3⟩:=o12.out _ SG13.out
 go_wp2_with fail
 have BC17:=hide (below_trans (below_trans (below_trans SG7.out SG9.out) SG11.out) SG13.out)
 refine (HAP.out _ (HN.out.below BC17.out) (HN2.out.below BC17.out) (HQ.out.below BC17.out) (HW.out.below BC17.out) (HI7.out.below BC17.out) (HI8.out.below BC17.out) (HI9.out.below BC17.out) (HC.out.below BC17.out) (HR.out.below BC17.out) (HO.out.below BC17.out) (HOR.out.below BC17.out) (HZ.out.below BC17.out)).mono ?_
 rintro e w14 ⟨⟨v7,v8,v9,v0,rfl,ho7,ho8,ho9,ho0⟩,hb14⟩
 have o18:=mix (bun14 g0 g1 g2 g3 g4 g5 g6 g7 g8 g9 g10 g11 g12 g13) (mix (bun3 i0 i1 i2) (mix (bun4 r0 r1 r2 r3) (bun4 s0 s1 s2 s3)))
 have SG19:=hide hb14
 clear hb14
 obtain ⟨A7,c7,rfl⟩:=ho7.form
 obtain ⟨A8,c8,rfl⟩:=ho8.form
 obtain ⟨A9,c9,rfl⟩:=ho9.form
 obtain ⟨A0,c0,rfl⟩:=ho0.form
 obtain ⟨n7,hn7⟩: ∃m,IN.rows.length=m:=⟨_,rfl⟩
 have ho7:OE _ _ (.slice A7 IN.rows.length c7) IN.rows:=ho7
 rw[hn7]at ho7
 have hin7:=ol_in ho7 hn7
 simp only[hn7]at HLE⊢
 have HN7:=hide hn7
 clear ho7 ho8 ho9 ho0 hn7
 have HIN:=hide hin7
 clear hin7
 obtain ⟨⟨LR,g0,g1,g2,g3,g4,g5,g6,g7,g8,g9,g10,g11,g12,g13⟩,⟨L2,i0,i1,i2⟩,⟨L3,r0,r1,r2,r3⟩,L4,s0,s1,s2,s3⟩:=o18.out _ SG19.out
 go_upto_region 2 with (fail)
 obtain ⟨W6,hW6⟩: ∃W,W=w14.alloc (.cells #[.slice A7 n7 c7,.slice A8 IN.other.length c8,.slice A9 IN.viol.length c9] 36):=⟨_,rfl⟩
 obtain ⟨hbW6,SZW6,k0,k1,k2⟩:=boxed3 hW6 rfl
 rw[<-hW6]
 clear hW6
 have SG20:=hide hbW6
 clear hbW6
 have L6:=lt_of_cell k0
 by_cases hE:E=0
 rotate_left
 ·have q0:(E != 0)=true:=by simpa using hE
  have HRE:Hid (R=(E,[])):=hide (by rw[HD.out,if_pos hE])
  obtain rfl:=HRE.out
  have HBW:=hide (below_trans (below_trans (below_trans (below_trans (below_trans SG7.out SG9.out) SG11.out) SG13.out) SG19.out) SG20.out)
  have BC21:=hide (below_trans SG19.out SG20.out)
  obtain ⟨⟨LR,g0,g1,g2,g3,g4,g5,g6,g7,g8,g9,g10,g11,g12,g13⟩,⟨L2,i0,i1,i2⟩,⟨L3,r0,r1,r2,r3⟩,L4,s0,s1,s2,s3⟩:=o18.out _ BC21.out
  go_wp2
  all_goals (try (exfalso;go_light;simp_all;done))
  go_ret2
  exact ⟨⟨_,_,_,rfl,In.nil_⟩,HBW.out⟩
 subst hE
 obtain hk0|⟨hk0,hk3⟩|⟨hk0,hk3⟩:x.kind=0\/(¬x.kind=0/\x.kind=3)\/(¬x.kind=0/\¬x.kind=3):=by omega
 ·have BC22:=hide (below_trans SG19.out SG20.out)
  obtain ⟨⟨LR,g0,g1,g2,g3,g4,g5,g6,g7,g8,g9,g10,g11,g12,g13⟩,⟨L2,i0,i1,i2⟩,⟨L3,r0,r1,r2,r3⟩,L4,s0,s1,s2,s3⟩:=o18.out _ BC22.out
  go_upto_region 5 with (fail)
  obtain ⟨WM,hWM⟩: ∃W,W=W6.alloc (.map #[] 0):=⟨_,rfl⟩
  have hbm:Below W6.heap.size W6 WM:=by rw[hWM];exact below_alloc
  have hm0:=StrM.made Tryz.prog 9 W6 (.bool false)
  rw[<-hWM]at hm0⊢
  clear hWM
  have o23:=mix (bun14 g0 g1 g2 g3 g4 g5 g6 g7 g8 g9 g10 g11 g12 g13) (mix (bun3 i0 i1 i2) (mix (bun4 r0 r1 r2 r3) (mix (bun4 s0 s1 s2 s3) (bun3 k0 k1 k2))))
  have SG24:=hide hbm
  clear hbm
  have q0:(x.kind==0)=true:=by simpa using hk0
  obtain ⟨⟨LR,g0,g1,g2,g3,g4,g5,g6,g7,g8,g9,g10,g11,g12,g13⟩,⟨L2,i0,i1,i2⟩,⟨L3,r0,r1,r2,r3⟩,⟨L4,s0,s1,s2,s3⟩,L6,k0,k1,k2⟩:=o23.out _ SG24.out
  go_wp2_with fail
  have BC26:=hide (below_trans (below_trans (below_trans (below_trans (below_trans (below_trans SG7.out SG9.out) SG11.out) SG13.out) SG19.out) SG20.out) SG24.out)
  refine (index29_any _ A1 n1 c1 cols (HC.out.below BC26.out) A n c x.cols (HN.out.below BC26.out) A3 n3 c3 rows (HR.out.below BC26.out) (by omega) (by omega) (by have h:=(HLS.out (by first|rfl|trivial)).1;have:=HLR.out;omega)).mono ?_
  rintro e w25 ⟨⟨bm,rfl,hbb,hsm⟩,hb25⟩
  have SG27:=hide (below_trans SG24.out hb25)
  clear hb25
  have HM:=hide (hsm.congr (f':=λs=>.bool (concV x cols ocols rows orows s)) λs=>by rw[concV,if_pos hk0])
  clear hsm hbb hm0
  obtain ⟨WX,rfl⟩: ∃W,W=w25:=⟨_,rfl⟩
  obtain ⟨L,hL0,hlen⟩:=HM.out.len Tryz.underlying95 3
  have HLEN:=hide hlen
  have HL0:=hide hL0
  have HMB:=hide HM.out.lt
  have HRD:Hid (R=(0,IN.rows.filter λy=>concB x cols ocols rows orows y.row)):=hide (by rw[HD.out];rfl)
  have HLE4:=hide (HLE.out (by first|rfl|trivial))
  have BC28:=hide (below_trans SG20.out SG27.out)
  have HINX:=hide (HIN.out.below BC28.out)
  have HBX:=hide (below_trans (below_trans (below_trans (below_trans (below_trans (below_trans SG7.out SG9.out) SG11.out) SG13.out) SG19.out) SG20.out) SG27.out)
  clear hL0 hlen
  obtain ⟨⟨LR,g0,g1,g2,g3,g4,g5,g6,g7,g8,g9,g10,g11,g12,g13⟩,⟨L2,i0,i1,i2⟩,⟨L3,r0,r1,r2,r3⟩,⟨L4,s0,s1,s2,s3⟩,L6,k0,k1,k2⟩:=o23.out _ SG27.out
  go_wp2
  go_loopg [16,56] n7 (λleft o i wr=> ∃(k:Nat) (ys:List Ent),k+left=n7/\i=.int .i64 k/\ys=(IN.rows.take k).filter (λy=>concB x cols ocols rows orows y.row)/\ys.length<=k/\OL 61 WX.heap.size (λ_=>True) [] wr o ys/\Below WX.heap.size WX wr)
  case atStart=>exact ⟨0,[],by omega,rfl,by simp,by simp,OL.nil (Nat.le_refl _),Below.refl _ _⟩
  case round=>
   obtain ⟨k,ys,hk,rfl,hys,hyl,hol,hb⟩:=hrel
   have HYS:=hide hys
   have HOL:=hide hol
   clear hys hol
   have HBR:=hide hb
   have SG29:=hide hb
   clear hb
   by_cases hlt:k<n7
   ·obtain ⟨b5,off,y,rfl,hBb5,HYX,Ay,An,Ac,f0,f1,e2,e3⟩:=HINX.out.ent hlt
    have e0:=bat HBR.out hBb5 f0
    have e1:=bat HBR.out hBb5 f1
    have BC30:=hide (below_trans SG27.out SG29.out)
    obtain ⟨⟨LR,g0,g1,g2,g3,g4,g5,g6,g7,g8,g9,g10,g11,g12,g13⟩,⟨L2,i0,i1,i2⟩,⟨L3,r0,r1,r2,r3⟩,⟨L4,s0,s1,s2,s3⟩,L6,k0,k1,k2⟩:=o23.out _ BC30.out
    have k0:(0:Int)<=(k:Int):=by omega
    have k1:(k:Int)<(n7:Int):=by omega
    have hle:=HLE4.out
    have hk63:ys.length+1<=maxLen:=by simp only[maxLen];omega
    have hk64:(ys.length+1)*32<=140737488355328:=by omega
    have HY0:=hide e2
    have hyr:=e2.below HBR.out
    clear f0 f1 e2 hBb5
    have HYR:=hide hyr
    clear hyr
    obtain ⟨Ao,co,rfl⟩:=HOL.out.form
    have hLBw:=Below.refl wr.heap.size wr
    have HWR:=hide hLBw
    clear hLBw
    go_upto_region 14 with (fail)
    obtain ⟨WE,hWE⟩: ∃W,W=wr.alloc (.cells #[.slice Ay An Ac,.int .i64 y.count] 61):=⟨_,rfl⟩
    obtain ⟨hbWE,SZWE,x0,x1⟩:=boxed2 hWE rfl
    rw[<-hWE]
    clear hWE
    have SG31:=hide hbWE
    clear hbWE
    have LE:=lt_of_cell x0
    have BC33:=hide (below_trans (below_trans SG27.out SG29.out) SG31.out)
    obtain ⟨⟨LR,g0,g1,g2,g3,g4,g5,g6,g7,g8,g9,g10,g11,g12,g13⟩,⟨L2,i0,i1,i2⟩,⟨L3,r0,r1,r2,r3⟩,⟨L4,s0,s1,s2,s3⟩,L6,k0,k1,k2⟩:=o23.out _ BC33.out
    go_wp2_with fail
    have BC34:=hide (below_trans (below_trans (below_trans (below_trans (below_trans (below_trans (below_trans (below_trans SG7.out SG9.out) SG11.out) SG13.out) SG19.out) SG20.out) SG27.out) SG29.out) SG31.out)
    refine (count_any _ A3 n3 c3 rows (HR.out.below BC34.out) Ay An Ac y.row (HYR.out.below SG31.out)).mono ?_
    rintro e w32 ⟨rfl,hb32⟩
    have o35:=mix (bun14 g0 g1 g2 g3 g4 g5 g6 g7 g8 g9 g10 g11 g12 g13) (mix (bun3 i0 i1 i2) (mix (bun4 r0 r1 r2 r3) (mix (bun4 s0 s1 s2 s3) (mix (bun3 k0 k1 k2) (bun2 x0 x1)))))
    have SG36:=hide hb32
    clear hb32
    obtain ⟨CF,hCF⟩: ∃q,cntF rows y.row=q:=⟨_,rfl⟩
    have HCF:=hide hCF
    rw[hCF]
    clear hCF
    by_cases hc:CF=0
    ·subst hc
     by_cases hL:L=0
     ·have HCB:Hid (concB x cols ocols rows orows y.row=false):=hide (by rw[concB,HCF.out];have h:=HL0.out hL (textS (pickN cols x.cols y.row));simp at h;simp[h])
      subst hL
      have hl:=HLEN.out w32 ((below_trans (below_trans SG29.out SG31.out) SG36.out).block _ HMB.out)
      have HOLX:=hide (OL.below HOL.out (below_trans SG31.out SG36.out))
      have HLX:=hide (below_trans (below_trans SG29.out SG31.out) SG36.out)
      have RT:Hid (Rep.rd w32 (BS WX.heap.size (λ_=>True) [] w32) [.slice Ay An Ac,.int .i64 y.count] y):=hide ⟨Ay,An,Ac,rfl,(Sl.keep (Same.below (below_trans (below_trans SG29.out SG31.out) SG36.out)) HY0.out).mono λk hk=>.inl ⟨trivial,hk⟩,e3⟩
      obtain ⟨⟨LR,g0,g1,g2,g3,g4,g5,g6,g7,g8,g9,g10,g11,g12,g13⟩,⟨L2,i0,i1,i2⟩,⟨L3,r0,r1,r2,r3⟩,⟨L4,s0,s1,s2,s3⟩,⟨L6,k0,k1,k2⟩,LE,x0,x1⟩:=o35.out _ SG36.out
      go_wp2_with fail
      all_goals (try (exfalso;go_light;simp_all;done))
      have HN1:Hid (ys=(IN.rows.take (k+1)).filter (λy=>concB x cols ocols rows orows y.row)):=hide (by rw[take_snoc HYX.out,List.filter_append,HYS.out,List.filter_cons_of_neg (by simp[HCB.out])];simp)
      go_wp2
      go_roundg (gk-1)
      case measure=>omega
      case rel=>exact ⟨k+1,ys,by omega,by go_num,HN1.out,by omega,HOLX.out,HLX.out⟩
     ·have hl:=HLEN.out w32 ((below_trans (below_trans SG29.out SG31.out) SG36.out).block _ HMB.out)
      have hLp:0<(L:Int):=by omega
      obtain ⟨⟨LR,g0,g1,g2,g3,g4,g5,g6,g7,g8,g9,g10,g11,g12,g13⟩,⟨L2,i0,i1,i2⟩,⟨L3,r0,r1,r2,r3⟩,⟨L4,s0,s1,s2,s3⟩,⟨L6,k0,k1,k2⟩,LE,x0,x1⟩:=o35.out _ SG36.out
      go_wp2_with fail
      have BC38:=hide (below_trans (below_trans (below_trans (below_trans (below_trans (below_trans (below_trans (below_trans (below_trans SG7.out SG9.out) SG11.out) SG13.out) SG19.out) SG20.out) SG27.out) SG29.out) SG31.out) SG36.out)
      have BC39:=hide (below_trans SG31.out SG36.out)
      refine (text29_any _ A1 n1 c1 cols (HC.out.below BC38.out) A n c x.cols (HN.out.below BC38.out) Ay An Ac y.row (HYR.out.below BC39.out) (by omega) (by omega)).mono ?_
      rintro e w37 ⟨rfl,hb37⟩
      have SG40:=hide (below_trans SG36.out hb37)
      clear hb37
      have lk:=HM.out.look Tryz.underlying95 Tryz.underlying9 (λV=>Tryz.zeroValue4 V) (s:=textS (pickN cols x.cols y.row)) (textS_size _) (V:=w37) ((below_trans (below_trans SG29.out SG31.out) SG40.out).block _ HMB.out)
      have hcv:concB x cols ocols rows orows y.row=concV x cols ocols rows orows (textS (pickN cols x.cols y.row)):=by rw[concB,HCF.out];simp
      obtain ⟨T,hT⟩: ∃q,textS (pickN cols x.cols y.row)=q:=⟨_,rfl⟩
      obtain ⟨cv,hv⟩: ∃q,concV x cols ocols rows orows T=q:=⟨_,rfl⟩
      rw[hT]at lk hcv⊢
      rw[hv]at lk hcv
      have HCV:=hide hcv
      clear hT hv hcv
      cases cv
      ·have HCB:=hide HCV.out
       have HOLX:=hide (OL.below HOL.out (below_trans SG31.out SG40.out))
       have HLX:=hide (below_trans (below_trans SG29.out SG31.out) SG40.out)
       have RT:Hid (Rep.rd w37 (BS WX.heap.size (λ_=>True) [] w37) [.slice Ay An Ac,.int .i64 y.count] y):=hide ⟨Ay,An,Ac,rfl,(Sl.keep (Same.below (below_trans (below_trans SG29.out SG31.out) SG40.out)) HY0.out).mono λk hk=>.inl ⟨trivial,hk⟩,e3⟩
       have HN1:Hid (ys=(IN.rows.take (k+1)).filter (λy=>concB x cols ocols rows orows y.row)):=hide (by rw[take_snoc HYX.out,List.filter_append,HYS.out,List.filter_cons_of_neg (by simp[HCB.out])];simp)
       obtain ⟨⟨LR,g0,g1,g2,g3,g4,g5,g6,g7,g8,g9,g10,g11,g12,g13⟩,⟨L2,i0,i1,i2⟩,⟨L3,r0,r1,r2,r3⟩,⟨L4,s0,s1,s2,s3⟩,⟨L6,k0,k1,k2⟩,LE,x0,x1⟩:=o35.out _ SG40.out
       go_wp2
       all_goals (try (exfalso;go_light;simp_all;done))
       go_roundg (gk-1)
       case measure=>omega
       case rel=>exact ⟨k+1,ys,by omega,by go_num,HN1.out,by omega,HOLX.out,HLX.out⟩
      ·have HCB:=hide HCV.out
       have HOLX:=hide (OL.below HOL.out (below_trans SG31.out SG40.out))
       have HLX:=hide (below_trans (below_trans SG29.out SG31.out) SG40.out)
       have RT:Hid (Rep.rd w37 (BS WX.heap.size (λ_=>True) [] w37) [.slice Ay An Ac,.int .i64 y.count] y):=hide ⟨Ay,An,Ac,rfl,(Sl.keep (Same.below (below_trans (below_trans SG29.out SG31.out) SG40.out)) HY0.out).mono λk hk=>.inl ⟨trivial,hk⟩,e3⟩
       have HN1:Hid (ys++[y]=(IN.rows.take (k+1)).filter (λy=>concB x cols ocols rows orows y.row)):=hide (by rw[take_snoc HYX.out,List.filter_append,HYS.out,List.filter_cons_of_pos (by simpa using HCB.out)];simp)
       obtain ⟨⟨LR,g0,g1,g2,g3,g4,g5,g6,g7,g8,g9,g10,g11,g12,g13⟩,⟨L2,i0,i1,i2⟩,⟨L3,r0,r1,r2,r3⟩,⟨L4,s0,s1,s2,s3⟩,⟨L6,k0,k1,k2⟩,LE,x0,x1⟩:=o35.out _ SG40.out
       go_wp2_with (at_builtin;refine wpList_push_OL _ rfl _ _ _ rfl elem_ents (by simp) w37 _ rfl HOLX.out rfl rfl y RT.out hk63 hk64 ?_;intro v9 w9 ho9 hb9 hg9 hat9)
       have HO9:=hide ho9
       have HB9:=hide (HLX.out.trans hb9)
       clear ho9 hb9 hg9 hat9
       go_wp2
       go_roundg (gk-1)
       case measure=>omega
       case rel=>exact ⟨k+1,ys++[y],by omega,by go_num,HN1.out,by simp;omega,HO9.out,HB9.out⟩
    ·have q0:(CF != 0)=true:=by simpa using hc
     have HCB:Hid (concB x cols ocols rows orows y.row=true):=hide (by rw[concB,HCF.out];simp[hc])
     have HOLX:=hide (OL.below HOL.out (below_trans SG31.out SG36.out))
     have HLX:=hide (below_trans (below_trans SG29.out SG31.out) SG36.out)
     have RT:Hid (Rep.rd w32 (BS WX.heap.size (λ_=>True) [] w32) [.slice Ay An Ac,.int .i64 y.count] y):=hide ⟨Ay,An,Ac,rfl,(Sl.keep (Same.below (below_trans (below_trans SG29.out SG31.out) SG36.out)) HY0.out).mono λk hk=>.inl ⟨trivial,hk⟩,e3⟩
     have HN1:Hid (ys++[y]=(IN.rows.take (k+1)).filter (λy=>concB x cols ocols rows orows y.row)):=hide (by rw[take_snoc HYX.out,List.filter_append,HYS.out,List.filter_cons_of_pos (by simpa using HCB.out)];simp)
     obtain ⟨⟨LR,g0,g1,g2,g3,g4,g5,g6,g7,g8,g9,g10,g11,g12,g13⟩,⟨L2,i0,i1,i2⟩,⟨L3,r0,r1,r2,r3⟩,⟨L4,s0,s1,s2,s3⟩,⟨L6,k0,k1,k2⟩,LE,x0,x1⟩:=o35.out _ SG36.out
     go_wp2_with (at_builtin;refine wpList_push_OL _ rfl _ _ _ rfl elem_ents (by simp) w32 _ rfl HOLX.out rfl rfl y RT.out hk63 hk64 ?_;intro v9 w9 ho9 hb9 hg9 hat9)
     have HO9:=hide ho9
     have HB9:=hide (HLX.out.trans hb9)
     clear ho9 hb9 hg9 hat9
     go_wp2
     go_roundg (gk-1)
     case measure=>omega
     case rel=>exact ⟨k+1,ys++[y],by omega,by go_num,HN1.out,by simp;omega,HO9.out,HB9.out⟩
   ·have hkk:IN.rows.take k=IN.rows:=List.take_of_length_le (by rw[HN7.out];omega)
    have HT:Hid (ys=IN.rows.filter λy=>concB x cols ocols rows orows y.row):=hide (by rw[HYS.out,hkk])
    have HRE:Hid (R=(0,ys)):=hide (by rw[HRD.out,HT.out])
    obtain ⟨A8,c8,rfl,hi8⟩:=HOL.out.inn
    have HXI8:=hide hi8
    have HBW:=hide (below_trans (below_trans (below_trans (below_trans (below_trans (below_trans (below_trans SG7.out SG9.out) SG11.out) SG13.out) SG19.out) SG20.out) SG27.out) SG29.out)
    clear hi8 hkk
    obtain rfl:=HRE.out
    have BC41:=hide (below_trans SG27.out SG29.out)
    obtain ⟨⟨LR,g0,g1,g2,g3,g4,g5,g6,g7,g8,g9,g10,g11,g12,g13⟩,⟨L2,i0,i1,i2⟩,⟨L3,r0,r1,r2,r3⟩,⟨L4,s0,s1,s2,s3⟩,L6,k0,k1,k2⟩:=o23.out _ BC41.out
    go_wp2
    go_ret2
    exact ⟨⟨_,_,_,rfl,HXI8.out⟩,HBW.out⟩
 ·have BC42:=hide (below_trans SG19.out SG20.out)
  obtain ⟨⟨LR,g0,g1,g2,g3,g4,g5,g6,g7,g8,g9,g10,g11,g12,g13⟩,⟨L2,i0,i1,i2⟩,⟨L3,r0,r1,r2,r3⟩,L4,s0,s1,s2,s3⟩:=o18.out _ BC42.out
  go_upto_region 5 with (fail)
  obtain ⟨WM,hWM⟩: ∃W,W=W6.alloc (.map #[] 0):=⟨_,rfl⟩
  have hbm:Below W6.heap.size W6 WM:=by rw[hWM];exact below_alloc
  have hm0:=StrM.made Tryz.prog 9 W6 (.bool false)
  rw[<-hWM]at hm0⊢
  clear hWM
  have o43:=mix (bun14 g0 g1 g2 g3 g4 g5 g6 g7 g8 g9 g10 g11 g12 g13) (mix (bun3 i0 i1 i2) (mix (bun4 r0 r1 r2 r3) (mix (bun4 s0 s1 s2 s3) (bun3 k0 k1 k2))))
  have SG44:=hide hbm
  clear hbm
  have q0:(x.kind==0)=false:=by simpa using hk0
  have q3:(x.kind==3)=true:=by simpa using hk3
  obtain ⟨⟨LR,g0,g1,g2,g3,g4,g5,g6,g7,g8,g9,g10,g11,g12,g13⟩,⟨L2,i0,i1,i2⟩,⟨L3,r0,r1,r2,r3⟩,⟨L4,s0,s1,s2,s3⟩,L6,k0,k1,k2⟩:=o43.out _ SG44.out
  go_wp2_with fail
  have BC46:=hide (below_trans (below_trans (below_trans (below_trans (below_trans (below_trans SG7.out SG9.out) SG11.out) SG13.out) SG19.out) SG20.out) SG44.out)
  refine (index29_any _ A2 n2 c2 ocols (HO.out.below BC46.out) A' n' c' x.ocols (HN2.out.below BC46.out) A4 n4 c4 orows (HOR.out.below BC46.out) (by omega) (by omega) (by have h:=(HLS.out (by first|rfl|trivial)).2 (by rw[usesO,hk3];rfl);have:=HLO.out;omega)).mono ?_
  rintro e w45 ⟨⟨bm,rfl,hbb,hsm⟩,hb45⟩
  have SG47:=hide (below_trans SG44.out hb45)
  clear hb45
  have HM:=hide (hsm.congr (f':=λs=>.bool (concV x cols ocols rows orows s)) λs=>by rw[concV,if_neg hk0,if_pos hk3])
  clear hsm hbb hm0
  obtain ⟨WX,rfl⟩: ∃W,W=w45:=⟨_,rfl⟩
  obtain ⟨L,hL0,hlen⟩:=HM.out.len Tryz.underlying95 3
  have HLEN:=hide hlen
  have HL0:=hide hL0
  have HMB:=hide HM.out.lt
  have HRD:Hid (R=(0,IN.rows.filter λy=>concB x cols ocols rows orows y.row)):=hide (by rw[HD.out];rfl)
  have HLE4:=hide (HLE.out (by first|rfl|trivial))
  have BC48:=hide (below_trans SG20.out SG47.out)
  have HINX:=hide (HIN.out.below BC48.out)
  have HBX:=hide (below_trans (below_trans (below_trans (below_trans (below_trans (below_trans SG7.out SG9.out) SG11.out) SG13.out) SG19.out) SG20.out) SG47.out)
  clear hL0 hlen
  obtain ⟨⟨LR,g0,g1,g2,g3,g4,g5,g6,g7,g8,g9,g10,g11,g12,g13⟩,⟨L2,i0,i1,i2⟩,⟨L3,r0,r1,r2,r3⟩,⟨L4,s0,s1,s2,s3⟩,L6,k0,k1,k2⟩:=o43.out _ SG47.out
  go_wp2
  go_loopg [16,56] n7 (λleft o i wr=> ∃(k:Nat) (ys:List Ent),k+left=n7/\i=.int .i64 k/\ys=(IN.rows.take k).filter (λy=>concB x cols ocols rows orows y.row)/\ys.length<=k/\OL 61 WX.heap.size (λ_=>True) [] wr o ys/\Below WX.heap.size WX wr)
  case atStart=>exact ⟨0,[],by omega,rfl,by simp,by simp,OL.nil (Nat.le_refl _),Below.refl _ _⟩
  case round=>
   obtain ⟨k,ys,hk,rfl,hys,hyl,hol,hb⟩:=hrel
   have HYS:=hide hys
   have HOL:=hide hol
   clear hys hol
   have HBR:=hide hb
   have SG49:=hide hb
   clear hb
   by_cases hlt:k<n7
   ·obtain ⟨b5,off,y,rfl,hBb5,HYX,Ay,An,Ac,f0,f1,e2,e3⟩:=HINX.out.ent hlt
    have e0:=bat HBR.out hBb5 f0
    have e1:=bat HBR.out hBb5 f1
    have BC50:=hide (below_trans SG47.out SG49.out)
    obtain ⟨⟨LR,g0,g1,g2,g3,g4,g5,g6,g7,g8,g9,g10,g11,g12,g13⟩,⟨L2,i0,i1,i2⟩,⟨L3,r0,r1,r2,r3⟩,⟨L4,s0,s1,s2,s3⟩,L6,k0,k1,k2⟩:=o43.out _ BC50.out
    have k0:(0:Int)<=(k:Int):=by omega
    have k1:(k:Int)<(n7:Int):=by omega
    have hle:=HLE4.out
    have hk63:ys.length+1<=maxLen:=by simp only[maxLen];omega
    have hk64:(ys.length+1)*32<=140737488355328:=by omega
    have HY0:=hide e2
    have hyr:=e2.below HBR.out
    clear f0 f1 e2 hBb5
    have HYR:=hide hyr
    clear hyr
    obtain ⟨Ao,co,rfl⟩:=HOL.out.form
    have hLBw:=Below.refl wr.heap.size wr
    have HWR:=hide hLBw
    clear hLBw
    go_upto_region 14 with (fail)
    obtain ⟨WE,hWE⟩: ∃W,W=wr.alloc (.cells #[.slice Ay An Ac,.int .i64 y.count] 61):=⟨_,rfl⟩
    obtain ⟨hbWE,SZWE,x0,x1⟩:=boxed2 hWE rfl
    rw[<-hWE]
    clear hWE
    have SG51:=hide hbWE
    clear hbWE
    have LE:=lt_of_cell x0
    have BC53:=hide (below_trans (below_trans SG47.out SG49.out) SG51.out)
    obtain ⟨⟨LR,g0,g1,g2,g3,g4,g5,g6,g7,g8,g9,g10,g11,g12,g13⟩,⟨L2,i0,i1,i2⟩,⟨L3,r0,r1,r2,r3⟩,⟨L4,s0,s1,s2,s3⟩,L6,k0,k1,k2⟩:=o43.out _ BC53.out
    go_wp2_with fail
    have BC54:=hide (below_trans (below_trans (below_trans (below_trans (below_trans (below_trans (below_trans (below_trans SG7.out SG9.out) SG11.out) SG13.out) SG19.out) SG20.out) SG47.out) SG49.out) SG51.out)
    refine (count_any _ A3 n3 c3 rows (HR.out.below BC54.out) Ay An Ac y.row (HYR.out.below SG51.out)).mono ?_
    rintro e w52 ⟨rfl,hb52⟩
    have o55:=mix (bun14 g0 g1 g2 g3 g4 g5 g6 g7 g8 g9 g10 g11 g12 g13) (mix (bun3 i0 i1 i2) (mix (bun4 r0 r1 r2 r3) (mix (bun4 s0 s1 s2 s3) (mix (bun3 k0 k1 k2) (bun2 x0 x1)))))
    have SG56:=hide hb52
    clear hb52
    obtain ⟨CF,hCF⟩: ∃q,cntF rows y.row=q:=⟨_,rfl⟩
    have HCF:=hide hCF
    rw[hCF]
    clear hCF
    by_cases hc:CF=0
    ·subst hc
     by_cases hL:L=0
     ·have HCB:Hid (concB x cols ocols rows orows y.row=false):=hide (by rw[concB,HCF.out];have h:=HL0.out hL (textS (pickN cols x.cols y.row));simp at h;simp[h])
      subst hL
      have hl:=HLEN.out w52 ((below_trans (below_trans SG49.out SG51.out) SG56.out).block _ HMB.out)
      have HOLX:=hide (OL.below HOL.out (below_trans SG51.out SG56.out))
      have HLX:=hide (below_trans (below_trans SG49.out SG51.out) SG56.out)
      have RT:Hid (Rep.rd w52 (BS WX.heap.size (λ_=>True) [] w52) [.slice Ay An Ac,.int .i64 y.count] y):=hide ⟨Ay,An,Ac,rfl,(Sl.keep (Same.below (below_trans (below_trans SG49.out SG51.out) SG56.out)) HY0.out).mono λk hk=>.inl ⟨trivial,hk⟩,e3⟩
      obtain ⟨⟨LR,g0,g1,g2,g3,g4,g5,g6,g7,g8,g9,g10,g11,g12,g13⟩,⟨L2,i0,i1,i2⟩,⟨L3,r0,r1,r2,r3⟩,⟨L4,s0,s1,s2,s3⟩,⟨L6,k0,k1,k2⟩,LE,x0,x1⟩:=o55.out _ SG56.out
      go_wp2_with fail
      all_goals (try (exfalso;go_light;simp_all;done))
      have HN1:Hid (ys=(IN.rows.take (k+1)).filter (λy=>concB x cols ocols rows orows y.row)):=hide (by rw[take_snoc HYX.out,List.filter_append,HYS.out,List.filter_cons_of_neg (by simp[HCB.out])];simp)
      go_wp2
      go_roundg (gk-1)
      case measure=>omega
      case rel=>exact ⟨k+1,ys,by omega,by go_num,HN1.out,by omega,HOLX.out,HLX.out⟩
     ·have hl:=HLEN.out w52 ((below_trans (below_trans SG49.out SG51.out) SG56.out).block _ HMB.out)
      have hLp:0<(L:Int):=by omega
      obtain ⟨⟨LR,g0,g1,g2,g3,g4,g5,g6,g7,g8,g9,g10,g11,g12,g13⟩,⟨L2,i0,i1,i2⟩,⟨L3,r0,r1,r2,r3⟩,⟨L4,s0,s1,s2,s3⟩,⟨L6,k0,k1,k2⟩,LE,x0,x1⟩:=o55.out _ SG56.out
      go_wp2_with fail
      have BC58:=hide (below_trans (below_trans (below_trans (below_trans (below_trans (below_trans (below_trans (below_trans (below_trans SG7.out SG9.out) SG11.out) SG13.out) SG19.out) SG20.out) SG47.out) SG49.out) SG51.out) SG56.out)
      have BC59:=hide (below_trans SG51.out SG56.out)
      refine (text29_any _ A1 n1 c1 cols (HC.out.below BC58.out) A n c x.cols (HN.out.below BC58.out) Ay An Ac y.row (HYR.out.below BC59.out) (by omega) (by omega)).mono ?_
      rintro e w57 ⟨rfl,hb57⟩
      have SG60:=hide (below_trans SG56.out hb57)
      clear hb57
      have lk:=HM.out.look Tryz.underlying95 Tryz.underlying9 (λV=>Tryz.zeroValue4 V) (s:=textS (pickN cols x.cols y.row)) (textS_size _) (V:=w57) ((below_trans (below_trans SG49.out SG51.out) SG60.out).block _ HMB.out)
      have hcv:concB x cols ocols rows orows y.row=concV x cols ocols rows orows (textS (pickN cols x.cols y.row)):=by rw[concB,HCF.out];simp
      obtain ⟨T,hT⟩: ∃q,textS (pickN cols x.cols y.row)=q:=⟨_,rfl⟩
      obtain ⟨cv,hv⟩: ∃q,concV x cols ocols rows orows T=q:=⟨_,rfl⟩
      rw[hT]at lk hcv⊢
      rw[hv]at lk hcv
      have HCV:=hide hcv
      clear hT hv hcv
      cases cv
      ·have HCB:=hide HCV.out
       have HOLX:=hide (OL.below HOL.out (below_trans SG51.out SG60.out))
       have HLX:=hide (below_trans (below_trans SG49.out SG51.out) SG60.out)
       have RT:Hid (Rep.rd w57 (BS WX.heap.size (λ_=>True) [] w57) [.slice Ay An Ac,.int .i64 y.count] y):=hide ⟨Ay,An,Ac,rfl,(Sl.keep (Same.below (below_trans (below_trans SG49.out SG51.out) SG60.out)) HY0.out).mono λk hk=>.inl ⟨trivial,hk⟩,e3⟩
       have HN1:Hid (ys=(IN.rows.take (k+1)).filter (λy=>concB x cols ocols rows orows y.row)):=hide (by rw[take_snoc HYX.out,List.filter_append,HYS.out,List.filter_cons_of_neg (by simp[HCB.out])];simp)
       obtain ⟨⟨LR,g0,g1,g2,g3,g4,g5,g6,g7,g8,g9,g10,g11,g12,g13⟩,⟨L2,i0,i1,i2⟩,⟨L3,r0,r1,r2,r3⟩,⟨L4,s0,s1,s2,s3⟩,⟨L6,k0,k1,k2⟩,LE,x0,x1⟩:=o55.out _ SG60.out
       go_wp2
       all_goals (try (exfalso;go_light;simp_all;done))
       go_roundg (gk-1)
       case measure=>omega
       case rel=>exact ⟨k+1,ys,by omega,by go_num,HN1.out,by omega,HOLX.out,HLX.out⟩
      ·have HCB:=hide HCV.out
       have HOLX:=hide (OL.below HOL.out (below_trans SG51.out SG60.out))
       have HLX:=hide (below_trans (below_trans SG49.out SG51.out) SG60.out)
       have RT:Hid (Rep.rd w57 (BS WX.heap.size (λ_=>True) [] w57) [.slice Ay An Ac,.int .i64 y.count] y):=hide ⟨Ay,An,Ac,rfl,(Sl.keep (Same.below (below_trans (below_trans SG49.out SG51.out) SG60.out)) HY0.out).mono λk hk=>.inl ⟨trivial,hk⟩,e3⟩
       have HN1:Hid (ys++[y]=(IN.rows.take (k+1)).filter (λy=>concB x cols ocols rows orows y.row)):=hide (by rw[take_snoc HYX.out,List.filter_append,HYS.out,List.filter_cons_of_pos (by simpa using HCB.out)];simp)
       obtain ⟨⟨LR,g0,g1,g2,g3,g4,g5,g6,g7,g8,g9,g10,g11,g12,g13⟩,⟨L2,i0,i1,i2⟩,⟨L3,r0,r1,r2,r3⟩,⟨L4,s0,s1,s2,s3⟩,⟨L6,k0,k1,k2⟩,LE,x0,x1⟩:=o55.out _ SG60.out
       go_wp2_with (at_builtin;refine wpList_push_OL _ rfl _ _ _ rfl elem_ents (by simp) w57 _ rfl HOLX.out rfl rfl y RT.out hk63 hk64 ?_;intro v9 w9 ho9 hb9 hg9 hat9)
       have HO9:=hide ho9
       have HB9:=hide (HLX.out.trans hb9)
       clear ho9 hb9 hg9 hat9
       go_wp2
       go_roundg (gk-1)
       case measure=>omega
       case rel=>exact ⟨k+1,ys++[y],by omega,by go_num,HN1.out,by simp;omega,HO9.out,HB9.out⟩
    ·have q0:(CF != 0)=true:=by simpa using hc
     have HCB:Hid (concB x cols ocols rows orows y.row=true):=hide (by rw[concB,HCF.out];simp[hc])
     have HOLX:=hide (OL.below HOL.out (below_trans SG51.out SG56.out))
     have HLX:=hide (below_trans (below_trans SG49.out SG51.out) SG56.out)
     have RT:Hid (Rep.rd w52 (BS WX.heap.size (λ_=>True) [] w52) [.slice Ay An Ac,.int .i64 y.count] y):=hide ⟨Ay,An,Ac,rfl,(Sl.keep (Same.below (below_trans (below_trans SG49.out SG51.out) SG56.out)) HY0.out).mono λk hk=>.inl ⟨trivial,hk⟩,e3⟩
     have HN1:Hid (ys++[y]=(IN.rows.take (k+1)).filter (λy=>concB x cols ocols rows orows y.row)):=hide (by rw[take_snoc HYX.out,List.filter_append,HYS.out,List.filter_cons_of_pos (by simpa using HCB.out)];simp)
     obtain ⟨⟨LR,g0,g1,g2,g3,g4,g5,g6,g7,g8,g9,g10,g11,g12,g13⟩,⟨L2,i0,i1,i2⟩,⟨L3,r0,r1,r2,r3⟩,⟨L4,s0,s1,s2,s3⟩,⟨L6,k0,k1,k2⟩,LE,x0,x1⟩:=o55.out _ SG56.out
     go_wp2_with (at_builtin;refine wpList_push_OL _ rfl _ _ _ rfl elem_ents (by simp) w52 _ rfl HOLX.out rfl rfl y RT.out hk63 hk64 ?_;intro v9 w9 ho9 hb9 hg9 hat9)
     have HO9:=hide ho9
     have HB9:=hide (HLX.out.trans hb9)
     clear ho9 hb9 hg9 hat9
     go_wp2
     go_roundg (gk-1)
     case measure=>omega
     case rel=>exact ⟨k+1,ys++[y],by omega,by go_num,HN1.out,by simp;omega,HO9.out,HB9.out⟩
   ·have hkk:IN.rows.take k=IN.rows:=List.take_of_length_le (by rw[HN7.out];omega)
    have HT:Hid (ys=IN.rows.filter λy=>concB x cols ocols rows orows y.row):=hide (by rw[HYS.out,hkk])
    have HRE:Hid (R=(0,ys)):=hide (by rw[HRD.out,HT.out])
    obtain ⟨A8,c8,rfl,hi8⟩:=HOL.out.inn
    have HXI8:=hide hi8
    have HBW:=hide (below_trans (below_trans (below_trans (below_trans (below_trans (below_trans (below_trans SG7.out SG9.out) SG11.out) SG13.out) SG19.out) SG20.out) SG47.out) SG49.out)
    clear hi8 hkk
    obtain rfl:=HRE.out
    have BC61:=hide (below_trans SG47.out SG49.out)
    obtain ⟨⟨LR,g0,g1,g2,g3,g4,g5,g6,g7,g8,g9,g10,g11,g12,g13⟩,⟨L2,i0,i1,i2⟩,⟨L3,r0,r1,r2,r3⟩,⟨L4,s0,s1,s2,s3⟩,L6,k0,k1,k2⟩:=o43.out _ BC61.out
    go_wp2
    go_ret2
    exact ⟨⟨_,_,_,rfl,HXI8.out⟩,HBW.out⟩
 ·have BC62:=hide (below_trans SG19.out SG20.out)
  obtain ⟨⟨LR,g0,g1,g2,g3,g4,g5,g6,g7,g8,g9,g10,g11,g12,g13⟩,⟨L2,i0,i1,i2⟩,⟨L3,r0,r1,r2,r3⟩,L4,s0,s1,s2,s3⟩:=o18.out _ BC62.out
  go_upto_region 5 with (fail)
  obtain ⟨WM,hWM⟩: ∃W,W=W6.alloc (.map #[] 0):=⟨_,rfl⟩
  have hbm:Below W6.heap.size W6 WM:=by rw[hWM];exact below_alloc
  have hm0:=StrM.made Tryz.prog 9 W6 (.bool false)
  rw[<-hWM]at hm0⊢
  clear hWM
  have o63:=mix (bun14 g0 g1 g2 g3 g4 g5 g6 g7 g8 g9 g10 g11 g12 g13) (mix (bun3 i0 i1 i2) (mix (bun4 r0 r1 r2 r3) (mix (bun4 s0 s1 s2 s3) (bun3 k0 k1 k2))))
  have SG64:=hide hbm
  clear hbm
  have q0:(x.kind==0)=false:=by simpa using hk0
  have q3:(x.kind==3)=false:=by simpa using hk3
  have HM:=hide (hm0.congr (f':=λs=>.bool (concV x cols ocols rows orows s)) λs=>by rw[concV,if_neg hk0,if_neg hk3])
  clear hm0
  obtain ⟨WX,rfl⟩: ∃W,W=WM:=⟨_,rfl⟩
  obtain ⟨L,hL0,hlen⟩:=HM.out.len Tryz.underlying95 3
  have HLEN:=hide hlen
  have HL0:=hide hL0
  have HMB:=hide HM.out.lt
  have HRD:Hid (R=(0,IN.rows.filter λy=>concB x cols ocols rows orows y.row)):=hide (by rw[HD.out];rfl)
  have HLE4:=hide (HLE.out (by first|rfl|trivial))
  have BC65:=hide (below_trans SG20.out SG64.out)
  have HINX:=hide (HIN.out.below BC65.out)
  have HBX:=hide (below_trans (below_trans (below_trans (below_trans (below_trans (below_trans SG7.out SG9.out) SG11.out) SG13.out) SG19.out) SG20.out) SG64.out)
  clear hL0 hlen
  obtain ⟨⟨LR,g0,g1,g2,g3,g4,g5,g6,g7,g8,g9,g10,g11,g12,g13⟩,⟨L2,i0,i1,i2⟩,⟨L3,r0,r1,r2,r3⟩,⟨L4,s0,s1,s2,s3⟩,L6,k0,k1,k2⟩:=o63.out _ SG64.out
  go_wp2
  go_loopg [16,56] n7 (λleft o i wr=> ∃(k:Nat) (ys:List Ent),k+left=n7/\i=.int .i64 k/\ys=(IN.rows.take k).filter (λy=>concB x cols ocols rows orows y.row)/\ys.length<=k/\OL 61 WX.heap.size (λ_=>True) [] wr o ys/\Below WX.heap.size WX wr)
  case atStart=>exact ⟨0,[],by omega,rfl,by simp,by simp,OL.nil (Nat.le_refl _),Below.refl _ _⟩
  case round=>
   obtain ⟨k,ys,hk,rfl,hys,hyl,hol,hb⟩:=hrel
   have HYS:=hide hys
   have HOL:=hide hol
   clear hys hol
   have HBR:=hide hb
   have SG66:=hide hb
   clear hb
   by_cases hlt:k<n7
   ·obtain ⟨b5,off,y,rfl,hBb5,HYX,Ay,An,Ac,f0,f1,e2,e3⟩:=HINX.out.ent hlt
    have e0:=bat HBR.out hBb5 f0
    have e1:=bat HBR.out hBb5 f1
    have BC67:=hide (below_trans SG64.out SG66.out)
    obtain ⟨⟨LR,g0,g1,g2,g3,g4,g5,g6,g7,g8,g9,g10,g11,g12,g13⟩,⟨L2,i0,i1,i2⟩,⟨L3,r0,r1,r2,r3⟩,⟨L4,s0,s1,s2,s3⟩,L6,k0,k1,k2⟩:=o63.out _ BC67.out
    have k0:(0:Int)<=(k:Int):=by omega
    have k1:(k:Int)<(n7:Int):=by omega
    have hle:=HLE4.out
    have hk63:ys.length+1<=maxLen:=by simp only[maxLen];omega
    have hk64:(ys.length+1)*32<=140737488355328:=by omega
    have HY0:=hide e2
    have hyr:=e2.below HBR.out
    clear f0 f1 e2 hBb5
    have HYR:=hide hyr
    clear hyr
    obtain ⟨Ao,co,rfl⟩:=HOL.out.form
    have hLBw:=Below.refl wr.heap.size wr
    have HWR:=hide hLBw
    clear hLBw
    go_upto_region 14 with (fail)
    obtain ⟨WE,hWE⟩: ∃W,W=wr.alloc (.cells #[.slice Ay An Ac,.int .i64 y.count] 61):=⟨_,rfl⟩
    obtain ⟨hbWE,SZWE,x0,x1⟩:=boxed2 hWE rfl
    rw[<-hWE]
    clear hWE
    have SG68:=hide hbWE
    clear hbWE
    have LE:=lt_of_cell x0
    have BC70:=hide (below_trans (below_trans SG64.out SG66.out) SG68.out)
    obtain ⟨⟨LR,g0,g1,g2,g3,g4,g5,g6,g7,g8,g9,g10,g11,g12,g13⟩,⟨L2,i0,i1,i2⟩,⟨L3,r0,r1,r2,r3⟩,⟨L4,s0,s1,s2,s3⟩,L6,k0,k1,k2⟩:=o63.out _ BC70.out
    go_wp2_with fail
    have BC71:=hide (below_trans (below_trans (below_trans (below_trans (below_trans (below_trans (below_trans (below_trans SG7.out SG9.out) SG11.out) SG13.out) SG19.out) SG20.out) SG64.out) SG66.out) SG68.out)
    refine (count_any _ A3 n3 c3 rows (HR.out.below BC71.out) Ay An Ac y.row (HYR.out.below SG68.out)).mono ?_
    rintro e w69 ⟨rfl,hb69⟩
    have o72:=mix (bun14 g0 g1 g2 g3 g4 g5 g6 g7 g8 g9 g10 g11 g12 g13) (mix (bun3 i0 i1 i2) (mix (bun4 r0 r1 r2 r3) (mix (bun4 s0 s1 s2 s3) (mix (bun3 k0 k1 k2) (bun2 x0 x1)))))
    have SG73:=hide hb69
    clear hb69
    obtain ⟨CF,hCF⟩: ∃q,cntF rows y.row=q:=⟨_,rfl⟩
    have HCF:=hide hCF
    rw[hCF]
    clear hCF
    by_cases hc:CF=0
    ·subst hc
     by_cases hL:L=0
     ·have HCB:Hid (concB x cols ocols rows orows y.row=false):=hide (by rw[concB,HCF.out];have h:=HL0.out hL (textS (pickN cols x.cols y.row));simp at h;simp[h])
      subst hL
      have hl:=HLEN.out w69 ((below_trans (below_trans SG66.out SG68.out) SG73.out).block _ HMB.out)
      have HOLX:=hide (OL.below HOL.out (below_trans SG68.out SG73.out))
      have HLX:=hide (below_trans (below_trans SG66.out SG68.out) SG73.out)
      have RT:Hid (Rep.rd w69 (BS WX.heap.size (λ_=>True) [] w69) [.slice Ay An Ac,.int .i64 y.count] y):=hide ⟨Ay,An,Ac,rfl,(Sl.keep (Same.below (below_trans (below_trans SG66.out SG68.out) SG73.out)) HY0.out).mono λk hk=>.inl ⟨trivial,hk⟩,e3⟩
      obtain ⟨⟨LR,g0,g1,g2,g3,g4,g5,g6,g7,g8,g9,g10,g11,g12,g13⟩,⟨L2,i0,i1,i2⟩,⟨L3,r0,r1,r2,r3⟩,⟨L4,s0,s1,s2,s3⟩,⟨L6,k0,k1,k2⟩,LE,x0,x1⟩:=o72.out _ SG73.out
      go_wp2_with fail
      all_goals (try (exfalso;go_light;simp_all;done))
      have HN1:Hid (ys=(IN.rows.take (k+1)).filter (λy=>concB x cols ocols rows orows y.row)):=hide (by rw[take_snoc HYX.out,List.filter_append,HYS.out,List.filter_cons_of_neg (by simp[HCB.out])];simp)
      go_wp2
      go_roundg (gk-1)
      case measure=>omega
      case rel=>exact ⟨k+1,ys,by omega,by go_num,HN1.out,by omega,HOLX.out,HLX.out⟩
     ·have hl:=HLEN.out w69 ((below_trans (below_trans SG66.out SG68.out) SG73.out).block _ HMB.out)
      have hLp:0<(L:Int):=by omega
      obtain ⟨⟨LR,g0,g1,g2,g3,g4,g5,g6,g7,g8,g9,g10,g11,g12,g13⟩,⟨L2,i0,i1,i2⟩,⟨L3,r0,r1,r2,r3⟩,⟨L4,s0,s1,s2,s3⟩,⟨L6,k0,k1,k2⟩,LE,x0,x1⟩:=o72.out _ SG73.out
      go_wp2_with fail
      have BC75:=hide (below_trans (below_trans (below_trans (below_trans (below_trans (below_trans (below_trans (below_trans (below_trans SG7.out SG9.out) SG11.out) SG13.out) SG19.out) SG20.out) SG64.out) SG66.out) SG68.out) SG73.out)
      have BC76:=hide (below_trans SG68.out SG73.out)
      refine (text29_any _ A1 n1 c1 cols (HC.out.below BC75.out) A n c x.cols (HN.out.below BC75.out) Ay An Ac y.row (HYR.out.below BC76.out) (by omega) (by omega)).mono ?_
      rintro e w74 ⟨rfl,hb74⟩
      have SG77:=hide (below_trans SG73.out hb74)
      clear hb74
      have lk:=HM.out.look Tryz.underlying95 Tryz.underlying9 (λV=>Tryz.zeroValue4 V) (s:=textS (pickN cols x.cols y.row)) (textS_size _) (V:=w74) ((below_trans (below_trans SG66.out SG68.out) SG77.out).block _ HMB.out)
      have hcv:concB x cols ocols rows orows y.row=concV x cols ocols rows orows (textS (pickN cols x.cols y.row)):=by rw[concB,HCF.out];simp
      obtain ⟨T,hT⟩: ∃q,textS (pickN cols x.cols y.row)=q:=⟨_,rfl⟩
      obtain ⟨cv,hv⟩: ∃q,concV x cols ocols rows orows T=q:=⟨_,rfl⟩
      rw[hT]at lk hcv⊢
      rw[hv]at lk hcv
      have HCV:=hide hcv
      clear hT hv hcv
      cases cv
      ·have HCB:=hide HCV.out
       have HOLX:=hide (OL.below HOL.out (below_trans SG68.out SG77.out))
       have HLX:=hide (below_trans (below_trans SG66.out SG68.out) SG77.out)
       have RT:Hid (Rep.rd w74 (BS WX.heap.size (λ_=>True) [] w74) [.slice Ay An Ac,.int .i64 y.count] y):=hide ⟨Ay,An,Ac,rfl,(Sl.keep (Same.below (below_trans (below_trans SG66.out SG68.out) SG77.out)) HY0.out).mono λk hk=>.inl ⟨trivial,hk⟩,e3⟩
       have HN1:Hid (ys=(IN.rows.take (k+1)).filter (λy=>concB x cols ocols rows orows y.row)):=hide (by rw[take_snoc HYX.out,List.filter_append,HYS.out,List.filter_cons_of_neg (by simp[HCB.out])];simp)
       obtain ⟨⟨LR,g0,g1,g2,g3,g4,g5,g6,g7,g8,g9,g10,g11,g12,g13⟩,⟨L2,i0,i1,i2⟩,⟨L3,r0,r1,r2,r3⟩,⟨L4,s0,s1,s2,s3⟩,⟨L6,k0,k1,k2⟩,LE,x0,x1⟩:=o72.out _ SG77.out
       go_wp2
       all_goals (try (exfalso;go_light;simp_all;done))
       go_roundg (gk-1)
       case measure=>omega
       case rel=>exact ⟨k+1,ys,by omega,by go_num,HN1.out,by omega,HOLX.out,HLX.out⟩
      ·have HCB:=hide HCV.out
       have HOLX:=hide (OL.below HOL.out (below_trans SG68.out SG77.out))
       have HLX:=hide (below_trans (below_trans SG66.out SG68.out) SG77.out)
       have RT:Hid (Rep.rd w74 (BS WX.heap.size (λ_=>True) [] w74) [.slice Ay An Ac,.int .i64 y.count] y):=hide ⟨Ay,An,Ac,rfl,(Sl.keep (Same.below (below_trans (below_trans SG66.out SG68.out) SG77.out)) HY0.out).mono λk hk=>.inl ⟨trivial,hk⟩,e3⟩
       have HN1:Hid (ys++[y]=(IN.rows.take (k+1)).filter (λy=>concB x cols ocols rows orows y.row)):=hide (by rw[take_snoc HYX.out,List.filter_append,HYS.out,List.filter_cons_of_pos (by simpa using HCB.out)];simp)
       obtain ⟨⟨LR,g0,g1,g2,g3,g4,g5,g6,g7,g8,g9,g10,g11,g12,g13⟩,⟨L2,i0,i1,i2⟩,⟨L3,r0,r1,r2,r3⟩,⟨L4,s0,s1,s2,s3⟩,⟨L6,k0,k1,k2⟩,LE,x0,x1⟩:=o72.out _ SG77.out
       go_wp2_with (at_builtin;refine wpList_push_OL _ rfl _ _ _ rfl elem_ents (by simp) w74 _ rfl HOLX.out rfl rfl y RT.out hk63 hk64 ?_;intro v9 w9 ho9 hb9 hg9 hat9)
       have HO9:=hide ho9
       have HB9:=hide (HLX.out.trans hb9)
       clear ho9 hb9 hg9 hat9
       go_wp2
       go_roundg (gk-1)
       case measure=>omega
       case rel=>exact ⟨k+1,ys++[y],by omega,by go_num,HN1.out,by simp;omega,HO9.out,HB9.out⟩
    ·have q0:(CF != 0)=true:=by simpa using hc
     have HCB:Hid (concB x cols ocols rows orows y.row=true):=hide (by rw[concB,HCF.out];simp[hc])
     have HOLX:=hide (OL.below HOL.out (below_trans SG68.out SG73.out))
     have HLX:=hide (below_trans (below_trans SG66.out SG68.out) SG73.out)
     have RT:Hid (Rep.rd w69 (BS WX.heap.size (λ_=>True) [] w69) [.slice Ay An Ac,.int .i64 y.count] y):=hide ⟨Ay,An,Ac,rfl,(Sl.keep (Same.below (below_trans (below_trans SG66.out SG68.out) SG73.out)) HY0.out).mono λk hk=>.inl ⟨trivial,hk⟩,e3⟩
     have HN1:Hid (ys++[y]=(IN.rows.take (k+1)).filter (λy=>concB x cols ocols rows orows y.row)):=hide (by rw[take_snoc HYX.out,List.filter_append,HYS.out,List.filter_cons_of_pos (by simpa using HCB.out)];simp)
     obtain ⟨⟨LR,g0,g1,g2,g3,g4,g5,g6,g7,g8,g9,g10,g11,g12,g13⟩,⟨L2,i0,i1,i2⟩,⟨L3,r0,r1,r2,r3⟩,⟨L4,s0,s1,s2,s3⟩,⟨L6,k0,k1,k2⟩,LE,x0,x1⟩:=o72.out _ SG73.out
     go_wp2_with (at_builtin;refine wpList_push_OL _ rfl _ _ _ rfl elem_ents (by simp) w69 _ rfl HOLX.out rfl rfl y RT.out hk63 hk64 ?_;intro v9 w9 ho9 hb9 hg9 hat9)
     have HO9:=hide ho9
     have HB9:=hide (HLX.out.trans hb9)
     clear ho9 hb9 hg9 hat9
     go_wp2
     go_roundg (gk-1)
     case measure=>omega
     case rel=>exact ⟨k+1,ys++[y],by omega,by go_num,HN1.out,by simp;omega,HO9.out,HB9.out⟩
   ·have hkk:IN.rows.take k=IN.rows:=List.take_of_length_le (by rw[HN7.out];omega)
    have HT:Hid (ys=IN.rows.filter λy=>concB x cols ocols rows orows y.row):=hide (by rw[HYS.out,hkk])
    have HRE:Hid (R=(0,ys)):=hide (by rw[HRD.out,HT.out])
    obtain ⟨A8,c8,rfl,hi8⟩:=HOL.out.inn
    have HXI8:=hide hi8
    have HBW:=hide (below_trans (below_trans (below_trans (below_trans (below_trans (below_trans (below_trans SG7.out SG9.out) SG11.out) SG13.out) SG19.out) SG20.out) SG64.out) SG66.out)
    clear hi8 hkk
    obtain rfl:=HRE.out
    have BC78:=hide (below_trans SG64.out SG66.out)
    obtain ⟨⟨LR,g0,g1,g2,g3,g4,g5,g6,g7,g8,g9,g10,g11,g12,g13⟩,⟨L2,i0,i1,i2⟩,⟨L3,r0,r1,r2,r3⟩,⟨L4,s0,s1,s2,s3⟩,L6,k0,k1,k2⟩:=o63.out _ BC78.out
    go_wp2
    go_ret2
    exact ⟨⟨_,_,_,rfl,HXI8.out⟩,HBW.out⟩
end Go.Proofs.YtggejcekmehocaaGreatDoor
