/-
  Texts of one chapter, merged. By an AI agent; no person has read it.
-/
import Derived.Test.YtchfclmokpbldaaGreatRel
import Derived.Test.YtchfclmokpbldaaGreatCflowR
set_option linter.unusedVariables false
set_option linter.unusedSimpArgs false
set_option maxRecDepth 20000
namespace Go.Proofs.YtchfclmokpbldaaGreat
open Go.Aw Go
section
attribute [local irreducible] CJ LJ DJ Tri YV Gives Ui J0 Ke Uh RV J2 OwL.L
section
variable {A9 B9:Prop}
theorem Zje (h:B9:=by exact ⟨OwL.nil,OwL.nil,by rw [hsv];rfl,OwL.nil_ok,OwL.nil_ok,by rw [hsv],by rw [hsv],by rw [Kh,List.nil_append,List.nil_append],rfl⟩):B9:=h
end
theorem Khe (a:XAir) (s:XSetting) (ps:Arr Int) (A:List Bool) (L:List Blk) (R:List Sl) (hm:AirR a R) (hs:SetR s R) (hps:InR (isl ps) R) (hA:Ky a=0→AiryIs a.mine A):
    Tri Tryz.prog 187 [a.val,s.val,ps.val].toArray L R (fun w L' R'=>∃p:OwL Int,w=.tuple #[p.val,.int .i64 (K5 a s A true ps.l).1]∧p.ok 1 Jp∧p.l=(K5 a s A true ps.l).2∧p.L 3 Jp ++ L=L'∧R=R'):=
  Tri.turn (Z7c a s ps A L R hm hs hps hA) fun v L' R' ⟨p,S,a1,a2,a3,a4,a5⟩=>⟨L',R,List.Perm.refl _,fun r h=>Ja (by rw [← a5];simp [h]),p,a1,a2,a3,a4,rfl⟩
theorem Kge (a:XAir) (s:XSetting) (ps:Arr Int) (A:List Bool) (L:List Blk) (R:List Sl) (hm:AirR a R) (hs:SetR s R) (hps:InR (isl ps) R) (hA:Ky a=0→AiryIs a.mine A):
    Tri Tryz.prog 186 [a.val,s.val,ps.val].toArray L R (fun w L' R'=>∃p:OwL Int,w=.tuple #[p.val,.int .i64 (K5 a s A false ps.l).1]∧p.ok 1 Jp∧p.l=(K5 a s A false ps.l).2∧p.L 3 Jp ++ L=L'∧R=R'):=
  Tri.turn (Jad a s ps A L R hm hs hps hA) fun v L' R' ⟨p,S,a1,a2,a3,a4,a5⟩=>⟨L',R,List.Perm.refl _,fun r h=>Ja (by rw [← a5];simp [h]),p,a1,a2,a3,a4,rfl⟩
theorem Jzd {a:XAir} {s:XSetting} {q:OwL Int} {A:List Bool} {L:List Blk} {R:List Sl} {vl:Value} (hvl:vl=q.val) (hm:AirR a R) (hs:SetR s R) (hA:Ky a=0→AiryIs a.mine A) (hin:InB (q.L 3 Jp) L) (hok:q.ok 1 Jp):
    Tri Tryz.prog 186 [a.val,s.val,vl].toArray L R (fun w L' R'=>∃p:OwL Int,w=.tuple #[p.val,.int .i64 (K5 a s A false q.l).1]∧p.ok 1 Jp∧p.l=(K5 a s A false q.l).2∧p.L 3 Jp ++ L=L'∧R=R'):=by
  subst hvl
  have h2:=Tri.lend (S:=[isl q.arr]) (Post:=fun v L'=>∃p:OwL Int,v=.tuple #[p.val,.int .i64 (K5 a s A false q.l).1]∧p.ok 1 Jp∧p.l=(K5 a s A false q.l).2∧p.L 3 Jp ++ []=L') (Spl.rest (L:=L)) (fun w G hh s hs=>by
    rw [List.mem_singleton.1 hs]
    exact Z1a hh hin hok (fun _=>rfl) zc (fun s hs=>by cases hs)) ((Kge a s q.arr A [] _ (Jma hm fun r h=>Ja (.tail _ h)) (Vya hs fun r h=>Ja (.tail _ h)) zpb hA).mono fun v L' R' ⟨p,a1,a2,a3,a4,a5⟩=>⟨⟨p,a1,a2,a3,a4⟩,a5⟩)
  exact Tri.turn h2 fun v L'' R' ⟨L',e,⟨p,a1,a2,a3,a4⟩,a5⟩=>⟨_,R',by rw [← e,← a4,List.append_nil];exact List.perm_append_comm,fun r hr=>Ja hr,p,a1,a2,a3,rfl,a5⟩
theorem Vkc (a:XAir) (s:XSetting) (A:List Bool) (L:List Blk) (R:List Sl) (hm:AirR a R) (hs:SetR s R) (hA:Ky a=0→AiryIs a.mine A) (hnp:a.mine.places.l.length≤64):
    Tri Tryz.prog 111 [a.val,s.val].toArray L R (fun w L' R'=>∃lo hi:OwL Int,w=.tuple #[.agg #[lo.val,hi.val],.int .i64 (Yb a s A).1]∧lo.ok 1 Jp∧hi.ok 1 Jp∧lo.l=(Yb a s A).2.1∧hi.l=(Yb a s A).2.2∧lo.L 3 Jp ++ (hi.L 3 Jp ++ L)=L'∧R=R'):=by
  have hmp:=hm.places
  have hzok:∀b,(⟨.own b a.mine.places.l.length [],List.replicate a.mine.places.l.length 0⟩:OwL Int).ok 1 Jp:=fun b=>Ze (fun _=>rfl) zE
  refine Jg 49 Tryz.call111 Tryz.func111 rfl rfl rfl ?_
  refine Xag ?_
  intro b2
  refine qax ?_
  intro b3
  refine qaq ?_
  intro b4
  refine Xb3 ?_
  refine Kn tb [0,1,2,3,4,5,6,7,8,9,10,11,12] ([Blk.mk b3 _ _,Blk.mk b2 _ _]) K1 ze zi ?_
  refine qbc ?_
  refine qbd ?_
  refine Xdh ?_
  refine Kv ztb rfl rfl rfl ?_
  refine Yjb zQb rfl rfl rfl ?_
  rintro v L' R' ⟨b16,rfl,rfl,hR16⟩
  replace hR16:=hR16.symm;subst hR16
  refine qa1 ?_
  refine Yt rfl (Jzd (q:=⟨.own b16 a.mine.places.l.length [],List.replicate a.mine.places.l.length 0⟩) (Zne (α:=Int)).symm hm hs hA (Kte (f:=Jp) (x:=0) rfl) (hzok b16)) rfl rfl ?_
  rintro v L' R' ⟨p,rfl,hpk,hpl,rfl,rfl⟩
  refine ⟨zi,zw,?_⟩
  replace hpl:p.l=(K5 a s A false (List.replicate a.mine.places.l.length 0)).2:=hpl
  refine Kv zDb rfl rfl rfl ?_
  refine Kv zNb rfl rfl rfl ?_
  refine Kv zNb rfl rfl rfl ?_
  refine Kv (Ud zfb) rfl rfl rfl ?_
  refine qcg ?_
  refine J1 (Jb (Jn (Jn ?_)))
  refine Uka (A:=[]) (wd:=1) [] (fun _=>rfl) zc hpk (fun s hs=>by cases hs) ?_
  refine Uv (by simp only [List.nil_append];rfl) ?_
  have hm1:AirR a (isl p.arr :: R):=Jma hm fun r h=>Ja (.tail _ h)
  have hs1:SetR s (isl p.arr :: R):=Vya hs fun r h=>Ja (.tail _ h)
  obtain ⟨x,hx⟩:∃x,x=K5 a s A false (List.replicate a.mine.places.l.length 0):=⟨_,rfl⟩
  rw [← hx] at hpl ⊢
  refine Xa3 ?_
  refine Xaq ?_
  refine q_c (fun hc0=>?_) (fun hc0=>?_)
  ·
   refine qae ?_
   refine qck ?_
   refine Xby ?_
   refine Ks (L':=L) (R':=R) (Ug rfl zhb zzc) ?hp ?hL ?hR
   case hp=>
    have hsv:Yb a s A=(x.1,[],[]):=by rw [Yb];dsimp only;rw [← hx,if_pos hc0]
    exact Zje
   case hL=>exact zi
   case hR=>exact fun r h=>Ja (by simp [h])
  refine qbv ?_
  refine Xcb ?_
  refine qbm ?_
  refine Js rfl (Khe a s p.arr A _ _ hm1 hs1 zpb hA) rfl ?_
  rintro v L' R' ⟨q,rfl,hqk,hql,rfl,rfl⟩
  replace hql:q.l=(K5 a s A true p.l).2:=hql
  obtain ⟨y,hy⟩:∃y,y=K5 a s A true p.l:=⟨_,rfl⟩
  rw [← hy] at hql ⊢
  have hxy:y=K5 a s A true x.2:=by rw [hy,hpl]
  refine Jx zDb rfl ?_
  refine Xa4 ?_
  refine qc4 ?_
  refine Xdb ?_
  refine Xaq ?_
  refine q_c (fun hc1=>?_) (fun hc1=>?_)
  ·
   refine qae ?_
   refine qck ?_
   refine Xby ?_
   refine Ks (L':=L) (R':=R) (Ug rfl zhb zzc) ?hp ?hL ?hR
   case hp=>
    have hsv:Yb a s A=(y.1,[],[]):=by rw [Yb];dsimp only;rw [← hx,if_neg hc0,← hxy,if_pos hc1]
    exact Zje
   case hL=>exact zi
   case hR=>exact fun r h=>Ja (by simp [h])
  refine qbv ?_
  refine Xcb ?_
  refine qbm ?_
  refine Js rfl (Jzd (q:=q) rfl hm1 hs1 hA zO hqk) rfl ?_
  rintro v L' R' ⟨u,rfl,huk,hul,rfl,rfl⟩
  obtain ⟨z,hz⟩:∃z,z=K5 a s A false q.l:=⟨_,rfl⟩
  rw [← hz] at hul ⊢
  have hyz:z=K5 a s A false y.2:=by rw [hz,hql]
  refine Jx zDb rfl ?_
  refine Xa4 ?_
  refine qc4 ?_
  refine Xdb ?_
  refine Xaq ?_
  refine q_c (fun hc2=>?_) (fun hc2=>?_)
  ·
   refine qae ?_
   refine qck ?_
   refine Xby ?_
   refine Ks (L':=L) (R':=R) (Ug rfl zhb zzc) ?hp ?hL ?hR
   case hp=>
    have hsv:Yb a s A=(z.1,[],[]):=by rw [Yb];dsimp only;rw [← hx,if_neg hc0,← hxy,if_neg hc1,← hyz,if_pos hc2]
    exact Zje
   case hL=>exact zi
   case hR=>exact fun r h=>Ja (by simp [h])
  refine qbv ?_
  refine qbm ?_
  refine qbm ?_
  refine Jx zyb rfl ?_
  refine Xbl ?_
  refine Ks (L':=u.L 3 Jp ++ (q.L 3 Jp ++ L)) (R':=R) (Ug rfl zhb zzc) ?hp ?hL ?hR
  case hp=>
   have hsv:Yb a s A=(0,z.2,y.2):=by rw [Yb];dsimp only;rw [← hx,if_neg hc0,← hxy,if_neg hc1,← hyz,if_neg hc2]
   exact ⟨u,q,by rw [hsv];rfl,huk,hqk,by rw [hsv];exact hul,by rw [hsv];exact hql,rfl,rfl⟩
  case hL=>exact zi
  case hR=>exact fun r h=>Ja (by simp [h])
end
section
structure FlowTo (a:XAir) (s:XSetting) (b:XBounds) (A:List Bool) (n:XNet) (k:Nat) (l:List XSpan):Prop where
  len:l.length=a.mine.roads.l.length
  don:∀(j:Nat) (p:XPipe),j < k→n.pipes.l[j]?=some p→l[p.num.toNat]?=some (Ux a s b A p.num.toNat)
  non:∀i:Nat,i < a.mine.roads.l.length→(∀(j:Nat) (p:XPipe),j < k→n.pipes.l[j]?=some p→p.num.toNat≠i)→l[i]?=some ⟨0,0⟩
theorem FlowTo.zero (a:XAir) (s:XSetting) (b:XBounds) (A:List Bool) (n:XNet):FlowTo a s b A n 0 (List.replicate a.mine.roads.l.length ⟨0,0⟩):=
  ⟨by simp,fun j p hj=>by omega,fun i hi _=>by rw [List.getElem?_replicate,if_pos hi]⟩
theorem FlowTo.next {a:XAir} {s:XSetting} {b:XBounds} {A:List Bool} {n:XNet} {k:Nat} {l:List XSpan} (h:FlowTo a s b A n k l) {p:XPipe} (hp:n.pipes.l[k]?=some p) (hr:p.num.toNat < a.mine.roads.l.length) {x:XSpan} (hx:x=Ux a s b A p.num.toNat):FlowTo a s b A n (k + 1) (l.set p.num.toNat x):=by
  have hl:=h.len
  subst hx
  refine ⟨by simp [hl],fun j q hj hq=>?_,fun i hi hn=>?_⟩
  · rw [List.getElem?_set]
    split
    · rename_i e;rw [if_pos za,e]
    · rename_i e
      rcases Nat.lt_or_ge j k with h1 | h1
      · exact h.don j q h1 hq
      · obtain rfl : j = k := by omega
        rw [hp] at hq
        cases hq
        exact absurd rfl e
  · rw [List.getElem?_set_ne (hn k p za hp)]
    exact h.non i hi fun j q hj hq=>hn j q za hq
theorem FlowTo.done {a:XAir} {s:XSetting} {b:XBounds} {A:List Bool} {n:XNet} {l:List XSpan} (h:FlowTo a s b A n n.pipes.l.length l) (hn:NetIs a s n):l=(List.range a.mine.roads.l.length).map (Ux a s b A):=by
  have hl:=h.len
  refine List.ext_getElem? fun i=>?_
  rcases Nat.lt_or_ge i a.mine.roads.l.length with hi | hi
  · rw [List.getElem?_map, List.getElem?_range hi]
    show _=some (Ux a s b A i)
    cases hc:(a.mine.roads.l.getD i default).closed with
    | true=>
      rw [Ux,if_pos hc]
      refine h.non i hi fun j p hj hp e=>?_
      have:=(hn.open (List.mem_of_getElem? hp)).2
      rw [e,hc] at this
      cases this
    | false=>
      obtain ⟨j,p,hj,hp⟩:=hn.find (r:=(i:Int)) za (by rw [Int.toNat_natCast];exact hc)
      have:=h.don j p (List.getElem?_eq_some_iff.1 hj).1 hj
      rw [hp,Int.toNat_natCast] at this
      exact this
  · rw [List.getElem?_eq_none za,List.getElem?_eq_none zD]
end
section
attribute [local irreducible] CJ LJ DJ Tri YV Gives Ui J0 Ke Uh RV J2 OwL.L
section
variable {A9 B9:Prop}
theorem J7f (a:A9) (h:A9→B9:=by exact Kx (Jl (row:=[_,_,_,_,_,_,_,_,_,_,_,_]) tb rfl rfl rfl zf zb zb) rfl rfl rfl rfl):B9:=h a
theorem Uyf (a:A9) (h:A9→B9:=by exact Kx (by first | exact Jf tb rfl rfl rfl rfl zt (i:=P.road.fr.toNat) zk za | exact Jk tb rfl rfl rfl rfl (i:=P.road.fr.toNat) zk za) rfl rfl rfl rfl):B9:=h a
theorem Uzf (a:A9) (h:A9→B9:=by exact Kx (by first | exact Jf tb rfl rfl rfl rfl zt (i:=P.road.to.toNat) zk za | exact Jk tb rfl rfl rfl rfl (i:=P.road.to.toNat) zk za) rfl rfl rfl rfl):B9:=h a
end
theorem V3d (a:XAir) (s:XSetting) (b:XBounds) (A:List Bool) (L:List Blk) (R:List Sl) (hm:AirR a R) (hs:SetR s R) (hb:BoundsR b R) (hA:Ky a=0→AiryIs a.mine A):
    Tri Tryz.prog 112 [a.val,s.val,b.val].toArray L R (fun v L' R'=>∃(p:OwL XSpan) (S:List Sl),v=p.val∧p.ok 2 XSpan.cells∧p.l=Uq a s b A∧p.L 90 XSpan.cells ++ L=L'∧S ++ R=R'):=by
  have hmr:=hm.roads
  have hbl:=hb.low
  have hbh:=hb.high
  refine Jg 85 Tryz.call112 Tryz.func112 rfl rfl rfl ?_
  refine Xag ?_
  intro b3
  refine qax ?_
  intro b4
  refine qax ?_
  intro b5
  refine Xb9 ?_
  refine Xcb ?_
  refine qbe ?_
  refine Js rfl (Vwe a s b A _ _ hm hs hb hA) rfl ?_
  rintro v L' R' ⟨S1,rfl,rfl,rfl⟩
  have hm1:AirR a (S1 ++ R):=⟨hm.places.mono fun r h=>Ja (by simp [h]),hm.roads.mono fun r h=>Ja (by simp [h]),hm.fans.mono fun r h=>Ja (by simp [h]),hm.doors.mono fun r h=>Ja (by simp [h])⟩
  have hmr1:=hm1.roads
  refine Xaq ?_
  refine q_c (fun hc0=>?_) (fun hc0=>?_)
  ·
   refine Xcw ?_
   refine qbh ?_
   refine q_r (L':=L) (R':=S1 ++ R) zSc ?_
   exact ⟨OwL.nil,S1,rfl,OwL.nil_ok,by rw [Uq,if_neg hc0],by rw [Kh,List.nil_append],rfl⟩
  have hck:Ys a s b A=0:=by omega
  have hC:=Utc hck
  have hok:=Zs hC.h0
  have hfo:=Kjc hC.hf
  have hAA:=hA hC.h0
  have hnr:=hok.mine.roads
  have hln:=hC.hl
  have hhn:=hC.hh
  refine qbv ?_
  refine Xck ?_
  refine qc7 ?_
  rintro v L' R' ⟨b20,rfl,rfl,hR20⟩
  replace hR20:=hR20.symm;subst hR20
  refine Xcm ?_
  refine Uv (Y3 (f:=XSpan.cells) (x:=⟨0,0⟩) rfl _) ?_
  refine qay ?_
  refine Xdp ?_
  refine Js rfl (Ujb a.mine _ _ hm1.mineR hok.mine (Uza hC.h0)) rfl ?_
  rintro v L' R' ⟨p,A2,S2,rfl,hpk,hA2,hpl,rfl,rfl⟩
  obtain rfl:A=A2:=hAA.unique hA2
  have hplen:p.l.length=a.mine.places.l.length:=by rw [hpl,List.length_map];exact hAA.length
  have hm2:AirR a (S2 ++ (S1 ++ R)):=⟨hm1.places.mono fun r h=>Ja zja,hm1.roads.mono fun r h=>Ja zja,hm1.fans.mono fun r h=>Ja zja,hm1.doors.mono fun r h=>Ja zja⟩
  have hs2:SetR s (S2 ++ (S1 ++ R)):=⟨hs.fans.mono fun r h=>Ja (by simp [h]),hs.doors.mono fun r h=>Ja (by simp [h])⟩
  refine Xb9 ?_
  refine Xcb ?_
  refine Js rfl (J3c a s _ _ hm2 hs2 hok hfo) rfl ?_
  rintro v L' R' ⟨n,rfl,hn,rfl,rfl⟩
  have hpp:InR (Yla n.pipes) (Yla n.pipes :: Via n.at_ :: (S2 ++ (S1 ++ R))):=Ja (.head _)
  have hbl3:InR (isl b.low) (Yla n.pipes :: Via n.at_ :: (S2 ++ (S1 ++ R))):=hbl.mono fun r h=>Ja (by simp [h])
  have hbh3:InR (isl b.high) (Yla n.pipes :: Via n.at_ :: (S2 ++ (S1 ++ R))):=hbh.mono fun r h=>Ja (by simp [h])
  have hnl:=hn.length
  refine Jx (Uac (e:=218) tb rfl ze rfl rfl rfl rfl rfl) rfl ?_
  refine Xc1 ?_
  refine Jo [(5,Value.pointer _),(7,Value.slice _ _ _),(8,Value.slice _ _ _),(27,Value.slice _ _ _),(28,Value.int _ _),(29,Value.int _ _)] zg fun tq0=>?_
  refine q_p [10,29,30,31,32,33,34,35,36,37,38,39,40,41,42,43,44,45,46,47,48,49,50,51,52,53,54,55,56,57,58,59,60,61,62,63,64,65,66,67,68,69,70,71,72,73,74,75,76,77,78,79,80,81,82,83] ((⟨fun q=>[(29,.int .i64 ((q.1.1:Nat):Int))],fun q=>p.L 4 blc ++ ((⟨.own b20 a.mine.roads.l.length [],q.1.2⟩:OwL XSpan).L 90 XSpan.cells ++ (⟨b5,b.cells,214⟩ :: ⟨b4,s.cells,80⟩ :: ⟨b3,a.cells,32⟩ :: L)),fun _=>Yla n.pipes :: Via n.at_ :: (S2 ++ (S1 ++ R)),fun q=>n.pipes.l.length - q.1.1⟩:Head {q:Nat×List XSpan // q.1≤n.pipes.l.length∧FlowTo a s b A n q.1 q.2})) (⟨(0,List.replicate a.mine.roads.l.length ⟨0,0⟩),by dsimp only;omega,FlowTo.zero a s b A n⟩) ?_
  rintro ⟨⟨k,l⟩,w1,w2⟩ junk
  try dsimp only
  dsimp only at w1 w2
  have hll:=w2.len
  have hkq:(⟨.own b20 a.mine.roads.l.length [],l⟩:OwL XSpan).ok 2 XSpan.cells:=by have:=Ze (f:=XSpan.cells) (wd:=2) (b:=b20) (n:=a.mine.roads.l.length) (x:=⟨0,0⟩) (fun _=>rfl) zE;exact OwL.len_ok (fun _=>rfl) this (by simp;exact hll)
  refine Xak ?_
  refine q_c (fun hc1=>?_) (fun hc1=>?_)
  ·
   obtain ⟨P,hP⟩:=Kr (l:=n.pipes.l) (k:=k) za
   have hPI:=InR.pipe hpp hP
   obtain ⟨hPn,hPo⟩:=hn.open (List.mem_of_getElem? hP)
   have hPs:=hn.pipe P (List.mem_of_getElem? hP)
   have hPk:=V7c hok hPn hPs
   have hdr:Zsa P=Uk a s ((P.num.toNat:Nat):Int):=funext fun q=>by rw [Ksd hPs q,Int.toNat_of_nonneg hPn.1]
   have hro:=hok.mine.road P.num.toNat _ zsc
   have hr1:=hro.fr
   have hr2:=hro.to
   have hef:P.road.fr=(a.mine.roads.l.getD P.num.toNat default).fr:=by rw [hPs.road]
   have het:P.road.to=(a.mine.roads.l.getD P.num.toNat default).to:=by rw [hPs.road]
   have hAl:=hAA.length
   have hpg:p.l[P.road.fr.toNat]?=some (!(A.getD P.road.fr.toNat false)):=by rw [hpl,List.getElem?_map,Jw (l:=A) (k:=P.road.fr.toNat) false za];rfl
   have g1:=Jw (l:=b.low.l) (k:=P.road.fr.toNat) 0 za
   have g2:=Jw (l:=b.low.l) (k:=P.road.to.toNat) 0 za
   have g3:=Jw (l:=b.high.l) (k:=P.road.fr.toNat) 0 za
   have g4:=Jw (l:=b.high.l) (k:=P.road.to.toNat) 0 za
   have e1:=hC.pl.get P.road.fr.toNat
   have e2:=hC.pl.get P.road.to.toNat
   have e3:=hC.ph.get P.road.fr.toNat
   have e4:=hC.ph.get P.road.to.toNat
   have hlg:=Jw (l:=l) (k:=P.num.toNat) default za
   refine qbb ?_
   refine Jx zB rfl ?_
   refine qdx ?_
   refine qaq ?_
   intro b10
   refine Xa9 ?_
   refine qbm ?_
   refine qab ?_
   refine Xaa ?_
   refine Jx (Ju tb (p) _ rfl rfl rfl rfl zh (i:=P.road.fr.toNat) zk zu) rfl ?_
   refine Jx zub rfl ?_
   refine qaf ?_
   refine q_c (fun hc2=>?_) (fun hc2=>?_)
   ·
    have hrf:nothingS=Ux a s b A P.num.toNat:=by rw [Ux,if_neg (by rw [hPo];decide),← hef,if_neg zJ]
    refine qae ?_
    refine Xcg ?_
    refine qcd ?_
    refine Jx zDc rfl ?_
    refine Ye (Um tb ((⟨.own b20 a.mine.roads.l.length [],l⟩:OwL XSpan)) (nothingS) rfl rfl rfl rfl zj zh (fun _=>rfl) zh (Nat.le_of_ble_eq_true rfl) zb zb) ?_
    rintro v L' R' ⟨rfl,rfl⟩
    refine J6 (Jb (K8 (Kq (Kc (Jb (Jh ?_))))))
    refine Xae ?_
    exact q_k ⟨(k + 1,l.set P.num.toNat _),by dsimp only;omega,w2.next hP za hrf⟩
   have hrf:(⟨Vk (Zsa P) (b.low.l.getD P.road.fr.toNat 0 - b.high.l.getD P.road.to.toNat 0),Up (Zsa P) (b.high.l.getD P.road.fr.toNat 0 - b.low.l.getD P.road.to.toNat 0)⟩:XSpan)=Ux a s b A P.num.toNat:=by rw [Ux,if_neg (by rw [hPo];decide),← hef,← het,if_pos zJ,hdr]
   refine J5 (Jb ?_)
   refine Kj tb [] [0,1,2,3,4,5,6,7,8,9,10,11,12,13,14,15,16,17,18,20,21,22,23,24,25,26,27,28,29,30,31,32,33,34,35,19,36,37,38] [39] ([Blk.mk b10 _ _,Blk.mk b5 _ _]) _ K1 ze zi (List.Sublist.refl _) ?_
   refine Xcu ?_
   refine J7f ?_
   refine Xar ?_
   refine qan ?_
   refine Xar ?_
   refine Uyf ?_
   refine qci ?_
   refine Xar ?_
   refine qan ?_
   refine Xar ?_
   refine Uzf ?_
   refine qci ?_
   refine qcc ?_
   refine J7f ?_
   refine Xar ?_
   refine qan ?_
   refine Xar ?_
   refine Uyf ?_
   refine qci ?_
   refine Xar ?_
   refine qan ?_
   refine Xar ?_
   refine Uzf ?_
   refine qci ?_
   refine qcc ?_
   refine Vi rfl (Zma P (b.low.l.getD P.road.fr.toNat 0 - b.high.l.getD P.road.to.toNat 0) _ _ hPI hPk) rfl rfl ?_
   rintro v L' R' ⟨rfl,rfl,rfl⟩
   refine ⟨zi,zw,?_⟩
   refine Vi rfl (Vra P (b.high.l.getD P.road.fr.toNat 0 - b.low.l.getD P.road.to.toNat 0) _ _ hPI hPk) rfl rfl ?_
   rintro v L' R' ⟨rfl,rfl,rfl⟩
   refine ⟨zi,zw,?_⟩
   refine qcw ?_
   refine Kx zDc rfl rfl rfl rfl ?_
   refine qba ?_
   refine Kcb (Um tb ((⟨.own b20 a.mine.roads.l.length [],l⟩:OwL XSpan)) (⟨Vk (Zsa P) (b.low.l.getD P.road.fr.toNat 0 - b.high.l.getD P.road.to.toNat 0),Up (Zsa P) (b.high.l.getD P.road.fr.toNat 0 - b.low.l.getD P.road.to.toNat 0)⟩) rfl rfl rfl rfl zj zh (fun _=>rfl) zh (Nat.le_of_ble_eq_true rfl) zb zb) rfl rfl ?_
   rintro v L' R' ⟨rfl,rfl⟩
   refine qa1 ?_
   refine Xc7 ?_
   exact q_k ⟨(k + 1,l.set P.num.toNat _),by dsimp only;omega,w2.next hP za hrf⟩
  obtain rfl:k=n.pipes.l.length:=by omega
  refine Xcp ?_
  refine Xcq ?_
  refine q_r (L':=(⟨.own b20 a.mine.roads.l.length [],l⟩:OwL XSpan).L 90 XSpan.cells ++ L) (R':=Yla n.pipes :: Via n.at_ :: (S2 ++ (S1 ++ R))) zSc ?_
  exact ⟨(⟨.own b20 a.mine.roads.l.length [],l⟩:OwL XSpan),Yla n.pipes :: Via n.at_ :: (S2 ++ S1),Us hll,hkq,by rw [Uq,if_pos hck];exact w2.done hn,rfl,by simp [List.append_assoc]⟩
end
section
attribute [local irreducible] CJ LJ DJ Tri YV Gives Ui J0 Ke Uh RV J2 OwL.L
theorem K7b {a:XAir} {s:XSetting} {b b':XBounds} {A:List Bool} (h1:b.low.l=b'.low.l) (h2:b.high.l=b'.high.l):Uq a s b A=Uq a s b' A:=by
  have e1:U0 a s b A=U0 a s b' A:=funext fun i=>by rw [U0,U0,h1,h2]
  have e2:Ys a s b A=Ys a s b' A:=by rw [Ys,Ys,h1,h2,e1]
  have e3:Ux a s b A=Ux a s b' A:=funext fun i=>by rw [Ux,Ux,h1,h2]
  rw [Uq,Uq,e2,e3]
def Zya (a:XAir) (s:XSetting) (A:List Bool):XBounds:=⟨⟨none,0,(Yb a s A).2.1⟩,⟨none,0,(Yb a s A).2.2⟩⟩
def Kea (a:XAir) (k:Nat):XSpan:=if (a.mine.roads.l.getD k default).closed=true then ⟨0,0⟩ else nothingS
def Umb (a:XAir) (s:XSetting) (A:List Bool):Int×List XSpan:=
  if Ky a≠0 then (Ky a,[]) else if Vja a s=false then (21,[]) else if (Yb a s A).1=0 then (0,Uq a s (Zya a s A) A)
  else (0,(List.range a.mine.roads.l.length).map (Kea a))
theorem K6 (L:List Blk) (R:List Sl):
    Tri Tryz.prog 96 [].toArray L R (fun v L' R'=>v=nothingS.val∧L=L'∧R=R'):=by
  refine Jg 2 Tryz.call96 Tryz.func96 rfl rfl rfl ?_
  refine qae ?_
  refine qaq ?_
  intro b0
  refine qam ?_
  refine qcd ?_
  refine Xbr ?_
  refine q_r (L':=L) (R':=R) zBc ?_
  exact zpd
structure BlindTo (a:XAir) (i:Nat) (l:List XSpan):Prop where
  len:l.length=a.mine.roads.l.length
  don:∀j:Nat,j < i→l[j]?=some (Kea a j)
  non:∀j:Nat,i≤j→j < a.mine.roads.l.length→l[j]?=some ⟨0,0⟩
theorem BlindTo.next {a:XAir} {i:Nat} {l:List XSpan} (h:BlindTo a i l) (hi:i < a.mine.roads.l.length) {x:XSpan} (hx:x=Kea a i):BlindTo a (i + 1) (l.set i x):=by
  have hl:=h.len
  refine ⟨by simp [hl],fun j hj=>?_,fun j h1 h2=>?_⟩
  · rw [List.getElem?_set]
    split
    · rename_i e;rw [if_pos za,hx,e]
    · exact h.don j za
  · rw [List.getElem?_set_ne za]
    exact h.non j za h2
theorem BlindTo.stay {a:XAir} {i:Nat} {l:List XSpan} (h:BlindTo a i l) (hi:i < a.mine.roads.l.length) (hx:(⟨0,0⟩:XSpan)=Kea a i):BlindTo a (i + 1) l:=by
  refine ⟨h.len,fun j hj=>?_,fun j h1 h2=>h.non j za h2⟩
  rcases Nat.lt_or_ge j i with h1 | h1
  · exact h.don j h1
  · obtain rfl : j = i := by omega
    rw [h.non j (Nat.le_refl _) hi,hx]
theorem BlindTo.done {a:XAir} {l:List XSpan} (h:BlindTo a a.mine.roads.l.length l):l=(List.range a.mine.roads.l.length).map (Kea a):=by
  have hl:=h.len
  refine List.ext_getElem? fun j=>?_
  rcases Nat.lt_or_ge j a.mine.roads.l.length with hj | hj
  · rw [h.don j hj,List.getElem?_map,List.getElem?_range hj];rfl
  · rw [List.getElem?_eq_none za,List.getElem?_eq_none zD]
theorem Y8c (a:XAir) (s:XSetting) (A:List Bool) (L:List Blk) (R:List Sl) (hm:AirR a R) (hs:SetR s R) (hA:Ky a=0→AiryIs a.mine A):
    Tri Tryz.prog 40 [a.val,s.val].toArray L R (fun w L' R'=>∃p:OwL XSpan,w=.tuple #[p.val,.int .i64 (Umb a s A).1]∧p.ok 2 XSpan.cells∧p.l=(Umb a s A).2∧p.L 90 XSpan.cells ++ L=L'∧R=R'):=by
  have hmr:=hm.roads
  refine Jg 56 Tryz.call40 Tryz.func40 rfl rfl rfl ?_
  refine Xag ?_
  intro b2
  refine qax ?_
  intro b3
  refine qc4 ?_
  refine Xas ?_
  refine qa8 ?_
  refine q_l rfl (Zi a _ _ hm) ?_
  refine Xa7 ?_
  refine q_c (fun hc0=>?_) (fun hc0=>?_)
  ·
   refine Xbc ?_
   refine qc4 ?_
   refine Xai ?_
   refine q_r (L':=L) (R':=R) zPc ?_
   exact ⟨OwL.nil,by rw [Umb,if_pos hc0];rfl,OwL.nil_ok,by rw [Umb,if_pos hc0],by rw [Kh,List.nil_append],rfl⟩
  have h0:Ky a=0:=by omega
  have hok:=Zs h0
  have hnp:=hok.mine.places
  have hnr:=hok.mine.roads
  refine qbo ?_
  refine Xcb ?_
  refine q_l rfl (Zga a s _ _ hm hs) ?_
  refine Xbd ?_
  refine q_c (fun hc1=>?_) (fun hc1=>?_)
  ·
   refine Xcw ?_
   refine Xai ?_
   refine q_r (L':=L) (R':=R) zPc ?_
   exact ⟨OwL.nil,by rw [Umb,if_neg hc0,if_pos zH];rfl,OwL.nil_ok,by rw [Umb,if_neg hc0,if_pos zH],by rw [Kh,List.nil_append],rfl⟩
  have hf0:Vja a s=true:=by simpa using hc1
  have hff:¬ Vja a s=false:=by rw [hf0];decide
  refine qbo ?_
  refine Xcb ?_
  refine Js rfl (Vkc a s A _ _ hm hs hA za) rfl ?_
  rintro v L' R' ⟨lo,hi,rfl,h1,h2,h3,h4,rfl,rfl⟩
  refine Jx zDb rfl ?_
  refine Xcx ?_
  intro b7
  refine qak ?_
  refine Xb3 ?_
  refine Uka (A:=[_]) (wd:=1) [] (fun _=>rfl) zc h1 (fun s hs=>by cases hs) ?_
  refine qb1 ?_
  refine Uka (A:=[_]) (wd:=1) [] (fun _=>rfl) zc h2 (fun s hs=>by cases hs) ?_
  refine qb1 ?_
  have hR2:∀r∈R,InR r (isl hi.arr :: isl lo.arr :: R):=fun r hr=>Ja (by simp [hr])
  have hB2:BoundsR ⟨lo.arr,hi.arr⟩ (isl hi.arr :: isl lo.arr :: R):=⟨Ja (.tail _ (.head _)),Ja (.head _)⟩
  have hmr2:=hmr.mono hR2
  refine Xa3 ?_
  refine Xcd ?_
  refine q_c (fun hc2=>?_) (fun hc2=>?_)
  ·
   refine qae ?_
   refine Xcb ?_
   refine qbe ?_
   refine Js rfl (V3d a s ⟨lo.arr,hi.arr⟩ A _ _ (Jma hm hR2) (Vya hs hR2) hB2 hA) rfl ?_
   rintro v L' R' ⟨p,S,rfl,hpk,hpl,rfl,rfl⟩
   refine qc4 ?_
   refine Xai ?_
   refine Ks (L':=p.L 90 XSpan.cells ++ L) (R':=R) zPc ?hp ?hL ?hR
   case hp=>
    have ha:Umb a s A=(0,Uq a s (Zya a s A) A):=by rw [Umb,if_neg hc0,if_neg hff,if_pos hc2]
    exact ⟨p,by rw [ha];rfl,hpk,by rw [ha,hpl];exact K7b h3 h4,rfl,rfl⟩
   case hL=>exact zi
   case hR=>exact fun r h=>Ja (by simp [h])
  refine qbv ?_
  refine Xck ?_
  refine qc7 ?_
  rintro v L' R' ⟨b37,rfl,rfl,hR37⟩
  replace hR37:=hR37.symm;subst hR37
  refine qc4 ?_
  refine qco ?_
  refine Uv (Y3 (f:=XSpan.cells) (x:=⟨0,0⟩) rfl _) ?_
  refine qay ?_
  refine qab ?_
  refine Xaw ?_
  refine Jo [(9,Value.slice _ _ _),(40,Value.slice _ _ _),(41,Value.int _ _),(42,Value.int _ _)] zg fun tq0=>?_
  refine q_p [10,11,42,43,44,45,46,47,48,49,50,51,52,53,54] ((⟨fun g=>[(42,.int .i64 ((g.1.1:Nat):Int))],fun g=>(⟨.own b37 a.mine.roads.l.length [],g.1.2⟩:OwL XSpan).L 90 XSpan.cells ++ (⟨b7,[lo.val,hi.val],214⟩ :: ⟨b3,s.cells,80⟩ :: ⟨b2,a.cells,32⟩ :: L),fun _=>isl hi.arr :: isl lo.arr :: R,fun g=>a.mine.roads.l.length - g.1.1⟩:Head {g:Nat×List XSpan // g.1≤a.mine.roads.l.length∧BlindTo a g.1 g.2})) (⟨(0,List.replicate a.mine.roads.l.length ⟨0,0⟩),by dsimp only;omega,⟨by simp,fun j hj=>by omega,fun j _ hj=>by rw [List.getElem?_replicate,if_pos hj]⟩⟩) ?_
  rintro ⟨⟨k,l⟩,w1,w2⟩ junk
  try dsimp only
  dsimp only at w1 w2
  have hll:=w2.len
  have hkq:(⟨.own b37 a.mine.roads.l.length [],l⟩:OwL XSpan).ok 2 XSpan.cells:=by have:=Ze (f:=XSpan.cells) (wd:=2) (b:=b37) (n:=a.mine.roads.l.length) (x:=⟨0,0⟩) (fun _=>rfl) zE;exact OwL.len_ok (fun _=>rfl) this (by simp;exact hll)
  refine Xak ?_
  refine q_c (fun hc3=>?_) (fun hc3=>?_)
  ·
   have hrg:=Jw (l:=a.mine.roads.l) (k:=k) default za
   have hlg:=w2.non k (Nat.le_refl _) za
   refine Xa2 ?_
   refine Jx zB rfl ?_
   refine qc8 ?_
   refine qaq ?_
   intro b11
   refine qad ?_
   refine Xb2 ?_
   refine Xbd ?_
   refine q_c (fun hc4=>?_) (fun hc4=>?_)
   ·
    have hbf:nothingS=Kea a k:=by rw [Kea,if_neg zQ]
    refine Xca ?_
    refine q_l rfl (K6 _ _) ?_
    refine Jx (Ju tb ((⟨.own b37 a.mine.roads.l.length [],l⟩:OwL XSpan)) _ rfl rfl ((show _=Value.slice _ _ _ from rfl).trans (Us hll)) rfl zh (i:=k) zk zu) rfl ?_
    refine Ye (Um tb ((⟨.own b37 a.mine.roads.l.length [],l⟩:OwL XSpan)) (nothingS) rfl rfl rfl rfl zj zh (fun _=>rfl) zh (Nat.le_of_ble_eq_true rfl) zb zb) ?_
    rintro v L' R' ⟨rfl,rfl⟩
    refine Xa8 ?_
    exact q_k ⟨(k + 1,l.set k nothingS),by dsimp only;omega,w2.next za hbf⟩
   have hbf:(⟨0,0⟩:XSpan)=Kea a k:=by rw [Kea,if_pos zQ]
   refine Xax ?_
   exact q_k ⟨(k + 1,l),by dsimp only;omega,w2.stay za hbf⟩
  obtain rfl:k=a.mine.roads.l.length:=by omega
  refine Xcp ?_
  refine qc4 ?_
  refine Xah ?_
  refine Ks (L':=(⟨.own b37 a.mine.roads.l.length [],l⟩:OwL XSpan).L 90 XSpan.cells ++ L) (R':=R) zPc ?hp ?hL ?hR
  case hp=>
   have ha:Umb a s A=(0,(List.range a.mine.roads.l.length).map (Kea a)):=by rw [Umb,if_neg hc0,if_neg hff,if_neg hc2]
   exact ⟨(⟨.own b37 a.mine.roads.l.length [],l⟩:OwL XSpan),by rw [ha];simp only [OwL.val,Ow.addr,Ow.cap,hll],hkq,by rw [ha];exact w2.done,rfl,rfl⟩
  case hL=>exact zi
  case hR=>exact fun r h=>Ja (by simp [h])
def Vvd (x:XSpan):Int:=if x.high < x.low then 0 else if 0 < x.low then 1 else if x.high < 0 then -1 else 0
theorem Ktc (x:XSpan) (L:List Blk) (R:List Sl):
    Tri Tryz.prog 48 [x.val].toArray L R (fun v L' R'=>v=.int .i64 (Vvd x)∧L=L'∧R=R'):=by
  refine Jg 17 Tryz.call48 Tryz.func48 rfl rfl rfl ?_
  refine Xag ?_
  intro b1
  refine qad ?_
  refine J6 (Jb (Jn (Kg (Jn (Jh ?_)))))
  refine Xaa ?_
  refine Xa1 ?_
  refine Xao ?_
  refine q_c (fun hc0=>?_) (fun hc0=>?_)
  ·
   refine Xa6 ?_
   refine q_i (L':=L) (R':=R) ?_
   exact ⟨by rw [Vvd,if_pos hc0],rfl,rfl⟩
  refine qae ?_
  refine Xa1 ?_
  refine Xao ?_
  refine q_c (fun hc1=>?_) (fun hc1=>?_)
  ·
   refine Xa6 ?_
   refine q_i (L':=L) (R':=R) ?_
   exact ⟨by rw [Vvd,if_neg za,if_pos hc1],rfl,rfl⟩
  refine qae ?_
  refine Xb0 ?_
  refine Xao ?_
  refine q_c (fun hc2=>?_) (fun hc2=>?_)
  ·
   refine Xa6 ?_
   refine q_i (L':=L) (R':=R) ?_
   exact ⟨by rw [Vvd,if_neg za,if_neg za,if_pos hc2],rfl,rfl⟩
  refine J5 (Ji (Jb (Jn (Jh ?_))))
  refine Xah ?_
  refine q_i (L':=L) (R':=R) ?_
  exact ⟨by rw [Vvd,if_neg za,if_neg za,if_neg za],rfl,rfl⟩
end
end Go.Proofs.YtchfclmokpbldaaGreat
