/- The walks, part 3: the Go functions compute their plain functions. Printed by a program of this claim's author. Conditions: none but that the plain function has a value. -/
import Derived.Test.YtldimfobgpmlaaaGreatDoorTIGc
set_option autoImplicit true
set_option linter.unusedVariables false
set_option maxRecDepth 100000
set_option maxHeartbeats 40000000
namespace Go.Lg
open Go Go.Proofs
variable {G : Store} {S : List Seg} {w : World}
theorem c172 {bmut : Nat} {u4m u5m u6m : Value} {x0m : Int} {x1m : Int} {x4m : Int → Option U64} {x5m : Int → U64 → U64 → Option U64} {x6m : U64 → Option Bool} (I : Inv w G ([(bmut, blk [.int .i64 x0m, .int .i64 x1m, .map none, .slice none 0 0, u4m, u5m, u6m] 264)] :: S)) {r : Option machine} (hm4 : RepV G u4m x4m) (hm5 : RepV G u5m x5m) (hm6 : RepV G u6m x6m) (p : t_builder_build5 x0m x1m x4m x5m x6m = some r) :
 Calls Tryz.prog 172 #[.pointer (some ⟨bmut, 0, none⟩)] w (RV (Rt G S r)) := by
 refine nt (n:=197) 2 [_] (h:=rfl) (res1 rfl) fun _=>pg rfl (sg (o_p 1 rfl ?_))
 refine o_mkmap (k:=79) U64 Int I rfl rfl rfl fun a b _ c d=>nf ?_
 refine o_p 2 rfl ?_
 refine st d 1 rfl rfl (cs:=[a]) (oneC_cells (OwnM.oneC c)) (allc (OwnM.oneC c) rfl) rfl fun _ f=>nf ?_
 refine en (sg (o_p 3 rfl (lt f 1 rfl ?_)))
 refine o_bld (cs:=[(0,[it x0m])]) (res:=[it x0m,nl,nl,nl]) rfl rfl rfl zero135 (by exact ⟨rfl,rfl,trivial⟩) rfl rfl rfl ?_ rfl
 refine o_box f rfl rfl rfl (cs:=[it x0m,nl,nl,nl]) rfl fun h _ i=>nf ?_
 refine o_p 1 rfl (en (sq (sg (o_p 3 rfl (lt i 2 rfl (o_p 1 rfl (en ?_)))))))
 have j:=Inv.newNil i
 have k:=Inv.newNil j
 refine obk p fun l m p=>?_
 refine cq (fun s w=>∃ n o t u v x y,Le G n∧Inv w n (y::t::[(h,blk [it x0m,nl,o,nl] 135)]::v::[(bmut,blk [it x0m,it x1m,u,x,u4m,u5m,u6m] 264)]::S)∧OwnL 3 n t o l.1∧OwnM Tryz.prog 79 v u l.2.1∧OwnL 79 n y x l.2.2∧Hx s [(0,pt bmut),(3,pt h)]) ?_ ?_
 have _:=p
 refine bk (fun (z : Int × List Int × Mp U64 × List U64) s w=>∃ A B C D F H J,Le G A∧Inv w A (J::C::[(h,blk [it x0m,nl,B,nl] 135)]::F::[(bmut,blk [it x0m,it x1m,D,H,u4m,u5m,u6m] 264)]::S)∧OwnL 3 A C B z.2.1∧OwnM Tryz.prog 79 F D z.2.2.1∧OwnL 79 A J H z.2.2.2∧Hx s [(0,pt bmut),(3,pt h),(28,it x0m),(29,it z.1)]) m ⟨G,nl,[],a,b,nl,[],lr,k,(OwnL.nil (α:=Int) (G:=G) 3),c,(OwnL.nil (α:=U64) (G:=G) 79),hx rfl⟩ ?_
 clear m
 rintro z _ s _ p ⟨A,B,C,D,F,H,J,K,M,N,O,P,_,rfl⟩
 refine pg rfl (sq (cd p rfl (fun p=>?_) fun p=>?_))
 refine sn (sq ?_)
 refine wpC_block ?_
 refine pg rfl (sg (o_p 4 rfl (lt M 4 rfl (o_p 1 rfl (obk p fun _ Q p=>?_)))))
 obtain ⟨_,_,_,rfl,R,T⟩:=Fn1.out hm4
 refine o_callv rfl rfl rfl rfl R rfl rfl (RVm (T _ K _ _ _ _ _ M ri Q) ?_)
 rintro _ _ ⟨_,U,V,W⟩
 obtain rfl:=W.u64
 refine nf ?_
 have X:=(Inv.front (Inv.front V 3 rfl) 4 rfl)
 refine obk p fun Y Z p=>?_
 refine ca okf193 rfl (RVm (c193 X O (OwnL.mono U P) (RepV.ofU64 _ _) Z) ?_)
 rintro _ _ ⟨a0,a1,a2,a3,a4,a5,a6,a7,a8,a9⟩
 obtain rfl:=a9.int
 refine nf (o_p 1 rfl (en (rg (o_p 4 rfl (lt a6 4 rfl (o_p 1 rfl ?_))))))
 refine o_bs (l:=[Y.1]) (vs:=[it Y.1]) a6 ⟨ri,trivial⟩ rfl rfl rfl ⟨rfl,rfl,trivial⟩ rfl elk3 rfl rfl rfl fun _ _ _ _ b0 b1=>nf ?_
 refine obk p fun _ b2 p=>?_
 refine o_app b1 4 rfl (OwnL.mono (U.t a5) N) (Lies.ofOwn b0 0 rfl) b2 rfl rfl rfl rfl rfl rfl elk3 rfl rfl rfl rfl fun b3 b4 _ b5 b6=>nf ?_
 refine o_p 2 rfl ?_
 refine st b6 5 rfl rfl (cs:=[b3]) (oneC_cells (OwnL.oneC b5)) (allc (OwnL.oneC b5) rfl) rfl fun _ b7=>nf ?_
 cases p
 exact o_nil (bn (nx (rg (o_p 2 rfl (o_nil (nx ⟨_,rfl,⟨a0,b3,b4,a1,a2,a3,a4,((K.t U).t a5),(Inv.front (Inv.front (Inv.front (Inv.front (Inv.front (b7.del 0) 0 rfl) 1 rfl) 4 rfl) 4 rfl) 4 rfl),b5,a7,a8,hx rfl⟩⟩))))))
 refine ex (px ?_)
 cases p
 refine ⟨_,rfl,?_⟩
 rintro rfl
 exact bh (nx (⟨A,B,C,D,F,H,J,K,M,N,O,P,hx rfl⟩))
 rintro s _ ⟨n,o,t,u,v,x,y,z,A,B,C,D,_,rfl⟩
 refine nx (sq (pg rfl ?_))
 have F:=Inv.newNil A
 refine obk p fun H J p=>?_
 refine cq (fun s w=>∃ K : List (List (List Int)) × Mp U64 × List U64,∃ M N O P Q R T,H = .inl K∧Le n M∧Inv w M (O::T::t::[(h,blk [it x0m,nl,o,N] 135)]::Q::[(bmut,blk [it x0m,it x1m,P,R,u4m,u5m,u6m] 264)]::S)∧OwnN (OwnL 24) 136 M O N K.1∧OwnM Tryz.prog 79 Q P K.2.1∧OwnL 79 M T R K.2.2∧Hx s [(0,pt bmut),(3,pt h)]) ?_ ?_
 have U:=p
 refine bk (fun (V : Int × List (List (List Int)) × Mp U64 × List U64) s w=>∃ W X Y Z a0 a1 a2,Le n W∧Inv w W (Y::a2::t::[(h,blk [it x0m,nl,o,X] 135)]::a0::[(bmut,blk [it x0m,it x1m,Z,a1,u4m,u5m,u6m] 264)]::S)∧OwnN (OwnL 24) 136 W Y X V.2.1∧OwnM Tryz.prog 79 a0 Z V.2.2.1∧OwnL 79 W a2 a1 V.2.2.2∧Hx s [(0,pt bmut),(3,pt h),(6,it V.1)]) J ⟨n,nl,[],u,v,x,y,lr,F,(OwnN.nil (α:=List (List Int)) (Ev:=OwnL 24) (G:=n) 136),C,D,hx rfl⟩ ?_
 clear J
 rintro V _ s _ p ⟨W,X,Y,Z,a0,a1,a2,a3,a4,a5,a6,a7,_,rfl⟩
 refine sq (sg (o_p 4 rfl (lt a4 5 rfl ?_)))
 obtain ⟨a8,a9,rfl⟩:=OwnL.sh a7
 refine o_p 2 rfl (en (cd p rfl (fun p=>?_) fun p=>?_))
 refine sn ?_
 refine wpC_block ?_
 refine sq (sq ?_)
 refine wpC_drawI hmTryz a4 (Cl W S) [(0,.any),(1,.any),(2,.any),(3,.here),(4,.any),(5,.any),(6,.any),(7,.any),(8,.any),(9,.here),(10,.any),(11,.any),(12,.any),(13,.any),(14,.here),(15,.any),(16,.any)] (by kernel_rfl) fun _ b0=>?_
 refine o_p 3 rfl (lt b0 5 rfl (o_p 2 rfl (obk p fun b1 b2 p=>?_)))
 refine oq (fun s w=>Inv w W (Y::a2::t::[(h,blk [it x0m,nl,o,X] 135)]::a0::[(bmut,blk [it x0m,it x1m,Z,(.slice a8 V.2.2.2.length a9),u4m,u5m,u6m] 264)]::S)∧Hx s [(0,pt bmut),(3,pt h),(6,it V.1),(74,.bool b1)]) ?_ ?_
 replace p:=b2
 refine sp 63 p rfl (fun p=>?_) fun p=>?_
 refine o_p 3 rfl (lt b0 5 rfl (o_p 4 rfl (lt b0 5 rfl ?_)))
 cases p
 exact o_p 2 rfl (o_nil (⟨b0,hx rfl⟩))
 cases p
 exact o_p 11 rfl (o_nil (⟨b0,hx rfl⟩))
 rintro s _ ⟨b3,_,rfl⟩
 refine nx (cd p rfl (fun p=>?_) fun p=>?_)
 refine pg rfl (rt (pr (br ?_)))
 cases p
 refine ⟨_,rfl,?_⟩
 rintro rfl
 have p:=U
 cases p
 exact br (pr (pr (Rt.mk (z.t a3) ((((((b3.del 5).del 4).del 3).del 2).del 1).del 0) (RepV.ofNil _))))
 refine sn (sq ?_)
 refine wpC_drawI hmTryz b3 (Cl W S) [(0,.any),(1,.any),(2,.any),(3,.any),(4,.here),(5,.any),(6,.any),(7,.any)] (by kernel_rfl) fun _ b4=>?_
 refine o_p 4 rfl (lt b4 5 rfl (o_p 3 rfl (en (pg rfl (sq (pg rfl (obk p fun b5 b6 p=>?_)))))))
 refine cq (fun s w=>∃ b7 b8 b9 e0 e1 e2 e3,Le W b7∧Inv w b7 (b9::e3::t::[(h,blk [it x0m,nl,o,b8] 135)]::e1::[(bmut,blk [it x0m,it x1m,e0,e2,u4m,u5m,u6m] 264)]::S)∧OwnN (OwnL 24) 136 b7 b9 b8 b5.1∧OwnM Tryz.prog 79 e1 e0 b5.2.1∧OwnL 79 b7 e3 e2 b5.2.2∧Hx s [(0,pt bmut),(3,pt h),(6,it (V.2.2.2.length : Int)),(7,it V.1),(8,it (V.2.2.2.length : Int))]) ?_ ?_
 have _:=p
 refine bk (fun (e4 : Int × List (List (List Int)) × Mp U64 × List U64) s w=>∃ e5 e6 e7 e8 e9 f0 f1,Le W e5∧Inv w e5 (e7::f1::t::[(h,blk [it x0m,nl,o,e6] 135)]::e9::[(bmut,blk [it x0m,it x1m,e8,f0,u4m,u5m,u6m] 264)]::S)∧OwnN (OwnL 24) 136 e5 e7 e6 e4.2.1∧OwnM Tryz.prog 79 e9 e8 e4.2.2.1∧OwnL 79 e5 f1 f0 e4.2.2.2∧Hx s [(0,pt bmut),(3,pt h),(6,it (V.2.2.2.length : Int)),(7,it V.1),(8,it (V.2.2.2.length : Int)),(82,it (V.2.2.2.length : Int)),(83,it e4.1)]) b6 ⟨W,X,Y,Z,a0,(.slice a8 V.2.2.2.length a9),a2,lr,b4,a5,a6,a7,hx rfl⟩ ?_
 clear b6
 rintro e4 _ s _ p ⟨e5,e6,e7,e8,e9,f0,f1,f2,f3,f4,f5,f6,_,rfl⟩
 refine pg rfl (sq (cd p rfl (fun p=>?_) fun p=>?_))
 refine sn (sq ?_)
 refine wpC_block ?_
 refine pg rfl (sq (sg (o_p 4 rfl (lt f3 3 rfl ?_))))
 obtain ⟨f7,f8,rfl⟩:=OwnN.len f4
 refine o_p 2 rfl (en (obk p fun f9 g0 p=>?_))
 refine cq (fun s w=>∃ g1 g2,Inv w e5 (g2::f1::t::[(h,blk [it x0m,nl,o,g1] 135)]::e9::[(bmut,blk [it x0m,it x1m,e8,f0,u4m,u5m,u6m] 264)]::S)∧OwnN (OwnL 24) 136 e5 g2 g1 f9∧Hx s [(0,pt bmut),(3,pt h),(6,it (V.2.2.2.length : Int)),(7,it V.1),(8,it (V.2.2.2.length : Int)),(9,it e4.1),(82,it (V.2.2.2.length : Int)),(83,it e4.1)]) ?_ ?_
 replace p:=g0
 refine cd p rfl (fun p=>?_) fun p=>?_
 refine rg (o_p 4 rfl (lt f3 3 rfl ?_))
 have g3:=Inv.newNil f3
 refine o_bs (l:=[Raw.mk nl]) (vs:=[nl]) g3 ⟨RepV.ofRaw _ (own_one (OwnL.nil (α:=List Int) (G:=e5) 24)),trivial⟩ rfl rfl rfl ⟨rfl,rfl,trivial⟩ rfl elk136 rfl rfl rfl fun g4 g5 g6 _ g7 g8=>nf ?_
 have g9 : OwnN (OwnL 24) 136 e5 ([(g4,blk g6 136)] ++ []) (.slice (some ⟨g4,0,none⟩) 1 g5) [([] : List (List Int))]:=OwnN.one g7 (OwnL.nil (α:=List Int) (G:=e5) 24)
 have i0:=Inv.join (Inv.front (Inv.front g8 1 rfl) 1 rfl)
 refine obk p fun _ i1 p=>?_
 refine o_appN (el:=136) (Inv.front i0 1 rfl) f4 g9 i1 (fun {S' g1' rs1 rs2 rr} hJ hS hO hL hA hK=>o_app hJ 0 hS hO hL hA rfl rfl rfl rfl rfl rfl elk136 rfl rfl rfl rfl hK) fun i2 i3 _ i4 i5=>nf ?_
 refine o_p 2 rfl ?_
 refine st i5 3 rfl rfl (cs:=[i2]) (oneC_cells (own_one i4)) (allc (own_one i4) rfl) rfl fun _ i6=>nf ?_
 cases p
 exact o_nil (⟨i2,i3,i6,i4,hx rfl⟩)
 refine wpC_skip ?_
 cases p
 exact ⟨(.slice f7 e4.2.1.length f8),e7,f3,f4,hx rfl⟩
 rintro s _ ⟨g1,g2,g3,g4,_,rfl⟩
 refine nx (sg (o_p 3 rfl (lt g3 3 rfl (o_p 1 rfl (obk p fun _ g5 p=>?_)))))
 obtain ⟨_,_,_,_,_,g6,g7,g8,g9,_,_,_,i0⟩:=OwnN.open g3 g4 g5
 refine o_ixO g7 g8 rfl rfl rfl rfl rfl rfl rfl rfl (fun _ i1=>?_) rfl
 refine o_ldO g6 1 rfl g7 i1 g8 rfl rfl rfl rfl rfl fun i2 i3=>?_
 have _:=RepV.raw i3
 subst i2
 obtain ⟨_,_,rfl⟩:=OwnL.sh g9
 refine o_p 2 rfl ?_
 obtain ⟨i4,i5,i6⟩:=Inv.close (K:=fun g=>OwnN (OwnL 24) 136 e5 g g1 f9) (Inv.front (Inv.front (Inv.front g6 2 rfl) 2 rfl) 2 rfl) (i0 _ _ _ lr g7 g9)
 refine en (obk p fun i7 i8 p=>?_)
 refine cq (fun s w=>∃ i9 j0 j1 j2 j3 j4 j5,Le e5 i9∧Inv w i9 (j1::j5::t::[(h,blk [it x0m,nl,o,j0] 135)]::j3::[(bmut,blk [it x0m,it x1m,j2,j4,u4m,u5m,u6m] 264)]::S)∧OwnN (OwnL 24) 136 i9 j1 j0 i7.1∧OwnM Tryz.prog 79 j3 j2 i7.2.1∧OwnL 79 i9 j5 j4 i7.2.2∧Hx s [(0,pt bmut),(3,pt h),(6,it (V.2.2.2.length : Int)),(7,it V.1),(8,it (V.2.2.2.length : Int)),(82,it (V.2.2.2.length : Int)),(83,it e4.1)]) ?_ ?_
 have _:=p
 refine bk (fun (j6 : Int × List (List (List Int)) × Mp U64 × List U64) s w=>∃ j7 j8 j9 k0 k1 k2 k3,Le e5 j7∧Inv w j7 (j9::k3::t::[(h,blk [it x0m,nl,o,j8] 135)]::k1::[(bmut,blk [it x0m,it x1m,k0,k2,u4m,u5m,u6m] 264)]::S)∧OwnN (OwnL 24) 136 j7 j9 j8 j6.2.1∧OwnM Tryz.prog 79 k1 k0 j6.2.2.1∧OwnL 79 j7 k3 k2 j6.2.2.2∧Hx s [(0,pt bmut),(3,pt h),(6,it (V.2.2.2.length : Int)),(7,it V.1),(8,it (V.2.2.2.length : Int)),(9,it e4.1),(10,it j6.1),(82,it (V.2.2.2.length : Int)),(83,it e4.1)]) i8 ⟨e5,g1,i4,e8,e9,f0,f1,lr,i5,i6,f5,f6,hx rfl⟩ ?_
 clear i8
 rintro j6 _ s _ p ⟨j7,j8,j9,k0,k1,k2,k3,k4,k5,k6,k7,k8,_,rfl⟩
 refine sq (pg rfl (cd p rfl (fun p=>?_) fun p=>?_))
 refine sn (sq ?_)
 refine wpC_block ?_
 refine sg (o_p 3 rfl (lt k5 5 rfl (obk p fun k9 m0 p=>?_)))
 refine o_mks (z:=(0 : Int)) k5 m0 rfl rfl rfl elk3 zero3 (fun _=>by rfl) rfl rfl rfl rfl fun _ m1 _ m2 m3=>nf ?_
 refine o_p 1 rfl (en (sq (sg (o_p 1 rfl ?_))))
 obtain ⟨m4,m5,rfl⟩:=OwnL.sh m2
 refine o_p 2 rfl (en (obk p fun m6 m7 p=>?_))
 refine cq (fun s w=>∃ m8 m9 n0 n1 n2 n3 n4,Le j7 m8∧Inv w m8 (n0::j9::n4::t::[(h,blk [it x0m,nl,o,j8] 135)]::n2::[(bmut,blk [it x0m,it x1m,n1,n3,u4m,u5m,u6m] 264)]::S)∧OwnL 3 m8 n0 m9 m6.1∧OwnM Tryz.prog 79 n2 n1 m6.2.1∧OwnL 79 m8 n4 n3 m6.2.2∧Hx s [(0,pt bmut),(3,pt h),(6,it (V.2.2.2.length : Int)),(7,it V.1),(8,it (V.2.2.2.length : Int)),(9,it e4.1),(10,it j6.1),(11,m9),(82,it (V.2.2.2.length : Int)),(83,it e4.1)]) ?_ ?_
 have _:=p
 refine bk (fun (n5 : List Int × Int × Mp U64 × List U64) s w=>∃ n6 n7 n8 n9 o0 o1 o2,Le j7 n6∧Inv w n6 (n8::j9::o2::t::[(h,blk [it x0m,nl,o,j8] 135)]::o0::[(bmut,blk [it x0m,it x1m,n9,o1,u4m,u5m,u6m] 264)]::S)∧OwnL 3 n6 n8 n7 n5.1∧OwnM Tryz.prog 79 o0 n9 n5.2.2.1∧OwnL 79 n6 o2 o1 n5.2.2.2∧Hx s [(0,pt bmut),(3,pt h),(6,it (V.2.2.2.length : Int)),(7,it V.1),(8,it (V.2.2.2.length : Int)),(9,it e4.1),(10,it j6.1),(11,n7),(82,it (V.2.2.2.length : Int)),(83,it e4.1),(121,it ((List.replicate k9 (0 : Int)).length : Int)),(122,it n5.2.1)]) m7 ⟨j7,(.slice m4 (List.replicate k9 (0 : Int)).length m5),m1,k0,k1,k2,k3,lr,m3,m2,k7,k8,hx rfl⟩ ?_
 clear m7
 rintro n5 _ s _ p ⟨n6,n7,n8,n9,o0,o1,o2,o3,o4,o5,o6,o7,_,rfl⟩
 refine pg rfl (sq (cd p rfl (fun p=>?_) fun p=>?_))
 refine sn (sq ?_)
 refine wpC_block ?_
 refine pg rfl ?_
 refine wpC_drawI hmTryz o4 (Cl n6 S) [(0,.any),(1,.any),(2,.any),(3,.any),(4,.any),(5,.any),(6,.here),(7,.any),(8,.any),(9,.any),(10,.any),(11,.here),(12,.any),(13,.any),(14,.here),(15,.any),(16,.any),(17,.any),(18,.here),(19,.any),(20,.any),(21,.here),(22,.eff false),(23,.eff false),(24,.any),(25,.eff false)] (by kernel_rfl) fun _ o8=>?_
 refine o_p 6 rfl (lt o8 6 rfl (o_p 4 rfl (lt o8 6 rfl (o_p 1 rfl (obk p fun _ o9 p=>?_)))))
 refine o_ixO o7 o9 rfl rfl rfl rfl rfl rfl rfl rfl (fun _ p0=>?_) rfl
 refine o_ldO o8 2 rfl o7 p0 o9 rfl rfl rfl rfl rfl fun _ p1=>?_
 obtain rfl:=p1.u64
 refine o_p 3 rfl (lt o8 6 rfl (o_p 1 rfl (obk p fun _ p2 p=>?_)))
 refine o_ixO o7 p2 rfl rfl rfl rfl rfl rfl rfl rfl (fun _ p3=>?_) rfl
 refine o_ldO o8 2 rfl o7 p3 p2 rfl rfl rfl rfl rfl fun _ p4=>?_
 obtain rfl:=p4.u64
 refine obk p fun _ p5 p=>?_
 obtain ⟨_,_,_,rfl,p6,p7⟩:=Fn3.out hm5
 refine o_callv rfl rfl rfl rfl p6 rfl rfl (RVm (p7 _ ((((z.t a3).t f2).t k4).t o3) _ _ _ _ _ _ _ _ _ o8 ri (RepV.ofU64 _ _) (RepV.ofU64 _ _) p5) ?_)
 rintro _ _ ⟨_,p8,p9,q0⟩
 obtain rfl:=q0.u64
 refine nf ?_
 have q1:=(Inv.front (Inv.front (Inv.front p9 2 rfl) 5 rfl) 6 rfl)
 refine obk p fun _ q2 p=>?_
 refine ca okf193 rfl (RVm (c193 q1 o6 (OwnL.mono p8 o7) (RepV.ofU64 _ _) q2) ?_)
 rintro _ _ ⟨q3,q4,q5,q6,q7,q8,q9,y0,y1,y2⟩
 obtain rfl:=y2.int
 refine nf (obk p fun _ y3 p=>?_)
 refine o_ixO (OwnL.mono (p8.t q8) o5) y3 rfl rfl rfl rfl rfl rfl rfl rfl (fun _ y4=>?_) rfl
 refine o_stO q9 3 rfl (OwnL.mono (p8.t q8) o5) y4 y3 ri rfl rfl rfl rfl rfl rfl rfl fun y5 _ y6 y7=>nf ?_
 cases p
 exact o_nil (bn (nx (rg (o_p 2 rfl (o_nil (nx ⟨_,rfl,⟨q3,n7,y5,q4,q5,q6,q7,((o3.t p8).t q8),(Inv.front (Inv.front (Inv.front (Inv.front (Inv.front (Inv.front (Inv.front y7 0 rfl) 1 rfl) 6 rfl) 6 rfl) 4 rfl) 6 rfl) 6 rfl),y6,y0,y1,hx rfl⟩⟩))))))
 refine ex (px ?_)
 cases p
 refine ⟨_,rfl,?_⟩
 rintro rfl
 exact bh (nx (⟨n6,n7,n8,n9,o0,o1,o2,o3,o4,o5,o6,o7,hx rfl⟩))
 rintro s _ ⟨m8,m9,n0,n1,n2,n3,n4,n5,n6,n7,n8,n9,_,rfl⟩
 refine nx (obk p fun _ o0 p=>?_)
 obtain ⟨o1,_,_,_,o2,o3,o4,o5,o6,_,o7,_,_⟩:=OwnN.open (Inv.front n6 1 rfl) (own_mono n5 k6) o0
 refine wpC_drawI hmTryz o3 (Cl m8 (o1::o2::n4::t::[(h,blk [it x0m,nl,o,j8] 135)]::n2::[(bmut,blk [it x0m,it x1m,n1,n3,u4m,u5m,u6m] 264)]::S)) [(0,.any),(1,.any),(2,.any),(3,.far),(4,.any),(5,.any),(6,.any),(7,.any),(8,.far),(9,.any),(10,.any),(11,.far),(12,.any),(13,.eff true),(14,.eff true),(15,.any),(16,.eff false)] (by kernel_rfl) fun _ o8=>?_
 refine o_p 3 rfl ?_
 refine o_ltF (Cl.le ((o8.del 3).del 0) lr) (.S 4 rfl) rfl rfl rfl rfl rfl rfl ?_
 refine o_p 4 rfl ?_
 refine o_ltF (Cl.le ((o8.del 3).del 0) lr) (.S 4 rfl) rfl rfl rfl rfl rfl rfl ?_
 refine o_p 1 rfl ?_
 refine o_ixO o4 o5 rfl rfl rfl rfl rfl rfl rfl rfl (fun _ o9=>?_) rfl
 refine o_ldOF (Cl.le ((o8.del 3).del 0) lr) (fun q hq=>⟨_,List.mem_of_getElem? (i:=0) rfl,hq⟩) o4 o9 o5 rfl rfl rfl rfl rfl fun p0 p1=>?_
 have _:=RepV.raw p1
 subst p0
 refine o_p 1 rfl ?_
 obtain ⟨p2,p3,p4,p5⟩:=Inv.frz o8 3 rfl n7
 refine o_bs (l:=[m6.1]) (vs:=[m9]) p4 ⟨p5,trivial⟩ rfl rfl rfl ⟨rfl,rfl,trivial⟩ rfl elk24 rfl rfl rfl fun _ _ _ _ p6 p7=>⟨fun _=>Cl.le ((p7.del 1).del 0) p3,?_⟩
 refine obk p fun p8 p9 p=>?_
 refine o_app p7 1 rfl (OwnL.mono p3 o6) (Lies.ofOwn p6 0 rfl) p9 rfl rfl rfl rfl rfl rfl elk24 rfl rfl rfl rfl fun _ _ _ q0 q1=>⟨fun _=>Cl.le ((q1.del 1).del 0) p3,?_⟩
 refine o_ixO (OwnL.mono p3 o4) o5 rfl rfl rfl rfl rfl rfl rfl rfl (fun _ q2=>?_) rfl
 refine o_stO q1 2 rfl (OwnL.mono p3 o4) q2 o5 (RepV.ofRaw _ (own_one q0)) rfl rfl rfl rfl rfl rfl rfl fun _ _ q3 q4=>nf ?_
 obtain ⟨q5,q6,q7⟩:=Inv.close (K:=fun g=>OwnN (OwnL 24) 136 p2 g j8 (j6.2.1.set (e4.1 : Int).toNat p8)) (Inv.front (Inv.front (Inv.front q4 3 rfl) 3 rfl) 3 rfl) (o7 _ _ _ _ _ p3 q3 q0)
 cases p
 exact o_nil (bn (nx (rg (o_p 3 rfl (o_nil (nx ⟨_,rfl,⟨p2,j8,q5,n1,n2,n3,n4,((k4.t n5).t p3),(q6.del 1),q7,n8,(OwnL.mono p3 n9),hx rfl⟩⟩))))))
 refine ex (px ?_)
 cases p
 refine ⟨_,rfl,?_⟩
 rintro rfl
 exact bh (nx (⟨j7,j8,j9,k0,k1,k2,k3,k4,k5,k6,k7,k8,hx rfl⟩))
 rintro s _ ⟨i9,j0,j1,j2,j3,j4,j5,j6,j7,j8,j9,k0,_,rfl⟩
 cases p
 exact bn (nx (rg (o_p 2 rfl (o_nil (nx ⟨_,rfl,⟨i9,j0,j1,j2,j3,j4,j5,(f2.t j6),j7,j8,j9,k0,hx rfl⟩⟩)))))
 refine ex (px ?_)
 cases p
 refine ⟨_,rfl,?_⟩
 rintro rfl
 exact bh (nx (⟨e5,e6,e7,e8,e9,f0,f1,f2,f3,f4,f5,f6,hx rfl⟩))
 rintro s _ ⟨b7,b8,b9,e0,e1,e2,e3,e4,e5,e6,e7,e8,_,rfl⟩
 refine nx (pg rfl (cd p rfl (fun p=>?_) fun p=>?_))
 refine ex (bm rfl ?_)
 cases p
 refine ⟨_,rfl,?_⟩
 rintro rfl
 exact bh (nx (⟨_,b7,b8,b9,e0,e1,e2,e3,rfl,(a3.t e4),e5,e6,e7,e8,hx rfl⟩))
 refine wpC_skip ?_
 cases p
 exact bn (nx ⟨_,rfl,⟨b7,b8,b9,e0,e1,e2,e3,(a3.t e4),e5,e6,e7,e8,hx rfl⟩⟩)
 refine ex (px ?_)
 cases p
 refine ⟨_,rfl,?_⟩
 rintro rfl
 exact bh (nx (⟨_,W,X,Y,Z,a0,(.slice a8 V.2.2.2.length a9),a2,rfl,a3,a4,a5,a6,a7,hx rfl⟩))
 rintro s _ ⟨K,M,N,O,P,Q,R,T,rfl,U,V,W,_,X,_,rfl⟩
 refine nx (sq (sg (o_p 3 rfl (lt V 5 rfl ?_))))
 obtain ⟨Y,Z,rfl⟩:=OwnL.sh X
 refine o_p 2 rfl (en ?_)
 have a0:=Inv.newNil V
 refine obk p fun a1 a2 p=>?_
 refine cq (fun s w=>∃ a3 a4 a5,Le M a3∧Inv w a3 (a5::O::T::t::[(h,blk [it x0m,a4,o,N] 135)]::Q::[(bmut,blk [it x0m,it x1m,P,(.slice Y K.2.2.length Z),u4m,u5m,u6m] 264)]::S)∧OwnL 4 a3 a5 a4 a1∧Hx s [(3,pt h)]) ?_ ?_
 have _:=p
 refine bk (fun (a6 : Int × List Bool) s w=>∃ a7 a8 a9,Le M a7∧Inv w a7 (a9::O::T::t::[(h,blk [it x0m,a8,o,N] 135)]::Q::[(bmut,blk [it x0m,it x1m,P,(.slice Y K.2.2.length Z),u4m,u5m,u6m] 264)]::S)∧OwnL 4 a7 a9 a8 a6.2∧Hx s [(0,pt bmut),(3,pt h),(174,(.slice Y K.2.2.length Z)),(175,it (K.2.2.length : Int)),(176,it a6.1)]) a2 ⟨M,nl,[],lr,a0,(OwnL.nil (α:=Bool) (G:=M) 4),hx rfl⟩ ?_
 clear a2
 rintro a6 _ s _ p ⟨a7,a8,a9,b0,b1,b2,_,rfl⟩
 refine pg rfl (sq (cd p rfl (fun p=>?_) fun p=>?_))
 refine sn (sq ?_)
 refine wpC_block ?_
 refine sg (obk p fun _ b3 p=>?_)
 refine o_ixO (OwnL.mono b0 X) b3 rfl rfl rfl rfl rfl rfl rfl rfl (fun _ b4=>?_) rfl
 refine o_ldO b1 2 rfl (OwnL.mono b0 X) b4 b3 rfl rfl rfl rfl rfl fun _ b5=>?_
 obtain rfl:=b5.u64
 refine o_p 1 rfl (en ?_)
 refine wpC_drawI hmTryz b1 (Cl a7 (a9::O::T::t::[(h,blk [it x0m,a8,o,N] 135)]::Q::[(bmut,blk [it x0m,it x1m,P,(.slice Y K.2.2.length Z),u4m,u5m,u6m] 264)]::S)) [(0,.any),(1,.any),(2,.any),(3,.any),(4,.far),(5,.any),(6,.any),(7,.any),(8,.here),(9,.any),(10,.eff true),(11,.eff true),(12,.eff false),(13,.any),(14,.any),(15,.eff false)] (by kernel_rfl) fun _ b6=>?_
 refine o_p 4 rfl ?_
 refine o_ltF (Cl.le b6 lr) (.S 4 rfl) rfl rfl rfl rfl rfl rfl ?_
 refine o_p 3 rfl (lt b6 6 rfl (o_p 1 rfl (obk p fun b7 b8 p=>?_)))
 obtain ⟨_,_,_,rfl,b9,e0⟩:=Fn1.out hm6
 refine o_callv rfl rfl rfl rfl b9 rfl rfl (RVm (e0 _ ((z.t U).t b0) _ _ _ _ _ b6 (RepV.ofU64 _ _) b8) ?_)
 rintro _ _ ⟨e1,e2,e3,e4⟩
 obtain rfl:=e4.bool
 refine ⟨fun _=>Cl.le e3 e2,?_⟩
 refine o_bs (l:=[b7]) (vs:=[.bool b7]) e3 ⟨rb,trivial⟩ rfl rfl rfl ⟨rfl,rfl,trivial⟩ rfl elk4 rfl rfl rfl fun _ _ _ _ e5 e6=>⟨fun _=>Cl.le (e6.del 0) e2,?_⟩
 refine obk p fun _ e7 p=>?_
 refine o_app e6 1 rfl (OwnL.mono e2 b2) (Lies.ofOwn e5 0 rfl) e7 rfl rfl rfl rfl rfl rfl elk4 rfl rfl rfl rfl fun e8 e9 _ f0 f1=>nf ?_
 refine o_p 2 rfl ?_
 refine st f1 5 rfl rfl (cs:=[e8]) (oneC_cells (OwnL.oneC f0)) (allc (OwnL.oneC f0) rfl) rfl fun _ f2=>nf ?_
 cases p
 exact o_nil (bn (nx (rg (o_p 2 rfl (o_nil (nx ⟨_,rfl,⟨e1,e8,e9,(b0.t e2),(f2.del 0),f0,hx rfl⟩⟩))))))
 refine ex (px ?_)
 cases p
 refine ⟨_,rfl,?_⟩
 rintro rfl
 exact bh (nx (⟨a7,a8,a9,b0,b1,b2,hx rfl⟩))
 rintro s _ ⟨a3,a4,a5,a6,a7,a8,_,rfl⟩
 refine nx (pg rfl (rt ?_))
 obtain ⟨_,a9,b0,b1⟩:=Inv.frz a7 0 rfl a8
 obtain ⟨_,b2,b3,b4⟩:=Inv.frz b0 2 rfl (OwnL.mono ((U.t a6).t a9) B)
 obtain ⟨_,b5,b6,b7⟩:=Inv.frzE b3 0 rfl (own_mono ((a6.t a9).t b2) W)
 obtain ⟨_,b8,b9,e0⟩:=Inv.frzB b6 1 rfl (machine.pk (⟨x0m,a1,l.1,K.1⟩ : machine) (b1.m (b2.t b5)) (b4.m b5) b7) rfl
 cases p
 exact Rt.mk ((((((z.t U).t a6).t a9).t b2).t b5).t b8) (((b9.del 2).del 1).del 0) (RepV.ofPtr e0)
theorem c130 {bmut : Nat} {u1m u4m u5m u6m : Value} {x0m : Int} {x4m : Int → Option Int} {x5m : Int → Int → Int → Option Int} {x6m : Int → Option Bool} (I : Inv w G ([(bmut, blk [.int .i64 x0m, u1m, .map none, .slice none 0 0, u4m, u5m, u6m] 217)] :: S)) {r : Option machine} (hm4 : RepV G u4m x4m) (hm5 : RepV G u5m x5m) (hm6 : RepV G u6m x6m) (p : t_builder_ordered x0m x4m x5m x6m = some r) :
 Calls Tryz.prog 130 #[.pointer (some ⟨bmut, 0, none⟩)] w (RV (Rt G S r)) := by
 refine nt (n:=200) 2 [_] (h:=rfl) (res1 rfl) fun _=>pg rfl (sg (o_p 1 rfl ?_))
 refine o_mkmap (k:=3) Int Int I rfl rfl rfl fun a b _ c d=>nf ?_
 refine o_p 2 rfl ?_
 refine st d 1 rfl rfl (cs:=[a]) (oneC_cells (OwnM.oneC c)) (allc (OwnM.oneC c) rfl) rfl fun _ f=>nf ?_
 refine en (sq (sg (o_p 3 rfl (lt f 1 rfl (o_p 1 rfl (en ?_))))))
 have g:=Inv.newNil f
 refine obk p fun h i p=>?_
 refine cq (fun s w=>∃ j k l m n,Le G j∧Inv w j (n::l::[(bmut,blk [it x0m,u1m,k,m,u4m,u5m,u6m] 217)]::S)∧OwnM Tryz.prog 3 l k h.1∧OwnL 3 j n m h.2∧Hx s [(0,pt bmut)]) ?_ ?_
 have _:=p
 refine bk (fun (o : Int × Mp Int × List Int) s w=>∃ t u v x y,Le G t∧Inv w t (y::v::[(bmut,blk [it x0m,u1m,u,x,u4m,u5m,u6m] 217)]::S)∧OwnM Tryz.prog 3 v u o.2.1∧OwnL 3 t y x o.2.2∧Hx s [(0,pt bmut),(24,it x0m),(25,it o.1)]) i ⟨G,a,b,nl,[],lr,g,c,(OwnL.nil (α:=Int) (G:=G) 3),hx rfl⟩ ?_
 clear i
 rintro o _ s _ p ⟨t,u,v,x,y,z,A,B,C,_,rfl⟩
 refine pg rfl (sq (cd p rfl (fun p=>?_) fun p=>?_))
 refine sn (sq ?_)
 refine wpC_block ?_
 refine pg rfl (rg (o_p 4 rfl (lt A 2 rfl (o_p 1 rfl (obk p fun _ D p=>?_)))))
 obtain ⟨_,_,_,rfl,F,H⟩:=Fn1.out hm4
 refine o_callv rfl rfl rfl rfl F rfl rfl (RVm (H _ z _ _ _ _ _ A ri D) ?_)
 rintro _ _ ⟨_,J,K,M⟩
 obtain rfl:=M.int
 refine nf ?_
 have N:=(Inv.front (Inv.front K 1 rfl) 2 rfl)
 refine obk p fun _ O p=>?_
 refine ca okf180 rfl (RVm (c180 N B (OwnL.mono J C) ri O) ?_)
 rintro _ _ ⟨P,Q,R,T,U,V,W,X,Y,Z⟩
 obtain rfl:=Z.int
 refine nf ?_
 cases p
 exact o_nil (bn (nx (rg (o_p 2 rfl (o_nil (nx ⟨_,rfl,⟨P,Q,R,T,U,((z.t J).t V),(Inv.front (Inv.front (Inv.front W 0 rfl) 1 rfl) 2 rfl),X,Y,hx rfl⟩⟩))))))
 refine ex (px ?_)
 cases p
 refine ⟨_,rfl,?_⟩
 rintro rfl
 exact bh (nx (⟨t,u,v,x,y,z,A,B,C,hx rfl⟩))
 rintro s _ ⟨j,k,l,m,n,o,t,u,v,_,rfl⟩
 refine nx (sq (pg rfl (obk p fun x y p=>?_)))
 refine cq (fun s w=>∃ z A B C D,Le j z∧Inv w z (D::B::[(bmut,blk [it x0m,u1m,A,C,u4m,u5m,u6m] 217)]::S)∧OwnM Tryz.prog 3 B A x.1∧OwnL 3 z D C x.2∧Hx s [(0,pt bmut)]) ?_ ?_
 have _:=p
 refine bk (fun (F : Int × Mp Int × List Int) s w=>∃ H J K M N,Le j H∧Inv w H (N::K::[(bmut,blk [it x0m,u1m,J,M,u4m,u5m,u6m] 217)]::S)∧OwnM Tryz.prog 3 K J F.2.1∧OwnL 3 H N M F.2.2∧Hx s [(0,pt bmut),(4,it F.1)]) y ⟨j,k,l,m,n,lr,t,u,v,hx rfl⟩ ?_
 clear y
 rintro F _ s _ p ⟨H,J,K,M,N,O,P,Q,R,_,rfl⟩
 refine sq (sg (o_p 4 rfl (lt P 2 rfl ?_)))
 obtain ⟨T,U,rfl⟩:=OwnL.sh R
 refine o_p 2 rfl (en (cd p rfl (fun p=>?_) fun p=>?_))
 refine sn ?_
 refine wpC_block ?_
 refine sg (o_p 3 rfl (lt P 2 rfl (o_p 2 rfl (en (sg (o_p 3 rfl (lt P 2 rfl (o_p 1 rfl (en (obk p fun V W p=>?_))))))))))
 refine cq (fun s w=>∃ X Y Z a0 a1,Le H X∧Inv w X (a1::Z::[(bmut,blk [it x0m,u1m,Y,a0,u4m,u5m,u6m] 217)]::S)∧OwnM Tryz.prog 3 Z Y V.1∧OwnL 3 X a1 a0 V.2∧Hx s [(0,pt bmut),(4,it (F.2.2.length : Int))]) ?_ ?_
 have _:=p
 refine bk (fun (a2 : Int × Mp Int × List Int) s w=>∃ a3 a4 a5 a6 a7,Le H a3∧Inv w a3 (a7::a5::[(bmut,blk [it x0m,u1m,a4,a6,u4m,u5m,u6m] 217)]::S)∧OwnM Tryz.prog 3 a5 a4 a2.2.1∧OwnL 3 a3 a7 a6 a2.2.2∧Hx s [(0,pt bmut),(4,it (F.2.2.length : Int)),(52,it x0m),(53,it a2.1)]) W ⟨H,J,K,(.slice T F.2.2.length U),N,lr,P,Q,R,hx rfl⟩ ?_
 clear W
 rintro a2 _ s _ p ⟨a3,a4,a5,a6,a7,a8,a9,b0,b1,_,rfl⟩
 refine pg rfl (sq (cd p rfl (fun p=>?_) fun p=>?_))
 refine sn (sq ?_)
 refine wpC_block ?_
 refine pg rfl (pg rfl (obk p fun b2 b3 p=>?_))
 refine cq (fun s w=>∃ b4 b5 b6 b7 b8,Le a3 b4∧Inv w b4 (b8::b6::[(bmut,blk [it x0m,u1m,b5,b7,u4m,u5m,u6m] 217)]::S)∧OwnM Tryz.prog 3 b6 b5 b2.1∧OwnL 3 b4 b8 b7 b2.2∧Hx s [(0,pt bmut),(4,it (F.2.2.length : Int)),(52,it x0m),(53,it a2.1)]) ?_ ?_
 have _:=p
 refine bk (fun (b9 : Int × Mp Int × List Int) s w=>∃ e0 e1 e2 e3 e4,Le a3 e0∧Inv w e0 (e4::e2::[(bmut,blk [it x0m,u1m,e1,e3,u4m,u5m,u6m] 217)]::S)∧OwnM Tryz.prog 3 e2 e1 b9.2.1∧OwnL 3 e0 e4 e3 b9.2.2∧Hx s [(0,pt bmut),(4,it (F.2.2.length : Int)),(5,it a2.1),(52,it x0m),(53,it a2.1),(56,it (F.2.2.length : Int)),(57,it b9.1)]) b3 ⟨a3,a4,a5,a6,a7,lr,a9,b0,b1,hx rfl⟩ ?_
 clear b3
 rintro b9 _ s _ p ⟨e0,e1,e2,e3,e4,e5,e6,e7,e8,_,rfl⟩
 refine pg rfl (sq (cd p rfl (fun p=>?_) fun p=>?_))
 refine sn (sq ?_)
 refine wpC_block ?_
 refine pg rfl (pg rfl (obk p fun e9 f0 p=>?_))
 refine cq (fun s w=>∃ f1 f2 f3 f4 f5,Le e0 f1∧Inv w f1 (f5::f3::[(bmut,blk [it x0m,u1m,f2,f4,u4m,u5m,u6m] 217)]::S)∧OwnM Tryz.prog 3 f3 f2 e9.1∧OwnL 3 f1 f5 f4 e9.2∧Hx s [(0,pt bmut),(4,it (F.2.2.length : Int)),(5,it a2.1),(52,it x0m),(53,it a2.1),(56,it (F.2.2.length : Int)),(57,it b9.1)]) ?_ ?_
 have _:=p
 refine bk (fun (f6 : Int × Mp Int × List Int) s w=>∃ f7 f8 f9 g0 g1,Le e0 f7∧Inv w f7 (g1::f9::[(bmut,blk [it x0m,u1m,f8,g0,u4m,u5m,u6m] 217)]::S)∧OwnM Tryz.prog 3 f9 f8 f6.2.1∧OwnL 3 f7 g1 g0 f6.2.2∧Hx s [(0,pt bmut),(4,it (F.2.2.length : Int)),(5,it a2.1),(6,it b9.1),(52,it x0m),(53,it a2.1),(56,it (F.2.2.length : Int)),(57,it b9.1),(60,it (F.2.2.length : Int)),(61,it f6.1)]) f0 ⟨e0,e1,e2,e3,e4,lr,e6,e7,e8,hx rfl⟩ ?_
 clear f0
 rintro f6 _ s _ p ⟨f7,f8,f9,g0,g1,g2,g3,g4,g5,_,rfl⟩
 refine pg rfl (sq (cd p rfl (fun p=>?_) fun p=>?_))
 refine sn (sq ?_)
 refine wpC_block ?_
 refine pg rfl ?_
 refine wpC_drawI hmTryz g3 (Cl f7 S) [(0,.any),(1,.any),(2,.any),(3,.any),(4,.here),(5,.any),(6,.any),(7,.any),(8,.any),(9,.here),(10,.any),(11,.any),(12,.here),(13,.any),(14,.any),(15,.any),(16,.here),(17,.any),(18,.any),(19,.here),(20,.eff false),(21,.eff false)] (by kernel_rfl) fun _ g6=>?_
 refine o_p 4 rfl (lt g6 2 rfl (o_p 4 rfl (lt g6 2 rfl (o_p 1 rfl (obk p fun _ g7 p=>?_)))))
 refine o_ixO g5 g7 rfl rfl rfl rfl rfl rfl rfl rfl (fun _ g8=>?_) rfl
 refine o_ldO g6 0 rfl g5 g8 g7 rfl rfl rfl rfl rfl fun _ g9=>?_
 obtain rfl:=g9.int
 refine o_p 3 rfl (lt g6 2 rfl (o_p 1 rfl (obk p fun _ i0 p=>?_)))
 refine o_ixO g5 i0 rfl rfl rfl rfl rfl rfl rfl rfl (fun _ i1=>?_) rfl
 refine o_ldO g6 0 rfl g5 i1 i0 rfl rfl rfl rfl rfl fun _ i2=>?_
 obtain rfl:=i2.int
 refine obk p fun _ i3 p=>?_
 obtain ⟨_,_,_,rfl,i4,i5⟩:=Fn3.out hm5
 refine o_callv rfl rfl rfl rfl i4 rfl rfl (RVm (i5 _ ((((o.t O).t a8).t e5).t g2) _ _ _ _ _ _ _ _ _ g6 ri ri ri i3) ?_)
 rintro _ _ ⟨_,i6,i7,i8⟩
 obtain rfl:=i8.int
 refine nf ?_
 have i9:=(Inv.front (Inv.front i7 1 rfl) 2 rfl)
 refine obk p fun _ j0 p=>?_
 refine ca okf180 rfl (RVm (c180 i9 g4 (OwnL.mono i6 g5) ri j0) ?_)
 rintro _ _ ⟨j1,j2,j3,j4,j5,j6,j7,j8,j9,k0⟩
 obtain rfl:=k0.int
 refine nf ?_
 cases p
 exact o_nil (bn (nx (rg (o_p 2 rfl (o_nil (nx ⟨_,rfl,⟨j1,j2,j3,j4,j5,((g2.t i6).t j6),(Inv.front (Inv.front (Inv.front j7 0 rfl) 1 rfl) 2 rfl),j8,j9,hx rfl⟩⟩))))))
 refine ex (px ?_)
 cases p
 refine ⟨_,rfl,?_⟩
 rintro rfl
 exact bh (nx (⟨f7,f8,f9,g0,g1,g2,g3,g4,g5,hx rfl⟩))
 rintro s _ ⟨f1,f2,f3,f4,f5,f6,f7,f8,f9,_,rfl⟩
 cases p
 exact bn (nx (rg (o_p 2 rfl (o_nil (nx ⟨_,rfl,⟨f1,f2,f3,f4,f5,(e5.t f6),f7,f8,f9,hx rfl⟩⟩)))))
 refine ex (px ?_)
 cases p
 refine ⟨_,rfl,?_⟩
 rintro rfl
 exact bh (nx (⟨e0,e1,e2,e3,e4,e5,e6,e7,e8,hx rfl⟩))
 rintro s _ ⟨b4,b5,b6,b7,b8,b9,e0,e1,e2,_,rfl⟩
 cases p
 exact bn (nx (rg (o_p 2 rfl (o_nil (nx ⟨_,rfl,⟨b4,b5,b6,b7,b8,(a8.t b9),e0,e1,e2,hx rfl⟩⟩)))))
 refine ex (px ?_)
 cases p
 refine ⟨_,rfl,?_⟩
 rintro rfl
 exact bh (nx (⟨a3,a4,a5,a6,a7,a8,a9,b0,b1,hx rfl⟩))
 rintro s _ ⟨X,Y,Z,a0,a1,a2,a3,a4,a5,_,rfl⟩
 cases p
 exact bn (nx ⟨_,rfl,⟨X,Y,Z,a0,a1,(O.t a2),a3,a4,a5,hx rfl⟩⟩)
 refine ex (px ?_)
 cases p
 refine ⟨_,rfl,?_⟩
 rintro rfl
 exact bh (nx (⟨H,J,K,(.slice T F.2.2.length U),N,O,P,Q,R,hx rfl⟩))
 rintro s _ ⟨z,A,B,C,D,F,H,J,K,_,rfl⟩
 refine nx (sg (o_p 3 rfl (lt H 2 rfl ?_)))
 refine o_bld (cs:=[(0,[it x0m])]) (res:=[it x0m,nl,nl,nl]) rfl rfl rfl zero135 (by exact ⟨rfl,rfl,trivial⟩) rfl rfl rfl ?_ rfl
 refine o_box H rfl rfl rfl (cs:=[it x0m,nl,nl,nl]) rfl fun M _ N=>nf ?_
 refine o_p 1 rfl (en (sq (sg (o_p 3 rfl (lt N 3 rfl (o_p 1 rfl (en ?_)))))))
 have O:=Inv.newNil N
 refine obk p fun P Q p=>?_
 refine cq (fun s w=>∃ R T U,Le z R∧Inv w R (U::[(M,blk [it x0m,nl,T,nl] 135)]::D::B::[(bmut,blk [it x0m,u1m,A,C,u4m,u5m,u6m] 217)]::S)∧OwnL 3 R U T P∧Hx s [(0,pt bmut),(8,pt M)]) ?_ ?_
 have _:=p
 refine bk (fun (V : Int × List Int) s w=>∃ W X Y,Le z W∧Inv w W (Y::[(M,blk [it x0m,nl,X,nl] 135)]::D::B::[(bmut,blk [it x0m,u1m,A,C,u4m,u5m,u6m] 217)]::S)∧OwnL 3 W Y X V.2∧Hx s [(0,pt bmut),(8,pt M),(98,it x0m),(99,it V.1)]) Q ⟨z,nl,[],lr,O,(OwnL.nil (α:=Int) (G:=z) 3),hx rfl⟩ ?_
 clear Q
 rintro V _ s _ p ⟨W,X,Y,Z,a0,a1,_,rfl⟩
 refine pg rfl (sq (cd p rfl (fun p=>?_) fun p=>?_))
 refine sn (sq ?_)
 refine wpC_block ?_
 refine pg rfl ?_
 refine wpC_drawI hmTryz a0 (Cl W (Y::[(M,blk [it x0m,nl,X,nl] 135)]::D::B::[(bmut,blk [it x0m,u1m,A,C,u4m,u5m,u6m] 217)]::S)) [(0,.any),(1,.any),(2,.any),(3,.any),(4,.far),(5,.any),(6,.any),(7,.any),(8,.far),(9,.any),(10,.any),(11,.any),(12,.here),(13,.any),(14,.eff true),(15,.here),(16,.eff true),(17,.eff false),(18,.any),(19,.any),(20,.eff false)] (by kernel_rfl) fun _ a2=>?_
 refine o_p 4 rfl ?_
 refine o_ltF (Cl.le a2 lr) (.S 1 rfl) rfl rfl rfl rfl rfl rfl ?_
 refine o_p 3 rfl ?_
 refine o_ltF (Cl.le a2 lr) (.S 4 rfl) rfl rfl rfl rfl rfl rfl ?_
 refine o_p 3 rfl (lt a2 4 rfl (o_p 1 rfl (obk p fun _ a3 p=>?_)))
 obtain ⟨_,_,_,rfl,a4,a5⟩:=Fn1.out hm4
 refine o_callv rfl rfl rfl rfl a4 rfl rfl (RVm (a5 _ ((o.t F).t Z) _ _ _ _ _ a2 ri a3) ?_)
 rintro _ _ ⟨a6,a7,a8,a9⟩
 obtain rfl:=a9.int
 refine ⟨fun _=>Cl.le a8 a7,obk p fun b0 b1 p=>?_⟩
 refine o_mlook1 a8 3 rfl J b1 mok214 mz214 rfl rfl rfl rfl rfl ?_
 refine o_bs (l:=[b0.getD 0]) (vs:=[it (b0.getD 0)]) a8 ⟨ri,trivial⟩ rfl rfl rfl ⟨rfl,rfl,trivial⟩ rfl elk3 rfl rfl rfl fun _ _ _ _ b2 b3=>⟨fun _=>Cl.le (b3.del 0) a7,?_⟩
 refine obk p fun _ b4 p=>?_
 refine o_app b3 1 rfl (OwnL.mono a7 a1) (Lies.ofOwn b2 0 rfl) b4 rfl rfl rfl rfl rfl rfl elk3 rfl rfl rfl rfl fun b5 b6 _ b7 b8=>nf ?_
 refine o_p 2 rfl ?_
 refine st b8 2 rfl rfl (cs:=[b5]) (oneC_cells (OwnL.oneC b7)) (allc (OwnL.oneC b7) rfl) rfl fun _ b9=>nf ?_
 cases p
 exact o_nil (bn (nx (rg (o_p 2 rfl (o_nil (nx ⟨_,rfl,⟨a6,b5,b6,(Z.t a7),(b9.del 0),b7,hx rfl⟩⟩))))))
 refine ex (px ?_)
 cases p
 refine ⟨_,rfl,?_⟩
 rintro rfl
 exact bh (nx (⟨W,X,Y,Z,a0,a1,hx rfl⟩))
 rintro s _ ⟨R,T,U,V,W,X,_,rfl⟩
 refine nx (sq (sg (o_p 3 rfl (lt W 4 rfl ?_))))
 obtain ⟨Y,Z,rfl⟩:=OwnL.sh K
 refine o_p 2 rfl (en ?_)
 have a0:=Inv.newNil W
 have a1:=Inv.newNil a0
 refine obk p fun a2 a3 p=>?_
 refine cq (fun s w=>∃ a4 a5 a6 a7 a8,Le R a4∧Inv w a4 (a8::a6::U::[(M,blk [it x0m,a5,T,a7] 135)]::D::B::[(bmut,blk [it x0m,u1m,A,(.slice Y x.2.length Z),u4m,u5m,u6m] 217)]::S)∧OwnL 4 a4 a6 a5 a2.1∧OwnN (OwnL 24) 136 a4 a8 a7 a2.2∧Hx s [(8,pt M)]) ?_ ?_
 have _:=p
 refine bk (fun (a9 : Int × List Bool × List (List (List Int))) s w=>∃ b0 b1 b2 b3 b4,Le R b0∧Inv w b0 (b4::b2::U::[(M,blk [it x0m,b1,T,b3] 135)]::D::B::[(bmut,blk [it x0m,u1m,A,(.slice Y x.2.length Z),u4m,u5m,u6m] 217)]::S)∧OwnL 4 b0 b2 b1 a9.2.1∧OwnN (OwnL 24) 136 b0 b4 b3 a9.2.2∧Hx s [(0,pt bmut),(8,pt M),(126,(.slice Y x.2.length Z)),(127,it (x.2.length : Int)),(128,it a9.1)]) a3 ⟨R,nl,[],nl,[],lr,a1,(OwnL.nil (α:=Bool) (G:=R) 4),(OwnN.nil (α:=List (List Int)) (Ev:=OwnL 24) (G:=R) 136),hx rfl⟩ ?_
 clear a3
 rintro a9 _ s _ p ⟨b0,b1,b2,b3,b4,b5,b6,b7,b8,_,rfl⟩
 refine pg rfl (sq (cd p rfl (fun p=>?_) fun p=>?_))
 refine sn (sq ?_)
 refine wpC_block ?_
 refine sg (obk p fun b9 e0 p=>?_)
 refine o_ixO (OwnL.mono (V.t b5) K) e0 rfl rfl rfl rfl rfl rfl rfl rfl (fun _ e1=>?_) rfl
 refine o_ldO b6 4 rfl (OwnL.mono (V.t b5) K) e1 e0 rfl rfl rfl rfl rfl fun _ e2=>?_
 obtain rfl:=e2.int
 refine o_p 1 rfl (en (pg rfl (sq (sg (o_p 3 rfl (lt b6 6 rfl (o_p 2 rfl (en ?_))))))))
 have e3:=Inv.newNil b6
 refine obk p fun e4 e5 p=>?_
 refine cq (fun s w=>∃ e6 e7 e8,Le b0 e6∧Inv w e6 (e8::b4::b2::U::[(M,blk [it x0m,b1,T,b3] 135)]::D::B::[(bmut,blk [it x0m,u1m,A,(.slice Y x.2.length Z),u4m,u5m,u6m] 217)]::S)∧OwnL 24 e6 e8 e7 e4∧Hx s [(0,pt bmut),(8,pt M),(11,it b9),(12,e7),(126,(.slice Y x.2.length Z)),(127,it (x.2.length : Int)),(128,it a9.1)]) ?_ ?_
 have _:=p
 refine bk (fun (e9 : List (List Int) × Int) s w=>∃ f0 f1 f2,Le b0 f0∧Inv w f0 (f2::b4::b2::U::[(M,blk [it x0m,b1,T,b3] 135)]::D::B::[(bmut,blk [it x0m,u1m,A,(.slice Y x.2.length Z),u4m,u5m,u6m] 217)]::S)∧OwnL 24 f0 f2 f1 e9.1∧Hx s [(0,pt bmut),(8,pt M),(11,it b9),(12,f1),(126,(.slice Y x.2.length Z)),(127,it (x.2.length : Int)),(128,it a9.1),(135,(.slice Y x.2.length Z)),(136,it (x.2.length : Int)),(137,it e9.2)]) e5 ⟨b0,nl,[],lr,e3,(OwnL.nil (α:=List Int) (G:=b0) 24),hx rfl⟩ ?_
 clear e5
 rintro e9 _ s _ p ⟨f0,f1,f2,f3,f4,f5,_,rfl⟩
 refine pg rfl (sq (cd p rfl (fun p=>?_) fun p=>?_))
 refine sn (sq ?_)
 refine wpC_block ?_
 refine sg (obk p fun f6 f7 p=>?_)
 refine o_ixO (OwnL.mono ((V.t b5).t f3) K) f7 rfl rfl rfl rfl rfl rfl rfl rfl (fun _ f8=>?_) rfl
 refine o_ldO f4 5 rfl (OwnL.mono ((V.t b5).t f3) K) f8 f7 rfl rfl rfl rfl rfl fun _ f9=>?_
 obtain rfl:=f9.int
 refine o_p 1 rfl (en (sg (o_p 3 rfl (lt f4 7 rfl (obk p fun g0 g1 p=>?_)))))
 refine o_mks (z:=(0 : Int)) f4 g1 rfl rfl rfl elk3 zero3 (fun _=>by rfl) rfl rfl rfl rfl fun _ g2 _ g3 g4=>nf ?_
 refine o_p 1 rfl (en (sq (sg (o_p 1 rfl ?_))))
 obtain ⟨g5,g6,rfl⟩:=OwnL.sh g3
 refine o_p 2 rfl (en (obk p fun g7 g8 p=>?_))
 refine cq (fun s w=>∃ g9 i0 i1,Le f0 g9∧Inv w g9 (i1::f2::b4::b2::U::[(M,blk [it x0m,b1,T,b3] 135)]::D::B::[(bmut,blk [it x0m,u1m,A,(.slice Y x.2.length Z),u4m,u5m,u6m] 217)]::S)∧OwnL 3 g9 i1 i0 g7∧Hx s [(0,pt bmut),(8,pt M),(11,it b9),(12,f1),(15,i0),(126,(.slice Y x.2.length Z)),(127,it (x.2.length : Int)),(128,it a9.1),(135,(.slice Y x.2.length Z)),(136,it (x.2.length : Int)),(137,it e9.2)]) ?_ ?_
 have _:=p
 refine bk (fun (i2 : List Int × Int) s w=>∃ i3 i4 i5,Le f0 i3∧Inv w i3 (i5::f2::b4::b2::U::[(M,blk [it x0m,b1,T,b3] 135)]::D::B::[(bmut,blk [it x0m,u1m,A,(.slice Y x.2.length Z),u4m,u5m,u6m] 217)]::S)∧OwnL 3 i3 i5 i4 i2.1∧Hx s [(0,pt bmut),(8,pt M),(11,it b9),(12,f1),(14,it f6),(15,i4),(126,(.slice Y x.2.length Z)),(127,it (x.2.length : Int)),(128,it a9.1),(135,(.slice Y x.2.length Z)),(136,it (x.2.length : Int)),(137,it e9.2),(147,it ((List.replicate g0 (0 : Int)).length : Int)),(148,it i2.2)]) g8 ⟨f0,(.slice g5 (List.replicate g0 (0 : Int)).length g6),g2,lr,g4,g3,hx rfl⟩ ?_
 clear g8
 rintro i2 _ s _ p ⟨i3,i4,i5,i6,i7,i8,_,rfl⟩
 refine pg rfl (sq (cd p rfl (fun p=>?_) fun p=>?_))
 refine sn (sq ?_)
 refine wpC_block ?_
 refine pg rfl ?_
 refine wpC_drawI hmTryz i7 (Cl i3 (i5::f2::b4::b2::U::[(M,blk [it x0m,b1,T,b3] 135)]::D::B::[(bmut,blk [it x0m,u1m,A,(.slice Y x.2.length Z),u4m,u5m,u6m] 217)]::S)) [(0,.any),(1,.any),(2,.any),(3,.any),(4,.any),(5,.far),(6,.any),(7,.any),(8,.any),(9,.here),(10,.any),(11,.any),(12,.any),(13,.eff true),(14,.here),(15,.any),(16,.eff false)] (by kernel_rfl) fun _ i9=>?_
 refine o_p 5 rfl ?_
 refine o_ltF (Cl.le i9 lr) (.S 8 rfl) rfl rfl rfl rfl rfl rfl ?_
 refine o_p 3 rfl (lt i9 8 rfl (o_p 3 rfl (obk p fun _ j0 p=>?_)))
 obtain ⟨_,_,_,rfl,j1,j2⟩:=Fn3.out hm5
 refine o_callv rfl rfl rfl rfl j1 rfl rfl (RVm (j2 _ (((((o.t F).t V).t b5).t f3).t i6) _ _ _ _ _ _ _ _ _ i9 ri ri ri j0) ?_)
 rintro _ _ ⟨j3,j4,j5,j6⟩
 obtain rfl:=j6.int
 refine ⟨fun _=>Cl.le j5 j4,obk p fun _ j7 p=>?_⟩
 refine o_mlook1 j5 7 rfl J j7 mok214 mz214 rfl rfl rfl rfl rfl ?_
 refine obk p fun _ j8 p=>?_
 refine o_ixO (OwnL.mono j4 i8) j8 rfl rfl rfl rfl rfl rfl rfl rfl (fun _ j9=>?_) rfl
 refine o_stO j5 0 rfl (OwnL.mono j4 i8) j9 j8 ri rfl rfl rfl rfl rfl rfl rfl fun k0 _ k1 k2=>nf ?_
 cases p
 exact o_nil (bn (nx (rg (o_p 2 rfl (o_nil (nx ⟨_,rfl,⟨j3,i4,k0,(i6.t j4),k2,k1,hx rfl⟩⟩))))))
 refine ex (px ?_)
 cases p
 refine ⟨_,rfl,?_⟩
 rintro rfl
 exact bh (nx (⟨i3,i4,i5,i6,i7,i8,hx rfl⟩))
 rintro s _ ⟨g9,i0,i1,i2,i3,i4,_,rfl⟩
 refine nx (rg (o_p 2 rfl ?_))
 obtain ⟨i5,i6,i7,i8⟩:=Inv.frz i3 0 rfl i4
 refine o_bs (l:=[g7]) (vs:=[i0]) i7 ⟨i8,trivial⟩ rfl rfl rfl ⟨rfl,rfl,trivial⟩ rfl elk24 rfl rfl rfl fun _ _ _ _ i9 j0=>nf ?_
 refine obk p fun _ j1 p=>?_
 refine o_app j0 1 rfl (OwnL.mono (i2.t i6) f5) (Lies.ofOwn i9 0 rfl) j1 rfl rfl rfl rfl rfl rfl elk24 rfl rfl rfl rfl fun j2 j3 _ j4 j5=>nf ?_
 cases p
 exact o_p 1 rfl (o_nil (bn (nx (rg (o_p 2 rfl (o_nil (nx ⟨_,rfl,⟨i5,j2,j3,((f3.t i2).t i6),(j5.del 0),j4,hx rfl⟩⟩)))))))
 refine ex (px ?_)
 cases p
 refine ⟨_,rfl,?_⟩
 rintro rfl
 exact bh (nx (⟨f0,f1,f2,f3,f4,f5,hx rfl⟩))
 rintro s _ ⟨e6,e7,e8,e9,f0,f1,_,rfl⟩
 refine nx (sg (o_p 4 rfl (lt f0 4 rfl (o_p 1 rfl ?_))))
 refine o_bs (l:=[Raw.mk e7]) (vs:=[e7]) f0 ⟨RepV.ofRaw _ (own_one f1),trivial⟩ rfl rfl rfl ⟨rfl,rfl,trivial⟩ rfl elk136 rfl rfl rfl fun f2 f3 f4 _ f5 f6=>nf ?_
 have f7 : OwnN (OwnL 24) 136 e6 ([(f2,blk f4 136)] ++ e8) (.slice (some ⟨f2,0,none⟩) 1 f3) [e4]:=OwnN.one f5 f1
 have f8:=Inv.join (Inv.front (Inv.front f6 1 rfl) 1 rfl)
 refine obk p fun _ f9 p=>?_
 refine o_appN (el:=136) (Inv.front f8 1 rfl) (own_mono e9 b8) f7 f9 (fun {S' g1' rs1 rs2 rr} hJ hS hO hL hA hK=>o_app hJ 0 hS hO hL hA rfl rfl rfl rfl rfl rfl elk136 rfl rfl rfl rfl hK) fun g0 g1 _ g2 g3=>nf ?_
 refine o_p 2 rfl ?_
 refine st g3 3 rfl rfl (cs:=[g0]) (oneC_cells (own_one g2)) (allc (own_one g2) rfl) rfl fun _ g4=>nf ?_
 refine en ?_
 refine wpC_drawI hmTryz g4 (Cl e6 (g1::b2::U::[(M,blk [it x0m,b1,T,g0] 135)]::D::B::[(bmut,blk [it x0m,u1m,A,(.slice Y x.2.length Z),u4m,u5m,u6m] 217)]::S)) [(0,.any),(1,.any),(2,.any),(3,.any),(4,.far),(5,.any),(6,.any),(7,.any),(8,.here),(9,.any),(10,.eff true),(11,.eff true),(12,.eff false),(13,.any),(14,.any),(15,.eff false)] (by kernel_rfl) fun _ g5=>?_
 refine o_p 4 rfl ?_
 refine o_ltF (Cl.le g5 lr) (.S 3 rfl) rfl rfl rfl rfl rfl rfl ?_
 refine o_p 3 rfl (lt g5 6 rfl (o_p 1 rfl (obk p fun g6 g7 p=>?_)))
 obtain ⟨_,_,_,rfl,g8,g9⟩:=Fn1.out hm6
 refine o_callv rfl rfl rfl rfl g8 rfl rfl (RVm (g9 _ ((((o.t F).t V).t b5).t e9) _ _ _ _ _ g5 ri g7) ?_)
 rintro _ _ ⟨i0,i1,i2,i3⟩
 obtain rfl:=i3.bool
 refine ⟨fun _=>Cl.le i2 i1,?_⟩
 refine o_bs (l:=[g6]) (vs:=[.bool g6]) i2 ⟨rb,trivial⟩ rfl rfl rfl ⟨rfl,rfl,trivial⟩ rfl elk4 rfl rfl rfl fun _ _ _ _ i4 i5=>⟨fun _=>Cl.le (i5.del 0) i1,?_⟩
 refine obk p fun _ i6 p=>?_
 refine o_app i5 2 rfl (OwnL.mono (e9.t i1) b7) (Lies.ofOwn i4 0 rfl) i6 rfl rfl rfl rfl rfl rfl elk4 rfl rfl rfl rfl fun i7 i8 _ i9 j0=>nf ?_
 refine o_p 2 rfl ?_
 refine st j0 4 rfl rfl (cs:=[i7]) (oneC_cells (OwnL.oneC i9)) (allc (OwnL.oneC i9) rfl) rfl fun _ j1=>nf ?_
 cases p
 exact o_nil (bn (nx (rg (o_p 2 rfl (o_nil (nx ⟨_,rfl,⟨i0,i7,i8,g0,g1,((b5.t e9).t i1),(j1.del 0),i9,(own_mono i1 g2),hx rfl⟩⟩))))))
 refine ex (px ?_)
 cases p
 refine ⟨_,rfl,?_⟩
 rintro rfl
 exact bh (nx (⟨b0,b1,b2,b3,b4,b5,b6,b7,b8,hx rfl⟩))
 rintro s _ ⟨a4,a5,a6,a7,a8,a9,b0,b1,b2,_,rfl⟩
 refine nx (pg rfl (rt ?_))
 obtain ⟨_,b3,b4,b5⟩:=Inv.frz b0 1 rfl b1
 obtain ⟨_,b6,b7,b8⟩:=Inv.frz b4 1 rfl (OwnL.mono (a9.t b3) X)
 obtain ⟨_,b9,e0,e1⟩:=Inv.frzE b7 0 rfl (own_mono (b3.t b6) b2)
 obtain ⟨_,e2,e3,e4⟩:=Inv.frzB e0 0 rfl (machine.pk (⟨x0m,a2.1,P,a2.2⟩ : machine) (b5.m (b6.t b9)) (b8.m b9) e1) rfl
 cases p
 exact Rt.mk (((((((o.t F).t V).t a9).t b3).t b6).t b9).t e2) (((e3.del 2).del 1).del 0) (RepV.ofPtr e4)
theorem c115 {v0 v1 : Value} {d0 : TreeAutomaton} {d1 : Int} (I : Inv w G S) {r : Option machine} (h0 : RepV G v0 d0) (h1 : RepV G v1 d1) (p : t_determine d0 d1 = some r) :
 Calls Tryz.prog 115 #[v0, v1] w (RV (Rt G S r)) := by
 have _:=h0
 obtain ⟨a,b,c,rfl,d,f,h⟩:=TreeAutomaton.unp h0
 obtain rfl:=h1.int
 refine nt (n:=79) 4 [_,_] (h:=rfl) (res1 rfl) fun _=>sg ?_
 refine o_box I rfl rfl rfl (cs:=[it d0.letters,it d0.states,a,b,c]) rfl fun i _ j=>nf ?_
 refine o_p 1 rfl (en (sg ?_))
 refine o_alloc j rfl rfl rfl zero79 fun k _ l=>nf ?_
 refine en (sq (sg (o_p 1 rfl (lt l 1 rfl ?_))))
 obtain ⟨m,n,rfl,_⟩:=d.slice
 refine o_p 2 rfl (en (obk p fun o t p=>?_))
 refine cq (fun s w=>Inv w G ([(k,blk [.int .u64 o] 79)]::[(i,blk [it d0.letters,it d0.states,(.slice m d0.accept.length n),b,c] 36)]::S)∧Hx s [(1,it d1),(2,pt i),(5,pt k)]) ?_ ?_
 have _:=p
 refine bk (fun (u : Int × Int) s w=>Inv w G ([(k,blk [.int .u64 u.2] 79)]::[(i,blk [it d0.letters,it d0.states,(.slice m d0.accept.length n),b,c] 36)]::S)∧Hx s [(1,it d1),(2,pt i),(5,pt k),(16,(.slice m d0.accept.length n)),(17,it (d0.accept.length : Int)),(18,it u.1)]) t ⟨l,hx rfl⟩ ?_
 clear t
 rintro u _ s _ p ⟨v,_,rfl⟩
 refine pg rfl (sq (cd p rfl (fun p=>?_) fun p=>?_))
 refine sn (sq ?_)
 refine wpC_block ?_
 refine sg (obk p fun _ x p=>ix d.slice x rfl rfl fun _ y=>ld v y rfl fun _ z=>?_)
 obtain rfl:=z.int
 refine o_p 1 rfl (en ?_)
 refine wpC_drawI hmTryz v (Cl G S) [(0,.here),(1,.any),(2,.any),(3,.any),(4,.eff false)] (by kernel_rfl) fun _ A=>?_
 refine lt A 0 rfl (o_p 1 rfl (obk p fun B C p=>?_))
 refine o_shl C rfl rfl rfl rfl rfl ?_ rfl
 refine o_p 1 rfl ?_
 refine st A 0 rfl rfl (cs:=[.int .u64 (IntKind.u64.wrap (BitVec.ofInt 64 u.2 ||| BitVec.ofInt 64 B).toNat)]) rfl rfl rfl fun _ D=>nf ?_
 cases p
 exact o_nil (bn (nx (rg (o_p 2 rfl (o_nil (nx ⟨_,rfl,⟨D,hx rfl⟩⟩))))))
 refine ex (px ?_)
 cases p
 refine ⟨_,rfl,?_⟩
 rintro rfl
 exact bh (nx (⟨v,hx rfl⟩))
 rintro s _ ⟨u,_,rfl⟩
 refine nx (sg (o_p 1 rfl (lt u 1 rfl (obk p fun _ v p=>?_))))
 refine o_mks (z:=(U64.mk 0 : U64)) u v rfl rfl rfl elk79 zero79 (fun _=>by rfl) rfl rfl rfl rfl fun x y _ z A=>nf ?_
 refine o_alloc A rfl rfl rfl zero78 fun B _ C=>nf ?_
 refine st C 0 rfl rfl (cs:=[x]) (oneC_cells (OwnL.oneC z)) (allc (OwnL.oneC z) rfl) rfl fun _ D=>nf ?_
 refine en (sq (sg (o_p 1 rfl (lt D 3 rfl ?_))))
 obtain ⟨F,H,rfl,_⟩:=f.slice
 refine o_p 2 rfl (en (obk p fun J K p=>?_))
 refine cq (fun s w=>∃ M N,Inv w G ([(B,blk [M] 78)]::N::[(k,blk [.int .u64 o] 79)]::[(i,blk [it d0.letters,it d0.states,(.slice m d0.accept.length n),(.slice F d0.leaves.length H),c] 36)]::S)∧OwnL 79 G N M J∧Hx s [(1,it d1),(2,pt i),(5,pt k),(8,pt B)]) ?_ ?_
 have _:=p
 refine bk (fun (O : Int × List U64) s w=>∃ P Q,Inv w G ([(B,blk [P] 78)]::Q::[(k,blk [.int .u64 o] 79)]::[(i,blk [it d0.letters,it d0.states,(.slice m d0.accept.length n),(.slice F d0.leaves.length H),c] 36)]::S)∧OwnL 79 G Q P O.2∧Hx s [(1,it d1),(2,pt i),(5,pt k),(8,pt B),(31,(.slice F d0.leaves.length H)),(32,it (d0.leaves.length : Int)),(33,it O.1)]) K ⟨x,y,D,z,hx rfl⟩ ?_
 clear K
 rintro O _ s _ p ⟨P,Q,R,T,_,rfl⟩
 refine pg rfl (sq (cd p rfl (fun p=>?_) fun p=>?_))
 refine sn (sq ?_)
 refine wpC_block ?_
 refine sg (obk p fun U V p=>ix f.slice V rfl rfl fun _ W=>ld R W rfl fun _ X=>?_)
 have _:=X
 obtain rfl:=Leaf.unp X
 refine o_alloc R rfl rfl rfl zero72 fun _ _ Y=>nf ?_
 refine st Y 0 rfl rfl (cs:=[it U.letter,it U.to]) rfl rfl rfl fun _ Z=>nf ?_
 refine en ?_
 refine wpC_drawI hmTryz Z (Cl G S) [(0,.here),(1,.any),(2,.here),(3,.any),(4,.here),(5,.any),(6,.here),(7,.any),(8,.any),(9,.any),(10,.eff false)] (by kernel_rfl) fun _ a0=>?_
 refine lt a0 1 rfl (o_p 1 rfl (lt a0 0 rfl (obk p fun _ a1 p=>?_)))
 refine o_ixO T a1 rfl rfl rfl rfl rfl rfl rfl rfl (fun _ a2=>?_) rfl
 refine o_ldO a0 2 rfl T a2 a1 rfl rfl rfl rfl rfl fun _ a3=>?_
 obtain rfl:=a3.u64
 refine o_p 1 rfl (lt a0 0 rfl (obk p fun _ a4 p=>?_))
 refine o_shl a4 rfl rfl rfl rfl rfl ?_ rfl
 refine o_p 1 rfl (obk p fun _ a5 p=>?_)
 refine o_ixO T a5 rfl rfl rfl rfl rfl rfl rfl rfl (fun _ a6=>?_) rfl
 refine o_stO a0 2 rfl T a6 a5 (RepV.ofU64 _ _) rfl rfl rfl rfl rfl rfl rfl fun a7 _ a8 a9=>nf ?_
 cases p
 exact o_nil (bn (nx (rg (o_p 2 rfl (o_nil (nx ⟨_,rfl,⟨P,a7,(a9.del 0),a8,hx rfl⟩⟩))))))
 refine ex (px ?_)
 cases p
 refine ⟨_,rfl,?_⟩
 rintro rfl
 exact bh (nx (⟨P,Q,R,T,hx rfl⟩))
 rintro s _ ⟨M,N,O,P,_,rfl⟩
 refine nx (sg (o_p 1 rfl (lt O 3 rfl (obk p fun Q R p=>?_))))
 refine o_mks (z:=Raw.mk nl) O R rfl rfl rfl elk34 zero34 (fun _=>by exact ⟨rfl,rfl⟩) rfl rfl rfl rfl fun T U _ V W=>nf ?_
 have X : OwnN (OwnL 74) 34 G U T (List.replicate Q ([] : List Branch)):=OwnN.made V (OwnL.nil _)
 refine o_alloc W rfl rfl rfl zero258 fun Y _ Z=>nf ?_
 refine st Z 0 rfl rfl (cs:=[T]) (oneC_cells (own_one X)) (allc (own_one X) rfl) rfl fun _ a0=>nf ?_
 refine en (sq (sg (o_p 1 rfl (lt a0 5 rfl ?_))))
 obtain ⟨a1,a2,rfl,_⟩:=h.slice
 refine o_p 2 rfl (en (obk p fun a3 a4 p=>?_))
 refine cq (fun s w=>∃ a5 a6,Inv w G ([(Y,blk [a5] 258)]::a6::[(B,blk [M] 78)]::N::[(k,blk [.int .u64 o] 79)]::[(i,blk [it d0.letters,it d0.states,(.slice m d0.accept.length n),(.slice F d0.leaves.length H),(.slice a1 d0.branches.length a2)] 36)]::S)∧OwnN (OwnL 74) 34 G a6 a5 a3∧Hx s [(1,it d1),(2,pt i),(5,pt k),(8,pt B),(11,pt Y)]) ?_ ?_
 have _:=p
 refine bk (fun (a7 : Int × List (List Branch)) s w=>∃ a8 a9,Inv w G ([(Y,blk [a8] 258)]::a9::[(B,blk [M] 78)]::N::[(k,blk [.int .u64 o] 79)]::[(i,blk [it d0.letters,it d0.states,(.slice m d0.accept.length n),(.slice F d0.leaves.length H),(.slice a1 d0.branches.length a2)] 36)]::S)∧OwnN (OwnL 74) 34 G a9 a8 a7.2∧Hx s [(1,it d1),(2,pt i),(5,pt k),(8,pt B),(11,pt Y),(52,(.slice a1 d0.branches.length a2)),(53,it (d0.branches.length : Int)),(54,it a7.1)]) a4 ⟨T,U,a0,X,hx rfl⟩ ?_
 clear a4
 rintro a7 _ s _ p ⟨a8,a9,b0,b1,_,rfl⟩
 refine pg rfl (sq (cd p rfl (fun p=>?_) fun p=>?_))
 refine sn (sq ?_)
 refine wpC_block ?_
 refine sg (obk p fun b2 b3 p=>ix h.slice b3 rfl rfl fun _ b4=>ld b0 b4 rfl fun _ b5=>?_)
 have b6:=b5
 obtain rfl:=Branch.unp b5
 refine o_alloc b0 rfl rfl rfl zero74 fun b7 _ b8=>nf ?_
 refine st b8 0 rfl rfl (cs:=[it b2.letter,it b2.first,it b2.second,it b2.to]) rfl rfl rfl fun _ b9=>nf ?_
 refine en (obk p fun _ e0 p=>?_)
 obtain ⟨e1,_,_,_,e2,e3,e4,e5,e6,_,e7,_,_⟩:=OwnN.open (Inv.front b9 2 rfl) b1 e0
 refine wpC_drawI hmTryz e3 (Cl G (e1::e2::[(b7,blk [it b2.letter,it b2.first,it b2.second,it b2.to] 74)]::[(Y,blk [a8] 258)]::[(B,blk [M] 78)]::N::[(k,blk [.int .u64 o] 79)]::[(i,blk [it d0.letters,it d0.states,(.slice m d0.accept.length n),(.slice F d0.leaves.length H),(.slice a1 d0.branches.length a2)] 36)]::S)) [(0,.far),(1,.any),(2,.far),(3,.far),(4,.any),(5,.far),(6,.any),(7,.far),(8,.here),(9,.eff true),(10,.eff true),(11,.any),(12,.eff false)] (by kernel_rfl) fun _ e8=>?_
 refine o_ltF (Cl.le (e8.del 0) lr) (.S 3 rfl) rfl rfl rfl rfl rfl rfl ?_
 refine o_p 1 rfl ?_
 refine o_ltF (Cl.le (e8.del 0) lr) (.S 2 rfl) rfl rfl rfl rfl rfl rfl ?_
 refine o_ltF (Cl.le (e8.del 0) lr) (.S 3 rfl) rfl rfl rfl rfl rfl rfl ?_
 refine o_p 1 rfl ?_
 refine o_ltF (Cl.le (e8.del 0) lr) (.S 2 rfl) rfl rfl rfl rfl rfl rfl ?_
 refine o_ixO e4 e5 rfl rfl rfl rfl rfl rfl rfl rfl (fun _ e9=>?_) rfl
 refine o_ldOF (Cl.le (e8.del 0) lr) (fun q hq=>⟨_,List.mem_of_getElem? (i:=0) rfl,hq⟩) e4 e9 e5 rfl rfl rfl rfl rfl fun f0 f1=>?_
 have _:=RepV.raw f1
 subst f0
 refine lta e8 3 rfl (cs:=[it b2.letter,it b2.first,it b2.second,it b2.to]) rfl ?_
 refine o_bs (l:=[b2]) (vs:=[.agg #[it b2.letter,it b2.first,it b2.second,it b2.to]]) e8 ⟨b6,trivial⟩ rfl rfl rfl ⟨rfl,rfl,trivial⟩ rfl elk74 rfl rfl rfl fun _ _ _ _ f2 f3=>⟨fun _=>Cl.le ((f3.del 1).del 0) lr,?_⟩
 refine obk p fun f4 f5 p=>?_
 refine o_app f3 1 rfl e6 (Lies.ofOwn f2 0 rfl) f5 rfl rfl rfl rfl rfl rfl elk74 rfl rfl rfl rfl fun _ _ _ f6 f7=>⟨fun _=>Cl.le ((f7.del 1).del 0) lr,?_⟩
 refine o_ixO e4 e5 rfl rfl rfl rfl rfl rfl rfl rfl (fun _ f8=>?_) rfl
 refine o_stO f7 2 rfl e4 f8 e5 (RepV.ofRaw _ (own_one f6)) rfl rfl rfl rfl rfl rfl rfl fun _ _ f9 g0=>nf ?_
 obtain ⟨g1,g2,g3⟩:=Inv.close (K:=fun g=>OwnN (OwnL 74) 34 G g a8 (a7.2.set (b2.letter : Int).toNat f4)) (Inv.front (Inv.front (Inv.front g0 3 rfl) 3 rfl) 3 rfl) (e7 _ _ _ _ _ lr f9 f6)
 cases p
 exact o_nil (bn (nx (rg (o_p 2 rfl (o_nil (nx ⟨_,rfl,⟨a8,g1,(Inv.front (Inv.front (Inv.front (Inv.front (Inv.front (Inv.front ((g2.del 2).del 1) 5 rfl) 5 rfl) 5 rfl) 5 rfl) 4 rfl) 5 rfl),g3,hx rfl⟩⟩))))))
 refine ex (px ?_)
 cases p
 refine ⟨_,rfl,?_⟩
 rintro rfl
 exact bh (nx (⟨a8,a9,b0,b1,hx rfl⟩))
 rintro s _ ⟨a5,a6,a7,a8,_,rfl⟩
 refine nx (sg (o_p 1 rfl (lt a7 5 rfl (o_p 1 rfl ?_))))
 obtain ⟨_,a9,b0,b1⟩:=Inv.frz a7 3 rfl P
 obtain ⟨_,b2,b3,b4⟩:=Inv.frzB b0 2 rfl b1 (RepV.cells1 b1 rfl)
 refine o_mkf (fv:=[]) (cv:=[pt B]) rfl rfl rfl rfl rfl ?_ rfl
 obtain ⟨_,b5,b6,b7⟩:=Inv.frzE b3 1 rfl (own_mono (a9.t b2) a8)
 obtain ⟨_,b8,b9,e0⟩:=Inv.frzB b6 0 rfl b7 (RepV.cells1 b7 rfl)
 refine o_mkf (fv:=[]) (cv:=[pt Y]) rfl rfl rfl rfl rfl ?_ rfl
 obtain ⟨_,e1,e2,e3⟩:=Inv.frzB b9 0 rfl (RepV.ofU64 _ _) rfl
 refine o_mkf (fv:=[]) (cv:=[pt k]) rfl rfl rfl rfl rfl ?_ rfl
 refine o_bld (cs:=[(0,[it d0.letters]),(1,[it d1]),(4,[.func (.func 169) #[] #[pt B]]),(5,[.func (.func 170) #[] #[pt Y]]),(6,[.func (.func 171) #[] #[pt k]])]) (res:=[it d0.letters,it d1,.map none,nl,.func (.func 169) #[] #[pt B],.func (.func 170) #[] #[pt Y],.func (.func 171) #[] #[pt k]]) rfl rfl rfl zero264 (by exact ⟨rfl,rfl,⟨rfl,rfl,⟨rfl,rfl,⟨rfl,rfl,⟨rfl,rfl,trivial⟩⟩⟩⟩⟩) rfl rfl rfl ?_ rfl
 refine o_alloc e2 rfl rfl rfl zero264 fun _ _ e4=>nf ?_
 refine st e4 0 rfl rfl (cs:=[it d0.letters,it d1,.map none,nl,.func (.func 169) #[] #[pt B],.func (.func 170) #[] #[pt Y],.func (.func 171) #[] #[pt k]]) rfl rfl rfl fun _ e5=>nf ?_
 refine en (sg (obk p fun _ e6 p=>?_))
 refine ca okf172 rfl (rv (c172 e5 (Fn1.mk okf169 (fun _ hl _ _ f0 f1 _ I h0 hf=>c169 I h0 (PtrTo.mono hl (PtrTo.mono ((b5.t b8).t e1) b4)) hf)) (Fn3.mk okf170 (fun _ hl _ _ f0 a _ f1 _ _ _ I h0 h1 f2 hf=>c170 I h0 h1 f2 (PtrTo.mono hl (PtrTo.mono e1 e0)) hf)) (Fn1.mk okf171 (fun _ hl _ _ f0 f1 _ I h0 hf=>c171 I h0 (PtrTo.mono hl e3) hf))  e6) fun _ _ _ e7 e8 e9=>?_)
 refine nf ?_
 cases p
 exact o_p 1 rfl (en (rt (Rt.mk (((((a9.t b2).t b5).t b8).t e1).t e7) (e8.del 0) e9)))
theorem c33 {v0 : Value} {d0 : machine} (I : Inv w G S) {r : TreeAutomaton} (h0 : RepV G v0 (some d0)) (p : t_machine_plain d0 = some r) :
 Calls Tryz.prog 33 #[v0] w (RV (Rt G S r)) := by
 obtain ⟨a,rfl,b⟩:=RepV.ptr h0
 refine enterM (n:=104) (fun s w v=>RdC Tryz.prog 2 36 s w v) [_] Tryz.func33 rfl rfl rfl (resC rfl) fun _=>?_
 refine sg ?_
 refine o_alloc I rfl rfl rfl zero36 fun c _ d=>nf ?_
 refine en (sq ?_)
 refine wpC_drawT hmTryz d (Cl G ([(c,blk [it 0,it 0,nl,nl,nl] 36)]::S)) (.node [(0,.any),(1,.any),(2,.any),(3,.far),(4,.any)] (.leaf [(5,.eff true),(6,.any),(7,.eff true),(8,.eff false)]) (.leaf [(7,.eff true),(5,.eff true),(6,.any),(8,.eff false)])) (by kernel_rfl) fun _ f=>?_
 refine wpT_node ?_
 refine o_p 3 rfl ?_
 refine o_ldF (Cl.le f lr) (show PtrTo _ _ d0.letters from (PtrTo.fld b 0 rfl rfl)) rfl rfl rfl rfl rfl fun _ g=>?_
 obtain rfl:=g.int
 refine o_p 1 rfl (o_nil ?_)
 refine wpT_fork ?_ ?_
 refine wpT_leaf ?_
 refine obk p fun h i p=>?_
 refine ca okf38 rfl (rvi (c38 f (RepV.ofPtr b) i) fun _ j k l=>?_)
 refine ⟨fun _=>Cl.le l k,?_⟩
 refine o_bld (cs:=[(0,[it d0.letters]),(1,[it h])]) (res:=[it d0.letters,it h,nl,nl,nl]) rfl rfl rfl zero36 (by exact ⟨rfl,rfl,⟨rfl,rfl,trivial⟩⟩) rfl rfl rfl ?_ rfl
 refine o_alloc l rfl rfl rfl zero36 fun m _ n=>⟨fun _=>Cl.le (n.del 0) k,?_⟩
 refine st n 0 rfl rfl (cs:=[it d0.letters,it h,nl,nl,nl]) rfl rfl rfl fun _ o=>nf ?_
 refine en (sq (sg (o_p 3 rfl (ld o (PtrTo.mono k (PtrTo.fld b 1 rfl rfl)) rfl fun _ t=>?_))))
 obtain ⟨u,x,rfl,_⟩:=t.slice
 refine o_p 2 rfl (en ?_)
 have y:=Inv.newNil o
 refine obk p fun z A p=>?_
 refine cq (fun s w=>∃ B C,Inv w j (C::[(m,blk [it d0.letters,it h,B,nl,nl] 36)]::[(c,blk [it 0,it 0,nl,nl,nl] 36)]::S)∧OwnL 3 j C B z∧Hx s [(0,.pointer (some a)),(2,pt c),(3,pt m)]) ?_ ?_
 have _:=p
 refine bk (fun (D : Int × List Int) s w=>∃ F H,Inv w j (H::[(m,blk [it d0.letters,it h,F,nl,nl] 36)]::[(c,blk [it 0,it 0,nl,nl,nl] 36)]::S)∧OwnL 3 j H F D.2∧Hx s [(0,.pointer (some a)),(2,pt c),(3,pt m),(21,(.slice u d0.accept.length x)),(22,it (d0.accept.length : Int)),(23,it D.1)]) A ⟨nl,[],y,(OwnL.nil (α:=Int) (G:=j) 3),hx rfl⟩ ?_
 clear A
 rintro D _ s _ p ⟨F,H,J,K,_,rfl⟩
 refine pg rfl (sq (cd p rfl (fun p=>?_) fun p=>?_))
 refine sn (sq ?_)
 refine wpC_block ?_
 refine sg (o_p 1 rfl (obk p fun _ M p=>ix t.slice M rfl rfl fun _ N=>ld J N rfl fun _ O=>?_))
 obtain rfl:=O.bool
 refine o_p 2 rfl (en (pg rfl (obk p fun P Q p=>?_)))
 refine cq (fun s w=>∃ R T,Inv w j (T::[(m,blk [it d0.letters,it h,R,nl,nl] 36)]::[(c,blk [it 0,it 0,nl,nl,nl] 36)]::S)∧OwnL 3 j T R P∧Hx s [(0,.pointer (some a)),(2,pt c),(3,pt m),(21,(.slice u d0.accept.length x)),(22,it (d0.accept.length : Int)),(23,it D.1)]) ?_ ?_
 replace p:=Q
 refine cd p rfl (fun p=>?_) fun p=>?_
 refine rg (o_p 1 rfl (lt J 1 rfl (o_p 1 rfl ?_)))
 refine o_bs (l:=[D.1]) (vs:=[it D.1]) J ⟨ri,trivial⟩ rfl rfl rfl ⟨rfl,rfl,trivial⟩ rfl elk3 rfl rfl rfl fun _ _ _ _ U V=>nf ?_
 refine obk p fun _ W p=>?_
 refine o_app V 1 rfl K (Lies.ofOwn U 0 rfl) W rfl rfl rfl rfl rfl rfl elk3 rfl rfl rfl rfl fun X Y _ Z a0=>nf ?_
 refine o_p 1 rfl ?_
 refine st a0 2 rfl rfl (cs:=[X]) (oneC_cells (OwnL.oneC Z)) (allc (OwnL.oneC Z) rfl) rfl fun _ a1=>nf ?_
 cases p
 exact o_nil (⟨X,Y,(a1.del 0),Z,hx rfl⟩)
 refine wpC_skip ?_
 cases p
 exact ⟨F,H,J,K,hx rfl⟩
 rintro s _ ⟨R,T,U,V,_,rfl⟩
 cases p
 exact bn (nx (rg (o_p 2 rfl (o_nil (nx ⟨_,rfl,⟨R,T,U,V,hx rfl⟩⟩)))))
 refine ex (px ?_)
 cases p
 refine ⟨_,rfl,?_⟩
 rintro rfl
 exact bh (nx (⟨F,H,J,K,hx rfl⟩))
 rintro s _ ⟨B,C,D,F,_,rfl⟩
 refine nx (sq (sg (o_p 3 rfl (ld D (PtrTo.mono k (PtrTo.fld b 2 rfl rfl)) rfl fun _ H=>?_))))
 obtain ⟨J,K,rfl,_⟩:=H.slice
 refine o_p 2 rfl (en ?_)
 have M:=Inv.newNil D
 refine obk p fun N O p=>?_
 refine cq (fun s w=>∃ P Q,Inv w j (Q::C::[(m,blk [it d0.letters,it h,B,P,nl] 36)]::[(c,blk [it 0,it 0,nl,nl,nl] 36)]::S)∧OwnL 72 j Q P N∧Hx s [(0,.pointer (some a)),(2,pt c),(3,pt m)]) ?_ ?_
 have _:=p
 refine bk (fun (R : Int × List Leaf) s w=>∃ T U,Inv w j (U::C::[(m,blk [it d0.letters,it h,B,T,nl] 36)]::[(c,blk [it 0,it 0,nl,nl,nl] 36)]::S)∧OwnL 72 j U T R.2∧Hx s [(0,.pointer (some a)),(2,pt c),(3,pt m),(39,(.slice J d0.leaf.length K)),(40,it (d0.leaf.length : Int)),(41,it R.1)]) O ⟨nl,[],M,(OwnL.nil (α:=Leaf) (G:=j) 72),hx rfl⟩ ?_
 clear O
 rintro R _ s _ p ⟨T,U,V,W,_,rfl⟩
 refine pg rfl (sq (cd p rfl (fun p=>?_) fun p=>?_))
 refine sn (sq ?_)
 refine wpC_block ?_
 refine sg (o_p 1 rfl (obk p fun X Y p=>ix H.slice Y rfl rfl fun _ Z=>ld V Z rfl fun _ a0=>?_))
 obtain rfl:=a0.int
 refine o_p 2 rfl (en (rg (o_p 1 rfl (lt V 2 rfl (o_p 2 rfl ?_)))))
 refine o_bld (cs:=[(0,[it R.1]),(1,[it X])]) (res:=[it R.1,it X]) rfl rfl rfl zero72 (by exact ⟨rfl,rfl,⟨rfl,rfl,trivial⟩⟩) rfl rfl rfl ?_ rfl
 refine o_bs (l:=[(⟨R.1,X⟩ : Leaf)]) (vs:=[.agg #[it R.1,it X]]) V ⟨(Leaf.pk (⟨R.1,X⟩ : Leaf)),trivial⟩ rfl rfl rfl ⟨rfl,rfl,trivial⟩ rfl elk72 rfl rfl rfl fun _ _ _ _ a1 a2=>nf ?_
 refine obk p fun _ a3 p=>?_
 refine o_app a2 1 rfl W (Lies.ofOwn a1 0 rfl) a3 rfl rfl rfl rfl rfl rfl elk72 rfl rfl rfl rfl fun a4 a5 _ a6 a7=>nf ?_
 refine o_p 1 rfl ?_
 refine st a7 3 rfl rfl (cs:=[a4]) (oneC_cells (OwnL.oneC a6)) (allc (OwnL.oneC a6) rfl) rfl fun _ a8=>nf ?_
 cases p
 exact o_nil (bn (nx (rg (o_p 2 rfl (o_nil (nx ⟨_,rfl,⟨a4,a5,(a8.del 0),a6,hx rfl⟩⟩))))))
 refine ex (px ?_)
 cases p
 refine ⟨_,rfl,?_⟩
 rintro rfl
 exact bh (nx (⟨T,U,V,W,hx rfl⟩))
 rintro s _ ⟨P,Q,R,T,_,rfl⟩
 refine nx (sq (sg (o_p 3 rfl (ld R (PtrTo.mono k (PtrTo.fld b 0 rfl rfl)) rfl fun _ U=>?_))))
 obtain rfl:=U.int
 refine o_p 1 rfl (en ?_)
 have V:=Inv.newNil R
 refine obk p fun W X p=>?_
 refine cq (fun s w=>∃ Y Z,Inv w j (Z::Q::C::[(m,blk [it d0.letters,it h,B,P,Y] 36)]::[(c,blk [it 0,it 0,nl,nl,nl] 36)]::S)∧OwnL 74 j Z Y W∧Hx s [(2,pt c),(3,pt m)]) ?_ ?_
 have _:=p
 refine bk (fun (a0 : Int × List Branch) s w=>∃ a1 a2,Inv w j (a2::Q::C::[(m,blk [it d0.letters,it h,B,P,a1] 36)]::[(c,blk [it 0,it 0,nl,nl,nl] 36)]::S)∧OwnL 74 j a2 a1 a0.2∧Hx s [(0,.pointer (some a)),(2,pt c),(3,pt m),(58,it d0.letters),(59,it a0.1)]) X ⟨nl,[],V,(OwnL.nil (α:=Branch) (G:=j) 74),hx rfl⟩ ?_
 clear X
 rintro a0 _ s _ p ⟨a1,a2,a3,a4,_,rfl⟩
 refine pg rfl (sq (cd p rfl (fun p=>?_) fun p=>?_))
 refine sn (sq ?_)
 refine wpC_block ?_
 refine pg rfl (sg (o_p 3 rfl (ld a3 (PtrTo.mono k (PtrTo.fld b 1 rfl rfl)) rfl fun _ a5=>?_)))
 obtain ⟨_,_,rfl,_⟩:=a5.slice
 refine o_p 2 rfl (en (obk p fun a6 a7 p=>?_))
 refine cq (fun s w=>∃ a8 a9,Inv w j (a9::Q::C::[(m,blk [it d0.letters,it h,B,P,a8] 36)]::[(c,blk [it 0,it 0,nl,nl,nl] 36)]::S)∧OwnL 74 j a9 a8 a6∧Hx s [(0,.pointer (some a)),(2,pt c),(3,pt m),(58,it d0.letters),(59,it a0.1)]) ?_ ?_
 have _:=p
 refine bk (fun (b0 : Int × List Branch) s w=>∃ b1 b2,Inv w j (b2::Q::C::[(m,blk [it d0.letters,it h,B,P,b1] 36)]::[(c,blk [it 0,it 0,nl,nl,nl] 36)]::S)∧OwnL 74 j b2 b1 b0.2∧Hx s [(0,.pointer (some a)),(2,pt c),(3,pt m),(8,it a0.1),(58,it d0.letters),(59,it a0.1),(66,it (d0.accept.length : Int)),(67,it b0.1)]) a7 ⟨a1,a2,a3,a4,hx rfl⟩ ?_
 clear a7
 rintro b0 _ s _ p ⟨b1,b2,b3,b4,_,rfl⟩
 refine pg rfl (sq (cd p rfl (fun p=>?_) fun p=>?_))
 refine sn (sq ?_)
 refine wpC_block ?_
 refine pg rfl (sg (o_p 3 rfl (ld b3 (PtrTo.mono k (PtrTo.fld b 1 rfl rfl)) rfl fun _ b5=>?_)))
 obtain ⟨_,_,rfl,_⟩:=b5.slice
 refine o_p 2 rfl (en (obk p fun b6 b7 p=>?_))
 refine cq (fun s w=>∃ b8 b9,Inv w j (b9::Q::C::[(m,blk [it d0.letters,it h,B,P,b8] 36)]::[(c,blk [it 0,it 0,nl,nl,nl] 36)]::S)∧OwnL 74 j b9 b8 b6∧Hx s [(0,.pointer (some a)),(2,pt c),(3,pt m),(8,it a0.1),(58,it d0.letters),(59,it a0.1),(66,it (d0.accept.length : Int)),(67,it b0.1)]) ?_ ?_
 have _:=p
 refine bk (fun (e0 : Int × List Branch) s w=>∃ e1 e2,Inv w j (e2::Q::C::[(m,blk [it d0.letters,it h,B,P,e1] 36)]::[(c,blk [it 0,it 0,nl,nl,nl] 36)]::S)∧OwnL 74 j e2 e1 e0.2∧Hx s [(0,.pointer (some a)),(2,pt c),(3,pt m),(8,it a0.1),(9,it b0.1),(58,it d0.letters),(59,it a0.1),(66,it (d0.accept.length : Int)),(67,it b0.1),(74,it (d0.accept.length : Int)),(75,it e0.1)]) b7 ⟨b1,b2,b3,b4,hx rfl⟩ ?_
 clear b7
 rintro e0 _ s _ p ⟨e1,e2,e3,e4,_,rfl⟩
 refine pg rfl (sq (cd p rfl (fun p=>?_) fun p=>?_))
 refine sn (sq ?_)
 refine wpC_block ?_
 refine pg rfl ?_
 refine wpC_drawI hmTryz e3 (Cl j (e2::Q::C::[(m,blk [it d0.letters,it h,B,P,e1] 36)]::[(c,blk [it 0,it 0,nl,nl,nl] 36)]::S)) [(0,.any),(1,.far),(2,.any),(3,.any),(4,.any),(5,.any),(6,.any),(7,.any),(8,.here),(9,.any),(10,.any),(11,.here),(12,.any),(13,.any),(14,.here),(15,.any),(16,.any),(17,.here),(18,.any),(19,.eff true),(20,.eff false),(21,.any),(22,.eff false)] (by kernel_rfl) fun _ e5=>?_
 refine o_p 1 rfl ?_
 refine o_ltF (Cl.le e5 lr) (.S 3 rfl) rfl rfl rfl rfl rfl rfl ?_
 refine o_p 6 rfl (ld e5 (PtrTo.mono k (PtrTo.fld b 3 rfl rfl)) rfl fun _ e6=>o_p 1 rfl (obk p fun _ e7 p=>ix e6.slice e7 rfl rfl fun _ e8=>ld e5 e8 rfl fun _ e9=>o_p 1 rfl (obk p fun _ f0 p=>ix e9.slice f0 rfl rfl fun _ f1=>ld e5 f1 rfl fun _ f2=>o_p 1 rfl (obk p fun f3 f4 p=>ix f2.slice f4 rfl rfl fun _ f5=>ld e5 f5 rfl fun _ f6=>?_))))
 obtain rfl:=f6.int
 refine o_bld (cs:=[(0,[it a0.1]),(1,[it b0.1]),(2,[it e0.1]),(3,[it f3])]) (res:=[it a0.1,it b0.1,it e0.1,it f3]) rfl rfl rfl zero74 (by exact ⟨rfl,rfl,⟨rfl,rfl,⟨rfl,rfl,⟨rfl,rfl,trivial⟩⟩⟩⟩) rfl rfl rfl ?_ rfl
 refine o_bs (l:=[(⟨a0.1,b0.1,e0.1,f3⟩ : Branch)]) (vs:=[.agg #[it a0.1,it b0.1,it e0.1,it f3]]) e5 ⟨(Branch.pk (⟨a0.1,b0.1,e0.1,f3⟩ : Branch)),trivial⟩ rfl rfl rfl ⟨rfl,rfl,trivial⟩ rfl elk74 rfl rfl rfl fun _ _ _ _ f7 f8=>⟨fun _=>Cl.le (f8.del 0) lr,?_⟩
 refine obk p fun _ f9 p=>?_
 refine o_app f8 1 rfl e4 (Lies.ofOwn f7 0 rfl) f9 rfl rfl rfl rfl rfl rfl elk74 rfl rfl rfl rfl fun g0 g1 _ g2 g3=>nf ?_
 refine o_p 1 rfl ?_
 refine st g3 4 rfl rfl (cs:=[g0]) (oneC_cells (OwnL.oneC g2)) (allc (OwnL.oneC g2) rfl) rfl fun _ g4=>nf ?_
 cases p
 exact o_nil (bn (nx (rg (o_p 2 rfl (o_nil (nx ⟨_,rfl,⟨g0,g1,(g4.del 0),g2,hx rfl⟩⟩))))))
 refine ex (px ?_)
 cases p
 refine ⟨_,rfl,?_⟩
 rintro rfl
 exact bh (nx (⟨e1,e2,e3,e4,hx rfl⟩))
 rintro s _ ⟨b8,b9,e0,e1,_,rfl⟩
 cases p
 exact bn (nx (rg (o_p 2 rfl (o_nil (nx ⟨_,rfl,⟨b8,b9,e0,e1,hx rfl⟩⟩)))))
 refine ex (px ?_)
 cases p
 refine ⟨_,rfl,?_⟩
 rintro rfl
 exact bh (nx (⟨b1,b2,b3,b4,hx rfl⟩))
 rintro s _ ⟨a8,a9,b0,b1,_,rfl⟩
 cases p
 exact bn (nx (rg (o_p 2 rfl (o_nil (nx ⟨_,rfl,⟨a8,a9,b0,b1,hx rfl⟩⟩)))))
 refine ex (px ?_)
 cases p
 refine ⟨_,rfl,?_⟩
 rintro rfl
 exact bh (nx (⟨a1,a2,a3,a4,hx rfl⟩))
 rintro s _ ⟨Y,Z,a0,a1,_,rfl⟩
 refine nx (sg (lta a0 3 rfl (cs:=[it d0.letters,it h,B,P,Y]) rfl ?_))
 refine st a0 4 rfl rfl (cs:=[it d0.letters,it h,B,P,Y]) rfl (allc rfl (allc rfl (allc (OwnL.oneC F) (allc (OwnL.oneC T) (allc (OwnL.oneC a1) rfl))))) rfl fun _ a2=>nf ?_
 refine en (rt ?_)
 obtain ⟨_,a3,a4,a5⟩:=Inv.frz a2 2 rfl F
 obtain ⟨_,a6,a7,a8⟩:=Inv.frz a4 1 rfl (OwnL.mono a3 T)
 obtain ⟨_,a9,b0,b1⟩:=Inv.frz a7 0 rfl (OwnL.mono (a3.t a6) a1)
 cases p
 exact ⟨_,RdC.mk b0 (.S 1 rfl) rfl rfl,Rt.mk (((k.t a3).t a6).t a9) ((b0.del 1).del 0) (TreeAutomaton.pk (⟨d0.letters,h,z,N,W⟩ : TreeAutomaton) (a5.m (a6.t a9)) (a8.m a9) b1)⟩
 refine wpT_leaf ?_
 refine o_alloc f rfl rfl rfl zero36 fun h _ i=>⟨fun _=>Cl.le (i.del 0) lr,?_⟩
 refine obk p fun j k p=>?_
 refine ca okf38 rfl (rvi (c38 i (RepV.ofPtr b) k) fun _ l m n=>?_)
 refine ⟨fun _=>Cl.le (n.del 0) m,?_⟩
 refine o_bld (cs:=[(0,[it d0.letters]),(1,[it j])]) (res:=[it d0.letters,it j,nl,nl,nl]) rfl rfl rfl zero36 (by exact ⟨rfl,rfl,⟨rfl,rfl,trivial⟩⟩) rfl rfl rfl ?_ rfl
 refine st n 0 rfl rfl (cs:=[it d0.letters,it j,nl,nl,nl]) rfl rfl rfl fun _ o=>nf ?_
 refine en (sq (sg (o_p 3 rfl (ld o (PtrTo.mono m (PtrTo.fld b 1 rfl rfl)) rfl fun _ t=>?_))))
 obtain ⟨u,x,rfl,_⟩:=t.slice
 refine o_p 2 rfl (en ?_)
 have y:=Inv.newNil o
 refine obk p fun z A p=>?_
 refine cq (fun s w=>∃ B C,Inv w l (C::[(h,blk [it d0.letters,it j,B,nl,nl] 36)]::[(c,blk [it 0,it 0,nl,nl,nl] 36)]::S)∧OwnL 3 l C B z∧Hx s [(0,.pointer (some a)),(2,pt c),(3,pt h)]) ?_ ?_
 have _:=p
 refine bk (fun (D : Int × List Int) s w=>∃ F H,Inv w l (H::[(h,blk [it d0.letters,it j,F,nl,nl] 36)]::[(c,blk [it 0,it 0,nl,nl,nl] 36)]::S)∧OwnL 3 l H F D.2∧Hx s [(0,.pointer (some a)),(2,pt c),(3,pt h),(21,(.slice u d0.accept.length x)),(22,it (d0.accept.length : Int)),(23,it D.1)]) A ⟨nl,[],y,(OwnL.nil (α:=Int) (G:=l) 3),hx rfl⟩ ?_
 clear A
 rintro D _ s _ p ⟨F,H,J,K,_,rfl⟩
 refine pg rfl (sq (cd p rfl (fun p=>?_) fun p=>?_))
 refine sn (sq ?_)
 refine wpC_block ?_
 refine sg (o_p 1 rfl (obk p fun _ M p=>ix t.slice M rfl rfl fun _ N=>ld J N rfl fun _ O=>?_))
 obtain rfl:=O.bool
 refine o_p 2 rfl (en (pg rfl (obk p fun P Q p=>?_)))
 refine cq (fun s w=>∃ R T,Inv w l (T::[(h,blk [it d0.letters,it j,R,nl,nl] 36)]::[(c,blk [it 0,it 0,nl,nl,nl] 36)]::S)∧OwnL 3 l T R P∧Hx s [(0,.pointer (some a)),(2,pt c),(3,pt h),(21,(.slice u d0.accept.length x)),(22,it (d0.accept.length : Int)),(23,it D.1)]) ?_ ?_
 replace p:=Q
 refine cd p rfl (fun p=>?_) fun p=>?_
 refine rg (o_p 1 rfl (lt J 1 rfl (o_p 1 rfl ?_)))
 refine o_bs (l:=[D.1]) (vs:=[it D.1]) J ⟨ri,trivial⟩ rfl rfl rfl ⟨rfl,rfl,trivial⟩ rfl elk3 rfl rfl rfl fun _ _ _ _ U V=>nf ?_
 refine obk p fun _ W p=>?_
 refine o_app V 1 rfl K (Lies.ofOwn U 0 rfl) W rfl rfl rfl rfl rfl rfl elk3 rfl rfl rfl rfl fun X Y _ Z a0=>nf ?_
 refine o_p 1 rfl ?_
 refine st a0 2 rfl rfl (cs:=[X]) (oneC_cells (OwnL.oneC Z)) (allc (OwnL.oneC Z) rfl) rfl fun _ a1=>nf ?_
 cases p
 exact o_nil (⟨X,Y,(a1.del 0),Z,hx rfl⟩)
 refine wpC_skip ?_
 cases p
 exact ⟨F,H,J,K,hx rfl⟩
 rintro s _ ⟨R,T,U,V,_,rfl⟩
 cases p
 exact bn (nx (rg (o_p 2 rfl (o_nil (nx ⟨_,rfl,⟨R,T,U,V,hx rfl⟩⟩)))))
 refine ex (px ?_)
 cases p
 refine ⟨_,rfl,?_⟩
 rintro rfl
 exact bh (nx (⟨F,H,J,K,hx rfl⟩))
 rintro s _ ⟨B,C,D,F,_,rfl⟩
 refine nx (sq (sg (o_p 3 rfl (ld D (PtrTo.mono m (PtrTo.fld b 2 rfl rfl)) rfl fun _ H=>?_))))
 obtain ⟨J,K,rfl,_⟩:=H.slice
 refine o_p 2 rfl (en ?_)
 have M:=Inv.newNil D
 refine obk p fun N O p=>?_
 refine cq (fun s w=>∃ P Q,Inv w l (Q::C::[(h,blk [it d0.letters,it j,B,P,nl] 36)]::[(c,blk [it 0,it 0,nl,nl,nl] 36)]::S)∧OwnL 72 l Q P N∧Hx s [(0,.pointer (some a)),(2,pt c),(3,pt h)]) ?_ ?_
 have _:=p
 refine bk (fun (R : Int × List Leaf) s w=>∃ T U,Inv w l (U::C::[(h,blk [it d0.letters,it j,B,T,nl] 36)]::[(c,blk [it 0,it 0,nl,nl,nl] 36)]::S)∧OwnL 72 l U T R.2∧Hx s [(0,.pointer (some a)),(2,pt c),(3,pt h),(39,(.slice J d0.leaf.length K)),(40,it (d0.leaf.length : Int)),(41,it R.1)]) O ⟨nl,[],M,(OwnL.nil (α:=Leaf) (G:=l) 72),hx rfl⟩ ?_
 clear O
 rintro R _ s _ p ⟨T,U,V,W,_,rfl⟩
 refine pg rfl (sq (cd p rfl (fun p=>?_) fun p=>?_))
 refine sn (sq ?_)
 refine wpC_block ?_
 refine sg (o_p 1 rfl (obk p fun X Y p=>ix H.slice Y rfl rfl fun _ Z=>ld V Z rfl fun _ a0=>?_))
 obtain rfl:=a0.int
 refine o_p 2 rfl (en (rg (o_p 1 rfl (lt V 2 rfl (o_p 2 rfl ?_)))))
 refine o_bld (cs:=[(0,[it R.1]),(1,[it X])]) (res:=[it R.1,it X]) rfl rfl rfl zero72 (by exact ⟨rfl,rfl,⟨rfl,rfl,trivial⟩⟩) rfl rfl rfl ?_ rfl
 refine o_bs (l:=[(⟨R.1,X⟩ : Leaf)]) (vs:=[.agg #[it R.1,it X]]) V ⟨(Leaf.pk (⟨R.1,X⟩ : Leaf)),trivial⟩ rfl rfl rfl ⟨rfl,rfl,trivial⟩ rfl elk72 rfl rfl rfl fun _ _ _ _ a1 a2=>nf ?_
 refine obk p fun _ a3 p=>?_
 refine o_app a2 1 rfl W (Lies.ofOwn a1 0 rfl) a3 rfl rfl rfl rfl rfl rfl elk72 rfl rfl rfl rfl fun a4 a5 _ a6 a7=>nf ?_
 refine o_p 1 rfl ?_
 refine st a7 3 rfl rfl (cs:=[a4]) (oneC_cells (OwnL.oneC a6)) (allc (OwnL.oneC a6) rfl) rfl fun _ a8=>nf ?_
 cases p
 exact o_nil (bn (nx (rg (o_p 2 rfl (o_nil (nx ⟨_,rfl,⟨a4,a5,(a8.del 0),a6,hx rfl⟩⟩))))))
 refine ex (px ?_)
 cases p
 refine ⟨_,rfl,?_⟩
 rintro rfl
 exact bh (nx (⟨T,U,V,W,hx rfl⟩))
 rintro s _ ⟨P,Q,R,T,_,rfl⟩
 refine nx (sq (sg (o_p 3 rfl (ld R (PtrTo.mono m (PtrTo.fld b 0 rfl rfl)) rfl fun _ U=>?_))))
 obtain rfl:=U.int
 refine o_p 1 rfl (en ?_)
 have V:=Inv.newNil R
 refine obk p fun W X p=>?_
 refine cq (fun s w=>∃ Y Z,Inv w l (Z::Q::C::[(h,blk [it d0.letters,it j,B,P,Y] 36)]::[(c,blk [it 0,it 0,nl,nl,nl] 36)]::S)∧OwnL 74 l Z Y W∧Hx s [(2,pt c),(3,pt h)]) ?_ ?_
 have _:=p
 refine bk (fun (a0 : Int × List Branch) s w=>∃ a1 a2,Inv w l (a2::Q::C::[(h,blk [it d0.letters,it j,B,P,a1] 36)]::[(c,blk [it 0,it 0,nl,nl,nl] 36)]::S)∧OwnL 74 l a2 a1 a0.2∧Hx s [(0,.pointer (some a)),(2,pt c),(3,pt h),(58,it d0.letters),(59,it a0.1)]) X ⟨nl,[],V,(OwnL.nil (α:=Branch) (G:=l) 74),hx rfl⟩ ?_
 clear X
 rintro a0 _ s _ p ⟨a1,a2,a3,a4,_,rfl⟩
 refine pg rfl (sq (cd p rfl (fun p=>?_) fun p=>?_))
 refine sn (sq ?_)
 refine wpC_block ?_
 refine pg rfl (sg (o_p 3 rfl (ld a3 (PtrTo.mono m (PtrTo.fld b 1 rfl rfl)) rfl fun _ a5=>?_)))
 obtain ⟨_,_,rfl,_⟩:=a5.slice
 refine o_p 2 rfl (en (obk p fun a6 a7 p=>?_))
 refine cq (fun s w=>∃ a8 a9,Inv w l (a9::Q::C::[(h,blk [it d0.letters,it j,B,P,a8] 36)]::[(c,blk [it 0,it 0,nl,nl,nl] 36)]::S)∧OwnL 74 l a9 a8 a6∧Hx s [(0,.pointer (some a)),(2,pt c),(3,pt h),(58,it d0.letters),(59,it a0.1)]) ?_ ?_
 have _:=p
 refine bk (fun (b0 : Int × List Branch) s w=>∃ b1 b2,Inv w l (b2::Q::C::[(h,blk [it d0.letters,it j,B,P,b1] 36)]::[(c,blk [it 0,it 0,nl,nl,nl] 36)]::S)∧OwnL 74 l b2 b1 b0.2∧Hx s [(0,.pointer (some a)),(2,pt c),(3,pt h),(8,it a0.1),(58,it d0.letters),(59,it a0.1),(66,it (d0.accept.length : Int)),(67,it b0.1)]) a7 ⟨a1,a2,a3,a4,hx rfl⟩ ?_
 clear a7
 rintro b0 _ s _ p ⟨b1,b2,b3,b4,_,rfl⟩
 refine pg rfl (sq (cd p rfl (fun p=>?_) fun p=>?_))
 refine sn (sq ?_)
 refine wpC_block ?_
 refine pg rfl (sg (o_p 3 rfl (ld b3 (PtrTo.mono m (PtrTo.fld b 1 rfl rfl)) rfl fun _ b5=>?_)))
 obtain ⟨_,_,rfl,_⟩:=b5.slice
 refine o_p 2 rfl (en (obk p fun b6 b7 p=>?_))
 refine cq (fun s w=>∃ b8 b9,Inv w l (b9::Q::C::[(h,blk [it d0.letters,it j,B,P,b8] 36)]::[(c,blk [it 0,it 0,nl,nl,nl] 36)]::S)∧OwnL 74 l b9 b8 b6∧Hx s [(0,.pointer (some a)),(2,pt c),(3,pt h),(8,it a0.1),(58,it d0.letters),(59,it a0.1),(66,it (d0.accept.length : Int)),(67,it b0.1)]) ?_ ?_
 have _:=p
 refine bk (fun (e0 : Int × List Branch) s w=>∃ e1 e2,Inv w l (e2::Q::C::[(h,blk [it d0.letters,it j,B,P,e1] 36)]::[(c,blk [it 0,it 0,nl,nl,nl] 36)]::S)∧OwnL 74 l e2 e1 e0.2∧Hx s [(0,.pointer (some a)),(2,pt c),(3,pt h),(8,it a0.1),(9,it b0.1),(58,it d0.letters),(59,it a0.1),(66,it (d0.accept.length : Int)),(67,it b0.1),(74,it (d0.accept.length : Int)),(75,it e0.1)]) b7 ⟨b1,b2,b3,b4,hx rfl⟩ ?_
 clear b7
 rintro e0 _ s _ p ⟨e1,e2,e3,e4,_,rfl⟩
 refine pg rfl (sq (cd p rfl (fun p=>?_) fun p=>?_))
 refine sn (sq ?_)
 refine wpC_block ?_
 refine pg rfl ?_
 refine wpC_drawI hmTryz e3 (Cl l (e2::Q::C::[(h,blk [it d0.letters,it j,B,P,e1] 36)]::[(c,blk [it 0,it 0,nl,nl,nl] 36)]::S)) [(0,.any),(1,.far),(2,.any),(3,.any),(4,.any),(5,.any),(6,.any),(7,.any),(8,.here),(9,.any),(10,.any),(11,.here),(12,.any),(13,.any),(14,.here),(15,.any),(16,.any),(17,.here),(18,.any),(19,.eff true),(20,.eff false),(21,.any),(22,.eff false)] (by kernel_rfl) fun _ e5=>?_
 refine o_p 1 rfl ?_
 refine o_ltF (Cl.le e5 lr) (.S 3 rfl) rfl rfl rfl rfl rfl rfl ?_
 refine o_p 6 rfl (ld e5 (PtrTo.mono m (PtrTo.fld b 3 rfl rfl)) rfl fun _ e6=>o_p 1 rfl (obk p fun _ e7 p=>ix e6.slice e7 rfl rfl fun _ e8=>ld e5 e8 rfl fun _ e9=>o_p 1 rfl (obk p fun _ f0 p=>ix e9.slice f0 rfl rfl fun _ f1=>ld e5 f1 rfl fun _ f2=>o_p 1 rfl (obk p fun f3 f4 p=>ix f2.slice f4 rfl rfl fun _ f5=>ld e5 f5 rfl fun _ f6=>?_))))
 obtain rfl:=f6.int
 refine o_bld (cs:=[(0,[it a0.1]),(1,[it b0.1]),(2,[it e0.1]),(3,[it f3])]) (res:=[it a0.1,it b0.1,it e0.1,it f3]) rfl rfl rfl zero74 (by exact ⟨rfl,rfl,⟨rfl,rfl,⟨rfl,rfl,⟨rfl,rfl,trivial⟩⟩⟩⟩) rfl rfl rfl ?_ rfl
 refine o_bs (l:=[(⟨a0.1,b0.1,e0.1,f3⟩ : Branch)]) (vs:=[.agg #[it a0.1,it b0.1,it e0.1,it f3]]) e5 ⟨(Branch.pk (⟨a0.1,b0.1,e0.1,f3⟩ : Branch)),trivial⟩ rfl rfl rfl ⟨rfl,rfl,trivial⟩ rfl elk74 rfl rfl rfl fun _ _ _ _ f7 f8=>⟨fun _=>Cl.le (f8.del 0) lr,?_⟩
 refine obk p fun _ f9 p=>?_
 refine o_app f8 1 rfl e4 (Lies.ofOwn f7 0 rfl) f9 rfl rfl rfl rfl rfl rfl elk74 rfl rfl rfl rfl fun g0 g1 _ g2 g3=>nf ?_
 refine o_p 1 rfl ?_
 refine st g3 4 rfl rfl (cs:=[g0]) (oneC_cells (OwnL.oneC g2)) (allc (OwnL.oneC g2) rfl) rfl fun _ g4=>nf ?_
 cases p
 exact o_nil (bn (nx (rg (o_p 2 rfl (o_nil (nx ⟨_,rfl,⟨g0,g1,(g4.del 0),g2,hx rfl⟩⟩))))))
 refine ex (px ?_)
 cases p
 refine ⟨_,rfl,?_⟩
 rintro rfl
 exact bh (nx (⟨e1,e2,e3,e4,hx rfl⟩))
 rintro s _ ⟨b8,b9,e0,e1,_,rfl⟩
 cases p
 exact bn (nx (rg (o_p 2 rfl (o_nil (nx ⟨_,rfl,⟨b8,b9,e0,e1,hx rfl⟩⟩)))))
 refine ex (px ?_)
 cases p
 refine ⟨_,rfl,?_⟩
 rintro rfl
 exact bh (nx (⟨b1,b2,b3,b4,hx rfl⟩))
 rintro s _ ⟨a8,a9,b0,b1,_,rfl⟩
 cases p
 exact bn (nx (rg (o_p 2 rfl (o_nil (nx ⟨_,rfl,⟨a8,a9,b0,b1,hx rfl⟩⟩)))))
 refine ex (px ?_)
 cases p
 refine ⟨_,rfl,?_⟩
 rintro rfl
 exact bh (nx (⟨a1,a2,a3,a4,hx rfl⟩))
 rintro s _ ⟨Y,Z,a0,a1,_,rfl⟩
 refine nx (sg (lta a0 3 rfl (cs:=[it d0.letters,it j,B,P,Y]) rfl ?_))
 refine st a0 4 rfl rfl (cs:=[it d0.letters,it j,B,P,Y]) rfl (allc rfl (allc rfl (allc (OwnL.oneC F) (allc (OwnL.oneC T) (allc (OwnL.oneC a1) rfl))))) rfl fun _ a2=>nf ?_
 refine en (rt ?_)
 obtain ⟨_,a3,a4,a5⟩:=Inv.frz a2 2 rfl F
 obtain ⟨_,a6,a7,a8⟩:=Inv.frz a4 1 rfl (OwnL.mono a3 T)
 obtain ⟨_,a9,b0,b1⟩:=Inv.frz a7 0 rfl (OwnL.mono (a3.t a6) a1)
 cases p
 exact ⟨_,RdC.mk b0 (.S 1 rfl) rfl rfl,Rt.mk (((m.t a3).t a6).t a9) ((b0.del 1).del 0) (TreeAutomaton.pk (⟨d0.letters,j,z,N,W⟩ : TreeAutomaton) (a5.m (a6.t a9)) (a8.m a9) b1)⟩
theorem c49 {v0 : Value} {d0 : TreeAutomaton} (I : Inv w G S) {r : TreeAutomaton} (h0 : RepV G v0 d0) (p : r7_Exact d0 = some r) :
 Calls Tryz.prog 49 #[v0] w (RV (Rt G S r)) := by
 have a:=h0
 obtain ⟨b,c,d,rfl,_,_,_⟩:=TreeAutomaton.unp h0
 refine enterM (n:=12) (fun s w v=>RdC Tryz.prog 2 36 s w v) [_] Tryz.func49 rfl rfl rfl (resC rfl) fun _=>sg (o_box I rfl rfl rfl (cs:=[it d0.letters,it d0.states,b,c,d]) rfl fun _ _ f=>nf (o_alloc f rfl rfl rfl zero36 fun _ _ g=>nf (en (sg (lta g 1 rfl (cs:=[it d0.letters,it d0.states,b,c,d]) rfl (obk p fun h i p=>ca okf96 rfl (RVm (c96 g a ri i) ?_)))))))
 rintro _ _ ⟨_,_,_,j,k,rfl,l,m⟩
 have n:=l
 obtain ⟨o,t,u,rfl,x,y,z⟩:=TableR.unp l
 obtain rfl:=m.bool
 refine nf (o_p 3 rfl (o_alloc k rfl rfl rfl zero98 fun _ _ A=>nf (st A 0 rfl rfl (cs:=[it h.1.letters,o,t,u]) rfl (allc rfl (allc (RepV.one1 x rfl) (allc (RepV.one1 y rfl) (allc (RepV.one1 z rfl) rfl)))) rfl fun _ B=>nf (o_p 1 rfl (en (sg (lta B 0 rfl (cs:=[it h.1.letters,o,t,u]) rfl (obk p fun C D p=>ca okf52 rfl (rv (c52 B n D) fun _ _ _ F H J=>?_)))))))))
 have K:=J
 obtain ⟨M,N,O,rfl,P,Q,R⟩:=TreeAutomaton.unp J
 refine nf (st H 1 rfl rfl (cs:=[it C.letters,it C.states,M,N,O]) rfl (allc rfl (allc rfl (allc (RepV.one1 P rfl) (allc (RepV.one1 Q rfl) (allc (RepV.one1 R rfl) rfl))))) rfl fun _ T=>nf ?_)
 cases p
 exact en (rt (⟨_,RdC.mk T (.S 1 rfl) rfl rfl,Rt.mk (j.t F) (((T.del 2).del 1).del 0) K⟩))
theorem c131 {v0 : Value} {d0 : Protocol} (I : Inv w G S) {r : Int} (h0 : RepV G v0 d0) (p : r2_Validate d0 = some r) :
 Calls Tryz.prog 131 #[v0] w (RV (Rt G S r)) := by
 have a:=h0
 obtain ⟨b,c,d,f,g,h,i,rfl,j,k,l,m,n,o,t⟩:=Protocol.unp h0
 refine nt (n:=178) 2 [_] (h:=rfl) (res1 rfl) fun _=>sg (o_box I rfl rfl rfl (cs:=[.string d0.name,it d0.topology,b,c,d,it d0.fault,f,g,h,i]) rfl fun u _ v=>nf (o_p 1 rfl (en (sq (sg (o_p 1 rfl (lt v 0 rfl (obk p fun _ x p=>ca okf132 rfl (rvb (c132 v (RepV.ofStr _ _) x) fun _ _ y z=>nf (o_p 1 rfl (en (cd p rfl (fun p=>?_) fun p=>?_))))))))))))
 cases p
 exact pg rfl (rt (pr (Rt.mk y (z.del 0) ri)))
 refine sn (sq (sg (o_p 1 rfl (lt z 0 rfl (obk p fun _ A p=>ca okf134 rfl (rvb (c134 z (RepV.ofInt _ _) (RepV.ofInt _ _) (RepV.ofInt _ _) A) fun _ B C D=>nf (o_p 2 rfl (obk p fun F H p=>oq (fun s w=>∃ J,Le B J∧Inv w J ([(u,blk [.string d0.name,it d0.topology,b,c,d,it d0.fault,f,g,h,i] 27)]::S)∧Hx s [(1,pt u),(23,.bool F)]) ?_ ?_))))))))
 replace p:=H
 refine sp 18 p rfl (fun p=>?_) fun p=>?_
 refine o_p 2 rfl (o_no rfl rfl ?_)
 cases p
 exact o_p 2 rfl (o_nil (⟨B,lr,D,hx rfl⟩))
 refine o_p 1 rfl (lt D 0 rfl (obk p fun _ K p=>ca okf134 rfl (rvb (c134 D (RepV.ofInt _ _) (RepV.ofInt _ _) (RepV.ofInt _ _) K) fun _ M N O=>nf ?_)))
 cases p
 exact o_p 2 rfl (o_nil (⟨M,N,O,hx rfl⟩))
 rintro s _ ⟨J,K,M,_,rfl⟩
 refine nx (cd p rfl (fun p=>?_) fun p=>?_)
 cases p
 exact pg rfl (rt (pr (Rt.mk ((y.t C).t K) (M.del 0) ri)))
 refine sn (sq (sg (o_p 1 rfl (lt M 0 rfl ?_))))
 obtain ⟨N,O,rfl,_⟩:=j.slice
 refine o_p 2 rfl (en (cd p rfl (fun p=>?_) fun p=>?_))
 cases p
 exact pg rfl (rt (pr (Rt.mk ((y.t C).t K) (M.del 0) ri)))
 refine sn (sq (sg (o_p 1 rfl (lt M 0 rfl (o_p 3 rfl (obk p fun P Q p=>oq (fun s w=>Inv w J ([(u,blk [.string d0.name,it d0.topology,(.slice N d0.states.length O),c,d,it d0.fault,f,g,h,i] 27)]::S)∧Hx s [(1,pt u),(55,.bool P)]) ?_ ?_))))))
 replace p:=Q
 refine sp 32 p rfl (fun p=>?_) fun p=>?_
 cases p
 exact o_p 23 rfl (o_nil (⟨M,hx rfl⟩))
 refine o_p 1 rfl (lt M 0 rfl ?_)
 obtain ⟨_,_,rfl,_⟩:=k.slice
 refine o_p 4 rfl (sp 38 p rfl (fun p=>?_) fun p=>?_)
 cases p
 exact o_p 17 rfl (o_nil (⟨M,hx rfl⟩))
 refine o_p 1 rfl (lt M 0 rfl ?_)
 obtain ⟨_,_,rfl,_⟩:=l.slice
 refine o_p 4 rfl (sp 44 p rfl (fun p=>?_) fun p=>?_)
 cases p
 exact o_p 11 rfl (o_nil (⟨M,hx rfl⟩))
 refine o_p 1 rfl (lt M 0 rfl ?_)
 obtain ⟨_,_,rfl,_⟩:=m.slice
 refine o_p 4 rfl (sp 50 p rfl (fun p=>?_) fun p=>?_)
 cases p
 exact o_p 5 rfl (o_nil (⟨M,hx rfl⟩))
 refine o_p 1 rfl (lt M 0 rfl ?_)
 obtain ⟨_,_,rfl,_⟩:=t.slice
 cases p
 exact o_p 3 rfl (o_nil (⟨M,hx rfl⟩))
 rintro s _ ⟨R,_,rfl⟩
 refine nx (cd p rfl (fun p=>?_) fun p=>?_)
 cases p
 exact pg rfl (rt (pr (Rt.mk ((y.t C).t K) (R.del 0) ri)))
 refine sn (sq (wpC_drawI hmTryz R (Cl J ([(u,blk [.string d0.name,it d0.topology,(.slice N d0.states.length O),c,d,it d0.fault,f,g,h,i] 27)]::S)) [(1,.any),(2,.far),(4,.any),(5,.far),(7,.any),(8,.far),(0,.eff true),(3,.eff true),(6,.eff true),(9,.eff false),(10,.any)] (by kernel_rfl) fun _ T=>o_p 1 rfl ?_))
 refine o_ltF (Cl.le T lr) (.S 0 rfl) rfl rfl rfl rfl rfl rfl (o_p 1 rfl ?_)
 refine o_ltF (Cl.le T lr) (.S 0 rfl) rfl rfl rfl rfl rfl rfl (o_p 1 rfl ?_)
 refine o_ltF (Cl.le T lr) (.S 0 rfl) rfl rfl rfl rfl rfl rfl (o_bs (l:=([] : List ByteArray)) (vs:=[]) T trivial rfl rfl rfl trivial rfl elk9 rfl rfl rfl fun _ _ _ _ U V=>⟨fun _=>Cl.le (V.del 0) lr,obk p fun _ W p=>?_⟩)
 refine o_app V 0 rfl U (Lies.ofSlice (j.m ((y.t C).t K)).slice) W rfl rfl rfl rfl rfl rfl elk9 rfl rfl rfl rfl fun _ _ _ X Y=>⟨fun _=>Cl.le (Y.del 0) lr,?_⟩
 refine obk p fun _ Z p=>?_
 refine o_app Y 0 rfl X (Lies.ofSlice (k.m ((y.t C).t K)).slice) Z rfl rfl rfl rfl rfl rfl elk9 rfl rfl rfl rfl fun _ _ _ a0 a1=>⟨fun _=>Cl.le (a1.del 0) lr,?_⟩
 refine obk p fun _ a2 p=>?_
 refine o_app a1 0 rfl a0 (Lies.ofSlice (l.m ((y.t C).t K)).slice) a2 rfl rfl rfl rfl rfl rfl elk9 rfl rfl rfl rfl fun a3 _ _ a4 a5=>nf ?_
 refine o_p 1 rfl (en (sq (pg rfl ?_)))
 obtain ⟨a6,a7,a8,a9⟩:=Inv.frz a5 0 rfl a4
 refine obk p fun b0 b1 p=>cq (fun s w=>∃ b2 : Unit,∃ b3,b0 = .inl b2∧Le a6 b3∧Inv w b3 ([(u,blk [.string d0.name,it d0.topology,(.slice N d0.states.length O),c,d,it d0.fault,f,g,h,i] 27)]::S)∧Hx s [(1,pt u)]) ?_ ?_
 have b4:=p
 refine bk (fun (b5 : List ByteArray × Int) s w=>∃ b6 b7,Le a6 b6∧Inv w b6 ([(u,blk [.string d0.name,it d0.topology,(.slice N d0.states.length O),c,d,it d0.fault,f,g,h,i] 27)]::S)∧RepV b6 b7 b5.1∧Hx s [(1,pt u),(3,b7),(4,it b5.2)]) b1 ⟨a6,a3,lr,a8,a9,hx rfl⟩ ?_
 clear b1
 rintro b5 _ s _ p ⟨b6,b7,b8,b9,e0,_,rfl⟩
 refine sq (sg (o_p 2 rfl ?_))
 obtain ⟨e1,e2,rfl,_⟩:=e0.slice
 refine o_p 2 rfl (en (cd p rfl (fun p=>?_) fun p=>?_))
 refine sn (sq (wpC_block (sq (wpC_drawI hmTryz b9 (Cl b6 S) [(0,.any),(1,.any),(2,.any),(3,.here),(4,.eff false),(5,.any),(6,.any),(7,.any),(8,.any),(9,.any),(10,.any),(11,.any),(12,.any),(13,.here),(14,.eff false),(15,.any)] (by kernel_rfl) fun _ e3=>o_p 2 rfl (obk p fun _ e4 p=>ix e0.slice e4 rfl rfl fun _ e5=>ld e3 e5 rfl fun _ e6=>?_)))))
 obtain rfl:=e6.str
 refine obk p fun _ e7 p=>ca okf132 rfl (rvb (c132 e3 (RepV.ofStr _ _) e7) fun _ e8 e9 f0=>nf (o_p 2 rfl (obk p fun f1 f2 p=>oq (fun s w=>∃ f3,Le e8 f3∧Inv w f3 ([(u,blk [.string d0.name,it d0.topology,(.slice N d0.states.length O),c,d,it d0.fault,f,g,h,i] 27)]::S)∧Hx s [(1,pt u),(3,(.slice e1 b5.1.length e2)),(4,it b5.2),(87,.bool f1)]) ?_ ?_)))
 replace p:=f2
 refine sp 78 p rfl (fun p=>?_) fun p=>?_
 refine o_p 7 rfl (o_no rfl rfl ?_)
 cases p
 exact o_p 1 rfl (o_nil (⟨e8,lr,f0,hx rfl⟩))
 refine o_p 2 rfl (obk p fun _ f4 p=>o_sl (e0.m e9).slice f4 rfl rfl rfl rfl rfl rfl rfl (.inr ⟨rfl,rfl⟩) (.inl rfl) (fun _ _ f5=>?_) rfl)
 replace f5:=SliceAt.repV f5
 refine o_p 2 rfl (obk p fun _ f6 p=>o_ix (e0.m e9).slice f6 rfl rfl rfl rfl rfl rfl rfl rfl (fun _ f7=>ld f0 f7 rfl fun _ f8=>?_) rfl)
 obtain rfl:=f8.str
 refine obk p fun _ f9 p=>ca okf181 rfl (rvb (c181 f0 f5 (RepV.ofStr _ _) f9) fun _ g0 g1 g2=>nf ?_)
 cases p
 exact o_p 1 rfl (o_nil (⟨g0,g1,g2,hx rfl⟩))
 rintro s _ ⟨f3,f4,f5,_,rfl⟩
 refine nx (cd p rfl (fun p=>?_) fun p=>?_)
 refine pg rfl (rt (br (pr ?_)))
 cases p
 refine ⟨_,rfl,?_⟩
 rintro rfl
 have p:=b4
 cases p
 exact br (pr (pr (Rt.mk ((((((y.t C).t K).t a7).t b8).t e9).t f4) (f5.del 0) ri)))
 refine wpC_skip ?_
 cases p
 exact bn (nx (rg (o_p 3 rfl (o_nil (nx ⟨_,rfl,⟨f3,(.slice e1 b5.1.length e2),((b8.t e9).t f4),f5,(e0.m (e9.t f4)),hx rfl⟩⟩)))))
 refine ex (px ?_)
 cases p
 refine ⟨_,rfl,?_⟩
 rintro rfl
 exact bh (nx (⟨_,b6,rfl,b8,b9,hx rfl⟩))
 rintro s _ ⟨b2,b3,rfl,b4,b5,_,rfl⟩
 refine nx (sq (sg (o_p 1 rfl (lt b5 0 rfl (o_p 2 rfl (obk p fun b6 b7 p=>oq (fun s w=>Inv w b3 ([(u,blk [.string d0.name,it d0.topology,(.slice N d0.states.length O),c,d,it d0.fault,f,g,h,i] 27)]::S)∧Hx s [(1,pt u),(124,.bool b6)]) ?_ ?_))))))
 replace p:=b7
 refine sp 91 p rfl (fun p=>?_) fun p=>?_
 refine o_p 1 rfl (lt b5 0 rfl ?_)
 obtain ⟨_,_,rfl,_⟩:=k.slice
 refine o_p 3 rfl (sp 96 p rfl (fun p=>?_) fun p=>?_)
 cases p
 exact o_p 28 rfl (o_nil (⟨b5,hx rfl⟩))
 refine o_p 1 rfl (lt b5 0 rfl ?_)
 obtain ⟨_,_,rfl,_⟩:=l.slice
 refine o_p 4 rfl (sp 102 p rfl (fun p=>?_) fun p=>?_)
 cases p
 exact o_p 22 rfl (o_nil (⟨b5,hx rfl⟩))
 refine o_p 1 rfl (lt b5 0 rfl ?_)
 obtain ⟨_,_,rfl,_⟩:=m.slice
 refine o_p 4 rfl (sp 108 p rfl (fun p=>?_) fun p=>?_)
 cases p
 exact o_p 16 rfl (o_nil (⟨b5,hx rfl⟩))
 refine o_p 1 rfl (lt b5 0 rfl (o_p 4 rfl (sp 114 p rfl (fun p=>?_) fun p=>?_)))
 cases p
 exact o_p 10 rfl (o_nil (⟨b5,hx rfl⟩))
 refine o_p 1 rfl (lt b5 0 rfl (o_p 2 rfl (sp 118 p rfl (fun p=>?_) fun p=>?_)))
 refine o_p 1 rfl (lt b5 0 rfl ?_)
 obtain ⟨_,_,rfl,_⟩:=o.slice
 cases p
 exact o_p 4 rfl (o_nil (⟨b5,hx rfl⟩))
 cases p
 exact o_p 6 rfl (o_nil (⟨b5,hx rfl⟩))
 refine o_p 24 rfl (lt b5 0 rfl (o_p 2 rfl (sp 118 p rfl (fun p=>?_) fun p=>?_)))
 refine o_p 1 rfl (lt b5 0 rfl ?_)
 obtain ⟨_,_,rfl,_⟩:=o.slice
 cases p
 exact o_p 4 rfl (o_nil (⟨b5,hx rfl⟩))
 cases p
 exact o_p 6 rfl (o_nil (⟨b5,hx rfl⟩))
 rintro s _ ⟨b8,_,rfl⟩
 refine nx (cd p rfl (fun p=>?_) fun p=>?_)
 cases p
 exact pg rfl (rt (pr (Rt.mk ((((y.t C).t K).t a7).t b4) (b8.del 0) ri)))
 refine sn (sq (pg rfl (obk p fun b9 e0 p=>cq (fun s w=>∃ e1 : Unit,∃ e2,b9 = .inl e1∧Le b3 e2∧Inv w e2 ([(u,blk [.string d0.name,it d0.topology,(.slice N d0.states.length O),c,d,it d0.fault,f,g,h,i] 27)]::S)∧Hx s [(1,pt u)]) ?_ ?_)))
 have e3:=p
 refine bk (fun (e4 : Int) s w=>∃ e5,Le b3 e5∧Inv w e5 ([(u,blk [.string d0.name,it d0.topology,(.slice N d0.states.length O),c,d,it d0.fault,f,g,h,i] 27)]::S)∧Hx s [(1,pt u),(5,it e4)]) e0 ⟨b3,lr,b8,hx rfl⟩ ?_
 clear e0
 rintro e4 _ s _ p ⟨e5,e6,e7,_,rfl⟩
 refine sq (sg (o_p 2 rfl (lt e7 0 rfl ?_)))
 obtain ⟨_,_,rfl,_⟩:=m.slice
 refine o_p 2 rfl (en (cd p rfl (fun p=>?_) fun p=>?_))
 refine sn (sq (wpC_block (sg (o_p 1 rfl (lt e7 0 rfl (o_p 1 rfl (obk p fun _ e8 p=>o_ix (m.m (((((y.t C).t K).t a7).t b4).t e6)).slice e8 rfl rfl rfl rfl rfl rfl rfl rfl (fun _ e9=>ld e7 e9 rfl fun _ f0=>?_) rfl)))))))
 have f1:=f0
 obtain rfl:=Linear.unp f0
 refine obk p fun _ f2 p=>ca okf182 rfl (rvb (c182 e7 f1 f2) fun _ f3 f4 f5=>nf (o_p 1 rfl (en (cd p rfl (fun p=>?_) fun p=>?_))))
 refine pg rfl (rt (br (pr ?_)))
 cases p
 refine ⟨_,rfl,?_⟩
 rintro rfl
 have p:=e3
 cases p
 exact br (pr (pr (Rt.mk ((((((y.t C).t K).t a7).t b4).t e6).t f4) (f5.del 0) ri)))
 refine wpC_skip ?_
 cases p
 exact bn (nx (rg (o_p 3 rfl (o_nil (nx ⟨_,rfl,⟨f3,(e6.t f4),f5,hx rfl⟩⟩)))))
 refine ex (px ?_)
 cases p
 refine ⟨_,rfl,?_⟩
 rintro rfl
 exact bh (nx (⟨_,e5,rfl,e6,e7,hx rfl⟩))
 rintro s _ ⟨e1,e2,rfl,e3,e4,_,rfl⟩
 refine nx (sq (sg (o_p 1 rfl (lt e4 0 rfl (o_p 1 rfl (lt e4 0 rfl (o_p 1 rfl (obk p fun _ e5 p=>ca okf133 rfl (rvi (c133 e4 (n.m (((((y.t C).t K).t a7).t b4).t e3)) (RepV.ofInt _ _) e5) fun _ _ e6 e7=>nf (o_p 1 rfl (en (pg rfl (cd p rfl (fun p=>?_) fun p=>?_)))))))))))))
 cases p
 exact pg rfl (rt (pr (Rt.mk ((((((y.t C).t K).t a7).t b4).t e3).t e6) (e7.del 0) ri)))
 refine sn (sq (sg (o_p 1 rfl (lt e7 0 rfl ?_))))
 obtain ⟨e8,e9,rfl,_⟩:=n.slice
 refine o_p 2 rfl (en (cd p rfl (fun p=>?_) fun p=>?_))
 cases p
 exact pg rfl (rt (pr (Rt.mk ((((((y.t C).t K).t a7).t b4).t e3).t e6) (e7.del 0) ri)))
 refine sn (sq (sg (o_p 1 rfl (lt e7 0 rfl (o_p 1 rfl (lt e7 0 rfl (o_p 1 rfl (obk p fun _ f0 p=>ca okf133 rfl (rvi (c133 e7 (o.m ((((((y.t C).t K).t a7).t b4).t e3).t e6)) (RepV.ofInt _ _) f0) fun _ f1 f2 f3=>nf (o_p 1 rfl (en (pg rfl (cd p rfl (fun p=>?_) fun p=>?_)))))))))))))
 cases p
 exact pg rfl (rt (pr (Rt.mk (((((((y.t C).t K).t a7).t b4).t e3).t e6).t f2) (f3.del 0) ri)))
 refine sn (sq (pg rfl (obk p fun f4 f5 p=>cq (fun s w=>∃ f6 : Unit,∃ f7,f4 = .inl f6∧Le f1 f7∧Inv w f7 ([(u,blk [.string d0.name,it d0.topology,(.slice N d0.states.length O),c,d,it d0.fault,f,(.slice e8 d0.initial.length e9),h,i] 27)]::S)∧Hx s [(1,pt u)]) ?_ ?_)))
 have f8:=p
 refine bk (fun (f9 : Int) s w=>∃ g0,Le f1 g0∧Inv w g0 ([(u,blk [.string d0.name,it d0.topology,(.slice N d0.states.length O),c,d,it d0.fault,f,(.slice e8 d0.initial.length e9),h,i] 27)]::S)∧Hx s [(1,pt u),(8,it f9)]) f5 ⟨f1,lr,f3,hx rfl⟩ ?_
 clear f5
 rintro f9 _ s _ p ⟨g0,g1,g2,_,rfl⟩
 refine sq (sg (o_p 2 rfl (lt g2 0 rfl ?_)))
 obtain ⟨g3,g4,rfl,_⟩:=t.slice
 refine o_p 2 rfl (en (cd p rfl (fun p=>?_) fun p=>?_))
 refine sn (sq (wpC_block (sg (lta g2 0 rfl (cs:=[.string d0.name,it d0.topology,(.slice N d0.states.length O),c,d,it d0.fault,f,(.slice e8 d0.initial.length e9),h,(.slice g3 d0.rules.length g4)]) rfl (o_p 1 rfl (obk p fun _ g5 p=>ca okf183 rfl (rvi (c183 g2 (a.m ((((((((y.t C).t K).t a7).t b4).t e3).t e6).t f2).t g1)) (RepV.ofInt _ _) g5) fun _ g6 g7 g8=>nf (o_p 1 rfl (en (pg rfl (cd p rfl (fun p=>?_) fun p=>?_)))))))))))
 refine pg rfl (rt (br (pr ?_)))
 cases p
 refine ⟨_,rfl,?_⟩
 rintro rfl
 have p:=f8
 cases p
 exact br (pr (pr (Rt.mk (((((((((y.t C).t K).t a7).t b4).t e3).t e6).t f2).t g1).t g7) (g8.del 0) ri)))
 refine wpC_skip ?_
 cases p
 exact bn (nx (rg (o_p 3 rfl (o_nil (nx ⟨_,rfl,⟨g6,(g1.t g7),g8,hx rfl⟩⟩)))))
 refine ex (px ?_)
 cases p
 refine ⟨_,rfl,?_⟩
 rintro rfl
 exact bh (nx (⟨_,g0,rfl,g1,g2,hx rfl⟩))
 rintro s _ ⟨f6,f7,rfl,f8,f9,_,rfl⟩
 refine nx (sq (sg (lta f9 0 rfl (cs:=[.string d0.name,it d0.topology,(.slice N d0.states.length O),c,d,it d0.fault,f,(.slice e8 d0.initial.length e9),h,i]) rfl (obk p fun _ g0 p=>ca okf184 rfl (rv (c184 f9 (a.m ((((((((y.t C).t K).t a7).t b4).t e3).t e6).t f2).t f8)) g0) fun _ _ _ g1 g2 g3=>nf ?_)))))
 obtain ⟨_,_,rfl,_⟩:=g3.slice
 refine o_p 2 rfl (en (cd p rfl (fun p=>?_) fun p=>?_))
 cases p
 exact pg rfl (rt (pr (Rt.mk (((((((((y.t C).t K).t a7).t b4).t e3).t e6).t f2).t f8).t g1) (g2.del 0) ri)))
 cases p
 exact sn (pg rfl (rt (Rt.mk (((((((((y.t C).t K).t a7).t b4).t e3).t e6).t f2).t f8).t g1) (g2.del 0) ri)))
theorem c211 {v0 v1 : Value} {d0 : List Threshold} {d1 : Threshold} (I : Inv w G S) {r : Int} (h0 : RepV G v0 d0) (h1 : RepV G v1 d1) (p : sl_Indexapi_Threshold_api_Threshold_ d0 d1 = some r) :
 Calls Tryz.prog 211 #[v0, v1] w (RV (Rt G S r)) := by
 have _:=h1
 obtain rfl:=Threshold.unp h1
 refine nt (n:=19) 4 [_,_] (h:=rfl) (res1 rfl) fun _=>sg (o_box I rfl rfl rfl (cs:=[it d1.message,it d1.coef,it d1.bound.c,it d1.bound.n,it d1.bound.t,it d1.bound.f]) rfl fun a _ b=>nf (o_p 1 rfl (en (sq (sg (o_p 1 rfl ?_))))))
 obtain ⟨c,d,rfl,_⟩:=h0.slice
 refine o_p 2 rfl (en (obk p fun f g p=>cq (fun s w=>∃ h : Unit,f = .inl h∧Inv w G ([(a,blk [it d1.message,it d1.coef,it d1.bound.c,it d1.bound.n,it d1.bound.t,it d1.bound.f] 293)]::S)∧Hx s []) ?_ ?_))
 have i:=p
 refine bk (fun (j : Int) s w=>Inv w G ([(a,blk [it d1.message,it d1.coef,it d1.bound.c,it d1.bound.n,it d1.bound.t,it d1.bound.f] 293)]::S)∧Hx s [(0,(.slice c d0.length d)),(3,pt a),(7,it (d0.length : Int)),(8,it j)]) g ⟨b,hx rfl⟩ ?_
 clear g
 rintro j _ s _ p ⟨k,_,rfl⟩
 refine pg rfl (sq (cd p rfl (fun p=>?_) fun p=>?_))
 refine sn (sq (wpC_block (pg rfl (sq (wpC_drawI hmTryz k (Cl G S) [(0,.here),(1,.any),(2,.any),(3,.any),(4,.here),(5,.any)] (by kernel_rfl) fun _ l=>lta l 0 rfl (cs:=[it d1.message,it d1.coef,it d1.bound.c,it d1.bound.n,it d1.bound.t,it d1.bound.f]) rfl (o_p 2 rfl (obk p fun m n p=>ix h0.slice n rfl rfl fun _ o=>ld l o rfl fun _ t=>?_)))))))
 have _:=t
 obtain rfl:=Threshold.unp t
 refine o_eqTh (xa:=[d1.message,d1.coef,d1.bound.c,d1.bound.n,d1.bound.t,d1.bound.f]) (xb:=[m.message,m.coef,m.bound.c,m.bound.n,m.bound.t,m.bound.f]) th293 rfl rfl rfl rfl rfl rfl rfl (en (cd p rfl (fun p=>?_) fun p=>?_)) rfl
 refine pg rfl (rt (br (pr ?_)))
 cases p
 refine ⟨_,rfl,?_⟩
 rintro rfl
 have p:=i
 cases p
 exact br (pr (pr (Rt.mk lr (l.del 0) ri)))
 refine wpC_skip ?_
 cases p
 exact bn (nx (rg (o_p 2 rfl (o_nil (nx ⟨_,rfl,⟨l,hx rfl⟩⟩)))))
 refine ex (px ?_)
 cases p
 refine ⟨_,rfl,?_⟩
 rintro rfl
 exact bh (nx (⟨_,rfl,k,hx rfl⟩))
 rintro s _ ⟨h,rfl,i,_,rfl⟩
 cases p
 exact nx (pg rfl (rt (Rt.mk lr (i.del 0) ri)))
theorem c35 {v0 v1 : Value} {d0 : Protocol} {d1 : Property} (I : Inv w G S) {r : TreeAutomaton} (h0 : RepV G v0 d0) (h1 : RepV G v1 d1) (p : r7_initialTrees d0 d1 = some r) :
 Calls Tryz.prog 35 #[v0, v1] w (RV (Rt G S r)) := by
 have a:=h0
 obtain ⟨b,c,d,f,g,h,i,rfl,j,_,_,_,_,k,_⟩:=Protocol.unp h0
 have l:=h1
 obtain ⟨m,n,o,t,rfl,_,_,_,_⟩:=Property.unp h1
 refine enterM (n:=79) (fun s w v=>RdC Tryz.prog 4 36 s w v) [_,_] Tryz.func35 rfl rfl rfl (resC rfl) fun _=>?_
 refine sg ?_
 refine o_box I rfl rfl rfl (cs:=[.string d0.name,it d0.topology,b,c,d,it d0.fault,f,g,h,i]) rfl fun u _ x=>nf ?_
 refine o_box x rfl rfl rfl (cs:=[.string d1.name,it d1.kind,m,n,o,t]) rfl fun y _ z=>nf ?_
 refine o_alloc z rfl rfl rfl zero36 fun A _ B=>nf ?_
 refine en (sg (lta B 2 rfl (cs:=[.string d0.name,it d0.topology,b,c,d,it d0.fault,f,g,h,i]) rfl (lta B 1 rfl (cs:=[.string d1.name,it d1.kind,m,n,o,t]) rfl (obk p fun _ C p=>?_))))
 refine ca okf76 rfl (rv (c76 B a l C) fun D _ F H J K=>?_)
 refine nf (o_p 1 rfl (en (pg rfl (sq (sg (o_p 1 rfl (lt J 2 rfl ?_)))))))
 obtain ⟨M,N,rfl,_⟩:=k.slice
 refine o_p 2 rfl (en (obk p fun O P p=>?_))
 refine cq (fun s w=>∃ Q,Inv w F ([(A,blk [it 0,it 0,nl,nl,nl] 36)]::[(y,blk [.string d1.name,it d1.kind,m,n,o,t] 30)]::[(u,blk [.string d0.name,it d0.topology,b,c,d,it d0.fault,f,g,(.slice M d0.leader.length N),i] 27)]::S)∧RepV F Q O∧Hx s [(2,pt u),(4,pt A),(5,D),(6,Q)]) ?_ ?_
 replace p:=P
 refine cd p rfl (fun p=>?_) fun p=>?_
 refine rg (o_p 1 rfl (lt J 2 rfl ?_))
 cases p
 exact o_p 1 rfl (o_nil (⟨(.slice M d0.leader.length N),J,(k.m H),hx rfl⟩))
 refine wpC_skip ?_
 cases p
 exact ⟨D,J,K,hx rfl⟩
 rintro s _ ⟨Q,R,T,_,rfl⟩
 refine nx (sg (o_p 1 rfl (lt R 2 rfl ?_)))
 obtain ⟨U,V,rfl,_⟩:=j.slice
 refine o_p 1 rfl ?_
 refine o_bs (l:=[1]) (vs:=[it 1]) R ⟨ri,trivial⟩ rfl rfl rfl ⟨rfl,rfl,trivial⟩ rfl elk3 rfl rfl rfl fun W X Y _ Z a0=>nf ?_
 refine o_bld (cs:=[(0,[it (d0.states.length : Int)]),(1,[it 2]),(2,[(.slice (some ⟨W,0,none⟩) [1].length X)])]) (res:=[it (d0.states.length : Int),it 2,(.slice (some ⟨W,0,none⟩) [1].length X),nl,nl]) rfl rfl rfl zero36 (by exact ⟨rfl,rfl,⟨rfl,rfl,⟨rfl,rfl,trivial⟩⟩⟩) rfl rfl rfl ?_ rfl
 refine o_alloc a0 rfl rfl rfl zero36 fun a1 _ a2=>nf ?_
 refine st a2 0 rfl rfl (cs:=[it (d0.states.length : Int),it 2,(.slice (some ⟨W,0,none⟩) [1].length X),nl,nl]) rfl rfl rfl fun _ a3=>nf ?_
 refine en (sq (pg rfl ?_))
 have a4:=Inv.newNil a3
 have a5:=Inv.newNil a4
 refine obk p fun a6 a7 p=>?_
 refine cq (fun s w=>∃ a8 a9 b0 b1,Inv w F (b1::a9::[(a1,blk [it (d0.states.length : Int),it 2,(.slice (some ⟨W,0,none⟩) [1].length X),a8,b0] 36)]::[(W,blk Y 3)]::[(A,blk [it 0,it 0,nl,nl,nl] 36)]::[(y,blk [.string d1.name,it d1.kind,m,n,o,t] 30)]::[(u,blk [.string d0.name,it d0.topology,(.slice U d0.states.length V),c,d,it d0.fault,f,g,(.slice M d0.leader.length N),i] 27)]::S)∧OwnL 72 F a9 a8 a6.1∧OwnL 74 F b1 b0 a6.2∧Hx s [(4,pt A),(6,Q),(7,pt a1)]) ?_ ?_
 have _:=p
 refine bk (fun (b2 : Int × List Leaf × List Branch) s w=>∃ b3 b4 b5 b6,Inv w F (b6::b4::[(a1,blk [it (d0.states.length : Int),it 2,(.slice (some ⟨W,0,none⟩) [1].length X),b3,b5] 36)]::[(W,blk Y 3)]::[(A,blk [it 0,it 0,nl,nl,nl] 36)]::[(y,blk [.string d1.name,it d1.kind,m,n,o,t] 30)]::[(u,blk [.string d0.name,it d0.topology,(.slice U d0.states.length V),c,d,it d0.fault,f,g,(.slice M d0.leader.length N),i] 27)]::S)∧OwnL 72 F b4 b3 b2.2.1∧OwnL 74 F b6 b5 b2.2.2∧Hx s [(4,pt A),(5,D),(6,Q),(7,pt a1),(8,it b2.1)]) a7 ⟨nl,[],nl,[],a5,(OwnL.nil (α:=Leaf) (G:=F) 72),(OwnL.nil (α:=Branch) (G:=F) 74),hx rfl⟩ ?_
 clear a7
 rintro b2 _ s _ p ⟨b3,b4,b5,b6,b7,b8,b9,_,rfl⟩
 refine sq (sg (o_p 2 rfl ?_))
 obtain ⟨_,_,rfl,_⟩:=K.slice
 refine o_p 2 rfl (en (cd p rfl (fun p=>?_) fun p=>?_))
 refine sn (sq ?_)
 refine wpC_block ?_
 refine sq ?_
 refine wpC_drawI hmTryz b7 (Cl F (b6::b4::[(a1,blk [it (d0.states.length : Int),it 2,(.slice (some ⟨W,0,none⟩) [1].length X),b3,b5] 36)]::[(W,blk Y 3)]::[(A,blk [it 0,it 0,nl,nl,nl] 36)]::[(y,blk [.string d1.name,it d1.kind,m,n,o,t] 30)]::[(u,blk [.string d0.name,it d0.topology,(.slice U d0.states.length V),c,d,it d0.fault,f,g,(.slice M d0.leader.length N),i] 27)]::S)) [(0,.any),(1,.far),(2,.any),(3,.any),(4,.any),(5,.here),(6,.any),(7,.eff true),(8,.eff false),(9,.any),(10,.eff false)] (by kernel_rfl) fun _ e0=>?_
 refine o_p 1 rfl ?_
 refine o_ltF (Cl.le e0 lr) (.S 2 rfl) rfl rfl rfl rfl rfl rfl ?_
 refine o_p 2 rfl (obk p fun e1 e2 p=>ix K.slice e2 rfl rfl fun _ e3=>ld e0 e3 rfl fun _ e4=>?_)
 obtain rfl:=e4.int
 refine o_bld (cs:=[(0,[it e1]),(1,[it 0])]) (res:=[it e1,it 0]) rfl rfl rfl zero72 (by exact ⟨rfl,rfl,⟨rfl,rfl,trivial⟩⟩) rfl rfl rfl ?_ rfl
 refine o_bs (l:=[(⟨e1,0⟩ : Leaf)]) (vs:=[.agg #[it e1,it 0]]) e0 ⟨(Leaf.pk (⟨e1,0⟩ : Leaf)),trivial⟩ rfl rfl rfl ⟨rfl,rfl,trivial⟩ rfl elk72 rfl rfl rfl fun e5 _ e6 _ e7 e8=>⟨fun _=>Cl.le (e8.del 0) lr,?_⟩
 refine obk p fun _ e9 p=>?_
 refine o_app e8 2 rfl b8 (Lies.ofOwn e7 0 rfl) e9 rfl rfl rfl rfl rfl rfl elk72 rfl rfl rfl rfl fun f0 f1 _ f2 f3=>nf ?_
 refine o_p 1 rfl ?_
 refine st f3 3 rfl rfl (cs:=[f0]) (oneC_cells (OwnL.oneC f2)) (allc (OwnL.oneC f2) rfl) rfl fun _ f4=>nf ?_
 refine en ?_
 refine wpC_drawI hmTryz f4 (Cl F ([(e5,blk e6 72)]::b6::f1::[(a1,blk [it (d0.states.length : Int),it 2,(.slice (some ⟨W,0,none⟩) [1].length X),f0,b5] 36)]::[(W,blk Y 3)]::[(A,blk [it 0,it 0,nl,nl,nl] 36)]::[(y,blk [.string d1.name,it d1.kind,m,n,o,t] 30)]::[(u,blk [.string d0.name,it d0.topology,(.slice U d0.states.length V),c,d,it d0.fault,f,g,(.slice M d0.leader.length N),i] 27)]::S)) [(0,.any),(1,.far),(2,.any),(3,.any),(4,.any),(5,.here),(6,.any),(7,.eff true),(8,.eff false),(9,.any),(10,.eff false)] (by kernel_rfl) fun _ f5=>?_
 refine o_p 1 rfl ?_
 refine o_ltF (Cl.le f5 lr) (.S 3 rfl) rfl rfl rfl rfl rfl rfl ?_
 refine o_p 2 rfl (obk p fun f6 f7 p=>ix K.slice f7 rfl rfl fun _ f8=>ld f5 f8 rfl fun _ f9=>?_)
 obtain rfl:=f9.int
 refine o_bld (cs:=[(0,[it f6]),(1,[it 0]),(2,[it 0]),(3,[it 0])]) (res:=[it f6,it 0,it 0,it 0]) rfl rfl rfl zero74 (by exact ⟨rfl,rfl,⟨rfl,rfl,⟨rfl,rfl,⟨rfl,rfl,trivial⟩⟩⟩⟩) rfl rfl rfl ?_ rfl
 refine o_bs (l:=[(⟨f6,0,0,0⟩ : Branch)]) (vs:=[.agg #[it f6,it 0,it 0,it 0]]) f5 ⟨(Branch.pk (⟨f6,0,0,0⟩ : Branch)),trivial⟩ rfl rfl rfl ⟨rfl,rfl,trivial⟩ rfl elk74 rfl rfl rfl fun _ _ _ _ g0 g1=>⟨fun _=>Cl.le (g1.del 0) lr,?_⟩
 refine obk p fun _ g2 p=>?_
 refine o_app g1 2 rfl b9 (Lies.ofOwn g0 0 rfl) g2 rfl rfl rfl rfl rfl rfl elk74 rfl rfl rfl rfl fun g3 g4 _ g5 g6=>nf ?_
 refine o_p 1 rfl ?_
 refine st g6 4 rfl rfl (cs:=[g3]) (oneC_cells (OwnL.oneC g5)) (allc (OwnL.oneC g5) rfl) rfl fun _ g7=>nf ?_
 cases p
 exact o_nil (bn (nx (rg (o_p 3 rfl (o_nil (nx ⟨_,rfl,⟨f0,f1,g3,g4,((g7.del 1).del 0),f2,g5,hx rfl⟩⟩))))))
 refine ex (px ?_)
 cases p
 refine ⟨_,rfl,?_⟩
 rintro rfl
 exact bh (nx (⟨b3,b4,b5,b6,b7,b8,b9,hx rfl⟩))
 rintro s _ ⟨a8,a9,b0,b1,b2,b3,b4,_,rfl⟩
 refine nx (sq (pg rfl (obk p fun b5 b6 p=>?_)))
 refine cq (fun s w=>∃ b7 b8 b9 e0,Inv w F (e0::b8::[(a1,blk [it (d0.states.length : Int),it 2,(.slice (some ⟨W,0,none⟩) [1].length X),b7,b9] 36)]::[(W,blk Y 3)]::[(A,blk [it 0,it 0,nl,nl,nl] 36)]::[(y,blk [.string d1.name,it d1.kind,m,n,o,t] 30)]::[(u,blk [.string d0.name,it d0.topology,(.slice U d0.states.length V),c,d,it d0.fault,f,g,(.slice M d0.leader.length N),i] 27)]::S)∧OwnL 72 F b8 b7 b5.1∧OwnL 74 F e0 b9 b5.2∧Hx s [(4,pt A),(7,pt a1)]) ?_ ?_
 have _:=p
 refine bk (fun (e1 : Int × List Leaf × List Branch) s w=>∃ e2 e3 e4 e5,Inv w F (e5::e3::[(a1,blk [it (d0.states.length : Int),it 2,(.slice (some ⟨W,0,none⟩) [1].length X),e2,e4] 36)]::[(W,blk Y 3)]::[(A,blk [it 0,it 0,nl,nl,nl] 36)]::[(y,blk [.string d1.name,it d1.kind,m,n,o,t] 30)]::[(u,blk [.string d0.name,it d0.topology,(.slice U d0.states.length V),c,d,it d0.fault,f,g,(.slice M d0.leader.length N),i] 27)]::S)∧OwnL 72 F e3 e2 e1.2.1∧OwnL 74 F e5 e4 e1.2.2∧Hx s [(4,pt A),(6,Q),(7,pt a1),(9,it e1.1)]) b6 ⟨a8,a9,b0,b1,b2,b3,b4,hx rfl⟩ ?_
 clear b6
 rintro e1 _ s _ p ⟨e2,e3,e4,e5,e6,e7,e8,_,rfl⟩
 refine sq (sg (o_p 2 rfl ?_))
 obtain ⟨_,_,rfl,_⟩:=T.slice
 refine o_p 2 rfl (en (cd p rfl (fun p=>?_) fun p=>?_))
 refine sn (sq ?_)
 refine wpC_block ?_
 refine sq ?_
 refine wpC_drawI hmTryz e6 (Cl F (e5::e3::[(a1,blk [it (d0.states.length : Int),it 2,(.slice (some ⟨W,0,none⟩) [1].length X),e2,e4] 36)]::[(W,blk Y 3)]::[(A,blk [it 0,it 0,nl,nl,nl] 36)]::[(y,blk [.string d1.name,it d1.kind,m,n,o,t] 30)]::[(u,blk [.string d0.name,it d0.topology,(.slice U d0.states.length V),c,d,it d0.fault,f,g,(.slice M d0.leader.length N),i] 27)]::S)) [(0,.any),(1,.far),(2,.any),(3,.any),(4,.any),(5,.here),(6,.any),(7,.eff true),(8,.eff false),(9,.any),(10,.eff false)] (by kernel_rfl) fun _ e9=>?_
 refine o_p 1 rfl ?_
 refine o_ltF (Cl.le e9 lr) (.S 2 rfl) rfl rfl rfl rfl rfl rfl ?_
 refine o_p 2 rfl (obk p fun f0 f1 p=>ix T.slice f1 rfl rfl fun _ f2=>ld e9 f2 rfl fun _ f3=>?_)
 obtain rfl:=f3.int
 refine o_bld (cs:=[(0,[it f0]),(1,[it 1])]) (res:=[it f0,it 1]) rfl rfl rfl zero72 (by exact ⟨rfl,rfl,⟨rfl,rfl,trivial⟩⟩) rfl rfl rfl ?_ rfl
 refine o_bs (l:=[(⟨f0,1⟩ : Leaf)]) (vs:=[.agg #[it f0,it 1]]) e9 ⟨(Leaf.pk (⟨f0,1⟩ : Leaf)),trivial⟩ rfl rfl rfl ⟨rfl,rfl,trivial⟩ rfl elk72 rfl rfl rfl fun f4 _ f5 _ f6 f7=>⟨fun _=>Cl.le (f7.del 0) lr,?_⟩
 refine obk p fun _ f8 p=>?_
 refine o_app f7 2 rfl e7 (Lies.ofOwn f6 0 rfl) f8 rfl rfl rfl rfl rfl rfl elk72 rfl rfl rfl rfl fun f9 g0 _ g1 g2=>nf ?_
 refine o_p 1 rfl ?_
 refine st g2 3 rfl rfl (cs:=[f9]) (oneC_cells (OwnL.oneC g1)) (allc (OwnL.oneC g1) rfl) rfl fun _ g3=>nf ?_
 refine en ?_
 refine wpC_drawI hmTryz g3 (Cl F ([(f4,blk f5 72)]::e5::g0::[(a1,blk [it (d0.states.length : Int),it 2,(.slice (some ⟨W,0,none⟩) [1].length X),f9,e4] 36)]::[(W,blk Y 3)]::[(A,blk [it 0,it 0,nl,nl,nl] 36)]::[(y,blk [.string d1.name,it d1.kind,m,n,o,t] 30)]::[(u,blk [.string d0.name,it d0.topology,(.slice U d0.states.length V),c,d,it d0.fault,f,g,(.slice M d0.leader.length N),i] 27)]::S)) [(0,.any),(1,.far),(2,.any),(3,.any),(4,.any),(5,.here),(6,.any),(7,.eff true),(8,.eff false),(9,.any),(10,.eff false)] (by kernel_rfl) fun _ g4=>?_
 refine o_p 1 rfl ?_
 refine o_ltF (Cl.le g4 lr) (.S 3 rfl) rfl rfl rfl rfl rfl rfl ?_
 refine o_p 2 rfl (obk p fun g5 g6 p=>ix T.slice g6 rfl rfl fun _ g7=>ld g4 g7 rfl fun _ g8=>?_)
 obtain rfl:=g8.int
 refine o_bld (cs:=[(0,[it g5]),(1,[it 0]),(2,[it 0]),(3,[it 1])]) (res:=[it g5,it 0,it 0,it 1]) rfl rfl rfl zero74 (by exact ⟨rfl,rfl,⟨rfl,rfl,⟨rfl,rfl,⟨rfl,rfl,trivial⟩⟩⟩⟩) rfl rfl rfl ?_ rfl
 refine o_bs (l:=[(⟨g5,0,0,1⟩ : Branch)]) (vs:=[.agg #[it g5,it 0,it 0,it 1]]) g4 ⟨(Branch.pk (⟨g5,0,0,1⟩ : Branch)),trivial⟩ rfl rfl rfl ⟨rfl,rfl,trivial⟩ rfl elk74 rfl rfl rfl fun _ _ _ _ g9 i0=>⟨fun _=>Cl.le (i0.del 0) lr,?_⟩
 refine obk p fun _ i1 p=>?_
 refine o_app i0 2 rfl e8 (Lies.ofOwn g9 0 rfl) i1 rfl rfl rfl rfl rfl rfl elk74 rfl rfl rfl rfl fun i2 i3 _ i4 i5=>nf ?_
 refine o_p 1 rfl ?_
 refine st i5 4 rfl rfl (cs:=[i2]) (oneC_cells (OwnL.oneC i4)) (allc (OwnL.oneC i4) rfl) rfl fun _ i6=>nf ?_
 cases p
 exact o_nil (bn (nx (rg (o_p 3 rfl (o_nil (nx ⟨_,rfl,⟨f9,g0,i2,i3,((i6.del 1).del 0),g1,i4,hx rfl⟩⟩))))))
 refine ex (px ?_)
 cases p
 refine ⟨_,rfl,?_⟩
 rintro rfl
 exact bh (nx (⟨e2,e3,e4,e5,e6,e7,e8,hx rfl⟩))
 rintro s _ ⟨b7,b8,b9,e0,e1,e2,e3,_,rfl⟩
 refine nx (sg (lta e1 2 rfl (cs:=[it (d0.states.length : Int),it 2,(.slice (some ⟨W,0,none⟩) [1].length X),b7,b9]) rfl ?_))
 obtain ⟨_,e4,e5,e6⟩:=Inv.frz e1 3 rfl Z
 obtain ⟨_,e7,e8,e9⟩:=Inv.frz e5 1 rfl (OwnL.mono e4 e2)
 obtain ⟨_,f0,f1,f2⟩:=Inv.frz e8 0 rfl (OwnL.mono (e4.t e7) e3)
 refine obk p fun f3 f4 p=>?_
 refine ca okf49 rfl (rv (c49 f1 (TreeAutomaton.pk (⟨(d0.states.length : Int),2,[1],b5.1,b5.2⟩ : TreeAutomaton) (e6.m (e7.t f0)) (e9.m f0) f2) f4) fun _ _ _ f5 f6 f7=>?_)
 have f8:=f7
 obtain ⟨f9,g0,g1,rfl,g2,g3,g4⟩:=TreeAutomaton.unp f7
 refine nf ?_
 refine st f6 1 rfl rfl (cs:=[it f3.letters,it f3.states,f9,g0,g1]) rfl (allc rfl (allc rfl (allc (RepV.one1 g2 rfl) (allc (RepV.one1 g3 rfl) (allc (RepV.one1 g4 rfl) rfl))))) rfl fun _ g5=>nf ?_
 cases p
 exact en (rt (⟨_,RdC.mk g5 (.S 1 rfl) rfl rfl,Rt.mk ((((H.t e4).t e7).t f0).t f5) ((((g5.del 3).del 2).del 1).del 0) f8⟩))
theorem c75 {v0 v1 : Value} {d0 : Protocol} {d1 : Property} (I : Inv w G S) {r : Int} (h0 : RepV G v0 d0) (h1 : RepV G v1 d1) (p : r2_ValidateProperty d0 d1 = some r) :
 Calls Tryz.prog 75 #[v0, v1] w (RV (Rt G S r)) := by
 have a:=h0
 obtain ⟨b,c,d,f,g,h,i,rfl,j,_,_,_,k,_,_⟩:=Protocol.unp h0
 have _:=h1
 obtain ⟨l,m,n,o,rfl,t,u,v,x⟩:=Property.unp h1
 refine nt (n:=181) 4 [_,_] (h:=rfl) (res1 rfl) fun _=>sg (o_box I rfl rfl rfl (cs:=[.string d0.name,it d0.topology,b,c,d,it d0.fault,f,g,h,i]) rfl fun y _ z=>nf (o_box z rfl rfl rfl (cs:=[.string d1.name,it d1.kind,l,m,n,o]) rfl fun A _ B=>nf (o_p 1 rfl (en (sq (sg (lta B 1 rfl (cs:=[.string d0.name,it d0.topology,b,c,d,it d0.fault,f,g,h,i]) rfl (obk p fun _ C p=>ca okf131 rfl (rvi (c131 B a C) fun _ _ D F=>nf (o_p 1 rfl (en (pg rfl (cd p rfl (fun p=>?_) fun p=>?_)))))))))))))
 cases p
 exact pg rfl (rt (pr (Rt.mk D ((F.del 1).del 0) ri)))
 refine sn (sg (o_p 1 rfl (lt F 1 rfl ?_)))
 obtain ⟨H,J,rfl,_⟩:=j.slice
 refine o_p 2 rfl (en (sq (sg (o_p 1 rfl (lt F 0 rfl (obk p fun _ K p=>ca okf132 rfl (rvb (c132 F (RepV.ofStr _ _) K) fun _ M N O=>nf (o_p 1 rfl (en (cd p rfl (fun p=>?_) fun p=>?_))))))))))
 cases p
 exact pg rfl (rt (pr (Rt.mk (D.t N) ((O.del 1).del 0) ri)))
 refine sn (sq (sg (o_p 1 rfl (lt O 0 rfl (o_p 2 rfl (obk p fun P Q p=>oq (fun s w=>Inv w M ([(A,blk [.string d1.name,it d1.kind,l,m,n,o] 30)]::[(y,blk [.string d0.name,it d0.topology,(.slice H d0.states.length J),c,d,it d0.fault,f,g,h,i] 27)]::S)∧Hx s [(2,pt y),(3,pt A),(6,it (d0.states.length : Int)),(32,.bool P)]) ?_ ?_))))))
 replace p:=Q
 refine sp 28 p rfl (fun p=>?_) fun p=>?_
 refine o_p 1 rfl (lt O 0 rfl ?_)
 cases p
 exact o_p 2 rfl (o_nil (⟨O,hx rfl⟩))
 cases p
 exact o_p 4 rfl (o_nil (⟨O,hx rfl⟩))
 rintro s _ ⟨R,_,rfl⟩
 refine nx (cd p rfl (fun p=>?_) fun p=>?_)
 cases p
 exact pg rfl (rt (pr (Rt.mk (D.t N) ((R.del 1).del 0) ri)))
 refine sn (sq (sg (o_p 1 rfl (lt R 0 rfl (o_p 2 rfl (obk p fun T U p=>oq (fun s w=>Inv w M ([(A,blk [.string d1.name,it d1.kind,l,m,n,o] 30)]::[(y,blk [.string d0.name,it d0.topology,(.slice H d0.states.length J),c,d,it d0.fault,f,g,h,i] 27)]::S)∧Hx s [(2,pt y),(3,pt A),(6,it (d0.states.length : Int)),(58,.bool T)]) ?_ ?_))))))
 replace p:=U
 refine sp 36 p rfl (fun p=>?_) fun p=>?_
 refine o_p 1 rfl (lt R 0 rfl ?_)
 obtain ⟨_,_,rfl,_⟩:=x.slice
 refine o_p 4 rfl (sp 42 p rfl (fun p=>?_) fun p=>?_)
 cases p
 exact o_p 16 rfl (o_nil (⟨R,hx rfl⟩))
 refine o_p 1 rfl (lt R 0 rfl (o_p 2 rfl (sp 46 p rfl (fun p=>?_) fun p=>?_)))
 refine o_p 1 rfl (lt R 0 rfl ?_)
 obtain ⟨_,_,rfl,_⟩:=u.slice
 refine o_p 3 rfl (sp 51 p rfl (fun p=>?_) fun p=>?_)
 cases p
 exact o_p 7 rfl (o_nil (⟨R,hx rfl⟩))
 refine o_p 1 rfl (lt R 0 rfl ?_)
 obtain ⟨_,_,rfl,_⟩:=v.slice
 cases p
 exact o_p 5 rfl (o_nil (⟨R,hx rfl⟩))
 cases p
 exact o_p 12 rfl (o_nil (⟨R,hx rfl⟩))
 refine o_p 7 rfl (lt R 0 rfl (o_p 2 rfl (sp 46 p rfl (fun p=>?_) fun p=>?_)))
 refine o_p 1 rfl (lt R 0 rfl ?_)
 obtain ⟨_,_,rfl,_⟩:=u.slice
 refine o_p 3 rfl (sp 51 p rfl (fun p=>?_) fun p=>?_)
 cases p
 exact o_p 7 rfl (o_nil (⟨R,hx rfl⟩))
 refine o_p 1 rfl (lt R 0 rfl ?_)
 obtain ⟨_,_,rfl,_⟩:=v.slice
 cases p
 exact o_p 5 rfl (o_nil (⟨R,hx rfl⟩))
 cases p
 exact o_p 12 rfl (o_nil (⟨R,hx rfl⟩))
 rintro s _ ⟨V,_,rfl⟩
 refine nx (cd p rfl (fun p=>?_) fun p=>?_)
 cases p
 exact pg rfl (rt (pr (Rt.mk (D.t N) ((V.del 1).del 0) ri)))
 refine sn (sq (sg (o_p 1 rfl (lt V 0 rfl (o_p 1 rfl (obk p fun _ W p=>ca okf133 rfl (rvi (c133 V (t.m (D.t N)) (RepV.ofInt _ _) W) fun _ X Y Z=>nf (o_p 1 rfl (en (pg rfl (cd p rfl (fun p=>?_) fun p=>?_)))))))))))
 cases p
 exact pg rfl (rt (pr (Rt.mk ((D.t N).t Y) ((Z.del 1).del 0) ri)))
 refine sn (sq (pg rfl (obk p fun a0 a1 p=>cq (fun s w=>∃ a2 : Unit,∃ a3,a0 = .inl a2∧Le X a3∧Inv w a3 ([(A,blk [.string d1.name,it d1.kind,l,m,n,o] 30)]::[(y,blk [.string d0.name,it d0.topology,(.slice H d0.states.length J),c,d,it d0.fault,f,g,h,i] 27)]::S)∧Hx s [(2,pt y),(3,pt A),(6,it (d0.states.length : Int))]) ?_ ?_)))
 have a4:=p
 refine bk (fun (a5 : Int) s w=>∃ a6,Le X a6∧Inv w a6 ([(A,blk [.string d1.name,it d1.kind,l,m,n,o] 30)]::[(y,blk [.string d0.name,it d0.topology,(.slice H d0.states.length J),c,d,it d0.fault,f,g,h,i] 27)]::S)∧Hx s [(2,pt y),(3,pt A),(6,it (d0.states.length : Int)),(8,it a5)]) a1 ⟨X,lr,Z,hx rfl⟩ ?_
 clear a1
 rintro a5 _ s _ p ⟨a6,a7,a8,_,rfl⟩
 refine sq (sg (o_p 2 rfl (lt a8 0 rfl ?_)))
 obtain ⟨_,_,rfl,_⟩:=t.slice
 refine o_p 2 rfl (en (cd p rfl (fun p=>?_) fun p=>?_))
 refine sn (sq (wpC_block (sq (wpC_drawI hmTryz a8 (Cl a6 S) [(0,.any),(1,.here),(2,.any),(3,.here),(4,.any),(5,.any),(6,.here),(7,.eff false),(8,.any)] (by kernel_rfl) fun _ a9=>o_p 1 rfl (lt a9 1 rfl (o_p 1 rfl (lt a9 0 rfl (o_p 1 rfl (obk p fun _ b0 p=>o_ix (t.m (((D.t N).t Y).t a7)).slice b0 rfl rfl rfl rfl rfl rfl rfl rfl (fun _ b1=>ld a9 b1 rfl fun _ b2=>?_) rfl)))))))))
 obtain rfl:=b2.int
 refine obk p fun _ b3 p=>ca okf90 rfl (rvb (c90 a9 (k.m (((D.t N).t Y).t a7)) (RepV.ofInt _ _) b3) fun _ b4 b5 b6=>nf (o_p 1 rfl (en (cd p rfl (fun p=>?_) fun p=>?_))))
 refine pg rfl (rt (br (pr ?_)))
 cases p
 refine ⟨_,rfl,?_⟩
 rintro rfl
 have p:=a4
 cases p
 exact br (pr (pr (Rt.mk ((((D.t N).t Y).t a7).t b5) ((b6.del 1).del 0) ri)))
 refine wpC_skip ?_
 cases p
 exact bn (nx (rg (o_p 3 rfl (o_nil (nx ⟨_,rfl,⟨b4,(a7.t b5),b6,hx rfl⟩⟩)))))
 refine ex (px ?_)
 cases p
 refine ⟨_,rfl,?_⟩
 rintro rfl
 exact bh (nx (⟨_,a6,rfl,a7,a8,hx rfl⟩))
 rintro s _ ⟨a2,a3,rfl,a4,a5,_,rfl⟩
 refine nx (sq (sg (o_p 1 rfl (lt a5 0 rfl (o_p 1 rfl (en (cd p rfl (fun p=>?_) fun p=>?_)))))))
 refine sq (sg (o_p 1 rfl (lt a5 0 rfl (o_p 1 rfl (obk p fun _ a6 p=>ca okf133 rfl (rvi (c133 a5 (x.m (((D.t N).t Y).t a4)) (RepV.ofInt _ _) a6) fun _ _ a7 a8=>nf (o_p 1 rfl (en (pg rfl (cd p rfl (fun p=>?_) fun p=>?_))))))))))
 cases p
 exact pg rfl (rt (pr (pr (Rt.mk ((((D.t N).t Y).t a4).t a7) ((a8.del 1).del 0) ri))))
 refine sn (sq (sg (o_p 1 rfl (lt a8 0 rfl ?_))))
 obtain ⟨_,_,rfl,_⟩:=x.slice
 refine o_p 2 rfl (en (cd p rfl (fun p=>?_) fun p=>?_))
 cases p
 exact pg rfl (rt (pr (pr (Rt.mk ((((D.t N).t Y).t a4).t a7) ((a8.del 1).del 0) ri))))
 cases p
 exact sn (pg rfl (rt (pr (Rt.mk ((((D.t N).t Y).t a4).t a7) ((a8.del 1).del 0) ri))))
 refine sn (sq (sg (o_p 1 rfl (lt a5 0 rfl ?_))))
 obtain ⟨a6,a7,rfl,_⟩:=u.slice
 refine o_p 3 rfl (obk p fun a8 a9 p=>oq (fun s w=>Inv w a3 ([(A,blk [.string d1.name,it d1.kind,l,(.slice a6 d1.bad.length a7),n,o] 30)]::[(y,blk [.string d0.name,it d0.topology,(.slice H d0.states.length J),c,d,it d0.fault,f,g,h,i] 27)]::S)∧Hx s [(2,pt y),(3,pt A),(6,it (d0.states.length : Int)),(105,.bool a8)]) ?_ ?_)
 replace p:=a9
 refine sp 100 p rfl (fun p=>?_) fun p=>?_
 refine o_p 1 rfl (lt a5 0 rfl ?_)
 obtain ⟨_,_,rfl,_⟩:=v.slice
 cases p
 exact o_p 3 rfl (o_nil (⟨a5,hx rfl⟩))
 cases p
 exact o_p 5 rfl (o_nil (⟨a5,hx rfl⟩))
 rintro s _ ⟨b0,_,rfl⟩
 refine nx (cd p rfl (fun p=>?_) fun p=>?_)
 cases p
 exact pg rfl (rt (pr (Rt.mk (((D.t N).t Y).t a4) ((b0.del 1).del 0) ri)))
 refine sn (sq (sg (o_p 1 rfl (lt b0 0 rfl (o_p 2 rfl (en (cd p rfl (fun p=>?_) fun p=>?_)))))))
 cases p
 exact pg rfl (rt (pr (Rt.mk (((D.t N).t Y).t a4) ((b0.del 1).del 0) ri)))
 refine sn (sq (pg rfl (obk p fun b1 b2 p=>cq (fun s w=>∃ b3 : Unit,∃ b4,b1 = .inl b3∧Le a3 b4∧Inv w b4 ([(A,blk [.string d1.name,it d1.kind,l,(.slice a6 d1.bad.length a7),n,o] 30)]::[(y,blk [.string d0.name,it d0.topology,(.slice H d0.states.length J),c,d,it d0.fault,f,g,h,i] 27)]::S)∧Hx s [(2,pt y),(3,pt A),(6,it (d0.states.length : Int))]) ?_ ?_)))
 have b5:=p
 refine bk (fun (b6 : Int) s w=>∃ b7,Le a3 b7∧Inv w b7 ([(A,blk [.string d1.name,it d1.kind,l,(.slice a6 d1.bad.length a7),n,o] 30)]::[(y,blk [.string d0.name,it d0.topology,(.slice H d0.states.length J),c,d,it d0.fault,f,g,h,i] 27)]::S)∧Hx s [(2,pt y),(3,pt A),(6,it (d0.states.length : Int)),(10,it b6)]) b2 ⟨a3,lr,b0,hx rfl⟩ ?_
 clear b2
 rintro b6 _ s _ p ⟨b7,b8,b9,_,rfl⟩
 refine sq (sg (o_p 2 rfl (lt b9 0 rfl (o_p 2 rfl (en (cd p rfl (fun p=>?_) fun p=>?_))))))
 refine sn (sq (wpC_block (sq (sg (o_p 1 rfl (lt b9 0 rfl (o_p 1 rfl (obk p fun e0 e1 p=>o_ix (u.m ((((D.t N).t Y).t a4).t b8)).slice e1 rfl rfl rfl rfl rfl rfl rfl rfl (fun _ e2=>o_p 1 rfl (ld b9 (show PtrTo _ _ e0.states from (PtrTo.fld e2 0 rfl rfl)) rfl fun _ e3=>o_p 1 rfl (obk p fun _ e4 p=>ca okf133 rfl (rvi (c133 b9 e3 (RepV.ofInt _ _) e4) fun _ e5 e6 e7=>nf (o_p 1 rfl (en (pg rfl (cd p rfl (fun p=>?_) fun p=>?_)))))))) rfl))))))))
 refine pg rfl (rt (pr (br (pr ?_))))
 cases p
 refine ⟨_,rfl,?_⟩
 rintro rfl
 have p:=b5
 cases p
 exact br (pr (pr (Rt.mk (((((D.t N).t Y).t a4).t b8).t e6) ((e7.del 1).del 0) ri)))
 refine sn (sg (o_p 1 rfl (lt e7 0 rfl (o_p 1 rfl (obk p fun e8 e9 p=>o_ix (u.m (((((D.t N).t Y).t a4).t b8).t e6)).slice e9 rfl rfl rfl rfl rfl rfl rfl rfl (fun _ f0=>o_p 1 rfl (ld e7 (show PtrTo _ _ e8.states from (PtrTo.fld f0 0 rfl rfl)) rfl fun _ f1=>?_)) rfl)))))
 obtain ⟨_,_,rfl,_⟩:=f1.slice
 refine o_p 3 rfl (obk p fun f2 f3 p=>oq (fun s w=>∃ f4,Le e5 f4∧Inv w f4 ([(A,blk [.string d1.name,it d1.kind,l,(.slice a6 d1.bad.length a7),n,o] 30)]::[(y,blk [.string d0.name,it d0.topology,(.slice H d0.states.length J),c,d,it d0.fault,f,g,h,i] 27)]::S)∧Hx s [(2,pt y),(3,pt A),(6,it (d0.states.length : Int)),(10,it b6),(145,.bool f2)]) ?_ ?_)
 replace p:=f3
 refine sp 136 p rfl (fun p=>?_) fun p=>?_
 refine o_p 6 rfl (o_no rfl rfl ?_)
 cases p
 exact o_p 2 rfl (o_nil (⟨e5,lr,e7,hx rfl⟩))
 refine o_p 1 rfl (lt e7 0 rfl (o_p 1 rfl (obk p fun f5 f6 p=>o_ix (u.m (((((D.t N).t Y).t a4).t b8).t e6)).slice f6 rfl rfl rfl rfl rfl rfl rfl rfl (fun _ f7=>o_p 1 rfl (ld e7 (show PtrTo _ _ f5.least from (PtrTo.fld f7 1 rfl rfl)) rfl fun _ f8=>?_)) rfl)))
 obtain rfl:=f8.int
 refine obk p fun _ f9 p=>ca okf134 rfl (rvb (c134 e7 (RepV.ofInt _ _) (RepV.ofInt _ _) (RepV.ofInt _ _) f9) fun _ g0 g1 g2=>nf ?_)
 cases p
 exact o_p 2 rfl (o_nil (⟨g0,g1,g2,hx rfl⟩))
 rintro s _ ⟨f4,f5,f6,_,rfl⟩
 refine nx (cd p rfl (fun p=>?_) fun p=>?_)
 refine pg rfl (rt (br (pr ?_)))
 cases p
 refine ⟨_,rfl,?_⟩
 rintro rfl
 have p:=b5
 cases p
 exact br (pr (pr (Rt.mk ((((((D.t N).t Y).t a4).t b8).t e6).t f5) ((f6.del 1).del 0) ri)))
 refine wpC_skip ?_
 cases p
 exact bn (nx (rg (o_p 3 rfl (o_nil (nx ⟨_,rfl,⟨f4,((b8.t e6).t f5),f6,hx rfl⟩⟩)))))
 refine ex (px ?_)
 cases p
 refine ⟨_,rfl,?_⟩
 rintro rfl
 exact bh (nx (⟨_,b7,rfl,b8,b9,hx rfl⟩))
 rintro s _ ⟨b3,b4,rfl,b5,b6,_,rfl⟩
 refine nx (sq (sg (o_p 1 rfl (lt b6 0 rfl ?_))))
 obtain ⟨b7,b8,rfl,_⟩:=v.slice
 refine o_p 3 rfl (obk p fun b9 e0 p=>oq (fun s w=>Inv w b4 ([(A,blk [.string d1.name,it d1.kind,l,(.slice a6 d1.bad.length a7),(.slice b7 d1.adjacent.length b8),o] 30)]::[(y,blk [.string d0.name,it d0.topology,(.slice H d0.states.length J),c,d,it d0.fault,f,g,h,i] 27)]::S)∧Hx s [(3,pt A),(6,it (d0.states.length : Int)),(154,.bool b9)]) ?_ ?_)
 replace p:=e0
 refine sp 150 p rfl (fun p=>?_) fun p=>?_
 refine o_p 1 rfl (lt b6 1 rfl ?_)
 cases p
 exact o_p 2 rfl (o_nil (⟨b6,hx rfl⟩))
 cases p
 exact o_p 4 rfl (o_nil (⟨b6,hx rfl⟩))
 rintro s _ ⟨e1,_,rfl⟩
 refine nx (cd p rfl (fun p=>?_) fun p=>?_)
 cases p
 exact pg rfl (rt (pr (Rt.mk ((((D.t N).t Y).t a4).t b5) ((e1.del 1).del 0) ri)))
 refine sn (sq (sg (o_p 1 rfl (lt e1 0 rfl (o_p 3 rfl (obk p fun e2 e3 p=>oq (fun s w=>Inv w b4 ([(A,blk [.string d1.name,it d1.kind,l,(.slice a6 d1.bad.length a7),(.slice b7 d1.adjacent.length b8),o] 30)]::[(y,blk [.string d0.name,it d0.topology,(.slice H d0.states.length J),c,d,it d0.fault,f,g,h,i] 27)]::S)∧Hx s [(3,pt A),(6,it (d0.states.length : Int)),(164,.bool e2)]) ?_ ?_))))))
 replace p:=e3
 refine sp 159 p rfl (fun p=>?_) fun p=>?_
 refine o_p 1 rfl (lt e1 0 rfl ?_)
 cases p
 exact o_p 3 rfl (o_nil (⟨e1,hx rfl⟩))
 cases p
 exact o_p 5 rfl (o_nil (⟨e1,hx rfl⟩))
 rintro s _ ⟨e4,_,rfl⟩
 refine nx (cd p rfl (fun p=>?_) fun p=>?_)
 cases p
 exact pg rfl (rt (pr (Rt.mk ((((D.t N).t Y).t a4).t b5) ((e4.del 1).del 0) ri)))
 refine sn (sq (pg rfl (obk p fun e5 e6 p=>cq (fun s w=>∃ e7 : Unit,∃ e8,e5 = .inl e7∧Le b4 e8∧Inv w e8 ([(A,blk [.string d1.name,it d1.kind,l,(.slice a6 d1.bad.length a7),(.slice b7 d1.adjacent.length b8),o] 30)]::[(y,blk [.string d0.name,it d0.topology,(.slice H d0.states.length J),c,d,it d0.fault,f,g,h,i] 27)]::S)∧Hx s []) ?_ ?_)))
 have e9:=p
 refine bk (fun (f0 : Int) s w=>∃ f1,Le b4 f1∧Inv w f1 ([(A,blk [.string d1.name,it d1.kind,l,(.slice a6 d1.bad.length a7),(.slice b7 d1.adjacent.length b8),o] 30)]::[(y,blk [.string d0.name,it d0.topology,(.slice H d0.states.length J),c,d,it d0.fault,f,g,h,i] 27)]::S)∧Hx s [(3,pt A),(6,it (d0.states.length : Int)),(12,it f0)]) e6 ⟨b4,lr,e4,hx rfl⟩ ?_
 clear e6
 rintro f0 _ s _ p ⟨f1,f2,f3,_,rfl⟩
 refine sq (sg (o_p 2 rfl (lt f3 0 rfl (o_p 2 rfl (en (cd p rfl (fun p=>?_) fun p=>?_))))))
 refine sn (sq (wpC_block (sg (o_p 1 rfl (lt f3 0 rfl (o_p 1 rfl (obk p fun _ f4 p=>o_ix (v.m (((((D.t N).t Y).t a4).t b5).t f2)).slice f4 rfl rfl rfl rfl rfl rfl rfl rfl (fun _ f5=>ld f3 f5 rfl fun _ f6=>?_) rfl)))))))
 obtain rfl:=f6.int
 refine o_p 2 rfl (obk p fun _ f7 p=>ca okf134 rfl (rvb (c134 f3 (RepV.ofInt _ _) (RepV.ofInt _ _) (RepV.ofInt _ _) f7) fun _ f8 f9 g0=>nf (o_p 1 rfl (en (cd p rfl (fun p=>?_) fun p=>?_)))))
 refine pg rfl (rt (br (pr ?_)))
 cases p
 refine ⟨_,rfl,?_⟩
 rintro rfl
 have p:=e9
 cases p
 exact br (pr (pr (Rt.mk ((((((D.t N).t Y).t a4).t b5).t f2).t f9) ((g0.del 1).del 0) ri)))
 refine wpC_skip ?_
 cases p
 exact bn (nx (rg (o_p 3 rfl (o_nil (nx ⟨_,rfl,⟨f8,(f2.t f9),g0,hx rfl⟩⟩)))))
 refine ex (px ?_)
 cases p
 refine ⟨_,rfl,?_⟩
 rintro rfl
 exact bh (nx (⟨_,f1,rfl,f2,f3,hx rfl⟩))
 rintro s _ ⟨e7,e8,rfl,e9,f0,_,rfl⟩
 cases p
 exact nx (pg rfl (rt (Rt.mk (((((D.t N).t Y).t a4).t b5).t e9) ((f0.del 1).del 0) ri)))
theorem c204 {v0 v1 : Value} {d0 : List Threshold} {d1 : Threshold} (I : Inv w G S) {r : Bool} (h0 : RepV G v0 d0) (h1 : RepV G v1 d1) (p : sl_Containsapi_Threshold_api_Threshold_ d0 d1 = some r) :
 Calls Tryz.prog 204 #[v0, v1] w (RV (Rt G S r)) := by
 have a:=h1
 obtain rfl:=Threshold.unp h1
 refine nt (n:=9) 4 [_,_] (h:=rfl) (res1 rfl) fun _=>sg (o_box I rfl rfl rfl (cs:=[it d1.message,it d1.coef,it d1.bound.c,it d1.bound.n,it d1.bound.t,it d1.bound.f]) rfl fun _ _ b=>nf (o_p 1 rfl (en (sg (o_p 1 rfl (lta b 0 rfl (cs:=[it d1.message,it d1.coef,it d1.bound.c,it d1.bound.n,it d1.bound.t,it d1.bound.f]) rfl (obk p fun _ c p=>ca okf211 rfl (rvi (c211 b h0 a c) fun _ _ d f=>nf ?_))))))))
 cases p
 exact o_p 2 rfl (en (rt (Rt.mk d (f.del 0) rb)))
theorem c34 {v0 v1 : Value} {d0 : Protocol} {d1 : Property} (I : Inv w G S) {r : Int} (h0 : RepV G v0 d0) (h1 : RepV G v1 d1) (p : r7_Check d0 d1 = some r) :
 Calls Tryz.prog 34 #[v0, v1] w (RV (Rt G S r)) := by
 have a:=h0
 obtain ⟨b,c,d,f,g,h,i,rfl,_,_,_,_,_,_,_⟩:=Protocol.unp h0
 have j:=h1
 obtain ⟨k,l,m,n,rfl,_,_,_,_⟩:=Property.unp h1
 refine nt (n:=20) 4 [_,_] (h:=rfl) (res1 rfl) fun _=>sg (o_box I rfl rfl rfl (cs:=[.string d0.name,it d0.topology,b,c,d,it d0.fault,f,g,h,i]) rfl fun o _ t=>nf (o_box t rfl rfl rfl (cs:=[.string d1.name,it d1.kind,k,l,m,n]) rfl fun u _ v=>nf (o_p 1 rfl (en (sq (sg (lta v 1 rfl (cs:=[.string d0.name,it d0.topology,b,c,d,it d0.fault,f,g,h,i]) rfl (lta v 0 rfl (cs:=[.string d1.name,it d1.kind,k,l,m,n]) rfl (obk p fun _ x p=>ca okf75 rfl (rvi (c75 v a j x) fun _ y z A=>nf (o_p 1 rfl (en (pg rfl (cd p rfl (fun p=>?_) fun p=>?_))))))))))))))
 cases p
 exact pg rfl (rt (pr (Rt.mk z ((A.del 1).del 0) ri)))
 refine sn (sq (sg (o_p 1 rfl (lt A 1 rfl (o_p 2 rfl (obk p fun B C p=>oq (fun s w=>Inv w y ([(u,blk [.string d1.name,it d1.kind,k,l,m,n] 30)]::[(o,blk [.string d0.name,it d0.topology,b,c,d,it d0.fault,f,g,h,i] 27)]::S)∧Hx s [(19,.bool B)]) ?_ ?_))))))
 replace p:=C
 refine sp 15 p rfl (fun p=>?_) fun p=>?_
 cases p
 exact o_p 4 rfl (o_nil (⟨A,hx rfl⟩))
 refine o_p 1 rfl (lt A 0 rfl ?_)
 cases p
 exact o_p 2 rfl (o_nil (⟨A,hx rfl⟩))
 rintro s _ ⟨D,_,rfl⟩
 refine nx (cd p rfl (fun p=>?_) fun p=>?_)
 cases p
 exact pg rfl (rt (pr (Rt.mk z ((D.del 1).del 0) ri)))
 cases p
 exact sn (pg rfl (rt (Rt.mk z ((D.del 1).del 0) ri)))
theorem c176 {v0 : Value} {d0 : Protocol} (I : Inv w G S) {r : List Threshold} (h0 : RepV G v0 d0) (p : p_thresholds d0 = some r) :
 Calls Tryz.prog 176 #[v0] w (RV (Rt G S r)) := by
 have _:=h0
 obtain ⟨a,b,c,d,f,g,h,rfl,_,_,_,_,_,_,i⟩:=Protocol.unp h0
 refine nt (n:=33) 2 [_] (h:=rfl) (res1 rfl) fun _=>sg (o_box I rfl rfl rfl (cs:=[.string d0.name,it d0.topology,a,b,c,it d0.fault,d,f,g,h]) rfl fun j _ k=>nf (o_p 1 rfl (en (pg rfl (sq (sg (o_p 1 rfl (lt k 0 rfl ?_))))))))
 obtain ⟨l,m,rfl,_⟩:=i.slice
 refine o_p 2 rfl (en ?_)
 have n:=Inv.newNil k
 refine obk p fun o t p=>cq (fun s w=>∃ u v x,Le G u∧Inv w u (x::[(j,blk [.string d0.name,it d0.topology,a,b,c,it d0.fault,d,f,g,(.slice l d0.rules.length m)] 27)]::S)∧OwnL 293 u x v o∧Hx s [(3,v)]) ?_ ?_
 have _:=p
 refine bk (fun (y : List Threshold × Int) s w=>∃ z A B,Le G z∧Inv w z (B::[(j,blk [.string d0.name,it d0.topology,a,b,c,it d0.fault,d,f,g,(.slice l d0.rules.length m)] 27)]::S)∧OwnL 293 z B A y.1∧Hx s [(3,A),(9,(.slice l d0.rules.length m)),(10,it (d0.rules.length : Int)),(11,it y.2)]) t ⟨G,nl,[],lr,n,(OwnL.nil (α:=Threshold) (G:=G) 293),hx rfl⟩ ?_
 clear t
 rintro y _ s _ p ⟨z,A,B,C,D,F,_,rfl⟩
 refine pg rfl (sq (cd p rfl (fun p=>?_) fun p=>?_))
 refine sn (sq (wpC_block (sg (obk p fun H J p=>o_ix (i.m C).slice J rfl rfl rfl rfl rfl rfl rfl rfl (fun _ K=>ld D K rfl fun _ M=>?_) rfl))))
 have _:=M
 obtain ⟨N,O,P,Q,R,T,U,V,rfl,W,X,Y,Z,a0,a1,a2,a3⟩:=Rule.unp M
 refine o_alloc D rfl rfl rfl zero93 fun a4 _ a5=>nf (st a5 0 rfl rfl (cs:=[.string H.name,it H.kind,it H.frm,it H.to,it H.partnerFrom,it H.partnerTo,N,O,P,Q,it H.read,it H.write,R,it H.at_,T,U,V,it H.direction]) rfl (allc rfl (allc rfl (allc rfl (allc rfl (allc rfl (allc rfl (allc (RepV.one1 W rfl) (allc (RepV.one1 X rfl) (allc (RepV.one1 Y rfl) (allc (RepV.one1 Z rfl) (allc rfl (allc rfl (allc (RepV.one1 a0 rfl) (allc rfl (allc (RepV.one1 a1 rfl) (allc (RepV.one1 a2 rfl) (allc (RepV.one1 a3 rfl) (allc rfl rfl)))))))))))))))))) rfl fun _ a6=>nf (en (sg (o_p 1 rfl (lt a6 0 rfl ?_)))))
 obtain ⟨a7,a8,rfl,_⟩:=X.slice
 refine o_p 2 rfl (en (obk p fun a9 b0 p=>cq (fun s w=>∃ b1 b2 b3,Le z b1∧Inv w b1 ([(a4,blk [.string H.name,it H.kind,it H.frm,it H.to,it H.partnerFrom,it H.partnerTo,N,(.slice a7 H.guards.length a8),P,Q,it H.read,it H.write,R,it H.at_,T,U,V,it H.direction] 93)]::b3::[(j,blk [.string d0.name,it d0.topology,a,b,c,it d0.fault,d,f,g,(.slice l d0.rules.length m)] 27)]::S)∧OwnL 293 b1 b3 b2 a9∧Hx s [(3,b2),(9,(.slice l d0.rules.length m)),(10,it (d0.rules.length : Int)),(11,it y.2)]) ?_ ?_))
 have _:=p
 refine bk (fun (b4 : List Threshold × Int) s w=>∃ b5 b6 b7,Le z b5∧Inv w b5 ([(a4,blk [.string H.name,it H.kind,it H.frm,it H.to,it H.partnerFrom,it H.partnerTo,N,(.slice a7 H.guards.length a8),P,Q,it H.read,it H.write,R,it H.at_,T,U,V,it H.direction] 93)]::b7::[(j,blk [.string d0.name,it d0.topology,a,b,c,it d0.fault,d,f,g,(.slice l d0.rules.length m)] 27)]::S)∧OwnL 293 b5 b7 b6 b4.1∧Hx s [(3,b6),(9,(.slice l d0.rules.length m)),(10,it (d0.rules.length : Int)),(11,it y.2),(16,(.slice a7 H.guards.length a8)),(17,it (H.guards.length : Int)),(18,it b4.2)]) b0 ⟨z,A,B,lr,a6,F,hx rfl⟩ ?_
 clear b0
 rintro b4 _ s _ p ⟨b5,b6,b7,b8,b9,e0,_,rfl⟩
 refine pg rfl (sq (cd p rfl (fun p=>?_) fun p=>?_))
 refine sn (sq (wpC_block (sg (obk p fun e1 e2 p=>o_ix (X.m b8).slice e2 rfl rfl rfl rfl rfl rfl rfl rfl (fun _ e3=>ld b9 e3 rfl fun _ e4=>?_) rfl))))
 have e5:=e4
 obtain rfl:=Threshold.unp e4
 refine o_alloc b9 rfl rfl rfl zero293 fun e6 _ e7=>nf (st e7 0 rfl rfl (cs:=[it e1.message,it e1.coef,it e1.bound.c,it e1.bound.n,it e1.bound.t,it e1.bound.f]) rfl rfl rfl fun _ e8=>nf (en (sg (o_p 1 rfl (lta e8 0 rfl (cs:=[it e1.message,it e1.coef,it e1.bound.c,it e1.bound.n,it e1.bound.t,it e1.bound.f]) rfl ?_)))))
 obtain ⟨_,e9,f0,f1,f2⟩:=Inv.lend e8 2 rfl e0
 refine obk p fun _ f3 p=>ca okf204 rfl (rvb (c204 f0 f1 (e5.m e9) f3) fun _ _ f4 f5=>?_)
 obtain ⟨f6,f7,f8⟩:=f2 _ _ _ f4 f5
 refine nf (o_p 1 rfl (en (obk p fun f9 g0 p=>cq (fun s w=>∃ g1 g2,Inv w f6 (g2::[(e6,blk [it e1.message,it e1.coef,it e1.bound.c,it e1.bound.n,it e1.bound.t,it e1.bound.f] 293)]::[(a4,blk [.string H.name,it H.kind,it H.frm,it H.to,it H.partnerFrom,it H.partnerTo,N,(.slice a7 H.guards.length a8),P,Q,it H.read,it H.write,R,it H.at_,T,U,V,it H.direction] 93)]::[(j,blk [.string d0.name,it d0.topology,a,b,c,it d0.fault,d,f,g,(.slice l d0.rules.length m)] 27)]::S)∧OwnL 293 f6 g2 g1 f9∧Hx s [(3,g1),(9,(.slice l d0.rules.length m)),(10,it (d0.rules.length : Int)),(11,it y.2),(16,(.slice a7 H.guards.length a8)),(17,it (H.guards.length : Int)),(18,it b4.2)]) ?_ ?_)))
 replace p:=g0
 refine cd p rfl (fun p=>?_) fun p=>?_
 refine rg (o_p 1 rfl (lta f8 1 rfl (cs:=[it e1.message,it e1.coef,it e1.bound.c,it e1.bound.n,it e1.bound.t,it e1.bound.f]) rfl (o_bs (l:=[e1]) (vs:=[.agg #[it e1.message,it e1.coef,it e1.bound.c,it e1.bound.n,it e1.bound.t,it e1.bound.f]]) f8 ⟨(e5.m f7),trivial⟩ rfl rfl rfl ⟨rfl,rfl,trivial⟩ rfl elk293 rfl rfl rfl fun _ _ _ _ g3 g4=>nf (obk p fun _ g5 p=>?_))))
 refine o_app g4 1 rfl (OwnL.mono f7 e0) (Lies.ofOwn g3 0 rfl) g5 rfl rfl rfl rfl rfl rfl elk293 rfl rfl rfl rfl fun g6 g7 _ g8 g9=>nf ?_
 cases p
 exact o_p 1 rfl (o_nil (⟨g6,g7,(g9.del 0),g8,hx rfl⟩))
 refine wpC_skip ?_
 cases p
 exact ⟨b6,b7,f8,(OwnL.mono f7 e0),hx rfl⟩
 rintro s _ ⟨g1,g2,g3,g4,_,rfl⟩
 cases p
 exact bn (nx (rg (o_p 2 rfl (o_nil (nx ⟨_,rfl,⟨f6,g1,g2,(b8.t f7),(Inv.front (Inv.front (Inv.front (g3.del 1) 2 rfl) 1 rfl) 2 rfl),g4,hx rfl⟩⟩)))))
 refine ex (px ?_)
 cases p
 refine ⟨_,rfl,?_⟩
 rintro rfl
 exact bh (nx (⟨b5,b6,b7,b8,b9,e0,hx rfl⟩))
 rintro s _ ⟨b1,b2,b3,b4,b5,b6,_,rfl⟩
 cases p
 exact bn (nx (rg (o_p 2 rfl (o_nil (nx ⟨_,rfl,⟨b1,b2,b3,(C.t b4),(b5.del 0),b6,hx rfl⟩⟩)))))
 refine ex (px ?_)
 cases p
 refine ⟨_,rfl,?_⟩
 rintro rfl
 exact bh (nx (⟨z,A,B,C,D,F,hx rfl⟩))
 rintro s _ ⟨u,v,x,y,z,A,_,rfl⟩
 refine nx (pg rfl (rt ?_))
 obtain ⟨_,B,C,D⟩:=Inv.frz z 0 rfl A
 cases p
 exact Rt.mk (y.t B) (C.del 0) D
theorem c12 {v0 v1 : Value} {d0 : Protocol} {d1 : Property} (I : Inv w G S) {r : TreeAutomaton × Int} (h0 : RepV G v0 d0) (h1 : RepV G v1 d1) (p : r7_InitialTrees d0 d1 = some r) :
 Calls Tryz.prog 12 #[v0, v1] w (RV (Rt2 G S r)) := by
 have a:=h0
 obtain ⟨b,c,d,f,g,h,i,rfl,_,_,_,_,_,_,_⟩:=Protocol.unp h0
 have j:=h1
 obtain ⟨k,l,m,n,rfl,_,_,_,_⟩:=Property.unp h1
 refine enterM (n:=17) (fun s w v=>∃ x,RdC Tryz.prog 4 36 s w x∧v = .tuple #[x,s 5]) [_,_] Tryz.func12 rfl rfl rfl (resCT rfl) fun _=>sg (o_box I rfl rfl rfl (cs:=[.string d0.name,it d0.topology,b,c,d,it d0.fault,f,g,h,i]) rfl fun _ _ o=>nf (o_box o rfl rfl rfl (cs:=[.string d1.name,it d1.kind,k,l,m,n]) rfl fun _ _ t=>nf (o_alloc t rfl rfl rfl zero36 fun _ _ u=>nf (o_p 1 rfl (en (sq (sg (lta u 2 rfl (cs:=[.string d0.name,it d0.topology,b,c,d,it d0.fault,f,g,h,i]) rfl (lta u 1 rfl (cs:=[.string d1.name,it d1.kind,k,l,m,n]) rfl (obk p fun _ y p=>ca okf34 rfl (rvi (c34 u a j y) fun _ _ z A=>nf (o_p 1 rfl (en (pg rfl (cd p rfl (fun p=>?_) fun p=>?_)))))))))))))))
 refine sg (o_bld (cs:=[]) (res:=[it 0,it 0,nl,nl,nl]) rfl rfl rfl zero36 (by exact trivial) rfl rfl rfl (o_p 1 rfl (st A 0 rfl rfl (cs:=[it 0,it 0,nl,nl,nl]) rfl rfl rfl fun _ B=>nf ?_)) rfl)
 cases p
 exact o_p 1 rfl (en (rt (pr (⟨_,⟨_,RdC.mk B (.S 0 rfl) rfl rfl,rfl⟩,Rt2.mk z (((B.del 2).del 1).del 0) (TreeAutomaton.pk (⟨0,0,([] : List Int),([] : List Leaf),([] : List Branch)⟩ : TreeAutomaton) ((SliceAt.nil _).repV) ((SliceAt.nil _).repV) ((SliceAt.nil _).repV)) ri⟩))))
 refine sn (sg (lta A 2 rfl (cs:=[.string d0.name,it d0.topology,b,c,d,it d0.fault,f,g,h,i]) rfl (lta A 1 rfl (cs:=[.string d1.name,it d1.kind,k,l,m,n]) rfl (obk p fun B C p=>ca okf35 rfl (rv (c35 A (a.m z) (j.m z) C) fun _ _ _ D F H=>?_)))))
 have J:=H
 obtain ⟨K,M,N,rfl,O,P,Q⟩:=TreeAutomaton.unp H
 refine nf (st F 0 rfl rfl (cs:=[it B.letters,it B.states,K,M,N]) rfl (allc rfl (allc rfl (allc (RepV.one1 O rfl) (allc (RepV.one1 P rfl) (allc (RepV.one1 Q rfl) rfl))))) rfl fun _ R=>nf ?_)
 cases p
 exact o_p 1 rfl (en (rt (⟨_,⟨_,RdC.mk R (.S 0 rfl) rfl rfl,rfl⟩,Rt2.mk (z.t D) (((R.del 2).del 1).del 0) J ri⟩)))
theorem c208 {v1 : Value} {d1 : Int} (I : Inv w G S) {r : List ByteArray} (h1 : RepV G v1 d1) (p : sl_Growstring_string_ d1 = some r) :
 Calls Tryz.prog 208 #[.slice none 0 0, v1] w (RV (fun v w' => ∃ G' s1, Le G G' ∧ Inv w' G' (s1 :: S) ∧ OwnL 9 G' s1 v r)) := by
 obtain rfl:=h1.int
 refine nt (n:=27) 4 [_,_] (h:=rfl) (res1 rfl) fun _=>pg rfl (sq (pg rfl (obk p fun _ a p=>cq (fun s w=>Inv w G S∧Hx s [(0,nl),(1,it d1)]) ?_ ?_)))
 replace p:=a
 refine cd p rfl (fun p=>?_) fun p=>?_
 cases p
 refine wpC_skip ?_
 cases p
 exact ⟨I,hx rfl⟩
 rintro s _ ⟨b,_,rfl⟩
 refine nx (sq (sg (o_p 2 rfl (o_capnil rfl rfl rfl rfl rfl rfl (o_p 5 rfl (en (pg rfl ?_))) rfl))))
 have c:=Inv.newNil b
 refine obk p fun d f p=>cq (fun s w=>∃ g h,Inv w G (h::S)∧OwnL 9 G h g d∧Hx s [(0,g)]) ?_ ?_
 replace p:=f
 refine wpC_cond rfl (fun q=>?_) (fun q=>?_)
 replace p:=cT q p
 refine rg (o_p 2 rfl (o_capnil rfl rfl rfl rfl rfl rfl (obk p fun _ i p=>o_slT (OwnL.nil (α:=ByteArray) (G:=G) 9) i rfl rfl rfl rfl rfl rfl (.inl rfl) (fun _ j=>?_) rfl) rfl))
 obtain rfl:=OwnL.nilv j
 refine o_p 1 rfl (obk p fun _ k p=>o_appz (z:=(ByteArray.empty : ByteArray)) c k (by have h1:=(mkN_some k).1; have h2 : (IntKind.i64.wrap (d1 - (IntKind.i64.wrap (0 - 0))) : Int) > 0:=of_decide_eq_true q; omega) rfl rfl rfl rfl rfl elk9 zero9 (fun _=>by exact rfl) rfl rfl rfl rfl fun _ l _ m n=>nf (o_p 2 rfl (obk p fun _ o p=>o_slT m o rfl rfl rfl rfl rfl rfl (.inl rfl) (fun t u=>?_) rfl)))
 cases p
 exact o_p 1 rfl (o_nil (⟨t,l,(n.del 1),u,hx rfl⟩))
 replace p:=cF q p
 refine wpC_skip ?_
 cases p
 exact ⟨nl,[],c,(OwnL.nil (α:=ByteArray) (G:=G) 9),hx rfl⟩
 rintro s _ ⟨g,h,i,j,_,rfl⟩
 cases p
 exact nx (pg rfl (rt (⟨G,h,lr,i,j⟩)))
theorem c194 {v0 : Value} {d0 : List (List ByteArray)} (I : Inv w G S) {r : List ByteArray} (h0 : RepV G v0 d0) (p : sl_Concatstring_string_ d0 = some r) :
 Calls Tryz.prog 194 #[v0] w (RV (Rt G S r)) := by
 refine nt (n:=36) 2 [_] (h:=rfl) (res1 rfl) fun _=>pg rfl (pg rfl (sq (sg (o_p 1 rfl ?_))))
 obtain ⟨a,b,rfl,_⟩:=h0.slice
 refine o_p 2 rfl (en (obk p fun c d p=>cq (fun s w=>Inv w G S∧Hx s [(0,(.slice a d0.length b)),(3,it c)]) ?_ ?_))
 have _:=p
 refine bk (fun (f : Int × Int) s w=>Inv w G S∧Hx s [(0,(.slice a d0.length b)),(3,it f.1),(9,(.slice a d0.length b)),(10,it (d0.length : Int)),(11,it f.2)]) d ⟨I,hx rfl⟩ ?_
 clear d
 rintro f _ s _ p ⟨g,_,rfl⟩
 refine pg rfl (sq (cd p rfl (fun p=>?_) fun p=>?_))
 refine sn (sq (wpC_block (sg (obk p fun h i p=>ix h0.slice i rfl rfl fun _ j=>ld g j rfl fun _ k=>o_p 1 rfl (en (sg (o_p 2 rfl ?_)))))))
 obtain ⟨_,_,rfl,_⟩:=k.slice
 refine o_p 3 rfl (en (pg rfl (obk p fun _ l p=>cq (fun s w=>Inv w G S∧Hx s [(0,(.slice a d0.length b)),(3,it (IntKind.i64.wrap (f.1 + (h.length : Int)))),(9,(.slice a d0.length b)),(10,it (d0.length : Int)),(11,it f.2)]) ?_ ?_)))
 replace p:=l
 refine cd p rfl (fun p=>?_) fun p=>?_
 cases p
 refine wpC_skip ?_
 cases p
 exact ⟨g,hx rfl⟩
 rintro s _ ⟨m,_,rfl⟩
 cases p
 exact bn (nx (rg (o_p 2 rfl (o_nil (nx ⟨_,rfl,⟨m,hx rfl⟩⟩)))))
 refine ex (px ?_)
 cases p
 refine ⟨_,rfl,?_⟩
 rintro rfl
 exact bh (nx (⟨g,hx rfl⟩))
 rintro s _ ⟨f,_,rfl⟩
 refine nx (sg (o_p 1 rfl (obk p fun _ g p=>ca okf208 rfl (RVm (c208 f ri g) ?_))))
 rintro h _ ⟨i,j,k,l,m⟩
 refine nf (o_p 1 rfl (en (sq (pg rfl (obk p fun n o p=>cq (fun s w=>∃ t u,Inv w i (u::S)∧OwnL 9 i u t n∧Hx s [(6,t)]) ?_ ?_)))))
 have _:=p
 refine bk (fun (v : List ByteArray × Int) s w=>∃ x y,Inv w i (y::S)∧OwnL 9 i y x v.1∧Hx s [(6,x),(25,(.slice a d0.length b)),(26,it (d0.length : Int)),(27,it v.2)]) o ⟨h,j,l,m,hx rfl⟩ ?_
 clear o
 rintro v _ s _ p ⟨x,y,z,A,_,rfl⟩
 refine pg rfl (sq (cd p rfl (fun p=>?_) fun p=>?_))
 refine sn (sq (wpC_block (sg (obk p fun _ B p=>o_ix (h0.m k).slice B rfl rfl rfl rfl rfl rfl rfl rfl (fun _ C=>ld z C rfl fun _ D=>o_p 1 rfl (en (rg (o_p 2 rfl (obk p fun _ F p=>?_))))) rfl))))
 refine o_app z 0 rfl A (Lies.ofSlice D.slice) F rfl rfl rfl rfl rfl rfl elk9 rfl rfl rfl rfl fun H J _ K M=>nf ?_
 cases p
 exact o_p 1 rfl (o_nil (bn (nx (rg (o_p 2 rfl (o_nil (nx ⟨_,rfl,⟨H,J,M,K,hx rfl⟩⟩)))))))
 refine ex (px ?_)
 cases p
 refine ⟨_,rfl,?_⟩
 rintro rfl
 exact bh (nx (⟨x,y,z,A,hx rfl⟩))
 rintro s _ ⟨t,u,v,x,_,rfl⟩
 refine nx (pg rfl (rt ?_))
 obtain ⟨_,y,z,A⟩:=Inv.frz v 0 rfl x
 cases p
 exact Rt.mk (k.t y) z A
theorem c179 {v0 v1 : Value} {d0 : machine} {d1 : List Int} (I : Inv w G S) {r : List Int × Int} (h0 : RepV G v0 (some d0)) (h1 : RepV G v1 d1) (p : t_machine_refine d0 d1 = some r) :
 Calls Tryz.prog 179 #[v0, v1] w (RV (Rt2 G S r)) := by
 obtain ⟨a,rfl,b⟩:=RepV.ptr h0
 refine enter (n:=119) (fun s=>.tuple #[s 4,s 5]) [_,_] Tryz.func179 rfl rfl rfl (res2 rfl) fun _=>pg rfl (sg ?_)
 refine o_mkmap (k:=9) ByteArray Int I rfl rfl rfl fun c d _ f g=>nf ?_
 refine o_p 1 rfl (en (sg (o_p 1 rfl ?_)))
 obtain ⟨h,i,rfl,_⟩:=h1.slice
 refine o_p 1 rfl (obk p fun _ j p=>?_)
 refine o_mks (z:=(0 : Int)) g j rfl rfl rfl elk3 zero3 (fun _=>by rfl) rfl rfl rfl rfl fun k l _ m n=>nf ?_
 refine o_p 1 rfl (en (sq (pg rfl (obk p fun o t p=>?_))))
 refine cq (fun s w=>∃ u v x y,Inv w G (y::v::S)∧OwnM Tryz.prog 9 v u o.1∧OwnL 3 G y x o.2∧Hx s [(6,u),(7,x)]) ?_ ?_
 have _:=p
 refine bk (fun (z : Mp ByteArray × List Int × Int) s w=>∃ A B C D,Inv w G (D::B::S)∧OwnM Tryz.prog 9 B A z.1∧OwnL 3 G D C z.2.1∧Hx s [(0,.pointer (some a)),(1,(.slice h d1.length i)),(6,A),(7,C),(21,it (d1.length : Int)),(22,it z.2.2)]) t ⟨c,d,k,l,n,f,m,hx rfl⟩ ?_
 clear t
 rintro z _ s _ p ⟨A,B,C,D,F,H,J,_,rfl⟩
 refine pg rfl (sq (cd p rfl (fun p=>?_) fun p=>?_))
 refine sn (sq ?_)
 refine wpC_block ?_
 refine pg rfl (sq ?_)
 refine wpC_drawI hmTryz F (Cl G S) [(0,.any),(1,.any),(2,.any),(3,.here),(4,.any),(5,.any),(6,.any),(7,.any),(8,.here),(9,.any),(10,.any),(11,.eff false),(12,.any)] (by kernel_rfl) fun _ K=>?_
 refine o_p 2 rfl (obk p fun M N p=>ix h1.slice N rfl rfl fun _ O=>ld K O rfl fun _ P=>?_)
 obtain rfl:=P.int
 refine o_p 3 rfl (obk p fun _ Q p=>ix h1.slice Q rfl rfl fun _ R=>ld K R rfl fun _ T=>?_)
 obtain rfl:=T.int
 refine obk p fun U V p=>?_
 refine o_shr V rfl rfl rfl rfl rfl rfl ?_ rfl
 refine o_p 1 rfl ?_
 refine o_bs (l:=[(U8.mk (IntKind.u8.wrap M)),(U8.mk (IntKind.u8.wrap U))]) (vs:=[.int .u8 (IntKind.u8.wrap M),.int .u8 (IntKind.u8.wrap U)]) K ⟨(RepV.ofU8 _ _),⟨(RepV.ofU8 _ _),trivial⟩⟩ rfl rfl rfl ⟨rfl,rfl,⟨rfl,rfl,trivial⟩⟩ rfl elk5 rfl rfl rfl fun W X Y _ Z a0=>nf ?_
 refine o_p 1 rfl (en (sq (pg rfl (obk p fun a1 a2 p=>?_))))
 refine cq (fun s w=>∃ a3 a4,Inv w G (a4::D::B::S)∧OwnL 5 G a4 a3 a1∧Hx s [(0,.pointer (some a)),(1,(.slice h d1.length i)),(6,A),(7,C),(8,it z.2.2),(9,a3),(21,it (d1.length : Int)),(22,it z.2.2)]) ?_ ?_
 have _:=p
 refine bk (fun (a5 : List U8 × Int) s w=>∃ a6 a7,Inv w G (a7::D::B::S)∧OwnL 5 G a7 a6 a5.1∧Hx s [(0,.pointer (some a)),(1,(.slice h d1.length i)),(6,A),(7,C),(8,it z.2.2),(9,a6),(21,it (d1.length : Int)),(22,it z.2.2),(38,it (d1.length : Int)),(39,it a5.2)]) a2 ⟨(.slice (some ⟨W,0,none⟩) [(U8.mk (IntKind.u8.wrap M)),(U8.mk (IntKind.u8.wrap U))].length X),[(W,blk Y 5)],a0,Z,hx rfl⟩ ?_
 clear a2
 rintro a5 _ s _ p ⟨a6,a7,a8,a9,_,rfl⟩
 refine pg rfl (sq (cd p rfl (fun p=>?_) fun p=>?_))
 refine sn (sq ?_)
 refine wpC_block ?_
 refine pg rfl (sg (o_p 3 rfl (ld a8 (show PtrTo _ _ d0.letters from (PtrTo.fld b 0 rfl rfl)) rfl fun _ b0=>?_)))
 obtain rfl:=b0.int
 refine o_p 1 rfl (en (obk p fun b1 b2 p=>?_))
 refine cq (fun s w=>∃ b3 b4,Inv w G (b4::D::B::S)∧OwnL 5 G b4 b3 b1∧Hx s [(0,.pointer (some a)),(1,(.slice h d1.length i)),(6,A),(7,C),(8,it z.2.2),(9,b3),(21,it (d1.length : Int)),(22,it z.2.2),(38,it (d1.length : Int)),(39,it a5.2)]) ?_ ?_
 have _:=p
 refine bk (fun (b5 : List U8 × Int) s w=>∃ b6 b7,Inv w G (b7::D::B::S)∧OwnL 5 G b7 b6 b5.1∧Hx s [(0,.pointer (some a)),(1,(.slice h d1.length i)),(6,A),(7,C),(8,it z.2.2),(9,b6),(10,it a5.2),(21,it (d1.length : Int)),(22,it z.2.2),(38,it (d1.length : Int)),(39,it a5.2),(45,it d0.letters),(46,it b5.2)]) b2 ⟨a6,a7,a8,a9,hx rfl⟩ ?_
 clear b2
 rintro b5 _ s _ p ⟨b6,b7,b8,b9,_,rfl⟩
 refine pg rfl (sq (cd p rfl (fun p=>?_) fun p=>?_))
 refine sn (sq ?_)
 refine wpC_block ?_
 refine pg rfl (sq ?_)
 refine wpC_drawI hmTryz b8 (Cl G S) [(0,.any),(1,.any),(2,.any),(3,.any),(4,.here),(5,.any),(6,.any),(7,.here),(8,.any),(9,.any),(10,.here),(11,.any),(12,.any),(13,.here),(14,.any),(15,.here),(16,.any),(17,.any),(18,.any),(19,.any),(20,.here),(21,.any),(22,.any),(23,.here),(24,.any),(25,.any),(26,.here),(27,.any),(28,.any),(29,.here),(30,.any),(31,.here),(32,.any),(33,.any)] (by kernel_rfl) fun _ e0=>?_
 refine o_p 4 rfl (ld e0 (show PtrTo _ _ d0.branch from (PtrTo.fld b 3 rfl rfl)) rfl fun _ e1=>o_p 1 rfl (obk p fun _ e2 p=>ix e1.slice e2 rfl rfl fun _ e3=>ld e0 e3 rfl fun _ e4=>o_p 1 rfl (obk p fun _ e5 p=>ix e4.slice e5 rfl rfl fun _ e6=>ld e0 e6 rfl fun _ e7=>o_p 1 rfl (obk p fun _ e8 p=>ix e7.slice e8 rfl rfl fun _ e9=>ld e0 e9 rfl fun _ f0=>?_))))
 obtain rfl:=f0.int
 refine obk p fun f1 f2 p=>ix h1.slice f2 rfl rfl fun _ f3=>ld e0 f3 rfl fun _ f4=>?_
 obtain rfl:=f4.int
 refine o_p 4 rfl (ld e0 (show PtrTo _ _ d0.branch from (PtrTo.fld b 3 rfl rfl)) rfl fun _ f5=>o_p 1 rfl (obk p fun _ f6 p=>ix f5.slice f6 rfl rfl fun _ f7=>ld e0 f7 rfl fun _ f8=>o_p 1 rfl (obk p fun _ f9 p=>ix f8.slice f9 rfl rfl fun _ g0=>ld e0 g0 rfl fun _ g1=>o_p 1 rfl (obk p fun _ g2 p=>ix g1.slice g2 rfl rfl fun _ g3=>ld e0 g3 rfl fun _ g4=>?_))))
 obtain rfl:=g4.int
 refine obk p fun g5 g6 p=>ix h1.slice g6 rfl rfl fun _ g7=>ld e0 g7 rfl fun _ g8=>?_
 obtain rfl:=g8.int
 refine o_p 2 rfl (en (rg (o_p 4 rfl (obk p fun g9 i0 p=>?_))))
 refine o_shr i0 rfl rfl rfl rfl rfl rfl ?_ rfl
 refine o_p 4 rfl (obk p fun i1 i2 p=>?_)
 refine o_shr i2 rfl rfl rfl rfl rfl rfl ?_ rfl
 refine o_p 1 rfl ?_
 refine o_bs (l:=[(U8.mk (IntKind.u8.wrap f1)),(U8.mk (IntKind.u8.wrap g9)),(U8.mk (IntKind.u8.wrap g5)),(U8.mk (IntKind.u8.wrap i1))]) (vs:=[.int .u8 (IntKind.u8.wrap f1),.int .u8 (IntKind.u8.wrap g9),.int .u8 (IntKind.u8.wrap g5),.int .u8 (IntKind.u8.wrap i1)]) e0 ⟨(RepV.ofU8 _ _),⟨(RepV.ofU8 _ _),⟨(RepV.ofU8 _ _),⟨(RepV.ofU8 _ _),trivial⟩⟩⟩⟩ rfl rfl rfl ⟨rfl,rfl,⟨rfl,rfl,⟨rfl,rfl,⟨rfl,rfl,trivial⟩⟩⟩⟩ rfl elk5 rfl rfl rfl fun _ _ _ _ i3 i4=>nf ?_
 refine obk p fun _ i5 p=>?_
 refine o_app i4 1 rfl b9 (Lies.ofOwn i3 0 rfl) i5 rfl rfl rfl rfl rfl rfl elk5 rfl rfl rfl rfl fun i6 i7 _ i8 i9=>nf ?_
 cases p
 exact o_p 1 rfl (o_nil (bn (nx (rg (o_p 2 rfl (o_nil (nx ⟨_,rfl,⟨i6,i7,(i9.del 0),i8,hx rfl⟩⟩)))))))
 refine ex (px ?_)
 cases p
 refine ⟨_,rfl,?_⟩
 rintro rfl
 exact bh (nx (⟨b6,b7,b8,b9,hx rfl⟩))
 rintro s _ ⟨b3,b4,b5,b6,_,rfl⟩
 cases p
 exact bn (nx (rg (o_p 2 rfl (o_nil (nx ⟨_,rfl,⟨b3,b4,b5,b6,hx rfl⟩⟩)))))
 refine ex (px ?_)
 cases p
 refine ⟨_,rfl,?_⟩
 rintro rfl
 exact bh (nx (⟨a6,a7,a8,a9,hx rfl⟩))
 rintro s _ ⟨a3,a4,a5,a6,_,rfl⟩
 refine nx (sg (o_p 2 rfl ?_))
 refine o_b2s cv297_9 a5 0 rfl a6 rfl rfl rfl rfl ?_
 refine obk p fun _ a7 p=>?_
 refine o_mlook a5 2 rfl H a7 mok296 mz296 rfl rfl rfl rfl rfl ?_
 refine o_p 5 rfl (en (sq (pg rfl (obk p fun a8 a9 p=>?_))))
 refine cq (fun s w=>∃ b0 b1,Inv w G (a4::D::b1::S)∧OwnM Tryz.prog 9 b1 b0 a8.1∧Hx s [(0,.pointer (some a)),(1,(.slice h d1.length i)),(6,b0),(7,C),(8,it z.2.2),(14,it a8.2),(21,it (d1.length : Int)),(22,it z.2.2)]) ?_ ?_
 replace p:=a9
 refine cd p rfl (fun p=>?_) fun p=>?_
 refine sg (o_p 1 rfl ?_)
 refine o_mln a5 2 rfl H mok296 rfl rfl rfl rfl ?_
 refine o_p 1 rfl (en (rg (o_p 2 rfl ?_)))
 refine o_b2s cv297_9 a5 0 rfl a6 rfl rfl rfl rfl ?_
 refine o_p 1 rfl (obk p fun _ b2 p=>?_)
 refine o_mput a5 2 rfl H b2 mok296 rfl rfl rfl rfl rfl rfl fun b3 _ b4 b5=>nf ?_
 cases p
 exact o_nil (⟨A,b3,b5,b4,hx rfl⟩)
 refine wpC_skip ?_
 cases p
 exact ⟨A,B,a5,H,hx rfl⟩
 rintro s _ ⟨b0,b1,b2,b3,_,rfl⟩
 refine nx (rg (o_p 3 rfl (obk p fun _ b4 p=>?_)))
 refine o_ixO J b4 rfl rfl rfl rfl rfl rfl rfl rfl (fun _ b5=>?_) rfl
 refine o_stO b2 1 rfl J b5 b4 ri rfl rfl rfl rfl rfl rfl rfl fun b6 _ b7 b8=>nf ?_
 cases p
 exact o_nil (bn (nx (rg (o_p 2 rfl (o_nil (nx ⟨_,rfl,⟨b0,b1,C,b6,(b8.del 0),b3,b7,hx rfl⟩⟩))))))
 refine ex (px ?_)
 cases p
 refine ⟨_,rfl,?_⟩
 rintro rfl
 exact bh (nx (⟨A,B,C,D,F,H,J,hx rfl⟩))
 rintro s _ ⟨u,v,x,y,z,A,B,_,rfl⟩
 refine nx (sg (o_p 2 rfl ?_))
 refine o_mln z 1 rfl A mok296 rfl rfl rfl rfl ?_
 refine o_p 2 rfl (en (rt ?_))
 obtain ⟨_,C,D,F⟩:=Inv.frz z 0 rfl B
 cases p
 exact Rt2.mk C (D.del 0) F ri
theorem c126 {v0 v1 : Value} {d0 : machine} {d1 : Int} (I : Inv w G S) {r : List Int} (h0 : RepV G v0 (some d0)) (h1 : RepV G v1 d1) (p : t_machine_classes d0 d1 = some r) :
 Calls Tryz.prog 126 #[v0, v1] w (RV (Rt G S r)) := by
 obtain ⟨a,rfl,b⟩:=RepV.ptr h0
 obtain rfl:=h1.int
 refine nt (n:=67) 4 [_,_] (h:=rfl) (res1 rfl) fun _=>pg rfl (sg (o_p 1 rfl (obk p fun _ c p=>?_)))
 refine ca okf38 rfl (rvi (c38 I (RepV.ofPtr b) c) fun _ d f g=>?_)
 refine nf (obk p fun _ h p=>?_)
 refine o_mks (z:=(0 : Int)) g h rfl rfl rfl elk3 zero3 (fun _=>by rfl) rfl rfl rfl rfl fun i j _ k l=>nf ?_
 refine o_p 1 rfl (en (sq (sg (o_p 3 rfl (ld l (PtrTo.mono f (PtrTo.fld b 1 rfl rfl)) rfl fun _ m=>?_)))))
 obtain ⟨n,o,rfl,_⟩:=m.slice
 refine o_p 2 rfl (en (obk p fun t u p=>?_))
 refine cq (fun s w=>∃ v x,Inv w d (x::S)∧OwnL 3 d x v t∧Hx s [(0,.pointer (some a)),(1,it d1),(5,v)]) ?_ ?_
 have _:=p
 refine bk (fun (y : List Int × Int) s w=>∃ z A,Inv w d (A::S)∧OwnL 3 d A z y.1∧Hx s [(0,.pointer (some a)),(1,it d1),(5,z),(20,(.slice n d0.accept.length o)),(21,it (d0.accept.length : Int)),(22,it y.2)]) u ⟨i,j,l,k,hx rfl⟩ ?_
 clear u
 rintro y _ s _ p ⟨z,A,B,C,_,rfl⟩
 refine pg rfl (sq (cd p rfl (fun p=>?_) fun p=>?_))
 refine sn (sq ?_)
 refine wpC_block ?_
 refine sg (o_p 1 rfl (obk p fun _ D p=>ix m.slice D rfl rfl fun _ F=>ld B F rfl fun _ H=>?_))
 obtain rfl:=H.bool
 refine o_p 2 rfl (en (sg (o_p 4 rfl (ld B (PtrTo.mono f (PtrTo.fld b 1 rfl rfl)) rfl fun _ J=>obk p fun _ K p=>ix J.slice K rfl rfl fun _ M=>ld B M rfl fun _ N=>?_))))
 obtain rfl:=N.bool
 refine o_p 1 rfl (en (obk p fun O P p=>?_))
 refine cq (fun s w=>∃ Q R,Inv w d (R::S)∧OwnL 3 d R Q O∧Hx s [(0,.pointer (some a)),(1,it d1),(5,Q),(20,(.slice n d0.accept.length o)),(21,it (d0.accept.length : Int)),(22,it y.2)]) ?_ ?_
 replace p:=P
 refine cd p rfl (fun p=>?_) fun p=>?_
 refine rg (o_p 2 rfl (obk p fun _ T p=>?_))
 refine o_ixO C T rfl rfl rfl rfl rfl rfl rfl rfl (fun _ U=>?_) rfl
 refine o_stO B 0 rfl C U T ri rfl rfl rfl rfl rfl rfl rfl fun V _ W X=>nf ?_
 cases p
 exact o_nil (⟨z,V,X,W,hx rfl⟩)
 refine wpC_skip ?_
 cases p
 exact ⟨z,A,B,C,hx rfl⟩
 rintro s _ ⟨Q,R,T,U,_,rfl⟩
 cases p
 exact bn (nx (rg (o_p 2 rfl (o_nil (nx ⟨_,rfl,⟨Q,R,T,U,hx rfl⟩⟩)))))
 refine ex (px ?_)
 cases p
 refine ⟨_,rfl,?_⟩
 rintro rfl
 exact bh (nx (⟨z,A,B,C,hx rfl⟩))
 rintro s _ ⟨v,x,y,z,_,rfl⟩
 refine nx (pg rfl (sq (sg (o_p 1 rfl ?_))))
 obtain ⟨A,B,rfl⟩:=OwnL.sh z
 refine o_p 2 rfl (en (obk p fun C D p=>?_))
 refine cq (fun s w=>Inv w d (x::S)∧Hx s [(0,.pointer (some a)),(1,it d1),(5,(.slice A t.length B)),(8,it C)]) ?_ ?_
 have _:=p
 refine bk (fun (F : Int × Int) s w=>Inv w d (x::S)∧Hx s [(0,.pointer (some a)),(1,it d1),(5,(.slice A t.length B)),(8,it F.1),(39,(.slice A t.length B)),(40,it (t.length : Int)),(41,it F.2)]) D ⟨y,hx rfl⟩ ?_
 clear D
 rintro F _ s _ p ⟨H,_,rfl⟩
 refine pg rfl (sq (cd p rfl (fun p=>?_) fun p=>?_))
 refine sn (sq ?_)
 refine wpC_block ?_
 refine sg (obk p fun _ J p=>?_)
 refine o_ixO z J rfl rfl rfl rfl rfl rfl rfl rfl (fun _ K=>?_) rfl
 refine o_ldO H 0 rfl z K J rfl rfl rfl rfl rfl fun _ M=>?_
 obtain rfl:=M.int
 cases p
 exact o_p 1 rfl (en (rg (o_p 5 rfl (o_nil (bn (nx (rg (o_p 2 rfl (o_nil (nx ⟨_,rfl,⟨H,hx rfl⟩⟩))))))))))
 refine ex (px ?_)
 cases p
 refine ⟨_,rfl,?_⟩
 rintro rfl
 exact bh (nx (⟨H,hx rfl⟩))
 rintro s _ ⟨F,_,rfl⟩
 refine nx (sq (pg rfl ?_))
 obtain ⟨H,J,K,M⟩:=Inv.frz F 0 rfl z
 refine obk p fun N O p=>?_
 refine cq (fun s w=>∃ P Q,Le H P∧Inv w P S∧RepV P Q N∧Hx s [(5,Q)]) ?_ ?_
 have _:=p
 refine bk (fun (R : List Int × Int × Int) s w=>∃ T U,Le H T∧Inv w T S∧RepV T U R.1∧Hx s [(0,.pointer (some a)),(1,it d1),(5,U),(8,it R.2.1),(11,it R.2.2)]) O ⟨H,(.slice A t.length B),lr,K,M,hx rfl⟩ ?_
 clear O
 rintro R _ s _ p ⟨T,U,V,W,X,_,rfl⟩
 refine sq (pg rfl (cd p rfl (fun p=>?_) fun p=>?_))
 refine sn (sq ?_)
 refine wpC_block ?_
 refine sg (o_p 2 rfl (obk p fun _ Y p=>?_))
 refine ca okf179 rfl (RVm (c179 W (RepV.ofPtr (PtrTo.mono ((f.t J).t V) b)) X Y) ?_)
 rintro _ _ ⟨Z,a0,_,a1,a2,rfl,a3,a4⟩
 obtain rfl:=a4.int
 refine nf (o_p 5 rfl (en (sq (pg rfl (cd p rfl (fun p=>?_) fun p=>?_)))))
 refine ex (px (bm rfl (px ?_)))
 cases p
 refine ⟨_,rfl,?_⟩
 rintro rfl
 exact bh (nx (⟨Z,U,(V.t a1),a2,(X.m a1),hx rfl⟩))
 cases p
 exact sn (rg (o_p 4 rfl (o_nil (bn (nx (rg (o_p 3 rfl (o_nil (nx ⟨_,rfl,⟨Z,a0,(V.t a1),a2,a3,hx rfl⟩⟩)))))))))
 refine ex (px ?_)
 cases p
 refine ⟨_,rfl,?_⟩
 rintro rfl
 exact bh (nx (⟨T,U,V,W,X,hx rfl⟩))
 rintro s _ ⟨P,Q,R,T,U,_,rfl⟩
 cases p
 exact nx (pg rfl (rt (Rt.mk ((f.t J).t R) T U)))
theorem c205 {v0 : Value} {d0 : ByteArray} (I : Inv w G S) (hL : Laid 0 G) {r : List ByteArray} (h0 : RepV G v0 d0) (p : st_Fields d0 = some r) :
 Calls Tryz.prog 205 #[v0] w (RV (Rt G S r)) := by
 obtain rfl:=h0.str
 refine nt (n:=106) 2 [_] (h:=rfl) (res1 rfl) fun _=>pg rfl (pg rfl (pg rfl (pg rfl (sq (pg rfl (obk p fun a b p=>cq (fun s w=>Inv w G S∧Hx s [(0,.string d0),(3,it a.1),(5,.int .u8 a.2)]) ?_ ?_))))))
 have _:=p
 refine bk (fun (c : Int × Int × Int × Int) s w=>Inv w G S∧Hx s [(0,.string d0),(3,it c.1),(4,it c.2.1),(5,.int .u8 c.2.2.1),(6,it c.2.2.2)]) b ⟨I,hx rfl⟩ ?_
 clear b
 rintro c _ s _ p ⟨d,_,rfl⟩
 refine sq (pg rfl (cd p rfl (fun p=>?_) fun p=>?_))
 refine sn (sq (wpC_block (sg (o_p 2 rfl (obk p fun _ f p=>o_ixs f rfl rfl rfl rfl rfl rfl rfl (o_p 1 rfl (en (pg rfl (sg (o_p 1 rfl (obk p fun _ g p=>o_ixG arr304 g rfl rfl rfl rfl (o_ldG d hL g rfl rfl rfl rfl rfl (o_p 2 rfl (en (sg (o_p 3 rfl (o_not rfl rfl rfl rfl ?_ rfl)))))) rfl)))))) rfl)))))
 cases p
 exact o_p 3 rfl (en (rg (o_p 2 rfl (o_nil (bn (nx (rg (o_p 3 rfl (o_nil (nx ⟨_,rfl,⟨d,hx rfl⟩⟩))))))))))
 refine ex (px ?_)
 cases p
 refine ⟨_,rfl,?_⟩
 rintro rfl
 exact bh (nx (⟨d,hx rfl⟩))
 rintro s _ ⟨c,_,rfl⟩
 refine nx (sq (pg rfl (cd p rfl (fun p=>?_) fun p=>?_)))
 refine sq ?_
 cases p
 refine sn (sg (o_p 1 rfl (obk p fun _ d p=>o_mks (z:=(ByteArray.empty : ByteArray)) c d rfl rfl rfl elk9 zero9 (fun _=>by rfl) rfl rfl rfl rfl fun f g _ h i=>nf (o_p 1 rfl (en (pg rfl (pg rfl (pg rfl (sq (obk p fun j k p=>cq (fun s w=>Inv w G (g::S)∧Hx s [(0,.string d0),(9,f),(10,it 0),(12,it j)]) ?_ ?_))))))))))
 have _:=p
 refine bk (fun (l : Int) s w=>Inv w G (g::S)∧Hx s [(0,.string d0),(9,f),(10,it 0),(12,it l)]) k ⟨i,hx rfl⟩ ?_
 clear k
 rintro l _ s _ p ⟨m,_,rfl⟩
 refine sq (sg (o_p 5 rfl (obk p fun n o p=>oq (fun s w=>Inv w G (g::S)∧Hx s [(0,.string d0),(9,f),(10,it 0),(12,it l),(53,.bool n)]) ?_ ?_)))
 replace p:=o
 refine sp 46 p rfl (fun p=>?_) fun p=>?_
 refine o_p 2 rfl (obk p fun _ t p=>o_ixs t rfl rfl rfl rfl rfl rfl rfl (obk p fun _ u p=>o_ixG arr304 u rfl rfl rfl rfl (o_ldG m hL u rfl rfl rfl rfl rfl ?_) rfl) rfl)
 cases p
 exact o_p 2 rfl (o_nil (⟨m,hx rfl⟩))
 cases p
 exact o_p 7 rfl (o_nil (⟨m,hx rfl⟩))
 rintro s _ ⟨t,_,rfl⟩
 refine nx (cd p rfl (fun p=>?_) fun p=>?_)
 refine sn (wpC_block ?_)
 cases p
 exact rg (o_p 3 rfl (o_nil (bn (nx ⟨_,rfl,⟨t,hx rfl⟩⟩))))
 refine ex (px ?_)
 cases p
 refine ⟨_,rfl,?_⟩
 rintro rfl
 exact bh (nx (⟨t,hx rfl⟩))
 rintro s _ ⟨l,_,rfl⟩
 refine nx (pg rfl (sq (obk p fun m n p=>cq (fun s w=>∃ o t,Inv w G (t::S)∧OwnL 9 G t o m.1∧Hx s [(0,.string d0),(9,o),(10,it m.2.1),(11,it m.2.2)]) ?_ ?_)))
 have _:=p
 refine bk (fun (u : List ByteArray × Int × Int × Int) s w=>∃ v x,Inv w G (x::S)∧OwnL 9 G x v u.1∧Hx s [(0,.string d0),(9,v),(10,it u.2.1),(11,it u.2.2.1),(12,it u.2.2.2)]) n ⟨f,g,l,h,hx rfl⟩ ?_
 clear n
 rintro u _ s _ p ⟨v,x,y,z,_,rfl⟩
 refine sq (pg rfl (cd p rfl (fun p=>?_) fun p=>?_))
 refine sn (obk p fun A B p=>cq (fun s w=>∃ C D,Inv w G (D::S)∧OwnL 9 G D C A.1∧Hx s [(0,.string d0),(9,C),(10,it A.2.1),(11,it A.2.2.1),(12,it A.2.2.2)]) ?_ ?_)
 replace p:=B
 refine wpC_block (sq (sg (o_p 2 rfl (obk p fun _ F p=>o_ixs F rfl rfl rfl rfl rfl rfl rfl (obk p fun _ H p=>o_ixG arr304 H rfl rfl rfl rfl (o_ldG y hL H rfl rfl rfl rfl rfl (o_p 1 rfl (en (cd p rfl (fun p=>?_) fun p=>?_)))) rfl) rfl))))
 cases p
 exact pg rfl (ex (px (bh (⟨v,x,y,z,hx rfl⟩))))
 refine sn (sg (o_p 5 rfl (obk p fun _ J p=>o_ss J rfl rfl rfl rfl rfl rfl (.inl rfl) (.inl rfl) (obk p fun _ K p=>o_ixO z K rfl rfl rfl rfl rfl rfl rfl rfl (fun _ M=>o_stO y 0 rfl z M K rz rfl rfl rfl rfl rfl rfl rfl fun N _ O P=>nf (en (pg rfl (pg rfl (sq (obk p fun Q R p=>cq (fun s w=>Inv w G (N::S)∧Hx s [(0,.string d0),(9,v),(10,it (IntKind.i64.wrap (u.2.1 + 1))),(12,it Q)]) ?_ ?_)))))) rfl) rfl)))
 have _:=p
 refine bk (fun (T : Int) s w=>Inv w G (N::S)∧Hx s [(0,.string d0),(9,v),(10,it (IntKind.i64.wrap (u.2.1 + 1))),(12,it T)]) R ⟨P,hx rfl⟩ ?_
 clear R
 rintro T _ s _ p ⟨U,_,rfl⟩
 refine sq (sg (o_p 5 rfl (obk p fun V W p=>oq (fun s w=>Inv w G (N::S)∧Hx s [(0,.string d0),(9,v),(10,it (IntKind.i64.wrap (u.2.1 + 1))),(12,it T),(91,.bool V)]) ?_ ?_)))
 replace p:=W
 refine sp 84 p rfl (fun p=>?_) fun p=>?_
 refine o_p 2 rfl (obk p fun _ X p=>o_ixs X rfl rfl rfl rfl rfl rfl rfl (obk p fun _ Y p=>o_ixG arr304 Y rfl rfl rfl rfl (o_ldG U hL Y rfl rfl rfl rfl rfl ?_) rfl) rfl)
 cases p
 exact o_p 2 rfl (o_nil (⟨U,hx rfl⟩))
 cases p
 exact o_p 7 rfl (o_nil (⟨U,hx rfl⟩))
 rintro s _ ⟨X,_,rfl⟩
 refine nx (cd p rfl (fun p=>?_) fun p=>?_)
 refine sn (wpC_block ?_)
 cases p
 exact rg (o_p 3 rfl (o_nil (bn (nx ⟨_,rfl,⟨X,hx rfl⟩⟩))))
 refine ex (px ?_)
 cases p
 refine ⟨_,rfl,?_⟩
 rintro rfl
 exact bh (nx (⟨X,hx rfl⟩))
 rintro s _ ⟨T,_,rfl⟩
 cases p
 exact nx (rg (o_p 2 rfl (o_nil (bn (⟨v,N,T,O,hx rfl⟩)))))
 rintro s _ ⟨C,D,F,H,_,rfl⟩
 cases p
 exact nx ⟨_,rfl,⟨C,D,F,H,hx rfl⟩⟩
 refine ex (px ?_)
 cases p
 refine ⟨_,rfl,?_⟩
 rintro rfl
 exact bh (nx (⟨v,x,y,z,hx rfl⟩))
 rintro s _ ⟨o,t,u,v,_,rfl⟩
 refine nx (sq (pg rfl (obk p fun x y p=>cq (fun s w=>∃ z A,Inv w G (A::S)∧OwnL 9 G A z x∧Hx s [(9,z)]) ?_ ?_)))
 replace p:=y
 refine cd p rfl (fun p=>?_) fun p=>?_
 refine rg (o_p 4 rfl (obk p fun _ B p=>o_ss B rfl rfl rfl rfl rfl rfl (.inl rfl) (.inr ⟨rfl,rfl⟩) (obk p fun _ C p=>o_ixO v C rfl rfl rfl rfl rfl rfl rfl rfl (fun _ D=>o_stO u 0 rfl v D C rz rfl rfl rfl rfl rfl rfl rfl fun F _ H J=>nf ?_) rfl) rfl))
 cases p
 exact o_nil (⟨o,F,J,H,hx rfl⟩)
 refine wpC_skip ?_
 cases p
 exact ⟨o,t,u,v,hx rfl⟩
 rintro s _ ⟨z,A,B,C,_,rfl⟩
 refine nx (pg rfl (rt ?_))
 obtain ⟨_,D,F,H⟩:=Inv.frz B 0 rfl C
 cases p
 exact Rt.mk D F H
theorem c177 {v0 : Value} {d0 : ByteArray} (I : Inv w G S) (hL : Laid 0 G) {r : Bool} (h0 : RepV G v0 d0) (p : p_isReserved d0 = some r) :
 Calls Tryz.prog 177 #[v0] w (RV (Rt G S r)) := by
 obtain rfl:=h0.str
 refine nt (n:=6) 2 [_] (h:=rfl) (res1 rfl) fun _=>pg rfl (sg (obk p fun _ a p=>ca okf205 rfl (rv (c205 I hL (RepV.ofStr _ _) a) fun _ _ _ b c d=>nf (o_p 1 rfl (obk p fun _ f p=>ca okf195 rfl (rvb (c195 c d (RepV.ofStr _ _) f) fun _ _ g h=>nf ?_))))))
 cases p
 exact o_p 1 rfl (en (rt (Rt.mk (b.t g) h rb)))
end Go.Lg
