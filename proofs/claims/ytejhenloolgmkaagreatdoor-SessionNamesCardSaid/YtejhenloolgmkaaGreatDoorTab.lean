/- The tables of the functions and of the types, and the cells of the package variables. -/
import Derived.Test.YtejhenloolgmkaaGreatDoorProg
import Derived.Test.YtejhenloolgmkaaGreatDoorLitA
import Derived.Test.YtejhenloolgmkaaGreatDoorLitB
import Derived.Test.YtejhenloolgmkaaGreatDoorMe
namespace Go.Proofs.YtejhenloolgmkaaGreatDoor
open Go
set_option linter.all false
noncomputable section
namespace AM
def G0 : List AV := []
def G1 : List AV := [(.i .u64 1), (.i .u64 10), (.i .u64 100), (.i .u64 1000), (.i .u64 10000), (.i .u64 100000), (.i .u64 1000000), (.i .u64 10000000), (.i .u64 100000000), (.i .u64 1000000000), (.i .u64 10000000000), (.i .u64 100000000000), (.i .u64 1000000000000), (.i .u64 10000000000000), (.i .u64 100000000000000), (.i .u64 1000000000000000), (.i .u64 10000000000000000), (.i .u64 100000000000000000), (.i .u64 1000000000000000000), (.i .u64 10000000000000000000)]
def G2 : List AV := []
def G3 : List AV := []
def G4 : List AV := [(.i .u8 0), (.i .u8 1), (.i .u8 28), (.i .u8 2), (.i .u8 29), (.i .u8 14), (.i .u8 24), (.i .u8 3), (.i .u8 30), (.i .u8 22), (.i .u8 20), (.i .u8 15), (.i .u8 25), (.i .u8 17), (.i .u8 4), (.i .u8 8), (.i .u8 31), (.i .u8 27), (.i .u8 13), (.i .u8 23), (.i .u8 21), (.i .u8 19), (.i .u8 16), (.i .u8 7), (.i .u8 26), (.i .u8 12), (.i .u8 18), (.i .u8 6), (.i .u8 11), (.i .u8 5), (.i .u8 10), (.i .u8 9)]
def G5 : List AV := []
def G6 : List AV := []
def G7 : List AV := []
def G (n : Nat) : List AV := Bool.rec (motive := fun _ => List AV) [] (sel8 G0 G1 G2 G3 G4 G5 G6 G7 n) (Nat.ble n 7)
def leafO {α : Type} (n : Nat) (o : Option (Nat × α)) : Option α := Option.rec (motive := fun _ => Option α) none (fun p => Bool.rec (motive := fun _ => Option α) none (some p.2) (Nat.beq p.1 n)) o
noncomputable def Fz1 : N8 (Option (Nat × LFun)) := ⟨none, none, none, none, none, none, none, none⟩
noncomputable def Fz2 : N8 (N8 (Option (Nat × LFun))) := ⟨Fz1, Fz1, Fz1, Fz1, Fz1, Fz1, Fz1, Fz1⟩
noncomputable def Fz3 : N8 (N8 (N8 (Option (Nat × LFun)))) := ⟨Fz2, Fz2, Fz2, Fz2, Fz2, Fz2, Fz2, Fz2⟩
noncomputable def Fz4 : N8 (N8 (N8 (N8 (Option (Nat × LFun))))) := ⟨Fz3, Fz3, Fz3, Fz3, Fz3, Fz3, Fz3, Fz3⟩
noncomputable def Ft : N8 (N8 (N8 (N8 (Option (Nat × LFun))))) := ⟨⟨⟨⟨none, none, none, (some (3, L3)), (some (4, L4)), (some (5, L5)), (some (6, L6)), (some (7, L7))⟩, ⟨(some (8, L8)), (some (9, L9)), (some (10, L10)), (some (11, L11)), (some (12, L12)), (some (13, L13)), (some (14, L14)), (some (15, L15))⟩, ⟨(some (16, L16)), (some (17, L17)), (some (18, L18)), (some (19, L19)), (some (20, L20)), (some (21, L21)), (some (22, L22)), (some (23, L23))⟩, ⟨(some (24, L24)), (some (25, L25)), (some (26, L26)), (some (27, L27)), none, (some (29, L29)), none, (some (31, L31))⟩, ⟨none, none, (some (34, L34)), none, (some (36, L36)), (some (37, L37)), (some (38, L38)), (some (39, L39))⟩, ⟨(some (40, L40)), (some (41, L41)), (some (42, L42)), (some (43, L43)), (some (44, L44)), (some (45, L45)), (some (46, L46)), (some (47, L47))⟩, ⟨(some (48, L48)), (some (49, L49)), (some (50, L50)), (some (51, L51)), (some (52, L52)), none, none, none⟩, ⟨(some (56, L56)), none, none, none, none, none, (some (62, L62)), none⟩⟩, ⟨⟨none, none, none, (some (67, L67)), (some (68, L68)), (some (69, L69)), (some (70, L70)), (some (71, L71))⟩, ⟨(some (72, L72)), none, none, (some (75, L75)), none, (some (77, L77)), none, (some (79, L79))⟩, ⟨(some (80, L80)), (some (81, L81)), (some (82, L82)), (some (83, L83)), (some (84, L84)), (some (85, L85)), (some (86, L86)), (some (87, L87))⟩, ⟨(some (88, L88)), (some (89, L89)), (some (90, L90)), (some (91, L91)), (some (92, L92)), (some (93, L93)), (some (94, L94)), (some (95, L95))⟩, ⟨none, none, (some (98, L98)), (some (99, L99)), (some (100, L100)), (some (101, L101)), none, (some (103, L103))⟩, ⟨none, none, none, none, none, none, none, (some (111, L111))⟩, ⟨none, none, (some (114, L114)), none, (some (116, L116)), (some (117, L117)), (some (118, L118)), (some (119, L119))⟩, ⟨(some (120, L120)), (some (121, L121)), none, none, none, none, none, none⟩⟩, ⟨Fz1, ⟨none, none, none, none, none, (some (141, L141)), (some (142, L142)), (some (143, L143))⟩, ⟨(some (144, L144)), (some (145, L145)), (some (146, L146)), (some (147, L147)), (some (148, L148)), (some (149, L149)), (some (150, L150)), (some (151, L151))⟩, ⟨(some (152, L152)), (some (153, L153)), (some (154, L154)), (some (155, L155)), (some (156, L156)), (some (157, L157)), none, (some (159, L159))⟩, ⟨none, (some (161, L161)), (some (162, L162)), (some (163, L163)), none, (some (165, L165)), (some (166, L166)), none⟩, ⟨(some (168, L168)), (some (169, L169)), (some (170, L170)), none, none, (some (173, L173)), (some (174, L174)), (some (175, L175))⟩, ⟨(some (176, L176)), (some (177, L177)), (some (178, L178)), (some (179, L179)), (some (180, L180)), (some (181, L181)), (some (182, L182)), (some (183, L183))⟩, ⟨(some (184, L184)), (some (185, L185)), (some (186, L186)), (some (187, L187)), (some (188, L188)), (some (189, L189)), (some (190, L190)), (some (191, L191))⟩⟩, ⟨⟨none, none, (some (194, L194)), (some (195, L195)), (some (196, L196)), none, none, none⟩, Fz1, ⟨none, none, (some (210, L210)), (some (211, L211)), (some (212, L212)), (some (213, L213)), (some (214, L214)), (some (215, L215))⟩, ⟨(some (216, L216)), (some (217, L217)), (some (218, L218)), none, (some (220, L220)), (some (221, L221)), (some (222, L222)), none⟩, ⟨none, (some (225, L225)), (some (226, L226)), (some (227, L227)), (some (228, L228)), none, none, none⟩, Fz1, ⟨none, none, none, (some (243, L243)), none, none, none, none⟩, ⟨none, none, none, (some (251, L251)), (some (252, L252)), (some (253, L253)), (some (254, L254)), (some (255, L255))⟩⟩, ⟨⟨(some (256, L256)), (some (257, L257)), (some (258, L258)), (some (259, L259)), (some (260, L260)), (some (261, L261)), (some (262, L262)), (some (263, L263))⟩, ⟨(some (264, L264)), (some (265, L265)), (some (266, L266)), (some (267, L267)), (some (268, L268)), (some (269, L269)), (some (270, L270)), (some (271, L271))⟩, ⟨(some (272, L272)), (some (273, L273)), (some (274, L274)), (some (275, L275)), (some (276, L276)), (some (277, L277)), (some (278, L278)), (some (279, L279))⟩, ⟨(some (280, L280)), (some (281, L281)), (some (282, L282)), none, (some (284, L284)), none, none, none⟩, ⟨none, none, (some (290, L290)), (some (291, L291)), (some (292, L292)), (some (293, L293)), none, none⟩, ⟨none, none, (some (298, L298)), (some (299, L299)), (some (300, L300)), (some (301, L301)), (some (302, L302)), (some (303, L303))⟩, ⟨none, none, none, (some (307, L307)), (some (308, L308)), (some (309, L309)), none, none⟩, ⟨(some (312, L312)), (some (313, L313)), (some (314, L314)), none, (some (316, L316)), (some (317, L317)), (some (318, L318)), (some (319, L319))⟩⟩, ⟨⟨(some (320, L320)), (some (321, L321)), (some (322, L322)), (some (323, L323)), (some (324, L324)), (some (325, L325)), (some (326, L326)), (some (327, L327))⟩, ⟨(some (328, L328)), (some (329, L329)), (some (330, L330)), (some (331, L331)), (some (332, L332)), none, none, (some (335, L335))⟩, ⟨(some (336, L336)), (some (337, L337)), (some (338, L338)), (some (339, L339)), (some (340, L340)), (some (341, L341)), (some (342, L342)), (some (343, L343))⟩, ⟨(some (344, L344)), none, none, none, none, none, none, none⟩, Fz1, ⟨none, (some (361, L361)), none, none, (some (364, L364)), none, (some (366, L366)), (some (367, L367))⟩, ⟨(some (368, L368)), (some (369, L369)), (some (370, L370)), (some (371, L371)), (some (372, L372)), (some (373, L373)), (some (374, L374)), (some (375, L375))⟩, ⟨(some (376, L376)), (some (377, L377)), none, none, (some (380, L380)), (some (381, L381)), (some (382, L382)), (some (383, L383))⟩⟩, ⟨⟨(some (384, L384)), (some (385, L385)), (some (386, L386)), (some (387, L387)), (some (388, L388)), none, (some (390, L390)), (some (391, L391))⟩, ⟨(some (392, L392)), (some (393, L393)), (some (394, L394)), (some (395, L395)), (some (396, L396)), (some (397, L397)), (some (398, L398)), (some (399, L399))⟩, ⟨(some (400, L400)), (some (401, L401)), (some (402, L402)), (some (403, L403)), (some (404, L404)), (some (405, L405)), (some (406, L406)), (some (407, L407))⟩, ⟨(some (408, L408)), none, (some (410, L410)), (some (411, L411)), none, none, none, none⟩, ⟨(some (416, L416)), (some (417, L417)), (some (418, L418)), none, none, none, none, none⟩, ⟨none, none, none, (some (427, L427)), none, none, none, none⟩, ⟨(some (432, L432)), none, none, none, (some (436, L436)), (some (437, L437)), (some (438, L438)), (some (439, L439))⟩, ⟨(some (440, L440)), (some (441, L441)), (some (442, L442)), (some (443, L443)), none, none, none, (some (447, L447))⟩⟩, ⟨⟨(some (448, L448)), none, none, (some (451, L451)), (some (452, L452)), (some (453, L453)), none, none⟩, ⟨none, none, none, (some (459, L459)), (some (460, L460)), (some (461, L461)), (some (462, L462)), (some (463, L463))⟩, ⟨(some (464, L464)), (some (465, L465)), (some (466, L466)), (some (467, L467)), (some (468, L468)), (some (469, L469)), none, none⟩, ⟨none, none, none, none, none, none, (some (478, L478)), (some (479, L479))⟩, ⟨(some (480, L480)), (some (481, L481)), (some (482, L482)), (some (483, L483)), (some (484, L484)), (some (485, L485)), none, (some (487, L487))⟩, ⟨(some (488, L488)), (some (489, L489)), (some (490, L490)), (some (491, L491)), (some (492, L492)), (some (493, L493)), (some (494, L494)), (some (495, L495))⟩, ⟨(some (496, L496)), (some (497, L497)), (some (498, L498)), (some (499, L499)), (some (500, L500)), (some (501, L501)), none, (some (503, L503))⟩, ⟨(some (504, L504)), (some (505, L505)), (some (506, L506)), (some (507, L507)), (some (508, L508)), (some (509, L509)), (some (510, L510)), (some (511, L511))⟩⟩⟩, ⟨⟨⟨(some (512, L512)), (some (513, L513)), (some (514, L514)), (some (515, L515)), (some (516, L516)), (some (517, L517)), (some (518, L518)), (some (519, L519))⟩, ⟨(some (520, L520)), (some (521, L521)), (some (522, L522)), (some (523, L523)), (some (524, L524)), (some (525, L525)), (some (526, L526)), (some (527, L527))⟩, ⟨(some (528, L528)), none, (some (530, L530)), (some (531, L531)), none, none, none, none⟩, Fz1, ⟨none, none, none, (some (547, L547)), (some (548, L548)), none, none, none⟩, ⟨none, (some (553, L553)), (some (554, L554)), (some (555, L555)), (some (556, L556)), none, none, (some (559, L559))⟩, ⟨(some (560, L560)), (some (561, L561)), (some (562, L562)), (some (563, L563)), none, none, (some (566, L566)), (some (567, L567))⟩, ⟨(some (568, L568)), (some (569, L569)), none, (some (571, L571)), none, none, none, none⟩⟩, ⟨⟨(some (576, L576)), (some (577, L577)), (some (578, L578)), none, (some (580, L580)), (some (581, L581)), (some (582, L582)), none⟩, ⟨(some (584, L584)), (some (585, L585)), (some (586, L586)), (some (587, L587)), (some (588, L588)), (some (589, L589)), (some (590, L590)), (some (591, L591))⟩, ⟨(some (592, L592)), none, (some (594, L594)), (some (595, L595)), none, (some (597, L597)), none, (some (599, L599))⟩, ⟨(some (600, L600)), none, none, (some (603, L603)), none, none, none, none⟩, ⟨none, (some (609, L609)), (some (610, L610)), (some (611, L611)), (some (612, L612)), (some (613, L613)), (some (614, L614)), (some (615, L615))⟩, ⟨(some (616, L616)), (some (617, L617)), (some (618, L618)), (some (619, L619)), (some (620, L620)), (some (621, L621)), none, none⟩, ⟨none, none, (some (626, L626)), (some (627, L627)), (some (628, L628)), none, (some (630, L630)), (some (631, L631))⟩, ⟨(some (632, L632)), (some (633, L633)), (some (634, L634)), (some (635, L635)), (some (636, L636)), (some (637, L637)), none, none⟩⟩, ⟨Fz1, ⟨none, none, none, (some (651, L651)), (some (652, L652)), none, (some (654, L654)), (some (655, L655))⟩, ⟨(some (656, L656)), none, none, (some (659, L659)), (some (660, L660)), none, none, none⟩, ⟨none, none, none, none, none, none, none, (some (671, L671))⟩, ⟨none, (some (673, L673)), none, none, none, none, none, none⟩, Fz1, Fz1, Fz1⟩, Fz2, Fz2, Fz2, Fz2, Fz2⟩, Fz3, Fz3, Fz3, Fz3, Fz3, Fz3⟩
noncomputable def F (n : Nat) : Option LFun := leafO n (ng8 (Nat.mod n 8) (ng8 (Nat.mod (Nat.div n 8) 8) (ng8 (Nat.mod (Nat.div n 64) 8) (ng8 (Nat.mod (Nat.div n 512) 8) Ft))))
noncomputable def Tz1 : N8 (Option (Nat × TypeInfo)) := ⟨none, none, none, none, none, none, none, none⟩
noncomputable def Tz2 : N8 (N8 (Option (Nat × TypeInfo))) := ⟨Tz1, Tz1, Tz1, Tz1, Tz1, Tz1, Tz1, Tz1⟩
noncomputable def Tz3 : N8 (N8 (N8 (Option (Nat × TypeInfo)))) := ⟨Tz2, Tz2, Tz2, Tz2, Tz2, Tz2, Tz2, Tz2⟩
noncomputable def Tz4 : N8 (N8 (N8 (N8 (Option (Nat × TypeInfo))))) := ⟨Tz3, Tz3, Tz3, Tz3, Tz3, Tz3, Tz3, Tz3⟩
noncomputable def Tt : N8 (N8 (N8 (N8 (Option (Nat × TypeInfo))))) := ⟨⟨⟨⟨none, (some (1, Tryz.t1)), (some (2, Tryz.t2)), (some (3, Tryz.t3)), (some (4, Tryz.t4)), (some (5, Tryz.t5)), none, none⟩, ⟨none, (some (9, Tryz.t9)), none, none, none, none, none, none⟩, ⟨none, none, none, none, none, (some (21, Tryz.t21)), none, none⟩, ⟨(some (24, Tryz.t24)), none, none, none, none, (some (29, Tryz.t29)), (some (30, Tryz.t30)), none⟩, ⟨none, (some (33, Tryz.t33)), none, none, (some (36, Tryz.t36)), none, none, (some (39, Tryz.t39))⟩, ⟨(some (40, Tryz.t40)), (some (41, Tryz.t41)), (some (42, Tryz.t42)), (some (43, Tryz.t43)), (some (44, Tryz.t44)), (some (45, Tryz.t45)), (some (46, Tryz.t46)), (some (47, Tryz.t47))⟩, ⟨(some (48, Tryz.t48)), (some (49, Tryz.t49)), (some (50, Tryz.t50)), (some (51, Tryz.t51)), (some (52, Tryz.t52)), (some (53, Tryz.t53)), (some (54, Tryz.t54)), (some (55, Tryz.t55))⟩, ⟨(some (56, Tryz.t56)), (some (57, Tryz.t57)), (some (58, Tryz.t58)), (some (59, Tryz.t59)), (some (60, Tryz.t60)), (some (61, Tryz.t61)), (some (62, Tryz.t62)), (some (63, Tryz.t63))⟩⟩, ⟨⟨(some (64, Tryz.t64)), (some (65, Tryz.t65)), (some (66, Tryz.t66)), (some (67, Tryz.t67)), (some (68, Tryz.t68)), none, none, (some (71, Tryz.t71))⟩, ⟨(some (72, Tryz.t72)), none, none, none, none, (some (77, Tryz.t77)), (some (78, Tryz.t78)), (some (79, Tryz.t79))⟩, ⟨(some (80, Tryz.t80)), (some (81, Tryz.t81)), (some (82, Tryz.t82)), none, none, (some (85, Tryz.t85)), (some (86, Tryz.t86)), none⟩, ⟨none, none, (some (90, Tryz.t90)), none, none, none, (some (94, Tryz.t94)), none⟩, ⟨(some (96, Tryz.t96)), none, none, (some (99, Tryz.t99)), none, (some (101, Tryz.t101)), (some (102, Tryz.t102)), (some (103, Tryz.t103))⟩, ⟨none, none, none, none, none, none, none, (some (111, Tryz.t111))⟩, ⟨none, none, (some (114, Tryz.t114)), (some (115, Tryz.t115)), none, none, none, none⟩, ⟨none, (some (121, Tryz.t121)), (some (122, Tryz.t122)), (some (123, Tryz.t123)), none, none, none, none⟩⟩, ⟨Tz1, ⟨none, none, none, none, (some (140, Tryz.t140)), (some (141, Tryz.t141)), none, none⟩, ⟨none, none, none, none, none, none, (some (150, Tryz.t150)), (some (151, Tryz.t151))⟩, ⟨none, none, none, none, none, none, none, (some (159, Tryz.t159))⟩, ⟨none, (some (161, Tryz.t161)), (some (162, Tryz.t162)), (some (163, Tryz.t163)), (some (164, Tryz.t164)), (some (165, Tryz.t165)), none, none⟩, ⟨none, none, (some (170, Tryz.t170)), none, (some (172, Tryz.t172)), none, none, none⟩, ⟨none, none, none, none, none, none, (some (182, Tryz.t182)), none⟩, Tz1⟩, ⟨Tz1, Tz1, Tz1, ⟨none, none, none, none, (some (220, Tryz.t220)), none, none, none⟩, ⟨none, none, none, (some (227, Tryz.t227)), none, none, none, none⟩, Tz1, Tz1, ⟨none, none, (some (250, Tryz.t250)), none, none, none, none, none⟩⟩, ⟨⟨none, none, none, none, none, none, (some (262, Tryz.t262)), none⟩, ⟨(some (264, Tryz.t264)), none, (some (266, Tryz.t266)), (some (267, Tryz.t267)), none, none, (some (270, Tryz.t270)), none⟩, Tz1, Tz1, Tz1, ⟨none, none, none, none, none, (some (301, Tryz.t301)), none, none⟩, ⟨none, (some (305, Tryz.t305)), none, none, none, none, none, none⟩, Tz1⟩, ⟨⟨none, none, none, none, none, none, none, (some (327, Tryz.t327))⟩, ⟨none, none, (some (330, Tryz.t330)), (some (331, Tryz.t331)), (some (332, Tryz.t332)), none, none, none⟩, ⟨none, none, none, none, none, (some (341, Tryz.t341)), none, none⟩, ⟨(some (344, Tryz.t344)), none, (some (346, Tryz.t346)), (some (347, Tryz.t347)), (some (348, Tryz.t348)), none, none, none⟩, Tz1, ⟨none, none, none, none, none, none, (some (366, Tryz.t366)), none⟩, Tz1, ⟨none, none, (some (378, Tryz.t378)), (some (379, Tryz.t379)), none, none, none, none⟩⟩, ⟨Tz1, Tz1, Tz1, Tz1, ⟨none, none, none, none, none, (some (421, Tryz.t421)), (some (422, Tryz.t422)), none⟩, ⟨none, none, none, none, none, none, (some (430, Tryz.t430)), none⟩, ⟨(some (432, Tryz.t432)), (some (433, Tryz.t433)), none, none, none, none, none, (some (439, Tryz.t439))⟩, ⟨(some (440, Tryz.t440)), (some (441, Tryz.t441)), none, (some (443, Tryz.t443)), none, none, none, none⟩⟩, ⟨⟨none, none, none, (some (451, Tryz.t451)), none, none, none, none⟩, Tz1, Tz1, Tz1, Tz1, ⟨none, none, none, none, (some (492, Tryz.t492)), none, none, none⟩, Tz1, ⟨none, none, none, (some (507, Tryz.t507)), (some (508, Tryz.t508)), none, none, none⟩⟩⟩, ⟨⟨⟨(some (512, Tryz.t512)), none, (some (514, Tryz.t514)), none, none, none, none, none⟩, ⟨none, none, none, none, none, (some (525, Tryz.t525)), none, (some (527, Tryz.t527))⟩, ⟨(some (528, Tryz.t528)), (some (529, Tryz.t529)), none, none, none, none, none, none⟩, Tz1, Tz1, Tz1, ⟨none, none, (some (562, Tryz.t562)), (some (563, Tryz.t563)), none, none, none, none⟩, Tz1⟩, ⟨Tz1, ⟨none, none, none, none, none, (some (589, Tryz.t589)), (some (590, Tryz.t590)), none⟩, ⟨(some (592, Tryz.t592)), (some (593, Tryz.t593)), none, none, none, none, none, none⟩, ⟨none, none, none, none, (some (604, Tryz.t604)), none, (some (606, Tryz.t606)), none⟩, Tz1, ⟨none, none, none, (some (619, Tryz.t619)), (some (620, Tryz.t620)), none, none, none⟩, Tz1, Tz1⟩, Tz2, Tz2, Tz2, Tz2, Tz2, Tz2⟩, Tz3, Tz3, Tz3, Tz3, Tz3, Tz3⟩
noncomputable def T (n : Nat) : Option TypeInfo := leafO n (ng8 (Nat.mod n 8) (ng8 (Nat.mod (Nat.div n 8) 8) (ng8 (Nat.mod (Nat.div n 64) 8) (ng8 (Nat.mod (Nat.div n 512) 8) Tt))))
def N8.All {α : Type} (p : α → Prop) (t : N8 α) : Prop := p t.c0 ∧ p t.c1 ∧ p t.c2 ∧ p t.c3 ∧ p t.c4 ∧ p t.c5 ∧ p t.c6 ∧ p t.c7
theorem N8.All.ng {α : Type} {p : α → Prop} {t : N8 α} (h : N8.All p t) (d : Nat) : p (ng8 (Nat.mod d 8) t) := by
  obtain ⟨h0, h1, h2, h3, h4, h5, h6, h7⟩ := h
  rcases mod8_cases d with e | e | e | e | e | e | e | e <;> rw [e] <;> assumption
def leafP {α : Type} (p : Nat → α → Prop) (o : Option (Nat × α)) : Prop := match o with | some (n, x) => p n x | none => True
theorem leafP.of {α : Type} {p : Nat → α → Prop} {o : Option (Nat × α)} (h : leafP p o) {n : Nat} {x : α} (hx : leafO n o = some x) : p n x := by
  cases o with
  | none => cases hx
  | some q =>
    obtain ⟨m, y⟩ := q
    have hx' : Bool.rec (motive := fun _ => Option α) none (some y) (Nat.beq m n) = some x := hx
    cases hb : Nat.beq m n with
    | false => rw [hb] at hx'; cases hx'
    | true => rw [hb] at hx'; cases hx'; rw [← beq_iff.1 hb]; exact h
theorem allz {α : Type} {p : α → Prop} {x : α} (h : p x) : N8.All p ⟨x, x, x, x, x, x, x, x⟩ := ⟨h, h, h, h, h, h, h, h⟩
theorem infoOf {P : Program} {t : Nat} {i : TypeInfo} (h : P.types[t]? = some i) : P.info? t = some i := by
  unfold Tables.info?
  rw [if_pos (Array.getElem?_eq_some_iff.1 h).1]; exact h
def tP (n : Nat) (i : TypeInfo) : Prop := Tryz.prog.info? n = some i
theorem Tk1 : leafP tP (some (1, Tryz.t1)) := infoOf Tryz.type1
theorem Tk2 : leafP tP (some (2, Tryz.t2)) := infoOf Tryz.type2
theorem Tk3 : leafP tP (some (3, Tryz.t3)) := infoOf Tryz.type3
theorem Tk4 : leafP tP (some (4, Tryz.t4)) := infoOf Tryz.type4
theorem Tk5 : leafP tP (some (5, Tryz.t5)) := infoOf Tryz.type5
theorem Tk9 : leafP tP (some (9, Tryz.t9)) := infoOf Tryz.type9
theorem Tk21 : leafP tP (some (21, Tryz.t21)) := infoOf Tryz.type21
theorem Tk24 : leafP tP (some (24, Tryz.t24)) := infoOf Tryz.type24
theorem Tk29 : leafP tP (some (29, Tryz.t29)) := infoOf Tryz.type29
theorem Tk30 : leafP tP (some (30, Tryz.t30)) := infoOf Tryz.type30
theorem Tk33 : leafP tP (some (33, Tryz.t33)) := infoOf Tryz.type33
theorem Tk36 : leafP tP (some (36, Tryz.t36)) := infoOf Tryz.type36
theorem Tk39 : leafP tP (some (39, Tryz.t39)) := infoOf Tryz.type39
theorem Tk40 : leafP tP (some (40, Tryz.t40)) := infoOf Tryz.type40
theorem Tk41 : leafP tP (some (41, Tryz.t41)) := infoOf Tryz.type41
theorem Tk42 : leafP tP (some (42, Tryz.t42)) := infoOf Tryz.type42
theorem Tk43 : leafP tP (some (43, Tryz.t43)) := infoOf Tryz.type43
theorem Tk44 : leafP tP (some (44, Tryz.t44)) := infoOf Tryz.type44
theorem Tk45 : leafP tP (some (45, Tryz.t45)) := infoOf Tryz.type45
theorem Tk46 : leafP tP (some (46, Tryz.t46)) := infoOf Tryz.type46
theorem Tk47 : leafP tP (some (47, Tryz.t47)) := infoOf Tryz.type47
theorem Tk48 : leafP tP (some (48, Tryz.t48)) := infoOf Tryz.type48
theorem Tk49 : leafP tP (some (49, Tryz.t49)) := infoOf Tryz.type49
theorem Tk50 : leafP tP (some (50, Tryz.t50)) := infoOf Tryz.type50
theorem Tk51 : leafP tP (some (51, Tryz.t51)) := infoOf Tryz.type51
theorem Tk52 : leafP tP (some (52, Tryz.t52)) := infoOf Tryz.type52
theorem Tk53 : leafP tP (some (53, Tryz.t53)) := infoOf Tryz.type53
theorem Tk54 : leafP tP (some (54, Tryz.t54)) := infoOf Tryz.type54
theorem Tk55 : leafP tP (some (55, Tryz.t55)) := infoOf Tryz.type55
theorem Tk56 : leafP tP (some (56, Tryz.t56)) := infoOf Tryz.type56
theorem Tk57 : leafP tP (some (57, Tryz.t57)) := infoOf Tryz.type57
theorem Tk58 : leafP tP (some (58, Tryz.t58)) := infoOf Tryz.type58
theorem Tk59 : leafP tP (some (59, Tryz.t59)) := infoOf Tryz.type59
theorem Tk60 : leafP tP (some (60, Tryz.t60)) := infoOf Tryz.type60
theorem Tk61 : leafP tP (some (61, Tryz.t61)) := infoOf Tryz.type61
theorem Tk62 : leafP tP (some (62, Tryz.t62)) := infoOf Tryz.type62
theorem Tk63 : leafP tP (some (63, Tryz.t63)) := infoOf Tryz.type63
theorem Tk64 : leafP tP (some (64, Tryz.t64)) := infoOf Tryz.type64
theorem Tk65 : leafP tP (some (65, Tryz.t65)) := infoOf Tryz.type65
theorem Tk66 : leafP tP (some (66, Tryz.t66)) := infoOf Tryz.type66
theorem Tk67 : leafP tP (some (67, Tryz.t67)) := infoOf Tryz.type67
theorem Tk68 : leafP tP (some (68, Tryz.t68)) := infoOf Tryz.type68
theorem Tk71 : leafP tP (some (71, Tryz.t71)) := infoOf Tryz.type71
theorem Tk72 : leafP tP (some (72, Tryz.t72)) := infoOf Tryz.type72
theorem Tk77 : leafP tP (some (77, Tryz.t77)) := infoOf Tryz.type77
theorem Tk78 : leafP tP (some (78, Tryz.t78)) := infoOf Tryz.type78
theorem Tk79 : leafP tP (some (79, Tryz.t79)) := infoOf Tryz.type79
theorem Tk80 : leafP tP (some (80, Tryz.t80)) := infoOf Tryz.type80
theorem Tk81 : leafP tP (some (81, Tryz.t81)) := infoOf Tryz.type81
theorem Tk82 : leafP tP (some (82, Tryz.t82)) := infoOf Tryz.type82
theorem Tk85 : leafP tP (some (85, Tryz.t85)) := infoOf Tryz.type85
theorem Tk86 : leafP tP (some (86, Tryz.t86)) := infoOf Tryz.type86
theorem Tk90 : leafP tP (some (90, Tryz.t90)) := infoOf Tryz.type90
theorem Tk94 : leafP tP (some (94, Tryz.t94)) := infoOf Tryz.type94
theorem Tk96 : leafP tP (some (96, Tryz.t96)) := infoOf Tryz.type96
theorem Tk99 : leafP tP (some (99, Tryz.t99)) := infoOf Tryz.type99
theorem Tk101 : leafP tP (some (101, Tryz.t101)) := infoOf Tryz.type101
theorem Tk102 : leafP tP (some (102, Tryz.t102)) := infoOf Tryz.type102
theorem Tk103 : leafP tP (some (103, Tryz.t103)) := infoOf Tryz.type103
theorem Tk111 : leafP tP (some (111, Tryz.t111)) := infoOf Tryz.type111
theorem Tk114 : leafP tP (some (114, Tryz.t114)) := infoOf Tryz.type114
theorem Tk115 : leafP tP (some (115, Tryz.t115)) := infoOf Tryz.type115
theorem Tk121 : leafP tP (some (121, Tryz.t121)) := infoOf Tryz.type121
theorem Tk122 : leafP tP (some (122, Tryz.t122)) := infoOf Tryz.type122
theorem Tk123 : leafP tP (some (123, Tryz.t123)) := infoOf Tryz.type123
theorem Tk140 : leafP tP (some (140, Tryz.t140)) := infoOf Tryz.type140
theorem Tk141 : leafP tP (some (141, Tryz.t141)) := infoOf Tryz.type141
theorem Tk150 : leafP tP (some (150, Tryz.t150)) := infoOf Tryz.type150
theorem Tk151 : leafP tP (some (151, Tryz.t151)) := infoOf Tryz.type151
theorem Tk159 : leafP tP (some (159, Tryz.t159)) := infoOf Tryz.type159
theorem Tk161 : leafP tP (some (161, Tryz.t161)) := infoOf Tryz.type161
theorem Tk162 : leafP tP (some (162, Tryz.t162)) := infoOf Tryz.type162
theorem Tk163 : leafP tP (some (163, Tryz.t163)) := infoOf Tryz.type163
theorem Tk164 : leafP tP (some (164, Tryz.t164)) := infoOf Tryz.type164
theorem Tk165 : leafP tP (some (165, Tryz.t165)) := infoOf Tryz.type165
theorem Tk170 : leafP tP (some (170, Tryz.t170)) := infoOf Tryz.type170
theorem Tk172 : leafP tP (some (172, Tryz.t172)) := infoOf Tryz.type172
theorem Tk182 : leafP tP (some (182, Tryz.t182)) := infoOf Tryz.type182
theorem Tk220 : leafP tP (some (220, Tryz.t220)) := infoOf Tryz.type220
theorem Tk227 : leafP tP (some (227, Tryz.t227)) := infoOf Tryz.type227
theorem Tk250 : leafP tP (some (250, Tryz.t250)) := infoOf Tryz.type250
theorem Tk262 : leafP tP (some (262, Tryz.t262)) := infoOf Tryz.type262
theorem Tk264 : leafP tP (some (264, Tryz.t264)) := infoOf Tryz.type264
theorem Tk266 : leafP tP (some (266, Tryz.t266)) := infoOf Tryz.type266
theorem Tk267 : leafP tP (some (267, Tryz.t267)) := infoOf Tryz.type267
theorem Tk270 : leafP tP (some (270, Tryz.t270)) := infoOf Tryz.type270
theorem Tk301 : leafP tP (some (301, Tryz.t301)) := infoOf Tryz.type301
theorem Tk305 : leafP tP (some (305, Tryz.t305)) := infoOf Tryz.type305
theorem Tk327 : leafP tP (some (327, Tryz.t327)) := infoOf Tryz.type327
theorem Tk330 : leafP tP (some (330, Tryz.t330)) := infoOf Tryz.type330
theorem Tk331 : leafP tP (some (331, Tryz.t331)) := infoOf Tryz.type331
theorem Tk332 : leafP tP (some (332, Tryz.t332)) := infoOf Tryz.type332
theorem Tk341 : leafP tP (some (341, Tryz.t341)) := infoOf Tryz.type341
theorem Tk344 : leafP tP (some (344, Tryz.t344)) := infoOf Tryz.type344
theorem Tk346 : leafP tP (some (346, Tryz.t346)) := infoOf Tryz.type346
theorem Tk347 : leafP tP (some (347, Tryz.t347)) := infoOf Tryz.type347
theorem Tk348 : leafP tP (some (348, Tryz.t348)) := infoOf Tryz.type348
theorem Tk366 : leafP tP (some (366, Tryz.t366)) := infoOf Tryz.type366
theorem Tk378 : leafP tP (some (378, Tryz.t378)) := infoOf Tryz.type378
theorem Tk379 : leafP tP (some (379, Tryz.t379)) := infoOf Tryz.type379
theorem Tk421 : leafP tP (some (421, Tryz.t421)) := infoOf Tryz.type421
theorem Tk422 : leafP tP (some (422, Tryz.t422)) := infoOf Tryz.type422
theorem Tk430 : leafP tP (some (430, Tryz.t430)) := infoOf Tryz.type430
theorem Tk432 : leafP tP (some (432, Tryz.t432)) := infoOf Tryz.type432
theorem Tk433 : leafP tP (some (433, Tryz.t433)) := infoOf Tryz.type433
theorem Tk439 : leafP tP (some (439, Tryz.t439)) := infoOf Tryz.type439
theorem Tk440 : leafP tP (some (440, Tryz.t440)) := infoOf Tryz.type440
theorem Tk441 : leafP tP (some (441, Tryz.t441)) := infoOf Tryz.type441
theorem Tk443 : leafP tP (some (443, Tryz.t443)) := infoOf Tryz.type443
theorem Tk451 : leafP tP (some (451, Tryz.t451)) := infoOf Tryz.type451
theorem Tk492 : leafP tP (some (492, Tryz.t492)) := infoOf Tryz.type492
theorem Tk507 : leafP tP (some (507, Tryz.t507)) := infoOf Tryz.type507
theorem Tk508 : leafP tP (some (508, Tryz.t508)) := infoOf Tryz.type508
theorem Tk512 : leafP tP (some (512, Tryz.t512)) := infoOf Tryz.type512
theorem Tk514 : leafP tP (some (514, Tryz.t514)) := infoOf Tryz.type514
theorem Tk525 : leafP tP (some (525, Tryz.t525)) := infoOf Tryz.type525
theorem Tk527 : leafP tP (some (527, Tryz.t527)) := infoOf Tryz.type527
theorem Tk528 : leafP tP (some (528, Tryz.t528)) := infoOf Tryz.type528
theorem Tk529 : leafP tP (some (529, Tryz.t529)) := infoOf Tryz.type529
theorem Tk562 : leafP tP (some (562, Tryz.t562)) := infoOf Tryz.type562
theorem Tk563 : leafP tP (some (563, Tryz.t563)) := infoOf Tryz.type563
theorem Tk589 : leafP tP (some (589, Tryz.t589)) := infoOf Tryz.type589
theorem Tk590 : leafP tP (some (590, Tryz.t590)) := infoOf Tryz.type590
theorem Tk592 : leafP tP (some (592, Tryz.t592)) := infoOf Tryz.type592
theorem Tk593 : leafP tP (some (593, Tryz.t593)) := infoOf Tryz.type593
theorem Tk604 : leafP tP (some (604, Tryz.t604)) := infoOf Tryz.type604
theorem Tk606 : leafP tP (some (606, Tryz.t606)) := infoOf Tryz.type606
theorem Tk619 : leafP tP (some (619, Tryz.t619)) := infoOf Tryz.type619
theorem Tk620 : leafP tP (some (620, Tryz.t620)) := infoOf Tryz.type620
theorem Tkz1 : N8.All (leafP tP) Tz1 := allz trivial
theorem Tkz2 : N8.All (N8.All (leafP tP)) Tz2 := allz Tkz1
theorem Tkz3 : N8.All (N8.All (N8.All (leafP tP))) Tz3 := allz Tkz2
theorem Tkz4 : N8.All (N8.All (N8.All (N8.All (leafP tP)))) Tz4 := allz Tkz3
theorem Tall : N8.All (N8.All (N8.All (N8.All (leafP tP)))) Tt := ⟨⟨⟨⟨trivial, Tk1, Tk2, Tk3, Tk4, Tk5, trivial, trivial⟩, ⟨trivial, Tk9, trivial, trivial, trivial, trivial, trivial, trivial⟩, ⟨trivial, trivial, trivial, trivial, trivial, Tk21, trivial, trivial⟩, ⟨Tk24, trivial, trivial, trivial, trivial, Tk29, Tk30, trivial⟩, ⟨trivial, Tk33, trivial, trivial, Tk36, trivial, trivial, Tk39⟩, ⟨Tk40, Tk41, Tk42, Tk43, Tk44, Tk45, Tk46, Tk47⟩, ⟨Tk48, Tk49, Tk50, Tk51, Tk52, Tk53, Tk54, Tk55⟩, ⟨Tk56, Tk57, Tk58, Tk59, Tk60, Tk61, Tk62, Tk63⟩⟩, ⟨⟨Tk64, Tk65, Tk66, Tk67, Tk68, trivial, trivial, Tk71⟩, ⟨Tk72, trivial, trivial, trivial, trivial, Tk77, Tk78, Tk79⟩, ⟨Tk80, Tk81, Tk82, trivial, trivial, Tk85, Tk86, trivial⟩, ⟨trivial, trivial, Tk90, trivial, trivial, trivial, Tk94, trivial⟩, ⟨Tk96, trivial, trivial, Tk99, trivial, Tk101, Tk102, Tk103⟩, ⟨trivial, trivial, trivial, trivial, trivial, trivial, trivial, Tk111⟩, ⟨trivial, trivial, Tk114, Tk115, trivial, trivial, trivial, trivial⟩, ⟨trivial, Tk121, Tk122, Tk123, trivial, trivial, trivial, trivial⟩⟩, ⟨Tkz1, ⟨trivial, trivial, trivial, trivial, Tk140, Tk141, trivial, trivial⟩, ⟨trivial, trivial, trivial, trivial, trivial, trivial, Tk150, Tk151⟩, ⟨trivial, trivial, trivial, trivial, trivial, trivial, trivial, Tk159⟩, ⟨trivial, Tk161, Tk162, Tk163, Tk164, Tk165, trivial, trivial⟩, ⟨trivial, trivial, Tk170, trivial, Tk172, trivial, trivial, trivial⟩, ⟨trivial, trivial, trivial, trivial, trivial, trivial, Tk182, trivial⟩, Tkz1⟩, ⟨Tkz1, Tkz1, Tkz1, ⟨trivial, trivial, trivial, trivial, Tk220, trivial, trivial, trivial⟩, ⟨trivial, trivial, trivial, Tk227, trivial, trivial, trivial, trivial⟩, Tkz1, Tkz1, ⟨trivial, trivial, Tk250, trivial, trivial, trivial, trivial, trivial⟩⟩, ⟨⟨trivial, trivial, trivial, trivial, trivial, trivial, Tk262, trivial⟩, ⟨Tk264, trivial, Tk266, Tk267, trivial, trivial, Tk270, trivial⟩, Tkz1, Tkz1, Tkz1, ⟨trivial, trivial, trivial, trivial, trivial, Tk301, trivial, trivial⟩, ⟨trivial, Tk305, trivial, trivial, trivial, trivial, trivial, trivial⟩, Tkz1⟩, ⟨⟨trivial, trivial, trivial, trivial, trivial, trivial, trivial, Tk327⟩, ⟨trivial, trivial, Tk330, Tk331, Tk332, trivial, trivial, trivial⟩, ⟨trivial, trivial, trivial, trivial, trivial, Tk341, trivial, trivial⟩, ⟨Tk344, trivial, Tk346, Tk347, Tk348, trivial, trivial, trivial⟩, Tkz1, ⟨trivial, trivial, trivial, trivial, trivial, trivial, Tk366, trivial⟩, Tkz1, ⟨trivial, trivial, Tk378, Tk379, trivial, trivial, trivial, trivial⟩⟩, ⟨Tkz1, Tkz1, Tkz1, Tkz1, ⟨trivial, trivial, trivial, trivial, trivial, Tk421, Tk422, trivial⟩, ⟨trivial, trivial, trivial, trivial, trivial, trivial, Tk430, trivial⟩, ⟨Tk432, Tk433, trivial, trivial, trivial, trivial, trivial, Tk439⟩, ⟨Tk440, Tk441, trivial, Tk443, trivial, trivial, trivial, trivial⟩⟩, ⟨⟨trivial, trivial, trivial, Tk451, trivial, trivial, trivial, trivial⟩, Tkz1, Tkz1, Tkz1, Tkz1, ⟨trivial, trivial, trivial, trivial, Tk492, trivial, trivial, trivial⟩, Tkz1, ⟨trivial, trivial, trivial, Tk507, Tk508, trivial, trivial, trivial⟩⟩⟩, ⟨⟨⟨Tk512, trivial, Tk514, trivial, trivial, trivial, trivial, trivial⟩, ⟨trivial, trivial, trivial, trivial, trivial, Tk525, trivial, Tk527⟩, ⟨Tk528, Tk529, trivial, trivial, trivial, trivial, trivial, trivial⟩, Tkz1, Tkz1, Tkz1, ⟨trivial, trivial, Tk562, Tk563, trivial, trivial, trivial, trivial⟩, Tkz1⟩, ⟨Tkz1, ⟨trivial, trivial, trivial, trivial, trivial, Tk589, Tk590, trivial⟩, ⟨Tk592, Tk593, trivial, trivial, trivial, trivial, trivial, trivial⟩, ⟨trivial, trivial, trivial, trivial, Tk604, trivial, Tk606, trivial⟩, Tkz1, ⟨trivial, trivial, trivial, Tk619, Tk620, trivial, trivial, trivial⟩, Tkz1, Tkz1⟩, Tkz2, Tkz2, Tkz2, Tkz2, Tkz2, Tkz2⟩, Tkz3, Tkz3, Tkz3, Tkz3, Tkz3, Tkz3⟩
theorem T_ok : TOk Tryz.prog T := fun t i h => leafP.of ((((Tall.ng _).ng _).ng _).ng _) h
end AM
end
end Go.Proofs.YtejhenloolgmkaaGreatDoor
